/-
  Conditions that the executor computes, written out by a program (vcgen.py).
-/
import Derived.Test.YtoibaecagklkaaaGreatDoorMr
import Derived.Test.YtoibaecagklkaaaGreatDoorMq
import Derived.Test.YtoibaecagklkaaaGreatDoorMo
open Bool renaming and_eq_true->c_,false->u,not_eq_false'->an,not_eq_true'->a!,or_true->c!,true->C
open Decidable renaming decide->F
open Go.IntKind renaming i64->O
open Go.Op renaming bytesLess->T
open Go.Proofs.Tryz renaming f100->bf,f101->d_,f102->bW,f103->b_,f14->b!,f19->cl,f62->ct,f64->cx,prog->J
open Int renaming le_refl->cy,toNat_natCast->W
open List renaming all_eq_false->d!,drop->ax,filter_append->ef,filter_cons->ei,getD_eq_getElem?_getD->c4,getElem?_eq_getElem->ej,getElem?_eq_some_iff->ek,length_append->ay,length_cons->Y,length_nil->en,map_map->ep,mem_range->er,range->Z,take->H
open Nat renaming add->a_,beq->R,blt_eq->eu,le_refl->V,lt_of_le_of_lt->ez,succ_pos->c5,zero_add->X,zero_le->M
open Option renaming none->I,some->K
namespace Go.Proofs.YtoibaecagklkaaaGreatDoor
open Go Sx
variable {z:Bool}{l:List Rw}{c c' d i k m n n':Nat}{f g:Nat->List UInt8}{ty:TypeId}
section
open Go Sx
set_option maxRecDepth 20000
theorem MY (root:List UInt8)(w:Sp)(kk:Option Nat):VC.holds (iG (SD w) 14 b! [.str u root,.agg [.str u w.fr,.str u w.to],.bH 0 1 w.z w.o 0 w.n w.c] [p4 w kk] (uK root w))=((λP0:SV=>((λP1:(yK×List UInt8)->Nd=>((λP2:SB=>((((!(T w.fr w.to||decide (w.fr=w.to)))=C->((eJ root w).isSome=C->∃(u25:Nat),(Af root w).length<=u25/\False)/\((eJ root w).isSome=u->af P0 P0))/\((!(T w.fr w.to||decide (w.fr=w.to)))=u->(F ((w.n:Int)=0)=C->((eJ root w).isSome=C->∃(u24:Nat),(Af root w).length<=u24/\False)/\((eJ root w).isSome=u->af P0 P0))/\(F ((w.n:Int)=0)=u->(F (200<(w.n:Int))=C->((eJ root w).isSome=C->∃(u23:Nat),(Af root w).length<=u23/\False)/\((eJ root w).isSome=u->af P0 P0))/\(F (200<(w.n:Int))=u->(∃(u22:Nat),u22<=w.n/\0=(u22:Int)/\aa (SB.map [] 0) (SB.fmap (aK w.f u22) (aC.int O (cB w.f u22)) I)/\aa (SB.cells [SV.map 3] 1 90) (SB.cells [SV.map 3] 1 90)/\aa (SB.cells (SV.bH 0 1 w.z w.o 0 w.n w.c).cells 1 29) (SB.cells (SV.bH 0 1 w.z w.o 0 w.n w.c).cells 1 29)/\aa P2 P2/\aa (p4 w kk).B (p4 w kk).B/\True)/\∀(u21:Nat),u21<=w.n->(F ((u21:Int)<(w.n:Int))=C->(0<=(u21:Int)/\(u21:Int)<(w.n:Int))/\(w.o=w.o /\0+(u21:Int).toNat<w.n)/\(True/\Qj [w.f (0+(u21:Int).toNat)])/\((!aK w.f u21 (aG (flat [w.f (0+(u21:Int).toNat)])))=C->I6 ((u21:Int)+1)/\∃(u20:Nat),(u20<=w.n/\w.n - u20<w.n - u21)/\(u21:Int)+1=(u20:Int)/\aa (SB.fmap (dN (aK w.f u21) (aG (flat [w.f (0+(u21:Int).toNat)]))) (aC.int O (fK (cB w.f u21) (aG (flat [w.f (0+(u21:Int).toNat)])) (u21:Int))) I) (SB.fmap (aK w.f u20) (aC.int O (cB w.f u20)) I)/\aa (SB.cells [SV.map 3] 1 90) (SB.cells [SV.map 3] 1 90)/\aa (SB.cells (SV.bH 0 1 w.z w.o 0 w.n w.c).cells 1 29) (SB.cells (SV.bH 0 1 w.z w.o 0 w.n w.c).cells 1 29)/\aa P2 P2/\aa (p4 w kk).B (p4 w kk).B/\True)/\((!aK w.f u21 (aG (flat [w.f (0+(u21:Int).toNat)])))=u->I6 ((u21:Int)+1)/\∃(u19:Nat),(u19<=w.n/\w.n - u19<w.n - u21)/\(u21:Int)+1=(u19:Int) /\aa (SB.fmap (aK w.f u21) (aC.int O (cB w.f u21)) I) (SB.fmap (aK w.f u19) (aC.int O (cB w.f u19)) I)/\aa (SB.cells [SV.map 3] 1 90) (SB.cells [SV.map 3] 1 90)/\aa (SB.cells (SV.bH 0 1 w.z w.o 0 w.n w.c).cells 1 29) (SB.cells (SV.bH 0 1 w.z w.o 0 w.n w.c).cells 1 29)/\aa P2 P2/\aa (p4 w kk).B (p4 w kk).B/\True))/\(F ((u21:Int)<(w.n:Int))=u->((!aK w.f u21 root)=C->((eJ root w).isSome=C->∃(u18:Nat),(Af root w).length<=u18/\False)/\((eJ root w).isSome=u->af P0 P0))/\((!aK w.f u21 root)=u->((!decide (dflt (aK w.f u21 root) (cB w.f u21 root)=0))=C->((eJ root w).isSome=C->∃(u17:Nat),(Af root w).length<=u17/\False)/\((eJ root w).isSome=u->af P0 P0))/\((!decide (dflt (aK w.f u21 root) (cB w.f u21 root)=0))=u->∃(u16:yK×List UInt8),(u16.1.w.Ok/\u16.1.s.Small/\(u16.1.s.ns.length<=u16.1.c1/\u16.1.s.fs.length<=u16.1.c2)/\True)/\(0:Nat)=(0:Nat)/\root=u16.2/\(7:Nat)=(7:Nat)/\w.fr=u16.1.w.fr/\w.to=u16.1.w.to/\(0:Nat)=(0:Nat) /\(0:Nat)=(0:Nat)/\u16.1.s.ns.length=0/\0=(u16.1.s.lk:Int)/\u16.1.s.fs.length=0/\aa (SB.map [] 0) (eU u16.1.s)/\(dU u16.1.s u16.1.c1).no=C/\(dy u16.1.s u16.1.c2).no=C/\(1:Nat)=(1:Nat)/\aa (SB.fmap (aK w.f u21) (aC.int O (cB w.f u21)) I) (SB.fmap u16.1.w.ad (aC.int O u16.1.w.ag) I)/\(1:Nat)=(1:Nat)/\(w.z=u16.1.w.z/\w.o=u16.1.w.o/\(0:Nat)=(0:Nat)/\w.n=u16.1.w.n/\w.c=u16.1.w.c)/\aa (SB.view w.z w.o w.n [ak.str w.f]) (SB.view u16.1.w.z u16.1.w.o u16.1.w.n [ak.str u16.1.w.f])/\(bJ u16.1.w u16.2=C->∀(u15:Nat×Nat),(if u16.1.s.used u16.2=0 then u16.1.s.ns++[u16.1.w.at u16.2] else u16.1.s.ns).length<=u15.1/\u16.1.s.fs.length<=u15.2->∃(u14:yK×Nd×List UInt8),(u14.1.w.Ok/\u14.1.s.Small/\(u14.1.s.ns.length<=u14.1.c1/\u14.1.s.fs.length<=u14.1.c2)/\u14.1.s.Fit (u14.1.s.lk+1)/\401<=u14.1.s.lk+401/\u14.2.1.lu/\u14.2.2.length<=13*u14.1.s.lk)/\(0:Nat)=(0:Nat)/\(P1 u16).k=u14.2.1.k/\(P1 u16).p=u14.2.1.p /\(P1 u16).v=u14.2.1.v/\(P1 u16).r 0=u14.2.1.r 0/\(P1 u16).r 1=u14.2.1.r 1/\(P1 u16).r 2=u14.2.1.r 2/\(P1 u16).r 3=u14.2.1.r 3/\(P1 u16).r 4=u14.2.1.r 4/\(P1 u16).r 5=u14.2.1.r 5/\(P1 u16).r 6=u14.2.1.r 6/\(P1 u16).r 7=u14.2.1.r 7/\(P1 u16).r 8=u14.2.1.r 8/\(P1 u16).r 9=u14.2.1.r 9/\(P1 u16).r 10=u14.2.1.r 10/\(P1 u16).r 11=u14.2.1.r 11/\(P1 u16).r 12=u14.2.1.r 12/\(P1 u16).r 13=u14.2.1.r 13/\(P1 u16).r 14=u14.2.1.r 14/\(P1 u16).r 15=u14.2.1.r 15/\[]=u14.2.2/\(7:Nat)=(7:Nat)/\u16.1.w.fr=u14.1.w.fr/\u16.1.w.to=u14.1.w.to/\(0:Nat)=(0:Nat)/\(0:Nat)=(0:Nat)/\((0:Nat)=(0:Nat)/\(if u16.1.s.used u16.2=0 then u16.1.s.ns++[u16.1.w.at u16.2] else u16.1.s.ns).length=u14.1.s.ns.length/\u15.1=u14.1.c1)/\True/\(u16.1.s.lk:Int)=(u14.1.s.lk:Int)/\((0:Nat)=(0:Nat)/\u16.1.s.fs.length=u14.1.s.fs.length/\u15.2=u14.1.c2)/\True/\aa (SB.fmap (dN u16.1.s.ud u16.2) (aC.int O (fK u16.1.s.us u16.2 (u16.1.s.used u16.2+1))) I) (eU u14.1.s) /\aa (SB.rows C (if u16.1.s.used u16.2=0 then u16.1.s.ns++[u16.1.w.at u16.2] else u16.1.s.ns).length [ak.str λu13=>(if u16.1.s.used u16.2=0 then u16.1.s.ns++[u16.1.w.at u16.2] else u16.1.s.ns).getD u13 []] u (u15.1*1) 9) (dU u14.1.s u14.1.c1)/\aa (SB.rows C u16.1.s.fs.length [ak.str λu12=>(u16.1.s.fs.getD u12 ([],[])).1,ak.str λu11=>(u16.1.s.fs.getD u11 ([],[])).2] u (u15.2*2) 50) (dy u14.1.s u14.1.c2)/\(1:Nat)=(1:Nat)/\aa (SB.fmap u16.1.w.ad (aC.int O u16.1.w.ag) I) (SB.fmap u14.1.w.ad (aC.int O u14.1.w.ag) I)/\(1:Nat)=(1:Nat)/\(u16.1.w.z=u14.1.w.z/\u16.1.w.o=u14.1.w.o/\(0:Nat)=(0:Nat)/\u16.1.w.n=u14.1.w.n/\u16.1.w.c=u14.1.w.c)/\aa (SB.view w.z w.o w.n [ak.str w.f]) (SB.view u14.1.w.z u14.1.w.o u14.1.w.n [ak.str u14.1.w.f])/\(dj u14.1.w 401 u14.1.s u14.2.1 u14.2.2=C->∀(u10:Nat×Nat),(bz u14.1.w 401 u14.1.s u14.2.1 u14.2.2).ns.length<=u10.1 /\(bz u14.1.w 401 u14.1.s u14.2.1 u14.2.2).fs.length<=u10.2->(((C=C/\0+(bz u14.1.w 401 u14.1.s u14.2.1 u14.2.2).ns.length<=(bz u14.1.w 401 u14.1.s u14.2.1 u14.2.2).ns.length)/\(u14.1.w.z=w.z/\w.o=u14.1.w.o/\0+u14.1.w.n<=w.n)/\True)/\(bz u14.1.w 401 u14.1.s u14.2.1 u14.2.2).ns.length<9223372036854775808)/\((!e8 (bz u14.1.w 401 u14.1.s u14.2.1 u14.2.2).ns.length (fun(u9:Nat)=>(bz u14.1.w 401 u14.1.s u14.2.1 u14.2.2).ns.getD u9 []) u14.1.w.n w.f)=C->((eJ root w).isSome=C->∃(u8:Nat),(Af root w).length<=u8/\False)/\((eJ root w).isSome=u->af P0 P0))/\((!e8 (bz u14.1.w 401 u14.1.s u14.2.1 u14.2.2).ns.length (fun(u7:Nat)=>(bz u14.1.w 401 u14.1.s u14.2.1 u14.2.2).ns.getD u7 []) u14.1.w.n w.f)=u->((eJ root w).isSome=C->∃(u6:Nat),(Af root w).length<=u6 /\aa (SB.rows C (bz u14.1.w 401 u14.1.s u14.2.1 u14.2.2).fs.length [ak.str λu5=>((bz u14.1.w 401 u14.1.s u14.2.1 u14.2.2).fs.getD u5 ([],[])).1,ak.str λu4=>((bz u14.1.w 401 u14.1.s u14.2.1 u14.2.2).fs.getD u4 ([],[])).2] u (u10.2*2) 50) (SB.rows C (Af root w).length [bY (Af root w),bZ (Af root w)] u (u6*2) 50)/\af (SV.aO [SV.bx 29 2 C 0 (bz u14.1.w 401 u14.1.s u14.2.1 u14.2.2).fs.length u10.2,SV.int .i64 C 0]) (SV.aO [SV.bx 29 2 C 0 (Af root w).length u6,SV.int .i64 C 0]))/\((eJ root w).isSome=u->af (SV.aO [SV.bx 29 2 C 0 (bz u14.1.w 401 u14.1.s u14.2.1 u14.2.2).fs.length u10.2,SV.int .i64 C 0]) P0)))/\(dj u14.1.w 401 u14.1.s u14.2.1 u14.2.2=u->∀(_:List UInt8×List UInt8),((eJ root w).isSome=C->∃(u2:Nat),(Af root w).length<=u2/\False)/\((eJ root w).isSome=u->af P0 P0)))/\(bJ u16.1.w u16.2=u->∀(_:List UInt8×List UInt8),((eJ root w).isSome=C->∃(u0:Nat),(Af root w).length<=u0/\False) /\((eJ root w).isSome=u->af P0 P0))))))))))) (SB.cells (SV.agg [SV.str u w.fr,SV.str u w.to]).cells 2 28))) (fun(u16:yK×List UInt8)=>(getD (u16.1.w.at u16.2))))) (SV.aO [SV.aP,SV.int .i64 C 10])):=by kernel_rfl
structure Sp.oN (w:Sp):Prop where
 f: ∀ i,i<w.n->(w.f i).length<=1000
 fr:w.fr.length<=1000
 to:w.to.length<=1000
theorem DE (f:Nat->List UInt8): ∀ {n:Nat} {h:List UInt8},aK f n h=u->cB f n h=0
 | 0,_,_=>rfl
 | n+1,h,e=>by unfold aK at e;simp only[Bool.or_eq_false_iff] at e;unfold cB;rw[e.1,e.2];rfl
theorem mZ (f:Nat->List UInt8)(n:Nat)(t:List UInt8):cB f (n+1) t=bif aK f n t then cB f n t else(bif F (t=aG (f n))then(n:Int)else 0):=rfl
theorem DF (h:aK f n (aG (f n))=u):(∀ t,dN (aK f n) (aG (f n)) t=aK f (n+1) t)/\(∀ t,fK (cB f n) (aG (f n)) n t=cB f (n+1) t):=by
 refine⟨λt=>rfl,λt=> ?_⟩;rw[mZ];unfold fK;by_cases e:t=aG (f n)
 ·subst e;rw[h];simp
 ·rw[decide_eq_false e];cases hd:aK f n t with
  | true=>rfl
  | false=>exact DE f hd
theorem rZ (h:aK f n (aG (f n))=C):(∀ t,aK f n t=aK f (n+1) t)/\(∀ t,cB f n t=cB f (n+1) t):=by
 refine⟨λt=> ?_,λt=> ?_⟩
 ·show _=(aK f n t||decide (t=aG (f n)))
  by_cases e:t=aG (f n)
  ·subst e;rw[h];rfl
  ·rw[decide_eq_false e,Bool.or_false]
 ·rw[mZ];cases hd:aK f n t with
  | true=>rfl
  | false =>
    by_cases e:t=aG (f n)
    ·subst e;rw[h] at hd;cases hd
    ·rw[decide_eq_false e];exact DE f hd
theorem EN (w:Sp)(t:List UInt8):(Wk.start.take w t).Fit 1:=Wk.Fit.take (k:=0) ⟨λ_=>⟨cy _,cy _⟩,V _,V _,M _⟩ w t
theorem ac1 {b:Bool}(h:(!b)=C):b=false:=by cases b<;>simp_all
theorem ac2 {b:Bool}(h:(!b)=u):b=true:=by cases b<;>simp_all
section
attribute [local irreducible] aG aY getD aK cB hasB k8 aj kZ dj bz e8
set_option maxHeartbeats 1000000 in
theorem JO {w:Sp}(hw:w.oN)(root:List UInt8)(kk:Option Nat) :
  az (iG (SD w) 14 b! [.str u root,.agg [.str u w.fr,.str u w.to],.bH 0 1 w.z w.o 0 w.n w.c] [p4 w kk] (uK root w)):=by
 refine az.of_eq (MY root w kk) ?_;dsimp only;have S: ∀ v:SV,af v v:=λ_ _=>rfl
 have eR:eJ root w=bif sy w.fr w.to&&(F (0<w.n)&&(F (w.n<=200)&&F (aG (w.f 0)=root)))then(match mK root w.full with
  | some s=>bif e8 s.ns.length (λi=>s.ns.getD i []) w.n w.f then K s.fs else I
  | none=>I)else none:=rfl
 have bad:eJ root w=I->∀ {A B:Prop},B->((eJ root w).isSome=C->A)/\((eJ root w).isSome=u->B):=λh A B b=>by rw[h];exact⟨(λh=>by cases h),λ_=>b⟩
 refine⟨λh=>bad (by rw[eR,show sy w.fr w.to=u by simpa [sy] using h];rfl) (S _),λhle=>⟨λh0=>bad (by rw[eR,show F (0<w.n)=u from decide_eq_false (by have:=of_decide_eq_true h0;omega)];simp) (S _),λh0=>⟨λh2=>bad (by rw[eR,show F (w.n<=200)=u from decide_eq_false (by have:=of_decide_eq_true h2;omega)];simp) (S _),λh2=> ?_⟩⟩⟩
 have hle:sy w.fr w.to=true:=by unfold sy;simpa only[an] using hle
 have h0:0<w.n:=by have:=of_decide_eq_false h0;omega
 have h2:w.n<=200:=by have:=of_decide_eq_false h2;omega
 refine⟨⟨0,M _,rfl,aa.DK λs=>by unfold aK;rfl,aa.refl _,aa.refl _,aa.refl _,aa.refl _,trivial⟩,λx hx=>⟨λhlt=> ?_,λhge=> ?_⟩⟩
 ·have hlt:x<w.n:=by have:=of_decide_eq_true hlt;omega
  have hf:=hw.f x hlt;simp only[-eq_self,n5,W,X];refine⟨⟨by omega,by omega⟩,⟨rfl,hlt⟩,⟨trivial,by rw[n5];omega,by simp⟩,λhd=>⟨⟨by omega,by omega⟩,x+1,⟨hlt,by omega⟩,by omega,?_⟩,λhd=>⟨⟨by omega,by omega⟩,x+1,⟨hlt,by omega⟩,by omega,?_⟩⟩
  ·have hd:aK w.f x (aG (w.f x))=false:=by simpa using hd
   exact⟨aa.fmap (DF hd).1 λt=>congrArg (Value.int .i64) ((DF hd).2 t),aa.refl _,aa.refl _,aa.refl _,aa.refl _,trivial⟩
  ·have hd:aK w.f x (aG (w.f x))=true:=by simpa using hd
   exact⟨aa.fmap (rZ hd).1 λt=>congrArg (Value.int .i64) ((rZ hd).2 t),aa.refl _,aa.refl _,aa.refl _,aa.refl _,trivial⟩
 ·have hx:x=w.n:=by have:=of_decide_eq_false hge;omega
  subst hx;have noroot: ¬ (aK w.f w.n root=C/\cB w.f w.n root=0)->eJ root w=none:=λh=>by have: ¬ aG (w.f 0)=root:=λe=>h (AS.2 ⟨h0,e⟩);rw[eR,decide_eq_false this];simp
  refine⟨λhr=>bad (noroot λh=>by rw[h.1] at hr;cases hr) (S _),λhr=> ?_⟩;have hr:aK w.f w.n root=true:=by simpa using hr
  refine⟨λhz=>bad (noroot λh=>by rw[h.1,h.2] at hz;cases hz) (S _),λhz=> ?_⟩;have hz:cB w.f w.n root=0:=by rw[hr] at hz;exact YM (p:=cB w.f w.n root=0) hz
  have hroot:aG (w.f 0)=root:=(AS.1 ⟨hr,hz⟩).2
  have eR:eJ root w=(match mK root w.full with
   | some s=>bif e8 s.ns.length (λi=>s.ns.getD i []) w.n w.f then K s.fs else I
   | none=>I):=by rw[eR,hle,decide_eq_true h0,decide_eq_true h2,decide_eq_true hroot];rfl
  have hok:w.full.Ok:=⟨h2,hw.f,λh e=>by obtain⟨g1,g2,_⟩:=gT w.f w.n h e;exact⟨g1,g2⟩,hw.fr,hw.to⟩
  refine⟨(⟨w.full,Wk.start,0,0⟩,root),⟨hok,⟨λ_=>⟨cy _,show(0:Int)<=1000 by decide⟩,M _,M _,M _⟩,⟨V _,V _⟩,trivial⟩,?_⟩;dsimp only;refine⟨rfl,rfl,rfl,rfl,rfl,rfl,rfl,rfl,rfl,rfl,aa.DK λ_=>rfl,rfl,rfl,rfl,aa.refl _,rfl,⟨rfl,rfl,rfl,rfl,rfl⟩,aa.refl _,λhL c hc=> ?_,λhL c=>bad (by rw[eR,mK,hL];rfl) (S _)⟩;have hg:aY (w.full.at root)=true:=by simp only[bJ,c_] at hL;exact hL.2
  have hfit:=EN w.full root;have eW:mK root w.full=kZ w.full 401 (Wk.start.take w.full root) (getD (w.full.at root)) []:=by rw[mK,hL];rfl
  refine⟨(⟨w.full,Wk.start.take w.full root,c.1,c.2⟩,getD (w.full.at root),[]),⟨hok,hfit.small (by decide),hc,hfit,(by show 401<=0+401;decide),gi (lP hg),M _⟩,?_⟩;dsimp only
  repeat' first
   | exact aa.refl _
   | refine And.intro ?_ ?_
   | rfl
   | exact trivial
   | fail
  ·intro hB e he;have hs:=GZ hB;have k1:=(Ai w.full 401 _ _ _ _ hfit hs).1;generalize bz w.full 401 (Wk.start.take w.full root) (getD (w.full.at root)) []=s' at hs k1 he ⊢;have eR:eJ root w=bif e8 s'.ns.length (λi=>s'.ns.getD i []) w.n w.f then K s'.fs else none:=by rw[eR,eW,hs]
   have hns:=k1.ns;have hlk:=k1.lk;refine⟨⟨⟨⟨rfl,by omega⟩,⟨rfl,rfl,by show 0+w.n<=w.n;omega⟩,trivial⟩,by omega⟩,λhq=>bad (by rw[eR,show e8 s'.ns.length (λi=>s'.ns.getD i []) w.n w.f=u from ac1 hq];rfl) (S _),λhq=> ?_⟩
   have hq:e8 s'.ns.length (λi=>s'.ns.getD i []) w.n w.f=true:=ac2 hq;have eR:eJ root w=K s'.fs:=by rw[eR,hq];rfl
   have eL:Af root w=s'.fs:=by unfold Af;rw[eR]
   rw[eR,eL];exact⟨λ_=>⟨e.2,he.2,aa.refl _,S _⟩,(λh=>by cases h)⟩
  ·exact λhB c=>bad (by rw[eR,eW,yu hB]) (S _)
end
def JJ:List tq:=[.of .one,.agg [.one,.one],.of (.slice [.str λ_=>[]])]
def Vp (vs:List SV)(l:List Seen):Option (List UInt8×Sp×Option Nat):=match vs,l with
 | [.str u root,.agg [.str u fr,.str u to],_],[⟨kk,z,o,n,c,[.str f]⟩]=>K (root,⟨fr,to,n,f,z,o,c,λ_=>u,λ_=>0⟩,kk)
 | _,_=>I
theorem Ye {vs:List SV}{l:List Seen}{root:List UInt8}{w:Sp}{kk:Option Nat}(h:Vp vs l=K (root,w,kk)):filled JJ vs l=[.str u root,.agg [.str u w.fr,.str u w.to],.bH 0 1 w.z w.o 0 w.n w.c]/\l=[p4 w kk]:=by
 unfold Vp at h;split at h
 ·injection h with h;injection h with h1 h;injection h with h2 h3;subst h1;subst h2;subst h3;exact⟨rfl,rfl⟩
 ·cases h
def sR (vs:List SV)(l:List Seen):Option (Prop×cO):=match Vp vs l with
 | some (root,w,_)=>K (w.oN,uK root w)
 | none=>I
theorem Yb (l:List (List UInt8×List UInt8))(c:Nat):(cO.req (l.length<=c) (.new (λk=>.aO [.bx k 2 C 0 l.length c,.int .i64 C 0]) (.rows C l.length [bY l,bZ l] u (c*2) 50))).Ok:=by
 refine⟨rfl,rfl,λk=>by simp[SV.wf,SV.fO,eu],λE E' k k' h=> ?_⟩;simp only[SV.val,SV.vals];cases l with
 | nil=>rfl
 | cons a r=>rw[h (SB.iN (i:=0) (c5 _))]
theorem QN (root:List UInt8)(w:Sp):(uK root w).Ok:=by
 intro b;cases b with
 | false=>rfl
 | true=>intro c;exact Yb (Af root w) c
theorem JP:av J 14 (bS JJ sR):=by
 refine gp (n:=20) (fn:=b!) Tryz.func14 (by kernel_rfl) (by kernel_rfl) ?_;intro vs l q a h hq;unfold sR at h;split at h
 ·rename_i root w kk hx;injection h with h;injection h with h1 h2;subst h1;subst h2;obtain⟨e1,e2⟩:=Ye hx;rw[e1,e2];exact⟨_,aaH w,rfl,QN root w,JO hq root kk⟩
 ·cases h
end
section
open Go Sx
set_option maxRecDepth 20000
theorem Bw: ∀ {a b c:List UInt8},T a b=C->T b c=C->T a c=C
 | [],[],_,h,_=>by cases h
 | _::_,[],_,h,_=>by cases h
 | _,_::_,[],_,h=>by cases h
 | [],_::_,_::_,_,_=>rfl
 | a::p,b::q,c::r,h,h'=>by
   rw[od,Bool.or_eq_true,c_,decide_eq_true_eq,decide_eq_true_eq] at h h' ⊢;rcases h with h | ⟨rfl,h⟩
   ·rcases h' with h' | ⟨rfl,_⟩
    ·exact .inl (UInt8.lt_trans h h')
    ·exact .inl h
   ·rcases h' with h' | ⟨rfl,h'⟩
    ·exact .inl h'
    ·exact .inr ⟨rfl,Bw h h'⟩
structure E8 (l:List (List UInt8×List UInt8)):Prop where
 yb:l.Pairwise λa b=>T a.1 b.1=C
 key: ∀ x,x∈ l->x.1≠[]/\x.1.length<=6
 val: ∀ x,x∈ l->0<x.2.length/\x.2.length<=80
theorem Dz {l:List (List UInt8×List UInt8)}(h:E8 l):bV 13 (rowsOf l):=by
 refine⟨?_,λx hx=> ?_,λx hx b hb=> ?_,λx hx=> ?_⟩
 ·unfold tO rowsOf;rw[List.pairwise_map];exact h.yb.imp sA
 all_goals
  obtain⟨e,he,rfl⟩:=List.mem_map.1 hx
 ·have:=(h.key e he).2;show(aj e.1).length<13;rw[ow];omega
 ·exact mA e.1 b hb
 ·exact h.val e he
theorem y7 (fr to:List UInt8)(l:List (List UInt8×List UInt8)):gx fr to [] (rowsOf l)=aL fr to l:=by
 unfold gx rowsOf aL;rw[List.filter_map,ep];have e:((λr:Rw=>hasB fr to (cat [] r.1))∘ λe:List UInt8×List UInt8=>(aj e.1,e.2))=λe=>hasB fr to (aj e.1):=rfl;rw[e];have: ∀ l:List (List UInt8×List UInt8),l.map ((λr:Rw=>(bl (cat [] r.1),r.2))∘ λe=>(aj e.1,e.2))=l:=λl=>by
  induction l with
  | nil=>rfl
  | cons x r ih =>rw[List.map_cons,ih];show(bl (aj x.1),x.2)::r=x::r;rw[mw]
 exact this _
theorem CQ (m:Nat):aX (bn m [])=true:=by cases m<;>kernel_rfl
def xD (k:List UInt8):Bool:=!decide (k=[])&&F ((k.length:Int)<=6)
def s6 (v:List UInt8):Bool:=!decide (v=[])&&F ((v.length:Int)<=80)
def i6 (f g:Nat->List UInt8)(i:Nat):Bool:=xD (f i)&&(s6 (g i)&&(F (i=0)||T (f (i - 1)) (f i)))
def HM (n:Nat)(f g:Nat->List UInt8):Bool:=(Z n).all (i6 f g)
def cJ (n:Nat)(f g:Nat->List UInt8):Int:=bif HM n f g then(if(40:Int)<(n:Int)then 12 else 0)else 1
def aI (n:Nat)(f g:Nat->List UInt8):List Rw:=(Z n).map λi=>(f i,g i)
def pX (z:Bool)(l:List Rw)(c:Nat)(ro:Bool):SB:=.rows z l.length [bY l,bZ l] ro (c*2) 174
def dE:List ak:=[.str λ_=>[],.str λ_=>[]]
def Ws:List tq:=[.of (.slice dE)]
def gZ (z:Bool)(o c n:Nat)(f g:Nat->List UInt8)(key:Option Nat):Seen:=⟨key,z,o,n,c,[.str f,.str g]⟩
noncomputable def Sd (n:Nat)(f g:Nat->List UInt8):fQ:={cv with cQ:=λf=>aD f fY,bD:=λh=>if h=62 then [(2,always (Ky 7 n (i6 f g)))] else []}
theorem aah (n:Nat)(f g:Nat->List UInt8):Sx.Good J (Sd n f g):=.of bX cZ bw
def tA (f g:Nat->List UInt8)(i:Nat):Bool:=!decide ((20:Int)<((f i).length:Int))&& !decide ((100:Int)<((g i).length:Int))
def o7 (n:Nat)(f g:Nat->List UInt8):Bool:=F ((n:Int)<=45)&&(Z n).all (tA f g)
structure Fb (n:Nat)(t:Nat->Bool)(i:Nat):Prop where
 up:c9 n t i
 le:i<=46
noncomputable def Wz (n:Nat)(t:Nat->Bool):bg :={α:=Nat,pre:=λ_ i=>Fb n t i,kY:=λ_ i=>n - i,fresh:=0,slots:=λ_ i=>[(3,.int .i64 u i)],mem:=λ_ _=>[]}
noncomputable def Sg (n:Nat)(f g:Nat->List UInt8):fQ:={cv with cQ:=λf=>aD f fY,bD:=λh=>if h=19 then [(2,always (Wz n (tA f g)))] else []}
theorem aak (n:Nat)(f g:Nat->List UInt8):Sx.Good J (Sg n f g):=.of bX cZ bw
noncomputable def Na (t1 t2 n:Nat)(f g:Nat->List UInt8):bg :=
 {α:=Nat×Nat,pre:=λ_ x=>x.1<=n/\x.1<=x.2,kY:=λ_ x=>n - x.1,fresh:=1,slots:=λst x=>[(t1,.int .i64 u x.1),(t2,.bx st.nx 2 u 0 x.1 x.2)],
  mem:=λst x=>[(st.nx,.rows u x.1 [.str f,.str g] u (x.2*2) 174)]}
noncomputable def Sz (n:Nat)(f g:Nat->List UInt8):fQ:={cv with cQ:=λf=>aD f fY,bD:=λh=>if h=64 then [(3,always (Na 11 3 n (λi=>aj (f i)) g))] else []}
theorem aaC (n:Nat)(f g:Nat->List UInt8):Sx.Good J (Sz n f g):=.of bX cZ bw
noncomputable def SH (n k:Nat)(f g:Nat->List UInt8):fQ:={cv with cQ:=λf=>aD f fY,bD:=λh=>if h=102 then [(3,always (Na 13 5 n (λi=>(f i).drop k) g))] else []}
theorem aaJ (n k:Nat)(f g:Nat->List UInt8):Sx.Good J (SH n k f g):=.of bX cZ bw
def Ci (l:List Rw):cO:=.all Nat λc=>.req (l.length<=c) (.new (λk=>.bx k 2 u 0 l.length c) (pX u l c u))
def Cn (a b:List UInt8)(i:Nat):Bool:=F (ah a i=ah b i)
noncomputable def Se (a b:List UInt8):fQ:={cv with cQ:=λf=>aD f fY,bD:=λh=>if h=100 then [(3,always (Ky 13 (min a.length b.length) (Cn a b)))] else []}
theorem aai (a b:List UInt8):Sx.Good J (Se a b):=.of bX cZ bw
noncomputable def ZL (i:Nat)(l:List Rw):bg :=
 {α:=Nat×Nat,pre:=λ_ x=>x.1<=l.length/\(bI i (l.take x.1)).length<=x.2,kY:=λ_ x=>l.length - x.1,fresh:=1,slots:=λst x=>[(10,.int .i64 u x.1),(5,.bx st.nx 2 C 0 (bI i (l.take x.1)).length x.2)],
  mem:=λst x=>[(st.nx,pX C (bI i (l.take x.1)) x.2 u)]}
noncomputable def Sf (i:Nat)(l:List Rw):fQ:={cv with cQ:=λf=>aD f fY,bD:=λh=>if h=103 then [(3,always (ZL i l))] else []}
theorem aaj (i:Nat)(l:List Rw):Sx.Good J (Sf i l):=.of bX cZ bw
def SS:gD :=
 {G:=List Rw×Nat×Nat,n:=2,N:=3,pre:=λx=>x.1.length<=1000,args:=λx=>[.bx 0 2 u 0 x.1.length x.2.1,.func (.func 104) [] [.ptr 1 C 0]],
  mem:=λx=>[(0,pX u x.1 x.2.1 C),(1,.cells [.int .i64 u x.2.2] 1 3)],
  uT:=λx=>.all Nat λc=>.req ((bI x.2.2 x.1).length<=c) (.ret (.bx 2 2 C 0 (bI x.2.2 x.1).length c) [(1,.cells [.int .i64 u x.2.2] 1 3),(2,pX C (bI x.2.2 x.1) c u)])}
theorem Yp (n:Nat)(f g:Nat->List UInt8)(z:Bool)(o c:Nat)(key:Option Nat):dA (.n (.s 0 (.n .k .t)) (.n (.s 1 (.n (.s 0 (.n (.s 0 (.n (.s 5 (.n .k .t)) (.s 1 (.n .k .t)))) .t)) .t)) .t)) (iG (Sd n f g) 62 ct [.bH 0 2 z o 0 n c] [gZ z o c n f g key] (.ret (.int .i64 u (cJ n f g)))) (((∃(u3:Nat),c9 n (i6 f g) u3/\0=(u3:Int))/\∀(u2:Nat),c9 n (i6 f g) u2->(F ((u2:Int)<(n:Int))=C->(0<=(u2:Int)/\(u2:Int)<(n:Int))/\(o=o/\0+(u2:Int).toNat<n)/\((!decide (f (0+(u2:Int).toNat)=[]))=C->((!decide ((↑(f (0+(u2:Int).toNat)).length:Int)<=6))=C->af (SV.int .i64 C 1) (SV.int .i64 u (cJ n f g)))/\((!decide ((↑(f (0+(u2:Int).toNat)).length:Int)<=6))=u->((!decide (g (0+(u2:Int).toNat)=[]))=C->((!decide ((↑(g (0+(u2:Int).toNat)).length:Int)<=80))=C->af (SV.int .i64 C 1) (SV.int .i64 u (cJ n f g)))/\((!decide ((↑(g (0+(u2:Int).toNat)).length:Int)<=80))=u->(F (0<(u2:Int))=C->I6 ((u2:Int) - 1)/\(0<=(u2:Int) - 1/\(u2:Int) - 1<(n:Int))/\(o=o/\0+((u2:Int) - 1).toNat<n)/\((!Op.bytesLess (f (0+((u2:Int) - 1).toNat)) (f (0+(u2:Int).toNat)))=C->af (SV.int .i64 C 1) (SV.int .i64 u (cJ n f g)))/\((!Op.bytesLess (f (0+((u2:Int) - 1).toNat)) (f (0+(u2:Int).toNat)))=u ->I6 ((u2:Int)+1)/\∃(u1:Nat),(c9 n (i6 f g) u1/\n - u1<n - u2)/\(u2:Int)+1=(u1:Int)))/\(F (0<(u2:Int))=u->I6 ((u2:Int)+1)/\∃(u0:Nat),(c9 n (i6 f g) u0/\n - u0<n - u2)/\(u2:Int)+1=(u0:Int))))/\((!decide (g (0+(u2:Int).toNat)=[]))=u->af (SV.int .i64 C 1) (SV.int .i64 u (cJ n f g)))))/\((!decide (f (0+(u2:Int).toNat)=[]))=u->af (SV.int .i64 C 1) (SV.int .i64 u (cJ n f g))))/\(F ((u2:Int)<(n:Int))=u->(F (40<(n:Int))=C->af (SV.int .i64 C 12) (SV.int .i64 u (cJ n f g)))/\(F (40<(n:Int))=u->af (SV.int .i64 C 0) (SV.int .i64 u (cJ n f g)))))):=⟨by kernel_rfl,by kernel_rfl⟩
theorem Yr (n:Nat)(f g:Nat->List UInt8)(z:Bool)(o c:Nat)(key:Option Nat):dA (.n (.s 0 (.n .k .t)) (.n (.n (.s 7 (.n .k .t)) .t) .t)) (iG (Sg n f g) 19 cl [.bH 0 2 z o 0 n c] [gZ z o c n f g key] (.ret (.bool u (o7 n f g)))) (((∃(u2:Nat),Fb n (tA f g) u2/\0=(u2:Int))/\∀(u1:Nat),Fb n (tA f g) u1->(F ((u1:Int)<(n:Int))=C->(F ((u1:Int)<=45)=C->(0<=(u1:Int)/\(u1:Int)<(n:Int))/\(o=o/\0+(u1:Int).toNat<n)/\(F (20<(↑(f (0+(u1:Int).toNat)).length:Int))=C->af (SV.bool C u) (SV.bool u (o7 n f g)))/\(F (20<(↑(f (0+(u1:Int).toNat)).length:Int))=u->(0<=(u1:Int)/\(u1:Int)<(n:Int))/\(o=o/\0+(u1:Int).toNat<n)/\(F (100<(↑(g (0+(u1:Int).toNat)).length:Int))=C->af (SV.bool C u) (SV.bool u (o7 n f g)))/\(F (100<(↑(g (0+(u1:Int).toNat)).length:Int))=u->I6 ((u1:Int)+1)/\∃(u0:Nat),(Fb n (tA f g) u0/\n - u0<n - u1)/\(u1:Int)+1=(u0:Int))))/\(F ((u1:Int)<=45)=u->af (SV.bool (u&&C) (F ((n:Int)<=45))) (SV.bool u (o7 n f g))))/\(F ((u1:Int)<(n:Int))=u->af (SV.bool (u&&C) (F ((n:Int)<=45))) (SV.bool u (o7 n f g))))):=⟨by kernel_rfl,by kernel_rfl⟩
theorem abO (n:Nat)(f g:Nat->List UInt8)(z:Bool)(o c:Nat)(key:Option Nat):dA (.s 0 (.n (.s 0 (.n .k (.n (.s 0 .k) (.s 0 (.n .k .t))))) (.n (.s 7 (.n .k (.n (.s 0 .k) (.s 0 (.n .k .t))))) .k))) (iG (Sz n f g) 64 cx [.bH 0 2 z o 0 n c] [gZ z o c n f g key] (Ci (aI n (λi=>aj (f i)) g))) (((0<=(n:Int)/\32*(n:Int)<=140737488355328/\(n:Int)<=9223372036854775807)/\(∃(u14:Nat×Nat),(u14.1<=n/\u14.1<=u14.2)/\0=(u14.1:Int)/\(0=u14.1/\(n:Int).toNat=u14.2)/\aa (SB.cells [] ((n:Int).toNat*2) 174) (SB.rows u u14.1 [ak.str λu13=>aj (f u13),ak.str g] u (u14.2*2) 174))/\∀(u12:Nat×Nat),u12.1<=n/\u12.1<=u12.2->(F ((u12.1:Int)<(n:Int))=C->(0<=(u12.1:Int)/\(u12.1:Int)<(n:Int))/\(o=o/\0+(u12.1:Int).toNat<n)/\(f (0+(u12.1:Int).toNat)).length<1099511627776/\K (SB.cells (aM (SV.agg [SV.str C [],SV.str C []]).cells 0 (SV.agg [ak.at (0+(u12.1:Int).toNat) (ak.str f),ak.at (0+(u12.1:Int).toNat) (ak.str g)]).cells) 2 50)=K (SB.cells (aM (SV.agg [SV.str C [],SV.str C []]).cells 0 (SV.agg [ak.at (0+(u12.1:Int).toNat) (ak.str f),ak.at (0+(u12.1:Int).toNat) (ak.str g)]).cells) 2 50)/\(0+u12.1<=u12.1/\True/\2*(u12.1+1)*32<=(281474976710656:Nat)/\u12.1+1<(9223372036854775808:Nat))/\∀(u11:Nat),u12.1+1<=u11 ->I6 ((u12.1:Int)+1)/\∃(u10:Nat×Nat),((u10.1<=n/\u10.1<=u10.2)/\n - u10.1<n - u12.1)/\(u12.1:Int)+1=(u10.1:Int)/\(u12.1+1=u10.1/\u11=u10.2)/\aa (SB.rows u (u12.1+1) [ak.str λu9=>if u9<u12.1 then aj (f u9)else bT [aj (f (0+(u12.1:Int).toNat))] (u9 - u12.1),ak.str λu8=>if u8<u12.1 then g u8 else bT [g (0+(u12.1:Int).toNat)] (u8 - u12.1)] u (u11*2) 174) (SB.rows u u10.1 [ak.str λu7=>aj (f u7),ak.str g] u (u10.2*2) 174))/\(F ((u12.1:Int)<(n:Int))=u->∃(u6:Nat),(aI n (fun(u5:Nat)=>aj (f u5)) g).length<=u6/\aa (SB.rows u u12.1 [ak.str λu4=>aj (f u4),ak.str g] u (u12.2*2) 174) (SB.rows u (aI n (fun(u3:Nat)=>aj (f u3)) g).length [bY (aI n (fun(u2:Nat)=>aj (f u2)) g),bZ (aI n (fun(u1:Nat)=>aj (f u1)) g)] u (u6*2) 174) /\af (SV.bx ((2:Nat)) 2 u 0 u12.1 u12.2) (SV.bx ((2:Nat)) 2 u 0 (aI n (fun(u0:Nat)=>aj (f u0)) g).length u6)))):=⟨by kernel_rfl,by kernel_rfl⟩
theorem Rp (n k:Nat)(f g:Nat->List UInt8)(z:Bool)(o c:Nat)(key:Option Nat):dA (.s 0 (.n (.s 0 (.n .k (.n (.s 0 .k) (.s 0 (.n .k .t))))) (.n (.s 6 (.n .k (.n (.s 0 .k) (.s 0 (.n .k .t))))) .k))) (iG (SH n k f g) 102 bW [.bH 0 2 z o 0 n c,.int .i64 u k] [gZ z o c n f g key] (Ci (cq k (aI n f g)))) (((0<=(n:Int)/\32*(n:Int)<=140737488355328/\(n:Int)<=9223372036854775807)/\(∃(u9:Nat×Nat),(u9.1<=n/\u9.1<=u9.2)/\0=(u9.1:Int)/\(0=u9.1/\(n:Int).toNat=u9.2)/\aa (SB.cells [] ((n:Int).toNat*2) 174) (SB.rows u u9.1 [ak.str λu8=>ax k (f u8),ak.str g] u (u9.2*2) 174))/\∀(u7:Nat×Nat),u7.1<=n/\u7.1<=u7.2->(F ((u7.1:Int)<(n:Int))=C->(0<=(u7.1:Int)/\(u7.1:Int)<(n:Int))/\(o=o/\0+(u7.1:Int).toNat<n)/\(0<=(k:Int)/\(k:Int)<=(↑(f (0+(u7.1:Int).toNat)).length:Int)/\(↑(f (0+(u7.1:Int).toNat)).length:Int)<=(↑(f (0+(u7.1:Int).toNat)).length:Int))/\(0+u7.1<=u7.1/\True/\2*(u7.1+1)*32<=(281474976710656:Nat)/\u7.1+1<(9223372036854775808:Nat))/\∀(u6:Nat),u7.1+1<=u6->I6 ((u7.1:Int)+1)/\∃(u5:Nat×Nat),((u5.1<=n/\u5.1<=u5.2)/\n - u5.1<n - u7.1)/\(u7.1:Int)+1=(u5.1:Int)/\(u7.1+1=u5.1/\u6=u5.2) /\aa (SB.rows u (u7.1+1) [ak.str λu4=>if u4<u7.1 then ax k (f u4)else bT [bO (f (0+(u7.1:Int).toNat)) (K (Operand.tmp 20)) I (k:Int) (↑(f (0+(u7.1:Int).toNat)).length:Int)] (u4 - u7.1),ak.str λu3=>if u3<u7.1 then g u3 else bT [g (0+(u7.1:Int).toNat)] (u3 - u7.1)] u (u6*2) 174) (SB.rows u u5.1 [ak.str λu2=>ax k (f u2),ak.str g] u (u5.2*2) 174))/\(F ((u7.1:Int)<(n:Int))=u->∃(u1:Nat),(cq k (aI n f g)).length<=u1/\aa (SB.rows u u7.1 [ak.str λu0=>ax k (f u0),ak.str g] u (u7.2*2) 174) (SB.rows u (cq k (aI n f g)).length [bY (cq k (aI n f g)),bZ (cq k (aI n f g))] u (u1*2) 174)/\af (SV.bx ((2:Nat)) 2 u 0 u7.1 u7.2) (SV.bx ((2:Nat)) 2 u 0 (cq k (aI n f g)).length u1)))):=⟨by kernel_rfl,by kernel_rfl⟩
theorem VI (a b:List UInt8):dA .k (gG (Se a b) 100 bf [.str u a,.str u b] (.ret (.int .i64 u (bP a b)))) (((∃(u2:Nat),c9 (min a.length b.length) (Cn a b) u2/\0=(u2:Int))/\∀(u1:Nat),c9 (min a.length b.length) (Cn a b) u1->(F ((u1:Int)<min (a.length:Int) (b.length:Int))=C->(0<=(u1:Int)/\(u1:Int)<(a.length:Int))/\(0<=(u1:Int)/\(u1:Int)<(b.length:Int))/\((!decide (ah a (u1:Int)=ah b (u1:Int)))=C->af (SV.int .i64 u (u1:Int)) (SV.int .i64 u (↑(bP a b):Int)))/\((!decide (ah a (u1:Int)=ah b (u1:Int)))=u->I6 ((u1:Int)+1)/\∃(u0:Nat),(c9 (min a.length b.length) (Cn a b) u0/\min a.length b.length - u0<min a.length b.length - u1)/\(u1:Int)+1=(u0:Int)))/\(F ((u1:Int)<min (a.length:Int) (b.length:Int))=u->af (SV.int .i64 (u&&u) (min (a.length:Int) (b.length:Int))) (SV.int .i64 u (↑(bP a b):Int))))):=⟨by kernel_rfl,by kernel_rfl⟩
theorem n8 {k:IntKind}{l:Bool}{a b:Int}(h:a=b):af (.int k l a) (.int k u b):=λE=>by subst h;rfl
theorem qJ {x:Nat}(hx:x<n)(h:i6 f g x=u):af (.int .i64 C 1) (.int .i64 u (cJ n f g)):=by have:HM n f g=false:=d!.2 ⟨x,er.2 hx,by rw[h];decide⟩;exact n8 (by rw[cJ,this];rfl)
theorem Hw (n:Nat)(hn:n<9223372036854775808)(f g:Nat->List UInt8)(z:Bool)(o c:Nat)(key:Option Nat):az (iG (Sd n f g) 62 ct [.bH 0 2 z o 0 n c] [gZ z o c n f g key] (.ret (.int .i64 u (cJ n f g)))):=by
 refine az.pr (Yp n f g z o c key) ?_;simp only[W,X,true_and,a!,an,decide_eq_true_eq,decide_eq_false_iff_not];refine⟨⟨0,c9.zero _ _,rfl⟩,λx hx=>⟨λh=> ?_,λh=> ?_⟩⟩
 ·have hlt:x<n:=by omega
  refine⟨by omega,hlt,λa1=>⟨λa2=>qJ hlt ?_,λa2=>⟨λa3=>⟨λa4=>qJ hlt ?_,λa4=>⟨λa5=>⟨by omega,by omega,by omega,λa6=>qJ hlt ?_,λa6=>⟨by omega,x+1,⟨hx.next h ?_,by omega⟩,by omega⟩⟩,λa5=>⟨by omega,x+1,⟨hx.next h ?_,by omega⟩,by omega⟩⟩⟩,λa3=>qJ hlt ?_⟩⟩,λa1=>qJ hlt ?_⟩
  ·simp[i6,xD,a2]
  ·simp[i6,s6,a4]
  ·rw[show((x:Int) - 1).toNat=x - 1 by omega] at a6;have:x≠0:=by omega
   simp[i6,a6,this]
  ·rw[show((x:Int) - 1).toNat=x - 1 by omega] at a6;simp[i6,xD,s6,a1,a2,a3,a4,a6]
  ·have:x=0:=by omega
   subst this;simp[i6,xD,s6,a1,a2,a3,a4]
  ·simp[i6,s6,a3]
  ·simp[i6,xD,a1]
 ·have he:HM n f g=true:=hx.done h;exact⟨λh2=>n8 (by rw[cJ,he,cond_true,if_pos h2]),λh2=>n8 (by rw[cJ,he,cond_true,if_neg h2])⟩
theorem HS (n:Nat)(f g:Nat->List UInt8)(z:Bool)(o c:Nat)(key:Option Nat):az (iG (Sg n f g) 19 cl [.bH 0 2 z o 0 n c] [gZ z o c n f g key] (.ret (.bool u (o7 n f g)))):=by
 refine az.pr (Yr n f g z o c key) ?_;simp only[W,X,true_and,decide_eq_true_eq,decide_eq_false_iff_not];have bad: ∀ {x},x<n->tA f g x=u->af (.bool C u) (.bool u (o7 n f g)):=λ{x} hx h=>cX (by have:(Z n).all (tA f g)=false:=d!.2 ⟨x,er.2 hx,by rw[h];decide⟩;rw[o7,this,Bool.and_false])
 refine⟨⟨0,⟨c9.zero _ _,M _⟩,rfl⟩,λx hx=>⟨λh=>⟨λh1=> ?_,λh1=> ?_⟩,λh=> ?_⟩⟩
 ·have hlt:x<n:=by omega
  refine⟨by omega,hlt,λa1=>bad hlt ?_,λa1=>⟨by omega,hlt,λa2=>bad hlt ?_,λa2=>⟨by omega,x+1,⟨⟨hx.up.next h ?_,by omega⟩,by omega⟩,by omega⟩⟩⟩
  ·simp[tA,a1]
  ·simp[tA,a2]
  ·have e1: ¬ (20:Int)<(f x).length:=a1;have e2: ¬ (100:Int)<(g x).length:=a2;rw[tA,decide_eq_false e1,decide_eq_false e2];rfl
 ·refine cX ?_;have: ¬ (n:Int)<=45:=by omega
  rw[o7,decide_eq_false this];rfl
 ·refine cX ?_;rw[o7,hx.up.done h,Bool.and_true]
theorem yU {cs:List ak}{tot tot':Nat}(ht:tot=tot'):aa (.cells [] tot ty) (.rows u 0 cs u tot' ty):=by subst ht;refine aa.of rfl rfl λ_=>⟨rfl,λE o ⟨c,fr,h1,h2,h3,h4⟩=>⟨c,fr,h1,λ_=>h2,by omega,h4,λi k col hi _=>absurd hi (Nat.not_lt_zero _)⟩,id⟩
theorem fh (n:Nat)(f g:Nat->List UInt8):(aI n f g).length=n:=by simp[aI]
theorem BA (h:i<n):(aI n f g).getD i ([],[])=(f i,g i):=by rw[c4,aI,List.getElem?_map,List.getElem?_range h];rfl
theorem Ck (hl:l=aI n f g)(hc:c=c'):aa (.rows z n [.str f,.str g] u (c*2) ty) (.rows z l.length [bY l,bZ l] u (c'*2) ty):=by
 subst hl;subst hc;refine kg (fh n f g).symm rfl rfl λk d d' h1 h2 i hi E=> ?_
 match k,h1,h2 with
 | 0,h1,h2 =>injection h1 with h1;injection h2 with h2;subst h1;subst h2;simp only[bY,ak.at,BA hi]
 | 1,h1,h2 =>injection h1 with h1;injection h2 with h2;subst h1;subst h2;simp only[bZ,ak.at,BA hi]
 | k+2,h1,_=>simp at h1
theorem JA {f' g':Nat->List UInt8}(hn:n=n')(hc:c=c')(hf: ∀ i,i<n->f i=f' i)(hg: ∀ i,i<n->g i=g' i):aa (.rows z n [.str f,.str g] u (c*2) ty) (.rows z n' [.str f',.str g'] u (c'*2) ty):=by
 refine kg hn (by rw[hc]) rfl λk d d' h1 h2 i hi E=> ?_
 match k,h1,h2 with
 | 0,h1,h2 =>injection h1 with h1;injection h2 with h2;subst h1;subst h2;simp only[ak.at,hf i hi]
 | 1,h1,h2 =>injection h1 with h1;injection h2 with h2;subst h1;subst h2;simp only[ak.at,hg i hi]
 | k+2,h1,_=>simp at h1
theorem Ah {α:Type}{j:Nat}(x:Nat->α)(y:Nat->α)(h:j<n+1)(hy:y 0=x n):(if j<n then x j else y (j - n))=x j:=by
 by_cases e:j<n
 ·rw[if_pos e]
 ·have:j=n:=by omega
  subst this;rw[if_neg e,Nat.sub_self,hy]
theorem ye {k' w:Nat}(hk:k=k')(hn:n=n')(hc:c=c'):af (.bx k w z i n c) (.bx k' w z i n' c'):=λE=>by subst hk;subst hn;subst hc;rfl
theorem Mt (n:Nat)(f g:Nat->List UInt8)(hn:n<=1000)(hf: ∀ i,i<n->(f i).length<1099511627776)(z:Bool)(o c:Nat)(key:Option Nat):az (iG (Sz n f g) 64 cx [.bH 0 2 z o 0 n c] [gZ z o c n f g key] (Ci (aI n (λi=>aj (f i)) g))):=by
 refine az.pr (abO n f g z o c key) ?_;simp only[W,X,true_and,decide_eq_true_eq,decide_eq_false_iff_not];refine⟨by omega,⟨(0,n),⟨M _,M _⟩,rfl,⟨rfl,rfl⟩,yU rfl⟩,λx hx=>⟨λh=> ?_,λh=> ?_⟩⟩
 ·have hlt:x.1<n:=by omega
  refine⟨by omega,hlt,hf _ hlt,⟨V _,by omega,by omega⟩,λc hc=>⟨by omega,(x.1+1,c),⟨⟨by show x.1+1<=_;omega,hc⟩,by show _ - (x.1+1)<_;omega⟩,by show(x.1:Int)+1=((x.1+1:Nat):Int);omega,⟨rfl,rfl⟩,JA rfl rfl (λj hj=> ?_) λj hj=> ?_⟩⟩
  ·exact Ah (λj=>aj (f j)) (bT [aj (f x.1)]) hj rfl
  ·exact Ah g (bT [g x.1]) hj rfl
 ·have e:x.1=n:=by have:=hx.1;omega
  exact⟨x.2,by rw[fh];have:=hx.2;omega,by rw[e];exact Ck rfl rfl,ye rfl (by rw[fh,e]) rfl⟩
theorem KY (k n:Nat)(f g:Nat->List UInt8):cq k (aI n f g)=aI n (λi=>(f i).drop k) g:=by unfold cq aI;rw[ep];rfl
theorem Dj (n k:Nat)(f g:Nat->List UInt8)(hn:n<=1000)(hk: ∀ i,i<n->k<=(f i).length)(z:Bool)(o c:Nat)(key:Option Nat):az (iG (SH n k f g) 102 bW [.bH 0 2 z o 0 n c,.int .i64 u k] [gZ z o c n f g key] (Ci (cq k (aI n f g)))):=by
 refine az.pr (Rp n k f g z o c key) ?_;simp only[W,X,true_and,decide_eq_true_eq,decide_eq_false_iff_not];refine⟨by omega,⟨(0,n),⟨M _,M _⟩,rfl,⟨rfl,rfl⟩,yU rfl⟩,λx hx=>⟨λh=> ?_,λh=> ?_⟩⟩
 ·have hlt:x.1<n:=by omega
  have hkl:=hk _ hlt;refine⟨by omega,hlt,⟨by omega,by omega,by omega⟩,⟨V _,by omega,by omega⟩,λc hc=>⟨by omega,(x.1+1,c),⟨⟨by show x.1+1<=_;omega,hc⟩,by show _ - (x.1+1)<_;omega⟩,by show(x.1:Int)+1=((x.1+1:Nat):Int);omega,⟨rfl,rfl⟩,JA rfl rfl (λj hj=> ?_) λj hj=> ?_⟩⟩
  ·refine Ah (λj=>(f j).drop k) (bT _) hj ?_;show bO (f x.1) (K (Operand.tmp 20)) I (k:Int) ((f x.1).length:Int)=_;unfold bO;simp
  ·exact Ah g (bT [g x.1]) hj rfl
 ·have e:x.1=n:=by have:=hx.1;omega
  rw[KY];exact⟨x.2,by rw[fh];have:=hx.2;omega,by rw[e];exact Ck rfl rfl,ye rfl (by rw[fh,e]) rfl⟩
theorem KQ: ∀(a b:List UInt8) (x:Nat),c9 (min a.length b.length) (Cn a b) x->(x<min a.length b.length->ah a (x:Int)≠ah b (x:Int)->bP a b=x)/\(¬ x<min a.length b.length->bP a b=x)
 | [],b,x,h=>⟨λh1 _=>absurd h1 (by simp),λ_=>by
   have:=h.le;rw[en,Nat.zero_min] at this;have:x=0:=by omega
   subst this;cases b<;>rfl⟩
 | a::p,[],x,h=>⟨λh1 _=>absurd h1 (by simp),λ_=>by
   have:=h.le;rw[en,Nat.min_zero] at this;have:x=0:=by omega
   subst this;rfl⟩
 | a::p,b::q,0,h=>⟨λ_ h2=>by have:a≠b:=λe=>h2 (by subst e;rfl);rw[bP,if_neg this],λh1=>by rw[Y,Y] at h1;omega⟩
 | a::p,b::q,x+1,h=>by
   have e0:a=b:=by have:=h.all 0 (c5 x);have:ah (a::p) 0=ah (b::q) 0:=of_decide_eq_true this;have:(a.toNat:Int)=(b.toNat:Int):=this;exact UInt8.toNat_inj.1 (by omega)
   have hm:min (a::p).length (b::q).length=min p.length q.length+1:=by rw[Y,Y];omega
   have h':c9 (min p.length q.length) (Cn p q) x:=⟨by have:=h.le;omega,λj hj=>by have:=h.all (j+1) (by omega);unfold Cn at this ⊢;rw[ck,ck] at this;exact this⟩
   obtain⟨g1,g2⟩:=KQ p q x h';have ec:bP (a::p) (b::q)=bP p q+1:=by rw[bP,if_pos e0]
   rw[ck,ck,ec];exact⟨λh1 h2=>by rw[g1 (by omega) h2],λh1=>by rw[g2 (by omega)]⟩
theorem Fw (a b:List UInt8)(ha:a.length<9223372036854775807):az (gG (Se a b) 100 bf [.str u a,.str u b] (.ret (.int .i64 u (bP a b)))):=by
 refine az.pr (VI a b) ?_;simp only[a!,an,decide_eq_true_eq,decide_eq_false_iff_not];refine⟨⟨0,c9.zero _ _,rfl⟩,λx hx=>⟨λh=> ?_,λh=> ?_⟩⟩
 ·have hlt:x<min a.length b.length:=by omega
  refine⟨⟨by omega,by omega⟩,⟨by omega,by omega⟩,λh1=>n8 ?_,λh1=>⟨by omega,x+1,⟨hx.next (by omega) ?_,by omega⟩,by omega⟩⟩
  ·rw[(KQ a b x hx).1 hlt h1]
  ·exact decide_eq_true h1
 ·have:=(KQ a b x hx).2 (by omega);have hle:=hx.le;exact n8 (by omega)
def tW (args:List SV):Option (Prop×SV):=match args with
 | [.str u a,.str u b]=>K (a.length<9223372036854775807,.int .i64 u (bP a b))
 | _=>I
theorem O8:av J 100 (bh tW):=by
 refine eX (dW (n:=20) (fn:=bf) Tryz.func100 (by kernel_rfl) (by kernel_rfl) ?_);intro args p a h hp;unfold tW at h;split at h
 ·injection h with h;injection h with h1 h2;subst h1;subst h2;exact⟨_,aai _ _,rfl,rfl,Fw _ _ hp⟩
 ·cases h
def xg (vs:List SV)(l:List Seen):Option (Prop×cO):=match vs,l with
 | [_],[⟨_,_,_,n,_,[.str f,.str g]⟩]=>K (n<9223372036854775808,.ret (.int .i64 u (cJ n f g)))
 | _,_=>I
theorem SI:av J 62 (bS Ws xg):=by
 refine gp (n:=20) (fn:=ct) Tryz.func62 (by kernel_rfl) (by kernel_rfl) ?_;intro vs l q a h hq;unfold xg at h;split at h
 ·rename_i v key z o n c f g;injection h with h;injection h with h1 h2;subst h1;subst h2;exact⟨_,aah n f g,rfl,rfl,Hw n hq f g z o c key⟩
 ·cases h
def AQ (vs:List SV)(l:List Seen):Option (Prop×cO):=match vs,l with
 | [_],[⟨_,_,_,n,_,[.str f,.str g]⟩]=>K (True,.ret (.bool u (o7 n f g)))
 | _,_=>I
theorem W5:av J 19 (bS Ws AQ):=by
 refine gp (n:=20) (fn:=cl) Tryz.func19 (by kernel_rfl) (by kernel_rfl) ?_;intro vs l q a h hq;unfold AQ at h;split at h
 ·rename_i v key z o n c f g;injection h with h;injection h with h1 h2;subst h1;subst h2;exact⟨_,aak n f g,rfl,rfl,HS n f g z o c key⟩
 ·cases h
theorem Jy (l:List Rw):(Ci l).Ok:=λ_=>⟨rfl,rfl,λk=>by
 show Nat.blt k (k+1)=C;rw[eu];omega,λE E' k k' h=>by
 show(SV.bx k 2 u 0 l.length _).val E=(SV.bx k' 2 u 0 l.length _).val E';have:=h rfl;simp only[SV.val];rw[this]⟩
def Cj (vs:List SV)(l:List Seen):Option (Prop×cO):=match vs,l with
 | [_],[⟨_,_,_,n,_,[.str f,.str g]⟩]=>K (n<=1000/\∀ i,i<n->(f i).length<1099511627776,Ci (aI n (λi=>aj (f i)) g))
 | _,_=>I
theorem Vf:av J 64 (bS Ws Cj):=by
 refine gp (n:=20) (fn:=cx) Tryz.func64 (by kernel_rfl) (by kernel_rfl) ?_;intro vs l q a h hq;unfold Cj at h;split at h
 ·rename_i v key z o n c f g;injection h with h;injection h with h1 h2;subst h1;subst h2;exact⟨_,aaC n f g,rfl,Jy _,Mt n f g hq.1 hq.2 z o c key⟩
 ·cases h
def acN:List tq:=[.of (.slice dE),.of .one]
def rP (vs:List SV)(l:List Seen):Option (Prop×cO):=match vs,l with
 | [_,.int .i64 u k],[⟨_,_,_,n,_,[.str f,.str g]⟩]=>K (0<=k/\n<=1000/\∀ i,i<n->k.toNat<=(f i).length,Ci (cq k.toNat (aI n f g)))
 | _,_=>I
theorem M1:av J 102 (bS acN rP):=by
 refine gp (n:=20) (fn:=bW) Tryz.func102 (by kernel_rfl) (by kernel_rfl) ?_;intro vs l q a h hq;unfold rP at h;split at h
 ·rename_i v k key z o n c f g;injection h with h;injection h with h1 h2;subst h1;subst h2;have:=Dj n k.toNat f g hq.2.1 hq.2.2 z o c key;rw[Int.toNat_of_nonneg hq.1] at this;exact⟨_,aaJ n k.toNat f g,rfl,Jy _,this⟩
 ·cases h
theorem abE (x:List Rw×Nat×Nat):dA (.n (.s 0 (.n .k (.n .k .t))) (.n (.s 1 (.n (.s 1 (.n (.s 3 (.n .k (.n (.s 0 .k) (.s 0 (.n .k .t))))) (.s 1 (.n .k (.n (.s 0 .k) (.s 0 (.n .k .t))))))) (.s 1 (.n .k (.n (.s 0 .k) (.s 0 (.n .k .t))))))) (.s 0 (.n (.s 0 .k) (.s 1 .k))))) (runM (Sf x.2.2 x.1) 103 b_ SS x) ((λP0:(Nat×Nat)->SB=>(((∃(u8:Nat×Nat),(u8.1<=x.1.length/\(bI x.2.2 (H u8.1 x.1)).length<=u8.2)/\0=(u8.1:Int)/\(bI x.2.2 (H u8.1 x.1)).length=0/\(pX C (bI x.2.2 (H u8.1 x.1)) u8.2 u).no=C)/\∀(u7:Nat×Nat),u7.1<=x.1.length/\(bI x.2.2 (H u7.1 x.1)).length<=u7.2->(F ((u7.1:Int)<(x.1.length:Int))=C->(0<=(u7.1:Int)/\(u7.1:Int)<(x.1.length:Int))/\0+(u7.1:Int).toNat<x.1.length/\((!decide ((x.1.getD (0+(u7.1:Int).toNat) ([],[])).1=[]))=C->((0:Int)<=(0:Int)/\0<(↑(x.1.getD (0+(u7.1:Int).toNat) ([],[])).1.length:Int))/\I6 (ah (x.1.getD (0+(u7.1:Int).toNat) ([],[])).1 0)/\(F (ah (x.1.getD (0+(u7.1:Int).toNat) ([],[])).1 0=(x.2.2:Int))=C->(0+(bI x.2.2 (H u7.1 x.1)).length<=(bI x.2.2 (H u7.1 x.1)).length/\True /\2*((bI x.2.2 (H u7.1 x.1)).length+1)*32<=(281474976710656:Nat)/\(bI x.2.2 (H u7.1 x.1)).length+1<(9223372036854775808:Nat))/\∀(u6:Nat),(bI x.2.2 (H u7.1 x.1)).length+1<=u6->I6 ((u7.1:Int)+1)/\∃(u5:Nat×Nat),((u5.1<=x.1.length/\(bI x.2.2 (H u5.1 x.1)).length<=u5.2)/\x.1.length - u5.1<x.1.length - u7.1)/\(u7.1:Int)+1=(u5.1:Int)/\((bI x.2.2 (H u7.1 x.1)).length+1=(bI x.2.2 (H u5.1 x.1)).length/\u6=u5.2) /\aa (SB.rows C ((bI x.2.2 (H u7.1 x.1)).length+1) [ak.str λu4=>if u4<(bI x.2.2 (H u7.1 x.1)).length then((bI x.2.2 (H u7.1 x.1)).getD u4 ([],[])).1 else bT [(x.1.getD (0+(u7.1:Int).toNat) ([],[])).1] (u4 - (bI x.2.2 (H u7.1 x.1)).length),ak.str λu3=>if u3<(bI x.2.2 (H u7.1 x.1)).length then((bI x.2.2 (H u7.1 x.1)).getD u3 ([],[])).2 else bT [(x.1.getD (0+(u7.1:Int).toNat) ([],[])).2] (u3 - (bI x.2.2 (H u7.1 x.1)).length)] u (u6*2) 174) (SB.rows C (bI x.2.2 (H u5.1 x.1)).length [bY (bI x.2.2 (H u5.1 x.1)),bZ (bI x.2.2 (H u5.1 x.1))] u (u5.2*2) 174))/\(F (ah (x.1.getD (0+(u7.1:Int).toNat) ([],[])).1 0=(x.2.2:Int))=u->I6 ((u7.1:Int)+1)/\∃(u2:Nat×Nat),((u2.1<=x.1.length/\(bI x.2.2 (H u2.1 x.1)).length<=u2.2)/\x.1.length - u2.1<x.1.length - u7.1) /\(u7.1:Int)+1=(u2.1:Int)/\((bI x.2.2 (H u7.1 x.1)).length=(bI x.2.2 (H u2.1 x.1)).length/\u7.2=u2.2)/\aa (P0 u7) (SB.rows C (bI x.2.2 (H u2.1 x.1)).length [bY (bI x.2.2 (H u2.1 x.1)),bZ (bI x.2.2 (H u2.1 x.1))] u (u2.2*2) 174)))/\((!decide ((x.1.getD (0+(u7.1:Int).toNat) ([],[])).1=[]))=u->I6 ((u7.1:Int)+1)/\∃(u1:Nat×Nat),((u1.1<=x.1.length/\(bI x.2.2 (H u1.1 x.1)).length<=u1.2)/\x.1.length - u1.1<x.1.length - u7.1)/\(u7.1:Int)+1=(u1.1:Int)/\((bI x.2.2 (H u7.1 x.1)).length=(bI x.2.2 (H u1.1 x.1)).length/\u7.2=u1.2)/\aa (P0 u7) (SB.rows C (bI x.2.2 (H u1.1 x.1)).length [bY (bI x.2.2 (H u1.1 x.1)),bZ (bI x.2.2 (H u1.1 x.1))] u (u1.2*2) 174)))/\(F ((u7.1:Int)<(x.1.length:Int))=u->∃(u0:Nat),(bI x.2.2 x.1).length<=u0 /\((bI x.2.2 (H u7.1 x.1)).length=(bI x.2.2 x.1).length/\u7.2=u0)/\aa (P0 u7) (SB.rows C (bI x.2.2 x.1).length [bY (bI x.2.2 x.1),bZ (bI x.2.2 x.1)] u (u0*2) 174))))) (fun(u7:Nat×Nat)=>(SB.rows C (bI x.2.2 (H u7.1 x.1)).length [bY (bI x.2.2 (H u7.1 x.1)),bZ (bI x.2.2 (H u7.1 x.1))] u (u7.2*2) 174))):=⟨by kernel_rfl,by kernel_rfl⟩
theorem Ou {r:Rw}:aa (.rows C (l.length+1) [.str λj=>if j<l.length then(l.getD j ([],[])).1 else bT [r.1] (j - l.length),.str λj=>if j<l.length then(l.getD j ([],[])).2 else bT [r.2] (j - l.length)] u (c*2) ty) (.rows C (l++[r]).length [bY (l++[r]),bZ (l++[r])] u (c*2) ty):=by
 refine kg (by simp) rfl rfl λk c c' h1 h2 i hi E=> ?_;have e: ∀(x:Rw->List UInt8),(if i<l.length then x (l.getD i ([],[]))else bT [x r] (i - l.length))=x ((l++[r]).getD i ([],[])):=λx=>by
  rw[rF l r ([],[]) i hi];by_cases h:i<l.length
  ·rw[if_pos h,if_pos h]
  ·rw[if_neg h,if_neg h];have:i - l.length=0:=by omega
   rw[this];rfl
 match k,h1,h2 with
 | 0,h1,h2 =>injection h1 with h1;injection h2 with h2;subst h1;subst h2;simp only[bY,ak.at,SV.val,← e Prod.fst]
 | 1,h1,h2 =>injection h1 with h1;injection h2 with h2;subst h1;subst h2;simp only[bZ,ak.at,SV.val,← e Prod.snd]
 | k+2,h1,_=>simp at h1
theorem yq (hk:k<l.length):l.take (k+1)=l.take k++[l.getD k ([],[])]:=by rw[List.take_add_one,c4,ej hk];rfl
theorem W2 (hk:k<l.length)(h:k7 i (l.getD k ([],[])).1=C):bI i (l.take (k+1))=bI i (l.take k)++[l.getD k ([],[])]:=by rw[yq hk];unfold bI;rw[ef];congr 1;rw[ei,h];rfl
theorem SU (hk:k<l.length)(h:k7 i (l.getD k ([],[])).1=u):bI i (l.take (k+1))=bI i (l.take k):=by rw[yq hk];unfold bI;rw[ef,ei,h];simp
theorem W1 (i:Nat)(l:List Rw)(k:Nat):(bI i (l.take k)).length<=l.length:=by
 have:=List.length_filter_le (λr:Rw=>k7 i r.1) (l.take k);have h2:(l.take k).length<=l.length:=by rw[List.length_take];omega
 unfold bI;omega
theorem Pv {p:List UInt8}(hp: ¬ p=[]):k7 i p=F (ah p 0=(i:Int)):=by
 cases p with
 | nil=>exact absurd rfl hp
 | cons b q =>show F (b.toNat=i)=F ((b.toNat:Int)=(i:Int));exact decide_eq_decide.2 (by omega)
theorem Ot {l':List Rw}(h:l=l')(hc:c=c'):aa (.rows z l.length [bY l,bZ l] u (c*2) ty) (.rows z l'.length [bY l',bZ l'] u (c'*2) ty):=by subst h;subst hc;exact aa.refl _
theorem KT (x:List Rw×Nat×Nat)(hx:x.1.length<=1000):az (runM (Sf x.2.2 x.1) 103 b_ SS x):=by
 refine az.pr (abE x) ?_;obtain⟨l,c0,i⟩:=x;simp only[W,X,true_and,a!,an,decide_eq_true_eq,decide_eq_false_iff_not];have hx:l.length<=1000:=hx;refine⟨⟨(0,0),⟨M _,M _⟩,rfl,rfl,rfl⟩,λx ⟨h1,h2⟩=>⟨λh=> ?_,λh=> ?_⟩⟩
 ·have hlt:x.1<l.length:=by omega
  have hcl:=W1 i l x.1;refine⟨⟨by omega,by omega⟩,hlt,λa=> ?_,λa=> ?_⟩
  ·have hpos:0<(l.getD x.1 ([],[])).1.length:=List.length_pos_iff.2 a;have hb:=Pv (i:=i) a;refine⟨⟨by omega,by omega⟩,?_,λb=>⟨⟨V _,by omega,by omega⟩,λc hc=> ?_⟩,λb=> ?_⟩
   ·have h0:=dM (l.getD x.1 ([],[])).1 0;omega
   ·have e:=W2 hlt (hb.trans (decide_eq_true b));refine⟨by omega,(x.1+1,c),⟨⟨by show x.1+1<=_;omega,?_⟩,by show _ - (x.1+1)<_;omega⟩,by show(x.1:Int)+1=((x.1+1:Nat):Int);omega,⟨?_,rfl⟩,?_⟩
    ·show(bI i (l.take (x.1+1))).length<=c;rw[e,ay];exact hc
    ·show _=(bI i (l.take (x.1+1))).length;rw[e,ay];rfl
    ·show aa _ (.rows C (bI i (l.take (x.1+1))).length [bY (bI i (l.take (x.1+1))),bZ (bI i (l.take (x.1+1)))] u (c*2) _);rw[e];exact Ou
   ·have e:=SU hlt (hb.trans (decide_eq_false b));refine⟨by omega,(x.1+1,x.2),⟨⟨by show x.1+1<=_;omega,?_⟩,by show _ - (x.1+1)<_;omega⟩,by show(x.1:Int)+1=((x.1+1:Nat):Int);omega,⟨?_,rfl⟩,Ot e.symm rfl⟩
    ·show(bI i (l.take (x.1+1))).length<=x.2;rw[e];exact h2
    ·show _=(bI i (l.take (x.1+1))).length;rw[e]
  ·have e:=SU (i:=i) hlt (by rw[a];rfl);refine⟨by omega,(x.1+1,x.2),⟨⟨by show x.1+1<=_;omega,?_⟩,by show _ - (x.1+1)<_;omega⟩,by show(x.1:Int)+1=((x.1+1:Nat):Int);omega,⟨?_,rfl⟩,Ot e.symm rfl⟩
   ·show(bI i (l.take (x.1+1))).length<=x.2;rw[e];exact h2
   ·show _=(bI i (l.take (x.1+1))).length;rw[e]
 ·have e:l.take x.1=l:=List.take_of_length_le (by omega);rw[e] at h2 ⊢;exact⟨x.2,h2,⟨rfl,rfl⟩,aa.refl _⟩
theorem X4:av J 103 (cF SS) :=fH (n:=20) (fn:=b_) Tryz.func103 (by kernel_rfl) (by kernel_rfl) SS λx hx=>⟨_,aaj x.2.2 x.1,rfl,KT x hx⟩
noncomputable def Lz:List (FuncId×PT):=(105,cw (sI λx=>K (Fits x,abj x)))::(150,bh GI)::(100,bh tW)::(102,bS acN rP)::(103,cF SS)::fY
theorem DX:bt J (λf=>aD f Lz):=.cons L2 (b6 _) (.cons L3 (aS _) (.cons O8 (aS _) (.cons M1 (cz _ _) (.cons X4 (cc _) cZ))))
theorem Ed (l:List Rw):aI l.length (λi=>(l.getD i ([],[])).1) (λi=>(l.getD i ([],[])).2)=l:=by refine List.ext_getElem (by rw[fh]) λi h1 h2=> ?_;simp only[aI,List.getElem_map,List.getElem_range,c4,ej h2,Option.getD_some]
structure Pd where
 D:Nat->Bool
 cR:Nat->List UInt8
 fb:Nat->Nat
 nb:Nat->Nat
 cb:Nat->Nat
 D2:Nat->Bool
 n2:Nat->Nat
 g:Nat->Nat->Nat
def Pd.parts (P:Pd)(kB:Nat):SB:=.dV P.D [.str P.cR,.b7 kB 1 C P.fb P.nb P.cb] 2 165 u
def Pd.lists (P:Pd)(kA:Nat):SB:=.dG P.D2 P.n2 [.ref kA P.g] u
def Told (P:Pd):Nat->Nat->List (List UInt8)->Prop
 | 0,_,_=>False
 | d+1,a,L=>P.D a=C/\∃ Ks:List (List (List UInt8)),P.nb a=Ks.length/\(0<Ks.length->P.D2 (P.fb a)=C/\Ks.length<=P.n2 (P.fb a))/\L=P.cR a::Ks.flatten/\∀(i:Nat) (L':List (List UInt8)),Ks[i]?=K L'->Told P d (P.g (P.fb a) i) L'
def ko (P:Pd)(d n:Nat)(f:Nat->Nat)(B:List (List UInt8)):Prop:=∃ Ks:List (List (List UInt8)),n=Ks.length/\Ks.flatten=B/\∀(i:Nat) (L':List (List UInt8)),Ks[i]?=K L'->Told P d (f i) L'
def mP (m:Nat)(l:List Rw):List (List UInt8):=if l=[] then [] else(if(ctext m l).length<32 then [] else [ctext m l])++cr m l
def iU (m:Nat)(l:List Rw):List UInt8:=if l=[] then [] else dZ (ctext m l)
def vl (n a b:Nat):Mem->List Gh
 | []=>[]
 | e::r=>match Nat.blt e.1 n,e.2 with
   | false,.dV .. =>.merge a e.1::vl n a b r
   | false,.dG .. =>.merge b e.1::vl n a b r
   | _,_=>vl n a b r
def sn (nb cb:Nat)(f:Nat->Nat)(P:Pd)(k:Nat):Mem:=[(0,.cells [.str C [],.bx k 1 C 0 nb cb] 2 165),(k,.rows C nb [.ref 3 f] u (cb*1) 106),(3,P.parts 4),(4,P.lists 3)]
structure tn where
 l:List Rw
 c:Nat
 nb:Nat
 cb:Nat
 f:Nat->Nat
 P:Pd
 B:List (List UInt8)
structure ki where
 nb:Nat
 cb:Nat
 f:Nat->Nat
 P:Pd
def qU (m:Nat):gD :=
 {G:=tn,n:=5,N:=6,pre:=λx=>bV m x.l/\x.l.length<=1000/\m<=13/\x.nb<=x.cb/\(x.B++mP m x.l).length<=100000/\ko x.P (m+1) x.nb x.f x.B,args:=λx=>[.ptr 0 C 0,.bx 1 2 u 0 x.l.length x.c],
  mem:=λx=>(1,pX u x.l x.c C)::sn x.nb x.cb x.f x.P 2,
  uT:=λx=>.all ki λy=>.req (y.nb<=y.cb/\ko y.P (m+1) y.nb y.f (x.B++mP m x.l)) (.ret (.str u (iU m x.l)) (sn y.nb y.cb y.f y.P 5)),
  gh:=λ_ m=>vl 5 3 4 m}
def abi:SV->Mem->List Gh:=λv m=>match v with
 | .ptr kp _ _=>(match m.get kp with
   | some (.cells [_,.bx kr _ _ _ _ _] _ _)=>(match m.get kr with
     | some (.rows _ _ [.ref kA _] _ _ _)=>(match m.get kA with
       | some (.dV _ [_,.b7 kB _ _ _ _ _] _ _ _)=>[.name kr 0,.merge kB kr,.name kp kB,.merge kA kp]
       | _=>[.name kp 0])
     | _=>[.name kp 0])
   | _=>[.name kp 0])
 | _=>[]
def w9 (m:Nat):gD :=
 {G:=List Rw×Nat,n:=1,N:=3,pre:=λx=>bV m x.1/\x.1.length<=1000/\m<=13,args:=λx=>[.bx 0 2 u 0 x.1.length x.2],mem:=λx=>[(0,pX u x.1 x.2 C)],
  uT:=λx=>.all (Nat×Pd) λy=>.req (Told y.2 (m+1) y.1 (cM m x.1)) (.ret (.fP 1 y.1 0) [(1,y.2.parts 2),(2,y.2.lists 1)]),
  gh:=abi}
def fR (m:Nat)(l:List Rw)(i:Nat):List (List UInt8):=(Z i).flatMap λj=>mP m (aB l j)
def kQ (m:Nat)(l:List Rw)(i j:Nat):List UInt8:=if j<i then iU m (aB l j)else []
noncomputable def WA (m:Nat)(l:List Rw):bg :=
 {α:=Nat×ki,pre:=λ_ x=>x.1<=16/\x.2.nb<=x.2.cb/\ko x.2.P (m+1) x.2.nb x.2.f (fR m l x.1),kY:=λ_ x=>16 - x.1,fresh:=3,slots:=λ_ x=>[(11,.int .i64 u x.1)],
  mem:=λst x=>[(qk st 3,.cells [.str C [],.bx st.nx 1 C 0 x.2.nb x.2.cb] 2 165),(st.nx,.rows C x.2.nb [.ref (st.nx+1) x.2.f] u (x.2.cb*1) 106),(st.nx+1,x.2.P.parts (st.nx+2)),(st.nx+2,x.2.P.lists (st.nx+1)),
   (qk st 4,.cells (aU ⟨3,[],[],kQ m l x.1⟩) 19 138)]}
noncomputable def oV:Nat->PT
 | 0=>λ_ _ _ _=>.fail "no rows"
 | m+1=>cF (w9 (m+1))
noncomputable def acz (m:Nat):List (FuncId×PT):=(63,oV m)::Lz
noncomputable def Dt (m:Nat):fQ:={cv with cQ:=λf=>aD f (acz m)}
noncomputable def acy (m:Nat):List (FuncId×PT):=(101,cF (qU m))::Lz
noncomputable def Ni (m:Nat)(l:List Rw):fQ:={cv with cQ:=λf=>aD f (acy m),bD:=λh=>if h=63 then [(5,always (WA m l))] else []}
theorem vb: ∀ m,aT (oV m)
 | 0=>λ_ _ _ _ _ _ h=>h
 | _m+1=>cc _
theorem KF:av J 63 (oV 0):=λ_ _ _ _ h=>h.elim
theorem aal (h:av J 63 (oV m)):Sx.Good J (Dt m):=.of bX (bt.cons h (vb m) DX) bw
theorem aag (h:av J 101 (cF (qU m)))(l:List Rw):Sx.Good J (Ni m l):=.of bX (bt.cons h (cc _) DX) bw
theorem Ys (x:tn):dA (.n (.s 0 (.n .k (.s 1 (.n (.s 0 .k) .k)))) .t) (runM (Dt 0) 101 d_ (qU 0) x) (((F ((x.l.length:Int)=0)=C->∃(u0:ki),(u0.nb<=u0.cb/\ko u0.P 1 u0.nb u0.f (x.B++mP 0 x.l))/\[]=iU 0 x.l/\(x.nb=u0.nb/\x.cb=u0.cb)/\aa (SB.rows C x.nb [ak.ref 3 x.f] u (x.cb*1) 106) (SB.rows C u0.nb [ak.ref 3 u0.f] u (u0.cb*1) 106)/\aa (SB.dV x.P.D [ak.str x.P.cR,ak.b7 4 1 C x.P.fb x.P.nb x.P.cb] 2 165 u) (u0.P.parts 4)/\aa (SB.dG x.P.D2 x.P.n2 [b9.ref 3 x.P.g] u) (u0.P.lists 3))/\(F ((x.l.length:Int)=0)=u->False))):=⟨by kernel_rfl,by kernel_rfl⟩
theorem abH (m:Nat)(x:tn):dA (.n (.s 0 (.n .k (.s 1 (.n (.s 0 .k) .k)))) (.s 0 (.n (.s 0 .k) (.s 0 (.n .k (.s 2 (.n (.s 2 (.n .k (.s 1 (.n (.s 0 .k) .k)))) (.s 3 (.n .k (.s 1 (.n (.s 0 .k) .k))))))))))) (runM (Dt (m+1)) 101 d_ (qU (m+1)) x) (((F ((x.l.length:Int)=0)=C->∃(u32:ki),(u32.nb<=u32.cb/\ko u32.P (m+1+(1:Nat)) u32.nb u32.f (x.B++mP (m+1) x.l))/\[]=iU (m+1) x.l/\(x.nb=u32.nb/\x.cb=u32.cb)/\aa (SB.rows C x.nb [ak.ref 3 x.f] u (x.cb*1) 106) (SB.rows C u32.nb [ak.ref 3 u32.f] u (u32.cb*1) 106)/\aa (SB.dV x.P.D [ak.str x.P.cR,ak.b7 4 1 C x.P.fb x.P.nb x.P.cb] 2 165 u) (u32.P.parts 4)/\aa (SB.dG x.P.D2 x.P.n2 [b9.ref 3 x.P.g] u) (u32.P.lists 3))/\(F ((x.l.length:Int)=0)=u->∃(u31:List Rw×Nat),(bV (a_._f 0 Unit.unit m+1) u31.1/\u31.1.length<=1000/\a_._f 0 Unit.unit m+1<=(13:Nat))/\(x.l.length=u31.1.length/\x.c=u31.2)/\aa (SB.rows u x.l.length [bY x.l,bZ x.l] C (x.c*2) 174) (SB.rows u u31.1.length [bY u31.1,bZ u31.1] C (u31.2*2) 174)/\∀(u30:Nat×Pd),Told u30.2 (a_._f 0 Unit.unit m+1+(1:Nat)) u30.1 (cM (a_._f 0 Unit.unit m+1) u31.1)->u30.2.D u30.1=C/\(u30.2.cR u30.1).length<1152921504606846976/\(dZ (u30.2.cR u30.1)).length<9223372036854775808 /\(aQ (dZ (u30.2.cR u30.1))=C->(0+x.nb<=x.nb/\True/\2*(x.nb+1)*8<=(281474976710656:Nat)/\x.nb+1<(9223372036854775808:Nat))/\∀(u29:Nat),x.nb+1<=u29->(∀(u28:Nat),(x.P.parts 4).dom u28=C->(SB.aJ (jF 1 (jq 0 (((1:Nat),pX u x.l x.c C)::sn x.nb x.cb x.f x.P 2) (pX u u31.1 u31.2 C) (pX u x.l x.c C) [((0:Nat),(1:Nat))]) 5) (u30.2.parts 2)).dom u28=u)->(∀(u27:Nat),(SB.told (Ba 6 3) (fun(u26:Nat)=>bif u26.beq 6 then(3:Nat)else u26) (x.P.lists 3)).dom u27=C->(SB.told (Ba 6 3) (fun(u25:Nat)=>bif u25.beq 6 then(3:Nat)else u25) (SB.aJ (jF 1 (jq 0 (((1:Nat),pX u x.l x.c C)::sn x.nb x.cb x.f x.P 2) (pX u u31.1 u31.2 C) (pX u x.l x.c C) [((0:Nat),(1:Nat))]) 5) (u30.2.lists 1))).dom u27=u)->∃(u24:ki),(u24.nb<=u24.cb/\ko u24.P (m+1+(1:Nat)) u24.nb u24.f (x.B++mP (m+1) x.l))/\dZ (u30.2.cR u30.1)=iU (m+1) x.l/\(x.nb+1=u24.nb/\u29=u24.cb) /\aa (SB.rows C (x.nb+1) [ak.ref (bif(bif R 3 6 then(3:Nat)else(3:Nat)).beq 7 then(4:Nat)else bif R 3 6 then(3:Nat)else(3:Nat)) fun(u23:Nat)=>if u23<x.nb then x.f u23 else Vk [u30.1] (u23 - x.nb)] u (u29*1) 106) (SB.rows C u24.nb [ak.ref 3 u24.f] u (u24.cb*1) 106)/\aa (SB.dV (fun(u22:Nat)=>x.P.D u22||u30.2.D u22) [ak.str λu21=>bif x.P.D u21 then x.P.cR u21 else u30.2.cR u21,ak.b7 (bif(bif R 4 6 then(3:Nat)else(4:Nat)).beq 7 then(4:Nat)else bif R 4 6 then(3:Nat)else(4:Nat)) 1 C (fun(u20:Nat)=>bif x.P.D u20 then x.P.fb u20 else u30.2.fb u20) (fun(u19:Nat)=>bif x.P.D u19 then x.P.nb u19 else u30.2.nb u19) fun(u18:Nat)=>bif x.P.D u18 then x.P.cb u18 else u30.2.cb u18] 2 165 u) (u24.P.parts 4) /\aa (SB.dG (fun(u17:Nat)=>x.P.D2 u17||u30.2.D2 u17) (fun(u16:Nat)=>bif x.P.D2 u16 then x.P.n2 u16 else u30.2.n2 u16) [b9.fX (fun(u15:Nat)=>bif u15.beq 7 then(4:Nat)else u15) (b9.ref (bif R 3 6 then(3:Nat)else(3:Nat)) fun(b i:Nat)=>bif x.P.D2 b then x.P.g b i else u30.2.g b i)] u) (u24.P.lists 3))/\(aQ (dZ (u30.2.cR u30.1))=u->u30.2.D u30.1=C/\(0+x.nb<=x.nb/\(0<u30.2.nb u30.1->u30.2.D2 (u30.2.fb u30.1)=C/\0+u30.2.nb u30.1<=u30.2.n2 (u30.2.fb u30.1))/\2*(x.nb+u30.2.nb u30.1)*8<=(281474976710656:Nat)/\x.nb+u30.2.nb u30.1<9223372036854775808)/\∀(u14:Nat),x.nb+u30.2.nb u30.1<=u14->(∀(u13:Nat),(x.P.parts 4).dom u13=C->(SB.aJ (jF 1 (jq 0 (((1:Nat),pX u x.l x.c C)::sn x.nb x.cb x.f x.P 2) (pX u u31.1 u31.2 C) (pX u x.l x.c C) [((0:Nat),(1:Nat))]) 5) (u30.2.parts 2)).dom u13=u)->(∀(u12:Nat),(SB.told (Ba 6 3) (fun(u11:Nat)=>bif u11.beq 6 then(3:Nat)else u11) (x.P.lists 3)).dom u12=C ->(SB.told (Ba 6 3) (fun(u10:Nat)=>bif u10.beq 6 then(3:Nat)else u10) (SB.aJ (jF 1 (jq 0 (((1:Nat),pX u x.l x.c C)::sn x.nb x.cb x.f x.P 2) (pX u u31.1 u31.2 C) (pX u x.l x.c C) [((0:Nat),(1:Nat))]) 5) (u30.2.lists 1))).dom u12=u)->∃(u9:ki),(u9.nb<=u9.cb/\ko u9.P (m+1+(1:Nat)) u9.nb u9.f (x.B++mP (m+1) x.l))/\dZ (u30.2.cR u30.1)=iU (m+1) x.l/\(x.nb+u30.2.nb u30.1=u9.nb/\u14=u9.cb)/\aa (SB.rows C (x.nb+u30.2.nb u30.1) [ak.ref (bif(bif R 3 6 then(3:Nat)else(3:Nat)).beq 7 then(4:Nat)else bif R 3 6 then(3:Nat)else(3:Nat)) fun(u8:Nat)=>if u8<x.nb then x.f u8 else u30.2.g (u30.2.fb u30.1) (u8 - x.nb)] u (u14*1) 106) (SB.rows C u9.nb [ak.ref 3 u9.f] u (u9.cb*1) 106) /\aa (SB.dV (fun(u7:Nat)=>x.P.D u7||u30.2.D u7) [ak.str λu6=>bif x.P.D u6 then x.P.cR u6 else u30.2.cR u6,ak.b7 (bif(bif R 4 6 then(3:Nat)else(4:Nat)).beq 7 then(4:Nat)else bif R 4 6 then(3:Nat)else(4:Nat)) 1 C (fun(u5:Nat)=>bif x.P.D u5 then x.P.fb u5 else u30.2.fb u5) (fun(u4:Nat)=>bif x.P.D u4 then x.P.nb u4 else u30.2.nb u4) fun(u3:Nat)=>bif x.P.D u3 then x.P.cb u3 else u30.2.cb u3] 2 165 u) (u9.P.parts 4)/\aa (SB.dG (fun(u2:Nat)=>x.P.D2 u2||u30.2.D2 u2) (fun(u1:Nat)=>bif x.P.D2 u1 then x.P.n2 u1 else u30.2.n2 u1) [b9.fX (fun(u0:Nat)=>bif u0.beq 7 then(4:Nat)else u0) (b9.ref (bif R 3 6 then(3:Nat)else(3:Nat)) fun(b i:Nat)=>bif x.P.D2 b then x.P.g b i else u30.2.g b i)] u) (u9.P.lists 3))))):=⟨by kernel_rfl,by kernel_rfl⟩
def Pd.or (P Q:Pd):Pd :=
 {D:=λb=>P.D b||Q.D b,cR:=λb=>bif P.D b then P.cR b else Q.cR b,fb:=λb=>bif P.D b then P.fb b else Q.fb b,nb:=λb=>bif P.D b then P.nb b else Q.nb b,cb:=λb=>bif P.D b then P.cb b else Q.cb b,
  D2:=λb=>P.D2 b||Q.D2 b,n2:=λb=>bif P.D2 b then P.n2 b else Q.n2 b,g:=λb i=>bif P.D2 b then P.g b i else Q.g b i}
theorem yw {P Q:Pd}: ∀ {d a:Nat} {L:List (List UInt8)},Told P d a L->Told (P.or Q) d a L
 | 0,_,_,h=>h.elim
 | d+1,a,L,⟨h1,Ks,h2,h3,h4,h5⟩=>by
   have e2:(P.or Q).nb a=P.nb a:=by show(bif P.D a then _ else _)=_;rw[h1];rfl
   have e3:(P.or Q).fb a=P.fb a:=by show(bif P.D a then _ else _)=_;rw[h1];rfl
   have e4:(P.or Q).cR a=P.cR a:=by show(bif P.D a then _ else _)=_;rw[h1];rfl
   refine⟨by show(P.D a||Q.D a)=C;rw[h1];rfl,Ks,e2.trans h2,λh=> ?_,by rw[e4];exact h4,λi L' hi=> ?_⟩
   ·obtain⟨g1,g2⟩:=h3 h;rw[e3];refine⟨by show(P.D2 _||Q.D2 _)=C;rw[g1];rfl,?_⟩;show _<=(bif P.D2 _ then _ else _)
    rw[g1];exact g2
   ·have hk:0<Ks.length:=ez (M _) (ek.1 hi).1;have:(P.or Q).g ((P.or Q).fb a) i=P.g (P.fb a) i:=by rw[e3];show(bif P.D2 _ then _ else _)=_;rw[(h3 hk).1];rfl
    rw[this];exact yw (h5 i L' hi)
theorem CG {P Q:Pd}(hd: ∀ b,P.D b=C->Q.D b=u)(hd2: ∀ b,P.D2 b=C->Q.D2 b=u): ∀ {d a:Nat} {L:List (List UInt8)},Told Q d a L->Told (P.or Q) d a L
 | 0,_,_,h=>h.elim
 | d+1,a,L,⟨h1,Ks,h2,h3,h4,h5⟩=>by
   have hp:P.D a=false:=by
    cases h:P.D a with
    | false=>rfl
    | true=>rw[hd a h] at h1;cases h1
   have hp2: ∀ b,Q.D2 b=C->P.D2 b=false:=λb hb=>by
    cases h:P.D2 b with
    | false=>rfl
    | true=>rw[hd2 b h] at hb;cases hb
   have e2:(P.or Q).nb a=Q.nb a:=by show(bif P.D a then _ else _)=_;rw[hp];rfl
   have e3:(P.or Q).fb a=Q.fb a:=by show(bif P.D a then _ else _)=_;rw[hp];rfl
   have e4:(P.or Q).cR a=Q.cR a:=by show(bif P.D a then _ else _)=_;rw[hp];rfl
   refine⟨by show(P.D a||Q.D a)=C;rw[h1,c!],Ks,e2.trans h2,λh=> ?_,by rw[e4];exact h4,λi L' hi=> ?_⟩
   ·obtain⟨g1,g2⟩:=h3 h;rw[e3];refine⟨by show(P.D2 _||Q.D2 _)=C;rw[g1,c!],?_⟩;show _<=(bif P.D2 _ then _ else _)
    rw[hp2 _ g1];exact g2
   ·have hk:0<Ks.length:=ez (M _) (ek.1 hi).1;have:(P.or Q).g ((P.or Q).fb a) i=Q.g (Q.fb a) i:=by rw[e3];show(bif P.D2 _ then _ else _)=_;rw[hp2 _ (h3 hk).1];rfl
    rw[this];exact CG hd hd2 (h5 i L' hi)
theorem OH {P:Pd}: ∀ {d a:Nat} {L:List (List UInt8)},Told P d a L->Told P (d+1) a L
 | 0,_,_,h=>h.elim
 | _+1,_,_,⟨h1,Ks,h2,h3,h4,h5⟩=>⟨h1,Ks,h2,h3,h4,λi L' hi=>OH (h5 i L' hi)⟩
theorem VA {P:Pd}: ∀ {d a:Nat} {L:List (List UInt8)},Told P d a L->0<L.length
 | 0,_,_,h=>h.elim
 | _+1,_,_,⟨_,_,_,_,h4,_⟩=>by rw[h4];exact c5 _
theorem DJ {α:Type}: ∀(Ks:List (List α)),(∀ L,L∈ Ks->0<L.length)->Ks.length<=Ks.flatten.length
 | [],_=>M _
 | L::Ks,h=>by have h1:=h L (List.mem_cons_self ..);have h2:=DJ Ks λx hx=>h x (List.mem_cons_of_mem _ hx);rw[Y,List.flatten_cons,ay];omega
theorem CP {P:Pd}{f:Nat->Nat}{B:List (List UInt8)}(h:ko P d n f B):n<=B.length:=by obtain⟨Ks,h1,h2,h3⟩:=h;rw[h1,← h2];refine DJ Ks λL hL=> ?_;obtain⟨i,hi⟩:=List.getElem?_of_mem hL;exact VA (h3 i L hi)
theorem Kr {P Q:Pd}{f f':Nat->Nat}{B B':List (List UInt8)}(hd: ∀ b,P.D b=C->Q.D b=u)(hd2: ∀ b,P.D2 b=C->Q.D2 b=u)(h:ko P d n f B)(h':ko Q d n' f' B') :
  ko (P.or Q) d (n+n') (λj=>if j<n then f j else f' (j - n)) (B++B'):=by
 obtain⟨Ks,h1,h2,h3⟩:=h;obtain⟨Ks',k1,k2,k3⟩:=h';refine⟨Ks++Ks',by rw[ay,h1,k1],by rw[List.flatten_append,h2,k2],λi L' hi=> ?_⟩;by_cases hlt:i<n
 ·rw[List.getElem?_append_left (by omega)] at hi;show Told _ d (if i<n then f i else _) L'
  rw[if_pos hlt];exact yw (h3 i L' hi)
 ·rw[List.getElem?_append_right (by omega)] at hi;show Told _ d (if i<n then f i else f' (i - n)) L'
  rw[if_neg hlt];rw[← h1] at hi;exact CG hd hd2 (k3 _ L' hi)
theorem CO {P:Pd}{a:Nat}{L:List (List UInt8)}(h:Told P (d+1) a L):ko P (d+1) (P.nb a) (λi=>P.g (P.fb a) i) L.tail/\(0<P.nb a->P.D2 (P.fb a)=C/\P.nb a<=P.n2 (P.fb a))/\L=P.cR a::L.tail/\P.D a=true:=by obtain⟨h1,Ks,h2,h3,h4,h5⟩:=h;exact⟨⟨Ks,h2,by rw[h4];rfl,λi L' hi=>OH (h5 i L' hi)⟩,λh=>by rw[h2] at h ⊢;exact h3 h,by rw[h4];rfl,h1⟩
theorem Wf {P:Pd}{a:Nat}{L:List (List UInt8)}(h:Told P d a L):ko P d 1 (λi=>Vk [a] i) L:=⟨[L],rfl,by simp,λi L' hi=>by
 match i,hi with
 | 0,hi=>injection hi with hi;subst hi;exact h
 | i+1,hi=>simp at hi⟩
theorem Jq {s:List UInt8}(h:s.length<=700):(dZ s).length<=700:=by
 by_cases hl:s.length<32
 ·rw[gA hl];exact h
 ·rw[(gJ hl).2.2];omega
theorem lD (hm:m<=13)(h:bV m l)(hl:l≠[]):(ctext m l).length<=700:=(Oc (dg hm h hl)).2
end
end Go.Proofs.YtoibaecagklkaaaGreatDoor
