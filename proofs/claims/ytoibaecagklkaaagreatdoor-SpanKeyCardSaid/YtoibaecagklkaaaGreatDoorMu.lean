/-
  Store: Add, to an empty store: the set-up.
-/
import Derived.Test.YtoibaecagklkaaaGreatDoorMt
import Derived.Test.YtoibaecagklkaaaGreatDoorMr
import Derived.Test.YtoibaecagklkaaaGreatDoorMs
import Derived.Test.YtoibaecagklkaaaGreatDoorMq
open Bool renaming false->C,noConfusion->T,true->u
open Decidable renaming decide->F
open Go.IntKind renaming i64->J
open Go.Operand renaming tmp->M
open Go.Proofs.Tryz renaming f45->V,f46->W,f63->X,prog->K
open Int renaming one_pos->a_,toNat_natCast->Y
open List renaming all_eq_true->a!,cons_ne_nil->Z,getD_eq_getElem?_getD->L,getElem?_eq_getElem->O,getElem_mem->R,length_map->bW,length_take->b_,mem_range->S,range->ag
open Nat renaming le_refl->Q,mul_le_mul->b!,one_pos->cl,succ_pos->ct,zero_add->ay,zero_le->aP
open Option renaming none->H,some->I
namespace Go.Proofs.YtoibaecagklkaaaGreatDoor
open Go Sx
variable {l t:List Rw}{i k k' m n:Nat}{D:Nat->Bool}{us:Nat->Int}{f:Nat->List UInt8}{r s:Rw}{ty:TypeId}
section
open Go Sx
set_option maxRecDepth 20000
structure AdG where
 n:Nat
 f:Nat->List UInt8
 c:Nat
 room:Int
structure tM where
 Fr:List (List UInt8)
 A:It
 g:List UInt8->Nat
structure qo (n:Nat)(f:Nat->List UInt8)(root:List UInt8)(y:tM):Prop where
 bf:k5 n f root y.Fr y.Fr.length
 dom: ∀ h,h∈ y.Fr->y.A.D (y.g h)=u
 cR: ∀ h,h∈ y.Fr->y.A.cR (y.g h)=qq n f h
def It.bare (A:It):SB:=.dV A.D [.str A.cR] 4 133 C
def OR:gD :=
 {G:=AdG,n:=3,N:=4,pre:=λx=>0<x.n/\x.n<=1000/\(x.n:Int)<=x.room/\x.room<=1000000/\(∀ i,i<x.n->(x.f i).length<=1000)/\ni x.n x.f=u/\Clo x.n x.f,args:=λx=>[.ptr 0 u 0,.bx 2 1 u 0 x.n x.c],
  mem:=λx=>[(0,fq x.room 1),(1,.map [] 0),(2,.rows u x.n [.str x.f] u (x.c*1) 9)],
  uT:=λx=>.all tM λy=>.req (qo x.n x.f (aG (x.f 0)) y) (.ret (.aO [.str C (aG (x.f 0)),.int .i64 u 0]) [(0,fq x.room 1),(1,.fmap (cG y.Fr) (.ref 3 y.g) H),(3,y.A.bare)])}
def Du (st:Sx.St)(i:Nat):Option (Nat×(Nat->List UInt8)):=match slot st.tmps i with
 | some (.bx k _ _ _ n _)=>(match st.m.get k with
   | some (.rows _ _ [.str e] _ _ _)=>I (n,e)
   | _=>H)
 | _=>H
def Tl (st:Sx.St)(i:Nat):Option (Nat×(List UInt8->Nat)):=match slot st.tmps i with
 | some (.map k)=>(match st.m.get k with
   | some (.fmap _ (.ref kF g) _)=>I (kF,g)
   | _=>H)
 | _=>H
def YX (st:Sx.St)(k:Nat):Option ((Nat->Bool)×ak×ak×ak):=match st.m.get k with
 | some (.dV D [c1,c2,_,c4] _ _ _)=>I (D,c1,c2,c4)
 | _=>H
def uf (e:Nat->List UInt8)(i:Nat)(h:List UInt8):Bool:=(ag i).any λq=>decide (e q=h)
structure uV (D:Nat->Bool)(us:Nat->Int)(b:Nat):Prop where
 all: ∀ a,D a=u->0<=us a/\us a<=b
noncomputable def ZC (n:Nat)(e:Nat->List UInt8)(kF:Nat)(g:List UInt8->Nat):bg :={α:=Nat,pre:=λ_ i=>i<=n,kY:=λ_ i=>n - i,fresh:=0,slots:=λ_ i=>[(46,.int .i64 C i)],mem:=λ_ i=>[(1,.fmap (uf e i) (.ref kF g) H)]}
noncomputable def ZD (n kF:Nat)(D:Nat->Bool)(c1 c2 c4:ak):bg :={α:=Nat×(Nat->Int),pre:=λ_ y=>y.1<=n/\uV D y.2 (16*y.1),kY:=λ_ y=>n - y.1,fresh:=0,slots:=λ_ y=>[(61,.int .i64 C y.1)],mem:=λ_ y=>[(kF,.dV D [c1,c2,.int .i64 y.2,c4] 4 133 C)]}
noncomputable def ZE (i nb:Int)(kF:Nat)(D:Nat->Bool)(c1 c2 c4:ak):bg :={α:=Nat×(Nat->Int),pre:=λ_ y=>(y.1:Int)<=nb/\uV D y.2 (16*i.toNat+y.1),kY:=λ_ y=>nb.toNat - y.1,fresh:=0,slots:=λ_ y=>[(72,.int .i64 C y.1)],mem:=λ_ y=>[(kF,.dV D [c1,c2,.int .i64 y.2,c4] 4 133 C)]}
noncomputable def ZR:td:=[(11,λst=>match Du st 44,Tl st 6 with
 | some (n,e),I (kF,g)=>I (one (ZC n e kF g))
 | _,_=>H),(16,λst=>match Du st 59,Tl st 6 with
 | some (n,_),I (kF,_)=>(match YX st kF with
   | some (D,c1,c2,c4)=>I (one (ZD n kF D c1 c2 c4))
   | none=>H)
 | _,_=>H),(19,λst=>match slot st.tmps 61,slot st.tmps 71,Tl st 6 with
 | some (.int _ _ i),I (.int _ _ nb),I (kF,_)=>(match YX st kF with
   | some (D,c1,c2,c4)=>I (one (ZE i nb kF D c1 c2 c4))
   | none=>H)
 | _,_,_=>H)]
noncomputable def T1:List (FuncId×PT):=(80,cF EC)::(81,cF oB)::fY
theorem PD:bt K (λf=>aD f T1):=.cons Vq (cc _) (.cons Mj (cc _) cZ)
noncomputable def RY:fQ:={cv with cQ:=λf=>aD f T1,bD:=λh=>if h=46 then ZR else []}
theorem Z9:Sx.Good K RY:=.of bX PD bw
theorem acR (x:AdG):dA (.s 0 (.n (.s 0 .k) (.s 0 (.n .k (.n (.s 4 (.n .k (.s 0 (.n .k (.s 0 (.n .k (.n .k (.n .k (.s 1 (.n (.s 0 (.n .k (.n .k .t))) (.n (.s 1 (.n (.s 1 (.n .k (.n .k .t))) .t)) (.n (.s 0 (.n .k (.n .k .t))) (.n (.s 1 (.n (.s 0 (.n (.s 0 (.n .k (.n .k .t))) (.n (.s 1 (.n (.s 4 (.n .k (.n .k .t))) .t)) (.s 1 (.n .k (.n .k .t)))))) .t)) (.n (.s 3 (.n .k (.s 0 .k))) .t)))))))))))))) .t))))) (runM RY 46 W OR x) ((∃(u26:RdG),(u26.n<=1000/\∀(u25:Nat),u25<u26.n->(u26.f u25).length<=1000)/\(x.n=u26.n/\x.c=u26.c)/\aa (SB.rows u x.n [ak.str x.f] u (x.c*1) 9) (SB.rows u u26.n [ak.str u26.f] u (u26.c*1) 9)/\((F (0<u26.n)&&ni u26.n u26.f)=u->∀(u24:M6),jG u26.f u26.n u24.A u24.g->((0:Int)<=(0:Int)/\0<(x.n:Int))/\0<x.n/\(True/\Qj [x.f 0])/\∃(u23:Wq),(u23.n<=1000/\jG u23.f u23.n u23.A u23.g/\aK u23.f u23.n u23.root=u/\Clo u23.n u23.f)/\aG (flat [x.f 0])=u23.root/\x.room=u23.room/\aa (SB.fmap (aK u26.f u26.n) (aC.aJ (jF 1 (jq 0 [((0:Nat),fq x.room 1),((1:Nat),SB.map [] 0),((2:Nat),SB.rows u x.n [ak.str x.f] u (x.c*1) 9)] (SB.rows u u26.n [ak.str u26.f] u (u26.c*1) 9) (SB.rows u x.n [ak.str x.f] u (x.c*1) 9) [((0:Nat),(2:Nat))]) 3) (aC.ref 2 u24.g)) H) (SB.fmap (aK u23.f u23.n) (aC.ref 3 u23.g) H) /\aa (SB.dV u24.A.D [ak.str u24.A.cR,ak.b7 6 1 u u24.A.fb u24.A.nb u24.A.cb,ak.int J u24.A.us,ak.int J u24.A.hd] 4 133 C) (SB.dV u23.A.D [ak.str u23.A.cR,ak.b7 4 1 u u23.A.fb u23.A.nb u23.A.cb,ak.int J u23.A.us,ak.int J u23.A.hd] 4 133 u)/\aa (SB.dG u24.A.D2 u24.A.n2 [b9.str u24.A.rf] C) (SB.dG u23.A.D2 u23.A.n2 [b9.str u23.A.rf] u)/\∀(u22:List (List UInt8)×Nat),k5 u23.n u23.f u23.root u22.1 u22.1.length/\u22.1.length<=u22.2->((-9223372036854775808:Int)<=u23.room - (↑(0:Nat):Int)/\u23.room - (↑(0:Nat):Int)<=9223372036854775807)/\(F (u23.room - (↑(0:Nat):Int)<(u22.1.length:Int))=u->∃(u21:tM),qo x.n x.f (aG (x.f 0)) u21/\False)/\(F (u23.room - (↑(0:Nat):Int)<(u22.1.length:Int))=C->(∃(u20:Nat),u20<=u22.1.length/\0=(u20:Int)/\aa (SB.map [] 0) (SB.fmap (uf (fun(u19:Nat)=>u22.1.getD u19 []) u20) (aC.ref 5 u23.g) H))/\∀(u18:Nat),u18<=u22.1.length->(F ((u18:Int)<(u22.1.length:Int))=u->(0<=(u18:Int)/\(u18:Int)<(u22.1.length:Int)) /\0+(u18:Int).toNat<u22.1.length/\(aK u23.f u23.n (u22.1.getD (0+(u18:Int).toNat) [])=u->I6 ((u18:Int)+1)/\∃(u17:Nat),(u17<=u22.1.length/\u22.1.length - u17<u22.1.length - u18)/\(u18:Int)+1=(u17:Int)/\aa (SB.fmap (dN (uf (fun(u16:Nat)=>u22.1.getD u16 []) u18) (u22.1.getD (0+(u18:Int).toNat) [])) (aC.ref 5 (we u23.g (u22.1.getD (0+(u18:Int).toNat) []) (u23.g (u22.1.getD (0+(u18:Int).toNat) [])))) H) (SB.fmap (uf (fun(u15:Nat)=>u22.1.getD u15 []) u17) (aC.ref 5 u23.g) H))/\(aK u23.f u23.n (u22.1.getD (0+(u18:Int).toNat) [])=C->False))/\(F ((u18:Int)<(u22.1.length:Int))=C->(∃(u14:Nat×(Nat->Int)),(u14.1<=u22.1.length/\uV u24.A.D u14.2 (16*u14.1))/\0=(u14.1:Int) /\aa (SB.dV u24.A.D [ak.str u24.A.cR,ak.b7 6 1 u u24.A.fb u24.A.nb u24.A.cb,ak.int J u24.A.us,ak.int J u24.A.hd] 4 133 C) (SB.dV u24.A.D [ak.str u24.A.cR,ak.b7 6 1 u u24.A.fb u24.A.nb u24.A.cb,ak.int J u14.2,ak.int J u24.A.hd] 4 133 C))/\∀(u13:Nat×(Nat->Int)),u13.1<=u22.1.length/\uV u24.A.D u13.2 (16*u13.1)->(F ((u13.1:Int)<(u22.1.length:Int))=u->(0<=(u13.1:Int)/\(u13.1:Int)<(u22.1.length:Int))/\0+(u13.1:Int).toNat<u22.1.length/\(aK u23.f u23.n (u22.1.getD (0+(u13.1:Int).toNat) [])=u->u24.A.D (u23.g (u22.1.getD (0+(u13.1:Int).toNat) []))=u/\(∃(u12:Nat×(Nat->Int)),((u12.1:Int)<=(↑(u24.A.nb (u23.g (u22.1.getD (0+(u13.1:Int).toNat) []))):Int)/\uV u24.A.D u12.2 (16*(u13.1:Int).toNat+u12.1))/\0=(u12.1:Int) /\aa (SB.dV u24.A.D [ak.str u24.A.cR,ak.b7 6 1 u u24.A.fb u24.A.nb u24.A.cb,ak.int J u13.2,ak.int J u24.A.hd] 4 133 C) (SB.dV u24.A.D [ak.str u24.A.cR,ak.b7 6 1 u u24.A.fb u24.A.nb u24.A.cb,ak.int J u12.2,ak.int J u24.A.hd] 4 133 C))/\∀(u11:Nat×(Nat->Int)),(u11.1:Int)<=(↑(u24.A.nb (u23.g (u22.1.getD (0+(u13.1:Int).toNat) []))):Int)/\uV u24.A.D u11.2 (16*(u13.1:Int).toNat+u11.1)->(F ((u11.1:Int)<(↑(u24.A.nb (u23.g (u22.1.getD (0+(u13.1:Int).toNat) []))):Int))=u->(0<=(u11.1:Int)/\(u11.1:Int)<(↑(u24.A.nb (u23.g (u22.1.getD (0+(u13.1:Int).toNat) []))):Int))/\(u24.A.D2 (u24.A.fb (u23.g (u22.1.getD (0+(u13.1:Int).toNat) [])))=u/\0+(u11.1:Int).toNat<u24.A.n2 (u24.A.fb (u23.g (u22.1.getD (0+(u13.1:Int).toNat) []))))/\(uf (fun(u10:Nat)=>u22.1.getD u10 []) u18 (u24.A.rf (u24.A.fb (u23.g (u22.1.getD (0+(u13.1:Int).toNat) []))) (0+(u11.1:Int).toNat))=u ->u24.A.D (u23.g (u24.A.rf (u24.A.fb (u23.g (u22.1.getD (0+(u13.1:Int).toNat) []))) (0+(u11.1:Int).toNat)))=u/\I6 (u11.2 (u23.g (u24.A.rf (u24.A.fb (u23.g (u22.1.getD (0+(u13.1:Int).toNat) []))) (0+(u11.1:Int).toNat)))+1)/\u24.A.D (u23.g (u24.A.rf (u24.A.fb (u23.g (u22.1.getD (0+(u13.1:Int).toNat) []))) (0+(u11.1:Int).toNat)))=u/\I6 ((u11.1:Int)+1)/\∃(u9:Nat×(Nat->Int)),(((u9.1:Int)<=(↑(u24.A.nb (u23.g (u22.1.getD (0+(u13.1:Int).toNat) []))):Int)/\uV u24.A.D u9.2 (16*(u13.1:Int).toNat+u9.1))/\(↑(u24.A.nb (u23.g (u22.1.getD (0+(u13.1:Int).toNat) []))):Int).toNat - u9.1<(↑(u24.A.nb (u23.g (u22.1.getD (0+(u13.1:Int).toNat) []))):Int).toNat - u11.1)/\(u11.1:Int)+1=(u9.1:Int) /\aa (SB.dV u24.A.D [ak.str u24.A.cR,ak.b7 6 1 u u24.A.fb u24.A.nb u24.A.cb,ak.int J fun(u8:Nat)=>if u8=u23.g (u24.A.rf (u24.A.fb (u23.g (u22.1.getD (0+(u13.1:Int).toNat) []))) (0+(u11.1:Int).toNat))then u11.2 (u23.g (u24.A.rf (u24.A.fb (u23.g (u22.1.getD (0+(u13.1:Int).toNat) []))) (0+(u11.1:Int).toNat)))+1 else u11.2 u8,ak.int J u24.A.hd] 4 133 C) (SB.dV u24.A.D [ak.str u24.A.cR,ak.b7 6 1 u u24.A.fb u24.A.nb u24.A.cb,ak.int J u9.2,ak.int J u24.A.hd] 4 133 C))/\(uf (fun(u7:Nat)=>u22.1.getD u7 []) u18 (u24.A.rf (u24.A.fb (u23.g (u22.1.getD (0+(u13.1:Int).toNat) []))) (0+(u11.1:Int).toNat))=C->False))/\(F ((u11.1:Int)<(↑(u24.A.nb (u23.g (u22.1.getD (0+(u13.1:Int).toNat) []))):Int))=C->I6 ((u13.1:Int)+1)/\∃(u6:Nat×(Nat->Int)),((u6.1<=u22.1.length/\uV u24.A.D u6.2 (16*u6.1))/\u22.1.length - u6.1<u22.1.length - u13.1)/\(u13.1:Int)+1=(u6.1:Int) /\aa (SB.dV u24.A.D [ak.str u24.A.cR,ak.b7 6 1 u u24.A.fb u24.A.nb u24.A.cb,ak.int J u11.2,ak.int J u24.A.hd] 4 133 C) (SB.dV u24.A.D [ak.str u24.A.cR,ak.b7 6 1 u u24.A.fb u24.A.nb u24.A.cb,ak.int J u6.2,ak.int J u24.A.hd] 4 133 C)))/\(aK u23.f u23.n (u22.1.getD (0+(u13.1:Int).toNat) [])=C->False))/\(F ((u13.1:Int)<(u22.1.length:Int))=C->(uf (fun(u5:Nat)=>u22.1.getD u5 []) u18 (aG (flat [x.f 0]))=u->u24.A.D (u23.g (aG (flat [x.f 0])))=u/\I6 (u24.A.hd (u23.g (aG (flat [x.f 0])))+1)/\u24.A.D (u23.g (aG (flat [x.f 0])))=u/\∃(u4:tM),qo x.n x.f (aG (x.f 0)) u4/\aG (flat [x.f 0])=aG (x.f 0)/\aa (SB.cells [SV.int .i64 C u23.room,SV.map 1] 2 126) (fq x.room 1)/\aa (SB.fmap (uf (fun(u3:Nat)=>u22.1.getD u3 []) u18) (aC.ref 5 u23.g) H) (SB.fmap (cG u4.Fr) (aC.ref 3 u4.g) H) /\aa (SB.dV u24.A.D [ak.str u24.A.cR,ak.b7 6 1 u u24.A.fb u24.A.nb u24.A.cb,ak.int J u13.2,ak.int J fun(u2:Nat)=>if u2=u23.g (aG (flat [x.f 0]))then u24.A.hd (u23.g (aG (flat [x.f 0])))+1 else u24.A.hd u2] 4 133 C) (SB.dV u4.A.D [ak.str u4.A.cR] 4 133 C))/\(uf (fun(u1:Nat)=>u22.1.getD u1 []) u18 (aG (flat [x.f 0]))=C->False)))))/\((F (0<u26.n)&&ni u26.n u26.f)=C->∃(u0:tM),qo x.n x.f (aG (x.f 0)) u0/\False))):=⟨by kernel_rfl,by kernel_rfl⟩
theorem Po (e:Nat->List UInt8)(i:Nat)(h:List UInt8):dN (uf e i) (e i) h=uf e (i+1) h:=by unfold dN uf;rw[List.range_succ,List.any_append,List.any_cons,List.any_nil,Bool.or_false];congr 1;exact decide_eq_decide.2 ⟨Eq.symm,Eq.symm⟩
theorem Tp (Fr:List (List UInt8))(h:List UInt8):uf (λq=>Fr.getD q []) Fr.length h=cG Fr h:=by
 unfold uf cG;rw[Bool.eq_iff_iff,List.any_eq_true,decide_eq_true_eq];constructor
 ·rintro⟨q,hq,e⟩;rw[S] at hq;rw[decide_eq_true_eq] at e;rw[← e];show Fr.getD q []∈ Fr;rw[L,O hq];exact R hq
 ·intro hm;obtain⟨q,hq,e⟩:=List.getElem_of_mem hm;refine⟨q,S.2 hq,decide_eq_true ?_⟩;show Fr.getD q []=h;rw[L,O hq];exact e
theorem QI (g:List UInt8->Nat)(s t:List UInt8):we g s (g s) t=g t:=by
 unfold we;by_cases e:t=s
 ·rw[decide_eq_true e,e];rfl
 ·rw[decide_eq_false e];rfl
theorem uV.le {b b':Nat}(h:uV D us b)(hb:b<=b'):uV D us b':=⟨λa ha=>by have:=h.all a ha;omega⟩
theorem uV.up {b:Nat}(h:uV D us b){a:Nat}(ha:D a=u):uV D (λj=>if j=a then us a+1 else us j) (b+1):=⟨λj hj=>by
 have h1:=h.all a ha;have h2:=h.all j hj;show 0<=(if j=a then us a+1 else us j)/\(if j=a then us a+1 else us j)<=_
 by_cases e:j=a
 ·rw[if_pos e];omega
 ·rw[if_neg e];omega⟩
theorem qK (f:Nat->List UInt8): ∀(n i:Nat),i<n->aK f n (aG (f i))=u
 | 0,_,h=>absurd h (Nat.not_lt_zero _)
 | n+1,i,h=>by
   by_cases e:i=n
   ·subst e;simp[aK]
   ·have:=qK f n i (by omega);simp[aK,this]
theorem W4 {n:Nat->Nat}{ax:List b9}:aa (.dG D n ax C) (.dG D n ax u) :=⟨rfl,λ_ _ ha=>⟨ha,λ_ _ h=>h,λ_=>rfl⟩⟩
theorem tV {Fr:List (List UInt8)}(h:i<Fr.length):Fr.getD i []∈ Fr:=by rw[L,O h];exact R h
theorem Lo {cR:Nat->List UInt8}{fb nb cb:Nat->Nat}{hd:Nat->Int}{ro:Bool}:aa (.dV D [.str cR,.b7 k 1 u fb nb cb,.int .i64 us,.int .i64 hd] 4 133 C) (.dV D [.str cR,.b7 k' 1 u fb nb cb,.int .i64 us,.int .i64 hd] 4 133 ro):=by
 refine K5 rfl (Q _) λb hb k c1 c2 h1 h2 E=> ?_
 match k,h1,h2 with
 | 0,h1,h2=>injection h1 with h1;injection h2 with h2;subst h1;subst h2;rfl
 | 1,h1,h2=>injection h1 with h1;injection h2 with h2;subst h1;subst h2;rfl
 | 2,h1,h2=>injection h1 with h1;injection h2 with h2;subst h1;subst h2;rfl
 | 3,h1,h2=>injection h1 with h1;injection h2 with h2;subst h1;subst h2;rfl
 | k+4,h1,_=>simp at h1
theorem Ln {A:It}{c2 c3 c4:ak}:aa (.dV A.D [.str A.cR,c2,c3,c4] 4 133 C) A.bare:=by
 refine K5 rfl (by show 1<=4;omega) λb hb k c1 c2 h1 h2 E=> ?_
 match k,h1,h2 with
 | 0,h1,h2=>injection h1 with h1;injection h2 with h2;subst h1;subst h2;rfl
 | k+1,_,h2=>simp at h2
theorem OS (x:AdG)(hx:OR.pre x):az (runM RY 46 W OR x):=by
 refine az.pr (acR x) ?_;obtain⟨h0,hn,hroom,hmax,hlen,hread,hclo⟩:=hx;have hgood:(F (0<x.n)&&ni x.n x.f)=true:=by rw[decide_eq_true h0,hread];rfl
 have ef:flat [x.f 0]=x.f 0:=by unfold flat;simp
 simp only[Y,ay,true_and,decide_eq_true_eq,decide_eq_false_iff_not,ef];refine⟨⟨x.n,x.f,x.c⟩,⟨hn,hlen⟩,⟨rfl,rfl⟩,aa.refl _,λ_ y hG=> ?_,λh=>by rw[hgood] at h;cases h⟩;have hroot:aK x.f x.n (aG (x.f 0))=true:=qK _ _ _ h0;have hl0:=hlen 0 h0;refine⟨⟨Int.le_refl _,by omega⟩,h0,⟨by rw[ef];show(x.f 0).length<_;omega,by show 1<_;decide⟩,⟨x.n,x.f,y.A,y.g,x.room,aG (x.f 0)⟩,⟨hn,hG,hroot,hclo⟩,rfl,rfl,aa.fmap (λ_=>rfl) (λ_=>rfl),Lo,W4,λz ⟨hB,hzc⟩=> ?_⟩;have hL:=hB.len;dsimp only at hL hB ⊢;refine⟨⟨by omega,by omega⟩,λh=>absurd h (by omega),λ_=>⟨⟨0,aP _,rfl,aa.DK λ_=>rfl⟩,λi hi=>⟨λhlt=> ?_,λhge=> ?_⟩⟩⟩
 ·have hlt':i<z.1.length:=by omega
  have hd:=hB.dom _ (tV hlt');refine⟨⟨by omega,hlt⟩,hlt',λ_=>⟨⟨by omega,by omega⟩,i+1,⟨by omega,by omega⟩,by omega,aa.fmap (λh=>Po (λq=>z.1.getD q []) i h) λh=> ?_⟩,λh=>by rw[hd] at h;cases h⟩;exact congrArg (λv=>(aC.ref 5 λ_=>v).val h) (QI y.g _ h)
 ·obtain rfl:i=z.1.length:=by omega
  have hE: ∀ h,uf (λq=>z.1.getD q []) z.1.length h=cG z.1 h:=Tp _;refine⟨⟨(0,y.A.us),⟨aP _,⟨λa ha=>by have:=hG.us a ha;dsimp only;omega⟩⟩,rfl,aa.refl _⟩,λw ⟨hw,hU⟩=>⟨λhlt=> ?_,λhge2=> ?_⟩⟩
  ·have hlt':w.1<z.1.length:=by omega
   have hd:=hB.dom _ (tV hlt');have hT:y.A.cR (y.g (z.1.getD w.1 []))=qq x.n x.f (z.1.getD w.1 []):=hG.cR _ hd;have hnb:y.A.nb (y.g (z.1.getD w.1 []))=gz (qq x.n x.f (z.1.getD w.1 [])):=(hG.nb _ hd).trans (congrArg gz hT);have h16:gz (qq x.n x.f (z.1.getD w.1 []))<=16:=vt _ 16;refine⟨⟨by omega,hlt⟩,hlt',λ_=>⟨hG.dom _ hd,⟨(0,w.2),⟨by dsimp only;omega,hU⟩,rfl,aa.refl _⟩,λv ⟨hv,hV⟩=>⟨λhj=> ?_,λhj=> ?_⟩⟩,λh=>by rw[hd] at h;cases h⟩
   ·have hj':v.1<y.A.nb (y.g (z.1.getD w.1 [])):=by omega
    obtain⟨r1,r2,r3⟩:=hG.row _ hd (by omega);have hr:y.A.rf (y.A.fb (y.g (z.1.getD w.1 []))) v.1=eY (qq x.n x.f (z.1.getD w.1 [])) v.1:=by rw[r3 v.1 hj',hT]
    have hin:eY (qq x.n x.f (z.1.getD w.1 [])) v.1∈ z.1:=hB.clo w.1 hlt' hlt' v.1 (by omega);have ha:=hG.dom _ (hB.dom _ hin);rw[hr];have hb:=hV.all _ ha;refine⟨⟨by omega,hj⟩,⟨r1,by omega⟩,λ_=>⟨ha,⟨by omega,by omega⟩,ha,⟨by omega,by omega⟩,(v.1+1,λj=>if j=y.g (eY (qq x.n x.f (z.1.getD w.1 [])) v.1)then v.2 (y.g (eY (qq x.n x.f (z.1.getD w.1 [])) v.1))+1 else v.2 j),⟨⟨by dsimp only;omega,hV.up ha⟩,by dsimp only;omega⟩,by dsimp only;omega,aa.refl _⟩,λh=>by rw[hE,cG,decide_eq_true hin] at h;cases h⟩
   ·exact⟨⟨by omega,by omega⟩,(w.1+1,v.2),⟨⟨by dsimp only;omega,hV.le (by dsimp only;omega)⟩,by dsimp only;omega⟩,by dsimp only;omega,aa.refl _⟩
  ·have hz:=hG.us _ (hG.dom _ hroot);exact⟨λ_=>⟨hG.dom _ hroot,⟨by omega,by omega⟩,hG.dom _ hroot,⟨z.1,y.A,y.g⟩,⟨hB,λh hh=>hG.dom _ (hB.dom h hh),λh hh=>hG.cR _ (hB.dom h hh)⟩,aa.refl _,aa.fmap hE λ_=>rfl,Ln⟩,λh=>by rw[hE,cG,decide_eq_true hB.root] at h;cases h⟩
theorem Zz:av K 46 (cF OR) :=fH (n:=20) (fn:=W) Tryz.func46 (by kernel_rfl) (by kernel_rfl) OR λx hx=>⟨_,Z9,rfl,OS x hx⟩
structure ade (n:Nat)(t:Nat->Bool)(i:Nat):Prop where
 up:uU n t i
 le:i<=46
def Zj (z:Bool)(o c n:Nat)(f:Nat->List UInt8)(key:Option Nat):Seen:=⟨key,z,o,n,c,[.str f]⟩
def shT:List tq:=[.of (.slice dP)]
def WJ (f:Nat->List UInt8)(i k:Nat):Bool:=!(F (aG (f k)=aG (f i))&& !decide (f k=f i))
def apR (f:Nat->List UInt8)(i:Nat):Bool:=(ag i).all (WJ f i)
def fT (n:Nat)(f:Nat->List UInt8):Bool:=(ag n).all (apR f)
def Tu (f:Nat->List UInt8)(i c:Nat):SB:=.rows u i [.str λq=>aG (f q)] C (c*1) 9
noncomputable def ZF (n:Nat)(f:Nat->List UInt8):bg :={α:=Nat×Nat,pre:=λ_ y=>c9 n (apR f) y.1/\y.1<=y.2,kY:=λ_ y=>n - y.1,fresh:=1,slots:=λst y=>[(4,.int .i64 C y.1),(3,.bx st.nx 1 u 0 y.1 y.2)],mem:=λst y=>[(st.nx,Tu f y.1 y.2)]}
noncomputable def ZG (i:Nat)(f:Nat->List UInt8):bg :={α:=Nat,pre:=λ_ k=>c9 i (WJ f i) k,kY:=λ_ k=>i - k,fresh:=0,slots:=λ_ k=>[(6,.int .i64 C k)],mem:=λ_ _=>[]}
noncomputable def RZ (n:Nat)(f:Nat->List UInt8):fQ:={cv with cQ:=λf=>aD f fY,bD:=λh=>if h=45 then [(3,always (ZF n f)),(7,λst=>match slot st.tmps 4 with
 | some (.int _ _ i)=>I (one (ZG i.toNat f))
 | _=>H)] else []}
theorem aaa (n:Nat)(f:Nat->List UInt8):Sx.Good K (RZ n f):=.of bX cZ bw
theorem Yn (n:Nat)(f:Nat->List UInt8)(z:Bool)(o c:Nat)(key:Option Nat):dA (.n (.s 0 (.n .k (.n .k .t))) (.n (.s 2 (.n (.s 0 (.n .k .t)) (.n (.s 1 (.n (.s 6 (.n .k .t)) (.s 1 (.n .k .t)))) (.s 3 (.n .k (.n (.s 0 .k) (.s 0 (.n .k .t)))))))) .t)) (iG (RZ n f) 45 V [.bH 0 1 z o 0 n c] [Zj z o c n f key] (.ret (.bool C (fT n f)))) (((∃(u9:Nat×Nat),(c9 n (apR f) u9.1/\u9.1<=u9.2)/\0=(u9.1:Int)/\u9.1=0/\(Tu f u9.1 u9.2).no=u)/\∀(u8:Nat×Nat),c9 n (apR f) u8.1/\u8.1<=u8.2->(F ((u8.1:Int)<(n:Int))=u->(0<=(u8.1:Int)/\(u8.1:Int)<(n:Int))/\(o=o/\0+(u8.1:Int).toNat<n)/\(True/\Qj [f (0+(u8.1:Int).toNat)])/\(∃(u7:Nat),c9 (u8.1:Int).toNat (WJ f (u8.1:Int).toNat) u7/\0=(u7:Int))/\∀(u6:Nat),c9 (u8.1:Int).toNat (WJ f (u8.1:Int).toNat) u6->(F ((u6:Int)<(u8.1:Int))=u->(0<=(u6:Int)/\(u6:Int)<(u8.1:Int))/\0+(u6:Int).toNat<u8.1/\(F (aG (f (0+(u6:Int).toNat))=aG (flat [f (0+(u8.1:Int).toNat)]))=u->(0<=(u6:Int)/\(u6:Int)<(n:Int))/\(o=o/\0+(u6:Int).toNat<n)/\(0<=(u8.1:Int)/\(u8.1:Int)<(n:Int))/\(o=o/\0+(u8.1:Int).toNat<n)/\((!decide (f (0+(u6:Int).toNat)=f (0+(u8.1:Int).toNat)))=u->af (SV.bool u C) (SV.bool C (fT n f)))/\((!decide (f (0+(u6:Int).toNat)=f (0+(u8.1:Int).toNat)))=C ->I6 ((u6:Int)+1)/\∃(u5:Nat),(c9 (u8.1:Int).toNat (WJ f (u8.1:Int).toNat) u5/\(u8.1:Int).toNat - u5<(u8.1:Int).toNat - u6)/\(u6:Int)+1=(u5:Int)))/\(F (aG (f (0+(u6:Int).toNat))=aG (flat [f (0+(u8.1:Int).toNat)]))=C->I6 ((u6:Int)+1)/\∃(u4:Nat),(c9 (u8.1:Int).toNat (WJ f (u8.1:Int).toNat) u4/\(u8.1:Int).toNat - u4<(u8.1:Int).toNat - u6)/\(u6:Int)+1=(u4:Int)))/\(F ((u6:Int)<(u8.1:Int))=C->(0+u8.1<=u8.1/\True/\2*(u8.1+1)*16<=(281474976710656:Nat)/\u8.1+1<(9223372036854775808:Nat))/\∀(u3:Nat),u8.1+1<=u3->I6 ((u8.1:Int)+1)/\∃(u2:Nat×Nat),((c9 n (apR f) u2.1/\u2.1<=u2.2)/\n - u2.1<n - u8.1)/\(u8.1:Int)+1=(u2.1:Int)/\(u8.1+1=u2.1/\u3=u2.2) /\aa (SB.rows u (u8.1+1) [ak.str λu1=>if u1<u8.1 then aG (f u1)else bT [aG (flat [f (0+(u8.1:Int).toNat)])] (u1 - u8.1)] C (u3*1) 9) (SB.rows u u2.1 [ak.str λu0=>aG (f u0)] C (u2.2*1) 9)))/\(F ((u8.1:Int)<(n:Int))=C->af (SV.bool u u) (SV.bool C (fT n f))))):=⟨by kernel_rfl,by kernel_rfl⟩
theorem Hl (h:fT n f=u)(hi:i<n)(hk:k<i)(e:aG (f k)=aG (f i)):f k=f i:=by have h1:=a!.1 h i (S.2 hi);have h2:=a!.1 h1 k (S.2 hk);unfold WJ at h2;rw[decide_eq_true e,Bool.true_and,Bool.not_not] at h2;exact of_decide_eq_true h2
theorem tQ (h:fT n f=u)(hi:i<n)(hk:k<n)(e:aG (f k)=aG (f i)):f k=f i:=by
 rcases Nat.lt_trichotomy k i with g | g | g
 ·exact Hl h hi g e
 ·rw[g]
 ·exact(Hl h hk g e.symm).symm
theorem Vv (h:fT n f=u)(hi:i<n):qq n f (aG (f i))=f i:=by obtain⟨h1,h2,h3⟩:=gT f n _ (qK f n i hi);exact tQ h hi (by omega) h3
theorem Hj (n:Nat)(f:Nat->List UInt8)(hn:n<=100000)(hf: ∀ i,i<n->(f i).length<1099511627776)(z:Bool)(o c:Nat)(key:Option Nat):az (iG (RZ n f) 45 V [.bH 0 1 z o 0 n c] [Zj z o c n f key] (.ret (.bool C (fT n f)))):=by
 refine az.pr (Yn n f z o c key) ?_;have ef: ∀ i,flat [f i]=f i:=λi=>by unfold flat;simp
 simp only[Y,ay,true_and,decide_eq_true_eq,decide_eq_false_iff_not,Bool.not_eq_true',Bool.not_eq_false',ef];refine⟨⟨(0,0),⟨c9.zero _ _,Q _⟩,rfl,rfl,rfl⟩,λx ⟨h1,h2⟩=>⟨λh=> ?_,λh=>fU (h1.done h).symm⟩⟩;obtain⟨i,c⟩:=x;dsimp only at h1 h2 h ⊢;have hlt:i<n:=by omega
 have hi:=hf i hlt;refine⟨⟨by omega,h⟩,hlt,⟨by rw[ef];exact Nat.lt_trans hi (by decide),by show 1<_;decide⟩,⟨0,c9.zero _ _,rfl⟩,λk hk=>⟨λhj=> ?_,λhj=> ?_⟩⟩
 ·have hlt2:k<i:=by omega
  have hkn:k<n:=by omega
  refine⟨⟨by omega,hj⟩,hlt2,λhe=>⟨⟨by omega,by omega⟩,hkn,⟨by omega,h⟩,hlt,λhne=>fU ?_,λhse=>⟨⟨by omega,by omega⟩,k+1,⟨hk.next hj ?_,by omega⟩,by omega⟩⟩,λhne=>⟨⟨by omega,by omega⟩,k+1,⟨hk.next hj ?_,by omega⟩,by omega⟩⟩
  ·cases ha:fT n f with
   | false=>rfl
   | true=>exact absurd (tQ ha hlt hkn he) hne
  ·unfold WJ;rw[decide_eq_true hse,Bool.not_true,Bool.and_false];rfl
  ·unfold WJ;rw[decide_eq_false hne,Bool.false_and];rfl
 ·refine⟨⟨Q _,by omega,by omega⟩,λc' hc'=>⟨⟨by omega,by omega⟩,(i+1,c'),⟨⟨h1.next h (hk.done hj),hc'⟩,by dsimp only;omega⟩,by dsimp only;omega,⟨rfl,rfl⟩,?_⟩⟩
  refine kg rfl rfl rfl λk c1 c2 e1 e2 q hq E=> ?_
  match k,e1,e2 with
  | 0,e1,e2 =>
    injection e1 with e1;injection e2 with e2;subst e1;subst e2;simp only[ak.at,SV.val];by_cases hqi:q<i
    ·rw[if_pos hqi]
    ·obtain rfl:q=i:=by omega
     rw[if_neg hqi,Nat.sub_self];rfl
  | k+1,e1,_=>simp at e1
def wV (vs:List SV)(l:List Seen):Option (Prop×cO):=match vs,l with
 | [_],[⟨_,_,_,n,_,[.str f]⟩]=>I (n<=100000/\(∀ i,i<n->(f i).length<1099511627776),.ret (.bool C (fT n f)))
 | _,_=>H
theorem RL:av K 45 (bS shT wV):=by
 refine gp (n:=20) (fn:=V) Tryz.func45 (by kernel_rfl) (by kernel_rfl) ?_;intro vs l q a h hq;unfold wV at h;split at h
 ·rename_i v key z o n c f;injection h with h;injection h with h1 h2;subst h1;subst h2;exact⟨_,aaa n f,rfl,rfl,Hj n f hq.1 hq.2 z o c key⟩
 ·cases h
theorem Yo (m:Nat)(x:List Rw×Nat):dA (.n (.s 0 (.n (.s 0 (.n .k (.s 0 .k))) (.s 0 (.n .k (.s 0 .k))))) (.n (.s 4 (.n (.s 0 (.n .k (.s 0 .k))) (.s 0 (.n .k (.s 0 .k))))) (.s 5 (.n (.s 11 (.n (.s 0 .k) (.s 0 (.n .k (.s 1 (.n .k (.s 3 (.n (.s 0 (.n .k (.s 0 .k))) (.s 0 (.n .k (.s 0 .k))))))))))) (.n (.s 0 (.n .k (.s 1 (.n .k (.s 2 (.n .k .t)))))) (.n (.s 0 (.n (.s 0 .k) (.s 1 (.n .k (.n .k (.s 4 (.n (.s 0 .k) (.s 0 (.n .k (.s 1 (.n (.s 0 .k) (.s 0 (.n .k (.n .k (.n .k (.s 4 (.n .k (.s 1 (.n (.s 0 .k) (.s 0 (.n .k (.n .k (.n .k (.n .k .t)))))))))))))))))))))))) (.s 1 (.n (.s 2 (.n (.s 0 (.n .k (.s 0 .k))) (.s 0 (.n .k (.s 0 .k))))) (.s 0 (.n (.s 0 (.n .k (.s 0 .k))) (.s 0 (.n .k (.s 0 .k))))))))))))) (runM (Ni m x.1) 63 X (w9 (m+1)) x) ((λR0:Nat->(Nat×ki)->SV=>((λR1:Nat->(Nat×ki)->(tn)->SV=>((λR2:Nat->(Nat×ki)->SV=>((λP0:(List Rw×Nat×Nat)->SB=>(((F ((x.1.length:Int)=0)=u->Fits {k:=(0:Int),p:=[],v:=[],r:=fun(u160:Nat)=>(cK (λ_=>[]) []).getD u160 []:Nd}/\(aX {k:=(0:Int),p:=[],v:=[],r:=fun(u159:Nat)=>(cK (λ_=>[]) []).getD u159 []:Nd}=u->∀(u158:Nat),∃(u157:Nat×Pd),Told u157.2 (m+1+(1:Nat)) u157.1 (cM (m+1) x.1)/\u158=u157.1/\aa (SB.dV (fun(u156:Nat)=>u156.beq u158) [ak.str fun(_u155:Nat)=>cS {k:=(0:Int),p:=[],v:=[],r:=fun(u154:Nat)=>(cK (λ_=>[]) []).getD u154 []:Nd},ak.b7 0 1 u (fun(_u153:Nat)=>(0:Nat)) (fun(_u152:Nat)=>(0:Nat)) fun(_u151:Nat)=>(0:Nat)] 2 165 C) (u157.2.parts 2)/\∀(u150:Nat),¬SB.gb 0 (u157.2.lists 1) u150)/\(aX {k:=(0:Int),p:=[],v:=[],r:=fun(u149:Nat)=>(cK (λ_=>[]) []).getD u149 []:Nd}=C->∀(u148:Nat),∃(u147:Nat×Pd),Told u147.2 (m+1+(1:Nat)) u147.1 (cM (m+1) x.1)/\u148=u147.1 /\aa (SB.dV (fun(u146:Nat)=>u146.beq u148) [ak.str fun(_u145:Nat)=>[],ak.b7 0 1 u (fun(_u144:Nat)=>(0:Nat)) (fun(_u143:Nat)=>(0:Nat)) fun(_u142:Nat)=>(0:Nat)] 2 165 C) (u147.2.parts 2)/\∀(u141:Nat),¬SB.gb 0 (u147.2.lists 1) u141))/\(F ((x.1.length:Int)=0)=C->(F ((x.1.length:Int)=1)=u->((0:Int)<=(0:Int)/\0<(x.1.length:Int))/\0<x.1.length/\((0:Int)<=(0:Int)/\0<(x.1.length:Int))/\0<x.1.length/\Fits {k:=(1:Int),p:=(x.1.getD 0 ([],[])).1,v:=(x.1.getD 0 ([],[])).2,r:=fun(u140:Nat)=>(cK (λ_=>[]) []).getD u140 []:Nd}/\(aX {k:=(1:Int),p:=(x.1.getD 0 ([],[])).1,v:=(x.1.getD 0 ([],[])).2,r:=fun(u139:Nat)=>(cK (λ_=>[]) []).getD u139 []:Nd}=u->∀(u138:Nat),∃(u137:Nat×Pd),Told u137.2 (m+1+(1:Nat)) u137.1 (cM (m+1) x.1)/\u138=u137.1 /\aa (SB.dV (fun(u136:Nat)=>u136.beq u138) [ak.str fun(_u135:Nat)=>cS {k:=(1:Int),p:=(x.1.getD 0 ([],[])).1,v:=(x.1.getD 0 ([],[])).2,r:=fun(u134:Nat)=>(cK (λ_=>[]) []).getD u134 []:Nd},ak.b7 0 1 u (fun(_u133:Nat)=>(0:Nat)) (fun(_u132:Nat)=>(0:Nat)) fun(_u131:Nat)=>(0:Nat)] 2 165 C) (u137.2.parts 2)/\∀(u130:Nat),¬SB.gb 0 (u137.2.lists 1) u130)/\(aX {k:=(1:Int),p:=(x.1.getD 0 ([],[])).1,v:=(x.1.getD 0 ([],[])).2,r:=fun(u129:Nat)=>(cK (λ_=>[]) []).getD u129 []:Nd}=C->∀(u128:Nat),∃(u127:Nat×Pd),Told u127.2 (m+1+(1:Nat)) u127.1 (cM (m+1) x.1)/\u128=u127.1/\aa (SB.dV (fun(u126:Nat)=>u126.beq u128) [ak.str fun(_u125:Nat)=>[],ak.b7 0 1 u (fun(_u124:Nat)=>(0:Nat)) (fun(_u123:Nat)=>(0:Nat)) fun(_u122:Nat)=>(0:Nat)] 2 165 C) (u127.2.parts 2)/\∀(u121:Nat),¬SB.gb 0 (u127.2.lists 1) u121))/\(F ((x.1.length:Int)=1)=C->((0:Int)<=(0:Int)/\0<(x.1.length:Int)) /\0<x.1.length/\I6 ((x.1.length:Int) - 1)/\(0<=(x.1.length:Int) - 1/\(x.1.length:Int) - 1<(x.1.length:Int))/\0+((x.1.length:Int) - 1).toNat<x.1.length/\(x.1.getD 0 ([],[])).1.length<9223372036854775807/\(F (0<(↑(bP (x.1.getD 0 ([],[])).1 (x.1.getD (0+((x.1.length:Int) - 1).toNat) ([],[])).1):Int))=u->((0:Int)<=(0:Int)/\0<(x.1.length:Int))/\0<x.1.length/\I6 ((x.1.length:Int) - 1)/\(0<=(x.1.length:Int) - 1/\(x.1.length:Int) - 1<(x.1.length:Int))/\0+((x.1.length:Int) - 1).toNat<x.1.length/\(x.1.getD 0 ([],[])).1.length<9223372036854775807/\((0:Int)<=(0:Int)/\0<(x.1.length:Int))/\0<x.1.length/\((0:Int)<=(0:Int)/\0<=(↑(bP (x.1.getD 0 ([],[])).1 (x.1.getD (0+((x.1.length:Int) - 1).toNat) ([],[])).1):Int) /\(↑(bP (x.1.getD 0 ([],[])).1 (x.1.getD (0+((x.1.length:Int) - 1).toNat) ([],[])).1):Int)<=(↑(x.1.getD 0 ([],[])).1.length:Int))/\(((C=C/\0+x.1.length<=x.1.length)/\True/\True)/\0<=(↑(bP (x.1.getD 0 ([],[])).1 (x.1.getD (0+((x.1.length:Int) - 1).toNat) ([],[])).1):Int)/\x.1.length<=1000/\∀(u120:Nat),u120<x.1.length->(↑(bP (x.1.getD 0 ([],[])).1 (x.1.getD (0+((x.1.length:Int) - 1).toNat) ([],[])).1):Int).toNat<=(x.1.getD u120 ([],[])).1.length)/\∀(u119:Nat),(cq (↑(bP (x.1.getD 0 ([],[])).1 (x.1.getD (0+((x.1.length:Int) - 1).toNat) ([],[])).1):Int).toNat (aI x.1.length (fun(u118:Nat)=>(x.1.getD u118 ([],[])).1) fun(u117:Nat)=>(x.1.getD u117 ([],[])).2)).length<=u119->∃(u116:tn),(bV m u116.l/\u116.l.length<=1000/\m<=13/\u116.nb<=u116.cb/\(u116.B++mP m u116.l).length<=100000/\ko u116.P (m+1) u116.nb u116.f u116.B) /\((cq (↑(bP (x.1.getD 0 ([],[])).1 (x.1.getD (0+((x.1.length:Int) - 1).toNat) ([],[])).1):Int).toNat (aI x.1.length (fun(u115:Nat)=>(x.1.getD u115 ([],[])).1) fun(u114:Nat)=>(x.1.getD u114 ([],[])).2)).length=u116.l.length/\u119=u116.c)/\aa (SB.rows C (cq (↑(bP (x.1.getD 0 ([],[])).1 (x.1.getD (0+((x.1.length:Int) - 1).toNat) ([],[])).1):Int).toNat (aI x.1.length (fun(u113:Nat)=>(x.1.getD u113 ([],[])).1) fun(u112:Nat)=>(x.1.getD u112 ([],[])).2)).length [bY (cq (↑(bP (x.1.getD 0 ([],[])).1 (x.1.getD (0+((x.1.length:Int) - 1).toNat) ([],[])).1):Int).toNat (aI x.1.length (fun(u111:Nat)=>(x.1.getD u111 ([],[])).1) fun(u110:Nat)=>(x.1.getD u110 ([],[])).2)),bZ (cq (↑(bP (x.1.getD 0 ([],[])).1 (x.1.getD (0+((x.1.length:Int) - 1).toNat) ([],[])).1):Int).toNat (aI x.1.length (fun(u109:Nat)=>(x.1.getD u109 ([],[])).1) fun(u108:Nat)=>(x.1.getD u108 ([],[])).2))] C (u119*2) 174) (SB.rows C u116.l.length [bY u116.l,bZ u116.l] u (u116.c*2) 174)/\u116.nb=0 /\(SB.rows u u116.nb [ak.ref 3 u116.f] C (u116.cb*1) 106).no=u/\(∀(u107:Nat),¬SB.gb 0 (u116.P.parts 4) u107)/\(∀(u106:Nat),¬SB.gb 0 (u116.P.lists 3) u106)/\∀(u105:ki),u105.nb<=u105.cb/\ko u105.P (m+1) u105.nb u105.f (u116.B++mP m u116.l)->Fits {k:=(2:Int),p:=bO (x.1.getD 0 ([],[])).1 H (I (M 81)) 0 (↑(bP (x.1.getD 0 ([],[])).1 (x.1.getD (0+((x.1.length:Int) - 1).toNat) ([],[])).1):Int),v:=[],r:=fun(u104:Nat)=>(iU m u116.l::K15 (λ_=>[]) []).getD u104 []:Nd}/\(aX {k:=(2:Int),p:=bO (x.1.getD 0 ([],[])).1 H (I (M 81)) 0 (↑(bP (x.1.getD 0 ([],[])).1 (x.1.getD (0+((x.1.length:Int) - 1).toNat) ([],[])).1):Int),v:=[],r:=fun(u103:Nat)=>(iU m u116.l::K15 (λ_=>[]) []).getD u103 []:Nd}=u->∀(u102:Nat),(∀(u101:Nat),u105.P.D2 u101=u->(u101.beq u102&& !(u&&u105.nb.beq 0))=C)->∀(u100:Nat),(∀(u99:Nat),u105.P.D u99=u->u99.beq u100=C) ->∃(u98:Nat×Pd),Told u98.2 (m+1+(1:Nat)) u98.1 (cM (m+1) x.1)/\u100=u98.1/\aa (SB.dV (fun(u97:Nat)=>u105.P.D u97||u97.beq u100) [ak.str λu96=>bif u105.P.D u96 then u105.P.cR u96 else cS {k:=(2:Int),p:=bO (x.1.getD 0 ([],[])).1 H (I (M 81)) 0 (↑(bP (x.1.getD 0 ([],[])).1 (x.1.getD (0+((x.1.length:Int) - 1).toNat) ([],[])).1):Int),v:=[],r:=fun(u95:Nat)=>(iU m u116.l::K15 (λ_=>[]) []).getD u95 []:Nd},ak.b7 (bif(id (bif(id 8).beq 9 then(8:Nat)else id 8)).beq 1 then(7:Nat)else id (bif(id 8).beq 9 then(8:Nat)else id 8)) 1 u (fun(u94:Nat)=>bif u105.P.D u94 then u105.P.fb u94 else u102) (fun(u93:Nat)=>bif u105.P.D u93 then u105.P.nb u93 else u105.nb) fun(u92:Nat)=>bif u105.P.D u92 then u105.P.cb u92 else u105.cb] 2 165 C) (u98.2.parts 2) /\aa (SB.dG (fun(u91:Nat)=>u105.P.D2 u91||u91.beq u102&& !(u&&u105.nb.beq 0)) (fun(u90:Nat)=>bif u105.P.D2 u90 then u105.P.n2 u90 else u105.nb) [b9.ref (bif(id (bif(id 7).beq 9 then(8:Nat)else id 7)).beq 1 then(7:Nat)else id (bif(id 7).beq 9 then(8:Nat)else id 7)) fun(b i:Nat)=>bif u105.P.D2 b then u105.P.g b i else u105.f i] C) (u98.2.lists 1))/\(aX {k:=(2:Int),p:=bO (x.1.getD 0 ([],[])).1 H (I (M 81)) 0 (↑(bP (x.1.getD 0 ([],[])).1 (x.1.getD (0+((x.1.length:Int) - 1).toNat) ([],[])).1):Int),v:=[],r:=fun(u89:Nat)=>(iU m u116.l::K15 (λ_=>[]) []).getD u89 []:Nd}=C->∀(u88:Nat),(∀(u87:Nat),u105.P.D2 u87=u->(u87.beq u88&& !(u&&u105.nb.beq 0))=C)->∀(u86:Nat),(∀(u85:Nat),u105.P.D u85=u->u85.beq u86=C)->∃(u84:Nat×Pd),Told u84.2 (m+1+(1:Nat)) u84.1 (cM (m+1) x.1)/\u86=u84.1 /\aa (SB.dV (fun(u83:Nat)=>u105.P.D u83||u83.beq u86) [ak.str λu82=>bif u105.P.D u82 then u105.P.cR u82 else [],ak.b7 (bif(id (bif(id 8).beq 9 then(8:Nat)else id 8)).beq 1 then(7:Nat)else id (bif(id 8).beq 9 then(8:Nat)else id 8)) 1 u (fun(u81:Nat)=>bif u105.P.D u81 then u105.P.fb u81 else u88) (fun(u80:Nat)=>bif u105.P.D u80 then u105.P.nb u80 else u105.nb) fun(u79:Nat)=>bif u105.P.D u79 then u105.P.cb u79 else u105.cb] 2 165 C) (u84.2.parts 2)/\aa (SB.dG (fun(u78:Nat)=>u105.P.D2 u78||u78.beq u88&& !(u&&u105.nb.beq 0)) (fun(u77:Nat)=>bif u105.P.D2 u77 then u105.P.n2 u77 else u105.nb) [b9.ref (bif(id (bif(id 7).beq 9 then(8:Nat)else id 7)).beq 1 then(7:Nat)else id (bif(id 7).beq 9 then(8:Nat)else id 7)) fun(b i:Nat)=>bif u105.P.D2 b then u105.P.g b i else u105.f i] C) (u84.2.lists 1)))/\(F (0<(↑(bP (x.1.getD 0 ([],[])).1 (x.1.getD (0+((x.1.length:Int) - 1).toNat) ([],[])).1):Int))=C->(∃(u76:Nat×ki),(u76.1<=16/\u76.2.nb<=u76.2.cb/\ko u76.2.P (m+1) u76.2.nb u76.2.f (fR m x.1 u76.1)) /\0=(u76.1:Int)/\u76.2.nb=0/\(SB.rows u u76.2.nb [ak.ref ((4:Nat)) u76.2.f] C (u76.2.cb*1) 106).no=u/\(∀(u75:Nat),¬SB.gb 0 (u76.2.P.parts ((5:Nat))) u75)/\(∀(u74:Nat),¬SB.gb 0 (u76.2.P.lists ((4:Nat))) u74)/\aa (SB.cells (SV.int .i64 u 3::SV.str u []::SV.str u []::E6) 19 138) (SB.cells (SV.int .i64 C 3::SV.str C []::SV.str C []::cK (λi=>R0 i u76) []) 19 138))/\∀(u73:Nat×ki),u73.1<=16/\u73.2.nb<=u73.2.cb/\ko u73.2.P (m+1) u73.2.nb u73.2.f (fR m x.1 u73.1)->(F ((u73.1:Int)<16)=u->∃(u72:List Rw×Nat×Nat),u72.1.length<=1000 /\(x.1.length=u72.1.length/\x.2=u72.2.1)/\aa (SB.rows C x.1.length [bY x.1,bZ x.1] u (x.2*2) 174) (SB.rows C u72.1.length [bY u72.1,bZ u72.1] u (u72.2.1*2) 174)/\aa (SB.cells [SV.int .i64 C (u73.1:Int)] 1 3) (P0 u72)/\∀(u71:Nat),(bI u72.2.2 u72.1).length<=u71->I (P0 u72)=I (SB.cells [SV.int .i64 C (u73.1:Int)] 1 3)/\(((u=u/\0+(bI u72.2.2 u72.1).length<=(bI u72.2.2 u72.1).length)/\True/\True)/\(0:Int)<=(1:Int)/\(bI u72.2.2 u72.1).length<=1000/\∀(u70:Nat),u70<(bI u72.2.2 u72.1).length->1<=((bI u72.2.2 u72.1).getD u70 ([],[])).1.length)/\∀(u69:Nat),(cq 1 (aI (bI u72.2.2 u72.1).length (fun(u68:Nat)=>((bI u72.2.2 u72.1).getD u68 ([],[])).1) fun(u67:Nat)=>((bI u72.2.2 u72.1).getD u67 ([],[])).2)).length<=u69->I (P0 u72)=I (P0 u72)/\∃(u66:tn),(bV m u66.l/\u66.l.length<=1000/\m<=13/\u66.nb<=u66.cb/\(u66.B++mP m u66.l).length<=100000/\ko u66.P (m+1) u66.nb u66.f u66.B) /\((cq 1 (aI (bI u72.2.2 u72.1).length (fun(u65:Nat)=>((bI u72.2.2 u72.1).getD u65 ([],[])).1) fun(u64:Nat)=>((bI u72.2.2 u72.1).getD u64 ([],[])).2)).length=u66.l.length/\u69=u66.c)/\aa (SB.rows C (cq 1 (aI (bI u72.2.2 u72.1).length (fun(u63:Nat)=>((bI u72.2.2 u72.1).getD u63 ([],[])).1) fun(u62:Nat)=>((bI u72.2.2 u72.1).getD u62 ([],[])).2)).length [bY (cq 1 (aI (bI u72.2.2 u72.1).length (fun(u61:Nat)=>((bI u72.2.2 u72.1).getD u61 ([],[])).1) fun(u60:Nat)=>((bI u72.2.2 u72.1).getD u60 ([],[])).2)),bZ (cq 1 (aI (bI u72.2.2 u72.1).length (fun(u59:Nat)=>((bI u72.2.2 u72.1).getD u59 ([],[])).1) fun(u58:Nat)=>((bI u72.2.2 u72.1).getD u58 ([],[])).2))] C (u69*2) 174) (SB.rows C u66.l.length [bY u66.l,bZ u66.l] u (u66.c*2) 174)/\(u73.2.nb=u66.nb/\u73.2.cb=u66.cb)/\aa (SB.rows u u73.2.nb [ak.ref ((4:Nat)) u73.2.f] C (u73.2.cb*1) 106) (SB.rows u u66.nb [ak.ref 3 u66.f] C (u66.cb*1) 106) /\aa (SB.dV u73.2.P.D [ak.str u73.2.P.cR,ak.b7 ((5:Nat)) 1 u u73.2.P.fb u73.2.P.nb u73.2.P.cb] 2 165 C) (u66.P.parts 4)/\aa (SB.dG u73.2.P.D2 u73.2.P.n2 [b9.ref ((4:Nat)) u73.2.P.g] C) (u66.P.lists 3)/\∀(u57:ki),u57.nb<=u57.cb/\ko u57.P (m+1) u57.nb u57.f (u66.B++mP m u66.l)->I (P0 u72)=I (P0 u72)/\(0<=(u73.1:Int)/\(u73.1:Int)<16)/\(u73.1:Int).toNat<16/\I6 ((u73.1:Int)+1)/\∃(u56:Nat×ki),((u56.1<=16/\u56.2.nb<=u56.2.cb/\ko u56.2.P (m+1) u56.2.nb u56.2.f (fR m x.1 u56.1))/\16 - u56.1<16 - u73.1)/\(u73.1:Int)+1=(u56.1:Int)/\(u57.nb=u56.2.nb/\u57.cb=u56.2.cb)/\aa (SB.rows u u57.nb [ak.ref 4 u57.f] C (u57.cb*1) 106) (SB.rows u u56.2.nb [ak.ref ((4:Nat)) u56.2.f] C (u56.2.cb*1) 106) /\aa (SB.dV u57.P.D [ak.str u57.P.cR,ak.b7 5 1 u u57.P.fb u57.P.nb u57.P.cb] 2 165 C) (u56.2.P.parts ((5:Nat)))/\aa (SB.dG u57.P.D2 u57.P.n2 [b9.ref 4 u57.P.g] C) (u56.2.P.lists ((4:Nat)))/\aa (SB.cells (SV.int .i64 C 3::SV.str C []::SV.str C []::cK (λi=>R1 i u73 u66) []) 19 138) (SB.cells (SV.int .i64 C 3::SV.str C []::SV.str C []::cK (λi=>R2 i u56) []) 19 138))/\(F ((u73.1:Int)<16)=C->((0:Int)<=(0:Int)/\0<(x.1.length:Int))/\0<x.1.length/\(F ((x.1.getD 0 ([],[])).1=[])=u->((0:Int)<=(0:Int)/\0<(x.1.length:Int))/\0<x.1.length /\Fits {k:=(3:Int),p:=[],v:=(x.1.getD 0 ([],[])).2,r:=fun(u55:Nat)=>(cK (kQ m x.1 u73.1) []).getD u55 []:Nd}/\(aX {k:=(3:Int),p:=[],v:=(x.1.getD 0 ([],[])).2,r:=fun(u54:Nat)=>(cK (kQ m x.1 u73.1) []).getD u54 []:Nd}=u->∀(u53:Nat),(∀(u52:Nat),u73.2.P.D2 u52=u->(u52.beq u53&& !(u&&u73.2.nb.beq 0))=C) ->∀(u51:Nat),(∀(u50:Nat),u73.2.P.D u50=u->u50.beq u51=C)->∃(u49:Nat×Pd),Told u49.2 (m+1+(1:Nat)) u49.1 (cM (m+1) x.1)/\u51=u49.1 /\aa (SB.dV (fun(u48:Nat)=>u73.2.P.D u48||u48.beq u51) [ak.str λu47=>bif u73.2.P.D u47 then u73.2.P.cR u47 else cS {k:=(3:Int),p:=[],v:=(x.1.getD 0 ([],[])).2,r:=fun(u46:Nat)=>(cK (kQ m x.1 u73.1) []).getD u46 []:Nd},ak.b7 (bif(id (bif(id ((5:Nat))).beq ((3:Nat))then(5:Nat)else id ((5:Nat)))).beq 1 then(4:Nat)else id (bif(id ((5:Nat))).beq ((3:Nat))then(5:Nat)else id ((5:Nat)))) 1 u (fun(u45:Nat)=>bif u73.2.P.D u45 then u73.2.P.fb u45 else u53) (fun(u44:Nat)=>bif u73.2.P.D u44 then u73.2.P.nb u44 else u73.2.nb) fun(u43:Nat)=>bif u73.2.P.D u43 then u73.2.P.cb u43 else u73.2.cb] 2 165 C) (u49.2.parts 2) /\aa (SB.dG (fun(u42:Nat)=>u73.2.P.D2 u42||u42.beq u53&& !(u&&u73.2.nb.beq 0)) (fun(u41:Nat)=>bif u73.2.P.D2 u41 then u73.2.P.n2 u41 else u73.2.nb) [b9.ref (bif(id (bif(id ((4:Nat))).beq ((3:Nat))then(5:Nat)else id ((4:Nat)))).beq 1 then(4:Nat)else id (bif(id ((4:Nat))).beq ((3:Nat))then(5:Nat)else id ((4:Nat)))) fun(b i:Nat)=>bif u73.2.P.D2 b then u73.2.P.g b i else u73.2.f i] C) (u49.2.lists 1)) /\(aX {k:=(3:Int),p:=[],v:=(x.1.getD 0 ([],[])).2,r:=fun(u40:Nat)=>(cK (kQ m x.1 u73.1) []).getD u40 []:Nd}=C->∀(u39:Nat),(∀(u38:Nat),u73.2.P.D2 u38=u->(u38.beq u39&& !(u&&u73.2.nb.beq 0))=C)->∀(u37:Nat),(∀(u36:Nat),u73.2.P.D u36=u->u36.beq u37=C)->∃(u35:Nat×Pd),Told u35.2 (m+1+(1:Nat)) u35.1 (cM (m+1) x.1)/\u37=u35.1 /\aa (SB.dV (fun(u34:Nat)=>u73.2.P.D u34||u34.beq u37) [ak.str λu33=>bif u73.2.P.D u33 then u73.2.P.cR u33 else [],ak.b7 (bif(id (bif(id ((5:Nat))).beq ((3:Nat))then(5:Nat)else id ((5:Nat)))).beq 1 then(4:Nat)else id (bif(id ((5:Nat))).beq ((3:Nat))then(5:Nat)else id ((5:Nat)))) 1 u (fun(u32:Nat)=>bif u73.2.P.D u32 then u73.2.P.fb u32 else u39) (fun(u31:Nat)=>bif u73.2.P.D u31 then u73.2.P.nb u31 else u73.2.nb) fun(u30:Nat)=>bif u73.2.P.D u30 then u73.2.P.cb u30 else u73.2.cb] 2 165 C) (u35.2.parts 2) /\aa (SB.dG (fun(u29:Nat)=>u73.2.P.D2 u29||u29.beq u39&& !(u&&u73.2.nb.beq 0)) (fun(u28:Nat)=>bif u73.2.P.D2 u28 then u73.2.P.n2 u28 else u73.2.nb) [b9.ref (bif(id (bif(id ((4:Nat))).beq ((3:Nat))then(5:Nat)else id ((4:Nat)))).beq 1 then(4:Nat)else id (bif(id ((4:Nat))).beq ((3:Nat))then(5:Nat)else id ((4:Nat)))) fun(b i:Nat)=>bif u73.2.P.D2 b then u73.2.P.g b i else u73.2.f i] C) (u35.2.lists 1)))/\(F ((x.1.getD 0 ([],[])).1=[])=C ->Fits {k:=(3:Int),p:=[],v:=[],r:=fun(u27:Nat)=>(cK (kQ m x.1 u73.1) []).getD u27 []:Nd}/\(aX {k:=(3:Int),p:=[],v:=[],r:=fun(u26:Nat)=>(cK (kQ m x.1 u73.1) []).getD u26 []:Nd}=u->∀(u25:Nat),(∀(u24:Nat),u73.2.P.D2 u24=u->(u24.beq u25&& !(u&&u73.2.nb.beq 0))=C)->∀(u23:Nat),(∀(u22:Nat),u73.2.P.D u22=u->u22.beq u23=C) ->∃(u21:Nat×Pd),Told u21.2 (m+1+(1:Nat)) u21.1 (cM (m+1) x.1)/\u23=u21.1 /\aa (SB.dV (fun(u20:Nat)=>u73.2.P.D u20||u20.beq u23) [ak.str λu19=>bif u73.2.P.D u19 then u73.2.P.cR u19 else cS {k:=(3:Int),p:=[],v:=[],r:=fun(u18:Nat)=>(cK (kQ m x.1 u73.1) []).getD u18 []:Nd},ak.b7 (bif(id (bif(id ((5:Nat))).beq ((3:Nat))then(5:Nat)else id ((5:Nat)))).beq 1 then(4:Nat)else id (bif(id ((5:Nat))).beq ((3:Nat))then(5:Nat)else id ((5:Nat)))) 1 u (fun(u17:Nat)=>bif u73.2.P.D u17 then u73.2.P.fb u17 else u25) (fun(u16:Nat)=>bif u73.2.P.D u16 then u73.2.P.nb u16 else u73.2.nb) fun(u15:Nat)=>bif u73.2.P.D u15 then u73.2.P.cb u15 else u73.2.cb] 2 165 C) (u21.2.parts 2) /\aa (SB.dG (fun(u14:Nat)=>u73.2.P.D2 u14||u14.beq u25&& !(u&&u73.2.nb.beq 0)) (fun(u13:Nat)=>bif u73.2.P.D2 u13 then u73.2.P.n2 u13 else u73.2.nb) [b9.ref (bif(id (bif(id ((4:Nat))).beq ((3:Nat))then(5:Nat)else id ((4:Nat)))).beq 1 then(4:Nat)else id (bif(id ((4:Nat))).beq ((3:Nat))then(5:Nat)else id ((4:Nat)))) fun(b i:Nat)=>bif u73.2.P.D2 b then u73.2.P.g b i else u73.2.f i] C) (u21.2.lists 1)) /\(aX {k:=(3:Int),p:=[],v:=[],r:=fun(u12:Nat)=>(cK (kQ m x.1 u73.1) []).getD u12 []:Nd}=C->∀(u11:Nat),(∀(u10:Nat),u73.2.P.D2 u10=u->(u10.beq u11&& !(u&&u73.2.nb.beq 0))=C)->∀(u9:Nat),(∀(u8:Nat),u73.2.P.D u8=u->u8.beq u9=C)->∃(u7:Nat×Pd),Told u7.2 (m+1+(1:Nat)) u7.1 (cM (m+1) x.1)/\u9=u7.1 /\aa (SB.dV (fun(u6:Nat)=>u73.2.P.D u6||u6.beq u9) [ak.str λu5=>bif u73.2.P.D u5 then u73.2.P.cR u5 else [],ak.b7 (bif(id (bif(id ((5:Nat))).beq ((3:Nat))then(5:Nat)else id ((5:Nat)))).beq 1 then(4:Nat)else id (bif(id ((5:Nat))).beq ((3:Nat))then(5:Nat)else id ((5:Nat)))) 1 u (fun(u4:Nat)=>bif u73.2.P.D u4 then u73.2.P.fb u4 else u11) (fun(u3:Nat)=>bif u73.2.P.D u3 then u73.2.P.nb u3 else u73.2.nb) fun(u2:Nat)=>bif u73.2.P.D u2 then u73.2.P.cb u2 else u73.2.cb] 2 165 C) (u7.2.parts 2) /\aa (SB.dG (fun(u1:Nat)=>u73.2.P.D2 u1||u1.beq u11&& !(u&&u73.2.nb.beq 0)) (fun(u0:Nat)=>bif u73.2.P.D2 u0 then u73.2.P.n2 u0 else u73.2.nb) [b9.ref (bif(id (bif(id ((4:Nat))).beq ((3:Nat))then(5:Nat)else id ((4:Nat)))).beq 1 then(4:Nat)else id (bif(id ((4:Nat))).beq ((3:Nat))then(5:Nat)else id ((4:Nat)))) fun(b i:Nat)=>bif u73.2.P.D2 b then u73.2.P.g b i else u73.2.f i] C) (u7.2.lists 1)))))))))) (fun(u72:List Rw×Nat×Nat)=>(SB.cells [SV.int .i64 C (u72.2.2:Int)] 1 3)))) (fun(n0:Nat) (u56:Nat×ki)=>SV.str C (kQ m x.1 u56.1 n0)))) (fun(n0:Nat) (u73:Nat×ki) (u66:tn)=>SV.str C (if(u73.1:Int).toNat=n0 then iU m u66.l else kQ m x.1 u73.1 n0)))) (fun(n0:Nat) (u76:Nat×ki)=>SV.str C (kQ m x.1 u76.1 n0))):=⟨by kernel_rfl,by kernel_rfl⟩
theorem vo (hm:m<=12)(h:bV (m+1) l):Fits (bn (m+1) l):=λj hj=>by
 rw[lC m l hj];split
 ·decide
 ·rename_i hk;have:=Jq (lD (m:=m) (by omega) (fD h j) hk);omega
theorem WW (hk:0<bP r.1 ((s::t).getLastD r).1):bn (m+1) (r::s::t)=⟨2,r.1.take (bP r.1 ((s::t).getLastD r).1),[],bL (iU m (cq (bP r.1 ((s::t).getLastD r).1) (r::s::t)))⟩:=by show ga _ (r::s::t)=_;unfold ga;dsimp only;rw[if_pos hk,cC,if_pos hk,if_pos rfl];rfl
theorem KN (hk: ¬ 0<bP r.1 ((s::t).getLastD r).1):bn (m+1) (r::s::t)=⟨3,[],if r.1=[] then r.2 else [],dB (kQ m (r::s::t) 16)⟩:=by show ga _ (r::s::t)=_;unfold ga;dsimp only;rw[if_neg hk];rfl
theorem OZ (hk:0<bP r.1 ((s::t).getLastD r).1):cr (m+1) (r::s::t)=mP m (cq (bP r.1 ((s::t).getLastD r).1) (r::s::t)):=by
 rw[nT];have: ∀ i,fR m (r::s::t) (i+1)=mP m (cq (bP r.1 ((s::t).getLastD r).1) (r::s::t)):=λi=>by
  induction i with
  | zero=>rw[iQ,cC,if_pos hk,if_pos rfl];rfl
  | succ i ih =>rw[iQ,ih,cC,if_pos hk,if_neg (Nat.succ_ne_zero i)];show _++[]=_;rw[List.append_nil]
 exact this 15
theorem At (h: ∀ i,aB l i=[]):cr (m+1) l=[]:=by
 rw[nT];have: ∀ i,fR m l i=[]:=λi=>by
  induction i with
  | zero=>rfl
  | succ i ih=>rw[iQ,ih,h i];rfl
 exact this 16
theorem E5 (P:Pd)(d:Nat)(f:Nat->Nat):ko P d 0 f []:=⟨[],rfl,rfl,λi L' hi=>by simp at hi⟩
def Pd.none:Pd:={D:=λ_=>C,cR:=λ_=>[],fb:=λ_=>0,nb:=λ_=>0,cb:=λ_=>0,D2:=λ_=>C,n2:=λ_=>0,g:=λ_ _=>0}
theorem vN (k a:Nat): ¬ SB.gb 0 (Pd.none.parts k) a:=λh=>T (show C=u from h)
theorem vM (k a:Nat): ¬ SB.gb 0 (Pd.none.lists k) a:=λh=>T (show C=u from h)
theorem vp {tot:Nat}{cR:Nat->List UInt8}{fb nb cb:Nat->Nat}:aa (.dV D [.str cR,.b7 k 1 u fb nb cb] tot ty C) (.dV D [.str cR,.b7 k' 1 u fb nb cb] tot ty C) :=⟨rfl,λ_ a h=>⟨h,λE o hb=>((aa.cells (cs:=[(ak.str cR).at a,(ak.b7 k 1 u fb nb cb).at a]) (cs':=[(ak.str cR).at a,(ak.b7 k' 1 u fb nb cb).at a]) (tot:=tot) (ty:=ty) (λ_=>rfl) rfl).old rfl).2.1 E o hb,id⟩⟩
theorem Az {t:List UInt8}(ht:t=ctext (m+1) l)(hb:cr (m+1) l=[])(a:Nat): ∃(x:Nat×Pd),Told x.2 (m+1+1) x.1 (cM (m+1) l)/\a=x.1 /\
  aa (.dV (λb=>b.beq a) [.str λ_=>t,.b7 0 1 u (λ_=>0) (λ_=>0) λ_=>0] 2 165 C) (x.2.parts 2)/\∀ a,¬ SB.gb 0 (x.2.lists 1) a:=by
 refine⟨(a,Pd.leaf a t),?_,rfl,vp,λb h=>T (show C=u from h)⟩
 have:=Q4 (m+1) a t;unfold cM;rw[hb,← ht];exact this
theorem Pj (r:Rw)(t:List Rw):(r::t).getD t.length ([],[])=t.getLastD r:=by
 rw[L,List.getLastD_eq_getLast?,List.getLast?_eq_getElem?];cases t with
 | nil=>rfl
 | cons s t=>simp
theorem AX {n:Nat->Nat}{g:Nat->Nat->Nat}:aa (.dG D n [.ref k g] C) (.dG D n [.ref k' g] C) :=
 ⟨rfl,λ_ a h=>⟨h,λE o ⟨c,ty,fr,h1,h2⟩=>⟨c,ty,fr,h1,λi j col hi hj=>by
  match j,hj with
  | 0,hj=>injection hj with hj;subst hj;have e:=h2 i 0 (b9.at a (.ref k g)) hi rfl;exact e
  | j+1,hj=>simp at hj⟩,id⟩⟩
theorem xd {a a1 nb cb k2:Nat}{t:List UInt8}{P:Pd}{f:Nat->Nat}{B:List (List UInt8)}(ht:t=ctext (m+1) l)(hb:cr (m+1) l=B)(hd2: ∀ b,P.D2 b=u->(b.beq a&& !(u&&nb.beq 0))=C)(hd: ∀ b,P.D b=u->b.beq a1=C)(h:ko P (m+1) nb f B) :
  ∃(x:Nat×Pd),Told x.2 (m+1+1) x.1 (cM (m+1) l)/\a1=x.1 /\
   aa (.dV (λb=>P.D b||b.beq a1) [.str λb=>bif P.D b then P.cR b else t,.b7 k 1 u (λb=>bif P.D b then P.fb b else a) (λb=>bif P.D b then P.nb b else nb) λb=>bif P.D b then P.cb b else cb] 2 165 C) (x.2.parts 2) /\
   aa (.dG (λb=>P.D2 b||b.beq a&& !(u&&nb.beq 0)) (λb=>bif P.D2 b then P.n2 b else nb) [.ref k2 λb i=>bif P.D2 b then P.g b i else f i] C) (x.2.lists 1):=by
 refine⟨(a1,P.top a a1 t nb cb f),?_,rfl,vp,AX⟩;have:=VB (cb:=cb) (t:=t) hd hd2 h;unfold cM;rw[hb,← ht];exact this
theorem oE {z:Bool}{tot:Nat}{cs:List ak}:aa (.rows z n cs C tot ty) (.rows z n cs u tot ty) :=aa.of rfl rfl λhno=>⟨hno,λE o ⟨c,fr,h1,_,h3⟩=>⟨c,fr,h1,λh=>(by cases h),h3⟩,λh=>(by cases h)⟩
theorem Jx {n' c c':Nat}{f f':Nat->Nat}(hn:n=n')(hc:c=c')(hf: ∀ i,i<n->f i=f' i):aa (.rows u n [.ref k f] C (c*1) ty) (.rows u n' [.ref k' f'] C (c'*1) ty):=by
 refine kg hn (by rw[hc]) rfl λj d d' h1 h2 i hi E=> ?_
 match j,h1,h2 with
 | 0,h1,h2 =>injection h1 with h1;injection h2 with h2;subst h1;subst h2;show(SV.fP k' (f' i) 0).val E=(SV.fP k (f i) 0).val E;rw[hf i hi];rfl
 | j+1,h1,_=>simp at h1
theorem U6 (m:Nat)(l:List Rw)(i j:Nat):(if i=j then iU m (aB l i)else kQ m l i j)=kQ m l (i+1) j:=by
 unfold kQ;by_cases h:i=j
 ·subst h;rw[if_pos rfl,if_pos (Nat.lt_succ_self _)]
 ·rw[if_neg h];by_cases h2:j<i
  ·rw[if_pos h2,if_pos (by omega)]
  ·rw[if_neg h2,if_neg (by omega)]
theorem Ht (m:Nat)(x:List Rw×Nat)(hx:(w9 (m+1)).pre x):az (runM (Ni m x.1) 63 X (w9 (m+1)) x):=by
 refine az.pr (Yo m x) ?_;obtain⟨h1,h2,h3⟩:=hx;obtain⟨l,c⟩:=x;have h1:bV (m+1) l:=h1;have h2:l.length<=1000:=h2;simp only[Y,ay,true_and,decide_eq_true_eq,decide_eq_false_iff_not];refine⟨λh0=> ?_,λh0=>⟨λh5=> ?_,λh5=> ?_⟩⟩
 ·have hl:l=[]:=List.length_eq_zero_iff.1 (by omega);subst hl;exact⟨vo (m:=m) (l:=[]) (by omega) h1,λ_ a=>Az (m:=m) (l:=[]) rfl (At λ_=>rfl) a,λhv=>absurd (CQ (m+1)) (by rw[show aX (bn (m+1) [])=C from hv];decide)⟩
 ·obtain⟨r,hr⟩: ∃ r,l=[r]:=List.length_eq_one_iff.1 (by omega);subst hr;refine⟨⟨Int.le_refl 0,a_⟩,cl,⟨Int.le_refl 0,a_⟩,cl,vo (m:=m) (l:=[r]) (by omega) h1,λ_ a=>Az (m:=m) (l:=[r]) rfl (At λ_=>rfl) a,λhv=> ?_⟩;have:=dg (m:=m+1) (l:=[r]) (by omega) h1 (Z _ _);rw[show aX (bn (m+1) [r])=C from hv] at this;cases this
 ·obtain⟨r,s,t,hl⟩: ∃ r s t,l=r::s::t:=by
   match l,h0,h5 with
   | [],h0,_=>exact absurd rfl h0
   | [_],_,h5=>exact absurd rfl h5
   | r::s::t,_,_=>exact⟨r,s,t,rfl⟩
  have hpos:0<l.length:=by rw[hl];exact ct _
  have hr:l.getD 0 ([],[])=r:=by rw[hl];rfl
  have he:l.getD ((l.length:Int) - 1).toNat ([],[])=(s::t).getLastD r:=by
   have:((l.length:Int) - 1).toNat=(s::t).length:=by rw[hl,List.length_cons];omega
   rw[this,hl];exact Pj r (s::t)
  have hrl:=h1.len r (by rw[hl];exact List.mem_cons_self ..);rw[hr,he];refine⟨⟨by omega,by omega⟩,hpos,⟨by omega,by omega⟩,⟨by omega,by omega⟩,by omega,by omega,λhk=> ?_,λhk=> ?_⟩
  ·have hc:=(zO r.1 ((s::t).getLastD r).1).1;rw[Ed];have hrc: ∀ x,x∈ l->bP r.1 ((s::t).getLastD r).1<=x.1.length:=λx hx=>by have:=sO (by rw[← hl];exact h1.yb) (x:=x) (by rw[← hl];exact hx);have:=congrArg List.length this;rw[b_,b_] at this;omega
   refine⟨⟨by omega,by omega⟩,hpos,⟨by omega,by omega⟩,⟨by omega,by omega⟩,by omega,by omega,⟨by omega,by omega⟩,hpos,⟨by omega,by omega,by omega⟩,⟨?_,?_⟩,λc' hc'=> ?_⟩
   ·simp
   ·exact⟨by omega,h2,λi hi=>hrc _ (by rw[L,O hi];exact R hi)⟩
   ·have hkid:aB l 0=cq (bP r.1 ((s::t).getLastD r).1) l:=by rw[hl,cC,if_pos (by omega),if_pos rfl]
    have hR:=fD h1 0;rw[hkid] at hR;have hlen:(cq (bP r.1 ((s::t).getLastD r).1) l).length=l.length:=bW _;have hB:=Bl m (cq (bP r.1 ((s::t).getLastD r).1) l);have hB':(m+1)*l.length<=13*1000:=b! (by omega) h2;rw[hlen] at hB;refine⟨⟨_,c',0,0,λ_=>0,Pd.none,[]⟩,⟨hR,by show(cq _ l).length<=_;omega,by omega,Q _,by rw[List.nil_append];show(mP m (cq _ l)).length<=_;omega,E5 _ _ _⟩,⟨rfl,rfl⟩,oE,rfl,rfl,vN _,vM _,λy hy=> ?_⟩;have e:bn (m+1) l=⟨2,r.1.take (bP r.1 ((s::t).getLastD r).1),[],bL (iU m (cq (bP r.1 ((s::t).getLastD r).1) l))⟩:=by rw[hl];exact WW (by omega)
    have es:bO r.1 H (I (M 81)) 0 (bP r.1 ((s::t).getLastD r).1:Int)=r.1.take (bP r.1 ((s::t).getLastD r).1):=by unfold bO;simp
    have eb:cr (m+1) l=mP m (cq (bP r.1 ((s::t).getLastD r).1) l):=by rw[hl];exact OZ (by omega)
    have hv:=dg (m:=m+1) (l:=l) (by omega) h1 (by rw[hl];exact Z _ _);have hf:=vo (m:=m) (l:=l) (by omega) h1;rw[e] at hf hv;rw[es];exact⟨hf,λ_ a hd2 a1 hd=>xd (l:=l) (congrArg cS e).symm eb hd2 hd hy.2,λhn=>absurd (hv.symm.trans hn) (by decide)⟩
  ·refine⟨⟨(0,⟨0,0,λ_=>0,Pd.none⟩),⟨aP _,Q _,E5 _ _ _⟩,rfl,rfl,rfl,vN _,vM _,aa.cells (λ_=>rfl) rfl⟩,λy hy=>⟨λh=> ?_,λh=> ?_⟩⟩
   ·obtain⟨y1,y2,y3⟩:=hy;have hkid:aB l y.1=cq 1 (bI y.1 l):=by rw[hl,cC,if_neg (by omega)]
    have hR:=fD h1 y.1;have hbl:=Ho m l (y.1+1);rw[iQ] at hbl;rw[hkid] at hR hbl;have hB':(m+1)*l.length<=13*1000:=b! (by omega) h2;have hcl:(bI y.1 l).length<=l.length:=List.length_filter_le _ _;have hdl:(cq 1 (bI y.1 l)).length=(bI y.1 l).length:=bW _;refine⟨(l,c,y.1),h2,⟨rfl,rfl⟩,aa.refl _,aa.refl _,λc1 hc1=>⟨rfl,⟨by simp,by decide,by show(bI y.1 l).length<=_;omega,λi hi=> ?_⟩,λc2 hc2=> ?_⟩⟩
    ·have hm:(bI y.1 l).getD i ([],[])∈ bI y.1 l:=by rw[L,O hi];exact R hi
     have hh:=(List.mem_filter.1 hm).2;show 1<=((bI y.1 l).getD i ([],[])).1.length;cases hp:((bI y.1 l).getD i ([],[])).1 with
     | nil=>rw[hp] at hh;cases hh
     | cons b q=>exact ct _
    ·rw[Ed];refine⟨⟨cq 1 (bI y.1 l),c2,y.2.nb,y.2.cb,y.2.f,y.2.P,fR m l y.1⟩,⟨hR,by show(cq 1 _).length<=_;omega,by omega,y2,by show(fR m l y.1++mP m (cq 1 (bI y.1 l))).length<=_;omega,y3⟩,⟨rfl,rfl⟩,oE,⟨rfl,rfl⟩,Jx rfl rfl λ_ _=>rfl,vp,AX,λv hv=> ?_⟩;have hW:ko v.P (m+1) v.nb v.f (fR m l (y.1+1)):=by rw[iQ,hkid];exact hv.2
     refine⟨⟨by omega,by omega⟩,by omega,⟨by omega,by omega⟩,(y.1+1,v),⟨⟨by show y.1+1<=16;omega,hv.1,hW⟩,by show 16 - (y.1+1)<_;omega⟩,by show(y.1:Int)+1=((y.1+1:Nat):Int);omega,⟨rfl,rfl⟩,Jx rfl rfl λ_ _=>rfl,vp,AX,?_⟩;rw[← hkid];simp only[U6];exact aa.cells (λ_=>rfl) rfl
   ·obtain⟨y1,y2,y3⟩:=hy;have hy:y.1=16:=by omega
    rw[hy] at y3 ⊢;have e:bn (m+1) l=⟨3,[],if r.1=[] then r.2 else [],dB (kQ m l 16)⟩:=by rw[hl];exact KN (by omega)
    have hv:=dg (m:=m+1) (l:=l) (by omega) h1 (by rw[hl];exact Z _ _);have hf:=vo (m:=m) (l:=l) (by omega) h1;rw[e] at hf hv;refine⟨⟨by omega,by omega⟩,hpos,λhn=> ?_,λhn=> ?_⟩
    ·rw[if_pos hn] at e hf hv;exact⟨⟨by omega,by omega⟩,hpos,hf,λ_ a hd2 a1 hd=>xd (l:=l) (congrArg cS e).symm (nT m l) hd2 hd y3,λhx=>absurd (hv.symm.trans hx) (by decide)⟩
    ·rw[if_neg hn] at e hf hv;exact⟨hf,λ_ a hd2 a1 hd=>xd (l:=l) (congrArg cS e).symm (nT m l) hd2 hd y3,λhx=>absurd (hv.symm.trans hx) (by decide)⟩
theorem RV (h:av K 101 (cF (qU m))):av K 63 (cF (w9 (m+1))) :=fH (n:=20) (fn:=X) Tryz.func63 (by kernel_rfl) (by kernel_rfl) (w9 (m+1)) λx hx=>⟨Ni m x.1,aag h x.1,by rfl,Ht m x hx⟩
theorem Dr: ∀ m:Nat,av K 63 (oV m)
 | 0=>KF
 | m+1=>RV (Xi (Dr m))
end
end Go.Proofs.YtoibaecagklkaaaGreatDoor
