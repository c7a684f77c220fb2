/-
  Span: Build: what is looked through in a store: the set-up of take, follow.
-/
import Derived.Test.YtoibaecagklkaaaGreatDoorMv
import Derived.Test.YtoibaecagklkaaaGreatDoorMq
import Derived.Test.YtoibaecagklkaaaGreatDoorMu
open Bool renaming false->d,false_eq_true->S,true->o,true_eq_false->aM
open Decidable renaming decide->J
open Go.IntKind renaming i64->H
open Go.Proofs.Tryz renaming f132->W,f83->X,f84->P,func84->a_,prog->M
open List renaming append_assoc->a!,append_nil->Y,length_append->Z,length_map->bf,map->bO,mem_append->bS,mem_append_left->bU,mem_append_right->b_,mem_cons_self->ag,mem_flatMap->Q,mem_range->b!,nil_append->an,range->I
open Nat renaming add_assoc->cl,le_refl->O,lt_irrefl->ct,not_lt_zero->cx,succ_pos->cy,zero_add->ay
open Option renaming none->F,some->C
namespace Go.Proofs.YtoibaecagklkaaaGreatDoor
open Go Sx
set_option maxRecDepth 20000
structure tN where
 w:Sp
 s:Wk
 c1:Nat
 c2:Nat
 y:tJ
 room:Int
structure CR (w:Sp)(y:tJ):Prop where
 f: ∀ h,w.ad h=o->(w.at h).length<=1000
 dom: ∀ h,w.ad h=o->y.A.D (y.g h)=o
 cS: ∀ h,w.ad h=o->y.A.cS (y.g h)=w.at h
 fr:w.fr.length<=1000
 to:w.to.length<=1000
def It.nE (A:It):SB:=.dR A.D [.str A.cS] 4 133 o
def XO (w:Sp)(s:Wk)(kn kf c1 c2:Nat):SB:=.cells [.str d w.fr,.str d w.to,.func (.func 47) [.ptr 4 o 0] [],.map 1,.aZ kn 1 o 0 s.ns.length c1,.int .i64 d s.lk,.aZ kf 2 o 0 s.fs.length c2] 7 92
def tN.own (g:tN):Mem:=[(4,gC g.room 5),(5,.fmap g.w.ad (.ref 6 g.y.g) F)]
def tN.mem (g:tN):Mem:=[(0,XO g.w g.s 2 3 g.c1 g.c2),(1,eH g.s),(2,dL g.s g.c1),(3,dm g.s g.c2)]++g.own++[(6,g.y.A.nE)]
def tN.back (g:tN)(s:Wk)(c1 c2:Nat):Mem:=[(0,XO g.w s 7 8 c1 c2),(1,eH s),(7,dL s c1),(8,dm s c2)]++g.own
def aap (v:SV)(g:tN)(s:Wk):fZ:=.all (Nat×Nat) λc=>.req (s.ns.length<=c.1/\s.fs.length<=c.2) (.ret v (g.back s c.1 c.2))
def Ml (f:SV->SV):fZ:=.all (List UInt8×List UInt8) λy=>.ret (f (.iface 87 (.ptr 9 o 0))) [(9,.cells [.str d y.1,.str d y.2] 2 207)]
def sbC (A:Type)(args:A->List SV)(pre:tN->A->Prop)(wP:tN->A->fZ):gE :={G:=tN×A,n:=7,N:=10,pre:=λx=>CR x.1.w x.1.y/\x.1.s.Small/\(x.1.s.ns.length<=x.1.c1/\x.1.s.fs.length<=x.1.c2)/\pre x.1 x.2,args:=λx=>.ptr 0 o 0::args x.2,mem:=λx=>x.1.mem,wP:=λx=>wP x.1 x.2}
def Oa (g:tN)(h:List UInt8):fZ:=.fork (bD g.w h) λb=>match b with
 | true=>aap (.aN [(getD (g.w.at h)).sv,.aK]) g (g.s.take g.w h)
 | false=>Ml λv=>.aN [dw,v]
def vZ:gE:=sbC (List UInt8) (λh=>[.str d h]) (λ_ _=>True) Oa
def Qh (g:tN)(t:List UInt8):fZ:=.fork (bJ t) λb=>match b with
 | true=>aap (.aN [(getD t).sv,.aK]) g g.s
 | false=>.fork (bw t) λb=>match b with
   | true=>Oa g (ah t)
   | false=>Ml λv=>.aN [dw,v]
def oe:gE:=sbC (List UInt8) (λt=>[.str d t]) (λ_ t=>t.length<9223372036854775808) Qh
theorem Vm (x:tN×List UInt8):cZ (.n (.s 1 (.n (.n (.s 2 (.n (.s 0 (.n .k (.s 3 (.n (.s 0 .k) (.s 1 (.n (.s 1 .k) (.s 0 (.n .k (.n .k (.n .k .t)))))))))) .t)) (.s 0 (.n (.s 0 (.n .k (.s 3 (.n (.s 0 .k) (.s 1 (.n (.s 1 .k) (.s 0 (.n .k (.n .k (.n .k .t)))))))))) .t))) (.s 0 (.n .k (.s 0 .k))))) (.s 0 (.n .k (.s 0 .k)))) (runM nJ 83 X vZ x) ((λP0:SV=>(((x.1.w.ad x.2=o->x.1.y.A.D (x.1.y.g x.2)=o/\((x.1.y.A.cS (x.1.y.g x.2)).length<=9223372036854775808/\(x.1.y.A.cS (x.1.y.g x.2)).length<1099511627776)/\(bg (x.1.y.A.cS (x.1.y.g x.2))=o->(J (dflt (x.1.s.ud x.2) (x.1.s.us x.2)=0)=o->(0+x.1.s.ns.length<=x.1.s.ns.length/\True/\2*(x.1.s.ns.length+1)*16<=(281474976710656:Nat)/\x.1.s.ns.length+1<(9223372036854775808:Nat))/\∀(u16:Nat),x.1.s.ns.length+1<=u16->I6 (dflt (x.1.s.ud x.2) (x.1.s.us x.2)+1)/\(bD x.1.w x.2=o->∃(u15:Nat×Nat),((if x.1.s.used x.2=0 then x.1.s.ns++[x.1.w.at x.2] else x.1.s.ns).length<=u15.1/\x.1.s.fs.length<=u15.2)/\(∀(u14:Nat->Nat),SV.val u14 (SV.agg (ep (getD (x.1.y.A.cS (x.1.y.g x.2)))))=SV.val u14 (getD (x.1.w.at x.2)).sv)/\(x.1.s.ns.length+1=(if x.1.s.used x.2=0 then x.1.s.ns++[x.1.w.at x.2] else x.1.s.ns).length/\u16=u15.1)/\x.1.c2=u15.2 /\aa (SB.fmap (dA x.1.s.ud x.2) (aD.int H (fE x.1.s.us x.2 (dflt (x.1.s.ud x.2) (x.1.s.us x.2)+1))) F) (SB.fmap (dA x.1.s.ud x.2) (aD.int H (fE x.1.s.us x.2 (x.1.s.used x.2+1))) F)/\aa (SB.rows o (x.1.s.ns.length+1) [aq.str λu13=>if u13<x.1.s.ns.length then x.1.s.ns.getD u13 [] else bP [x.1.y.A.cS (x.1.y.g x.2)] (u13 - x.1.s.ns.length)] d (u16*1) 9) (SB.rows o (if x.1.s.used x.2=0 then x.1.s.ns++[x.1.w.at x.2] else x.1.s.ns).length [aq.str λu12=>(if x.1.s.used x.2=0 then x.1.s.ns++[x.1.w.at x.2] else x.1.s.ns).getD u12 []] d (u15.1*1) 9)/\aa (SB.rows o x.1.s.fs.length [bK x.1.s.fs,bL x.1.s.fs] d (x.1.c2*2) 50) (SB.rows o x.1.s.fs.length [bK x.1.s.fs,bL x.1.s.fs] d (u15.2*2) 50))/\(bD x.1.w x.2=d->∃(_u11:List UInt8×List UInt8),False))/\(J (dflt (x.1.s.ud x.2) (x.1.s.us x.2)=0)=d->((-9223372036854775808:Int)<=dflt (x.1.s.ud x.2) (x.1.s.us x.2)+1 /\dflt (x.1.s.ud x.2) (x.1.s.us x.2)+1<=(9223372036854775807:Int))/\(bD x.1.w x.2=o->∃(u10:Nat×Nat),((if x.1.s.used x.2=0 then x.1.s.ns++[x.1.w.at x.2] else x.1.s.ns).length<=u10.1/\x.1.s.fs.length<=u10.2)/\(∀(u9:Nat->Nat),SV.val u9 (SV.agg (ep (getD (x.1.y.A.cS (x.1.y.g x.2)))))=SV.val u9 (getD (x.1.w.at x.2)).sv)/\(x.1.s.ns.length=(if x.1.s.used x.2=0 then x.1.s.ns++[x.1.w.at x.2] else x.1.s.ns).length/\x.1.c1=u10.1)/\x.1.c2=u10.2/\aa (SB.fmap (dA x.1.s.ud x.2) (aD.int H (fE x.1.s.us x.2 (dflt (x.1.s.ud x.2) (x.1.s.us x.2)+1))) F) (SB.fmap (dA x.1.s.ud x.2) (aD.int H (fE x.1.s.us x.2 (x.1.s.used x.2+1))) F)/\aa (SB.rows o x.1.s.ns.length [aq.str λu8=>x.1.s.ns.getD u8 []] d (x.1.c1*1) 9) (SB.rows o (if x.1.s.used x.2=0 then x.1.s.ns++[x.1.w.at x.2] else x.1.s.ns).length [aq.str λu7=>(if x.1.s.used x.2=0 then x.1.s.ns++[x.1.w.at x.2] else x.1.s.ns).getD u7 []] d (u10.1*1) 9) /\aa (SB.rows o x.1.s.fs.length [bK x.1.s.fs,bL x.1.s.fs] d (x.1.c2*2) 50) (SB.rows o x.1.s.fs.length [bK x.1.s.fs,bL x.1.s.fs] d (u10.2*2) 50))/\(bD x.1.w x.2=d->∃(_u6:List UInt8×List UInt8),False)))/\(bg (x.1.y.A.cS (x.1.y.g x.2))=d->(bD x.1.w x.2=o->∃(u5:Nat×Nat),((if x.1.s.used x.2=0 then x.1.s.ns++[x.1.w.at x.2] else x.1.s.ns).length<=u5.1/\x.1.s.fs.length<=u5.2)/\False)/\(bD x.1.w x.2=d->∃(u4:List UInt8×List UInt8),(∀(u3:Nat->Nat),SV.val u3 P0=SV.val u3 dw)/\aa (SB.cells [SV.str o [(110:UInt8),(111:UInt8),(32:UInt8),(110:UInt8),(111:UInt8),(100:UInt8),(101:UInt8),(58:UInt8)],SV.str d x.2] 2 207) (SB.cells [SV.str d u4.1,SV.str d u4.2] 2 207))))/\(x.1.w.ad x.2=d->(bD x.1.w x.2=o->∃(u2:Nat×Nat),((if x.1.s.used x.2=0 then x.1.s.ns++[x.1.w.at x.2] else x.1.s.ns).length<=u2.1/\x.1.s.fs.length<=u2.2)/\False)/\(bD x.1.w x.2=d->∃(u1:List UInt8×List UInt8),(∀(u0:Nat ->Nat),SV.val u0 P0=SV.val u0 dw)/\aa (SB.cells [SV.str o [(110:UInt8),(111:UInt8),(116:UInt8),(32:UInt8),(116:UInt8),(104:UInt8),(101:UInt8),(114:UInt8),(101:UInt8),(58:UInt8)],SV.str d x.2] 2 207) (SB.cells [SV.str d u1.1,SV.str d u1.2] 2 207)))))) (SV.agg (SV.int .i64 o 0::SV.str o []::SV.str o []::Kf))):=⟨by kernel_rfl,by kernel_rfl⟩
section
attribute [local irreducible] bg getD
theorem Gy {x:tN×List UInt8}(hw:CR x.1.w x.1.y)(hs:x.1.s.Small)(hc:x.1.s.ns.length<=x.1.c1/\x.1.s.fs.length<=x.1.c2):aB (runM nJ 83 X vZ x):=by
 refine aB.pr (Vm x) ?_;obtain⟨⟨w,s,c1,c2,y,room⟩,t⟩:=x;dsimp only at hw hs hc ⊢;have hu:=hs.u t;have hn:=hs.ns;have eu:dflt (s.ud t) (s.us t)=s.used t:=rfl;have el:bD w t=(w.ad t&&bg (w.at t)):=rfl;obtain⟨hc1,hc2⟩:=hc;have ez:=VM.zero;simp only[eu,ay];cases hA:w.ad t with
 | false =>rw[hA] at el;simp only[el,Bool.false_and,S,false_imp_iff,forall_const,true_and];exact⟨(_,_),ez,mO⟩
 | true =>
   have hf:=hw.f t hA;have eT:=hw.cS t hA;rw[hA] at el;rw[eT];simp only[hw.dom t hA,aM,false_imp_iff,forall_const,true_and,and_true];refine⟨⟨by omega,by omega⟩,λhB=> ?_,λhB=> ?_⟩
   ·rw[hB] at el;simp only[el,Bool.and_self,aM,false_imp_iff,forall_const,and_true];refine⟨λh0=>⟨⟨O _,by omega,by omega⟩,λc hcc=>⟨⟨by omega,by omega⟩,?_⟩⟩,λh0=>⟨⟨by omega,by omega⟩,?_⟩⟩
    ·have h0:=of_decide_eq_true h0;rw[if_pos h0];exact⟨(c,c2),⟨by rw[Z];exact hcc,hc2⟩,λ_=>rfl,⟨by rw[Z];rfl,rfl⟩,rfl,aa.refl _,NT,aa.refl _⟩
    ·have h0:=of_decide_eq_false h0;rw[if_neg h0];exact⟨(c1,c2),⟨hc1,hc2⟩,λ_=>rfl,⟨rfl,rfl⟩,rfl,aa.refl _,aa.refl _,aa.refl _⟩
   ·rw[hB] at el;simp only[el,Bool.and_false,S,false_imp_iff,forall_const,true_and];exact⟨(_,_),ez,mO⟩
end
theorem Qi:az M 83 (cD vZ) :=gx (n:=20) (fn:=X) Tryz.func83 (by kernel_rfl) (by kernel_rfl) vZ λx hx=>⟨nJ,A5,rfl,Gy hx.1 hx.2.1 hx.2.2.1⟩
noncomputable def Lo:List (FuncId×PT):=(83,cD vZ)::fP
theorem DT:bn M (λf=>aE f Lo):=.cons Qi (cc _) cO
noncomputable def MY:fJ:={cm with cG:=λf=>aE f Lo}
theorem Y9:Sx.Good M MY:=.of bR DT bl
end Go.Proofs.YtoibaecagklkaaaGreatDoor
namespace Go.Proofs.YtoibaecagklkaaaGreatDoor
open Go Sx
set_option maxRecDepth 20000
theorem MK (x:tN×List UInt8):cZ (.s 0 (.n (.c d 0 (.s 0 (.n .k (.s 3 (.n (.s 1 .k) (.s 1 (.n (.s 1 .k) (.s 1 (.n .k (.n .k .t)))))))))) (.s 0 (.n (.s 1 (.n .k (.s 0 (.n .k (.n .k (.s 0 (.n (.s 0 .k) (.s 0 (.n .k (.n (.s 0 .k) (.s 0 (.n .k (.n .k (.n .k (.s 0 (.n .k (.n .k (.n .k (.n (.c d 2 (.c d 1 (.n (.s 0 (.n .k (.s 0 (.n .k (.n .k (.s 0 (.n (.s 0 .k) (.s 0 (.n .k (.n (.s 0 .k) .k)))))))))) .t))) (.c d 2 (.c d 1 (.s 0 (.n .k (.s 0 .k)))))))))))))))))))))))) (.c d 1 (.c d 0 (.n .k (.s 0 .k)))))))) (runM MY 132 W oe x) ((λP0:SV=>((Rel 9223372036854775808 x.2/\(bJ x.2=o->∃(u15:Nat×Nat),(x.1.s.ns.length<=u15.1/\x.1.s.fs.length<=u15.2)/\(∀(u14:Nat->Nat),SV.val u14 (SV.agg (ep (getD x.2)))=SV.val u14 (getD x.2).sv)/\x.1.c1=u15.1/\x.1.c2=u15.2/\aa (SB.rows o x.1.s.ns.length [iA x.1.s.ns] d (x.1.c1*1) 9) (dL x.1.s u15.1)/\aa (SB.rows o x.1.s.fs.length [bK x.1.s.fs,bL x.1.s.fs] d (x.1.c2*2) 50) (dm x.1.s u15.2))/\(bJ x.2=d->x.2.length<9223372036854775808/\(bw x.2=o->∃(u13:tN×List UInt8),(CR u13.1.w u13.1.y/\u13.1.s.Small/\(u13.1.s.ns.length<=u13.1.c1/\u13.1.s.fs.length<=u13.1.c2)/\True)/\ah x.2=u13.2/\x.1.w.fr=u13.1.w.fr/\x.1.w.to=u13.1.w.to/\(x.1.s.ns.length=u13.1.s.ns.length/\x.1.c1=u13.1.c1)/\(x.1.s.lk:Int)=(u13.1.s.lk:Int)/\(x.1.s.fs.length=u13.1.s.fs.length/\x.1.c2=u13.1.c2)/\aa (SB.fmap x.1.s.ud (aD.int H x.1.s.us) F) (eH u13.1.s)/\aa (SB.rows o x.1.s.ns.length [iA x.1.s.ns] d (x.1.c1*1) 9) (dL u13.1.s u13.1.c1) /\aa (SB.rows o x.1.s.fs.length [bK x.1.s.fs,bL x.1.s.fs] d (x.1.c2*2) 50) (dm u13.1.s u13.1.c2)/\x.1.room=u13.1.room/\aa (SB.fmap x.1.w.ad (aD.ref 6 x.1.y.g) F) (SB.fmap u13.1.w.ad (aD.ref 6 u13.1.y.g) F)/\aa (SB.dR x.1.y.A.D [aq.str x.1.y.A.cS] 4 133 o) u13.1.y.A.nE/\(bD u13.1.w u13.2=o->∀(u12:Nat×Nat),(if u13.1.s.used u13.2=0 then u13.1.s.ns++[u13.1.w.at u13.2] else u13.1.s.ns).length<=u12.1/\u13.1.s.fs.length<=u12.2->(bD x.1.w (ah x.2)=o->∃(u11:Nat×Nat),((if x.1.s.used (ah x.2)=0 then x.1.s.ns++[x.1.w.at (ah x.2)] else x.1.s.ns).length<=u11.1/\x.1.s.fs.length<=u11.2)/\(∀(u10:Nat->Nat),SV.val u10 (SV.agg (ep (getD (u13.1.w.at u13.2))))=SV.val u10 (getD (x.1.w.at (ah x.2))).sv)/\u13.1.w.fr=x.1.w.fr/\u13.1.w.to=x.1.w.to/\((if u13.1.s.used u13.2=0 then u13.1.s.ns++[u13.1.w.at u13.2] else u13.1.s.ns).length=(if x.1.s.used (ah x.2)=0 then x.1.s.ns++[x.1.w.at (ah x.2)] else x.1.s.ns).length/\u12.1=u11.1) /\(u13.1.s.lk:Int)=(x.1.s.lk:Int)/\(u13.1.s.fs.length=x.1.s.fs.length/\u12.2=u11.2)/\aa (SB.fmap (dA u13.1.s.ud u13.2) (aD.int H (fE u13.1.s.us u13.2 (u13.1.s.used u13.2+1))) F) (eH (Wk.take x.1.w x.1.s (ah x.2)))/\aa (SB.rows o (if u13.1.s.used u13.2=0 then u13.1.s.ns++[u13.1.w.at u13.2] else u13.1.s.ns).length [aq.str λu9=>(if u13.1.s.used u13.2=0 then u13.1.s.ns++[u13.1.w.at u13.2] else u13.1.s.ns).getD u9 []] d (u12.1*1) 9) (dL (Wk.take x.1.w x.1.s (ah x.2)) u11.1)/\aa (SB.rows o u13.1.s.fs.length [aq.str λu8=>(u13.1.s.fs.getD u8 ([],[])).1,aq.str λu7=>(u13.1.s.fs.getD u7 ([],[])).2] d (u12.2*2) 50) (dm (Wk.take x.1.w x.1.s (ah x.2)) u11.2)/\aa (SB.cells [SV.int .i64 d u13.1.room,SV.map 5] 2 126) (gC x.1.room 5)/\aa (SB.fmap u13.1.w.ad (aD.ref 6 u13.1.y.g) F) (SB.fmap x.1.w.ad (aD.ref 6 x.1.y.g) F))/\(bD x.1.w (ah x.2)=d->∃(_u6:List UInt8×List UInt8),False))/\(bD u13.1.w u13.2=d ->∀(u5:List UInt8×List UInt8),(bD x.1.w (ah x.2)=o->∃(u4:Nat×Nat),((if x.1.s.used (ah x.2)=0 then x.1.s.ns++[x.1.w.at (ah x.2)] else x.1.s.ns).length<=u4.1/\x.1.s.fs.length<=u4.2)/\False)/\(bD x.1.w (ah x.2)=d->∃(u3:List UInt8×List UInt8),(∀(u2:Nat->Nat),SV.val u2 P0=SV.val u2 dw)/\aa (SB.cells [SV.str d u5.1,SV.str d u5.2] 2 207) (SB.cells [SV.str d u3.1,SV.str d u3.2] 2 207))))/\(bw x.2=d->∃(u1:List UInt8×List UInt8),(∀(u0:Nat->Nat),SV.val u0 P0=SV.val u0 dw)/\aa (SB.cells [SV.str o [(110:UInt8),(111:UInt8),(32:UInt8),(114:UInt8),(101:UInt8),(102:UInt8),(58:UInt8)],SV.str d x.2] 2 207) (SB.cells [SV.str d u1.1,SV.str d u1.2] 2 207)))))) (SV.agg (SV.int .i64 o 0::SV.str o []::SV.str o []::Kf))):=⟨by kernel_rfl,by kernel_rfl⟩
section
attribute [local irreducible] bg getD bJ bw ah bD
theorem Cq {x:tN×List UInt8}(hw:CR x.1.w x.1.y)(hs:x.1.s.Small)(hc:x.1.s.ns.length<=x.1.c1/\x.1.s.fs.length<=x.1.c2)(ht:x.2.length<9223372036854775808) :
  aB (runM MY 132 W oe x):=by
 refine aB.pr (MK x) ?_;obtain⟨⟨w,s,c1,c2,y,room⟩,t⟩:=x;dsimp only at hw hs hc ht ⊢;have hr:Rel 9223372036854775808 t:=⟨.inl ht,ht⟩
 have ez:=VM.zero;refine⟨hr,λh1=>⟨(c1,c2),hc,λ_=>rfl,rfl,rfl,aa.refl _,aa.refl _⟩,λh1=>⟨ht,λh2=>⟨(⟨w,s,c1,c2,y,room⟩,ah t),⟨hw,hs,hc,trivial⟩,rfl,rfl,rfl,⟨rfl,rfl⟩,rfl,⟨rfl,rfl⟩,aa.refl _,aa.refl _,aa.refl _,rfl,aa.refl _,aa.refl _,λh3 c hc=>⟨λ_=>⟨c,hc,λ_=>rfl,rfl,rfl,⟨rfl,rfl⟩,rfl,⟨rfl,rfl⟩,aa.refl _,aa.refl _,aa.refl _,aa.refl _,aa.refl _⟩,λh4=> ?_⟩,λh3 c=>⟨λh4=> ?_,λh4=>⟨c,ez,aa.refl _⟩⟩⟩,λh2=>⟨(_,_),ez,mO⟩⟩⟩
 ·rw[show bD w (ah t)=o from h3] at h4;cases h4
 ·rw[show bD w (ah t)=d from h3] at h4;cases h4
end
theorem Jt:az M 132 (cD oe) :=gx (n:=20) (fn:=W) Tryz.func132 (by kernel_rfl) (by kernel_rfl) oe λx hx=>⟨MY,Y9,rfl,Cq hx.1 hx.2.1 hx.2.2.1 hx.2.2.2⟩
end Go.Proofs.YtoibaecagklkaaaGreatDoor
namespace Go.Proofs.YtoibaecagklkaaaGreatDoor
open Go Sx
set_option maxRecDepth 20000
def zy (m:Nat):gE:=sbC (Nd×List UInt8) (λy=>[y.1.sv,.str d y.2]) (λg y=>g.s.Fit (g.s.lk+1)/\401<=g.s.lk+m/\y.1.k5/\y.2.length<=13*g.s.lk) λg y=>.fork (cY g.w m g.s y.1 y.2) λb=>match b with
 | true=>aap .aK g (bp g.w m g.s y.1 y.2)
 | false=>Ml λv=>v
def Wu (g:tN)(x:Nd)(p:List UInt8):aV :={α:=Nat,pre:=λ_ c2=>(g.s.iS g.w x p).fs.length<=c2,kT:=λ_ _=>0,fresh:=1,slots:=λ_ _=>[],mem:=λst c2=>[(0,XO g.w (g.s.iS g.w x p) 2 st.nx g.c1 c2),(st.nx,dm (g.s.iS g.w x p) c2)],drop:=λ_=>[3]}
def YF (m:Nat)(g:tN)(x:Nd)(p:List UInt8):aV :=
 {α:=Nat×Wk×Nat×Nat,pre:=λ_ y=>y.1<=16/\bX g.w (kg g.w m) x p y.1 (g.s.iS g.w x p)=C y.2.1/\y.2.1.ns.length<=y.2.2.1/\y.2.1.fs.length<=y.2.2.2,kT:=λ_ y=>16 - y.1,fresh:=2,slots:=λ_ y=>[(10,.int .i64 d y.1)],
  mem:=λst y=>[(0,XO g.w y.2.1 st.nx (st.nx+1) y.2.2.1 y.2.2.2),(1,eH y.2.1),(st.nx,dL y.2.1 y.2.2.1),(st.nx+1,dm y.2.1 y.2.2.2)],drop:=N7}
noncomputable def FR (m:Nat):List (FuncId×PT):=(84,cD (zy m))::(132,cD oe)::(43,aY zW)::(42,aY sD)::(130,cH vJ)::Lo
noncomputable def RW (m:Nat)(g:tN)(x:Nd)(p:List UInt8):fJ:={cm with cG:=λf=>aE f (FR m),bx:=λf=>if f=171 then [(1,always (YF m g x p)),(105007,HT x p)] else if f=84 then [(104009,always (Wu g x p))] else []}
theorem J5 (m:Nat)(x:tN×Nd×List UInt8):cZ (.n (.s 1 .k) (.s 0 (.n (.s 0 (.n (.s 0 (.n (.s 0 (.n (.s 12 (.n .k (.n (.s 0 .k) (.s 0 (.n .k .t))))) (.s 6 (.n .k (.n (.s 0 .k) (.s 0 (.n .k .t))))))) (.s 6 (.n .k (.n (.s 0 .k) (.s 0 (.n .k .t))))))) (.s 6 (.n .k (.n (.s 0 .k) (.s 0 (.n .k .t))))))) (.n (.s 0 (.n .k (.s 3 (.n (.s 0 .k) (.s 0 (.n .k (.n (.s 0 .k) (.s 0 (.n .k (.n .k (.n .k .t))))))))))) (.n (.s 0 (.n (.s 1 (.n .k (.s 3 (.n (.s 0 .k) (.s 0 (.n .k (.n (.s 0 .k) (.s 0 (.n .k (.n .k (.n .k .t))))))))))) (.s 0 (.n (.n (.s 1 (.n .k (.s 1 (.n .k (.n .k .t))))) (.s 0 (.n .k (.s 1 (.n .k (.n .k .t)))))) (.s 0 (.n (.s 2 (.n .k (.s 0 (.n .k (.n .k (.s 0 (.n (.s 0 .k) (.s 0 (.n .k (.n (.s 0 .k) (.s 0 (.n .k (.n .k (.n .k (.s 0 (.n .k (.n .k (.n .k (.n (.s 1 (.n .k (.n .k (.n .k (.n .k (.n .k (.n .k (.n .k (.n .k (.n .k (.n .k (.n .k (.n .k (.n .k (.n .k (.n .k (.n .k (.n .k (.n .k (.n .k (.n .k (.s 0 (.n .k (.n .k (.s 0 (.n (.s 0 .k) (.s 0 (.n .k (.n (.s 0 .k) (.s 0 (.n .k (.n .k (.n .k (.s 0 (.n .k (.n .k (.n .k (.n (.s 1 (.n .k (.s 0 (.n .k (.n .k (.s 0 (.n (.s 0 .k) (.s 0 (.n .k (.n (.s 0 .k) (.s 0 (.n .k (.n .k (.n .k (.s 6 (.n .k (.n .k .t))))))))))))))))) (.s 1 .k))))))))))))))))))))))))))))))))))))))) (.n (.n (.s 1 (.n .k (.n .k (.n .k (.n .k (.n .k (.n .k (.n .k (.n .k (.n .k (.n .k (.n .k (.n .k (.n .k (.n .k (.n .k (.n .k (.n .k (.n .k (.n .k (.n .k (.s 0 (.n .k (.n .k (.s 0 (.n (.s 0 .k) (.s 0 (.n .k (.n (.s 0 .k) (.s 0 (.n .k (.n .k (.n .k (.s 0 (.n .k (.n .k (.n .k (.n (.s 1 (.n .k (.s 0 (.n .k (.n .k (.s 0 (.n (.s 0 .k) (.s 0 (.n .k (.n (.s 0 .k) (.s 0 (.n .k (.n .k (.n .k (.s 6 (.n .k (.n .k .t))))))))))))))))) (.s 1 .k))))))))))))))))))))))))))))))))))))))) (.s 1 .k)) (.s 1 .k))))))))))))))))))))) (.s 1 (.n .k (.s 3 (.n (.s 0 .k) (.s 0 (.n .k (.n (.s 0 .k) (.s 0 (.n .k (.n .k (.n .k .t))))))))))))))))) (.n (.s 4 (.n (.s 0 .k) (.s 0 (.n .k (.n (.s 0 .k) (.s 0 (.n .k (.n .k (.n .k .t))))))))) .t)))))) (runM (RW m x.1 x.2.1 x.2.2) 84 P (zy (m+1)) x) ((λP0:(tN×List UInt8)->Nd=>((λP1:(Nat×Wk×Nat×Nat)->SB=>((λP2:(Nat×Wk×Nat×Nat)->SB=>((λP3:SB=>(((J (400<=(x.1.s.lk:Int))=o->(cY x.1.w (m+1) x.1.s x.2.1 x.2.2=o->∃(u52:Nat×Nat),((bp x.1.w (m+1) x.1.s x.2.1 x.2.2).ns.length<=u52.1/\(bp x.1.w (m+1) x.1.s x.2.1 x.2.2).fs.length<=u52.2)/\False)/\(cY x.1.w (m+1) x.1.s x.2.1 x.2.2=d->∃(u51:List UInt8×List UInt8),aa (SB.cells [SV.str o [(116:UInt8),(111:UInt8),(111:UInt8),(32:UInt8),(109:UInt8),(97:UInt8),(110:UInt8),(121:UInt8),(32:UInt8),(110:UInt8),(111:UInt8),(100:UInt8),(101:UInt8),(115:UInt8)],SV.str o []] 2 207) (SB.cells [SV.str d u51.1,SV.str d u51.2] 2 207)))/\(J (400<=(x.1.s.lk:Int))=d->I6 ((x.1.s.lk:Int)+1)/\((x.2.2.length:Int)+(x.2.1.p.length:Int)<=9223372036854775807/\((!decide (x.2.1.v=[]))=o->(x.1.w.fr.length<=1000/\x.1.w.to.length<=1000)/\(hasB x.1.w.fr x.1.w.to (cat x.2.2 x.2.1.p)=o->(cat x.2.2 x.2.1.p).length<1099511627776/\(kC (cat x.2.2 x.2.1.p)=o ->C P3=C P3/\C (SB.cells [SV.ptr 0 o 0] 1 82)=C (SB.cells [SV.ptr 0 o 0] 1 82)/\C (SB.cells [SV.ptr 0 o 0] 1 82)=C (SB.cells [SV.ptr 0 o 0] 1 82)/\(0+x.1.s.fs.length<=x.1.s.fs.length/\True/\2*(x.1.s.fs.length+1)*32<=(281474976710656:Nat)/\x.1.s.fs.length+1<(9223372036854775808:Nat))/\∀(u50:Nat),x.1.s.fs.length+1<=u50->C (SB.cells [SV.ptr 0 o 0] 1 82)=C (SB.cells [SV.ptr 0 o 0] 1 82)/\∃(u49:Nat),(if eE x.1.w x.2.1 x.2.2=o then x.1.s.fs++[(aX (cat x.2.2 x.2.1.p),x.2.1.v)] else x.1.s.fs).length<=u49/\(x.1.s.lk:Int)+1=(↑(x.1.s.lk+1):Int)/\(x.1.s.fs.length+1=(if eE x.1.w x.2.1 x.2.2=o then x.1.s.fs++[(aX (cat x.2.2 x.2.1.p),x.2.1.v)] else x.1.s.fs).length/\u50=u49) /\aa (SB.rows o (x.1.s.fs.length+1) [aq.str λu48=>if u48<x.1.s.fs.length then(x.1.s.fs.getD u48 ([],[])).1 else bP [aX (cat x.2.2 x.2.1.p)] (u48 - x.1.s.fs.length),aq.str λu47=>if u47<x.1.s.fs.length then(x.1.s.fs.getD u47 ([],[])).2 else bP [x.2.1.v] (u47 - x.1.s.fs.length)] d (u50*2) 50) (dm (Wk.iS x.1.w x.1.s x.2.1 x.2.2) u49))/\(kC (cat x.2.2 x.2.1.p)=d->∃(u46:Nat),(if eE x.1.w x.2.1 x.2.2=o then x.1.s.fs++[(aX (cat x.2.2 x.2.1.p),x.2.1.v)] else x.1.s.fs).length<=u46/\(x.1.s.lk:Int)+1=(↑(x.1.s.lk+1):Int)/\(x.1.s.fs.length=(if eE x.1.w x.2.1 x.2.2=o then x.1.s.fs++[(aX (cat x.2.2 x.2.1.p),x.2.1.v)] else x.1.s.fs).length/\x.1.c2=u46)/\aa (SB.rows o x.1.s.fs.length [bK x.1.s.fs,bL x.1.s.fs] d (x.1.c2*2) 50) (dm (Wk.iS x.1.w x.1.s x.2.1 x.2.2) u46)))/\(hasB x.1.w.fr x.1.w.to (cat x.2.2 x.2.1.p)=d ->∃(u45:Nat),(if eE x.1.w x.2.1 x.2.2=o then x.1.s.fs++[(aX (cat x.2.2 x.2.1.p),x.2.1.v)] else x.1.s.fs).length<=u45/\(x.1.s.lk:Int)+1=(↑(x.1.s.lk+1):Int)/\(x.1.s.fs.length=(if eE x.1.w x.2.1 x.2.2=o then x.1.s.fs++[(aX (cat x.2.2 x.2.1.p),x.2.1.v)] else x.1.s.fs).length/\x.1.c2=u45)/\aa (SB.rows o x.1.s.fs.length [bK x.1.s.fs,bL x.1.s.fs] d (x.1.c2*2) 50) (dm (Wk.iS x.1.w x.1.s x.2.1 x.2.2) u45)))/\((!decide (x.2.1.v=[]))=d->∃(u44:Nat),(if eE x.1.w x.2.1 x.2.2=o then x.1.s.fs++[(aX (cat x.2.2 x.2.1.p),x.2.1.v)] else x.1.s.fs).length<=u44/\(x.1.s.lk:Int)+1=(↑(x.1.s.lk+1):Int)/\(x.1.s.fs.length=(if eE x.1.w x.2.1 x.2.2=o then x.1.s.fs++[(aX (cat x.2.2 x.2.1.p),x.2.1.v)] else x.1.s.fs).length/\x.1.c2=u44)/\aa (SB.rows o x.1.s.fs.length [bK x.1.s.fs,bL x.1.s.fs] d (x.1.c2*2) 50) (dm (Wk.iS x.1.w x.1.s x.2.1 x.2.2) u44))) /\∀(u43:Nat),(if eE x.1.w x.2.1 x.2.2=o then x.1.s.fs++[(aX (cat x.2.2 x.2.1.p),x.2.1.v)] else x.1.s.fs).length<=u43->∀(_u42:Loop),(∃(u41:Nat×Wk×Nat×Nat),(u41.1<=16/\bX x.1.w (kg x.1.w m) x.2.1 x.2.2 u41.1 (Wk.iS x.1.w x.1.s x.2.1 x.2.2)=C u41.2.1/\u41.2.1.ns.length<=u41.2.2.1/\u41.2.1.fs.length<=u41.2.2.2)/\0=(u41.1:Int)/\(x.1.s.ns.length=u41.2.1.ns.length/\x.1.c1=u41.2.2.1)/\(↑(x.1.s.lk+1):Int)=(u41.2.1.lk:Int)/\((if eE x.1.w x.2.1 x.2.2=o then x.1.s.fs++[(aX (cat x.2.2 x.2.1.p),x.2.1.v)] else x.1.s.fs).length=u41.2.1.fs.length/\u43=u41.2.2.2)/\aa (SB.fmap x.1.s.ud (aD.int H x.1.s.us) F) (eH u41.2.1)/\aa (SB.rows o x.1.s.ns.length [iA x.1.s.ns] d (x.1.c1*1) 9) (dL u41.2.1 u41.2.2.1) /\aa (SB.rows o (if eE x.1.w x.2.1 x.2.2=o then x.1.s.fs++[(aX (cat x.2.2 x.2.1.p),x.2.1.v)] else x.1.s.fs).length [bK (if eE x.1.w x.2.1 x.2.2=o then x.1.s.fs++[(aX (cat x.2.2 x.2.1.p),x.2.1.v)] else x.1.s.fs),bL (if eE x.1.w x.2.1 x.2.2=o then x.1.s.fs++[(aX (cat x.2.2 x.2.1.p),x.2.1.v)] else x.1.s.fs)] d (u43*2) 50) (dm u41.2.1 u41.2.2.2))/\∀(u40:Nat×Wk×Nat×Nat),u40.1<=16/\bX x.1.w (kg x.1.w m) x.2.1 x.2.2 u40.1 (Wk.iS x.1.w x.1.s x.2.1 x.2.2)=C u40.2.1/\u40.2.1.ns.length<=u40.2.2.1/\u40.2.1.fs.length<=u40.2.2.2->(J ((u40.1:Int)<16)=o->(0<=(u40.1:Int)/\(u40.1:Int)<16/\(u40.1:Int)<(↑(16:Nat):Int))/\(J (bP (cV x.2.1.r []) (u40.1:Int).toNat=[])=o ->I6 ((u40.1:Int)+1)/\∃(u39:Nat×Wk×Nat×Nat),((u39.1<=16/\bX x.1.w (kg x.1.w m) x.2.1 x.2.2 u39.1 (Wk.iS x.1.w x.1.s x.2.1 x.2.2)=C u39.2.1/\u39.2.1.ns.length<=u39.2.2.1/\u39.2.1.fs.length<=u39.2.2.2)/\16 - u39.1<16 - u40.1)/\(u40.1:Int)+1=(u39.1:Int)/\(u40.2.1.ns.length=u39.2.1.ns.length/\u40.2.2.1=u39.2.2.1)/\(u40.2.1.lk:Int)=(u39.2.1.lk:Int)/\(u40.2.1.fs.length=u39.2.1.fs.length/\u40.2.2.2=u39.2.2.2)/\aa (SB.fmap u40.2.1.ud (aD.int H u40.2.1.us) F) (eH u39.2.1)/\aa (P2 u40) (dL u39.2.1 u39.2.2.1)/\aa (P1 u40) (dm u39.2.1 u39.2.2.2))/\(J (bP (cV x.2.1.r []) (u40.1:Int).toNat=[])=d ->(x.2.2.length:Int)+(x.2.1.p.length:Int)<=9223372036854775807/\((J (x.2.1.k=3)=o->(↑(cat x.2.2 x.2.1.p).length:Int)+(↑(1:Nat):Int)<=9223372036854775807/\∃(_u38:Unit),True/\cat (cat x.2.2 x.2.1.p) [UInt8.ofNat ((u40.1:Int)% 256).toNat]=fc x.2.1 x.2.2 (u40.1:Int).toNat/\aa (P2 u40) (dL u40.2.1 u40.2.2.1)/\aa (P1 u40) (dm u40.2.1 u40.2.2.2))/\(J (x.2.1.k=3)=d->∃(_u37:Unit),True/\cat x.2.2 x.2.1.p=fc x.2.1 x.2.2 (u40.1:Int).toNat/\aa (P2 u40) (dL u40.2.1 u40.2.2.1)/\aa (P1 u40) (dm u40.2.1 u40.2.2.2)))/\∀(_u36:Unit),True->(x.1.w.fr.length<=1000/\x.1.w.to.length<=1000)/\(bN x.1.w.fr x.1.w.to (fc x.2.1 x.2.2 (u40.1:Int).toNat)=o->∃(u35:tN×List UInt8),(CR u35.1.w u35.1.y/\u35.1.s.Small/\(u35.1.s.ns.length<=u35.1.c1/\u35.1.s.fs.length<=u35.1.c2)/\u35.2.length<9223372036854775808) /\bP (cV x.2.1.r []) (u40.1:Int).toNat=u35.2/\x.1.w.fr=u35.1.w.fr/\x.1.w.to=u35.1.w.to/\(u40.2.1.ns.length=u35.1.s.ns.length/\u40.2.2.1=u35.1.c1)/\(u40.2.1.lk:Int)=(u35.1.s.lk:Int)/\(u40.2.1.fs.length=u35.1.s.fs.length/\u40.2.2.2=u35.1.c2)/\aa (SB.fmap u40.2.1.ud (aD.int H u40.2.1.us) F) (eH u35.1.s)/\aa (P2 u40) (dL u35.1.s u35.1.c1)/\aa (P1 u40) (dm u35.1.s u35.1.c2)/\x.1.room=u35.1.room/\aa (SB.fmap x.1.w.ad (aD.ref 6 x.1.y.g) F) (SB.fmap u35.1.w.ad (aD.ref 6 u35.1.y.g) F)/\aa (SB.dR x.1.y.A.D [aq.str x.1.y.A.cS] 4 133 o) u35.1.y.A.nE/\(bJ u35.2=o->∀(u34:Nat×Nat),u35.1.s.ns.length<=u34.1/\u35.1.s.fs.length<=u34.2->∃(u33:tN×Nd×List UInt8),(CR u33.1.w u33.1.y/\u33.1.s.Small/\(u33.1.s.ns.length<=u33.1.c1 /\u33.1.s.fs.length<=u33.1.c2)/\u33.1.s.Fit (u33.1.s.lk+1)/\401<=u33.1.s.lk+m/\u33.2.1.k5/\u33.2.2.length<=13*u33.1.s.lk)/\(getD u35.2).k=u33.2.1.k/\(getD u35.2).p=u33.2.1.p/\(getD u35.2).v=u33.2.1.v/\(getD u35.2).r 0=u33.2.1.r 0/\(getD u35.2).r 1=u33.2.1.r 1/\(getD u35.2).r 2=u33.2.1.r 2/\(getD u35.2).r 3=u33.2.1.r 3/\(getD u35.2).r 4=u33.2.1.r 4/\(getD u35.2).r 5=u33.2.1.r 5/\(getD u35.2).r 6=u33.2.1.r 6/\(getD u35.2).r 7=u33.2.1.r 7/\(getD u35.2).r 8=u33.2.1.r 8/\(getD u35.2).r 9=u33.2.1.r 9/\(getD u35.2).r 10=u33.2.1.r 10/\(getD u35.2).r 11=u33.2.1.r 11/\(getD u35.2).r 12=u33.2.1.r 12/\(getD u35.2).r 13=u33.2.1.r 13/\(getD u35.2).r 14=u33.2.1.r 14/\(getD u35.2).r 15=u33.2.1.r 15/\fc x.2.1 x.2.2 (u40.1:Int).toNat=u33.2.2/\u35.1.w.fr=u33.1.w.fr/\u35.1.w.to=u33.1.w.to/\(u35.1.s.ns.length=u33.1.s.ns.length/\u34.1=u33.1.c1)/\(u35.1.s.lk:Int)=(u33.1.s.lk:Int)/\(u35.1.s.fs.length=u33.1.s.fs.length /\u34.2=u33.1.c2)/\aa (SB.fmap u35.1.s.ud (aD.int H u35.1.s.us) F) (eH u33.1.s)/\aa (SB.rows o u35.1.s.ns.length [aq.str λu32=>u35.1.s.ns.getD u32 []] d (u34.1*1) 9) (dL u33.1.s u33.1.c1)/\aa (SB.rows o u35.1.s.fs.length [aq.str λu31=>(u35.1.s.fs.getD u31 ([],[])).1,aq.str λu30=>(u35.1.s.fs.getD u30 ([],[])).2] d (u34.2*2) 50) (dm u33.1.s u33.1.c2)/\u35.1.room=u33.1.room/\aa (SB.fmap u35.1.w.ad (aD.ref 6 u35.1.y.g) F) (SB.fmap u33.1.w.ad (aD.ref 6 u33.1.y.g) F)/\aa (SB.dR x.1.y.A.D [aq.str x.1.y.A.cS] 4 133 o) u33.1.y.A.nE/\(cY u33.1.w m u33.1.s u33.2.1 u33.2.2=o->∀(u29:Nat×Nat),(bp u33.1.w m u33.1.s u33.2.1 u33.2.2).ns.length<=u29.1/\(bp u33.1.w m u33.1.s u33.2.1 u33.2.2).fs.length<=u29.2->I6 ((u40.1:Int)+1)/\∃(u28:Nat×Wk×Nat×Nat),((u28.1<=16 /\bX x.1.w (kg x.1.w m) x.2.1 x.2.2 u28.1 (Wk.iS x.1.w x.1.s x.2.1 x.2.2)=C u28.2.1/\u28.2.1.ns.length<=u28.2.2.1/\u28.2.1.fs.length<=u28.2.2.2)/\16 - u28.1<16 - u40.1)/\(u40.1:Int)+1=(u28.1:Int)/\u33.1.w.fr=x.1.w.fr/\u33.1.w.to=x.1.w.to/\((bp u33.1.w m u33.1.s u33.2.1 u33.2.2).ns.length=u28.2.1.ns.length/\u29.1=u28.2.2.1)/\(↑(bp u33.1.w m u33.1.s u33.2.1 u33.2.2).lk:Int)=(u28.2.1.lk:Int)/\((bp u33.1.w m u33.1.s u33.2.1 u33.2.2).fs.length=u28.2.1.fs.length/\u29.2=u28.2.2.2)/\aa (SB.fmap (bp u33.1.w m u33.1.s u33.2.1 u33.2.2).ud (aD.int H (bp u33.1.w m u33.1.s u33.2.1 u33.2.2).us) F) (eH u28.2.1)/\aa (SB.rows o (bp u33.1.w m u33.1.s u33.2.1 u33.2.2).ns.length [aq.str λu27=>(bp u33.1.w m u33.1.s u33.2.1 u33.2.2).ns.getD u27 []] d (u29.1*1) 9) (dL u28.2.1 u28.2.2.1) /\aa (SB.rows o (bp u33.1.w m u33.1.s u33.2.1 u33.2.2).fs.length [aq.str λu26=>((bp u33.1.w m u33.1.s u33.2.1 u33.2.2).fs.getD u26 ([],[])).1,aq.str λu25=>((bp u33.1.w m u33.1.s u33.2.1 u33.2.2).fs.getD u25 ([],[])).2] d (u29.2*2) 50) (dm u28.2.1 u28.2.2.2)/\aa (SB.cells [SV.int .i64 d u33.1.room,SV.map 5] 2 126) (gC x.1.room 5)/\aa (SB.fmap u33.1.w.ad (aD.ref 6 u33.1.y.g) F) (SB.fmap x.1.w.ad (aD.ref 6 x.1.y.g) F))/\(cY u33.1.w m u33.1.s u33.2.1 u33.2.2=d->∀(u24:List UInt8×List UInt8),(cY x.1.w (m+1) x.1.s x.2.1 x.2.2=o->∃(u23:Nat×Nat),((bp x.1.w (m+1) x.1.s x.2.1 x.2.2).ns.length<=u23.1/\(bp x.1.w (m+1) x.1.s x.2.1 x.2.2).fs.length<=u23.2)/\False)/\(cY x.1.w (m+1) x.1.s x.2.1 x.2.2=d->∃(u22:List UInt8×List UInt8),aa (SB.cells [SV.str d u24.1,SV.str d u24.2] 2 207) (SB.cells [SV.str d u22.1,SV.str d u22.2] 2 207))))/\(bJ u35.2=d->(bw u35.2=o ->(bD u35.1.w (ah u35.2)=o->∀(u21:Nat×Nat),(if u35.1.s.used (ah u35.2)=0 then u35.1.s.ns++[u35.1.w.at (ah u35.2)] else u35.1.s.ns).length<=u21.1/\u35.1.s.fs.length<=u21.2->∃(u20:tN×Nd×List UInt8),(CR u20.1.w u20.1.y/\u20.1.s.Small/\(u20.1.s.ns.length<=u20.1.c1/\u20.1.s.fs.length<=u20.1.c2)/\u20.1.s.Fit (u20.1.s.lk+1)/\401<=u20.1.s.lk+m/\u20.2.1.k5/\u20.2.2.length<=13*u20.1.s.lk)/\(P0 u35).k=u20.2.1.k/\(P0 u35).p=u20.2.1.p/\(P0 u35).v=u20.2.1.v/\(P0 u35).r 0=u20.2.1.r 0/\(P0 u35).r 1=u20.2.1.r 1/\(P0 u35).r 2=u20.2.1.r 2/\(P0 u35).r 3=u20.2.1.r 3/\(P0 u35).r 4=u20.2.1.r 4/\(P0 u35).r 5=u20.2.1.r 5/\(P0 u35).r 6=u20.2.1.r 6/\(P0 u35).r 7=u20.2.1.r 7/\(P0 u35).r 8=u20.2.1.r 8/\(P0 u35).r 9=u20.2.1.r 9/\(P0 u35).r 10=u20.2.1.r 10/\(P0 u35).r 11=u20.2.1.r 11/\(P0 u35).r 12=u20.2.1.r 12/\(P0 u35).r 13=u20.2.1.r 13/\(P0 u35).r 14=u20.2.1.r 14/\(P0 u35).r 15=u20.2.1.r 15/\fc x.2.1 x.2.2 (u40.1:Int).toNat=u20.2.2 /\u35.1.w.fr=u20.1.w.fr/\u35.1.w.to=u20.1.w.to/\((if u35.1.s.used (ah u35.2)=0 then u35.1.s.ns++[u35.1.w.at (ah u35.2)] else u35.1.s.ns).length=u20.1.s.ns.length/\u21.1=u20.1.c1)/\(u35.1.s.lk:Int)=(u20.1.s.lk:Int)/\(u35.1.s.fs.length=u20.1.s.fs.length/\u21.2=u20.1.c2)/\aa (SB.fmap (dA u35.1.s.ud (ah u35.2)) (aD.int H (fE u35.1.s.us (ah u35.2) (u35.1.s.used (ah u35.2)+1))) F) (eH u20.1.s)/\aa (SB.rows o (if u35.1.s.used (ah u35.2)=0 then u35.1.s.ns++[u35.1.w.at (ah u35.2)] else u35.1.s.ns).length [aq.str λu19=>(if u35.1.s.used (ah u35.2)=0 then u35.1.s.ns++[u35.1.w.at (ah u35.2)] else u35.1.s.ns).getD u19 []] d (u21.1*1) 9) (dL u20.1.s u20.1.c1)/\aa (SB.rows o u35.1.s.fs.length [aq.str λu18=>(u35.1.s.fs.getD u18 ([],[])).1,aq.str λu17=>(u35.1.s.fs.getD u17 ([],[])).2] d (u21.2*2) 50) (dm u20.1.s u20.1.c2)/\u35.1.room=u20.1.room /\aa (SB.fmap u35.1.w.ad (aD.ref 6 u35.1.y.g) F) (SB.fmap u20.1.w.ad (aD.ref 6 u20.1.y.g) F)/\aa (SB.dR x.1.y.A.D [aq.str x.1.y.A.cS] 4 133 o) u20.1.y.A.nE/\(cY u20.1.w m u20.1.s u20.2.1 u20.2.2=o->∀(u16:Nat×Nat),(bp u20.1.w m u20.1.s u20.2.1 u20.2.2).ns.length<=u16.1/\(bp u20.1.w m u20.1.s u20.2.1 u20.2.2).fs.length<=u16.2->I6 ((u40.1:Int)+1)/\∃(u15:Nat×Wk×Nat×Nat),((u15.1<=16/\bX x.1.w (kg x.1.w m) x.2.1 x.2.2 u15.1 (Wk.iS x.1.w x.1.s x.2.1 x.2.2)=C u15.2.1/\u15.2.1.ns.length<=u15.2.2.1/\u15.2.1.fs.length<=u15.2.2.2)/\16 - u15.1<16 - u40.1)/\(u40.1:Int)+1=(u15.1:Int)/\u20.1.w.fr=x.1.w.fr/\u20.1.w.to=x.1.w.to/\((bp u20.1.w m u20.1.s u20.2.1 u20.2.2).ns.length=u15.2.1.ns.length/\u16.1=u15.2.2.1)/\(↑(bp u20.1.w m u20.1.s u20.2.1 u20.2.2).lk:Int)=(u15.2.1.lk:Int) /\((bp u20.1.w m u20.1.s u20.2.1 u20.2.2).fs.length=u15.2.1.fs.length/\u16.2=u15.2.2.2)/\aa (SB.fmap (bp u20.1.w m u20.1.s u20.2.1 u20.2.2).ud (aD.int H (bp u20.1.w m u20.1.s u20.2.1 u20.2.2).us) F) (eH u15.2.1)/\aa (SB.rows o (bp u20.1.w m u20.1.s u20.2.1 u20.2.2).ns.length [aq.str λu14=>(bp u20.1.w m u20.1.s u20.2.1 u20.2.2).ns.getD u14 []] d (u16.1*1) 9) (dL u15.2.1 u15.2.2.1)/\aa (SB.rows o (bp u20.1.w m u20.1.s u20.2.1 u20.2.2).fs.length [aq.str λu13=>((bp u20.1.w m u20.1.s u20.2.1 u20.2.2).fs.getD u13 ([],[])).1,aq.str λu12=>((bp u20.1.w m u20.1.s u20.2.1 u20.2.2).fs.getD u12 ([],[])).2] d (u16.2*2) 50) (dm u15.2.1 u15.2.2.2)/\aa (SB.cells [SV.int .i64 d u20.1.room,SV.map 5] 2 126) (gC x.1.room 5)/\aa (SB.fmap u20.1.w.ad (aD.ref 6 u20.1.y.g) F) (SB.fmap x.1.w.ad (aD.ref 6 x.1.y.g) F))/\(cY u20.1.w m u20.1.s u20.2.1 u20.2.2=d ->∀(u11:List UInt8×List UInt8),(cY x.1.w (m+1) x.1.s x.2.1 x.2.2=o->∃(u10:Nat×Nat),((bp x.1.w (m+1) x.1.s x.2.1 x.2.2).ns.length<=u10.1/\(bp x.1.w (m+1) x.1.s x.2.1 x.2.2).fs.length<=u10.2)/\False)/\(cY x.1.w (m+1) x.1.s x.2.1 x.2.2=d->∃(u9:List UInt8×List UInt8),aa (SB.cells [SV.str d u11.1,SV.str d u11.2] 2 207) (SB.cells [SV.str d u9.1,SV.str d u9.2] 2 207))))/\(bD u35.1.w (ah u35.2)=d->∀(u8:List UInt8×List UInt8),(cY x.1.w (m+1) x.1.s x.2.1 x.2.2=o->∃(u7:Nat×Nat),((bp x.1.w (m+1) x.1.s x.2.1 x.2.2).ns.length<=u7.1/\(bp x.1.w (m+1) x.1.s x.2.1 x.2.2).fs.length<=u7.2)/\False)/\(cY x.1.w (m+1) x.1.s x.2.1 x.2.2=d->∃(u6:List UInt8×List UInt8),aa (SB.cells [SV.str d u8.1,SV.str d u8.2] 2 207) (SB.cells [SV.str d u6.1,SV.str d u6.2] 2 207))))/\(bw u35.2=d->∀(u5:List UInt8×List UInt8),(cY x.1.w (m+1) x.1.s x.2.1 x.2.2=o ->∃(u4:Nat×Nat),((bp x.1.w (m+1) x.1.s x.2.1 x.2.2).ns.length<=u4.1/\(bp x.1.w (m+1) x.1.s x.2.1 x.2.2).fs.length<=u4.2)/\False)/\(cY x.1.w (m+1) x.1.s x.2.1 x.2.2=d->∃(u3:List UInt8×List UInt8),aa (SB.cells [SV.str d u5.1,SV.str d u5.2] 2 207) (SB.cells [SV.str d u3.1,SV.str d u3.2] 2 207)))))/\(bN x.1.w.fr x.1.w.to (fc x.2.1 x.2.2 (u40.1:Int).toNat)=d->I6 ((u40.1:Int)+1)/\∃(u2:Nat×Wk×Nat×Nat),((u2.1<=16/\bX x.1.w (kg x.1.w m) x.2.1 x.2.2 u2.1 (Wk.iS x.1.w x.1.s x.2.1 x.2.2)=C u2.2.1/\u2.2.1.ns.length<=u2.2.2.1/\u2.2.1.fs.length<=u2.2.2.2)/\16 - u2.1<16 - u40.1)/\(u40.1:Int)+1=(u2.1:Int)/\(u40.2.1.ns.length=u2.2.1.ns.length/\u40.2.2.1=u2.2.2.1)/\(u40.2.1.lk:Int)=(u2.2.1.lk:Int)/\(u40.2.1.fs.length=u2.2.1.fs.length/\u40.2.2.2=u2.2.2.2) /\aa (SB.fmap u40.2.1.ud (aD.int H u40.2.1.us) F) (eH u2.2.1)/\aa (P2 u40) (dL u2.2.1 u2.2.2.1)/\aa (P1 u40) (dm u2.2.1 u2.2.2.2))))/\(J ((u40.1:Int)<16)=d->(cY x.1.w (m+1) x.1.s x.2.1 x.2.2=o->∃(u1:Nat×Nat),((bp x.1.w (m+1) x.1.s x.2.1 x.2.2).ns.length<=u1.1/\(bp x.1.w (m+1) x.1.s x.2.1 x.2.2).fs.length<=u1.2)/\(u40.2.1.ns.length=(bp x.1.w (m+1) x.1.s x.2.1 x.2.2).ns.length/\u40.2.2.1=u1.1)/\(u40.2.1.lk:Int)=(↑(bp x.1.w (m+1) x.1.s x.2.1 x.2.2).lk:Int)/\(u40.2.1.fs.length=(bp x.1.w (m+1) x.1.s x.2.1 x.2.2).fs.length/\u40.2.2.2=u1.2)/\aa (SB.fmap u40.2.1.ud (aD.int H u40.2.1.us) F) (eH (bp x.1.w (m+1) x.1.s x.2.1 x.2.2))/\aa (P2 u40) (dL (bp x.1.w (m+1) x.1.s x.2.1 x.2.2) u1.1)/\aa (P1 u40) (dm (bp x.1.w (m+1) x.1.s x.2.1 x.2.2) u1.2))/\(cY x.1.w (m+1) x.1.s x.2.1 x.2.2=d->∃(_u0:List UInt8×List UInt8),False)))))) (SB.cells [SV.str d x.1.w.fr,SV.str d x.1.w.to,SV.func (Fn.func (47:FuncId)) [SV.ptr 4 o 0] [],SV.map 1,SV.aZ 2 1 o 0 x.1.s.ns.length x.1.c1,SV.int .i64 d ((x.1.s.lk:Int)+1),SV.aZ 3 2 o 0 x.1.s.fs.length x.1.c2] 7 92))) (fun(u40:Nat×Wk×Nat×Nat)=>(SB.rows o u40.2.1.ns.length [iA u40.2.1.ns] d (u40.2.2.1*1) 9)))) (fun(u40:Nat×Wk×Nat×Nat)=>(SB.rows o u40.2.1.fs.length [bK u40.2.1.fs,bL u40.2.1.fs] d (u40.2.2.2*2) 50)))) (fun(u35:tN×List UInt8)=>(getD (u35.1.w.at (ah u35.2))))):=⟨by kernel_rfl,by kernel_rfl⟩
section
attribute [local irreducible] bg getD bJ bw ah bD bN hasB kC ak aX fc kg cY bp bX Wk.used
set_option maxHeartbeats 4000000 in
theorem zJ {m:Nat}{x:tN×Nd×List UInt8}(hx:(zy (m+1)).pre x):aB (runM (RW m x.1 x.2.1 x.2.2) 84 P (zy (m+1)) x):=by
 refine aB.pr (J5 m x) ?_;obtain⟨⟨w,s,c1,c2,yy,room⟩,y,p⟩:=x;obtain⟨hw,_,⟨hc1,hc2⟩,hf,hm,hy,hp⟩:=hx;dsimp only at hw hc1 hc2 hf hm hy hp ⊢;have hm:401<=s.lk+(m+1):=hm;have hyp:=hy.p;have hcat:(cat p y.p).length=p.length+y.p.length:=by unfold cat;simp
 have hlk:=hf.lk;have hfs:=hf.fs;have hns:=hf.ns;by_cases hl:400<=s.lk
 ·have hB:cY w (m+1) s y p=false:=by unfold cY kg;rw[if_pos hl];rfl
  rw[hB,decide_eq_true (show(400:Int)<=(s.lk:Int)by omega)];exact⟨λ_=>⟨(λh=>by cases h),λ_=>⟨(_,_),HJ⟩⟩,(λh=>by cases h)⟩
 refine⟨λh=>absurd (of_decide_eq_true h) (by omega),λ_=>⟨⟨by omega,by omega⟩,⟨by omega,?_⟩,?_⟩⟩
 ·
  have no:eE w y p=d->(s.iS w y p).fs=s.fs:=λh=>by show(if eE w y p=o then _ else _)=_;rw[h];rfl
  have yes:eE w y p=o->(s.iS w y p).fs=s.fs++[(aX (cat p y.p),y.v)]:=λh=>by show(if eE w y p=o then _ else _)=_;rw[h];rfl
  have eb:eE w y p=(!decide (y.v=[])&&(hasB w.fr w.to (cat p y.p)&&kC (cat p y.p))):=rfl;have le0:eE w y p=d->aa (SB.rows o s.fs.length [bK s.fs,bL s.fs] d (c2*2) 50) (dm (s.iS w y p) c2):=λh=>by unfold dm;rw[no h];exact aa.refl _
  have le1:eE w y p=o->∀ c,aa (SB.rows o (s.fs.length+1) [.str λj=>if j<s.fs.length then(s.fs.getD j ([],[])).1 else bP [aX (cat p y.p)] (j - s.fs.length),.str λj=>if j<s.fs.length then(s.fs.getD j ([],[])).2 else bP [y.v] (j - s.fs.length)] d (c*2) 50) (dm (s.iS w y p) c):=λh c=>by unfold dm;rw[yes h];exact Nt
  have wfr:=hw.fr;have wto:=hw.to;refine⟨λhv=>⟨⟨wfr,wto⟩,λhh=>⟨by omega,λhk=> ?_,λhk=> ?_⟩,λhh=> ?_⟩,λhv=> ?_⟩
  ·rw[hv,hh,hk] at eb;have l1:=le1 eb;refine⟨rfl,rfl,rfl,⟨by omega,trivial,by omega,by omega⟩,λc hc=>⟨rfl,⟨c,?_⟩⟩⟩;rw[if_pos (show eE w y p=o from eb),Z]
   exact⟨hc,by omega,⟨rfl,rfl⟩,l1 c⟩
  all_goals
   first
    | rw[hv,hh,hk] at eb
    | rw[hv,hh] at eb
    | rw[hv] at eb
   have l0:=le0 (eb.trans (by first | rfl | simp))
   have e0:eE w y p=false:=eb.trans (by first | rfl | simp)
   refine⟨c2,?_⟩;rw[e0];simp only[S,if_false]
   repeat' first
    | exact l0
    | refine And.intro ?_ ?_
    | exact trivial
    | assumption
    | omega
    | fail
 ·intro c2' hc2' R;refine⟨⟨(0,s.iS w y p,c1,c2'),⟨Nat.zero_le _,by unfold bX;rfl,hc1,hc2'⟩,rfl,⟨rfl,rfl⟩,rfl,⟨rfl,rfl⟩,aa.refl _,aa.refl _,aa.refl _⟩,λz hz=> ?_⟩;obtain⟨i,si,d1,d2⟩:=z;obtain⟨hi16,hi,hd1,hd2⟩:=hz;dsimp only at hi16 hi hd1 hd2 ⊢;obtain⟨fi,hlki⟩:=pK (Al w m) (hf.iS (by omega) w y p) hi;have hlki:s.lk+1<=si.lk:=hlki;have fil:=fi.lk;simp only[-eq_self,Int.toNat_natCast];refine⟨λhlt=> ?_,λhlt=> ?_⟩
  ·have hlt:i<16:=by have:=of_decide_eq_true hlt;omega
   simp only[-eq_self,zn y.r hlt];have bad:bX w (kg w m) y p (i+1) (s.iS w y p)=F->∀(a b:List UInt8),(cY w (m+1) s y p=o->∃(q:Nat×Nat),((bp w (m+1) s y p).ns.length<=q.1/\(bp w (m+1) s y p).fs.length<=q.2)/\False)/\(cY w (m+1) s y p=d->∃(q:List UInt8×List UInt8),aa (SB.cells [SV.str d a,SV.str d b] 2 207) (SB.cells [SV.str d q.1,SV.str d q.2] 2 207)):=λh a b=>by have hB:=Oj hl (rj (by omega:i+1<=16) h);rw[hB];exact⟨(λh=>by cases h),λ_=>⟨(a,b),HI⟩⟩
   have hsuc:i+1<=16:=by omega
   have hmea:16 - (i+1)<16 - i:=by omega
   have same: ∀ {s':Wk},bX w (kg w m) y p (i+1) (s.iS w y p)=C s'->s'.ns.length<=d1->s'.fs.length<=d2->((i+1<=16/\bX w (kg w m) y p (i+1) (s.iS w y p)=C s'/\s'.ns.length<=d1/\s'.fs.length<=d2)/\16 - (i+1)<16 - i):=λh a b=>⟨⟨hsuc,h,a,b⟩,hmea⟩
   refine⟨⟨by omega,by omega,by omega⟩,λh0=>⟨⟨by omega,by omega⟩,(i+1,si,d1,d2),same ((dV hi).trans (j8 (of_decide_eq_true h0))) hd1 hd2,by omega,⟨rfl,rfl⟩,rfl,⟨rfl,rfl⟩,aa.refl _,aa.refl _,aa.refl _⟩,λh0=> ?_⟩;have h0:=of_decide_eq_false h0;have htl:=Om hy p i;refine⟨by omega,⟨λh3=>⟨by omega,(),trivial,UY (of_decide_eq_true h3) i hlt,aa.refl _,aa.refl _⟩,λh3=>⟨(),trivial,by unfold fc;rw[if_neg (of_decide_eq_false h3)],aa.refl _,aa.refl _⟩⟩,λ_ _=>⟨⟨hw.fr,hw.to⟩,λhM=> ?_,λhM=>⟨⟨by omega,by omega⟩,(i+1,si,d1,d2),same ((dV hi).trans (ri hM)) hd1 hd2,by omega,⟨rfl,rfl⟩,rfl,⟨rfl,rfl⟩,aa.refl _,aa.refl _,aa.refl _⟩⟩⟩;have hrl:(y.r i).length<9223372036854775808:=by
    rcases hy.r i hlt with e | e
    ·exact absurd e h0
    ·have:=sC e;omega
   have go: ∀ {yy:Nd} {s2:Wk},iD w si (y.r i)=C (yy,s2)->s2.Fit (s2.lk+1)/\(401<=s2.lk+m)/\yy.k5/\(fc y p i).length<=13*s2.lk/\s2.Small:=λh=>by obtain⟨q1,q2,q3⟩:=yh fi h;exact⟨by rw[q2];exact q1,by omega,gS q3,by omega,q1.small (by omega)⟩
   have on: ∀ {yy:Nd} {s2:Wk},iD w si (y.r i)=C (yy,s2)->cY w m s2 yy (fc y p i)=o->bX w (kg w m) y p (i+1) (s.iS w y p)=C (bp w m s2 yy (fc y p i)):=λh hb=>by rw[dV hi,gL h0 hM h,GH hb]
   have off: ∀ {yy:Nd} {s2:Wk},iD w si (y.r i)=C (yy,s2)->cY w m s2 yy (fc y p i)=d->bX w (kg w m) y p (i+1) (s.iS w y p)=none:=λh hb=>by rw[dV hi,gL h0 hM h,yA hb]
   refine⟨(⟨w,si,d1,d2,yy,room⟩,y.r i),⟨hw,fi.small (by omega),⟨hd1,hd2⟩,hrl⟩,rfl,rfl,rfl,⟨rfl,rfl⟩,rfl,⟨rfl,rfl⟩,aa.refl _,aa.refl _,aa.refl _,rfl,aa.refl _,aa.refl _,?_⟩;dsimp only;have inn:bJ (y.r i)=o->iD w si (y.r i)=C (getD (y.r i),si):=wj;have inh:bJ (y.r i)=d->bw (y.r i)=o->bD w (ah (y.r i))=o->iD w si (y.r i)=C (getD (w.at (ah (y.r i))),si.take w (ah (y.r i))):=pT;have inb:bJ (y.r i)=d->(bw (y.r i)=d∨bD w (ah (y.r i))=d)->bX w (kg w m) y p (i+1) (s.iS w y p)=none:=λh1 h2=>by rw[dV hi,pJ h0 hM (Ct h1 h2)]
   refine⟨λh1 e he=> ?_,λh1=>⟨λh2=>⟨λh3 e he=> ?_,λh3 z=>bad (inb h1 (.inr h3)) _ _⟩,λh2 z=>bad (inb h1 (.inl h2)) _ _⟩⟩
   ·have hfol:=inn h1;obtain⟨g1,g2,g3,g4,g5⟩:=go hfol;refine⟨(⟨w,si,e.1,e.2,yy,room⟩,getD (y.r i),fc y p i),⟨hw,g5,he,g1,g2,g3,g4⟩,rfl,rfl,rfl,rfl,rfl,rfl,rfl,rfl,rfl,rfl,rfl,rfl,rfl,rfl,rfl,rfl,rfl,rfl,rfl,rfl,rfl,rfl,⟨rfl,rfl⟩,rfl,⟨rfl,rfl⟩,aa.refl _,aa.refl _,aa.refl _,rfl,aa.refl _,aa.refl _,?_⟩;dsimp only;exact⟨λhb q hq=>⟨⟨by omega,by omega⟩,(i+1,bp w m si (getD (y.r i)) (fc y p i),q.1,q.2),⟨⟨hsuc,on hfol hb,hq.1,hq.2⟩,hmea⟩,by omega,rfl,rfl,⟨rfl,rfl⟩,rfl,⟨rfl,rfl⟩,aa.refl _,aa.refl _,aa.refl _,aa.refl _,aa.refl _⟩,λhb z=>bad (off hfol hb) _ _⟩
   ·have hfol:=inh h1 h2 h3;obtain⟨g1,g2,g3,g4,g5⟩:=go hfol;refine⟨(⟨w,si.take w (ah (y.r i)),e.1,e.2,yy,room⟩,getD (w.at (ah (y.r i))),fc y p i),⟨hw,g5,he,g1,g2,g3,g4⟩,rfl,rfl,rfl,rfl,rfl,rfl,rfl,rfl,rfl,rfl,rfl,rfl,rfl,rfl,rfl,rfl,rfl,rfl,rfl,rfl,rfl,rfl,⟨rfl,rfl⟩,rfl,⟨rfl,rfl⟩,aa.refl _,aa.refl _,aa.refl _,rfl,aa.refl _,aa.refl _,?_⟩;dsimp only;exact⟨λhb q hq=>⟨⟨by omega,by omega⟩,(i+1,bp w m (si.take w (ah (y.r i))) (getD (w.at (ah (y.r i)))) (fc y p i),q.1,q.2),⟨⟨hsuc,on hfol hb,hq.1,hq.2⟩,hmea⟩,by omega,rfl,rfl,⟨rfl,rfl⟩,rfl,⟨rfl,rfl⟩,aa.refl _,aa.refl _,aa.refl _,aa.refl _,aa.refl _⟩,λhb z=>bad (off hfol hb) _ _⟩
  ·have e16:i=16:=by have:=of_decide_eq_false hlt;omega
   subst e16;obtain⟨k1,k2⟩:=Ol hl hi;rw[k1,k2];exact⟨λ_=>⟨(d1,d2),⟨hd1,hd2⟩,⟨rfl,rfl⟩,rfl,⟨rfl,rfl⟩,aa.refl _,aa.refl _,aa.refl _⟩,(λh=>by cases h)⟩
end
end Go.Proofs.YtoibaecagklkaaaGreatDoor
namespace Go.Proofs.YtoibaecagklkaaaGreatDoor
open Go Sx
set_option maxRecDepth 20000
theorem DU {m:Nat}(h:az M 84 (cD (zy m))):bn M (λf=>aE f (FR m)):=.cons h (cc _) (.cons Jt (cc _) (.cons SW (aR _) (.cons Iy (aR _) (.cons NP (b9 _) DT))))
theorem JH: ∀ m,az M 84 (cD (zy m))
 | 0=>gx (n:=20) (fn:=P) a_ (by kernel_rfl) (by kernel_rfl) (zy 0) λx hx=>by obtain⟨_,_,_,hf,hm,_⟩:=hx;have:=hf.lk;omega
 | m+1=>gx (n:=20) (fn:=P) a_ (by kernel_rfl) (by kernel_rfl) (zy (m+1)) λx hx=>⟨RW m x.1 x.2.1 x.2.2,.of bR (DU (JH m)) bl,rfl,zJ hx⟩
theorem Pa (m:Nat):bn M (λf=>aE f (FR m)):=DU (JH m)
def lu (fr to:List UInt8):Nat->List Rw->List UInt8->List (List UInt8)
 | 0,_,_=>[]
 | m+1,l,p=>(I 16).flatMap λi=>if aP l i=[] then [] else bif bN fr to (fc (dh (m+1) l) p i)then(if(ctext m (aP l i)).length<32 then [] else [ctext m (aP l i)])++lu fr to m (aP l i) (fc (dh (m+1) l) p i)else []
def eM (c:Nat->Nat):Nat->Nat
 | 0=>0
 | n+1=>eM c n+c n
def ny (fr to:List UInt8):Nat->List Rw->List UInt8->Nat
 | 0,_,_=>1
 | m+1,l,p=>1+eM (λi=>if aP l i=[] then 0 else bif bN fr to (fc (dh (m+1) l) p i)then ny fr to m (aP l i) (fc (dh (m+1) l) p i)else 0) 16
def jK (w:Sp)(s:Wk)(V:List (List UInt8))(E:List (List UInt8×List UInt8))(c:Nat):Wk:=V.foldl (λs t=>s.take w (aC t)) {s with lk:=s.lk+c,fs:=s.fs++E}
theorem qI (w:Sp)(a:Nat)(b:List (List UInt8×List UInt8)): ∀(V:List (List UInt8)) (s:Wk),V.foldl (λs t=>s.take w (aC t)) {s with lk:=a,fs:=b}={V.foldl (λs t=>s.take w (aC t)) s with lk:=a,fs:=b}
 | [],_=>rfl
 | t::V,s=>qI w a b V (s.take w (aC t))
theorem FA (w:Sp): ∀(V:List (List UInt8)) (s:Wk),(V.foldl (λs t=>s.take w (aC t)) s).lk=s.lk/\(V.foldl (λs t=>s.take w (aC t)) s).fs=s.fs
 | [],_=>⟨rfl,rfl⟩
 | t::V,s=>FA w V (s.take w (aC t))
theorem EY (w:Sp)(s:Wk)(V:List (List UInt8))(E:List (List UInt8×List UInt8))(c:Nat):(jK w s V E c).lk=s.lk+c:=(FA w V _).1
theorem MR (w:Sp)(s:Wk)(V:List (List UInt8))(E:List (List UInt8×List UInt8))(c:Nat):(jK w s V E c).fs=s.fs++E:=(FA w V _).2
theorem wW (w:Sp)(s:Wk)(V V':List (List UInt8))(E E':List (List UInt8×List UInt8))(c c':Nat):jK w (jK w s V E c) V' E' c'=jK w s (V++V') (E++E') (c+c'):=by
 have h1:=EY w s V E c;have h2:=MR w s V E c;have e:jK w (jK w s V E c) V' E' c'={V'.foldl (λs t=>s.take w (aC t)) (jK w s V E c)with lk:=(jK w s V E c).lk+c',fs:=(jK w s V E c).fs++E'}:=qI w _ _ V' _;have e':jK w s (V++V') (E++E') (c+c')={V'.foldl (λs t=>s.take w (aC t)) (V.foldl (λs t=>s.take w (aC t)) s)with lk:=s.lk+(c+c'),fs:=s.fs++(E++E')}:=by unfold jK;rw[qI,List.foldl_append]
 have e2:jK w s V E c={V.foldl (λs t=>s.take w (aC t)) s with lk:=s.lk+c,fs:=s.fs++E}:=qI w _ _ V s;rw[e,h1,h2,e',e2,qI];simp only[cl,a!]
theorem GZ (w:Sp)(s:Wk):jK w s [] [] 0=s:=by unfold jK;rw[Y];rfl
theorem Dk (w:Sp)(s:Wk)(t:List UInt8):s.take w (aC t)=jK w s [t] [] 0:=by unfold jK;rw[Y];rfl
def Full (w:Sp)(L:List (List UInt8)):Prop:=∀ t,t∈ L->bD w (aC t)=o/\w.at (aC t)=t
theorem Full.mono {w:Sp}{L L':List (List UInt8)}(h:Full w L)(hs: ∀ t,t∈ L'->t∈ L):Full w L':=λt ht=>h t (hs t ht)
theorem UR {c:Nat->Nat}{n m:Nat}(h:n<=m):eM c n<=eM c m:=by
 induction m with
 | zero=>have:n=0:=by omega
         subst this;exact O _
 | succ m ih =>
   by_cases e:n=m+1
   ·subst e;exact O _
   ·have:=ih (by omega);show _<=eM c m+c m;omega
theorem Ju {w:Sp}{m:Nat}{l:List Rw}{p:List UInt8}(s:Wk)(hk: ∀ x,x∈ l->kC (cat p x.1)=o):s.iS w (dh m l) p=jK w s [] (BV w.fr w.to p (dh m l)) 1:=by
 have e:(s.iS w (dh m l) p).fs=s.fs++BV w.fr w.to p (dh m l):=by
  cases m with
  | zero=>show(if eE w e8 p=o then s.fs++[(aX (cat p e8.p),e8.v)] else s.fs)=s.fs++[]
          rw[if_neg (by unfold eE;simp[e8]),Y]
  | succ m=>exact Xe s hk
 have:s.iS w (dh m l) p={s with lk:=s.lk+1,fs:=(s.iS w (dh m l) p).fs}:=rfl;rw[this,e];rfl
theorem ye {l:List Rw}(h:cg 0 l):l=[]:=by
 cases l with
 | nil=>rfl
 | cons r l=>exact absurd (h.len r (ag ..)) (cx _)
theorem LF (fr to p:List UInt8){m:Nat}{l:List Rw}(h:cg (m+1) l) :
  gI fr to p l=BV fr to p (dh (m+1) l)++(I 16).flatMap λi=>gI fr to (fc (dh (m+1) l) p i) (aP l i):=by
 by_cases hl:l=[]
 ·subst hl;rw[qH (f:=λi=>gI fr to (fc (dh (m+1) []) p i) (aP [] i)) λi _=>rfl];rfl
 ·exact Px fr to p hl h
theorem uE {α:Type}(f:Nat->List α)(n:Nat):(I (n+1)).flatMap f=(I n).flatMap f++f n:=by rw[List.range_succ,List.flatMap_append];simp
theorem JU {w:Sp}: ∀ {m:Nat} {l:List Rw} {p:List UInt8} {j:Nat} {s:Wk},m<=13->cg m l->m<=j->0<j->Full w (lu w.fr w.to m l p)->(∀ x,x∈ l->kC (cat p x.1)=o)->s.lk+ny w.fr w.to m l p<=400 ->
  kg w j s (dh m l) p=C (jK w s (lu w.fr w.to m l p) (gI w.fr w.to p l) (ny w.fr w.to m l p))
 | m,l,p,0,s,_,_,_,h,_,_,_=>absurd h (ct 0)
 | 0,l,p,j+1,s,_,hr,_,_,_,hk,hl=>by
   have e:=ye hr;subst e;have hl:s.lk+1<=400:=hl;unfold kg;rw[if_neg (by omega),Ju (m:=0) (l:=[]) s hk];have key: ∀ n,n<=16->∀ s1:Wk,bX w (kg w j) (dh 0 []) p n s1=C s1:=by
    intro n;induction n with
    | zero=>intro _ s1;rfl
    | succ n ih =>intro hn s1;unfold bX;rw[ih (by omega)];exact j8 (l8 n (by omega))
   rw[key 16 (O _)];rfl
 | m+1,l,p,j+1,s,hm,hr,hj,_,hf,hk,hl=>by
   have hN:ny w.fr w.to (m+1) l p=1+eM (λi=>if aP l i=[] then 0 else bif bN w.fr w.to (fc (dh (m+1) l) p i)then ny w.fr w.to m (aP l i) (fc (dh (m+1) l) p i)else 0) 16:=rfl
   have hV:lu w.fr w.to (m+1) l p=(I 16).flatMap λi=>if aP l i=[] then [] else bif bN w.fr w.to (fc (dh (m+1) l) p i)then(if(ctext m (aP l i)).length<32 then [] else [ctext m (aP l i)])++lu w.fr w.to m (aP l i) (fc (dh (m+1) l) p i)else []:=rfl
   rw[hV] at hf ⊢;rw[hN] at hl ⊢;generalize hc:(λi=>if aP l i=[] then 0 else bif bN w.fr w.to (fc (dh (m+1) l) p i)then ny w.fr w.to m (aP l i) (fc (dh (m+1) l) p i)else 0)=c at hl ⊢
   generalize hV2:(λi=>if aP l i=[] then [] else bif bN w.fr w.to (fc (dh (m+1) l) p i)then(if(ctext m (aP l i)).length<32 then [] else [ctext m (aP l i)])++lu w.fr w.to m (aP l i) (fc (dh (m+1) l) p i)else [])=V at hf ⊢
   unfold kg;rw[if_neg (by omega),Ju (m:=m+1) s hk];have key: ∀ n,n<=16->bX w (kg w j) (dh (m+1) l) p n (jK w s [] (BV w.fr w.to p (dh (m+1) l)) 1)=C (jK w s ((I n).flatMap V) (BV w.fr w.to p (dh (m+1) l)++(I n).flatMap λi=>gI w.fr w.to (fc (dh (m+1) l) p i) (aP l i)) (1+eM c n)):=by
    intro n;induction n with
    | zero=>intro _;show C _=C _;simp[eM]
    | succ n ih =>
      intro hn;rw[dV (ih (by omega))];have hle:eM c (n+1)<=eM c 16:=UR hn;have hs1:eM c (n+1)=eM c n+c n:=rfl;rw[uE,uE,hs1,← a!,← cl,← wW];have hlk:=EY w s ((I n).flatMap V) (BV w.fr w.to p (dh (m+1) l)++(I n).flatMap λi=>gI w.fr w.to (fc (dh (m+1) l) p i) (aP l i)) (1+eM c n);generalize jK w s ((I n).flatMap V) (BV w.fr w.to p (dh (m+1) l)++(I n).flatMap λi=>gI w.fr w.to (fc (dh (m+1) l) p i) (aP l i)) (1+eM c n)=s1 at hlk ⊢;have hfn: ∀ t,t∈ V n->bD w (aC t)=o/\w.at (aC t)=t:=λt ht=>hf t (Q.2 ⟨n,b!.2 (by omega),ht⟩);have ec:c n=if aP l n=[] then 0 else bif bN w.fr w.to (fc (dh (m+1) l) p n)then ny w.fr w.to m (aP l n) (fc (dh (m+1) l) p n)else 0:=by rw[← hc]
      have ev:V n=if aP l n=[] then [] else bif bN w.fr w.to (fc (dh (m+1) l) p n)then(if(ctext m (aP l n)).length<32 then [] else [ctext m (aP l n)])++lu w.fr w.to m (aP l n) (fc (dh (m+1) l) p n)else []:=by rw[← hV2]
      by_cases he:aP l n=[]
      ·rw[j8 (by rw[rR m l (by omega),if_pos he]),ec,ev,if_pos he,if_pos he,he];show C s1=C (jK w s1 [] [] 0);rw[GZ]
      ·rw[if_neg he] at ec ev;cases hmt:bN w.fr w.to (fc (dh (m+1) l) p n)with
       | false =>rw[hmt,cond_false] at ec ev;rw[ri hmt,ec,ev,Py hmt,GZ]
       | true =>
         rw[hmt,cond_true] at ec ev;have ho:=gA hr n;have hv:=dZ (m:=m) (by omega) ho he;have hk0:=Ky ho he;have er:(dh (m+1) l).r n=eS (ctext m (aP l n)):=by rw[rR m l (by omega),if_neg he]
         have hm0:0<m:=by
          cases m with
          | zero=>exact absurd (ye ho) he
          | succ m=>exact cy _
         have rest: ∀ s2:Wk,s2.lk=s1.lk->kg w j s2 (dh m (aP l n)) (fc (dh (m+1) l) p n)=C (jK w s2 (lu w.fr w.to m (aP l n) (fc (dh (m+1) l) p n)) (gI w.fr w.to (fc (dh (m+1) l) p n) (aP l n)) (ny w.fr w.to m (aP l n) (fc (dh (m+1) l) p n))):=λs2 h2 =>JU (by omega) ho (by omega) (by omega) (λt ht=>hfn t (by rw[ev];exact b_ _ ht)) (λx hx=>by obtain⟨z,hz,e⟩:=HV (p:=p) hr hx;rw[e];exact hk z hz) (by omega)
         have hne: ¬ (dh (m+1) l).r n=[]:=by rw[er];exact(BB hv hk0).2
         by_cases hs:(ctext m (aP l n)).length<32
         ·rw[if_pos hs,an] at ev;have hin:bJ ((dh (m+1) l).r n)=true:=by rw[er,gM hs];exact(vr hv hk0 hs).1
          have hg:getD ((dh (m+1) l).r n)=dh m (aP l n):=by rw[er,gM hs];exact gX hv
          rw[gL hne hmt (wj hin),hg,rest s1 rfl,ec,ev]
         ·rw[if_neg hs] at ev;obtain⟨h1,h2,h3⟩:=i9 hs;have hin:bJ ((dh (m+1) l).r n)=false:=by
           cases h:bJ ((dh (m+1) l).r n)with
           | false=>rfl
           | true=>rw[er] at h;have:=oX h;omega
          obtain⟨f1,f2⟩:=hfn (ctext m (aP l n)) (by rw[ev];exact bU _ (ag ..));rw[gL hne hmt (pT hin (by rw[er];exact h1) (by rw[er,h2];exact f1)),er,h2,f2,gX hv,rest (s1.take w (aC (ctext m (aP l n)))) rfl,Dk,wW,ec,ev,an,ay]
   rw[key 16 (O _),← LF w.fr w.to p hr]
theorem yw {K c:Nat->Nat}(h0: ∀ i,K i=0->c i=0)(h1: ∀ i,K i≠0->c i+2<=3*K i): ∀ n,eM c n=0∨(∃ i,i<n/\eM c n+2<=3*K i/\K i<=eM K n)∨eM c n+4<=3*eM K n
 | 0=>.inl rfl
 | n+1=>by
   have e1:eM c (n+1)=eM c n+c n:=rfl;have e2:eM K (n+1)=eM K n+K n:=rfl;rw[e1,e2];by_cases hz:K n=0
   ·rw[h0 n hz,hz];rcases yw h0 h1 n with h | ⟨i,hi,h,h'⟩ | h
    ·exact .inl (by omega)
    ·exact .inr (.inl ⟨i,by omega,by omega,by omega⟩)
    ·exact .inr (.inr (by omega))
   ·have:=h1 n hz;rcases yw h0 h1 n with h | ⟨i,hi,h,h'⟩ | h
    ·exact .inr (.inl ⟨n,by omega,by omega,by omega⟩)
    ·exact .inr (.inr (by omega))
    ·exact .inr (.inr (by omega))
theorem JN (l:List Rw): ∀ n,eM (λi=>(aP l i).length) n=lY l n
 | 0=>rfl
 | n+1=>by show eM _ n+_=lY l n+_;rw[JN l n]
theorem MN (fr to:List UInt8): ∀ {m:Nat} {l:List Rw} {p:List UInt8},cg m l->l≠[]->ny fr to m l p+2<=3*l.length/\((∃ r s t,l=r::s::t/\¬ 0<bH r.1 ((s::t).getLastD r).1)->ny fr to m l p+3<=3*l.length)
 | 0,l,p,h,hl=>absurd (ye h) hl
 | m+1,[],p,h,hl=>absurd rfl hl
 | m+1,[r],p,h,hl=>by have e:ny fr to (m+1) [r] p=1:=rfl;rw[e];exact⟨by show 1+2<=3*1;omega,fun⟨_,_,_,h,_⟩=>by cases h⟩
 | m+1,r::s::t,p,h,_=>by
   generalize hc:(λi=>if aP (r::s::t) i=[] then 0 else bif bN fr to (fc (dh (m+1) (r::s::t)) p i)then ny fr to m (aP (r::s::t) i) (fc (dh (m+1) (r::s::t)) p i)else 0)=c
   have hN:ny fr to (m+1) (r::s::t) p=1+eM c 16:=by rw[← hc];rfl
   have hL:(r::s::t).length=t.length+2:=rfl;have c0: ∀ i,(aP (r::s::t) i).length=0->c i=0:=λi hi=>by rw[← hc];exact if_pos (List.eq_nil_of_length_eq_zero hi)
   have c1: ∀ i,(aP (r::s::t) i).length≠0->c i+2<=3*(aP (r::s::t) i).length:=λi hi=>by
    have hne:aP (r::s::t) i≠[]:=λe=>hi (by rw[e];rfl);have:=(MN fr to (p:=fc (dh (m+1) (r::s::t)) p i) (gA h i) hne).1;rw[← hc];dsimp only;rw[if_neg hne];cases bN fr to (fc (dh (m+1) (r::s::t)) p i)with
    | true=>exact this
    | false=>show 0+2<=_;omega
   by_cases hk:0<bH r.1 ((s::t).getLastD r).1
   ·refine⟨?_,fun⟨_,_,_,e,hn⟩=>by injection e with e1 e;injection e with e2 e3;subst e1;subst e2;subst e3;exact absurd hk hn⟩;have k0:aP (r::s::t) 0=b7 (bH r.1 ((s::t).getLastD r).1) (r::s::t):=by rw[cI,if_pos hk,if_pos rfl]
    have hne:aP (r::s::t) 0≠[]:=by rw[k0,qD];exact List.cons_ne_nil _ _
    have kl:(aP (r::s::t) 0).length=t.length+2:=by rw[k0];show(bO _ _).length=_;rw[bf];rfl
    have hb:=(MN fr to (p:=fc (dh (m+1) (r::s::t)) p 0) (gA h 0) hne).2 ⟨_,_,_,k0.trans (qD _),by have:((s.1.drop (bH r.1 ((s::t).getLastD r).1),s.2)::b7 (bH r.1 ((s::t).getLastD r).1) t).getLastD (r.1.drop (bH r.1 ((s::t).getLastD r).1),r.2)=_:=xK (bH r.1 ((s::t).getLastD r).1) r (s::t);rw[this,xm];exact ct 0⟩
    have hc0:c 0+3<=3*(t.length+2):=by
     rw[← hc];dsimp only;rw[if_neg hne];cases bN fr to (fc (dh (m+1) (r::s::t)) p 0)with
     | true=>rw[← kl];exact hb
     | false=>show 0+3<=_;omega
    have hz: ∀ n,0<n->eM c n=c 0:=λn=>by
     induction n with
     | zero=>intro h;omega
     | succ n ih =>
       intro _;show eM c n+c n=_;by_cases e:n=0
       ·subst e;exact ay _
       ·rw[ih (by omega),c0 n (by rw[cI,if_pos hk,if_neg e];rfl)];rfl
    rw[hN,hz 16 (by decide),hL];omega
   ·have hlt: ∀ i,(aP (r::s::t) i).length<=t.length+1:=λi=>by
     rw[cI,if_neg hk];show(bO _ (bB i (r::s::t))).length<=_;rw[bf];have hle:(bB i (r::s::t)).length<=(r::s::t).length:=List.length_filter_le _ _;by_cases e:(bB i (r::s::t)).length=(r::s::t).length
     ·have ha:=List.length_filter_eq_length_iff.1 e;have h1:=ha r (ag ..);have h2:=ha _ (nR r (s::t));refine absurd ?_ hk;generalize ((s::t).getLastD r)=z at h2 ⊢;obtain⟨a,v⟩:=r;obtain⟨b,v'⟩:=z;cases a with
      | nil=>cases h1
      | cons a q =>
        cases b with
        | nil=>cases h2
        | cons b q' =>have e1:a.toNat=i:=of_decide_eq_true h1;have e2:b.toNat=i:=of_decide_eq_true h2;have e:a=b:=UInt8.toNat_inj.1 (by omega);show 0<bH (a::q) (b::q');unfold bH;rw[if_pos e];exact cy _
     ·rw[hL] at hle e;omega
    have hS:=yw (K:=λi=>(aP (r::s::t) i).length) c0 c1 16;rw[JN] at hS;have hK:=xH (r::s::t) 16;rw[hL] at hK;have:ny fr to (m+1) (r::s::t) p+3<=3*(t.length+2):=by
     rw[hN];rcases hS with hS | ⟨i,_,hS,_⟩ | hS
     ·omega
     ·have:=hlt i;omega
     ·omega
    rw[hL];exact⟨by omega,λ_=>this⟩
theorem yG (fr to:List UInt8): ∀ {m:Nat} {l:List Rw} {p t:List UInt8},t∈ lu fr to m l p->t∈ cw m l
 | 0,_,_,_,h=>by cases h
 | m+1,l,p,t,h=>by
   unfold lu at h;obtain⟨i,hi,h⟩:=Q.1 h;unfold cw;refine Q.2 ⟨i,hi,?_⟩;by_cases e:aP l i=[]
   ·rw[if_pos e] at h;cases h
   ·rw[if_neg e] at h ⊢;cases hm:bN fr to (fc (dh (m+1) l) p i)with
    | false=>rw[hm] at h;cases h
    | true =>
      rw[hm,cond_true] at h;rcases bS.1 h with h | h
      ·exact bU _ h
      ·exact b_ _ (yG fr to h)
theorem Oq {fr to:List UInt8}: ∀ {m:Nat} {l:List Rw} {p:List UInt8},cg m l->(∀ q:List UInt8,(∃ x,x∈ l/\∃ u,cat p x.1=q++u)->bN fr to q=o)->lu fr to m l p=cw m l
 | 0,_,_,_,_=>rfl
 | m+1,l,p,h,hq=>by
   unfold lu cw;refine gW λi _=> ?_;by_cases e:aP l i=[]
   ·rw[if_pos e,if_pos e]
   ·rw[if_neg e,if_neg e];have kf: ∀ x,x∈ aP l i->∃ y,y∈ l/\cat (fc (dh (m+1) l) p i) x.1=cat p y.1:=λx hx=>HV (p:=p) h hx;have hm:bN fr to (fc (dh (m+1) l) p i)=true:=by obtain⟨x,hx⟩:=List.exists_mem_of_ne_nil _ e;obtain⟨y,hy,e2⟩:=kf x hx;exact hq _ ⟨y,hy,x.1,e2.symm⟩
    rw[hm,cond_true,Oq (gA h i) λq ⟨x,hx,u,e3⟩=>by obtain⟨y,hy,e2⟩:=kf x hx;exact hq q ⟨y,hy,u,e2.symm.trans e3⟩]
theorem zh {w:Sp}{T:Wk->Nd->List UInt8->Option Wk}{x:Nd}{p:List UInt8}: ∀ {n:Nat} {s s':Wk},bX w T x p n s=C s'->∀ i,i<n->∃ s1 s2,iK w T x p i s1=C s2
 | 0,_,_,_,i,hi=>absurd hi (cx _)
 | n+1,s,s',h,i,hi=>by
   unfold bX at h;split at h
   ·cases h
   ·rename_i s1 h1;by_cases e:i=n
    ·subst e;exact⟨s1,s',h⟩
    ·exact zh h1 i (by omega)
theorem CD {w:Sp}: ∀ {m:Nat} {l:List Rw} {p:List UInt8} {j:Nat} {s s':Wk},m<=13->cg m l->Clear w (cw m l)->kg w j s (dh m l) p=C s'->Full w (lu w.fr w.to m l p)
 | 0,_,_,_,_,_,_,_,_,_=>λt ht=>by cases ht
 | m+1,l,p,0,_,_,_,_,_,h=>by cases h
 | m+1,l,p,j+1,s,s',hm,hr,hc,h=>λt ht=>by
   unfold kg at h;split at h
   ·cases h
   unfold lu at ht;obtain⟨i,hi,ht⟩:=Q.1 ht;have hi:=b!.1 hi;by_cases e:aP l i=[]
   ·rw[if_pos e] at ht;cases ht
   ·rw[if_neg e] at ht;cases hmt:bN w.fr w.to (fc (dh (m+1) l) p i)with
    | false=>rw[hmt] at ht;cases ht
    | true =>
      rw[hmt,cond_true] at ht;obtain⟨s1,s2,h2⟩:=zh h i hi;have ho:=gA hr i;have hv:=dZ (m:=m) (by omega) ho e;have hk0:=Ky ho e;have er:(dh (m+1) l).r i=eS (ctext m (aP l i)):=by rw[rR m l hi,if_neg e]
      have hcl:Clear w (cw m (aP l i)):=λu hu=>hc u (wZ hi e hu);have hne: ¬ (dh (m+1) l).r i=[]:=by rw[er];exact(BB hv hk0).2
      by_cases hs:(ctext m (aP l i)).length<32
      ·rw[if_pos hs,an] at ht;have hin:bJ ((dh (m+1) l).r i)=true:=by rw[er,gM hs];exact(vr hv hk0 hs).1
       have hg:getD ((dh (m+1) l).r i)=dh m (aP l i):=by rw[er,gM hs];exact gX hv
       rw[gL hne hmt (wj hin),hg] at h2;exact CD (by omega) ho hcl h2 t ht
      ·rw[if_neg hs] at ht;obtain⟨h1,h3,h4⟩:=i9 hs;have hin:bJ ((dh (m+1) l).r i)=false:=by
        cases h:bJ ((dh (m+1) l).r i)with
        | false=>rfl
        | true=>rw[er] at h;have:=oX h;omega
       cases hl:bD w (aC (ctext m (aP l i)))with
       | false =>rw[pJ hne hmt (Ct hin (.inr (by rw[er,h3];exact hl)))] at h2;cases h2
       | true =>
         have hat:=hc _ (Ax hi e hs) hl;rw[gL hne hmt (pT hin (by rw[er];exact h1) (by rw[er,h3];exact hl)),er,h3,hat,gX hv] at h2;rcases bS.1 ht with ht | ht
         ·rw[List.mem_singleton] at ht;subst ht;exact⟨hl,hat⟩
         ·exact CD (by omega) ho hcl h2 t ht
end Go.Proofs.YtoibaecagklkaaaGreatDoor
