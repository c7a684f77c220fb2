/-
  Span: take: the contract; follow: the set-up.
-/
import Derived.Test.YtoibaecagklkaaaGreatDoorMp
import Derived.Test.YtoibaecagklkaaaGreatDoorMo
import Derived.Test.YtoibaecagklkaaaGreatDoorMl
open And renaming intro->J
open Bool renaming and_false->Y,false->A,false_eq_true->M,true->C,true_eq_false->O
open Decidable renaming decide->L
open Go.IntKind renaming i64->G
open Go.LoopState renaming ready->I
open Go.Proofs.Tryz renaming f132->S,f51->V,f83->Z,f84->P,func84->an,prog->K
open List renaming drop_succ_cons->aD,getElem?_cons_zero->W,getElem?_eq_getElem->aK,length_append->N,mem_range->a_,range->Q,take_succ_cons->a!
open Option renaming none->D,some->H
open Option.some renaming injEq->X
namespace Go.Proofs.YtoibaecagklkaaaGreatDoor
open Go Sx
variable {z:Bool}{a b t:e_}{c i k m n:Nat}{p:Prop}{ty:TypeId}{s:Wk}
section
open Go Sx
set_option maxRecDepth 20000
theorem Oo {n':Nat}{cs cs':List aE}{tot tot':Nat}(hn:n=n')(ht:tot=tot')(hl:cs.length=cs'.length)
  (h: ∀(k:Nat) (c c':aE),cs[k]?=H c->cs'[k]?=H c'->∀ i,i<n->∀ E,(c'.at i).val E=(c.at i).val E):ah (.rows z n cs A tot ty) (.rows z n' cs' A tot' ty):=by
 subst hn;subst ht;refine ah.of rfl rfl λhno=>⟨hno,λE o ⟨c,fr,h1,h2,h3,h4,h5⟩=>⟨c,fr,h1,h2,by rw[← hl];exact h3,h4,λi k col hi hk=> ?_⟩,id⟩
 have hk0:k<cs.length:=by rw[hl];exact(List.getElem?_eq_some_iff.1 hk).1
 rw[h k _ col (aK hk0) hk i hi E,← hl];exact h5 i k _ hi (aK hk0)
theorem Ju {α:Type}(l:List α)(x d:α)(i:Nat)(h:i<l.length+1):(l++[x]).getD i d=if i<l.length then l.getD i d else [x].getD (i - l.length) d:=by
 simp only[List.getD_eq_getElem?_getD];by_cases h1:i<l.length
 ·rw[if_pos h1,List.getElem?_append_left h1]
 ·rw[if_neg h1,List.getElem?_append_right (by omega)]
theorem N7 {l:List e_}{x:e_}:ah (.rows C (l.length+1) [.str λj=>if j<l.length then l.getD j [] else bZ [x] (j - l.length)] A (c*1) ty) (.rows C (l++[x]).length [l8 (l++[x])] A (c*1) ty):=by
 refine Oo (by simp) rfl rfl λk c c' h1 h2 i hi E=> ?_;cases k with
 | zero =>simp only[W,X] at h1 h2;subst h1;subst h2;simp only[l8,aE.at,SV.val,Ju l x [] i hi];rfl
 | succ k=>simp at h1
theorem ve :ah (SB.cells [SV.str C a,SV.str A b] 2 ty) (SB.cells [SV.str A (a,b).1,SV.str A (a,b).2] 2 ty):=ah.cells (λ_=>rfl) rfl
theorem acD.zero (E:Nat->Nat):SV.val E (SV.agg [SV.int .i64 C 0,SV.str C [],SV.str C [],SV.str C [],SV.str C [],SV.str C [],SV.str C [],SV.str C [],SV.str C [],SV.str C [],SV.str C [],SV.str C [],SV.str C [],SV.str C [],SV.str C [],SV.str C [],SV.str C [],SV.str C [],SV.str C []])=SV.val E cK:=rfl
section
attribute [local irreducible] aJ getD
theorem GF {x:yu×e_}(hw:x.1.w.Ok)(hs:x.1.s.Small)(hc:x.1.s.ns.length<=x.1.c1/\x.1.s.fs.length<=x.1.c2):av (runM sP 83 Z vW x):=by
 refine av.gV (WA x) (by delta Bk Fk;exact rfl) ?_;obtain⟨⟨w,s,c1,c2⟩,t⟩:=x;dsimp only at hw hs hc ⊢;have hu:=hs.u t;have hn:=hs.ns;have eu:dflt (s.ud t) (s.us t)=s.used t:=rfl;have el:dJ w t=(w.ad t&&aJ (w.f (w.ag t).toNat)):=rfl;have ea:w.at t=w.f (w.ag t).toNat:=rfl;obtain⟨hc1,hc2⟩:=hc;have ez:=acD.zero;simp only[eu,Nat.zero_add];cases hA:w.ad t with
 | false =>rw[hA] at el;simp only[el,Bool.false_and,Bool.not_false,M,O,false_imp_iff,forall_const,true_and,and_true];exact⟨(_,_),ez,ve⟩
 | true =>
   obtain⟨b1,b2⟩:=hw.a t hA;have hf:=hw.f (w.ag t).toNat (by omega);rw[hA] at el;have ed:dflt C (w.ag t)=w.ag t:=rfl;simp only[ed,Bool.not_true,M,false_imp_iff,forall_const,true_and];refine⟨⟨b1,b2⟩,by omega,⟨by omega,by omega⟩,λhB=> ?_,λhB=> ?_⟩
   ·rw[hB] at el;simp only[el,Bool.and_self,O,false_imp_iff,forall_const,and_true];refine⟨λh0=>⟨⟨Nat.le_refl _,by omega,by omega⟩,λc hcc=>⟨by omega,?_⟩⟩,λh0=>⟨by omega,?_⟩⟩
    ·have h0:=of_decide_eq_true h0;rw[if_pos h0,N];have h1:(Wk.take w s t).ns=s.ns++[w.f (w.ag t).toNat]:=by show(if s.used t=0 then _ else _)=_;rw[if_pos h0];rfl
     have hns:ah (.rows C (s.ns.length+1) [.str λj=>if j<s.ns.length then s.ns.getD j [] else bZ [w.f (w.ag t).toNat] (j - s.ns.length)] A (c*1) 9) (cZ (Wk.take w s t) c):=by unfold cZ;rw[h1];exact N7
     have hl:s.ns.length+[w.at t].length<=c:=hcc;refine⟨(c,c2),?_⟩
     repeat' first
      | assumption
      | exact ve
      | exact ah.refl _
      | refine J ?_ ?_
      | exact λ_=>rfl
      | rfl
      | omega
      | exact trivial
      | fail
    ·have h0:=of_decide_eq_false h0;rw[if_neg h0];have h1:(Wk.take w s t).ns=s.ns:=by show(if s.used t=0 then _ else _)=_;rw[if_neg h0]
     have hns:ah (.rows C s.ns.length [l8 s.ns] A (c1*1) 9) (cZ (Wk.take w s t) c1):=by unfold cZ;rw[h1];exact ah.refl _
     refine⟨(c1,c2),?_⟩
     repeat' first
      | assumption
      | exact ve
      | exact ah.refl _
      | refine J ?_ ?_
      | exact λ_=>rfl
      | rfl
      | omega
      | exact trivial
      | fail
   ·rw[hB] at el;simp only[el,Y,M,false_imp_iff,forall_const,true_and];exact⟨(_,_),ez,ve,trivial⟩
end
theorem QZ:ax K 83 (gK vW) :=kQ (n:=20) (fn:=Z) Tryz.func83 (by kernel_rfl) (by kernel_rfl) vW λx hx=>⟨sP,Fq,rfl,GF hx.1 hx.2.1 hx.2.2.1⟩
noncomputable def LN:List (FuncId×PT):=(83,gK vW)::(43,aM Ft)::(42,aM xF)::(130,bw nW)::LM
theorem DE:aQ K (λf=>ay f LN):=.cons QZ (eX _) (.cons abd (aG _) (.cons UH (aG _) (.cons X4 (aZ _) DD)))
noncomputable def Nw:dK:={bE with cm:=λf=>ay f LN}
theorem abb:Sx.Good K Nw:=.of bz DE aU
end
section
open Go Sx
set_option maxRecDepth 20000
theorem M9 (x:yu×e_):VC.holds (runM Nw 132 S od x)=((λj:SV=>((λd:SB=>((Rel 9223372036854775808 x.2/\Bk (bM x.2) (Bk (bM x.2) (∃(e:Nat×Nat),(x.1.s.ns.length<=e.1/\x.1.s.fs.length<=e.2)/\(∀(l:Nat->Nat),SV.val l (SV.agg (bB (getD x.2)))=SV.val l (getD x.2).sv)/\(7:Nat)=(7:Nat)/\x.1.w.fr=x.1.w.fr/\x.1.w.to=x.1.w.to/\(0:Nat)=(0:Nat)/\(0:Nat)=(0:Nat)/\((0:Nat)=(0:Nat)/\x.1.s.ns.length=x.1.s.ns.length/\x.1.c1=e.1)/\True/\(x.1.s.lk:Int)=(x.1.s.lk:Int)/\((0:Nat)=(0:Nat)/\x.1.s.fs.length=x.1.s.fs.length/\x.1.c2=e.2)/\True/\ah (ig x.1.s) (ig x.1.s)/\ah (SB.rows C x.1.s.ns.length [l8 x.1.s.ns] A (x.1.c1*1) 9) (cZ x.1.s e.1)/\ah (SB.rows C x.1.s.fs.length [eC x.1.s.fs,eD x.1.s.fs] A (x.1.c2*2) 50) (cR x.1.s e.2)/\ah (SB.cells [SV.map 5] 1 90) (SB.cells [SV.map 5] 1 90)/\ah (SB.fmap x.1.w.ad (bL.int G x.1.w.ag) D) (SB.fmap x.1.w.ad (bL.int G x.1.w.ag) D)/\ah d d/\True) (Bk (bY x.2) (Bk (dJ x.1.w (af x.2)) (∃(g:Nat×Nat),((if x.1.s.used (af x.2)=0 then x.1.s.ns++[x.1.w.at (af x.2)] else x.1.s.ns).length<=g.1/\x.1.s.fs.length<=g.2)/\(∀(m:Nat->Nat),SV.val m (SV.agg (bB (getD x.2)))=SV.val m (getD (x.1.w.at (af x.2))).sv)/\(7:Nat)=(7:Nat)/\x.1.w.fr=x.1.w.fr/\x.1.w.to=x.1.w.to/\(0:Nat)=(0:Nat)/\(0:Nat)=(0:Nat)/\((0:Nat)=(0:Nat)/\x.1.s.ns.length=(if x.1.s.used (af x.2)=0 then x.1.s.ns++[x.1.w.at (af x.2)] else x.1.s.ns).length/\x.1.c1=g.1)/\True/\(x.1.s.lk:Int)=(x.1.s.lk:Int)/\((0:Nat)=(0:Nat)/\x.1.s.fs.length=x.1.s.fs.length/\x.1.c2=g.2)/\True/\ah (SB.fmap x.1.s.ud (bL.int G x.1.s.us) D) (ig (Wk.take x.1.w x.1.s (af x.2)))/\ah (SB.rows C x.1.s.ns.length [l8 x.1.s.ns] A (x.1.c1*1) 9) (cZ (Wk.take x.1.w x.1.s (af x.2)) g.1)/\ah (SB.rows C x.1.s.fs.length [eC x.1.s.fs,eD x.1.s.fs] A (x.1.c2*2) 50) (cR (Wk.take x.1.w x.1.s (af x.2)) g.2)/\ah (SB.cells [SV.map 5] 1 90) (SB.cells [SV.map 5] 1 90) /\ah (SB.fmap x.1.w.ad (bL.int G x.1.w.ag) D) (SB.fmap x.1.w.ad (bL.int G x.1.w.ag) D)/\ah d d/\True) (∃(_:e_×e_),False)) (∃(_:e_×e_),False))) (x.2.length<9223372036854775808/\Bk (bY x.2) (∃(a:yu×e_),(a.1.w.Ok/\a.1.s.Small/\(a.1.s.ns.length<=a.1.c1/\a.1.s.fs.length<=a.1.c2)/\True)/\(0:Nat)=(0:Nat)/\af x.2=a.2/\(7:Nat)=(7:Nat)/\x.1.w.fr=a.1.w.fr/\x.1.w.to=a.1.w.to/\(0:Nat)=(0:Nat)/\(0:Nat)=(0:Nat)/\((0:Nat)=(0:Nat)/\x.1.s.ns.length=a.1.s.ns.length/\x.1.c1=a.1.c1)/\True/\(x.1.s.lk:Int)=(a.1.s.lk:Int)/\((0:Nat)=(0:Nat)/\x.1.s.fs.length=a.1.s.fs.length/\x.1.c2=a.1.c2)/\True/\ah (SB.fmap x.1.s.ud (bL.int G x.1.s.us) D) (ig a.1.s)/\ah (SB.rows C x.1.s.ns.length [l8 x.1.s.ns] A (x.1.c1*1) 9) (cZ a.1.s a.1.c1) /\ah (SB.rows C x.1.s.fs.length [eC x.1.s.fs,eD x.1.s.fs] A (x.1.c2*2) 50) (cR a.1.s a.1.c2)/\(1:Nat)=(1:Nat)/\ah (SB.fmap x.1.w.ad (bL.int G x.1.w.ag) D) (SB.fmap a.1.w.ad (bL.int G a.1.w.ag) D)/\(1:Nat)=(1:Nat)/\(x.1.w.z=a.1.w.z/\x.1.w.o=a.1.w.o/\(0:Nat)=(0:Nat)/\x.1.w.n=a.1.w.n/\x.1.w.c=a.1.w.c)/\ah (SB.view x.1.w.z x.1.w.o x.1.w.n [aE.str x.1.w.f]) (SB.view a.1.w.z a.1.w.o a.1.w.n [aE.str a.1.w.f])/\Bk (dJ a.1.w a.2) (∀(b:Nat×Nat),(if a.1.s.used a.2=0 then a.1.s.ns++[a.1.w.at a.2] else a.1.s.ns).length<=b.1/\a.1.s.fs.length<=b.2->Bk (bM x.2) (∃(h:Nat×Nat),(x.1.s.ns.length<=h.1/\x.1.s.fs.length<=h.2)/\(∀(p:Nat->Nat),SV.val p (SV.agg (bB (getD (a.1.w.at a.2))))=SV.val p (getD x.2).sv)/\(7:Nat)=(7:Nat)/\a.1.w.fr=x.1.w.fr/\a.1.w.to=x.1.w.to/\(0:Nat)=(0:Nat)/\(0:Nat)=(0:Nat)/\((0:Nat)=(0:Nat) /\(if a.1.s.used a.2=0 then a.1.s.ns++[a.1.w.at a.2] else a.1.s.ns).length=x.1.s.ns.length/\b.1=h.1)/\True/\(a.1.s.lk:Int)=(x.1.s.lk:Int)/\((0:Nat)=(0:Nat)/\a.1.s.fs.length=x.1.s.fs.length/\b.2=h.2)/\True/\ah (SB.fmap (mA a.1.s.ud a.2) (bL.int G (x8 a.1.s.us a.2 (a.1.s.used a.2+1))) D) (ig x.1.s)/\ah (SB.rows C (if a.1.s.used a.2=0 then a.1.s.ns++[a.1.w.at a.2] else a.1.s.ns).length [aE.str λK=>(if a.1.s.used a.2=0 then a.1.s.ns++[a.1.w.at a.2] else a.1.s.ns).getD K []] A (b.1*1) 9) (cZ x.1.s h.1)/\ah (SB.rows C a.1.s.fs.length [aE.str λL=>(a.1.s.fs.getD L ([],[])).1,aE.str λM=>(a.1.s.fs.getD M ([],[])).2] A (b.2*2) 50) (cR x.1.s h.2)/\ah (SB.cells [SV.map 5] 1 90) (SB.cells [SV.map 5] 1 90)/\ah (SB.fmap a.1.w.ad (bL.int G a.1.w.ag) D) (SB.fmap x.1.w.ad (bL.int G x.1.w.ag) D) /\ah (SB.cells [SV.aS 7 1 a.1.w.z a.1.w.o 0 a.1.w.n a.1.w.c] 1 29) d/\True) (Bk (bY x.2) (Bk (dJ x.1.w (af x.2)) (∃(i:Nat×Nat),((if x.1.s.used (af x.2)=0 then x.1.s.ns++[x.1.w.at (af x.2)] else x.1.s.ns).length<=i.1/\x.1.s.fs.length<=i.2)/\(∀(q:Nat->Nat),SV.val q (SV.agg (bB (getD (a.1.w.at a.2))))=SV.val q (getD (x.1.w.at (af x.2))).sv)/\(7:Nat)=(7:Nat)/\a.1.w.fr=x.1.w.fr/\a.1.w.to=x.1.w.to/\(0:Nat)=(0:Nat)/\(0:Nat)=(0:Nat)/\((0:Nat)=(0:Nat)/\(if a.1.s.used a.2=0 then a.1.s.ns++[a.1.w.at a.2] else a.1.s.ns).length=(if x.1.s.used (af x.2)=0 then x.1.s.ns++[x.1.w.at (af x.2)] else x.1.s.ns).length/\b.1=i.1)/\True/\(a.1.s.lk:Int)=(x.1.s.lk:Int)/\((0:Nat)=(0:Nat)/\a.1.s.fs.length=x.1.s.fs.length/\b.2=i.2)/\True/\ah (SB.fmap (mA a.1.s.ud a.2) (bL.int G (x8 a.1.s.us a.2 (a.1.s.used a.2+1))) D) (ig (Wk.take x.1.w x.1.s (af x.2))) /\ah (SB.rows C (if a.1.s.used a.2=0 then a.1.s.ns++[a.1.w.at a.2] else a.1.s.ns).length [aE.str λN=>(if a.1.s.used a.2=0 then a.1.s.ns++[a.1.w.at a.2] else a.1.s.ns).getD N []] A (b.1*1) 9) (cZ (Wk.take x.1.w x.1.s (af x.2)) i.1)/\ah (SB.rows C a.1.s.fs.length [aE.str λO=>(a.1.s.fs.getD O ([],[])).1,aE.str λP=>(a.1.s.fs.getD P ([],[])).2] A (b.2*2) 50) (cR (Wk.take x.1.w x.1.s (af x.2)) i.2)/\ah (SB.cells [SV.map 5] 1 90) (SB.cells [SV.map 5] 1 90)/\ah (SB.fmap a.1.w.ad (bL.int G a.1.w.ag) D) (SB.fmap x.1.w.ad (bL.int G x.1.w.ag) D)/\ah (SB.cells [SV.aS 7 1 a.1.w.z a.1.w.o 0 a.1.w.n a.1.w.c] 1 29) d/\True) (∃(_:e_×e_),False)) (∃(_:e_×e_),False))) (∀(k:e_×e_),Bk (bM x.2) (∃(r:Nat×Nat),(x.1.s.ns.length<=r.1 /\x.1.s.fs.length<=r.2)/\False) (Bk (bY x.2) (Bk (dJ x.1.w (af x.2)) (∃(t:Nat×Nat),((if x.1.s.used (af x.2)=0 then x.1.s.ns++[x.1.w.at (af x.2)] else x.1.s.ns).length<=t.1/\x.1.s.fs.length<=t.2)/\False) (∃(u:e_×e_),(∀(v:Nat->Nat),SV.val v j=SV.val v cK)/\(0:Nat)=(0:Nat)/\ah (SB.cells [SV.str A k.1,SV.str A k.2] 2 207) (SB.cells [SV.str A u.1,SV.str A u.2] 2 207)/\True)) (∃(y:e_×e_),(∀(B:Nat->Nat),SV.val B j=SV.val B cK)/\(0:Nat)=(0:Nat)/\ah (SB.cells [SV.str A k.1,SV.str A k.2] 2 207) (SB.cells [SV.str A y.1,SV.str A y.2] 2 207)/\True)))) (Bk (bM x.2) (∃(E:Nat×Nat),(x.1.s.ns.length<=E.1/\x.1.s.fs.length<=E.2)/\False) (Bk (bY x.2) (Bk (dJ x.1.w (af x.2)) (∃(F:Nat×Nat),((if x.1.s.used (af x.2)=0 then x.1.s.ns++[x.1.w.at (af x.2)] else x.1.s.ns).length<=F.1/\x.1.s.fs.length<=F.2)/\False) (∃(H:e_×e_),(∀(u2:Nat->Nat),SV.val u2 j=SV.val u2 cK)/\(0:Nat)=(0:Nat)/\ah (SB.cells [SV.str C [(110:UInt8),(111:UInt8),(32:UInt8),(114:UInt8),(101:UInt8),(102:UInt8),(58:UInt8)],SV.str A x.2] 2 207) (SB.cells [SV.str A H.1,SV.str A H.2] 2 207)/\True)) (∃(I:e_×e_),(∀(J:Nat->Nat),SV.val J j=SV.val J cK)/\(0:Nat)=(0:Nat)/\ah (SB.cells [SV.str C [(110:UInt8),(111:UInt8),(32:UInt8),(114:UInt8),(101:UInt8),(102:UInt8),(58:UInt8)],SV.str A x.2] 2 207) (SB.cells [SV.str A I.1,SV.str A I.2] 2 207)/\True))))))) (SB.cells [SV.aS 7 1 x.1.w.z x.1.w.o 0 x.1.w.n x.1.w.c] 1 29))) (SV.agg (SV.int .i64 C 0::SV.str C []::SV.str C []::wD))):=by kernel_rfl
section
attribute [local irreducible] aJ getD bM bY af dJ
theorem BX {x:yu×e_}(hw:x.1.w.Ok)(hs:x.1.s.Small)(hc:x.1.s.ns.length<=x.1.c1/\x.1.s.fs.length<=x.1.c2)(ht:x.2.length<9223372036854775808) :
  av (runM Nw 132 S od x):=by
 refine av.gV (M9 x) (by delta Bk;exact rfl) ?_;obtain⟨⟨w,s,c1,c2⟩,t⟩:=x;dsimp only at hw hs hc ht ⊢;have hr:Rel 9223372036854775808 t:=⟨.inl ht,ht⟩
 have ez:=acD.zero;have done: ∀ {p q:Nat},s.ns.length<=c1->s.fs.length<=c2->p=c1->q=c2->s.ns.length<=p/\s.fs.length<=q:=λa b c d=>by subst c;subst d;exact⟨a,b⟩
 cases h1:bM t<;>cases h2:bY t<;>cases h3:dJ w (af t)
 all_goals simp only[hr,ht,M,O,false_imp_iff,forall_const,true_and,and_true]
 all_goals first
  | exact⟨(_,_),ez,ve⟩
  | refine⟨(⟨w,s,c1,c2⟩,af t),?_⟩
  | refine⟨(c1,c2),?_⟩
 all_goals simp only[h3,hw,hs,hc,M,O,false_imp_iff,forall_const,true_and,and_true]
 all_goals
  repeat' first
   | exact ah.refl _
   | refine J ?_ ?_
   | exact λ_=>rfl
   | (intro (y:e_×e_);exact⟨y,ez,ah.refl _⟩)
   | (intro (y:Nat×Nat) hy;refine⟨y,hy,?_⟩)
   | rfl
   | exact trivial
   | fail
end
end
section
open Go Sx
set_option maxRecDepth 20000
theorem JB:ax K 132 (gK od) :=kQ (n:=20) (fn:=S) Tryz.func132 (by kernel_rfl) (by kernel_rfl) od λx hx=>⟨Nw,abb,rfl,BX hx.1 hx.2.1 hx.2.2.1 hx.2.2.2⟩
def pH (x:Nd)(p:e_)(i:Nat):e_:=if x.k=3 then cat (cat p x.p) [UInt8.ofNat i] else cat p x.p
def eH (w:Sp)(x:Nd)(p:e_):Bool:=!decide (x.v=[])&&(hasB w.fr w.to (cat p x.p)&&kj (cat p x.p))
def Wk.jQ (w:Sp)(s:Wk)(x:Nd)(p:e_):Wk:={s with lk:=s.lk+1,fs:=if eH w x p=C then s.fs++[(br (cat p x.p),x.v)] else s.fs}
def kG (w:Sp)(s:Wk)(t:e_):Option (Nd×Wk):=if bM t=C then H (getD t,s)else if(bY t&&dJ w (af t))=C then H (getD (w.at (af t)),s.take w (af t))else D
def fq (w:Sp)(T:Wk->Nd->e_->Option Wk)(x:Nd)(p:e_)(i:Nat)(s:Wk):Option Wk :=
 if x.r i=[] then H s else bif dy w.fr w.to (pH x p i)then(match kG w s (x.r i)with
  | none=>D
  | some (y,s')=>T s' y (pH x p i))else H s
def cT (w:Sp)(T:Wk->Nd->e_->Option Wk)(x:Nd)(p:e_):Nat->Wk->Option Wk
 | 0,s=>H s
 | i+1,s=>match cT w T x p i s with
   | none=>D
   | some s'=>fq w T x p i s'
def jA (w:Sp):Nat->Wk->Nd->e_->Option Wk
 | 0,_,_,_=>D
 | m+1,s,x,p=>if 400<=s.lk then D else cT w (jA w m) x p 16 (s.jQ w x p)
def iu (w:Sp)(m:Nat)(s:Wk)(x:Nd)(p:e_):Bool:=(jA w m s x p).isSome
def de (w:Sp)(m:Nat)(s:Wk)(x:Nd)(p:e_):Wk:=match jA w m s x p with
 | some s'=>s'
 | none=>s
structure Wk.Fit (s:Wk)(k:Nat):Prop where
 u: ∀ h,0<=s.used h/\s.used h<=k
 ns:s.ns.length<=k
 fs:s.fs.length<=s.lk
 lk:s.lk<=400
def JM (m:Nat):nC:=snC (Nd×e_) (λy=>[y.1.sv,.str A y.2]) (λg y=>g.s.Fit (g.s.lk+1)/\401<=g.s.lk+m/\y.1.p6/\y.2.length<=13*g.s.lk) λg y=>.fork (iu g.w m g.s y.1 y.2) λb=>match b with
 | true=>abU .aA g.w (de g.w m g.s y.1 y.2)
 | false=>MN λv=>v
def Yz (st:Sx.St):List Nat:=match st.m.get 0 with
 | some (.cells [_,_,_,_,.bx kn _ _ _ _ _,_,.bx kf _ _ _ _ _] _ _)=>[kn,kf]
 | _=>[]
def XU (g:yu)(x:Nd)(p:e_):aX :={α:=Nat,pre:=λ_ c2=>(g.s.jQ g.w x p).fs.length<=c2,jx:=λ_ _=>0,fresh:=1,slots:=λ_ _=>[],mem:=λst c2=>[(0,J4 g.w (g.s.jQ g.w x p) 2 st.nx g.c1 c2),(st.nx,cR (g.s.jQ g.w x p) c2)],drop:=λ_=>[3]}
def RW (m:Nat)(g:yu)(x:Nd)(p:e_):aX :=
 {α:=Nat×Wk×Nat×Nat,pre:=λ_ y=>y.1<=16/\cT g.w (jA g.w m) x p y.1 (g.s.jQ g.w x p)=H y.2.1/\y.2.1.ns.length<=y.2.2.1/\y.2.1.fs.length<=y.2.2.2,jx:=λ_ y=>16 - y.1,fresh:=2,slots:=λ_ y=>[(10,.int .i64 A y.1)],
  mem:=λst y=>[(0,J4 g.w y.2.1 st.nx (st.nx+1) y.2.2.1 y.2.2.2),(1,ig y.2.1),(st.nx,cZ y.2.1 y.2.2.1),(st.nx+1,cR y.2.1 y.2.2.2)],drop:=Yz}
def abk (x:Nd)(p:e_)(i:Nat):aX :={α:=Unit,pre:=λ_ _=>True,jx:=λ_ _=>0,fresh:=0,slots:=λ_ _=>[(7,.str A (pH x p i))],mem:=λ_ _=>[]}
def T6 (x:Nd)(p:e_)(st:Sx.St):Option ja:=match slot st.tmps 10 with
 | some (.int _ _ i)=>H (one (abk x p i.toNat))
 | _=>D
noncomputable def FP (m:Nat):List (FuncId×PT):=(84,gK (JM m))::(132,gK od)::LN
noncomputable def S9 (m:Nat)(g:yu)(x:Nd)(p:e_):dK:={bE with cm:=λf=>ay f (FP m),bh:=λf=>if f=171 then [(1,always (RW m g x p)),(105007,T6 x p)] else if f=84 then [(104009,always (XU g x p))] else []}
theorem xq: ∀(k:Nat) (a b:e_),a.take k=b.take k->k<=a.length->k<=b.length->Op.bytesLess (a.drop k) (b.drop k)=Op.bytesLess a b
 | 0,_,_,_,_,_=>rfl
 | k+1,[],_,_,h,_=>by simp at h
 | k+1,_::_,[],_,_,h=>by simp at h
 | k+1,a::r,b::s,h,h1,h2=>by rw[a!,a!] at h;injection h with e h;subst e;rw[aD,aD,xq k r s h (by simpa using h1) (by simpa using h2)];have: ¬ a<a:=UInt8.lt_irrefl _;simp[Op.bytesLess,this]
theorem JX (m:Nat)(x:yu×Nd×e_):VC.holds (runM (S9 m x.1 x.2.1 x.2.2) 84 P (JM (m+1)) x)=((λi:SB=>((λg:SB=>((λj:SB=>((λF:SB=>((λl:SB=>((λq:(yu×e_)->Nd=>((λJ:SB=>((λh:SB=>((λP8:SB=>((λQ:(Nat×Wk×Nat×Nat)->SB=>((λR:(Nat×Wk×Nat×Nat)->SB=>((Fk (400<=(x.1.s.lk:Int)) (Bk (iu x.1.w (m+1) x.1.s x.2.1 x.2.2) (∃(a1:Nat×Nat),((de x.1.w (m+1) x.1.s x.2.1 x.2.2).ns.length<=a1.1/\(de x.1.w (m+1) x.1.s x.2.1 x.2.2).fs.length<=a1.2)/\False) (∃(a2:e_×e_),(0:Nat)=(0:Nat)/\ah (SB.cells [SV.str C [(116:UInt8),(111:UInt8),(111:UInt8),(32:UInt8),(109:UInt8),(97:UInt8),(110:UInt8),(121:UInt8),(32:UInt8),(110:UInt8),(111:UInt8),(100:UInt8),(101:UInt8),(115:UInt8)],SV.str C []] 2 207) (SB.cells [SV.str A a2.1,SV.str A a2.2] 2 207)/\True)) (I6 ((x.1.s.lk:Int)+1)/\((x.2.2.length:Int)+(x.2.1.p.length:Int)<=9223372036854775807/\Bk (!decide (x.2.1.v=[])) ((x.1.w.fr.length<=1000/\x.1.w.to.length<=1000)/\Bk (hasB x.1.w.fr x.1.w.to (cat x.2.2 x.2.1.p)) ((cat x.2.2 x.2.1.p).length<1099511627776 /\Bk (kj (cat x.2.2 x.2.1.p)) (H P8=H P8/\H g=H g/\H g=H g/\(0+x.1.s.fs.length<=x.1.s.fs.length/\True/\2*(x.1.s.fs.length+1)*32<=(281474976710656:Nat)/\x.1.s.fs.length+1<(9223372036854775808:Nat))/\x.1.c2*2=x.1.c2*2/\∀(S:Nat),x.1.s.fs.length+1<=S->H g=H g/\∃(T:Nat),(if eH x.1.w x.2.1 x.2.2=C then x.1.s.fs++[(br (cat x.2.2 x.2.1.p),x.2.1.v)] else x.1.s.fs).length<=T/\(7:Nat)=(7:Nat)/\x.1.w.fr=x.1.w.fr/\x.1.w.to=x.1.w.to/\(0:Nat)=(0:Nat)/\(0:Nat)=(0:Nat)/\((0:Nat)=(0:Nat)/\x.1.s.ns.length=x.1.s.ns.length/\x.1.c1=x.1.c1)/\True/\(x.1.s.lk:Int)+1=(↑(x.1.s.lk+1):Int)/\((0:Nat)=(0:Nat)/\x.1.s.fs.length+1=(if eH x.1.w x.2.1 x.2.2=C then x.1.s.fs++[(br (cat x.2.2 x.2.1.p),x.2.1.v)] else x.1.s.fs).length/\S=T)/\True /\ah (SB.rows C (x.1.s.fs.length+1) [aE.str λU=>if U<x.1.s.fs.length then(x.1.s.fs.getD U ([],[])).1 else bZ [br (cat x.2.2 x.2.1.p)] (U - x.1.s.fs.length),aE.str λV=>if V<x.1.s.fs.length then(x.1.s.fs.getD V ([],[])).2 else bZ [x.2.1.v] (V - x.1.s.fs.length)] A (S*2) 50) (cR (Wk.jQ x.1.w x.1.s x.2.1 x.2.2) T)/\ah l l/\ah j j/\ah g g/\ah (ig x.1.s) (ig x.1.s)/\ah (cZ x.1.s x.1.c1) (cZ x.1.s x.1.c1)/\ah h h/\ah (SB.fmap x.1.w.ad (bL.int G x.1.w.ag) D) (SB.fmap x.1.w.ad (bL.int G x.1.w.ag) D)/\ah i i/\ah x.1.w.view x.1.w.view/\True) (∃(W:Nat),(if eH x.1.w x.2.1 x.2.2=C then x.1.s.fs++[(br (cat x.2.2 x.2.1.p),x.2.1.v)] else x.1.s.fs).length<=W/\(7:Nat)=(7:Nat)/\x.1.w.fr=x.1.w.fr/\x.1.w.to=x.1.w.to/\(0:Nat)=(0:Nat)/\(0:Nat)=(0:Nat)/\((0:Nat)=(0:Nat)/\x.1.s.ns.length=x.1.s.ns.length/\x.1.c1=x.1.c1)/\True /\(x.1.s.lk:Int)+1=(↑(x.1.s.lk+1):Int)/\((0:Nat)=(0:Nat)/\x.1.s.fs.length=(if eH x.1.w x.2.1 x.2.2=C then x.1.s.fs++[(br (cat x.2.2 x.2.1.p),x.2.1.v)] else x.1.s.fs).length/\x.1.c2=W)/\True/\ah (SB.rows C x.1.s.fs.length [eC x.1.s.fs,eD x.1.s.fs] A (x.1.c2*2) 50) (cR (Wk.jQ x.1.w x.1.s x.2.1 x.2.2) W)/\ah l l/\ah j j/\ah g g/\ah (ig x.1.s) (ig x.1.s)/\ah (cZ x.1.s x.1.c1) (cZ x.1.s x.1.c1)/\ah h h/\ah (SB.fmap x.1.w.ad (bL.int G x.1.w.ag) D) (SB.fmap x.1.w.ad (bL.int G x.1.w.ag) D)/\ah i i/\ah x.1.w.view x.1.w.view/\True)) (∃(X:Nat),(if eH x.1.w x.2.1 x.2.2=C then x.1.s.fs++[(br (cat x.2.2 x.2.1.p),x.2.1.v)] else x.1.s.fs).length<=X/\(7:Nat)=(7:Nat)/\x.1.w.fr=x.1.w.fr/\x.1.w.to=x.1.w.to/\(0:Nat)=(0:Nat)/\(0:Nat)=(0:Nat)/\((0:Nat)=(0:Nat)/\x.1.s.ns.length=x.1.s.ns.length/\x.1.c1=x.1.c1)/\True /\(x.1.s.lk:Int)+1=(↑(x.1.s.lk+1):Int)/\((0:Nat)=(0:Nat)/\x.1.s.fs.length=(if eH x.1.w x.2.1 x.2.2=C then x.1.s.fs++[(br (cat x.2.2 x.2.1.p),x.2.1.v)] else x.1.s.fs).length/\x.1.c2=X)/\True/\ah (SB.rows C x.1.s.fs.length [eC x.1.s.fs,eD x.1.s.fs] A (x.1.c2*2) 50) (cR (Wk.jQ x.1.w x.1.s x.2.1 x.2.2) X)/\ah l l/\ah j j/\ah g g/\ah (ig x.1.s) (ig x.1.s)/\ah (cZ x.1.s x.1.c1) (cZ x.1.s x.1.c1)/\ah h h/\ah (SB.fmap x.1.w.ad (bL.int G x.1.w.ag) D) (SB.fmap x.1.w.ad (bL.int G x.1.w.ag) D)/\ah i i/\ah x.1.w.view x.1.w.view/\True)) (∃(Y:Nat),(if eH x.1.w x.2.1 x.2.2=C then x.1.s.fs++[(br (cat x.2.2 x.2.1.p),x.2.1.v)] else x.1.s.fs).length<=Y/\(7:Nat)=(7:Nat)/\x.1.w.fr=x.1.w.fr/\x.1.w.to=x.1.w.to/\(0:Nat)=(0:Nat)/\(0:Nat)=(0:Nat)/\((0:Nat)=(0:Nat)/\x.1.s.ns.length=x.1.s.ns.length/\x.1.c1=x.1.c1)/\True /\(x.1.s.lk:Int)+1=(↑(x.1.s.lk+1):Int)/\((0:Nat)=(0:Nat)/\x.1.s.fs.length=(if eH x.1.w x.2.1 x.2.2=C then x.1.s.fs++[(br (cat x.2.2 x.2.1.p),x.2.1.v)] else x.1.s.fs).length/\x.1.c2=Y)/\True/\ah (SB.rows C x.1.s.fs.length [eC x.1.s.fs,eD x.1.s.fs] A (x.1.c2*2) 50) (cR (Wk.jQ x.1.w x.1.s x.2.1 x.2.2) Y)/\ah l l/\ah j j/\ah g g/\ah (ig x.1.s) (ig x.1.s)/\ah (cZ x.1.s x.1.c1) (cZ x.1.s x.1.c1)/\ah h h/\ah (SB.fmap x.1.w.ad (bL.int G x.1.w.ag) D) (SB.fmap x.1.w.ad (bL.int G x.1.w.ag) D)/\ah i i/\ah x.1.w.view x.1.w.view/\True))/\∀(Z:Nat),(if eH x.1.w x.2.1 x.2.2=C then x.1.s.fs++[(br (cat x.2.2 x.2.1.p),x.2.1.v)] else x.1.s.fs).length<=Z->∀(E:Loop),(∃(B:Nat×Wk×Nat×Nat),(B.1<=16/\cT x.1.w (jA x.1.w m) x.2.1 x.2.2 B.1 (Wk.jQ x.1.w x.1.s x.2.1 x.2.2)=H B.2.1/\B.2.1.ns.length<=B.2.2.1/\B.2.1.fs.length<=B.2.2.2) /\0=(B.1:Int)/\(7:Nat)=(7:Nat)/\x.1.w.fr=x.1.w.fr/\x.1.w.to=x.1.w.to/\(0:Nat)=(0:Nat)/\(0:Nat)=(0:Nat)/\((0:Nat)=(0:Nat)/\x.1.s.ns.length=B.2.1.ns.length/\x.1.c1=B.2.2.1)/\True/\(↑(x.1.s.lk+1):Int)=(B.2.1.lk:Int)/\((0:Nat)=(0:Nat)/\(if eH x.1.w x.2.1 x.2.2=C then x.1.s.fs++[(br (cat x.2.2 x.2.1.p),x.2.1.v)] else x.1.s.fs).length=B.2.1.fs.length/\Z=B.2.2.2)/\True/\ah (SB.fmap x.1.s.ud (bL.int G x.1.s.us) D) (ig B.2.1)/\ah (SB.rows C x.1.s.ns.length [l8 x.1.s.ns] A (x.1.c1*1) 9) (cZ B.2.1 B.2.2.1) /\ah (SB.rows C (if eH x.1.w x.2.1 x.2.2=C then x.1.s.fs++[(br (cat x.2.2 x.2.1.p),x.2.1.v)] else x.1.s.fs).length [eC (if eH x.1.w x.2.1 x.2.2=C then x.1.s.fs++[(br (cat x.2.2 x.2.1.p),x.2.1.v)] else x.1.s.fs),eD (if eH x.1.w x.2.1 x.2.2=C then x.1.s.fs++[(br (cat x.2.2 x.2.1.p),x.2.1.v)] else x.1.s.fs)] A (Z*2) 50) (cR B.2.1 B.2.2.2)/\ah (SB.loop I D E) (SB.loop I D E)/\ah J J/\ah F F/\ah g g/\ah l l/\ah j j/\ah g g/\ah h h/\ah (SB.fmap x.1.w.ad (bL.int G x.1.w.ag) D) (SB.fmap x.1.w.ad (bL.int G x.1.w.ag) D)/\ah i i/\ah x.1.w.view x.1.w.view/\True)/\∀(e:Nat×Wk×Nat×Nat),e.1<=16/\cT x.1.w (jA x.1.w m) x.2.1 x.2.2 e.1 (Wk.jQ x.1.w x.1.s x.2.1 x.2.2)=H e.2.1/\e.2.1.ns.length<=e.2.2.1/\e.2.1.fs.length<=e.2.2.2->Fk ((e.1:Int)<16) ((0<=(e.1:Int)/\(e.1:Int)<16 /\(e.1:Int)<(↑(16:Nat):Int))/\Fk (bZ (bG x.2.1.r []) (e.1:Int).toNat=[]) (I6 ((e.1:Int)+1)/\∃(t:Nat×Wk×Nat×Nat),((t.1<=16/\cT x.1.w (jA x.1.w m) x.2.1 x.2.2 t.1 (Wk.jQ x.1.w x.1.s x.2.1 x.2.2)=H t.2.1/\t.2.1.ns.length<=t.2.2.1/\t.2.1.fs.length<=t.2.2.2)/\16 - t.1<16 - e.1)/\(e.1:Int)+1=(t.1:Int)/\(7:Nat)=(7:Nat)/\x.1.w.fr=x.1.w.fr/\x.1.w.to=x.1.w.to/\(0:Nat)=(0:Nat)/\(0:Nat)=(0:Nat)/\((0:Nat)=(0:Nat)/\e.2.1.ns.length=t.2.1.ns.length/\e.2.2.1=t.2.2.1)/\True/\(e.2.1.lk:Int)=(t.2.1.lk:Int)/\((0:Nat)=(0:Nat)/\e.2.1.fs.length=t.2.1.fs.length/\e.2.2.2=t.2.2.2)/\True /\ah (SB.fmap e.2.1.ud (bL.int G e.2.1.us) D) (ig t.2.1)/\ah (R e) (cZ t.2.1 t.2.2.1)/\ah (Q e) (cR t.2.1 t.2.2.2)/\ah (SB.loop I D E) (SB.loop I D E)/\ah J J/\ah F F/\ah g g/\ah l l/\ah j j/\ah g g/\ah h h/\ah (SB.fmap x.1.w.ad (bL.int G x.1.w.ag) D) (SB.fmap x.1.w.ad (bL.int G x.1.w.ag) D)/\ah i i/\ah x.1.w.view x.1.w.view/\True) ((x.2.2.length:Int)+(x.2.1.p.length:Int)<=9223372036854775807/\(Fk (x.2.1.k=3) ((↑(cat x.2.2 x.2.1.p).length:Int)+(↑(1:Nat):Int)<=9223372036854775807/\∃(_:Unit),True/\cat (cat x.2.2 x.2.1.p) [UInt8.ofNat ((e.1:Int)% 256).toNat]=pH x.2.1 x.2.2 (e.1:Int).toNat /\ah (J4 x.1.w e.2.1 16 17 e.2.2.1 e.2.2.2) (J4 x.1.w e.2.1 16 17 e.2.2.1 e.2.2.2)/\ah (ig e.2.1) (ig e.2.1)/\ah (cZ e.2.1 e.2.2.1) (cZ e.2.1 e.2.2.1)/\ah (cR e.2.1 e.2.2.2) (cR e.2.1 e.2.2.2)/\ah (SB.loop I D E) (SB.loop I D E)/\ah J J/\ah F F/\ah g g/\ah l l/\ah j j/\ah g g/\ah h h/\ah (SB.fmap x.1.w.ad (bL.int G x.1.w.ag) D) (SB.fmap x.1.w.ad (bL.int G x.1.w.ag) D)/\ah i i/\ah x.1.w.view x.1.w.view/\True) (∃(_:Unit),True/\cat x.2.2 x.2.1.p=pH x.2.1 x.2.2 (e.1:Int).toNat/\ah (J4 x.1.w e.2.1 16 17 e.2.2.1 e.2.2.2) (J4 x.1.w e.2.1 16 17 e.2.2.1 e.2.2.2)/\ah (ig e.2.1) (ig e.2.1)/\ah (cZ e.2.1 e.2.2.1) (cZ e.2.1 e.2.2.1)/\ah (cR e.2.1 e.2.2.2) (cR e.2.1 e.2.2.2) /\ah (SB.loop I D E) (SB.loop I D E)/\ah J J/\ah F F/\ah g g/\ah l l/\ah j j/\ah g g/\ah h h/\ah (SB.fmap x.1.w.ad (bL.int G x.1.w.ag) D) (SB.fmap x.1.w.ad (bL.int G x.1.w.ag) D)/\ah i i/\ah x.1.w.view x.1.w.view/\True))/\∀(_:Unit),True->(x.1.w.fr.length<=1000/\x.1.w.to.length<=1000)/\Bk (dy x.1.w.fr x.1.w.to (pH x.2.1 x.2.2 (e.1:Int).toNat)) (E=E/\∃(a:yu×e_),(a.1.w.Ok/\a.1.s.Small/\(a.1.s.ns.length<=a.1.c1/\a.1.s.fs.length<=a.1.c2)/\a.2.length<9223372036854775808)/\(0:Nat)=(0:Nat)/\bZ (bG x.2.1.r []) (e.1:Int).toNat=a.2/\(7:Nat)=(7:Nat)/\x.1.w.fr=a.1.w.fr/\x.1.w.to=a.1.w.to/\(0:Nat)=(0:Nat)/\(0:Nat)=(0:Nat)/\((0:Nat)=(0:Nat) /\e.2.1.ns.length=a.1.s.ns.length/\e.2.2.1=a.1.c1)/\True/\(e.2.1.lk:Int)=(a.1.s.lk:Int)/\((0:Nat)=(0:Nat)/\e.2.1.fs.length=a.1.s.fs.length/\e.2.2.2=a.1.c2)/\True/\ah (SB.fmap e.2.1.ud (bL.int G e.2.1.us) D) (ig a.1.s)/\ah (R e) (cZ a.1.s a.1.c1)/\ah (Q e) (cR a.1.s a.1.c2)/\(1:Nat)=(1:Nat)/\ah (SB.fmap x.1.w.ad (bL.int G x.1.w.ag) D) (SB.fmap a.1.w.ad (bL.int G a.1.w.ag) D)/\(1:Nat)=(1:Nat)/\(x.1.w.z=a.1.w.z/\x.1.w.o=a.1.w.o/\(0:Nat)=(0:Nat)/\x.1.w.n=a.1.w.n/\x.1.w.c=a.1.w.c)/\ah (SB.view x.1.w.z x.1.w.o x.1.w.n [aE.str x.1.w.f]) (SB.view a.1.w.z a.1.w.o a.1.w.n [aE.str a.1.w.f])/\Bk (bM a.2) (∀(K:Nat×Nat),a.1.s.ns.length<=K.1/\a.1.s.fs.length<=K.2->∃(b:yu×Nd×e_),(b.1.w.Ok/\b.1.s.Small/\(b.1.s.ns.length<=b.1.c1/\b.1.s.fs.length<=b.1.c2)/\b.1.s.Fit (b.1.s.lk+1)/\401<=b.1.s.lk+m/\b.2.1.p6 /\b.2.2.length<=13*b.1.s.lk)/\(0:Nat)=(0:Nat)/\(getD a.2).k=b.2.1.k/\(getD a.2).p=b.2.1.p/\(getD a.2).v=b.2.1.v/\(getD a.2).r 0=b.2.1.r 0/\(getD a.2).r 1=b.2.1.r 1/\(getD a.2).r 2=b.2.1.r 2/\(getD a.2).r 3=b.2.1.r 3/\(getD a.2).r 4=b.2.1.r 4/\(getD a.2).r 5=b.2.1.r 5/\(getD a.2).r 6=b.2.1.r 6/\(getD a.2).r 7=b.2.1.r 7/\(getD a.2).r 8=b.2.1.r 8/\(getD a.2).r 9=b.2.1.r 9/\(getD a.2).r 10=b.2.1.r 10/\(getD a.2).r 11=b.2.1.r 11/\(getD a.2).r 12=b.2.1.r 12/\(getD a.2).r 13=b.2.1.r 13/\(getD a.2).r 14=b.2.1.r 14/\(getD a.2).r 15=b.2.1.r 15/\pH x.2.1 x.2.2 (e.1:Int).toNat=b.2.2/\(7:Nat)=(7:Nat)/\a.1.w.fr=b.1.w.fr/\a.1.w.to=b.1.w.to/\(0:Nat)=(0:Nat)/\(0:Nat)=(0:Nat)/\((0:Nat)=(0:Nat)/\a.1.s.ns.length=b.1.s.ns.length/\K.1=b.1.c1)/\True/\(a.1.s.lk:Int)=(b.1.s.lk:Int)/\((0:Nat)=(0:Nat) /\a.1.s.fs.length=b.1.s.fs.length/\K.2=b.1.c2)/\True/\ah (SB.fmap a.1.s.ud (bL.int G a.1.s.us) D) (ig b.1.s)/\ah (SB.rows C a.1.s.ns.length [aE.str λb4=>a.1.s.ns.getD b4 []] A (K.1*1) 9) (cZ b.1.s b.1.c1)/\ah (SB.rows C a.1.s.fs.length [aE.str λb5=>(a.1.s.fs.getD b5 ([],[])).1,aE.str λb6=>(a.1.s.fs.getD b6 ([],[])).2] A (K.2*2) 50) (cR b.1.s b.1.c2)/\(1:Nat)=(1:Nat)/\ah (SB.fmap a.1.w.ad (bL.int G a.1.w.ag) D) (SB.fmap b.1.w.ad (bL.int G b.1.w.ag) D)/\(1:Nat)=(1:Nat)/\(a.1.w.z=b.1.w.z/\a.1.w.o=b.1.w.o/\(0:Nat)=(0:Nat)/\a.1.w.n=b.1.w.n/\a.1.w.c=b.1.w.c)/\ah (SB.view x.1.w.z x.1.w.o x.1.w.n [aE.str x.1.w.f]) (SB.view b.1.w.z b.1.w.o b.1.w.n [aE.str b.1.w.f])/\Bk (iu b.1.w m b.1.s b.2.1 b.2.2) (∀(L:Nat×Nat),(de b.1.w m b.1.s b.2.1 b.2.2).ns.length<=L.1 /\(de b.1.w m b.1.s b.2.1 b.2.2).fs.length<=L.2->I6 ((e.1:Int)+1)/\∃(u:Nat×Wk×Nat×Nat),((u.1<=16/\cT x.1.w (jA x.1.w m) x.2.1 x.2.2 u.1 (Wk.jQ x.1.w x.1.s x.2.1 x.2.2)=H u.2.1/\u.2.1.ns.length<=u.2.2.1/\u.2.1.fs.length<=u.2.2.2)/\16 - u.1<16 - e.1)/\(e.1:Int)+1=(u.1:Int)/\(7:Nat)=(7:Nat)/\b.1.w.fr=x.1.w.fr/\b.1.w.to=x.1.w.to/\(0:Nat)=(0:Nat)/\(0:Nat)=(0:Nat)/\((0:Nat)=(0:Nat)/\(de b.1.w m b.1.s b.2.1 b.2.2).ns.length=u.2.1.ns.length/\L.1=u.2.2.1)/\True/\(↑(de b.1.w m b.1.s b.2.1 b.2.2).lk:Int)=(u.2.1.lk:Int)/\((0:Nat)=(0:Nat)/\(de b.1.w m b.1.s b.2.1 b.2.2).fs.length=u.2.1.fs.length/\L.2=u.2.2.2)/\True /\ah (SB.fmap (de b.1.w m b.1.s b.2.1 b.2.2).ud (bL.int G (de b.1.w m b.1.s b.2.1 b.2.2).us) D) (ig u.2.1)/\ah (SB.rows C (de b.1.w m b.1.s b.2.1 b.2.2).ns.length [aE.str λb7=>(de b.1.w m b.1.s b.2.1 b.2.2).ns.getD b7 []] A (L.1*1) 9) (cZ u.2.1 u.2.2.1)/\ah (SB.rows C (de b.1.w m b.1.s b.2.1 b.2.2).fs.length [aE.str λb8=>((de b.1.w m b.1.s b.2.1 b.2.2).fs.getD b8 ([],[])).1,aE.str λb9=>((de b.1.w m b.1.s b.2.1 b.2.2).fs.getD b9 ([],[])).2] A (L.2*2) 50) (cR u.2.1 u.2.2.2)/\ah (SB.loop I D E) (SB.loop I D E)/\ah J J/\ah F F/\ah g g/\ah l l/\ah j j/\ah g g/\ah h h/\ah (SB.fmap b.1.w.ad (bL.int G b.1.w.ag) D) (SB.fmap x.1.w.ad (bL.int G x.1.w.ag) D)/\ah (SB.cells [SV.aS 7 1 b.1.w.z b.1.w.o 0 b.1.w.n b.1.w.c] 1 29) i/\ah x.1.w.view x.1.w.view /\True) (∀(a3:e_×e_),Bk (iu x.1.w (m+1) x.1.s x.2.1 x.2.2) (∃(a4:Nat×Nat),((de x.1.w (m+1) x.1.s x.2.1 x.2.2).ns.length<=a4.1/\(de x.1.w (m+1) x.1.s x.2.1 x.2.2).fs.length<=a4.2)/\False) (∃(a5:e_×e_),(0:Nat)=(0:Nat)/\ah (SB.cells [SV.str A a3.1,SV.str A a3.2] 2 207) (SB.cells [SV.str A a5.1,SV.str A a5.2] 2 207)/\True))) (Bk (bY a.2) (Bk (dJ a.1.w (af a.2)) (∀(M:Nat×Nat),(if a.1.s.used (af a.2)=0 then a.1.s.ns++[a.1.w.at (af a.2)] else a.1.s.ns).length<=M.1/\a.1.s.fs.length<=M.2->∃(d:yu×Nd×e_),(d.1.w.Ok/\d.1.s.Small/\(d.1.s.ns.length<=d.1.c1/\d.1.s.fs.length<=d.1.c2)/\d.1.s.Fit (d.1.s.lk+1)/\401<=d.1.s.lk+m/\d.2.1.p6/\d.2.2.length<=13*d.1.s.lk)/\(0:Nat)=(0:Nat)/\(q a).k=d.2.1.k /\(q a).p=d.2.1.p/\(q a).v=d.2.1.v/\(q a).r 0=d.2.1.r 0/\(q a).r 1=d.2.1.r 1/\(q a).r 2=d.2.1.r 2/\(q a).r 3=d.2.1.r 3/\(q a).r 4=d.2.1.r 4/\(q a).r 5=d.2.1.r 5/\(q a).r 6=d.2.1.r 6/\(q a).r 7=d.2.1.r 7/\(q a).r 8=d.2.1.r 8/\(q a).r 9=d.2.1.r 9/\(q a).r 10=d.2.1.r 10/\(q a).r 11=d.2.1.r 11/\(q a).r 12=d.2.1.r 12/\(q a).r 13=d.2.1.r 13/\(q a).r 14=d.2.1.r 14/\(q a).r 15=d.2.1.r 15/\pH x.2.1 x.2.2 (e.1:Int).toNat=d.2.2/\(7:Nat)=(7:Nat)/\a.1.w.fr=d.1.w.fr/\a.1.w.to=d.1.w.to/\(0:Nat)=(0:Nat)/\(0:Nat)=(0:Nat)/\((0:Nat)=(0:Nat)/\(if a.1.s.used (af a.2)=0 then a.1.s.ns++[a.1.w.at (af a.2)] else a.1.s.ns).length=d.1.s.ns.length/\M.1=d.1.c1)/\True/\(a.1.s.lk:Int)=(d.1.s.lk:Int)/\((0:Nat)=(0:Nat)/\a.1.s.fs.length=d.1.s.fs.length/\M.2=d.1.c2)/\True /\ah (SB.fmap (mA a.1.s.ud (af a.2)) (bL.int G (x8 a.1.s.us (af a.2) (a.1.s.used (af a.2)+1))) D) (ig d.1.s)/\ah (SB.rows C (if a.1.s.used (af a.2)=0 then a.1.s.ns++[a.1.w.at (af a.2)] else a.1.s.ns).length [aE.str λb_=>(if a.1.s.used (af a.2)=0 then a.1.s.ns++[a.1.w.at (af a.2)] else a.1.s.ns).getD b_ []] A (M.1*1) 9) (cZ d.1.s d.1.c1)/\ah (SB.rows C a.1.s.fs.length [aE.str λc0=>(a.1.s.fs.getD c0 ([],[])).1,aE.str λc3=>(a.1.s.fs.getD c3 ([],[])).2] A (M.2*2) 50) (cR d.1.s d.1.c2)/\(1:Nat)=(1:Nat)/\ah (SB.fmap a.1.w.ad (bL.int G a.1.w.ag) D) (SB.fmap d.1.w.ad (bL.int G d.1.w.ag) D)/\(1:Nat)=(1:Nat)/\(a.1.w.z=d.1.w.z/\a.1.w.o=d.1.w.o/\(0:Nat)=(0:Nat)/\a.1.w.n=d.1.w.n/\a.1.w.c=d.1.w.c)/\ah (SB.view x.1.w.z x.1.w.o x.1.w.n [aE.str x.1.w.f]) (SB.view d.1.w.z d.1.w.o d.1.w.n [aE.str d.1.w.f]) /\Bk (iu d.1.w m d.1.s d.2.1 d.2.2) (∀(N:Nat×Nat),(de d.1.w m d.1.s d.2.1 d.2.2).ns.length<=N.1/\(de d.1.w m d.1.s d.2.1 d.2.2).fs.length<=N.2->I6 ((e.1:Int)+1)/\∃(y:Nat×Wk×Nat×Nat),((y.1<=16/\cT x.1.w (jA x.1.w m) x.2.1 x.2.2 y.1 (Wk.jQ x.1.w x.1.s x.2.1 x.2.2)=H y.2.1/\y.2.1.ns.length<=y.2.2.1/\y.2.1.fs.length<=y.2.2.2)/\16 - y.1<16 - e.1)/\(e.1:Int)+1=(y.1:Int)/\(7:Nat)=(7:Nat)/\d.1.w.fr=x.1.w.fr/\d.1.w.to=x.1.w.to/\(0:Nat)=(0:Nat)/\(0:Nat)=(0:Nat)/\((0:Nat)=(0:Nat)/\(de d.1.w m d.1.s d.2.1 d.2.2).ns.length=y.2.1.ns.length/\N.1=y.2.2.1)/\True/\(↑(de d.1.w m d.1.s d.2.1 d.2.2).lk:Int)=(y.2.1.lk:Int)/\((0:Nat)=(0:Nat)/\(de d.1.w m d.1.s d.2.1 d.2.2).fs.length=y.2.1.fs.length/\N.2=y.2.2.2)/\True /\ah (SB.fmap (de d.1.w m d.1.s d.2.1 d.2.2).ud (bL.int G (de d.1.w m d.1.s d.2.1 d.2.2).us) D) (ig y.2.1)/\ah (SB.rows C (de d.1.w m d.1.s d.2.1 d.2.2).ns.length [aE.str λc4=>(de d.1.w m d.1.s d.2.1 d.2.2).ns.getD c4 []] A (N.1*1) 9) (cZ y.2.1 y.2.2.1)/\ah (SB.rows C (de d.1.w m d.1.s d.2.1 d.2.2).fs.length [aE.str λc5=>((de d.1.w m d.1.s d.2.1 d.2.2).fs.getD c5 ([],[])).1,aE.str λc6=>((de d.1.w m d.1.s d.2.1 d.2.2).fs.getD c6 ([],[])).2] A (N.2*2) 50) (cR y.2.1 y.2.2.2)/\ah (SB.loop I D E) (SB.loop I D E)/\ah J J/\ah F F/\ah g g/\ah l l/\ah j j/\ah g g/\ah h h/\ah (SB.fmap d.1.w.ad (bL.int G d.1.w.ag) D) (SB.fmap x.1.w.ad (bL.int G x.1.w.ag) D)/\ah (SB.cells [SV.aS 7 1 d.1.w.z d.1.w.o 0 d.1.w.n d.1.w.c] 1 29) i/\ah x.1.w.view x.1.w.view /\True) (∀(a6:e_×e_),Bk (iu x.1.w (m+1) x.1.s x.2.1 x.2.2) (∃(a7:Nat×Nat),((de x.1.w (m+1) x.1.s x.2.1 x.2.2).ns.length<=a7.1/\(de x.1.w (m+1) x.1.s x.2.1 x.2.2).fs.length<=a7.2)/\False) (∃(u9:e_×e_),(0:Nat)=(0:Nat)/\ah (SB.cells [SV.str A a6.1,SV.str A a6.2] 2 207) (SB.cells [SV.str A u9.1,SV.str A u9.2] 2 207)/\True))) (∀(u8:e_×e_),Bk (iu x.1.w (m+1) x.1.s x.2.1 x.2.2) (∃(u7:Nat×Nat),((de x.1.w (m+1) x.1.s x.2.1 x.2.2).ns.length<=u7.1/\(de x.1.w (m+1) x.1.s x.2.1 x.2.2).fs.length<=u7.2)/\False) (∃(u6:e_×e_),(0:Nat)=(0:Nat)/\ah (SB.cells [SV.str A u8.1,SV.str A u8.2] 2 207) (SB.cells [SV.str A u6.1,SV.str A u6.2] 2 207)/\True))) (∀(u5:e_×e_),Bk (iu x.1.w (m+1) x.1.s x.2.1 x.2.2) (∃(u4:Nat×Nat),((de x.1.w (m+1) x.1.s x.2.1 x.2.2).ns.length<=u4.1/\(de x.1.w (m+1) x.1.s x.2.1 x.2.2).fs.length<=u4.2)/\False) (∃(u3:e_×e_),(0:Nat)=(0:Nat)/\ah (SB.cells [SV.str A u5.1,SV.str A u5.2] 2 207) (SB.cells [SV.str A u3.1,SV.str A u3.2] 2 207)/\True)))) (I6 ((e.1:Int)+1)/\∃(u2:Nat×Wk×Nat×Nat),((u2.1<=16/\cT x.1.w (jA x.1.w m) x.2.1 x.2.2 u2.1 (Wk.jQ x.1.w x.1.s x.2.1 x.2.2)=H u2.2.1/\u2.2.1.ns.length<=u2.2.2.1/\u2.2.1.fs.length<=u2.2.2.2)/\16 - u2.1<16 - e.1)/\(e.1:Int)+1=(u2.1:Int)/\(7:Nat)=(7:Nat)/\x.1.w.fr=x.1.w.fr/\x.1.w.to=x.1.w.to/\(0:Nat)=(0:Nat)/\(0:Nat)=(0:Nat)/\((0:Nat)=(0:Nat) /\e.2.1.ns.length=u2.2.1.ns.length/\e.2.2.1=u2.2.2.1)/\True/\(e.2.1.lk:Int)=(u2.2.1.lk:Int)/\((0:Nat)=(0:Nat)/\e.2.1.fs.length=u2.2.1.fs.length/\e.2.2.2=u2.2.2.2)/\True/\ah (SB.fmap e.2.1.ud (bL.int G e.2.1.us) D) (ig u2.2.1)/\ah (R e) (cZ u2.2.1 u2.2.2.1)/\ah (Q e) (cR u2.2.1 u2.2.2.2)/\ah (SB.loop I D E) (SB.loop I D E)/\ah J J/\ah F F/\ah g g/\ah l l/\ah j j/\ah g g/\ah h h/\ah (SB.fmap x.1.w.ad (bL.int G x.1.w.ag) D) (SB.fmap x.1.w.ad (bL.int G x.1.w.ag) D)/\ah i i/\ah x.1.w.view x.1.w.view/\True))) (Bk (iu x.1.w (m+1) x.1.s x.2.1 x.2.2) (∃(O:Nat×Nat),((de x.1.w (m+1) x.1.s x.2.1 x.2.2).ns.length<=O.1/\(de x.1.w (m+1) x.1.s x.2.1 x.2.2).fs.length<=O.2)/\(7:Nat)=(7:Nat)/\x.1.w.fr=x.1.w.fr/\x.1.w.to=x.1.w.to/\(0:Nat)=(0:Nat)/\(0:Nat)=(0:Nat) /\((0:Nat)=(0:Nat)/\e.2.1.ns.length=(de x.1.w (m+1) x.1.s x.2.1 x.2.2).ns.length/\e.2.2.1=O.1)/\True/\(e.2.1.lk:Int)=(↑(de x.1.w (m+1) x.1.s x.2.1 x.2.2).lk:Int)/\((0:Nat)=(0:Nat)/\e.2.1.fs.length=(de x.1.w (m+1) x.1.s x.2.1 x.2.2).fs.length/\e.2.2.2=O.2)/\True/\ah (SB.fmap e.2.1.ud (bL.int G e.2.1.us) D) (ig (de x.1.w (m+1) x.1.s x.2.1 x.2.2))/\ah (R e) (cZ (de x.1.w (m+1) x.1.s x.2.1 x.2.2) O.1)/\ah (Q e) (cR (de x.1.w (m+1) x.1.s x.2.1 x.2.2) O.2)/\ah h h/\ah (SB.fmap x.1.w.ad (bL.int G x.1.w.ag) D) (SB.fmap x.1.w.ad (bL.int G x.1.w.ag) D)/\ah i i/\True) (∃(_:e_×e_),False)))))) (fun(e:Nat×Wk×Nat×Nat)=>(SB.rows C e.2.1.ns.length [l8 e.2.1.ns] A (e.2.2.1*1) 9)))) (fun(e:Nat×Wk×Nat×Nat)=>(SB.rows C e.2.1.fs.length [eC e.2.1.fs,eD e.2.1.fs] A (e.2.2.2*2) 50)))) (SB.cells (bf [SV.str A x.1.w.fr,SV.str A x.1.w.to,SV.func (Fn.func (50:FuncId)) [] [SV.ptr 4 C 0,SV.ptr 6 C 0],SV.map 1,SV.bx 2 1 C 0 x.1.s.ns.length x.1.c1,SV.int .i64 A (x.1.s.lk:Int),SV.bx 3 2 C 0 x.1.s.fs.length x.1.c2] 5 (SV.int .i64 A ((x.1.s.lk:Int)+1)).cells) 7 92))) (SB.cells [SV.map 5] 1 90))) (SB.cells (SV.str A x.2.2).cells 1 9))) (fun(a:yu×e_)=>(getD (a.1.w.at (af a.2)))))) (SB.cells SV.aA.cells 1 84))) (SB.cells (SV.agg (bB x.2.1)).cells 19 138))) (SB.cells x.2.1.sv.cells 19 138))) (SB.cells (SV.ptr 0 C 0).cells 1 82))) (SB.cells [SV.aS 7 1 x.1.w.z x.1.w.o 0 x.1.w.n x.1.w.c] 1 29)):=by kernel_rfl
theorem ye (w:Sp)(s:Wk)(h t:e_):(s.take w h).used t=if t=h then s.used h+1 else s.used t:=by
 show dflt (s.ud t||decide (t=h)) (bif L (t=h)then s.used h+1 else s.us t)=_
 by_cases e:t=h
 ·rw[if_pos e,decide_eq_true e,Bool.or_true];rfl
 ·rw[if_neg e,decide_eq_false e,Bool.or_false];rfl
theorem Wk.Fit.mono {j:Nat}(h:s.Fit j)(hk:j<=k):s.Fit k:=⟨λt=>by have:=h.u t;omega,by have:=h.ns;omega,h.fs,h.lk⟩
theorem Wk.Fit.small (h:s.Fit k)(hk:k<=1000):s.Small:=⟨λt=>by have:=h.u t;omega,by have:=h.ns;omega,by have:=h.lk;omega,by have:=h.fs;have:=h.lk;omega⟩
theorem Wk.Fit.take (h:s.Fit k)(w:Sp)(t:e_):(s.take w t).Fit (k+1):=by
 refine⟨λr=> ?_,?_,h.fs,h.lk⟩
 ·rw[ye];have h1:=h.u r;have h2:=h.u t;split<;>omega
 ·have:=h.ns;show(if s.used t=0 then s.ns++[w.at t] else s.ns).length<=_
  split
  ·rw[N];simp;omega
  ·omega
theorem Wk.Fit.jQ (h:s.Fit (s.lk+1))(hl:s.lk<400)(w:Sp)(x:Nd)(p:e_):(s.jQ w x p).Fit (s.jQ w x p).lk:=by
 refine⟨h.u,h.ns,?_,hl⟩;have:=h.fs;show(if eH w x p=C then s.fs++[(br (cat p x.p),x.v)] else s.fs).length<=s.lk+1
 split
 ·rw[N];simp;omega
 ·omega
theorem Ec {w:Sp}{s':Wk}{y:Nd}(h:s.Fit k)(hf:kG w s t=H (y,s')):s'.Fit (k+1)/\s'.lk=s.lk/\aI y=true:=by
 unfold kG at hf;split at hf
 ·rename_i hi;cases hf;exact⟨h.mono (Nat.le_succ _),rfl,rR hi⟩
 ·split at hf
  ·rename_i hi;cases hf;simp only[dJ,Bool.and_eq_true] at hi;exact⟨h.take w _,rfl,iT hi.2.2⟩
  ·cases hf
def RO (_w:Sp)(T:Wk->Nd->e_->Option Wk):Prop:=∀ s x p s',s.Fit (s.lk+1)->T s x p=H s'->s'.Fit s'.lk/\s.lk<s'.lk
theorem o9 {w:Sp}{T:Wk->Nd->e_->Option Wk}(hT:RO w T){x:Nd}{p:e_}: ∀ {i:Nat} {s s':Wk},s.Fit s.lk->cT w T x p i s=H s'->s'.Fit s'.lk/\s.lk<=s'.lk
 | 0,s,s',h,e=>by cases e;exact⟨h,Nat.le_refl _⟩
 | i+1,s,s',h,e=>by
   unfold cT at e;split at e
   ·cases e
   ·rename_i s1 h1;obtain⟨g1,g2⟩:=o9 hT h h1;unfold fq at e;split at e
    ·cases e;exact⟨g1,g2⟩
    ·cases hm:dy w.fr w.to (pH x p i)with
     | false =>rw[hm] at e;cases e;exact⟨g1,g2⟩
     | true =>
       rw[hm] at e;simp only[cond_true] at e;split at e
       ·cases e
       ·rename_i y s2 hf;obtain⟨q1,q2,_⟩:=Ec g1 hf;obtain⟨r1,r2⟩:=hT s2 y _ s' (by rw[q2];exact q1) e;exact⟨r1,by omega⟩
theorem sB (w:Sp): ∀ m,RO w (jA w m)
 | 0=>λs x p s' _ e=>by cases e
 | m+1=>λs x p s' h e=>by
   unfold jA at e;split at e
   ·cases e
   ·rename_i hl;obtain⟨g1,g2⟩:=o9 (sB w m) (h.jQ (by omega) w x p) e;have:(s.jQ w x p).lk=s.lk+1:=rfl;exact⟨g1,by omega⟩
theorem qT {w:Sp}{T:Wk->Nd->e_->Option Wk}{x:Nd}{p:e_}{s:Wk}: ∀ {j i:Nat},i<=j->cT w T x p i s=D->cT w T x p j s=D
 | 0,i,hj,e=>by
   have:i=0:=by omega
   subst this;exact e
 | j+1,i,hj,e=>by
   by_cases h:i=j+1
   ·subst h;exact e
   ·unfold cT;rw[qT (by omega:i<=j) e]
section
variable {w : Sp} {T : Wk -> Nd -> e_ -> Option Wk} {x : Nd} {p : e_} {s s' : Wk} {i : Nat}
theorem fP (h:cT w T x p i s=H s'):cT w T x p (i+1) s=fq w T x p i s':=by rw[cT,h]
theorem s6 (h:x.r i=[]):fq w T x p i s=H s:=by rw[fq,if_pos h]
theorem yT (h:dy w.fr w.to (pH x p i)=A):fq w T x p i s=H s:=by rw[fq,h];split<;>rfl
theorem vI (h: ¬ x.r i=[])(hm:dy w.fr w.to (pH x p i)=C)(hf:kG w s (x.r i)=D):fq w T x p i s=none:=by rw[fq,if_neg h,hm,hf];rfl
theorem o8 (h: ¬ x.r i=[])(hm:dy w.fr w.to (pH x p i)=C){y:Nd}(hf:kG w s (x.r i)=H (y,s')):fq w T x p i s=T s' y (pH x p i):=by rw[fq,if_neg h,hm,hf];rfl
theorem Jz (h:bM t=C):kG w s t=H (getD t,s):=by rw[kG,if_pos h]
theorem BW (h:bM t=A)(h1:bY t=C)(h2:dJ w (af t)=C):kG w s t=H (getD (w.at (af t)),s.take w (af t)):=by rw[kG,if_neg (by rw[h];simp),if_pos (by rw[h1,h2];rfl)]
theorem JA (h:bM t=A)(h1:bY t=A∨dJ w (af t)=A):kG w s t=none:=by rw[kG,if_neg (by rw[h];simp),if_neg (by rcases h1 with h1 | h1<;>rw[h1]<;>simp)]
end
theorem YH {x:Nd}(h:x.p6)(p:e_)(i:Nat):(pH x p i).length<=p.length+13:=by have:=h.p;unfold pH cat;split<;>simp<;>omega
theorem NL {l:List (e_×e_)}{k v:e_}:ah (.rows C (l.length+1) [.str λj=>if j<l.length then(l.getD j ([],[])).1 else bZ [k] (j - l.length),.str λj=>if j<l.length then(l.getD j ([],[])).2 else bZ [v] (j - l.length)] A (c*2) ty) (.rows C (l++[(k,v)]).length [eC (l++[(k,v)]),eD (l++[(k,v)])] A (c*2) ty):=by
 refine Oo (by simp) rfl rfl λq c c' h1 h2 i hi E=> ?_;have e:=Ju l (k,v) ([],[]) i hi;have hz: ¬ i<l.length->i - l.length=0:=by omega
 match q,h1,h2 with
 | 0,h1,h2 =>
   simp only[W,X] at h1 h2;subst h1;subst h2;simp only[eC,aE.at,SV.val,e];by_cases h:i<l.length
   ·rw[if_pos h,if_pos h]
   ·rw[if_neg h,if_neg h,hz h];rfl
 | 1,h1,h2 =>
   simp only[List.getElem?_cons_succ,W,X] at h1 h2;subst h1;subst h2;simp only[eD,aE.at,SV.val,e];by_cases h:i<l.length
   ·rw[if_pos h,if_pos h]
   ·rw[if_neg h,if_neg h,hz h];rfl
 | q+2,h1,h2=>simp at h1
section
variable {w : Sp} {m : Nat} {s s' : Wk} {x : Nd} {p : e_}
theorem OD (hl: ¬ 400<=s.lk)(h:cT w (jA w m) x p 16 (s.jQ w x p)=H s'):iu w (m+1) s x p=C/\de w (m+1) s x p=s':=by
 have:jA w (m+1) s x p=H s':=by rw[jA,if_neg hl,h]
 exact⟨by rw[iu,this];rfl,by rw[de,this]⟩
theorem OC (hl: ¬ 400<=s.lk)(h:cT w (jA w m) x p 16 (s.jQ w x p)=D):iu w (m+1) s x p=false:=by rw[iu,jA,if_neg hl,h];rfl
theorem zU (h:iu w m s x p=C):jA w m s x p=H (de w m s x p):=by
 unfold iu at h;unfold de;cases hx:jA w m s x p with
 | none=>rw[hx] at h;cases h
 | some s'=>rfl
theorem sA (h:iu w m s x p=A):jA w m s x p=none:=by
 unfold iu at h;cases hx:jA w m s x p with
 | none=>rfl
 | some s'=>rw[hx] at h;cases h
theorem TB :ah (SB.cells [SV.str C a,SV.str C b] 2 ty) (SB.cells [SV.str A (a,b).1,SV.str A (a,b).2] 2 ty):=ah.cells (λ_=>rfl) rfl
theorem TA :ah (SB.cells [SV.str A a,SV.str A b] 2 ty) (SB.cells [SV.str A (a,b).1,SV.str A (a,b).2] 2 ty):=ah.refl _
theorem abY (h:x.k=3)(i:Nat)(hi:i<16):cat (cat p x.p) [UInt8.ofNat ((i:Int)% 256).toNat]=pH x p i:=by rw[pH,if_pos h,show((i:Int)% 256).toNat=i by omega]
end
section
attribute [local irreducible] aJ getD bM bY af dJ dy hasB kj ak br pH jA iu de cT Wk.used
set_option maxHeartbeats 4000000 in
theorem Cy {x:yu×Nd×e_}(hx:(JM (m+1)).pre x):av (runM (S9 m x.1 x.2.1 x.2.2) 84 P (JM (m+1)) x):=by
 refine av.gV (JX m x) (by delta Bk Fk;exact rfl) ?_;obtain⟨⟨w,s,c1,c2⟩,y,p⟩:=x;obtain⟨hw,_,⟨hc1,hc2⟩,hf,hm,hy,hp⟩:=hx;dsimp only at hw hc1 hc2 hf hm hy hp ⊢;have hm:401<=s.lk+(m+1):=hm;have hyp:=hy.p;have hcat:(cat p y.p).length=p.length+y.p.length:=by unfold cat;simp
 have hlk:=hf.lk;have hfs:=hf.fs;have hns:=hf.ns;by_cases hl:400<=s.lk
 ·have hB:iu w (m+1) s y p=false:=by unfold iu jA;rw[if_pos hl];rfl
  rw[hB,decide_eq_true (show(400:Int)<=(s.lk:Int)by omega)];exact⟨λ_=>⟨(λh=>by cases h),λ_=>⟨(_,_),rfl,TB,trivial⟩⟩,(λh=>by cases h)⟩
 refine⟨λh=>absurd (of_decide_eq_true h) (by omega),λ_=>⟨⟨by omega,by omega⟩,⟨by omega,?_⟩,?_⟩⟩
 ·
  have no:eH w y p=A->(s.jQ w y p).fs=s.fs:=λh=>by show(if eH w y p=C then _ else _)=_;rw[h];rfl
  have yes:eH w y p=C->(s.jQ w y p).fs=s.fs++[(br (cat p y.p),y.v)]:=λh=>by show(if eH w y p=C then _ else _)=_;rw[h];rfl
  have eb:eH w y p=(!decide (y.v=[])&&(hasB w.fr w.to (cat p y.p)&&kj (cat p y.p))):=rfl;have le0:eH w y p=A->ah (SB.rows C s.fs.length [eC s.fs,eD s.fs] A (c2*2) 50) (cR (s.jQ w y p) c2):=λh=>by unfold cR;rw[no h];exact ah.refl _
  have le1:eH w y p=C->∀ c,ah (SB.rows C (s.fs.length+1) [.str λj=>if j<s.fs.length then(s.fs.getD j ([],[])).1 else bZ [br (cat p y.p)] (j - s.fs.length),.str λj=>if j<s.fs.length then(s.fs.getD j ([],[])).2 else bZ [y.v] (j - s.fs.length)] A (c*2) 50) (cR (s.jQ w y p) c):=λh c=>by unfold cR;rw[yes h];exact NL
  have wfr:=hw.fr;have wto:=hw.to;refine⟨λhv=>⟨⟨wfr,wto⟩,λhh=>⟨by omega,λhk=> ?_,λhk=> ?_⟩,λhh=> ?_⟩,λhv=> ?_⟩
  ·rw[hv,hh,hk] at eb;have l1:=le1 eb;refine⟨rfl,rfl,rfl,⟨⟨by omega,trivial,by omega,by omega⟩,rfl,λc hc=>⟨rfl,⟨c,?_⟩⟩⟩⟩;rw[if_pos (show eH w y p=C from eb),N]
   have l1:=l1 c
   repeat' first
    | exact l1
    | exact ah.refl _
    | refine J ?_ ?_
    | rfl
    | assumption
    | omega
    | exact trivial
    | fail
  all_goals
   first
    | rw[hv,hh,hk] at eb
    | rw[hv,hh] at eb
    | rw[hv] at eb
   have l0:=le0 (eb.trans (by first | rfl | simp))
   have e0:eH w y p=false:=eb.trans (by first | rfl | simp)
   refine⟨c2,?_⟩;rw[e0];simp only[M,if_false]
   repeat' first
    | exact l0
    | exact ah.refl _
    | refine J ?_ ?_
    | rfl
    | assumption
    | omega
    | exact trivial
    | fail
 ·intro c2' hc2' R;refine⟨⟨(0,s.jQ w y p,c1,c2'),⟨⟨Nat.zero_le _,by unfold cT;rfl,hc1,hc2'⟩,?_⟩⟩,λz hz=> ?_⟩
  ·repeat' first
    | exact ah.refl _
    | refine J ?_ ?_
    | rfl
    | assumption
    | omega
    | exact trivial
    | fail
  obtain⟨i,si,d1,d2⟩:=z;obtain⟨hi16,hi,hd1,hd2⟩:=hz;dsimp only at hi16 hi hd1 hd2 ⊢;obtain⟨fi,hlki⟩:=o9 (sB w m) (hf.jQ (by omega) w y p) hi;have hlki:s.lk+1<=si.lk:=hlki;have fil:=fi.lk;simp only[-eq_self,Int.toNat_natCast];refine⟨λhlt=> ?_,λhlt=> ?_⟩
  ·have hlt:i<16:=by have:=of_decide_eq_true hlt;omega
   simp only[-eq_self,n9 y.r hlt];have bad:cT w (jA w m) y p (i+1) (s.jQ w y p)=D->∀(a b:e_),(iu w (m+1) s y p=C->∃(q:Nat×Nat),((de w (m+1) s y p).ns.length<=q.1/\(de w (m+1) s y p).fs.length<=q.2)/\False)/\(iu w (m+1) s y p=A->∃(q:e_×e_),(0:Nat)=0/\ah (SB.cells [SV.str A a,SV.str A b] 2 207) (SB.cells [SV.str A q.1,SV.str A q.2] 2 207)/\True):=λh a b=>by have hB:=OC hl (qT (by omega:i+1<=16) h);rw[hB];exact⟨(λh=>by cases h),λ_=>⟨(a,b),rfl,TA,trivial⟩⟩
   refine⟨⟨by omega,by omega,by omega⟩,λh0=>⟨⟨by omega,by omega⟩,(i+1,si,d1,d2),⟨⟨⟨by show i+1<=16;omega,(fP hi).trans (s6 (of_decide_eq_true h0)),hd1,hd2⟩,by show 16 - (i+1)<16 - i;omega⟩,?_⟩⟩,λh0=> ?_⟩
   ·repeat' first
     | exact ah.refl _
     | refine J ?_ ?_
     | rfl
     | assumption
     | omega
     | exact trivial
     | fail
   have h0:=of_decide_eq_false h0;have htl:=YH hy p i;refine⟨by omega,⟨λh3=>⟨by omega,(),trivial,abY (of_decide_eq_true h3) i hlt,?_⟩,λh3=>⟨(),trivial,by unfold pH;rw[if_neg (of_decide_eq_false h3)],?_⟩⟩,λ_ _=>⟨⟨hw.fr,hw.to⟩,λhM=>⟨rfl,?_⟩,λhM=>⟨⟨by omega,by omega⟩,(i+1,si,d1,d2),⟨⟨⟨by show i+1<=16;omega,(fP hi).trans (yT hM),hd1,hd2⟩,by show 16 - (i+1)<16 - i;omega⟩,?_⟩⟩⟩⟩
   ·repeat' first
     | exact ah.refl _
     | refine J ?_ ?_
     | rfl
     | assumption
     | omega
     | exact trivial
     | fail
   ·repeat' first
     | exact ah.refl _
     | refine J ?_ ?_
     | rfl
     | assumption
     | omega
     | exact trivial
     | fail
   rotate_left
   ·repeat' first
     | exact ah.refl _
     | refine J ?_ ?_
     | rfl
     | assumption
     | omega
     | exact trivial
     | fail
   have hrl:(y.r i).length<9223372036854775808:=by
    rcases hy.r i hlt with e | e
    ·exact absurd e h0
    ·have:=oU e;omega
   have go: ∀ {yy:Nd} {s2:Wk},kG w si (y.r i)=H (yy,s2)->s2.Fit (s2.lk+1)/\(401<=s2.lk+m)/\yy.p6/\(pH y p i).length<=13*s2.lk/\s2.Small:=λh=>by obtain⟨q1,q2,q3⟩:=Ec fi h;exact⟨by rw[q2];exact q1,by omega,fQ q3,by omega,q1.small (by omega)⟩
   have on: ∀ {yy:Nd} {s2:Wk},kG w si (y.r i)=H (yy,s2)->iu w m s2 yy (pH y p i)=C->cT w (jA w m) y p (i+1) (s.jQ w y p)=H (de w m s2 yy (pH y p i)):=λh hb=>by rw[fP hi,o8 h0 hM h,zU hb]
   have off: ∀ {yy:Nd} {s2:Wk},kG w si (y.r i)=H (yy,s2)->iu w m s2 yy (pH y p i)=A->cT w (jA w m) y p (i+1) (s.jQ w y p)=none:=λh hb=>by rw[fP hi,o8 h0 hM h,sA hb]
   refine⟨(⟨w,si,d1,d2⟩,y.r i),⟨hw,fi.small (by omega),⟨hd1,hd2⟩,hrl⟩,?_⟩;dsimp only;have inn:bM (y.r i)=C->kG w si (y.r i)=H (getD (y.r i),si):=Jz;have inh:bM (y.r i)=A->bY (y.r i)=C->dJ w (af (y.r i))=C->kG w si (y.r i)=H (getD (w.at (af (y.r i))),si.take w (af (y.r i))):=BW;have inb:bM (y.r i)=A->(bY (y.r i)=A∨dJ w (af (y.r i))=A)->cT w (jA w m) y p (i+1) (s.jQ w y p)=none:=λh1 h2=>by rw[fP hi,vI h0 hM (JA h1 h2)]
   have hsuc:i+1<=16:=by omega
   have hmea:16 - (i+1)<16 - i:=by omega
   refine⟨rfl,rfl,rfl,rfl,rfl,rfl,rfl,⟨rfl,rfl,rfl⟩,trivial,rfl,⟨rfl,rfl,rfl⟩,trivial,ah.refl _,ah.refl _,ah.refl _,rfl,ah.refl _,rfl,⟨rfl,rfl,rfl,rfl,rfl⟩,ah.refl _,λh1 e he=> ?_,λh1=>⟨λh2=>⟨λh3 e he=> ?_,λh3 yy=>bad (inb h1 (.inr h3)) _ _⟩,λh2 yy=>bad (inb h1 (.inl h2)) _ _⟩⟩
   ·have hfol:=inn h1;obtain⟨g1,g2,g3,g4,g5⟩:=go hfol;refine⟨(⟨w,si,e.1,e.2⟩,getD (y.r i),pH y p i),⟨hw,g5,he,g1,g2,g3,g4⟩,?_⟩;dsimp only;have on:=on hfol;have off:=off hfol
    repeat' first
     | exact λhb yy=>bad (off hb) _ _
     | refine λhb q hq=>⟨⟨by omega,by omega⟩,(i+1,de w m si (getD (y.r i)) (pH y p i),q.1,q.2),⟨⟨hsuc,on hb,hq.1,hq.2⟩,hmea⟩,?_⟩
     | exact ah.refl _
     | refine J ?_ ?_
     | rfl
     | assumption
     | omega
     | exact trivial
     | fail
   ·have hfol:=inh h1 h2 h3;obtain⟨g1,g2,g3,g4,g5⟩:=go hfol;refine⟨(⟨w,si.take w (af (y.r i)),e.1,e.2⟩,getD (w.at (af (y.r i))),pH y p i),⟨hw,g5,he,g1,g2,g3,g4⟩,?_⟩;dsimp only;have on:=on hfol;have off:=off hfol
    repeat' first
     | exact λhb yy=>bad (off hb) _ _
     | refine λhb q hq=>⟨⟨by omega,by omega⟩,(i+1,de w m (si.take w (af (y.r i))) (getD (w.at (af (y.r i)))) (pH y p i),q.1,q.2),⟨⟨hsuc,on hb,hq.1,hq.2⟩,hmea⟩,?_⟩
     | exact ah.refl _
     | refine J ?_ ?_
     | rfl
     | assumption
     | omega
     | exact trivial
     | fail
  ·have e16:i=16:=by have:=of_decide_eq_false hlt;omega
   subst e16;obtain⟨k1,k2⟩:=OD hl hi;rw[k1,k2];refine⟨λ_=>⟨(d1,d2),⟨hd1,hd2⟩,?_⟩,(λh=>by cases h)⟩
   repeat' first
    | exact ah.refl _
    | refine J ?_ ?_
    | rfl
    | assumption
    | omega
    | exact trivial
    | fail
end
end
section
open Go Sx
set_option maxRecDepth 20000
theorem DF (h:ax K 84 (gK (JM m))):aQ K (λf=>ay f (FP m)):=.cons h (eX _) (.cons JB (eX _) DE)
theorem OB: ∀ m,ax K 84 (gK (JM m))
 | 0=>kQ (n:=20) (fn:=P) an (by kernel_rfl) (by kernel_rfl) (JM 0) λx hx=>by obtain⟨_,_,_,hf,hm,_⟩:=hx;have:=hf.lk;omega
 | m+1=>kQ (n:=20) (fn:=P) an (by kernel_rfl) (by kernel_rfl) (JM (m+1)) λx hx=>⟨S9 m x.1 x.2.1 x.2.2,.of bz (DF (OB m)) aU,rfl,Cy hx⟩
theorem PU (m:Nat):aQ K (λf=>ay f (FP m)):=DF (OB m)
def numOf (n:Int):e_:=aq (digits n)
structure fM (n:Nat)(t:Nat->Bool)(i:Nat):Prop where
 le:i<=n
 all: ∀ j,j<i->t j=C
noncomputable def oA (tmp:Nat)(n:Nat)(t:Nat->Bool):aX :={α:=Nat,pre:=λ_ i=>fM n t i,jx:=λ_ i=>n - i,fresh:=0,slots:=λ_ i=>[(tmp,.int .i64 A i)],mem:=λ_ _=>[]}
structure ov (n:Nat)(x:Nat×Nat):Prop where
 le:x.1<=n
 cap:x.1<=x.2
noncomputable def Xe (tmp slot:Nat)(n:Nat)(f:Nat->e_):aX :=
 {α:=Nat×Nat,pre:=λ_ x=>ov n x,jx:=λ_ x=>n - x.1,fresh:=1,slots:=λst x=>[(tmp,.int .i64 A x.1),(slot,.bx st.nx 1 A 0 x.1 x.2)],
  mem:=λst x=>[(st.nx,.rows A x.1 [.str f] A x.2 9)]}
theorem kK {t:Nat->Bool}(h:fM n t i)(hi: ¬ (i:Int)<(n:Int)):(Q n).all t=true:=by rw[List.all_eq_true];intro j hj;have:=a_.1 hj;exact h.all j (by omega)
theorem i7 {t:Nat->Bool}(hi:(i:Int)<(n:Int))(ht:t i=A):(Q n).all t=false:=by rw[List.all_eq_false];exact⟨i,a_.2 (by omega),by rw[ht];decide⟩
theorem i6 {t:Nat->Bool}(h:fM n t i)(hi:(i:Int)<(n:Int))(ht:t i=C):fM n t (i+1):=⟨by omega,λj hj=>by
 by_cases e:j=i
 ·subst e;exact ht
 ·exact h.all j (by omega)⟩
theorem cV {l:Bool}{a b:Bool}(h:a=b):aa (.bool l a) (.bool A b):=λE=>by subst h;rfl
theorem Tz {l:List e_}(h: ∀ x∈ l,x.length<=m):(flat l).length<=l.length*m:=by
 induction l with
 | nil=>simp[flat]
 | cons a r ih =>
   have h1:=h a (by simp);have h2:=ih λx hx=>h x (by simp[hx]);have:flat (a::r)=a++flat r:=by simp[flat]
   rw[this,N,List.length_cons,Nat.add_mul];omega
theorem Pb (a:e_)(l:List e_):(flat (a::l)).length=a.length+(flat l).length:=by simp[flat]
theorem Pd:(flat []).length=0:=rfl
theorem LF (l:List e_):(dn l).length<=(flat l).length+9:=by have:=qw 192 (flat l).length;rw[dn,N];omega
theorem Jm {f:Nat->e_}{y:e_}(h:y∈ bW f 0 n): ∃ i,i<n/\y=f i:=by obtain⟨j,hj⟩:=List.getElem?_of_mem h;obtain⟨h1,h2⟩:=vO hj;exact⟨j,h1,by rw[← h2,Nat.zero_add]⟩
theorem Sx.ah.empty {tot tot':Nat}{az:List aE}(h:tot=tot'):ah (.cells [] tot ty) (.rows z 0 az A tot' ty):=by subst h;refine ah.of rfl rfl λ_=> ?_;refine⟨rfl,λE o ⟨c,fr,h1,h2,_,h4⟩=>⟨c,fr,h1,λ_=>h2,by omega,h4,λi k col hi=>absurd hi (Nat.not_lt_zero _)⟩,λ_=>rfl⟩
theorem TR {_n:Nat}{F:Nat->e_}{v:e_}(hv:v=F k){c':Nat}(hc:c=c') :
  ah (.rows A (k+1) [.str λj=>if j<k then F j else bZ [v] (j - k)] A (c*1) 9) (.rows A (k+1) [.str F] A c' 9):=by
 refine Sx.ah.iJ rfl (by omega) λi hi=> ?_;by_cases h:i<k
 ·rw[if_pos h]
 ·have e:i=k:=by omega
  subst e;rw[if_neg h,Nat.sub_self,hv];rfl
theorem C9 {_k:Nat}{y:Nat×Nat}(_h:ov n y)(hk:(y.1:Int)<(n:Int))(hc:y.1+1<=c):ov n (y.1+1,c):=⟨by show y.1+1<=n;omega,hc⟩
structure Pp where
 k:Int
 root:e_
 key:e_
 to:e_
 n:Nat
 f:Nat->e_
def Pp.sv (x:Pp)(u:SV):SV:=.agg [.int .i64 A x.k,.str A x.root,.str A x.key,.str A x.to,u]
def dV (f:Nat->e_)(i:Nat):Bool:=!decide ((1000:Int)<((f i).length:Int))
def k8 (n:Nat)(f:Nat->e_):Bool:=(Q n).all (dV f)
def Pp.ok (x:Pp):Bool:=(L (x.k=0)&&L (x.to=[])||decide (x.k=1))&&L ((x.root.length:Int)=32)&& !decide ((6:Int)<(x.key.length:Int))&& !decide ((6:Int)<(x.to.length:Int)) &&
 !decide ((200:Int)<(x.n:Int))&&k8 x.n x.f
def dI (f:Nat->e_)(i:Nat):e_:=aq (f i)
def Pp.rows (x:Pp):List e_:=bW (dI x.f) 0 x.n
def Pp.items (x:Pp):List e_:=[numOf x.k,aq x.root,aq x.key,aq x.to,dn x.rows]
def Pp.put (x:Pp):e_:=dn x.items
def Pp.fits (x:Pp):Bool:=x.ok&& !decide ((65536:Int)<(x.put.length:Int))
def cE (z:Bool)(o c:Nat)(x:Pp)(key:Option Nat):Seen:=⟨key,z,o,x.n,c,[.str x.f]⟩
noncomputable def S1 (x:Pp):dK:={bE with cm:=λf=>ay f mR,bh:=λf=>if f=38 then [(12,always (oA 37 x.n (dV x.f)))] else []}
theorem aa0 (x:Pp):Sx.Good K (S1 x):=.of bz fI aU
def dP:List aE:=[.str λ_=>[]]
def BU:List zw:=[.agg [.one,.one,.one,.one,.slice dP]]
def k9 (vs:List SV)(l:List Seen):Option (Pp×Bool×Nat×Nat×Option Nat):=match vs,l with
 | [.agg [.int .i64 A k,.str A root,.str A key,.str A to,_]],[⟨kk,z,o,n,c,[.str f]⟩]=>H (⟨k,root,key,to,n,f⟩,z,o,c,kk)
 | _,_=>D
theorem iP {vs:List SV}{l:List Seen}{x:Pp}{o:Nat}{key:Option Nat}(h:k9 vs l=H (x,z,o,c,key)):filled BU vs l=[x.sv (.aS 0 1 z o 0 x.n c)]/\l=[cE z o c x key]:=by
 unfold k9 at h;split at h
 ·injection h with h;injection h with h1 h;injection h with h2 h;injection h with h3 h;injection h with h4 h5;subst h1;subst h2;subst h3;subst h4;subst h5;exact⟨rfl,rfl⟩
 ·cases h
def ec (n:Nat)(f:Nat->e_)(n':Nat)(f':Nat->e_):Bool:=L ((n:Int)=(n':Int))&&(Q n).all λi=>decide (f i=f' i)
def js (z:Bool)(o c n:Nat)(f:Nat->e_)(key:Option Nat):Seen:=⟨key,z,o,n,c,[.str f]⟩
def VF:List zw:=[.of (.slice dP),.of (.slice dP)]
noncomputable def S6 (n:Nat)(f f':Nat->e_):dK:={bE with cm:=λf=>ay f dW,bh:=λg=>if g=51 then [(4,always (oA 13 n λi=>decide (f i=f' i)))] else []}
theorem aa6 (n:Nat)(f f':Nat->e_):Sx.Good K (S6 n f f'):=.of bz cW aU
theorem V8 (n n':Nat)(f f':Nat->e_)(z z':Bool)(o o' c c':Nat)(key key':Option Nat):VC.holds (fN (S6 n f f') 51 V [.aS 0 1 z o 0 n c,.aS 1 1 z' o' 0 n' c'] [js z o c n f key,js z' o' c' n' f' key'] (.ret (.bool A (ec n f n' f'))))=((Bk (!decide ((n:Int)=(n':Int))) (aa (SV.bool C A) (SV.bool A (ec n f n' f'))) ((∃(d:Nat),fM n (fun(e:Nat)=>decide (f e=f' e)) d/\0=(d:Int)/\ah (js z o c n f key).B (js z o c n f key).B/\ah (js z' o' c' n' f' key').B (js z' o' c' n' f' key').B/\True)/\∀(a:Nat),fM n (fun(u2:Nat)=>decide (f u2=f' u2)) a->Fk ((a:Int)<(n:Int)) ((0<=(a:Int)/\(a:Int)<(n:Int))/\(o=o/\0+(a:Int).toNat<n)/\(0<=(a:Int)/\(a:Int)<(n':Int))/\(o'=o'/\0+(a:Int).toNat<n')/\Bk (!decide (f (0+(a:Int).toNat)=f' (0+(a:Int).toNat))) (aa (SV.bool C A) (SV.bool A (ec n f n' f'))) (I6 ((a:Int)+1)/\∃(b:Nat),(fM n (fun(g:Nat)=>decide (f g=f' g)) b/\n - b<n - a)/\(a:Int)+1=(b:Int)/\ah (js z o c n f key).B (js z o c n f key).B /\ah (js z' o' c' n' f' key').B (js z' o' c' n' f' key').B/\True)) (aa (SV.bool C C) (SV.bool A (ec n f n' f')))))):=by kernel_rfl
theorem WM [Decidable p](h:(!decide p)=A):p:=by
 cases hd:L p with
 | true=>exact of_decide_eq_true hd
 | false=>rw[hd] at h;cases h
theorem CA [Decidable p](h:(!decide p)=C):L p=false:=by
 cases hd:L p with
 | true=>rw[hd] at h;cases h
 | false=>rfl
theorem CC [Decidable p](h:(!decide p)=A):L p=true:=by
 cases hd:L p with
 | true=>rfl
 | false=>rw[hd] at h;cases h
theorem E4 {n':Nat}{f f':Nat->e_}(hn:n<9223372036854775808)(z z':Bool)(o o' c c':Nat)(key key':Option Nat):av (fN (S6 n f f') 51 V [.aS 0 1 z o 0 n c,.aS 1 1 z' o' 0 n' c'] [js z o c n f key,js z' o' c' n' f' key'] (.ret (.bool A (ec n f n' f')))):=by
 refine av.gV (V8 n n' f f' z z' o o' c c' key key') (by delta Bk Fk;exact rfl) ?_;simp only[Int.toNat_natCast,Nat.zero_add];refine⟨λh=>cV (by rw[ec,CA h];rfl),λh=>⟨⟨0,⟨Nat.zero_le _,λj hj=>absurd hj (Nat.not_lt_zero _)⟩,rfl,ah.refl _,ah.refl _,trivial⟩,λi hi=>⟨λa=> ?_,λa=> ?_⟩⟩⟩
 ·simp only[decide_eq_true_eq] at a;have e:(n:Int)=(n':Int):=WM h;refine⟨by omega,⟨trivial,by omega⟩,by omega,⟨trivial,by omega⟩,λb=> ?_,λb=>⟨by omega,i+1,⟨i6 hi a (CC b),by omega⟩,by omega,ah.refl _,ah.refl _,trivial⟩⟩;exact cV (by rw[ec,i7 a (CA b),Y])
 ·simp only[decide_eq_false_iff_not] at a;exact cV (by rw[ec,kK hi a,CC h];rfl)
def jP (vs:List SV)(l:List Seen):Option (Prop×cN):=match vs,l with
 | [_,_],[⟨_,_,_,n,_,[.str f]⟩,⟨_,_,_,n',_,[.str f']⟩]=>H (n<9223372036854775808,.ret (.bool A (ec n f n' f')))
 | _,_=>D
theorem CT:ax K 51 (bQ VF jP):=by
 refine dN (n:=20) (fn:=V) Tryz.func51 (by kernel_rfl) (by kernel_rfl) ?_;intro vs l q a h hq;unfold jP at h;split at h
 ·rename_i v v' key z o n c f key' z' o' n' c' f';cases h;exact⟨_,aa6 n f f',rfl,rfl,E4 hq z z' o o' c c' key key'⟩
 ·cases h
end
end Go.Proofs.YtoibaecagklkaaaGreatDoor
