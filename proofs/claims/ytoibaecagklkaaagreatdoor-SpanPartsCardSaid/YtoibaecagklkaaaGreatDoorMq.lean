/-
  Conditions that the executor computes, written out by a program (vcgen.py).
-/
import Derived.Test.YtoibaecagklkaaaGreatDoorMp
open And renaming intro->J
open Bool renaming false->A,false_and->ay,false_eq_true->L,not_false->aM,not_true->a_,true->C,true_eq_false->M
open Decidable renaming decide->H
open Go.IntKind renaming i64->F
open Go.LoopState renaming ready->I
open Go.Op renaming bytesLess->N
open Go.Proofs.Tryz renaming f130->Q,f132->V,f42->W,f43->X,f83->Y,f84->O,func84->a!,prog->K
open List renaming getElem?_cons_zero->Z,getElem?_eq_getElem->bf,length_append->P
open Option renaming none->D,some->G
open Option.some renaming injEq->an
namespace Go.Proofs.YtoibaecagklkaaaGreatDoor
open Go Sx
set_option maxRecDepth 20000
theorem XE (fr to p:List UInt8):VC.holds (hJ nJ 43 X [.agg [.str A fr,.str A to],.str A p] (.ret (.bool A (hasB fr to p))))=((fr.length<1099511627776/\((!Op.bytesLess p (ak fr))=C->to.length<1099511627776/\af (SV.bool (A&&A) (N p (ak to)||decide (p=ak to))) (SV.bool A (hasB fr to p)))/\((!Op.bytesLess p (ak fr))=A->af (SV.bool C A) (SV.bool A (hasB fr to p))))):=by kernel_rfl
theorem QY (fr to p:List UInt8):VC.holds (hJ nJ 42 W [.agg [.str A fr,.str A to],.str A p] (.ret (.bool A (bN fr to p))))=((to.length<1099511627776/\((!(N p (ak to)||decide (p=ak to)))=C->af (SV.bool C A) (SV.bool A (bN fr to p)))/\((!(N p (ak to)||decide (p=ak to)))=A->fr.length<1099511627776/\((!Op.bytesLess p (ak fr))=C->af (SV.bool C C) (SV.bool A (bN fr to p)))/\((!Op.bytesLess p (ak fr))=A->(H ((p.length:Int)<=(↑(ak fr).length:Int))=C->((0:Int)<=(0:Int)/\0<=(p.length:Int)/\(p.length:Int)<=(↑(ak fr).length:Int))/\af (SV.bool (A&&C&&A&&A) (H (cj (ak fr) D (G (Operand.tmp 13)) 0 (p.length:Int)=p))) (SV.bool A (bN fr to p)))/\(H ((p.length:Int)<=(↑(ak fr).length:Int))=A->af (SV.bool C A) (SV.bool A (bN fr to p))))))):=by kernel_rfl
theorem XF (p:List UInt8):VC.holds (hJ nJ 130 Q [.str A p] (TW p))=(((0<=(p.length:Int)/\(p.length:Int)<=9223372036854775807/\(0:Int)<(2:Int))/\((!decide ((p.length:Int)% 2=(0:Int)))=C->(kC p=C->af (SV.aN [SV.str C [],SV.bool C A]) (SV.aN [SV.str A (aX p),SV.bool C C]))/\(kC p=A->af (SV.aN [SV.str C [],SV.bool C A]) (SV.aN [SV.str C [],SV.bool C A])))/\((!decide ((p.length:Int)% 2=(0:Int)))=A->p.length<1152921504606846976/\((!gY p)=C->(kC p=C->af (SV.aN [SV.str C [],SV.bool C A]) (SV.aN [SV.str A (aX p),SV.bool C C]))/\(kC p=A->af (SV.aN [SV.str C [],SV.bool C A]) (SV.aN [SV.str C [],SV.bool C A])))/\((!gY p)=A->p.length<1099511627776/\(kC p=C->af (SV.aN [SV.str A (aX p),SV.bool C C]) (SV.aN [SV.str A (aX p),SV.bool C C]))/\(kC p=A->af (SV.aN [SV.str A (aX p),SV.bool C C]) (SV.aN [SV.str C [],SV.bool C A])))))):=by kernel_rfl
theorem Vn (x:yN×List UInt8):VC.holds (runM nJ 83 Y wh x)=((λP0:SV=>((((!x.1.w.ad x.2)=C->(bD x.1.w x.2=C->∃(u13:Nat×Nat),((if x.1.s.used x.2=0 then x.1.s.ns++[x.1.w.at x.2] else x.1.s.ns).length<=u13.1/\x.1.s.fs.length<=u13.2)/\False)/\(bD x.1.w x.2=A->∃(u12:List UInt8×List UInt8),(∀(u11:Nat->Nat),SV.val u11 P0=SV.val u11 dw)/\(0:Nat)=(0:Nat)/\aa (SB.cells [SV.str C [(110:UInt8),(111:UInt8),(116:UInt8),(32:UInt8),(116:UInt8),(104:UInt8),(101:UInt8),(114:UInt8),(101:UInt8),(58:UInt8)],SV.str A x.2] 2 207) (SB.cells [SV.str A u12.1,SV.str A u12.2] 2 207)/\True))/\((!x.1.w.ad x.2)=A->(0<=dflt (x.1.w.ad x.2) (x.1.w.ag x.2)/\dflt (x.1.w.ad x.2) (x.1.w.ag x.2)<(x.1.w.n:Int))/\(x.1.w.o=x.1.w.o/\0+(dflt (x.1.w.ad x.2) (x.1.w.ag x.2)).toNat<x.1.w.n)/\((x.1.w.f (0+(dflt (x.1.w.ad x.2) (x.1.w.ag x.2)).toNat)).length<=9223372036854775808/\(x.1.w.f (0+(dflt (x.1.w.ad x.2) (x.1.w.ag x.2)).toNat)).length<1099511627776)/\(bg (x.1.w.f (0+(dflt (x.1.w.ad x.2) (x.1.w.ag x.2)).toNat))=C ->(H (dflt (x.1.s.ud x.2) (x.1.s.us x.2)=0)=C->(0+x.1.s.ns.length<=x.1.s.ns.length/\True/\2*(x.1.s.ns.length+1)*16<=(281474976710656:Nat)/\x.1.s.ns.length+1<(9223372036854775808:Nat))/\x.1.c1*1=x.1.c1*1/\∀(u10:Nat),x.1.s.ns.length+1<=u10->I6 (dflt (x.1.s.ud x.2) (x.1.s.us x.2)+1)/\(bD x.1.w x.2=C->∃(u9:Nat×Nat),((if x.1.s.used x.2=0 then x.1.s.ns++[x.1.w.at x.2] else x.1.s.ns).length<=u9.1/\x.1.s.fs.length<=u9.2)/\(∀(u8:Nat->Nat),SV.val u8 (SV.agg (ep (getD (x.1.w.f (0+(dflt (x.1.w.ad x.2) (x.1.w.ag x.2)).toNat)))))=SV.val u8 (getD (x.1.w.at x.2)).sv)/\(7:Nat)=(7:Nat)/\x.1.w.fr=x.1.w.fr/\x.1.w.to=x.1.w.to/\(0:Nat)=(0:Nat)/\(0:Nat)=(0:Nat)/\((0:Nat)=(0:Nat)/\x.1.s.ns.length+1=(if x.1.s.used x.2=0 then x.1.s.ns++[x.1.w.at x.2] else x.1.s.ns).length/\u10=u9.1)/\True/\(x.1.s.lk:Int)=(x.1.s.lk:Int)/\((0:Nat)=(0:Nat) /\x.1.s.fs.length=x.1.s.fs.length/\x.1.c2=u9.2)/\True/\aa (SB.fmap (dA x.1.s.ud x.2) (aD.int F (fE x.1.s.us x.2 (dflt (x.1.s.ud x.2) (x.1.s.us x.2)+1))) D) (eH (Wk.take x.1.w x.1.s x.2))/\aa (SB.rows C (x.1.s.ns.length+1) [aq.str λu7=>if u7<x.1.s.ns.length then x.1.s.ns.getD u7 [] else bP [x.1.w.f (0+(dflt (x.1.w.ad x.2) (x.1.w.ag x.2)).toNat)] (u7 - x.1.s.ns.length)] A (u10*1) 9) (dL (Wk.take x.1.w x.1.s x.2) u9.1)/\aa (SB.rows C x.1.s.fs.length [bK x.1.s.fs,bL x.1.s.fs] A (x.1.c2*2) 50) (dm (Wk.take x.1.w x.1.s x.2) u9.2)/\aa (SB.cells [SV.map 5] 1 90) (SB.cells [SV.map 5] 1 90)/\aa (SB.fmap x.1.w.ad (aD.int F x.1.w.ag) D) (SB.fmap x.1.w.ad (aD.int F x.1.w.ag) D)/\aa (SB.cells [SV.bS 7 1 x.1.w.z x.1.w.o 0 x.1.w.n x.1.w.c] 1 29) (SB.cells [SV.bS 7 1 x.1.w.z x.1.w.o 0 x.1.w.n x.1.w.c] 1 29)/\True)/\(bD x.1.w x.2=A->∃(_:List UInt8×List UInt8),False))/\(H (dflt (x.1.s.ud x.2) (x.1.s.us x.2)=0)=A ->I6 (dflt (x.1.s.ud x.2) (x.1.s.us x.2)+1)/\(bD x.1.w x.2=C->∃(u5:Nat×Nat),((if x.1.s.used x.2=0 then x.1.s.ns++[x.1.w.at x.2] else x.1.s.ns).length<=u5.1/\x.1.s.fs.length<=u5.2)/\(∀(u4:Nat->Nat),SV.val u4 (SV.agg (ep (getD (x.1.w.f (0+(dflt (x.1.w.ad x.2) (x.1.w.ag x.2)).toNat)))))=SV.val u4 (getD (x.1.w.at x.2)).sv)/\(7:Nat)=(7:Nat)/\x.1.w.fr=x.1.w.fr/\x.1.w.to=x.1.w.to/\(0:Nat)=(0:Nat)/\(0:Nat)=(0:Nat)/\((0:Nat)=(0:Nat)/\x.1.s.ns.length=(if x.1.s.used x.2=0 then x.1.s.ns++[x.1.w.at x.2] else x.1.s.ns).length/\x.1.c1=u5.1)/\True/\(x.1.s.lk:Int)=(x.1.s.lk:Int)/\((0:Nat)=(0:Nat)/\x.1.s.fs.length=x.1.s.fs.length/\x.1.c2=u5.2)/\True/\aa (SB.fmap (dA x.1.s.ud x.2) (aD.int F (fE x.1.s.us x.2 (dflt (x.1.s.ud x.2) (x.1.s.us x.2)+1))) D) (eH (Wk.take x.1.w x.1.s x.2)) /\aa (SB.rows C x.1.s.ns.length [iA x.1.s.ns] A (x.1.c1*1) 9) (dL (Wk.take x.1.w x.1.s x.2) u5.1)/\aa (SB.rows C x.1.s.fs.length [bK x.1.s.fs,bL x.1.s.fs] A (x.1.c2*2) 50) (dm (Wk.take x.1.w x.1.s x.2) u5.2)/\aa (SB.cells [SV.map 5] 1 90) (SB.cells [SV.map 5] 1 90)/\aa (SB.fmap x.1.w.ad (aD.int F x.1.w.ag) D) (SB.fmap x.1.w.ad (aD.int F x.1.w.ag) D)/\aa (SB.cells [SV.bS 7 1 x.1.w.z x.1.w.o 0 x.1.w.n x.1.w.c] 1 29) (SB.cells [SV.bS 7 1 x.1.w.z x.1.w.o 0 x.1.w.n x.1.w.c] 1 29)/\True)/\(bD x.1.w x.2=A->∃(_:List UInt8×List UInt8),False)))/\(bg (x.1.w.f (0+(dflt (x.1.w.ad x.2) (x.1.w.ag x.2)).toNat))=A->(bD x.1.w x.2=C->∃(u2:Nat×Nat),((if x.1.s.used x.2=0 then x.1.s.ns++[x.1.w.at x.2] else x.1.s.ns).length<=u2.1/\x.1.s.fs.length<=u2.2)/\False)/\(bD x.1.w x.2=A->∃(u1:List UInt8×List UInt8),(∀(u0:Nat->Nat),SV.val u0 P0=SV.val u0 dw)/\(0:Nat)=(0:Nat) /\aa (SB.cells [SV.str C [(110:UInt8),(111:UInt8),(32:UInt8),(110:UInt8),(111:UInt8),(100:UInt8),(101:UInt8),(58:UInt8)],SV.str A x.2] 2 207) (SB.cells [SV.str A u1.1,SV.str A u1.2] 2 207)/\True)))))) (SV.agg (SV.int .i64 C 0::SV.str C []::SV.str C []::Kf))):=by kernel_rfl
theorem sQ {l l' a b:Bool}(h:a=b):af (.bool l a) (.bool l' b):=by subst h;exact λ_=>rfl
theorem abv {b:Bool}(h:(!b)=A):b=true:=by cases b with
 | true=>rfl
 | false=>cases h
theorem abw {b:Bool}(h:(!b)=C):b=false:=by cases b with
 | false=>rfl
 | true=>cases h
theorem OW (fr to p:List UInt8)(h1:fr.length<=1000)(h2:to.length<=1000):aB (hJ nJ 43 X [.agg [.str A fr,.str A to],.str A p] (.ret (.bool A (hasB fr to p)))):=by
 refine aB.of_eq (XE fr to p) ⟨by omega,λh=>⟨by omega,sQ ?_⟩,λh=>sQ ?_⟩
 ·rw[hasB,h];rfl
 ·rw[hasB,h];rfl
theorem Iw (fr to p:List UInt8)(h1:fr.length<=1000)(h2:to.length<=1000):aB (hJ nJ 42 W [.agg [.str A fr,.str A to],.str A p] (.ret (.bool A (bN fr to p)))):=by
 refine aB.of_eq (QY fr to p) ⟨by omega,λh=>sQ ?_,λh=>⟨by omega,λg=>sQ ?_,λg=>⟨λl=>⟨⟨by omega,by omega,of_decide_eq_true l⟩,sQ ?_⟩,λl=>sQ ?_⟩⟩⟩
 ·have h:(N p (ak to)||decide (p=ak to))=false:=abw h;rw[bN,h];rfl
 all_goals
  have h:(N p (ak to)||decide (p=ak to))=true:=abv h;rw[bN,h,g]
 ·rfl
 ·have l:H (p.length<=(ak fr).length)=true:=decide_eq_true (by have:=of_decide_eq_true l;omega);rw[preB,l];rfl
 ·have l:H (p.length<=(ak fr).length)=false:=decide_eq_false (by have:=of_decide_eq_false l;omega);rw[preB,l];rfl
theorem LQ (p:List UInt8)(hp:p.length<1099511627776):aB (hJ nJ 130 Q [.str A p] (TW p)):=by
 refine aB.of_eq (XF p) ?_;have S: ∀ v:SV,af v v:=λ_ _=>rfl;have e:kC p=(H ((p.length:Int)% 2=0)&&gY p):=rfl;cases h1:H ((p.length:Int)% 2=0)<;>cases h2:gY p
 all_goals
  rw[h1,h2] at e;simp only[e,a_,aM,Bool.true_and,ay,L,M,false_imp_iff,forall_const,true_and,and_true,S];omega
theorem SW:az K 43 (aY zW):=by
 refine eJ (ew (n:=20) (fn:=X) Tryz.func43 (by kernel_rfl) (by kernel_rfl) ?_);intro args p a h hp;unfold zW at h;split at h
 ·injection h with h;injection h with h1 h2;subst h1;subst h2;exact⟨_,A5,rfl,rfl,OW _ _ _ hp.1 hp.2⟩
 ·cases h
theorem Iy:az K 42 (aY sD):=by
 refine eJ (ew (n:=20) (fn:=W) Tryz.func42 (by kernel_rfl) (by kernel_rfl) ?_);intro args p a h hp;unfold sD at h;split at h
 ·injection h with h;injection h with h1 h2;subst h1;subst h2;exact⟨_,A5,rfl,rfl,Iw _ _ _ hp.1 hp.2⟩
 ·cases h
theorem NP:az K 130 (cH vJ):=by
 refine ew (n:=20) (fn:=Q) Tryz.func130 (by kernel_rfl) (by kernel_rfl) ?_;intro args p a h hp;unfold vJ at h;split at h
 ·injection h with h;injection h with h1 h2;subst h1;subst h2;exact⟨_,A5,rfl,λb=>by cases b<;>exact rfl,LQ _ hp⟩
 ·cases h
theorem gZ {z:Bool}{n n':Nat}{cs cs':List aq}{tot tot':Nat}{ty:TypeId}(hn:n=n')(ht:tot=tot')(hl:cs.length=cs'.length)
  (h: ∀(k:Nat) (c c':aq),cs[k]?=G c->cs'[k]?=G c'->∀ i,i<n->∀ E,(c'.at i).val E=(c.at i).val E):aa (.rows z n cs A tot ty) (.rows z n' cs' A tot' ty):=by
 subst hn;subst ht;refine aa.of rfl rfl λhno=>⟨hno,λE o ⟨c,fr,h1,h2,h3,h4,h5⟩=>⟨c,fr,h1,h2,by rw[← hl];exact h3,h4,λi k col hi hk=> ?_⟩,id⟩
 have hk0:k<cs.length:=by rw[hl];exact(List.getElem?_eq_some_iff.1 hk).1
 rw[h k _ col (bf hk0) hk i hi E,← hl];exact h5 i k _ hi (bf hk0)
theorem rA {α:Type}(l:List α)(x d:α)(i:Nat)(h:i<l.length+1):(l++[x]).getD i d=if i<l.length then l.getD i d else [x].getD (i - l.length) d:=by
 simp only[List.getD_eq_getElem?_getD];by_cases h1:i<l.length
 ·rw[if_pos h1,List.getElem?_append_left h1]
 ·rw[if_neg h1,List.getElem?_append_right (by omega)]
theorem NT {l:List (List UInt8)}{x:List UInt8}{c:Nat}{ty:TypeId}:aa (.rows C (l.length+1) [.str λj=>if j<l.length then l.getD j [] else bP [x] (j - l.length)] A (c*1) ty) (.rows C (l++[x]).length [iA (l++[x])] A (c*1) ty):=by
 refine gZ (by simp) rfl rfl λk c c' h1 h2 i hi E=> ?_;cases k with
 | zero =>simp only[Z,an] at h1 h2;subst h1;subst h2;simp only[iA,aq.at,SV.val,rA l x [] i hi];rfl
 | succ k=>simp at h1
theorem mO {a b:List UInt8}{ty:TypeId}:aa (SB.cells [SV.str C a,SV.str A b] 2 ty) (SB.cells [SV.str A (a,b).1,SV.str A (a,b).2] 2 ty):=aa.cells (λ_=>rfl) rfl
theorem VM.zero (E:Nat->Nat):SV.val E (SV.agg [SV.int .i64 C 0,SV.str C [],SV.str C [],SV.str C [],SV.str C [],SV.str C [],SV.str C [],SV.str C [],SV.str C [],SV.str C [],SV.str C [],SV.str C [],SV.str C [],SV.str C [],SV.str C [],SV.str C [],SV.str C [],SV.str C [],SV.str C []])=SV.val E dw:=rfl
section
attribute [local irreducible] bg getD
theorem GB {x:yN×List UInt8}(hw:x.1.w.Ok)(hs:x.1.s.Small)(hc:x.1.s.ns.length<=x.1.c1/\x.1.s.fs.length<=x.1.c2):aB (runM nJ 83 Y wh x):=by
 refine aB.of_eq (Vn x) ?_;obtain⟨⟨w,s,c1,c2⟩,t⟩:=x;dsimp only at hw hs hc ⊢;have hu:=hs.u t;have hn:=hs.ns;have eu:dflt (s.ud t) (s.us t)=s.used t:=rfl;have el:bD w t=(w.ad t&&bg (w.f (w.ag t).toNat)):=rfl;have ea:w.at t=w.f (w.ag t).toNat:=rfl;obtain⟨hc1,hc2⟩:=hc;have ez:=VM.zero;simp only[eu,Nat.zero_add];cases hA:w.ad t with
 | false =>rw[hA] at el;simp only[el,ay,aM,L,M,false_imp_iff,forall_const,true_and,and_true];exact⟨(_,_),ez,mO⟩
 | true =>
   obtain⟨b1,b2⟩:=hw.a t hA;have hf:=hw.f (w.ag t).toNat (by omega);rw[hA] at el;have ed:dflt C (w.ag t)=w.ag t:=rfl;simp only[ed,a_,L,false_imp_iff,forall_const,true_and];refine⟨⟨b1,b2⟩,by omega,⟨by omega,by omega⟩,λhB=> ?_,λhB=> ?_⟩
   ·rw[hB] at el;simp only[el,Bool.and_self,M,false_imp_iff,forall_const,and_true];refine⟨λh0=>⟨⟨Nat.le_refl _,by omega,by omega⟩,λc hcc=>⟨by omega,?_⟩⟩,λh0=>⟨by omega,?_⟩⟩
    ·have h0:=of_decide_eq_true h0;rw[if_pos h0,P];have h1:(Wk.take w s t).ns=s.ns++[w.f (w.ag t).toNat]:=by show(if s.used t=0 then _ else _)=_;rw[if_pos h0];rfl
     have hns:aa (.rows C (s.ns.length+1) [.str λj=>if j<s.ns.length then s.ns.getD j [] else bP [w.f (w.ag t).toNat] (j - s.ns.length)] A (c*1) 9) (dL (Wk.take w s t) c):=by unfold dL;rw[h1];exact NT
     have hl:s.ns.length+[w.at t].length<=c:=hcc;refine⟨(c,c2),?_⟩
     repeat' first
      | assumption
      | exact mO
      | exact aa.refl _
      | refine J ?_ ?_
      | exact λ_=>rfl
      | rfl
      | omega
      | exact trivial
      | fail
    ·have h0:=of_decide_eq_false h0;rw[if_neg h0];have h1:(Wk.take w s t).ns=s.ns:=by show(if s.used t=0 then _ else _)=_;rw[if_neg h0]
     have hns:aa (.rows C s.ns.length [iA s.ns] A (c1*1) 9) (dL (Wk.take w s t) c1):=by unfold dL;rw[h1];exact aa.refl _
     refine⟨(c1,c2),?_⟩
     repeat' first
      | assumption
      | exact mO
      | exact aa.refl _
      | refine J ?_ ?_
      | exact λ_=>rfl
      | rfl
      | omega
      | exact trivial
      | fail
   ·rw[hB] at el;simp only[el,Bool.and_false,L,false_imp_iff,forall_const,true_and];exact⟨(_,_),ez,mO,trivial⟩
end
theorem Qs:az K 83 (cD wh) :=gx (n:=20) (fn:=Y) Tryz.func83 (by kernel_rfl) (by kernel_rfl) wh λx hx=>⟨nJ,A5,rfl,GB hx.1 hx.2.1 hx.2.2.1⟩
noncomputable def FW:List (FuncId×PT):=(83,cD wh)::(43,aY zW)::(42,aY sD)::(130,cH vJ)::fP
theorem xQ:bn K (λf=>aE f FW):=.cons Qs (cc _) (.cons SW (aR _) (.cons Iy (aR _) (.cons NP (b9 _) cO)))
noncomputable def M9:fJ:={cm with cG:=λf=>aE f FW}
theorem ZJ:Sx.Good K M9:=.of bR xQ bl
end Go.Proofs.YtoibaecagklkaaaGreatDoor
namespace Go.Proofs.YtoibaecagklkaaaGreatDoor
open Go Sx
set_option maxRecDepth 20000
theorem ML (x:yN×List UInt8):VC.holds (runM M9 132 V om x)=((λP0:SV=>((λP1:SB=>((Rel 9223372036854775808 x.2/\(bJ x.2=C->(bJ x.2=C->∃(u32:Nat×Nat),(x.1.s.ns.length<=u32.1/\x.1.s.fs.length<=u32.2)/\(∀(u31:Nat->Nat),SV.val u31 (SV.agg (ep (getD x.2)))=SV.val u31 (getD x.2).sv)/\(7:Nat)=(7:Nat)/\x.1.w.fr=x.1.w.fr/\x.1.w.to=x.1.w.to/\(0:Nat)=(0:Nat)/\(0:Nat)=(0:Nat)/\((0:Nat)=(0:Nat)/\x.1.s.ns.length=x.1.s.ns.length/\x.1.c1=u32.1)/\True/\(x.1.s.lk:Int)=(x.1.s.lk:Int)/\((0:Nat)=(0:Nat)/\x.1.s.fs.length=x.1.s.fs.length/\x.1.c2=u32.2)/\True/\aa (eH x.1.s) (eH x.1.s)/\aa (SB.rows C x.1.s.ns.length [iA x.1.s.ns] A (x.1.c1*1) 9) (dL x.1.s u32.1)/\aa (SB.rows C x.1.s.fs.length [bK x.1.s.fs,bL x.1.s.fs] A (x.1.c2*2) 50) (dm x.1.s u32.2)/\aa (SB.cells [SV.map 5] 1 90) (SB.cells [SV.map 5] 1 90)/\aa (SB.fmap x.1.w.ad (aD.int F x.1.w.ag) D) (SB.fmap x.1.w.ad (aD.int F x.1.w.ag) D)/\aa P1 P1/\True)/\(bJ x.2=A->(bw x.2=C->(bD x.1.w (ah x.2)=C ->∃(u30:Nat×Nat),((if x.1.s.used (ah x.2)=0 then x.1.s.ns++[x.1.w.at (ah x.2)] else x.1.s.ns).length<=u30.1/\x.1.s.fs.length<=u30.2)/\(∀(u29:Nat->Nat),SV.val u29 (SV.agg (ep (getD x.2)))=SV.val u29 (getD (x.1.w.at (ah x.2))).sv)/\(7:Nat)=(7:Nat)/\x.1.w.fr=x.1.w.fr/\x.1.w.to=x.1.w.to/\(0:Nat)=(0:Nat)/\(0:Nat)=(0:Nat)/\((0:Nat)=(0:Nat)/\x.1.s.ns.length=(if x.1.s.used (ah x.2)=0 then x.1.s.ns++[x.1.w.at (ah x.2)] else x.1.s.ns).length/\x.1.c1=u30.1)/\True/\(x.1.s.lk:Int)=(x.1.s.lk:Int)/\((0:Nat)=(0:Nat)/\x.1.s.fs.length=x.1.s.fs.length/\x.1.c2=u30.2)/\True/\aa (SB.fmap x.1.s.ud (aD.int F x.1.s.us) D) (eH (Wk.take x.1.w x.1.s (ah x.2)))/\aa (SB.rows C x.1.s.ns.length [iA x.1.s.ns] A (x.1.c1*1) 9) (dL (Wk.take x.1.w x.1.s (ah x.2)) u30.1)/\aa (SB.rows C x.1.s.fs.length [bK x.1.s.fs,bL x.1.s.fs] A (x.1.c2*2) 50) (dm (Wk.take x.1.w x.1.s (ah x.2)) u30.2)/\aa (SB.cells [SV.map 5] 1 90) (SB.cells [SV.map 5] 1 90) /\aa (SB.fmap x.1.w.ad (aD.int F x.1.w.ag) D) (SB.fmap x.1.w.ad (aD.int F x.1.w.ag) D)/\aa P1 P1/\True)/\(bD x.1.w (ah x.2)=A->∃(_:List UInt8×List UInt8),False))/\(bw x.2=A->∃(_:List UInt8×List UInt8),False)))/\(bJ x.2=A->x.2.length<9223372036854775808/\(bw x.2=C->∃(u26:yN×List UInt8),(u26.1.w.Ok/\u26.1.s.Small/\(u26.1.s.ns.length<=u26.1.c1/\u26.1.s.fs.length<=u26.1.c2)/\True)/\(0:Nat)=(0:Nat)/\ah x.2=u26.2/\(7:Nat)=(7:Nat)/\x.1.w.fr=u26.1.w.fr/\x.1.w.to=u26.1.w.to/\(0:Nat)=(0:Nat)/\(0:Nat)=(0:Nat)/\((0:Nat)=(0:Nat)/\x.1.s.ns.length=u26.1.s.ns.length/\x.1.c1=u26.1.c1)/\True/\(x.1.s.lk:Int)=(u26.1.s.lk:Int)/\((0:Nat)=(0:Nat)/\x.1.s.fs.length=u26.1.s.fs.length/\x.1.c2=u26.1.c2)/\True/\aa (SB.fmap x.1.s.ud (aD.int F x.1.s.us) D) (eH u26.1.s)/\aa (SB.rows C x.1.s.ns.length [iA x.1.s.ns] A (x.1.c1*1) 9) (dL u26.1.s u26.1.c1) /\aa (SB.rows C x.1.s.fs.length [bK x.1.s.fs,bL x.1.s.fs] A (x.1.c2*2) 50) (dm u26.1.s u26.1.c2)/\(1:Nat)=(1:Nat)/\aa (SB.fmap x.1.w.ad (aD.int F x.1.w.ag) D) (SB.fmap u26.1.w.ad (aD.int F u26.1.w.ag) D)/\(1:Nat)=(1:Nat)/\(x.1.w.z=u26.1.w.z/\x.1.w.o=u26.1.w.o/\(0:Nat)=(0:Nat)/\x.1.w.n=u26.1.w.n/\x.1.w.c=u26.1.w.c)/\aa (SB.view x.1.w.z x.1.w.o x.1.w.n [aq.str x.1.w.f]) (SB.view u26.1.w.z u26.1.w.o u26.1.w.n [aq.str u26.1.w.f])/\(bD u26.1.w u26.2=C->∀(u25:Nat×Nat),(if u26.1.s.used u26.2=0 then u26.1.s.ns++[u26.1.w.at u26.2] else u26.1.s.ns).length<=u25.1/\u26.1.s.fs.length<=u25.2->(bJ x.2=C->∃(u24:Nat×Nat),(x.1.s.ns.length<=u24.1/\x.1.s.fs.length<=u24.2)/\(∀(u23:Nat->Nat),SV.val u23 (SV.agg (ep (getD (u26.1.w.at u26.2))))=SV.val u23 (getD x.2).sv)/\(7:Nat)=(7:Nat)/\u26.1.w.fr=x.1.w.fr/\u26.1.w.to=x.1.w.to/\(0:Nat)=(0:Nat)/\(0:Nat)=(0:Nat)/\((0:Nat)=(0:Nat) /\(if u26.1.s.used u26.2=0 then u26.1.s.ns++[u26.1.w.at u26.2] else u26.1.s.ns).length=x.1.s.ns.length/\u25.1=u24.1)/\True/\(u26.1.s.lk:Int)=(x.1.s.lk:Int)/\((0:Nat)=(0:Nat)/\u26.1.s.fs.length=x.1.s.fs.length/\u25.2=u24.2)/\True/\aa (SB.fmap (dA u26.1.s.ud u26.2) (aD.int F (fE u26.1.s.us u26.2 (u26.1.s.used u26.2+1))) D) (eH x.1.s)/\aa (SB.rows C (if u26.1.s.used u26.2=0 then u26.1.s.ns++[u26.1.w.at u26.2] else u26.1.s.ns).length [aq.str λu22=>(if u26.1.s.used u26.2=0 then u26.1.s.ns++[u26.1.w.at u26.2] else u26.1.s.ns).getD u22 []] A (u25.1*1) 9) (dL x.1.s u24.1)/\aa (SB.rows C u26.1.s.fs.length [aq.str λu21=>(u26.1.s.fs.getD u21 ([],[])).1,aq.str λu20=>(u26.1.s.fs.getD u20 ([],[])).2] A (u25.2*2) 50) (dm x.1.s u24.2)/\aa (SB.cells [SV.map 5] 1 90) (SB.cells [SV.map 5] 1 90)/\aa (SB.fmap u26.1.w.ad (aD.int F u26.1.w.ag) D) (SB.fmap x.1.w.ad (aD.int F x.1.w.ag) D) /\aa (SB.cells [SV.bS 7 1 u26.1.w.z u26.1.w.o 0 u26.1.w.n u26.1.w.c] 1 29) P1/\True)/\(bJ x.2=A->(bw x.2=C->(bD x.1.w (ah x.2)=C->∃(u19:Nat×Nat),((if x.1.s.used (ah x.2)=0 then x.1.s.ns++[x.1.w.at (ah x.2)] else x.1.s.ns).length<=u19.1/\x.1.s.fs.length<=u19.2)/\(∀(u18:Nat->Nat),SV.val u18 (SV.agg (ep (getD (u26.1.w.at u26.2))))=SV.val u18 (getD (x.1.w.at (ah x.2))).sv)/\(7:Nat)=(7:Nat)/\u26.1.w.fr=x.1.w.fr/\u26.1.w.to=x.1.w.to/\(0:Nat)=(0:Nat)/\(0:Nat)=(0:Nat)/\((0:Nat)=(0:Nat)/\(if u26.1.s.used u26.2=0 then u26.1.s.ns++[u26.1.w.at u26.2] else u26.1.s.ns).length=(if x.1.s.used (ah x.2)=0 then x.1.s.ns++[x.1.w.at (ah x.2)] else x.1.s.ns).length/\u25.1=u19.1)/\True/\(u26.1.s.lk:Int)=(x.1.s.lk:Int)/\((0:Nat)=(0:Nat)/\u26.1.s.fs.length=x.1.s.fs.length/\u25.2=u19.2)/\True/\aa (SB.fmap (dA u26.1.s.ud u26.2) (aD.int F (fE u26.1.s.us u26.2 (u26.1.s.used u26.2+1))) D) (eH (Wk.take x.1.w x.1.s (ah x.2))) /\aa (SB.rows C (if u26.1.s.used u26.2=0 then u26.1.s.ns++[u26.1.w.at u26.2] else u26.1.s.ns).length [aq.str λu17=>(if u26.1.s.used u26.2=0 then u26.1.s.ns++[u26.1.w.at u26.2] else u26.1.s.ns).getD u17 []] A (u25.1*1) 9) (dL (Wk.take x.1.w x.1.s (ah x.2)) u19.1)/\aa (SB.rows C u26.1.s.fs.length [aq.str λu16=>(u26.1.s.fs.getD u16 ([],[])).1,aq.str λu15=>(u26.1.s.fs.getD u15 ([],[])).2] A (u25.2*2) 50) (dm (Wk.take x.1.w x.1.s (ah x.2)) u19.2)/\aa (SB.cells [SV.map 5] 1 90) (SB.cells [SV.map 5] 1 90)/\aa (SB.fmap u26.1.w.ad (aD.int F u26.1.w.ag) D) (SB.fmap x.1.w.ad (aD.int F x.1.w.ag) D)/\aa (SB.cells [SV.bS 7 1 u26.1.w.z u26.1.w.o 0 u26.1.w.n u26.1.w.c] 1 29) P1/\True)/\(bD x.1.w (ah x.2)=A->∃(_:List UInt8×List UInt8),False))/\(bw x.2=A->∃(_:List UInt8×List UInt8),False)))/\(bD u26.1.w u26.2=A->∀(u12:List UInt8×List UInt8),(bJ x.2=C->∃(u11:Nat×Nat),(x.1.s.ns.length<=u11.1 /\x.1.s.fs.length<=u11.2)/\False)/\(bJ x.2=A->(bw x.2=C->(bD x.1.w (ah x.2)=C->∃(u10:Nat×Nat),((if x.1.s.used (ah x.2)=0 then x.1.s.ns++[x.1.w.at (ah x.2)] else x.1.s.ns).length<=u10.1/\x.1.s.fs.length<=u10.2)/\False)/\(bD x.1.w (ah x.2)=A->∃(u9:List UInt8×List UInt8),(∀(u8:Nat->Nat),SV.val u8 P0=SV.val u8 dw)/\(0:Nat)=(0:Nat)/\aa (SB.cells [SV.str A u12.1,SV.str A u12.2] 2 207) (SB.cells [SV.str A u9.1,SV.str A u9.2] 2 207)/\True))/\(bw x.2=A->∃(u7:List UInt8×List UInt8),(∀(u6:Nat->Nat),SV.val u6 P0=SV.val u6 dw)/\(0:Nat)=(0:Nat)/\aa (SB.cells [SV.str A u12.1,SV.str A u12.2] 2 207) (SB.cells [SV.str A u7.1,SV.str A u7.2] 2 207)/\True))))/\(bw x.2=A->(bJ x.2=C->∃(u5:Nat×Nat),(x.1.s.ns.length<=u5.1/\x.1.s.fs.length<=u5.2)/\False)/\(bJ x.2=A->(bw x.2=C->(bD x.1.w (ah x.2)=C ->∃(u4:Nat×Nat),((if x.1.s.used (ah x.2)=0 then x.1.s.ns++[x.1.w.at (ah x.2)] else x.1.s.ns).length<=u4.1/\x.1.s.fs.length<=u4.2)/\False)/\(bD x.1.w (ah x.2)=A->∃(u3:List UInt8×List UInt8),(∀(u2:Nat->Nat),SV.val u2 P0=SV.val u2 dw)/\(0:Nat)=(0:Nat)/\aa (SB.cells [SV.str C [(110:UInt8),(111:UInt8),(32:UInt8),(114:UInt8),(101:UInt8),(102:UInt8),(58:UInt8)],SV.str A x.2] 2 207) (SB.cells [SV.str A u3.1,SV.str A u3.2] 2 207)/\True))/\(bw x.2=A->∃(u1:List UInt8×List UInt8),(∀(u0:Nat->Nat),SV.val u0 P0=SV.val u0 dw)/\(0:Nat)=(0:Nat)/\aa (SB.cells [SV.str C [(110:UInt8),(111:UInt8),(32:UInt8),(114:UInt8),(101:UInt8),(102:UInt8),(58:UInt8)],SV.str A x.2] 2 207) (SB.cells [SV.str A u1.1,SV.str A u1.2] 2 207)/\True))))))) (SB.cells [SV.bS 7 1 x.1.w.z x.1.w.o 0 x.1.w.n x.1.w.c] 1 29))) (SV.agg (SV.int .i64 C 0::SV.str C []::SV.str C []::Kf))):=by kernel_rfl
section
attribute [local irreducible] bg getD bJ bw ah bD
theorem Cu {x:yN×List UInt8}(hw:x.1.w.Ok)(hs:x.1.s.Small)(hc:x.1.s.ns.length<=x.1.c1/\x.1.s.fs.length<=x.1.c2)(ht:x.2.length<9223372036854775808) :
  aB (runM M9 132 V om x):=by
 refine aB.of_eq (ML x) ?_;obtain⟨⟨w,s,c1,c2⟩,t⟩:=x;dsimp only at hw hs hc ht ⊢;have hr:Rel 9223372036854775808 t:=⟨.inl ht,ht⟩
 have ez:=VM.zero;have done: ∀ {p q:Nat},s.ns.length<=c1->s.fs.length<=c2->p=c1->q=c2->s.ns.length<=p/\s.fs.length<=q:=λa b c d=>by subst c;subst d;exact⟨a,b⟩
 cases h1:bJ t<;>cases h2:bw t<;>cases h3:bD w (ah t)
 all_goals simp only[hr,ht,L,M,false_imp_iff,forall_const,true_and,and_true]
 all_goals first
  | exact⟨(_,_),ez,mO⟩
  | refine⟨(⟨w,s,c1,c2⟩,ah t),?_⟩
  | refine⟨(c1,c2),?_⟩
 all_goals simp only[h3,hw,hs,hc,L,M,false_imp_iff,forall_const,true_and,and_true]
 all_goals
  repeat' first
   | exact aa.refl _
   | refine J ?_ ?_
   | exact λ_=>rfl
   | (intro (y:List UInt8×List UInt8);exact⟨y,ez,aa.refl _⟩)
   | (intro (y:Nat×Nat) hy;refine⟨y,hy,?_⟩)
   | rfl
   | exact trivial
   | fail
end
end Go.Proofs.YtoibaecagklkaaaGreatDoor
namespace Go.Proofs.YtoibaecagklkaaaGreatDoor
open Go Sx
set_option maxRecDepth 20000
theorem JA:az K 132 (cD om) :=gx (n:=20) (fn:=V) Tryz.func132 (by kernel_rfl) (by kernel_rfl) om λx hx=>⟨M9,ZJ,rfl,Cu hx.1 hx.2.1 hx.2.2.1 hx.2.2.2⟩
def fc (x:Nd)(p:List UInt8)(i:Nat):List UInt8:=if x.k=3 then cat (cat p x.p) [UInt8.ofNat i] else cat p x.p
def eE (w:Sp)(x:Nd)(p:List UInt8):Bool:=!decide (x.v=[])&&(hasB w.fr w.to (cat p x.p)&&kC (cat p x.p))
def Wk.iS (w:Sp)(s:Wk)(x:Nd)(p:List UInt8):Wk:={s with lk:=s.lk+1,fs:=if eE w x p=C then s.fs++[(aX (cat p x.p),x.v)] else s.fs}
def iD (w:Sp)(s:Wk)(t:List UInt8):Option (Nd×Wk):=if bJ t=C then G (getD t,s)else if(bw t&&bD w (ah t))=C then G (getD (w.at (ah t)),s.take w (ah t))else D
def iK (w:Sp)(T:Wk->Nd->List UInt8->Option Wk)(x:Nd)(p:List UInt8)(i:Nat)(s:Wk):Option Wk :=
 if x.r i=[] then G s else bif bN w.fr w.to (fc x p i)then(match iD w s (x.r i)with
  | none=>D
  | some (y,s')=>T s' y (fc x p i))else G s
def bX (w:Sp)(T:Wk->Nd->List UInt8->Option Wk)(x:Nd)(p:List UInt8):Nat->Wk->Option Wk
 | 0,s=>G s
 | i+1,s=>match bX w T x p i s with
   | none=>D
   | some s'=>iK w T x p i s'
def kg (w:Sp):Nat->Wk->Nd->List UInt8->Option Wk
 | 0,_,_,_=>D
 | m+1,s,x,p=>if 400<=s.lk then D else bX w (kg w m) x p 16 (s.iS w x p)
def cY (w:Sp)(m:Nat)(s:Wk)(x:Nd)(p:List UInt8):Bool:=(kg w m s x p).isSome
def bp (w:Sp)(m:Nat)(s:Wk)(x:Nd)(p:List UInt8):Wk:=match kg w m s x p with
 | some s'=>s'
 | none=>s
structure Wk.Fit (s:Wk)(k:Nat):Prop where
 u: ∀ h,0<=s.used h/\s.used h<=k
 ns:s.ns.length<=k
 fs:s.fs.length<=s.lk
 lk:s.lk<=400
def JT (m:Nat):gE:=snC (Nd×List UInt8) (λy=>[y.1.sv,.str A y.2]) (λg y=>g.s.Fit (g.s.lk+1)/\401<=g.s.lk+m/\y.1.k5/\y.2.length<=13*g.s.lk) λg y=>.fork (cY g.w m g.s y.1 y.2) λb=>match b with
 | true=>aat .aK g.w (bp g.w m g.s y.1 y.2)
 | false=>Mq λv=>v
def N7 (st:Sx.St):List Nat:=match st.m.get 0 with
 | some (.cells [_,_,_,_,.aZ kn _ _ _ _ _,_,.aZ kf _ _ _ _ _] _ _)=>[kn,kf]
 | _=>[]
def Wv (g:yN)(x:Nd)(p:List UInt8):aV :={α:=Nat,pre:=λ_ c2=>(g.s.iS g.w x p).fs.length<=c2,kT:=λ_ _=>0,fresh:=1,slots:=λ_ _=>[],mem:=λst c2=>[(0,Ka g.w (g.s.iS g.w x p) 2 st.nx g.c1 c2),(st.nx,dm (g.s.iS g.w x p) c2)],drop:=λ_=>[3]}
def Re (m:Nat)(g:yN)(x:Nd)(p:List UInt8):aV :=
 {α:=Nat×Wk×Nat×Nat,pre:=λ_ y=>y.1<=16/\bX g.w (kg g.w m) x p y.1 (g.s.iS g.w x p)=G y.2.1/\y.2.1.ns.length<=y.2.2.1/\y.2.1.fs.length<=y.2.2.2,kT:=λ_ y=>16 - y.1,fresh:=2,slots:=λ_ y=>[(10,.int .i64 A y.1)],
  mem:=λst y=>[(0,Ka g.w y.2.1 st.nx (st.nx+1) y.2.2.1 y.2.2.2),(1,eH y.2.1),(st.nx,dL y.2.1 y.2.2.1),(st.nx+1,dm y.2.1 y.2.2.2)],drop:=N7}
def ZT (x:Nd)(p:List UInt8)(i:Nat):aV :={α:=Unit,pre:=λ_ _=>True,kT:=λ_ _=>0,fresh:=0,slots:=λ_ _=>[(7,.str A (fc x p i))],mem:=λ_ _=>[]}
def HT (x:Nd)(p:List UInt8)(st:Sx.St):Option mE:=match slot st.tmps 10 with
 | some (.int _ _ i)=>G (one (ZT x p i.toNat))
 | _=>D
noncomputable def FX (m:Nat):List (FuncId×PT):=(84,cD (JT m))::(132,cD om)::FW
noncomputable def RX (m:Nat)(g:yN)(x:Nd)(p:List UInt8):fJ:={cm with cG:=λf=>aE f (FX m),bx:=λf=>if f=171 then [(1,always (Re m g x p)),(105007,HT x p)] else if f=84 then [(104009,always (Wv g x p))] else []}
theorem J6 (m:Nat)(x:yN×Nd×List UInt8):VC.holds (runM (RX m x.1 x.2.1 x.2.2) 84 O (JT (m+1)) x)=((λP0:SB=>((λP1:SB=>((λP2:SB=>((λP3:SB=>((λP4:SB=>((λP5:(yN×List UInt8)->Nd=>((λP6:SB=>((λP7:SB=>((λP8:SB=>((λP9:(Nat×Wk×Nat×Nat)->SB=>((λP10:(Nat×Wk×Nat×Nat)->SB=>(((H (400<=(x.1.s.lk:Int))=C->(cY x.1.w (m+1) x.1.s x.2.1 x.2.2=C->∃(u52:Nat×Nat),((bp x.1.w (m+1) x.1.s x.2.1 x.2.2).ns.length<=u52.1/\(bp x.1.w (m+1) x.1.s x.2.1 x.2.2).fs.length<=u52.2)/\False)/\(cY x.1.w (m+1) x.1.s x.2.1 x.2.2=A->∃(u51:List UInt8×List UInt8),(0:Nat)=(0:Nat)/\aa (SB.cells [SV.str C [(116:UInt8),(111:UInt8),(111:UInt8),(32:UInt8),(109:UInt8),(97:UInt8),(110:UInt8),(121:UInt8),(32:UInt8),(110:UInt8),(111:UInt8),(100:UInt8),(101:UInt8),(115:UInt8)],SV.str C []] 2 207) (SB.cells [SV.str A u51.1,SV.str A u51.2] 2 207)/\True))/\(H (400<=(x.1.s.lk:Int))=A->I6 ((x.1.s.lk:Int)+1)/\((x.2.2.length:Int)+(x.2.1.p.length:Int)<=9223372036854775807/\((!decide (x.2.1.v=[]))=C->(x.1.w.fr.length<=1000/\x.1.w.to.length<=1000)/\(hasB x.1.w.fr x.1.w.to (cat x.2.2 x.2.1.p)=C->(cat x.2.2 x.2.1.p).length<1099511627776 /\(kC (cat x.2.2 x.2.1.p)=C->G P8=G P8/\G P1=G P1/\G P1=G P1/\(0+x.1.s.fs.length<=x.1.s.fs.length/\True/\2*(x.1.s.fs.length+1)*32<=(281474976710656:Nat)/\x.1.s.fs.length+1<(9223372036854775808:Nat))/\x.1.c2*2=x.1.c2*2/\∀(u50:Nat),x.1.s.fs.length+1<=u50->G P1=G P1/\∃(u49:Nat),(if eE x.1.w x.2.1 x.2.2=C then x.1.s.fs++[(aX (cat x.2.2 x.2.1.p),x.2.1.v)] else x.1.s.fs).length<=u49/\(7:Nat)=(7:Nat)/\x.1.w.fr=x.1.w.fr/\x.1.w.to=x.1.w.to/\(0:Nat)=(0:Nat)/\(0:Nat)=(0:Nat)/\((0:Nat)=(0:Nat)/\x.1.s.ns.length=x.1.s.ns.length/\x.1.c1=x.1.c1)/\True/\(x.1.s.lk:Int)+1=(↑(x.1.s.lk+1):Int)/\((0:Nat)=(0:Nat)/\x.1.s.fs.length+1=(if eE x.1.w x.2.1 x.2.2=C then x.1.s.fs++[(aX (cat x.2.2 x.2.1.p),x.2.1.v)] else x.1.s.fs).length/\u50=u49)/\True /\aa (SB.rows C (x.1.s.fs.length+1) [aq.str λu48=>if u48<x.1.s.fs.length then(x.1.s.fs.getD u48 ([],[])).1 else bP [aX (cat x.2.2 x.2.1.p)] (u48 - x.1.s.fs.length),aq.str λu47=>if u47<x.1.s.fs.length then(x.1.s.fs.getD u47 ([],[])).2 else bP [x.2.1.v] (u47 - x.1.s.fs.length)] A (u50*2) 50) (dm (Wk.iS x.1.w x.1.s x.2.1 x.2.2) u49)/\aa P4 P4/\aa P2 P2/\aa P1 P1/\aa (eH x.1.s) (eH x.1.s)/\aa (dL x.1.s x.1.c1) (dL x.1.s x.1.c1)/\aa P7 P7/\aa (SB.fmap x.1.w.ad (aD.int F x.1.w.ag) D) (SB.fmap x.1.w.ad (aD.int F x.1.w.ag) D)/\aa P0 P0/\aa x.1.w.view x.1.w.view/\True)/\(kC (cat x.2.2 x.2.1.p)=A->∃(u46:Nat),(if eE x.1.w x.2.1 x.2.2=C then x.1.s.fs++[(aX (cat x.2.2 x.2.1.p),x.2.1.v)] else x.1.s.fs).length<=u46/\(7:Nat)=(7:Nat)/\x.1.w.fr=x.1.w.fr/\x.1.w.to=x.1.w.to/\(0:Nat)=(0:Nat)/\(0:Nat)=(0:Nat)/\((0:Nat)=(0:Nat)/\x.1.s.ns.length=x.1.s.ns.length/\x.1.c1=x.1.c1)/\True /\(x.1.s.lk:Int)+1=(↑(x.1.s.lk+1):Int)/\((0:Nat)=(0:Nat)/\x.1.s.fs.length=(if eE x.1.w x.2.1 x.2.2=C then x.1.s.fs++[(aX (cat x.2.2 x.2.1.p),x.2.1.v)] else x.1.s.fs).length/\x.1.c2=u46)/\True/\aa (SB.rows C x.1.s.fs.length [bK x.1.s.fs,bL x.1.s.fs] A (x.1.c2*2) 50) (dm (Wk.iS x.1.w x.1.s x.2.1 x.2.2) u46)/\aa P4 P4/\aa P2 P2/\aa P1 P1/\aa (eH x.1.s) (eH x.1.s)/\aa (dL x.1.s x.1.c1) (dL x.1.s x.1.c1)/\aa P7 P7/\aa (SB.fmap x.1.w.ad (aD.int F x.1.w.ag) D) (SB.fmap x.1.w.ad (aD.int F x.1.w.ag) D)/\aa P0 P0/\aa x.1.w.view x.1.w.view/\True))/\(hasB x.1.w.fr x.1.w.to (cat x.2.2 x.2.1.p)=A->∃(u45:Nat),(if eE x.1.w x.2.1 x.2.2=C then x.1.s.fs++[(aX (cat x.2.2 x.2.1.p),x.2.1.v)] else x.1.s.fs).length<=u45/\(7:Nat)=(7:Nat)/\x.1.w.fr=x.1.w.fr/\x.1.w.to=x.1.w.to/\(0:Nat)=(0:Nat)/\(0:Nat)=(0:Nat)/\((0:Nat)=(0:Nat)/\x.1.s.ns.length=x.1.s.ns.length/\x.1.c1=x.1.c1)/\True /\(x.1.s.lk:Int)+1=(↑(x.1.s.lk+1):Int)/\((0:Nat)=(0:Nat)/\x.1.s.fs.length=(if eE x.1.w x.2.1 x.2.2=C then x.1.s.fs++[(aX (cat x.2.2 x.2.1.p),x.2.1.v)] else x.1.s.fs).length/\x.1.c2=u45)/\True/\aa (SB.rows C x.1.s.fs.length [bK x.1.s.fs,bL x.1.s.fs] A (x.1.c2*2) 50) (dm (Wk.iS x.1.w x.1.s x.2.1 x.2.2) u45)/\aa P4 P4/\aa P2 P2/\aa P1 P1/\aa (eH x.1.s) (eH x.1.s)/\aa (dL x.1.s x.1.c1) (dL x.1.s x.1.c1)/\aa P7 P7/\aa (SB.fmap x.1.w.ad (aD.int F x.1.w.ag) D) (SB.fmap x.1.w.ad (aD.int F x.1.w.ag) D)/\aa P0 P0/\aa x.1.w.view x.1.w.view/\True))/\((!decide (x.2.1.v=[]))=A->∃(u44:Nat),(if eE x.1.w x.2.1 x.2.2=C then x.1.s.fs++[(aX (cat x.2.2 x.2.1.p),x.2.1.v)] else x.1.s.fs).length<=u44/\(7:Nat)=(7:Nat)/\x.1.w.fr=x.1.w.fr/\x.1.w.to=x.1.w.to/\(0:Nat)=(0:Nat)/\(0:Nat)=(0:Nat)/\((0:Nat)=(0:Nat)/\x.1.s.ns.length=x.1.s.ns.length/\x.1.c1=x.1.c1)/\True /\(x.1.s.lk:Int)+1=(↑(x.1.s.lk+1):Int)/\((0:Nat)=(0:Nat)/\x.1.s.fs.length=(if eE x.1.w x.2.1 x.2.2=C then x.1.s.fs++[(aX (cat x.2.2 x.2.1.p),x.2.1.v)] else x.1.s.fs).length/\x.1.c2=u44)/\True/\aa (SB.rows C x.1.s.fs.length [bK x.1.s.fs,bL x.1.s.fs] A (x.1.c2*2) 50) (dm (Wk.iS x.1.w x.1.s x.2.1 x.2.2) u44)/\aa P4 P4/\aa P2 P2/\aa P1 P1/\aa (eH x.1.s) (eH x.1.s)/\aa (dL x.1.s x.1.c1) (dL x.1.s x.1.c1)/\aa P7 P7/\aa (SB.fmap x.1.w.ad (aD.int F x.1.w.ag) D) (SB.fmap x.1.w.ad (aD.int F x.1.w.ag) D)/\aa P0 P0/\aa x.1.w.view x.1.w.view/\True))/\∀(u43:Nat),(if eE x.1.w x.2.1 x.2.2=C then x.1.s.fs++[(aX (cat x.2.2 x.2.1.p),x.2.1.v)] else x.1.s.fs).length<=u43->∀(u42:Loop),(∃(u41:Nat×Wk×Nat×Nat),(u41.1<=16/\bX x.1.w (kg x.1.w m) x.2.1 x.2.2 u41.1 (Wk.iS x.1.w x.1.s x.2.1 x.2.2)=G u41.2.1/\u41.2.1.ns.length<=u41.2.2.1/\u41.2.1.fs.length<=u41.2.2.2) /\0=(u41.1:Int)/\(7:Nat)=(7:Nat)/\x.1.w.fr=x.1.w.fr/\x.1.w.to=x.1.w.to/\(0:Nat)=(0:Nat)/\(0:Nat)=(0:Nat)/\((0:Nat)=(0:Nat)/\x.1.s.ns.length=u41.2.1.ns.length/\x.1.c1=u41.2.2.1)/\True/\(↑(x.1.s.lk+1):Int)=(u41.2.1.lk:Int)/\((0:Nat)=(0:Nat)/\(if eE x.1.w x.2.1 x.2.2=C then x.1.s.fs++[(aX (cat x.2.2 x.2.1.p),x.2.1.v)] else x.1.s.fs).length=u41.2.1.fs.length/\u43=u41.2.2.2)/\True/\aa (SB.fmap x.1.s.ud (aD.int F x.1.s.us) D) (eH u41.2.1)/\aa (SB.rows C x.1.s.ns.length [iA x.1.s.ns] A (x.1.c1*1) 9) (dL u41.2.1 u41.2.2.1) /\aa (SB.rows C (if eE x.1.w x.2.1 x.2.2=C then x.1.s.fs++[(aX (cat x.2.2 x.2.1.p),x.2.1.v)] else x.1.s.fs).length [bK (if eE x.1.w x.2.1 x.2.2=C then x.1.s.fs++[(aX (cat x.2.2 x.2.1.p),x.2.1.v)] else x.1.s.fs),bL (if eE x.1.w x.2.1 x.2.2=C then x.1.s.fs++[(aX (cat x.2.2 x.2.1.p),x.2.1.v)] else x.1.s.fs)] A (u43*2) 50) (dm u41.2.1 u41.2.2.2)/\aa (SB.loop I D u42) (SB.loop I D u42)/\aa P6 P6/\aa P3 P3/\aa P1 P1/\aa P4 P4/\aa P2 P2/\aa P1 P1/\aa P7 P7/\aa (SB.fmap x.1.w.ad (aD.int F x.1.w.ag) D) (SB.fmap x.1.w.ad (aD.int F x.1.w.ag) D)/\aa P0 P0/\aa x.1.w.view x.1.w.view/\True)/\∀(u40:Nat×Wk×Nat×Nat),u40.1<=16/\bX x.1.w (kg x.1.w m) x.2.1 x.2.2 u40.1 (Wk.iS x.1.w x.1.s x.2.1 x.2.2)=G u40.2.1/\u40.2.1.ns.length<=u40.2.2.1/\u40.2.1.fs.length<=u40.2.2.2->(H ((u40.1:Int)<16)=C->(0<=(u40.1:Int)/\(u40.1:Int)<16 /\(u40.1:Int)<(↑(16:Nat):Int))/\(H (bP (cV x.2.1.r []) (u40.1:Int).toNat=[])=C->I6 ((u40.1:Int)+1)/\∃(u39:Nat×Wk×Nat×Nat),((u39.1<=16/\bX x.1.w (kg x.1.w m) x.2.1 x.2.2 u39.1 (Wk.iS x.1.w x.1.s x.2.1 x.2.2)=G u39.2.1/\u39.2.1.ns.length<=u39.2.2.1/\u39.2.1.fs.length<=u39.2.2.2)/\16 - u39.1<16 - u40.1)/\(u40.1:Int)+1=(u39.1:Int)/\(7:Nat)=(7:Nat)/\x.1.w.fr=x.1.w.fr/\x.1.w.to=x.1.w.to/\(0:Nat)=(0:Nat)/\(0:Nat)=(0:Nat)/\((0:Nat)=(0:Nat)/\u40.2.1.ns.length=u39.2.1.ns.length/\u40.2.2.1=u39.2.2.1)/\True/\(u40.2.1.lk:Int)=(u39.2.1.lk:Int)/\((0:Nat)=(0:Nat)/\u40.2.1.fs.length=u39.2.1.fs.length/\u40.2.2.2=u39.2.2.2)/\True /\aa (SB.fmap u40.2.1.ud (aD.int F u40.2.1.us) D) (eH u39.2.1)/\aa (P10 u40) (dL u39.2.1 u39.2.2.1)/\aa (P9 u40) (dm u39.2.1 u39.2.2.2)/\aa (SB.loop I D u42) (SB.loop I D u42)/\aa P6 P6/\aa P3 P3/\aa P1 P1/\aa P4 P4/\aa P2 P2/\aa P1 P1/\aa P7 P7/\aa (SB.fmap x.1.w.ad (aD.int F x.1.w.ag) D) (SB.fmap x.1.w.ad (aD.int F x.1.w.ag) D)/\aa P0 P0/\aa x.1.w.view x.1.w.view/\True)/\(H (bP (cV x.2.1.r []) (u40.1:Int).toNat=[])=A->(x.2.2.length:Int)+(x.2.1.p.length:Int)<=9223372036854775807/\((H (x.2.1.k=3)=C->(↑(cat x.2.2 x.2.1.p).length:Int)+(↑(1:Nat):Int)<=9223372036854775807/\∃(_:Unit),True/\cat (cat x.2.2 x.2.1.p) [UInt8.ofNat ((u40.1:Int)% 256).toNat]=fc x.2.1 x.2.2 (u40.1:Int).toNat /\aa (Ka x.1.w u40.2.1 16 17 u40.2.2.1 u40.2.2.2) (Ka x.1.w u40.2.1 16 17 u40.2.2.1 u40.2.2.2)/\aa (eH u40.2.1) (eH u40.2.1)/\aa (dL u40.2.1 u40.2.2.1) (dL u40.2.1 u40.2.2.1)/\aa (dm u40.2.1 u40.2.2.2) (dm u40.2.1 u40.2.2.2)/\aa (SB.loop I D u42) (SB.loop I D u42)/\aa P6 P6/\aa P3 P3/\aa P1 P1/\aa P4 P4/\aa P2 P2/\aa P1 P1/\aa P7 P7/\aa (SB.fmap x.1.w.ad (aD.int F x.1.w.ag) D) (SB.fmap x.1.w.ad (aD.int F x.1.w.ag) D)/\aa P0 P0/\aa x.1.w.view x.1.w.view/\True)/\(H (x.2.1.k=3)=A->∃(_:Unit),True/\cat x.2.2 x.2.1.p=fc x.2.1 x.2.2 (u40.1:Int).toNat/\aa (Ka x.1.w u40.2.1 16 17 u40.2.2.1 u40.2.2.2) (Ka x.1.w u40.2.1 16 17 u40.2.2.1 u40.2.2.2)/\aa (eH u40.2.1) (eH u40.2.1)/\aa (dL u40.2.1 u40.2.2.1) (dL u40.2.1 u40.2.2.1)/\aa (dm u40.2.1 u40.2.2.2) (dm u40.2.1 u40.2.2.2) /\aa (SB.loop I D u42) (SB.loop I D u42)/\aa P6 P6/\aa P3 P3/\aa P1 P1/\aa P4 P4/\aa P2 P2/\aa P1 P1/\aa P7 P7/\aa (SB.fmap x.1.w.ad (aD.int F x.1.w.ag) D) (SB.fmap x.1.w.ad (aD.int F x.1.w.ag) D)/\aa P0 P0/\aa x.1.w.view x.1.w.view/\True))/\∀(_:Unit),True->(x.1.w.fr.length<=1000/\x.1.w.to.length<=1000)/\(bN x.1.w.fr x.1.w.to (fc x.2.1 x.2.2 (u40.1:Int).toNat)=C->u42=u42/\∃(u35:yN×List UInt8),(u35.1.w.Ok/\u35.1.s.Small/\(u35.1.s.ns.length<=u35.1.c1/\u35.1.s.fs.length<=u35.1.c2)/\u35.2.length<9223372036854775808)/\(0:Nat)=(0:Nat)/\bP (cV x.2.1.r []) (u40.1:Int).toNat=u35.2/\(7:Nat)=(7:Nat)/\x.1.w.fr=u35.1.w.fr/\x.1.w.to=u35.1.w.to/\(0:Nat)=(0:Nat)/\(0:Nat)=(0:Nat)/\((0:Nat)=(0:Nat) /\u40.2.1.ns.length=u35.1.s.ns.length/\u40.2.2.1=u35.1.c1)/\True/\(u40.2.1.lk:Int)=(u35.1.s.lk:Int)/\((0:Nat)=(0:Nat)/\u40.2.1.fs.length=u35.1.s.fs.length/\u40.2.2.2=u35.1.c2)/\True/\aa (SB.fmap u40.2.1.ud (aD.int F u40.2.1.us) D) (eH u35.1.s)/\aa (P10 u40) (dL u35.1.s u35.1.c1)/\aa (P9 u40) (dm u35.1.s u35.1.c2)/\(1:Nat)=(1:Nat)/\aa (SB.fmap x.1.w.ad (aD.int F x.1.w.ag) D) (SB.fmap u35.1.w.ad (aD.int F u35.1.w.ag) D)/\(1:Nat)=(1:Nat)/\(x.1.w.z=u35.1.w.z/\x.1.w.o=u35.1.w.o/\(0:Nat)=(0:Nat)/\x.1.w.n=u35.1.w.n/\x.1.w.c=u35.1.w.c)/\aa (SB.view x.1.w.z x.1.w.o x.1.w.n [aq.str x.1.w.f]) (SB.view u35.1.w.z u35.1.w.o u35.1.w.n [aq.str u35.1.w.f])/\(bJ u35.2=C->∀(u34:Nat×Nat),u35.1.s.ns.length<=u34.1/\u35.1.s.fs.length<=u34.2->∃(u33:yN×Nd×List UInt8),(u33.1.w.Ok/\u33.1.s.Small/\(u33.1.s.ns.length<=u33.1.c1/\u33.1.s.fs.length<=u33.1.c2)/\u33.1.s.Fit (u33.1.s.lk+1)/\401<=u33.1.s.lk+m/\u33.2.1.k5 /\u33.2.2.length<=13*u33.1.s.lk)/\(0:Nat)=(0:Nat)/\(getD u35.2).k=u33.2.1.k/\(getD u35.2).p=u33.2.1.p/\(getD u35.2).v=u33.2.1.v/\(getD u35.2).r 0=u33.2.1.r 0/\(getD u35.2).r 1=u33.2.1.r 1/\(getD u35.2).r 2=u33.2.1.r 2/\(getD u35.2).r 3=u33.2.1.r 3/\(getD u35.2).r 4=u33.2.1.r 4/\(getD u35.2).r 5=u33.2.1.r 5/\(getD u35.2).r 6=u33.2.1.r 6/\(getD u35.2).r 7=u33.2.1.r 7/\(getD u35.2).r 8=u33.2.1.r 8/\(getD u35.2).r 9=u33.2.1.r 9/\(getD u35.2).r 10=u33.2.1.r 10/\(getD u35.2).r 11=u33.2.1.r 11/\(getD u35.2).r 12=u33.2.1.r 12/\(getD u35.2).r 13=u33.2.1.r 13/\(getD u35.2).r 14=u33.2.1.r 14/\(getD u35.2).r 15=u33.2.1.r 15/\fc x.2.1 x.2.2 (u40.1:Int).toNat=u33.2.2/\(7:Nat)=(7:Nat)/\u35.1.w.fr=u33.1.w.fr/\u35.1.w.to=u33.1.w.to/\(0:Nat)=(0:Nat)/\(0:Nat)=(0:Nat)/\((0:Nat)=(0:Nat)/\u35.1.s.ns.length=u33.1.s.ns.length/\u34.1=u33.1.c1)/\True/\(u35.1.s.lk:Int)=(u33.1.s.lk:Int)/\((0:Nat)=(0:Nat) /\u35.1.s.fs.length=u33.1.s.fs.length/\u34.2=u33.1.c2)/\True/\aa (SB.fmap u35.1.s.ud (aD.int F u35.1.s.us) D) (eH u33.1.s)/\aa (SB.rows C u35.1.s.ns.length [aq.str λu32=>u35.1.s.ns.getD u32 []] A (u34.1*1) 9) (dL u33.1.s u33.1.c1)/\aa (SB.rows C u35.1.s.fs.length [aq.str λu31=>(u35.1.s.fs.getD u31 ([],[])).1,aq.str λu30=>(u35.1.s.fs.getD u30 ([],[])).2] A (u34.2*2) 50) (dm u33.1.s u33.1.c2)/\(1:Nat)=(1:Nat)/\aa (SB.fmap u35.1.w.ad (aD.int F u35.1.w.ag) D) (SB.fmap u33.1.w.ad (aD.int F u33.1.w.ag) D)/\(1:Nat)=(1:Nat)/\(u35.1.w.z=u33.1.w.z/\u35.1.w.o=u33.1.w.o/\(0:Nat)=(0:Nat)/\u35.1.w.n=u33.1.w.n/\u35.1.w.c=u33.1.w.c)/\aa (SB.view x.1.w.z x.1.w.o x.1.w.n [aq.str x.1.w.f]) (SB.view u33.1.w.z u33.1.w.o u33.1.w.n [aq.str u33.1.w.f])/\(cY u33.1.w m u33.1.s u33.2.1 u33.2.2=C->∀(u29:Nat×Nat),(bp u33.1.w m u33.1.s u33.2.1 u33.2.2).ns.length<=u29.1 /\(bp u33.1.w m u33.1.s u33.2.1 u33.2.2).fs.length<=u29.2->I6 ((u40.1:Int)+1)/\∃(u28:Nat×Wk×Nat×Nat),((u28.1<=16/\bX x.1.w (kg x.1.w m) x.2.1 x.2.2 u28.1 (Wk.iS x.1.w x.1.s x.2.1 x.2.2)=G u28.2.1/\u28.2.1.ns.length<=u28.2.2.1/\u28.2.1.fs.length<=u28.2.2.2)/\16 - u28.1<16 - u40.1)/\(u40.1:Int)+1=(u28.1:Int)/\(7:Nat)=(7:Nat)/\u33.1.w.fr=x.1.w.fr/\u33.1.w.to=x.1.w.to/\(0:Nat)=(0:Nat)/\(0:Nat)=(0:Nat)/\((0:Nat)=(0:Nat)/\(bp u33.1.w m u33.1.s u33.2.1 u33.2.2).ns.length=u28.2.1.ns.length/\u29.1=u28.2.2.1)/\True/\(↑(bp u33.1.w m u33.1.s u33.2.1 u33.2.2).lk:Int)=(u28.2.1.lk:Int)/\((0:Nat)=(0:Nat)/\(bp u33.1.w m u33.1.s u33.2.1 u33.2.2).fs.length=u28.2.1.fs.length/\u29.2=u28.2.2.2)/\True /\aa (SB.fmap (bp u33.1.w m u33.1.s u33.2.1 u33.2.2).ud (aD.int F (bp u33.1.w m u33.1.s u33.2.1 u33.2.2).us) D) (eH u28.2.1)/\aa (SB.rows C (bp u33.1.w m u33.1.s u33.2.1 u33.2.2).ns.length [aq.str λu27=>(bp u33.1.w m u33.1.s u33.2.1 u33.2.2).ns.getD u27 []] A (u29.1*1) 9) (dL u28.2.1 u28.2.2.1)/\aa (SB.rows C (bp u33.1.w m u33.1.s u33.2.1 u33.2.2).fs.length [aq.str λu26=>((bp u33.1.w m u33.1.s u33.2.1 u33.2.2).fs.getD u26 ([],[])).1,aq.str λu25=>((bp u33.1.w m u33.1.s u33.2.1 u33.2.2).fs.getD u25 ([],[])).2] A (u29.2*2) 50) (dm u28.2.1 u28.2.2.2)/\aa (SB.loop I D u42) (SB.loop I D u42)/\aa P6 P6/\aa P3 P3/\aa P1 P1/\aa P4 P4/\aa P2 P2/\aa P1 P1/\aa P7 P7/\aa (SB.fmap u33.1.w.ad (aD.int F u33.1.w.ag) D) (SB.fmap x.1.w.ad (aD.int F x.1.w.ag) D)/\aa (SB.cells [SV.bS 7 1 u33.1.w.z u33.1.w.o 0 u33.1.w.n u33.1.w.c] 1 29) P0/\aa x.1.w.view x.1.w.view /\True)/\(cY u33.1.w m u33.1.s u33.2.1 u33.2.2=A->∀(u24:List UInt8×List UInt8),(cY x.1.w (m+1) x.1.s x.2.1 x.2.2=C->∃(u23:Nat×Nat),((bp x.1.w (m+1) x.1.s x.2.1 x.2.2).ns.length<=u23.1/\(bp x.1.w (m+1) x.1.s x.2.1 x.2.2).fs.length<=u23.2)/\False)/\(cY x.1.w (m+1) x.1.s x.2.1 x.2.2=A->∃(u22:List UInt8×List UInt8),(0:Nat)=(0:Nat)/\aa (SB.cells [SV.str A u24.1,SV.str A u24.2] 2 207) (SB.cells [SV.str A u22.1,SV.str A u22.2] 2 207)/\True)))/\(bJ u35.2=A->(bw u35.2=C->(bD u35.1.w (ah u35.2)=C->∀(u21:Nat×Nat),(if u35.1.s.used (ah u35.2)=0 then u35.1.s.ns++[u35.1.w.at (ah u35.2)] else u35.1.s.ns).length<=u21.1/\u35.1.s.fs.length<=u21.2->∃(u20:yN×Nd×List UInt8),(u20.1.w.Ok/\u20.1.s.Small/\(u20.1.s.ns.length<=u20.1.c1/\u20.1.s.fs.length<=u20.1.c2)/\u20.1.s.Fit (u20.1.s.lk+1)/\401<=u20.1.s.lk+m/\u20.2.1.k5/\u20.2.2.length<=13*u20.1.s.lk)/\(0:Nat)=(0:Nat)/\(P5 u35).k=u20.2.1.k /\(P5 u35).p=u20.2.1.p/\(P5 u35).v=u20.2.1.v/\(P5 u35).r 0=u20.2.1.r 0/\(P5 u35).r 1=u20.2.1.r 1/\(P5 u35).r 2=u20.2.1.r 2/\(P5 u35).r 3=u20.2.1.r 3/\(P5 u35).r 4=u20.2.1.r 4/\(P5 u35).r 5=u20.2.1.r 5/\(P5 u35).r 6=u20.2.1.r 6/\(P5 u35).r 7=u20.2.1.r 7/\(P5 u35).r 8=u20.2.1.r 8/\(P5 u35).r 9=u20.2.1.r 9/\(P5 u35).r 10=u20.2.1.r 10/\(P5 u35).r 11=u20.2.1.r 11/\(P5 u35).r 12=u20.2.1.r 12/\(P5 u35).r 13=u20.2.1.r 13/\(P5 u35).r 14=u20.2.1.r 14/\(P5 u35).r 15=u20.2.1.r 15/\fc x.2.1 x.2.2 (u40.1:Int).toNat=u20.2.2/\(7:Nat)=(7:Nat)/\u35.1.w.fr=u20.1.w.fr/\u35.1.w.to=u20.1.w.to/\(0:Nat)=(0:Nat)/\(0:Nat)=(0:Nat)/\((0:Nat)=(0:Nat)/\(if u35.1.s.used (ah u35.2)=0 then u35.1.s.ns++[u35.1.w.at (ah u35.2)] else u35.1.s.ns).length=u20.1.s.ns.length/\u21.1=u20.1.c1)/\True/\(u35.1.s.lk:Int)=(u20.1.s.lk:Int)/\((0:Nat)=(0:Nat)/\u35.1.s.fs.length=u20.1.s.fs.length/\u21.2=u20.1.c2)/\True /\aa (SB.fmap (dA u35.1.s.ud (ah u35.2)) (aD.int F (fE u35.1.s.us (ah u35.2) (u35.1.s.used (ah u35.2)+1))) D) (eH u20.1.s)/\aa (SB.rows C (if u35.1.s.used (ah u35.2)=0 then u35.1.s.ns++[u35.1.w.at (ah u35.2)] else u35.1.s.ns).length [aq.str λu19=>(if u35.1.s.used (ah u35.2)=0 then u35.1.s.ns++[u35.1.w.at (ah u35.2)] else u35.1.s.ns).getD u19 []] A (u21.1*1) 9) (dL u20.1.s u20.1.c1)/\aa (SB.rows C u35.1.s.fs.length [aq.str λu18=>(u35.1.s.fs.getD u18 ([],[])).1,aq.str λu17=>(u35.1.s.fs.getD u17 ([],[])).2] A (u21.2*2) 50) (dm u20.1.s u20.1.c2)/\(1:Nat)=(1:Nat)/\aa (SB.fmap u35.1.w.ad (aD.int F u35.1.w.ag) D) (SB.fmap u20.1.w.ad (aD.int F u20.1.w.ag) D)/\(1:Nat)=(1:Nat)/\(u35.1.w.z=u20.1.w.z/\u35.1.w.o=u20.1.w.o/\(0:Nat)=(0:Nat)/\u35.1.w.n=u20.1.w.n/\u35.1.w.c=u20.1.w.c)/\aa (SB.view x.1.w.z x.1.w.o x.1.w.n [aq.str x.1.w.f]) (SB.view u20.1.w.z u20.1.w.o u20.1.w.n [aq.str u20.1.w.f]) /\(cY u20.1.w m u20.1.s u20.2.1 u20.2.2=C->∀(u16:Nat×Nat),(bp u20.1.w m u20.1.s u20.2.1 u20.2.2).ns.length<=u16.1/\(bp u20.1.w m u20.1.s u20.2.1 u20.2.2).fs.length<=u16.2->I6 ((u40.1:Int)+1)/\∃(u15:Nat×Wk×Nat×Nat),((u15.1<=16/\bX x.1.w (kg x.1.w m) x.2.1 x.2.2 u15.1 (Wk.iS x.1.w x.1.s x.2.1 x.2.2)=G u15.2.1/\u15.2.1.ns.length<=u15.2.2.1/\u15.2.1.fs.length<=u15.2.2.2)/\16 - u15.1<16 - u40.1)/\(u40.1:Int)+1=(u15.1:Int)/\(7:Nat)=(7:Nat)/\u20.1.w.fr=x.1.w.fr/\u20.1.w.to=x.1.w.to/\(0:Nat)=(0:Nat)/\(0:Nat)=(0:Nat)/\((0:Nat)=(0:Nat)/\(bp u20.1.w m u20.1.s u20.2.1 u20.2.2).ns.length=u15.2.1.ns.length/\u16.1=u15.2.2.1)/\True/\(↑(bp u20.1.w m u20.1.s u20.2.1 u20.2.2).lk:Int)=(u15.2.1.lk:Int)/\((0:Nat)=(0:Nat)/\(bp u20.1.w m u20.1.s u20.2.1 u20.2.2).fs.length=u15.2.1.fs.length/\u16.2=u15.2.2.2)/\True /\aa (SB.fmap (bp u20.1.w m u20.1.s u20.2.1 u20.2.2).ud (aD.int F (bp u20.1.w m u20.1.s u20.2.1 u20.2.2).us) D) (eH u15.2.1)/\aa (SB.rows C (bp u20.1.w m u20.1.s u20.2.1 u20.2.2).ns.length [aq.str λu14=>(bp u20.1.w m u20.1.s u20.2.1 u20.2.2).ns.getD u14 []] A (u16.1*1) 9) (dL u15.2.1 u15.2.2.1)/\aa (SB.rows C (bp u20.1.w m u20.1.s u20.2.1 u20.2.2).fs.length [aq.str λu13=>((bp u20.1.w m u20.1.s u20.2.1 u20.2.2).fs.getD u13 ([],[])).1,aq.str λu12=>((bp u20.1.w m u20.1.s u20.2.1 u20.2.2).fs.getD u12 ([],[])).2] A (u16.2*2) 50) (dm u15.2.1 u15.2.2.2)/\aa (SB.loop I D u42) (SB.loop I D u42)/\aa P6 P6/\aa P3 P3/\aa P1 P1/\aa P4 P4/\aa P2 P2/\aa P1 P1/\aa P7 P7/\aa (SB.fmap u20.1.w.ad (aD.int F u20.1.w.ag) D) (SB.fmap x.1.w.ad (aD.int F x.1.w.ag) D)/\aa (SB.cells [SV.bS 7 1 u20.1.w.z u20.1.w.o 0 u20.1.w.n u20.1.w.c] 1 29) P0/\aa x.1.w.view x.1.w.view /\True)/\(cY u20.1.w m u20.1.s u20.2.1 u20.2.2=A->∀(u11:List UInt8×List UInt8),(cY x.1.w (m+1) x.1.s x.2.1 x.2.2=C->∃(u10:Nat×Nat),((bp x.1.w (m+1) x.1.s x.2.1 x.2.2).ns.length<=u10.1/\(bp x.1.w (m+1) x.1.s x.2.1 x.2.2).fs.length<=u10.2)/\False)/\(cY x.1.w (m+1) x.1.s x.2.1 x.2.2=A->∃(u9:List UInt8×List UInt8),(0:Nat)=(0:Nat)/\aa (SB.cells [SV.str A u11.1,SV.str A u11.2] 2 207) (SB.cells [SV.str A u9.1,SV.str A u9.2] 2 207)/\True)))/\(bD u35.1.w (ah u35.2)=A->∀(u8:List UInt8×List UInt8),(cY x.1.w (m+1) x.1.s x.2.1 x.2.2=C->∃(u7:Nat×Nat),((bp x.1.w (m+1) x.1.s x.2.1 x.2.2).ns.length<=u7.1/\(bp x.1.w (m+1) x.1.s x.2.1 x.2.2).fs.length<=u7.2)/\False)/\(cY x.1.w (m+1) x.1.s x.2.1 x.2.2=A->∃(u6:List UInt8×List UInt8),(0:Nat)=(0:Nat)/\aa (SB.cells [SV.str A u8.1,SV.str A u8.2] 2 207) (SB.cells [SV.str A u6.1,SV.str A u6.2] 2 207)/\True)))/\(bw u35.2=A ->∀(u5:List UInt8×List UInt8),(cY x.1.w (m+1) x.1.s x.2.1 x.2.2=C->∃(u4:Nat×Nat),((bp x.1.w (m+1) x.1.s x.2.1 x.2.2).ns.length<=u4.1/\(bp x.1.w (m+1) x.1.s x.2.1 x.2.2).fs.length<=u4.2)/\False)/\(cY x.1.w (m+1) x.1.s x.2.1 x.2.2=A->∃(u3:List UInt8×List UInt8),(0:Nat)=(0:Nat)/\aa (SB.cells [SV.str A u5.1,SV.str A u5.2] 2 207) (SB.cells [SV.str A u3.1,SV.str A u3.2] 2 207)/\True))))/\(bN x.1.w.fr x.1.w.to (fc x.2.1 x.2.2 (u40.1:Int).toNat)=A->I6 ((u40.1:Int)+1)/\∃(u2:Nat×Wk×Nat×Nat),((u2.1<=16/\bX x.1.w (kg x.1.w m) x.2.1 x.2.2 u2.1 (Wk.iS x.1.w x.1.s x.2.1 x.2.2)=G u2.2.1/\u2.2.1.ns.length<=u2.2.2.1/\u2.2.1.fs.length<=u2.2.2.2)/\16 - u2.1<16 - u40.1)/\(u40.1:Int)+1=(u2.1:Int)/\(7:Nat)=(7:Nat)/\x.1.w.fr=x.1.w.fr/\x.1.w.to=x.1.w.to/\(0:Nat)=(0:Nat)/\(0:Nat)=(0:Nat)/\((0:Nat)=(0:Nat) /\u40.2.1.ns.length=u2.2.1.ns.length/\u40.2.2.1=u2.2.2.1)/\True/\(u40.2.1.lk:Int)=(u2.2.1.lk:Int)/\((0:Nat)=(0:Nat)/\u40.2.1.fs.length=u2.2.1.fs.length/\u40.2.2.2=u2.2.2.2)/\True/\aa (SB.fmap u40.2.1.ud (aD.int F u40.2.1.us) D) (eH u2.2.1)/\aa (P10 u40) (dL u2.2.1 u2.2.2.1)/\aa (P9 u40) (dm u2.2.1 u2.2.2.2)/\aa (SB.loop I D u42) (SB.loop I D u42)/\aa P6 P6/\aa P3 P3/\aa P1 P1/\aa P4 P4/\aa P2 P2/\aa P1 P1/\aa P7 P7/\aa (SB.fmap x.1.w.ad (aD.int F x.1.w.ag) D) (SB.fmap x.1.w.ad (aD.int F x.1.w.ag) D)/\aa P0 P0/\aa x.1.w.view x.1.w.view/\True)))/\(H ((u40.1:Int)<16)=A->(cY x.1.w (m+1) x.1.s x.2.1 x.2.2=C->∃(u1:Nat×Nat),((bp x.1.w (m+1) x.1.s x.2.1 x.2.2).ns.length<=u1.1/\(bp x.1.w (m+1) x.1.s x.2.1 x.2.2).fs.length<=u1.2)/\(7:Nat)=(7:Nat)/\x.1.w.fr=x.1.w.fr/\x.1.w.to=x.1.w.to/\(0:Nat)=(0:Nat)/\(0:Nat)=(0:Nat) /\((0:Nat)=(0:Nat)/\u40.2.1.ns.length=(bp x.1.w (m+1) x.1.s x.2.1 x.2.2).ns.length/\u40.2.2.1=u1.1)/\True/\(u40.2.1.lk:Int)=(↑(bp x.1.w (m+1) x.1.s x.2.1 x.2.2).lk:Int)/\((0:Nat)=(0:Nat)/\u40.2.1.fs.length=(bp x.1.w (m+1) x.1.s x.2.1 x.2.2).fs.length/\u40.2.2.2=u1.2)/\True/\aa (SB.fmap u40.2.1.ud (aD.int F u40.2.1.us) D) (eH (bp x.1.w (m+1) x.1.s x.2.1 x.2.2))/\aa (P10 u40) (dL (bp x.1.w (m+1) x.1.s x.2.1 x.2.2) u1.1)/\aa (P9 u40) (dm (bp x.1.w (m+1) x.1.s x.2.1 x.2.2) u1.2)/\aa P7 P7/\aa (SB.fmap x.1.w.ad (aD.int F x.1.w.ag) D) (SB.fmap x.1.w.ad (aD.int F x.1.w.ag) D)/\aa P0 P0/\True)/\(cY x.1.w (m+1) x.1.s x.2.1 x.2.2=A->∃(_:List UInt8×List UInt8),False)))))) (fun(u40:Nat×Wk×Nat×Nat)=>(SB.rows C u40.2.1.ns.length [iA u40.2.1.ns] A (u40.2.2.1*1) 9)))) (fun(u40:Nat×Wk×Nat×Nat)=>(SB.rows C u40.2.1.fs.length [bK u40.2.1.fs,bL u40.2.1.fs] A (u40.2.2.2*2) 50)))) (SB.cells (aT [SV.str A x.1.w.fr,SV.str A x.1.w.to,SV.func (Fn.func (50:FuncId)) [] [SV.ptr 4 C 0,SV.ptr 6 C 0],SV.map 1,SV.aZ 2 1 C 0 x.1.s.ns.length x.1.c1,SV.int .i64 A (x.1.s.lk:Int),SV.aZ 3 2 C 0 x.1.s.fs.length x.1.c2] 5 (SV.int .i64 A ((x.1.s.lk:Int)+1)).cells) 7 92))) (SB.cells [SV.map 5] 1 90))) (SB.cells (SV.str A x.2.2).cells 1 9))) (fun(u35:yN×List UInt8)=>(getD (u35.1.w.at (ah u35.2)))))) (SB.cells SV.aK.cells 1 84))) (SB.cells (SV.agg (ep x.2.1)).cells 19 138))) (SB.cells x.2.1.sv.cells 19 138))) (SB.cells (SV.ptr 0 C 0).cells 1 82))) (SB.cells [SV.bS 7 1 x.1.w.z x.1.w.o 0 x.1.w.n x.1.w.c] 1 29)):=by kernel_rfl
theorem yD (w:Sp)(s:Wk)(h t:List UInt8):(s.take w h).used t=if t=h then s.used h+1 else s.used t:=by
 show dflt (s.ud t||decide (t=h)) (bif H (t=h)then s.used h+1 else s.us t)=_
 by_cases e:t=h
 ·rw[if_pos e,decide_eq_true e,Bool.or_true];rfl
 ·rw[if_neg e,decide_eq_false e,Bool.or_false];rfl
theorem Wk.Fit.mono {s:Wk}{j k:Nat}(h:s.Fit j)(hk:j<=k):s.Fit k:=⟨λt=>by have:=h.u t;omega,by have:=h.ns;omega,h.fs,h.lk⟩
theorem Wk.Fit.small {s:Wk}{k:Nat}(h:s.Fit k)(hk:k<=1000):s.Small:=⟨λt=>by have:=h.u t;omega,by have:=h.ns;omega,by have:=h.lk;omega,by have:=h.fs;have:=h.lk;omega⟩
theorem Wk.Fit.take {s:Wk}{k:Nat}(h:s.Fit k)(w:Sp)(t:List UInt8):(s.take w t).Fit (k+1):=by
 refine⟨λr=> ?_,?_,h.fs,h.lk⟩
 ·rw[yD];have h1:=h.u r;have h2:=h.u t;split<;>omega
 ·have:=h.ns;show(if s.used t=0 then s.ns++[w.at t] else s.ns).length<=_
  split
  ·rw[P];simp;omega
  ·omega
theorem Wk.Fit.iS {s:Wk}(h:s.Fit (s.lk+1))(hl:s.lk<400)(w:Sp)(x:Nd)(p:List UInt8):(s.iS w x p).Fit (s.iS w x p).lk:=by
 refine⟨h.u,h.ns,?_,hl⟩;have:=h.fs;show(if eE w x p=C then s.fs++[(aX (cat p x.p),x.v)] else s.fs).length<=s.lk+1
 split
 ·rw[P];simp;omega
 ·omega
theorem yh {w:Sp}{s s':Wk}{t:List UInt8}{y:Nd}{k:Nat}(h:s.Fit k)(hf:iD w s t=G (y,s')):s'.Fit (k+1)/\s'.lk=s.lk/\aU y=true:=by
 unfold iD at hf;split at hf
 ·rename_i hi;injection hf with hf;injection hf with h1 h2;subst h1;subst h2;exact⟨h.mono (Nat.le_succ _),rfl,O4 hi⟩
 ·split at hf
  ·rename_i hi;injection hf with hf;injection hf with h1 h2;subst h1;subst h2;simp only[bD,Bool.and_eq_true] at hi;exact⟨h.take w _,rfl,nO hi.2.2⟩
  ·cases hf
def Rb (_w:Sp)(T:Wk->Nd->List UInt8->Option Wk):Prop:=∀ s x p s',s.Fit (s.lk+1)->T s x p=G s'->s'.Fit s'.lk/\s.lk<s'.lk
theorem pK {w:Sp}{T:Wk->Nd->List UInt8->Option Wk}(hT:Rb w T){x:Nd}{p:List UInt8}: ∀ {i:Nat} {s s':Wk},s.Fit s.lk->bX w T x p i s=G s'->s'.Fit s'.lk/\s.lk<=s'.lk
 | 0,s,s',h,e=>by injection e with e;subst e;exact⟨h,Nat.le_refl _⟩
 | i+1,s,s',h,e=>by
   unfold bX at e;split at e
   ·cases e
   ·rename_i s1 h1;obtain⟨g1,g2⟩:=pK hT h h1;unfold iK at e;split at e
    ·injection e with e;subst e;exact⟨g1,g2⟩
    ·cases hm:bN w.fr w.to (fc x p i)with
     | false =>rw[hm] at e;injection e with e;subst e;exact⟨g1,g2⟩
     | true =>
       rw[hm] at e;simp only[cond_true] at e;split at e
       ·cases e
       ·rename_i y s2 hf;obtain⟨q1,q2,_⟩:=yh g1 hf;obtain⟨r1,r2⟩:=hT s2 y _ s' (by rw[q2];exact q1) e;exact⟨r1,by omega⟩
theorem Al (w:Sp): ∀ m,Rb w (kg w m)
 | 0=>λs x p s' _ e=>by cases e
 | m+1=>λs x p s' h e=>by
   unfold kg at e;split at e
   ·cases e
   ·rename_i hl;obtain⟨g1,g2⟩:=pK (Al w m) (h.iS (by omega) w x p) e;have:(s.iS w x p).lk=s.lk+1:=rfl;exact⟨g1,by omega⟩
theorem rj {w:Sp}{T:Wk->Nd->List UInt8->Option Wk}{x:Nd}{p:List UInt8}{s:Wk}: ∀ {j i:Nat},i<=j->bX w T x p i s=D->bX w T x p j s=D
 | 0,i,hj,e=>by
   have:i=0:=by omega
   subst this;exact e
 | j+1,i,hj,e=>by
   by_cases h:i=j+1
   ·subst h;exact e
   ·unfold bX;rw[rj (by omega:i<=j) e]
section
variable {w : Sp} {T : Wk -> Nd -> List UInt8 -> Option Wk} {x : Nd} {p : List UInt8} {s s' : Wk} {i : Nat}
theorem dV (h:bX w T x p i s=G s'):bX w T x p (i+1) s=iK w T x p i s':=by rw[bX,h]
theorem j8 (h:x.r i=[]):iK w T x p i s=G s:=by rw[iK,if_pos h]
theorem ri (h:bN w.fr w.to (fc x p i)=A):iK w T x p i s=G s:=by rw[iK,h];split<;>rfl
theorem pJ (h: ¬ x.r i=[])(hm:bN w.fr w.to (fc x p i)=C)(hf:iD w s (x.r i)=D):iK w T x p i s=none:=by rw[iK,if_neg h,hm,hf];rfl
theorem gL (h: ¬ x.r i=[])(hm:bN w.fr w.to (fc x p i)=C){y:Nd}(hf:iD w s (x.r i)=G (y,s')):iK w T x p i s=T s' y (fc x p i):=by rw[iK,if_neg h,hm,hf];rfl
theorem wj {t:List UInt8}(h:bJ t=C):iD w s t=G (getD t,s):=by rw[iD,if_pos h]
theorem pT {t:List UInt8}(h:bJ t=A)(h1:bw t=C)(h2:bD w (ah t)=C):iD w s t=G (getD (w.at (ah t)),s.take w (ah t)):=by rw[iD,if_neg (by rw[h];simp),if_pos (by rw[h1,h2];rfl)]
theorem Ct {t:List UInt8}(h:bJ t=A)(h1:bw t=A∨bD w (ah t)=A):iD w s t=none:=by rw[iD,if_neg (by rw[h];simp),if_neg (by rcases h1 with h1 | h1<;>rw[h1]<;>simp)]
end
theorem Om {x:Nd}(h:x.k5)(p:List UInt8)(i:Nat):(fc x p i).length<=p.length+13:=by have:=h.p;unfold fc cat;split<;>simp<;>omega
theorem Nt {l:List (List UInt8×List UInt8)}{k v:List UInt8}{c:Nat}{ty:TypeId}:aa (.rows C (l.length+1) [.str λj=>if j<l.length then(l.getD j ([],[])).1 else bP [k] (j - l.length),.str λj=>if j<l.length then(l.getD j ([],[])).2 else bP [v] (j - l.length)] A (c*2) ty) (.rows C (l++[(k,v)]).length [bK (l++[(k,v)]),bL (l++[(k,v)])] A (c*2) ty):=by
 refine gZ (by simp) rfl rfl λq c c' h1 h2 i hi E=> ?_;have e:=rA l (k,v) ([],[]) i hi;have hz: ¬ i<l.length->i - l.length=0:=by omega
 match q,h1,h2 with
 | 0,h1,h2 =>
   simp only[Z,an] at h1 h2;subst h1;subst h2;simp only[bK,aq.at,SV.val,e];by_cases h:i<l.length
   ·rw[if_pos h,if_pos h]
   ·rw[if_neg h,if_neg h,hz h];rfl
 | 1,h1,h2 =>
   simp only[List.getElem?_cons_succ,Z,an] at h1 h2;subst h1;subst h2;simp only[bL,aq.at,SV.val,e];by_cases h:i<l.length
   ·rw[if_pos h,if_pos h]
   ·rw[if_neg h,if_neg h,hz h];rfl
 | q+2,h1,h2=>simp at h1
section
variable {w : Sp} {m : Nat} {s s' : Wk} {x : Nd} {p : List UInt8}
theorem Ol (hl: ¬ 400<=s.lk)(h:bX w (kg w m) x p 16 (s.iS w x p)=G s'):cY w (m+1) s x p=C/\bp w (m+1) s x p=s':=by
 have:kg w (m+1) s x p=G s':=by rw[kg,if_neg hl,h]
 exact⟨by rw[cY,this];rfl,by rw[bp,this]⟩
theorem Oj (hl: ¬ 400<=s.lk)(h:bX w (kg w m) x p 16 (s.iS w x p)=D):cY w (m+1) s x p=false:=by rw[cY,kg,if_neg hl,h];rfl
theorem GH (h:cY w m s x p=C):kg w m s x p=G (bp w m s x p):=by
 unfold cY at h;unfold bp;cases hx:kg w m s x p with
 | none=>rw[hx] at h;cases h
 | some s'=>rfl
theorem yA (h:cY w m s x p=A):kg w m s x p=none:=by
 unfold cY at h;cases hx:kg w m s x p with
 | none=>rfl
 | some s'=>rw[hx] at h;cases h
theorem HJ {a b:List UInt8}{ty:TypeId}:aa (SB.cells [SV.str C a,SV.str C b] 2 ty) (SB.cells [SV.str A (a,b).1,SV.str A (a,b).2] 2 ty):=aa.cells (λ_=>rfl) rfl
theorem HI {a b:List UInt8}{ty:TypeId}:aa (SB.cells [SV.str A a,SV.str A b] 2 ty) (SB.cells [SV.str A (a,b).1,SV.str A (a,b).2] 2 ty):=aa.refl _
theorem UY (h:x.k=3)(i:Nat)(hi:i<16):cat (cat p x.p) [UInt8.ofNat ((i:Int)% 256).toNat]=fc x p i:=by rw[fc,if_pos h,show((i:Int)% 256).toNat=i by omega]
end
section
attribute [local irreducible] bg getD bJ bw ah bD bN hasB kC ak aX fc kg cY bp bX Wk.used
set_option maxHeartbeats 4000000 in
theorem Dg {m:Nat}{x:yN×Nd×List UInt8}(hx:(JT (m+1)).pre x):aB (runM (RX m x.1 x.2.1 x.2.2) 84 O (JT (m+1)) x):=by
 refine aB.of_eq (J6 m x) ?_;obtain⟨⟨w,s,c1,c2⟩,y,p⟩:=x;obtain⟨hw,_,⟨hc1,hc2⟩,hf,hm,hy,hp⟩:=hx;dsimp only at hw hc1 hc2 hf hm hy hp ⊢;have hm:401<=s.lk+(m+1):=hm;have hyp:=hy.p;have hcat:(cat p y.p).length=p.length+y.p.length:=by unfold cat;simp
 have hlk:=hf.lk;have hfs:=hf.fs;have hns:=hf.ns;by_cases hl:400<=s.lk
 ·have hB:cY w (m+1) s y p=false:=by unfold cY kg;rw[if_pos hl];rfl
  rw[hB,decide_eq_true (show(400:Int)<=(s.lk:Int)by omega)];exact⟨λ_=>⟨(λh=>by cases h),λ_=>⟨(_,_),rfl,HJ,trivial⟩⟩,(λh=>by cases h)⟩
 refine⟨λh=>absurd (of_decide_eq_true h) (by omega),λ_=>⟨⟨by omega,by omega⟩,⟨by omega,?_⟩,?_⟩⟩
 ·
  have no:eE w y p=A->(s.iS w y p).fs=s.fs:=λh=>by show(if eE w y p=C then _ else _)=_;rw[h];rfl
  have yes:eE w y p=C->(s.iS w y p).fs=s.fs++[(aX (cat p y.p),y.v)]:=λh=>by show(if eE w y p=C then _ else _)=_;rw[h];rfl
  have eb:eE w y p=(!decide (y.v=[])&&(hasB w.fr w.to (cat p y.p)&&kC (cat p y.p))):=rfl;have le0:eE w y p=A->aa (SB.rows C s.fs.length [bK s.fs,bL s.fs] A (c2*2) 50) (dm (s.iS w y p) c2):=λh=>by unfold dm;rw[no h];exact aa.refl _
  have le1:eE w y p=C->∀ c,aa (SB.rows C (s.fs.length+1) [.str λj=>if j<s.fs.length then(s.fs.getD j ([],[])).1 else bP [aX (cat p y.p)] (j - s.fs.length),.str λj=>if j<s.fs.length then(s.fs.getD j ([],[])).2 else bP [y.v] (j - s.fs.length)] A (c*2) 50) (dm (s.iS w y p) c):=λh c=>by unfold dm;rw[yes h];exact Nt
  have wfr:=hw.fr;have wto:=hw.to;refine⟨λhv=>⟨⟨wfr,wto⟩,λhh=>⟨by omega,λhk=> ?_,λhk=> ?_⟩,λhh=> ?_⟩,λhv=> ?_⟩
  ·rw[hv,hh,hk] at eb;have l1:=le1 eb;refine⟨rfl,rfl,rfl,⟨⟨by omega,trivial,by omega,by omega⟩,rfl,λc hc=>⟨rfl,⟨c,?_⟩⟩⟩⟩;rw[if_pos (show eE w y p=C from eb),P]
   have l1:=l1 c
   repeat' first
    | exact l1
    | exact aa.refl _
    | refine J ?_ ?_
    | rfl
    | assumption
    | omega
    | exact trivial
    | fail
  all_goals
   first
    | rw[hv,hh,hk] at eb
    | rw[hv,hh] at eb
    | rw[hv] at eb
   have l0:=le0 (eb.trans (by first | rfl | simp))
   have e0:eE w y p=false:=eb.trans (by first | rfl | simp)
   refine⟨c2,?_⟩;rw[e0];simp only[L,if_false]
   repeat' first
    | exact l0
    | exact aa.refl _
    | refine J ?_ ?_
    | rfl
    | assumption
    | omega
    | exact trivial
    | fail
 ·intro c2' hc2' R;refine⟨⟨(0,s.iS w y p,c1,c2'),⟨⟨Nat.zero_le _,by unfold bX;rfl,hc1,hc2'⟩,?_⟩⟩,λz hz=> ?_⟩
  ·repeat' first
    | exact aa.refl _
    | refine J ?_ ?_
    | rfl
    | assumption
    | omega
    | exact trivial
    | fail
  obtain⟨i,si,d1,d2⟩:=z;obtain⟨hi16,hi,hd1,hd2⟩:=hz;dsimp only at hi16 hi hd1 hd2 ⊢;obtain⟨fi,hlki⟩:=pK (Al w m) (hf.iS (by omega) w y p) hi;have hlki:s.lk+1<=si.lk:=hlki;have fil:=fi.lk;simp only[-eq_self,Int.toNat_natCast];refine⟨λhlt=> ?_,λhlt=> ?_⟩
  ·have hlt:i<16:=by have:=of_decide_eq_true hlt;omega
   simp only[-eq_self,zn y.r hlt];have bad:bX w (kg w m) y p (i+1) (s.iS w y p)=D->∀(a b:List UInt8),(cY w (m+1) s y p=C->∃(q:Nat×Nat),((bp w (m+1) s y p).ns.length<=q.1/\(bp w (m+1) s y p).fs.length<=q.2)/\False)/\(cY w (m+1) s y p=A->∃(q:List UInt8×List UInt8),(0:Nat)=0/\aa (SB.cells [SV.str A a,SV.str A b] 2 207) (SB.cells [SV.str A q.1,SV.str A q.2] 2 207)/\True):=λh a b=>by have hB:=Oj hl (rj (by omega:i+1<=16) h);rw[hB];exact⟨(λh=>by cases h),λ_=>⟨(a,b),rfl,HI,trivial⟩⟩
   refine⟨⟨by omega,by omega,by omega⟩,λh0=>⟨⟨by omega,by omega⟩,(i+1,si,d1,d2),⟨⟨⟨by show i+1<=16;omega,(dV hi).trans (j8 (of_decide_eq_true h0)),hd1,hd2⟩,by show 16 - (i+1)<16 - i;omega⟩,?_⟩⟩,λh0=> ?_⟩
   ·repeat' first
     | exact aa.refl _
     | refine J ?_ ?_
     | rfl
     | assumption
     | omega
     | exact trivial
     | fail
   have h0:=of_decide_eq_false h0;have htl:=Om hy p i;refine⟨by omega,⟨λh3=>⟨by omega,(),trivial,UY (of_decide_eq_true h3) i hlt,?_⟩,λh3=>⟨(),trivial,by unfold fc;rw[if_neg (of_decide_eq_false h3)],?_⟩⟩,λ_ _=>⟨⟨hw.fr,hw.to⟩,λhM=>⟨rfl,?_⟩,λhM=>⟨⟨by omega,by omega⟩,(i+1,si,d1,d2),⟨⟨⟨by show i+1<=16;omega,(dV hi).trans (ri hM),hd1,hd2⟩,by show 16 - (i+1)<16 - i;omega⟩,?_⟩⟩⟩⟩
   ·repeat' first
     | exact aa.refl _
     | refine J ?_ ?_
     | rfl
     | assumption
     | omega
     | exact trivial
     | fail
   ·repeat' first
     | exact aa.refl _
     | refine J ?_ ?_
     | rfl
     | assumption
     | omega
     | exact trivial
     | fail
   rotate_left
   ·repeat' first
     | exact aa.refl _
     | refine J ?_ ?_
     | rfl
     | assumption
     | omega
     | exact trivial
     | fail
   have hrl:(y.r i).length<9223372036854775808:=by
    rcases hy.r i hlt with e | e
    ·exact absurd e h0
    ·have:=sC e;omega
   have go: ∀ {yy:Nd} {s2:Wk},iD w si (y.r i)=G (yy,s2)->s2.Fit (s2.lk+1)/\(401<=s2.lk+m)/\yy.k5/\(fc y p i).length<=13*s2.lk/\s2.Small:=λh=>by obtain⟨q1,q2,q3⟩:=yh fi h;exact⟨by rw[q2];exact q1,by omega,gS q3,by omega,q1.small (by omega)⟩
   have on: ∀ {yy:Nd} {s2:Wk},iD w si (y.r i)=G (yy,s2)->cY w m s2 yy (fc y p i)=C->bX w (kg w m) y p (i+1) (s.iS w y p)=G (bp w m s2 yy (fc y p i)):=λh hb=>by rw[dV hi,gL h0 hM h,GH hb]
   have off: ∀ {yy:Nd} {s2:Wk},iD w si (y.r i)=G (yy,s2)->cY w m s2 yy (fc y p i)=A->bX w (kg w m) y p (i+1) (s.iS w y p)=none:=λh hb=>by rw[dV hi,gL h0 hM h,yA hb]
   refine⟨(⟨w,si,d1,d2⟩,y.r i),⟨hw,fi.small (by omega),⟨hd1,hd2⟩,hrl⟩,?_⟩;dsimp only;have inn:bJ (y.r i)=C->iD w si (y.r i)=G (getD (y.r i),si):=wj;have inh:bJ (y.r i)=A->bw (y.r i)=C->bD w (ah (y.r i))=C->iD w si (y.r i)=G (getD (w.at (ah (y.r i))),si.take w (ah (y.r i))):=pT;have inb:bJ (y.r i)=A->(bw (y.r i)=A∨bD w (ah (y.r i))=A)->bX w (kg w m) y p (i+1) (s.iS w y p)=none:=λh1 h2=>by rw[dV hi,pJ h0 hM (Ct h1 h2)]
   have hsuc:i+1<=16:=by omega
   have hmea:16 - (i+1)<16 - i:=by omega
   refine⟨rfl,rfl,rfl,rfl,rfl,rfl,rfl,⟨rfl,rfl,rfl⟩,trivial,rfl,⟨rfl,rfl,rfl⟩,trivial,aa.refl _,aa.refl _,aa.refl _,rfl,aa.refl _,rfl,⟨rfl,rfl,rfl,rfl,rfl⟩,aa.refl _,λh1 e he=> ?_,λh1=>⟨λh2=>⟨λh3 e he=> ?_,λh3 yy=>bad (inb h1 (.inr h3)) _ _⟩,λh2 yy=>bad (inb h1 (.inl h2)) _ _⟩⟩
   ·have hfol:=inn h1;obtain⟨g1,g2,g3,g4,g5⟩:=go hfol;refine⟨(⟨w,si,e.1,e.2⟩,getD (y.r i),fc y p i),⟨hw,g5,he,g1,g2,g3,g4⟩,?_⟩;dsimp only;have on:=on hfol;have off:=off hfol
    repeat' first
     | exact λhb yy=>bad (off hb) _ _
     | refine λhb q hq=>⟨⟨by omega,by omega⟩,(i+1,bp w m si (getD (y.r i)) (fc y p i),q.1,q.2),⟨⟨hsuc,on hb,hq.1,hq.2⟩,hmea⟩,?_⟩
     | exact aa.refl _
     | refine J ?_ ?_
     | rfl
     | assumption
     | omega
     | exact trivial
     | fail
   ·have hfol:=inh h1 h2 h3;obtain⟨g1,g2,g3,g4,g5⟩:=go hfol;refine⟨(⟨w,si.take w (ah (y.r i)),e.1,e.2⟩,getD (w.at (ah (y.r i))),fc y p i),⟨hw,g5,he,g1,g2,g3,g4⟩,?_⟩;dsimp only;have on:=on hfol;have off:=off hfol
    repeat' first
     | exact λhb yy=>bad (off hb) _ _
     | refine λhb q hq=>⟨⟨by omega,by omega⟩,(i+1,bp w m (si.take w (ah (y.r i))) (getD (w.at (ah (y.r i)))) (fc y p i),q.1,q.2),⟨⟨hsuc,on hb,hq.1,hq.2⟩,hmea⟩,?_⟩
     | exact aa.refl _
     | refine J ?_ ?_
     | rfl
     | assumption
     | omega
     | exact trivial
     | fail
  ·have e16:i=16:=by have:=of_decide_eq_false hlt;omega
   subst e16;obtain⟨k1,k2⟩:=Ol hl hi;rw[k1,k2];refine⟨λ_=>⟨(d1,d2),⟨hd1,hd2⟩,?_⟩,(λh=>by cases h)⟩
   repeat' first
    | exact aa.refl _
    | refine J ?_ ?_
    | rfl
    | assumption
    | omega
    | exact trivial
    | fail
end
end Go.Proofs.YtoibaecagklkaaaGreatDoor
namespace Go.Proofs.YtoibaecagklkaaaGreatDoor
open Go Sx
set_option maxRecDepth 20000
theorem D3 {m:Nat}(h:az K 84 (cD (JT m))):bn K (λf=>aE f (FX m)):=.cons h (cc _) (.cons JA (cc _) xQ)
theorem Oi: ∀ m,az K 84 (cD (JT m))
 | 0=>gx (n:=20) (fn:=O) a! (by kernel_rfl) (by kernel_rfl) (JT 0) λx hx=>by obtain⟨_,_,_,hf,hm,_⟩:=hx;have:=hf.lk;omega
 | m+1=>gx (n:=20) (fn:=O) a! (by kernel_rfl) (by kernel_rfl) (JT (m+1)) λx hx=>⟨RX m x.1 x.2.1 x.2.2,.of bR (D3 (Oi m)) bl,rfl,Dg hx⟩
theorem Pn (m:Nat):bn K (λf=>aE f (FX m)):=D3 (Oi m)
end Go.Proofs.YtoibaecagklkaaaGreatDoor
