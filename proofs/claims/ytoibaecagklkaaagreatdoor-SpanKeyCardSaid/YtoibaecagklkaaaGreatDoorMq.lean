/-
  Span: Has, Meets, Key, take: the contracts.
-/
import Derived.Test.YtoibaecagklkaaaGreatDoorMp
open Bool renaming and_eq_true->N,and_false->dV,false->C,false_and->bW,false_eq_true->R,not_eq_true'->d_,not_false->d!,not_true->ec,or_eq_false_iff->ef,or_eq_true->L,true->A,true_eq_false->Y
open Go.IntKind renaming i64->G
open Go.Op renaming bytesLess->D
open Go.Proofs.Tryz renaming f130->ei,f132->b7,f42->ej,f43->ek,f83->en,prog->O
open Int renaming eq_ofNat_of_zero_le->ep,toNat_natCast->ax
open List renaming append_assoc->er,append_nil->P,cons_append->b_,drop_succ_cons->eA,filter_congr->b!,filter_cons_of_neg->V,filter_cons_of_pos->W,filter_eq_nil_iff->cl,flatMap_cons->M,flatMap_map->eB,getD_eq_getElem?_getD->ct,getElem?_eq_getElem->cx,getElem?_eq_none->eC,getElem?_map->eL,getElem?_range->eM,getLastD_cons->eN,length->eP,length_append->cy,length_cons->aO,length_take->cR,map_cons->c4,mem_cons->Q,mem_cons_of_mem->aP,mem_cons_self->K,mem_filter->X,mem_map->c5,mem_range->c_,not_mem_nil->Z,pairwise_cons->a_,range->J,range_succ_eq_map->eR,take_append_drop->eT,take_succ_cons->a!
open Option renaming map_some->eW,none->F,some->I
open UInt8 renaming le_antisymm->e3,lt_irrefl->bf,not_lt->c!,ofNat->H,ofNat_toNat->dG,toNat_ofNat'->an
namespace Go.Proofs.YtoibaecagklkaaaGreatDoor
open Go Sx
variable {b p q:List UInt8}{m:Nat}{x:Nd}{ty:TypeId}
section
open Go Sx
set_option maxRecDepth 20000
theorem sQ {l l' a b:Bool}(h:a=b):af (.bool l a) (.bool l' b):=by subst h;exact λ_=>rfl
theorem acG {b:Bool}(h:(!b)=C):b=true:=by cases b with
 | true=>rfl
 | false=>cases h
theorem acH {b:Bool}(h:(!b)=A):b=false:=by cases b with
 | false=>rfl
 | true=>cases h
theorem Pq (fr to p:List UInt8)(h1:fr.length<=1000)(h2:to.length<=1000):az (gG nY 43 ek [.agg [.str C fr,.str C to],.str C p] (.ret (.bool C (hasB fr to p)))):=by
 refine az.of_eq (YA fr to p) ⟨by omega,λh=>⟨by omega,sQ ?_⟩,λh=>sQ ?_⟩
 ·rw[hasB,h];rfl
 ·rw[hasB,h];rfl
theorem IQ (fr to p:List UInt8)(h1:fr.length<=1000)(h2:to.length<=1000):az (gG nY 42 ej [.agg [.str C fr,.str C to],.str C p] (.ret (.bool C (bK fr to p)))):=by
 refine az.of_eq (Rn fr to p) ⟨by omega,λh=>sQ ?_,λh=>⟨by omega,λg=>sQ ?_,λg=>⟨λl=>⟨⟨by omega,by omega,of_decide_eq_true l⟩,sQ ?_⟩,λl=>sQ ?_⟩⟩⟩
 ·have h:(D p (aj to)||decide (p=aj to))=false:=acH h;rw[bK,h];rfl
 all_goals
  have h:(D p (aj to)||decide (p=aj to))=true:=acG h;rw[bK,h,g]
 ·rfl
 ·have l:decide (p.length<=(aj fr).length)=true:=decide_eq_true (by have:=of_decide_eq_true l;omega);rw[preB,l];rfl
 ·have l:decide (p.length<=(aj fr).length)=false:=decide_eq_false (by have:=of_decide_eq_false l;omega);rw[preB,l];rfl
theorem L1 (p:List UInt8)(hp:p.length<1099511627776):az (gG nY 130 ei [.str C p] (Ux p)):=by
 refine az.of_eq (YB p) ?_;have S: ∀ v:SV,af v v:=λ_ _=>rfl;have e:k8 p=(decide ((p.length:Int)% 2=0)&&ij p):=rfl;cases h1:decide ((p.length:Int)% 2=0)<;>cases h2:ij p
 all_goals
  rw[h1,h2] at e;simp only[e,ec,d!,Bool.true_and,bW,R,Y,false_imp_iff,forall_const,true_and,and_true,S];omega
theorem Tq:av O 43 (bh zS):=by
 refine eX (dW (n:=20) (fn:=ek) Tryz.func43 (by kernel_rfl) (by kernel_rfl) ?_);intro args p a h hp;unfold zS at h;split at h
 ·injection h with h;injection h with h1 h2;subst h1;subst h2;exact⟨_,A4,rfl,rfl,Pq _ _ _ hp.1 hp.2⟩
 ·cases h
theorem IS:av O 42 (bh sG):=by
 refine eX (dW (n:=20) (fn:=ej) Tryz.func42 (by kernel_rfl) (by kernel_rfl) ?_);intro args p a h hp;unfold sG at h;split at h
 ·injection h with h;injection h with h1 h2;subst h1;subst h2;exact⟨_,A4,rfl,rfl,IQ _ _ _ hp.1 hp.2⟩
 ·cases h
theorem N5:av O 130 (cw vK):=by
 refine dW (n:=20) (fn:=ei) Tryz.func130 (by kernel_rfl) (by kernel_rfl) ?_;intro args p a h hp;unfold vK at h;split at h
 ·injection h with h;injection h with h1 h2;subst h1;subst h2;exact⟨_,A4,rfl,λb=>by cases b<;>exact rfl,L1 _ hp⟩
 ·cases h
theorem kg {z:Bool}{n n':Nat}{cs cs':List ak}{tot tot':Nat}(hn:n=n')(ht:tot=tot')(hl:cs.length=cs'.length)
  (h: ∀(k:Nat) (c c':ak),cs[k]?=I c->cs'[k]?=I c'->∀ i,i<n->∀ E,(c'.at i).val E=(c.at i).val E):aa (.rows z n cs C tot ty) (.rows z n' cs' C tot' ty):=by
 subst hn;subst ht;refine aa.of rfl rfl λhno=>⟨hno,λE o ⟨c,fr,h1,h2,h3,h4,h5⟩=>⟨c,fr,h1,h2,by rw[← hl];exact h3,h4,λi k col hi hk=> ?_⟩,id⟩
 have hk0:k<cs.length:=by rw[hl];exact(List.getElem?_eq_some_iff.1 hk).1
 rw[h k _ col (cx hk0) hk i hi E,← hl];exact h5 i k _ hi (cx hk0)
theorem rF {α:Type}(l:List α)(x d:α)(i:Nat)(h:i<l.length+1):(l++[x]).getD i d=if i<l.length then l.getD i d else [x].getD (i - l.length) d:=by
 simp only[ct];by_cases h1:i<l.length
 ·rw[if_pos h1,List.getElem?_append_left h1]
 ·rw[if_neg h1,List.getElem?_append_right (by omega)]
theorem N9 {l:List (List UInt8)}{x:List UInt8}{c:Nat}:aa (.rows A (l.length+1) [.str λj=>if j<l.length then l.getD j [] else bT [x] (j - l.length)] C (c*1) ty) (.rows A (l++[x]).length [jc (l++[x])] C (c*1) ty):=by
 refine kg (by simp) rfl rfl λk c c' h1 h2 i hi E=> ?_;cases k with
 | zero =>simp only[List.getElem?_cons_zero,Option.some.injEq] at h1 h2;subst h1;subst h2;simp only[jc,ak.at,SV.val,rF l x [] i hi];rfl
 | succ k=>simp at h1
theorem m4 {a:List UInt8}:aa (SB.cells [SV.str A a,SV.str C b] 2 ty) (SB.cells [SV.str C (a,b).1,SV.str C (a,b).2] 2 ty):=aa.cells (λ_=>rfl) rfl
theorem Wv.zero (E:Nat->Nat):SV.val E (SV.agg [SV.int .i64 A 0,SV.str A [],SV.str A [],SV.str A [],SV.str A [],SV.str A [],SV.str A [],SV.str A [],SV.str A [],SV.str A [],SV.str A [],SV.str A [],SV.str A [],SV.str A [],SV.str A [],SV.str A [],SV.str A [],SV.str A [],SV.str A []])=SV.val E cW:=rfl
section
attribute [local irreducible] aY getD
theorem GS {x:yK×List UInt8}(hw:x.1.w.Ok)(hs:x.1.s.Small)(hc:x.1.s.ns.length<=x.1.c1/\x.1.s.fs.length<=x.1.c2):az (runM nY 83 en wk x):=by
 refine az.of_eq (VZ x) ?_;obtain⟨⟨w,s,c1,c2⟩,t⟩:=x;dsimp only at hw hs hc ⊢;have hu:=hs.u t;have hn:=hs.ns;have eu:dflt (s.ud t) (s.us t)=s.used t:=rfl;have el:bJ w t=(w.ad t&&aY (w.f (w.ag t).toNat)):=rfl;have ea:w.at t=w.f (w.ag t).toNat:=rfl;obtain⟨hc1,hc2⟩:=hc;have ez:=Wv.zero;simp only[eu,Nat.zero_add];cases hA:w.ad t with
 | false =>rw[hA] at el;simp only[el,bW,d!,R,Y,false_imp_iff,forall_const,true_and,and_true];exact⟨(_,_),ez,m4⟩
 | true =>
   obtain⟨b1,b2⟩:=hw.a t hA;have hf:=hw.f (w.ag t).toNat (by omega);rw[hA] at el;have ed:dflt A (w.ag t)=w.ag t:=rfl;simp only[ed,ec,R,false_imp_iff,forall_const,true_and];refine⟨⟨b1,b2⟩,by omega,⟨by omega,by omega⟩,λhB=> ?_,λhB=> ?_⟩
   ·rw[hB] at el;simp only[el,Bool.and_self,Y,false_imp_iff,forall_const,and_true];refine⟨λh0=>⟨⟨Nat.le_refl _,by omega,by omega⟩,λc hcc=>⟨by omega,?_⟩⟩,λh0=>⟨by omega,?_⟩⟩
    ·have h0:=of_decide_eq_true h0;rw[if_pos h0,cy];have h1:(Wk.take w s t).ns=s.ns++[w.f (w.ag t).toNat]:=by show(if s.used t=0 then _ else _)=_;rw[if_pos h0];rfl
     have hns:aa (.rows A (s.ns.length+1) [.str λj=>if j<s.ns.length then s.ns.getD j [] else bT [w.f (w.ag t).toNat] (j - s.ns.length)] C (c*1) 9) (dU (Wk.take w s t) c):=by unfold dU;rw[h1];exact N9
     have hl:s.ns.length+[w.at t].length<=c:=hcc;refine⟨(c,c2),?_⟩
     repeat' first
      | assumption
      | exact m4
      | exact aa.refl _
      | refine And.intro ?_ ?_
      | exact λ_=>rfl
      | rfl
      | omega
      | exact trivial
      | fail
    ·have h0:=of_decide_eq_false h0;rw[if_neg h0];have h1:(Wk.take w s t).ns=s.ns:=by show(if s.used t=0 then _ else _)=_;rw[if_neg h0]
     have hns:aa (.rows A s.ns.length [jc s.ns] C (c1*1) 9) (dU (Wk.take w s t) c1):=by unfold dU;rw[h1];exact aa.refl _
     refine⟨(c1,c2),?_⟩
     repeat' first
      | assumption
      | exact m4
      | exact aa.refl _
      | refine And.intro ?_ ?_
      | exact λ_=>rfl
      | rfl
      | omega
      | exact trivial
      | fail
   ·rw[hB] at el;simp only[el,dV,R,false_imp_iff,forall_const,true_and];exact⟨(_,_),ez,m4,trivial⟩
end
theorem QO:av O 83 (cF wk) :=fH (n:=20) (fn:=en) Tryz.func83 (by kernel_rfl) (by kernel_rfl) wk λx hx=>⟨nY,A4,rfl,GS hx.1 hx.2.1 hx.2.2.1⟩
noncomputable def Gb:List (FuncId×PT):=(83,cF wk)::(43,bh zS)::(42,bh sG)::(130,cw vK)::fY
theorem xN:bt O (λf=>aD f Gb):=.cons QO (cc _) (.cons Tq (aS _) (.cons IS (aS _) (.cons N5 (b6 _) cZ)))
noncomputable def Nq:fQ:={cv with cQ:=λf=>aD f Gb}
theorem aaL:Sx.Good O Nq:=.of bX xN bw
end
section
open Go Sx
set_option maxRecDepth 20000
theorem MX (x:yK×List UInt8):VC.holds (runM Nq 132 b7 oH x)=((λP0:SV=>((λP1:SB=>((Rel 9223372036854775808 x.2/\(bp x.2=A->(bp x.2=A->∃(u32:Nat×Nat),(x.1.s.ns.length<=u32.1/\x.1.s.fs.length<=u32.2)/\(∀(u31:Nat->Nat),SV.val u31 (SV.agg (aU (getD x.2)))=SV.val u31 (getD x.2).sv)/\(7:Nat)=(7:Nat)/\x.1.w.fr=x.1.w.fr/\x.1.w.to=x.1.w.to/\(0:Nat)=(0:Nat)/\(0:Nat)=(0:Nat)/\((0:Nat)=(0:Nat)/\x.1.s.ns.length=x.1.s.ns.length/\x.1.c1=u32.1)/\True/\(x.1.s.lk:Int)=(x.1.s.lk:Int)/\((0:Nat)=(0:Nat)/\x.1.s.fs.length=x.1.s.fs.length/\x.1.c2=u32.2)/\True/\aa (eU x.1.s) (eU x.1.s)/\aa (SB.rows A x.1.s.ns.length [jc x.1.s.ns] C (x.1.c1*1) 9) (dU x.1.s u32.1)/\aa (SB.rows A x.1.s.fs.length [bY x.1.s.fs,bZ x.1.s.fs] C (x.1.c2*2) 50) (dy x.1.s u32.2)/\aa (SB.cells [SV.map 5] 1 90) (SB.cells [SV.map 5] 1 90)/\aa (SB.fmap x.1.w.ad (aC.int G x.1.w.ag) F) (SB.fmap x.1.w.ad (aC.int G x.1.w.ag) F)/\aa P1 P1/\True)/\(bp x.2=C->(aQ x.2=A->(bJ x.1.w (ai x.2)=A ->∃(u30:Nat×Nat),((if x.1.s.used (ai x.2)=0 then x.1.s.ns++[x.1.w.at (ai x.2)] else x.1.s.ns).length<=u30.1/\x.1.s.fs.length<=u30.2)/\(∀(u29:Nat->Nat),SV.val u29 (SV.agg (aU (getD x.2)))=SV.val u29 (getD (x.1.w.at (ai x.2))).sv)/\(7:Nat)=(7:Nat)/\x.1.w.fr=x.1.w.fr/\x.1.w.to=x.1.w.to/\(0:Nat)=(0:Nat)/\(0:Nat)=(0:Nat)/\((0:Nat)=(0:Nat)/\x.1.s.ns.length=(if x.1.s.used (ai x.2)=0 then x.1.s.ns++[x.1.w.at (ai x.2)] else x.1.s.ns).length/\x.1.c1=u30.1)/\True/\(x.1.s.lk:Int)=(x.1.s.lk:Int)/\((0:Nat)=(0:Nat)/\x.1.s.fs.length=x.1.s.fs.length/\x.1.c2=u30.2)/\True/\aa (SB.fmap x.1.s.ud (aC.int G x.1.s.us) F) (eU (Wk.take x.1.w x.1.s (ai x.2)))/\aa (SB.rows A x.1.s.ns.length [jc x.1.s.ns] C (x.1.c1*1) 9) (dU (Wk.take x.1.w x.1.s (ai x.2)) u30.1)/\aa (SB.rows A x.1.s.fs.length [bY x.1.s.fs,bZ x.1.s.fs] C (x.1.c2*2) 50) (dy (Wk.take x.1.w x.1.s (ai x.2)) u30.2)/\aa (SB.cells [SV.map 5] 1 90) (SB.cells [SV.map 5] 1 90) /\aa (SB.fmap x.1.w.ad (aC.int G x.1.w.ag) F) (SB.fmap x.1.w.ad (aC.int G x.1.w.ag) F)/\aa P1 P1/\True)/\(bJ x.1.w (ai x.2)=C->∃(_:List UInt8×List UInt8),False))/\(aQ x.2=C->∃(_:List UInt8×List UInt8),False)))/\(bp x.2=C->x.2.length<9223372036854775808/\(aQ x.2=A->∃(u26:yK×List UInt8),(u26.1.w.Ok/\u26.1.s.Small/\(u26.1.s.ns.length<=u26.1.c1/\u26.1.s.fs.length<=u26.1.c2)/\True)/\(0:Nat)=(0:Nat)/\ai x.2=u26.2/\(7:Nat)=(7:Nat)/\x.1.w.fr=u26.1.w.fr/\x.1.w.to=u26.1.w.to/\(0:Nat)=(0:Nat)/\(0:Nat)=(0:Nat)/\((0:Nat)=(0:Nat)/\x.1.s.ns.length=u26.1.s.ns.length/\x.1.c1=u26.1.c1)/\True/\(x.1.s.lk:Int)=(u26.1.s.lk:Int)/\((0:Nat)=(0:Nat)/\x.1.s.fs.length=u26.1.s.fs.length/\x.1.c2=u26.1.c2)/\True/\aa (SB.fmap x.1.s.ud (aC.int G x.1.s.us) F) (eU u26.1.s)/\aa (SB.rows A x.1.s.ns.length [jc x.1.s.ns] C (x.1.c1*1) 9) (dU u26.1.s u26.1.c1) /\aa (SB.rows A x.1.s.fs.length [bY x.1.s.fs,bZ x.1.s.fs] C (x.1.c2*2) 50) (dy u26.1.s u26.1.c2)/\(1:Nat)=(1:Nat)/\aa (SB.fmap x.1.w.ad (aC.int G x.1.w.ag) F) (SB.fmap u26.1.w.ad (aC.int G u26.1.w.ag) F)/\(1:Nat)=(1:Nat)/\(x.1.w.z=u26.1.w.z/\x.1.w.o=u26.1.w.o/\(0:Nat)=(0:Nat)/\x.1.w.n=u26.1.w.n/\x.1.w.c=u26.1.w.c)/\aa (SB.view x.1.w.z x.1.w.o x.1.w.n [ak.str x.1.w.f]) (SB.view u26.1.w.z u26.1.w.o u26.1.w.n [ak.str u26.1.w.f])/\(bJ u26.1.w u26.2=A->∀(u25:Nat×Nat),(if u26.1.s.used u26.2=0 then u26.1.s.ns++[u26.1.w.at u26.2] else u26.1.s.ns).length<=u25.1/\u26.1.s.fs.length<=u25.2->(bp x.2=A->∃(u24:Nat×Nat),(x.1.s.ns.length<=u24.1/\x.1.s.fs.length<=u24.2)/\(∀(u23:Nat->Nat),SV.val u23 (SV.agg (aU (getD (u26.1.w.at u26.2))))=SV.val u23 (getD x.2).sv)/\(7:Nat)=(7:Nat)/\u26.1.w.fr=x.1.w.fr/\u26.1.w.to=x.1.w.to/\(0:Nat)=(0:Nat)/\(0:Nat)=(0:Nat)/\((0:Nat)=(0:Nat) /\(if u26.1.s.used u26.2=0 then u26.1.s.ns++[u26.1.w.at u26.2] else u26.1.s.ns).length=x.1.s.ns.length/\u25.1=u24.1)/\True/\(u26.1.s.lk:Int)=(x.1.s.lk:Int)/\((0:Nat)=(0:Nat)/\u26.1.s.fs.length=x.1.s.fs.length/\u25.2=u24.2)/\True/\aa (SB.fmap (dN u26.1.s.ud u26.2) (aC.int G (fK u26.1.s.us u26.2 (u26.1.s.used u26.2+1))) F) (eU x.1.s)/\aa (SB.rows A (if u26.1.s.used u26.2=0 then u26.1.s.ns++[u26.1.w.at u26.2] else u26.1.s.ns).length [ak.str λu22=>(if u26.1.s.used u26.2=0 then u26.1.s.ns++[u26.1.w.at u26.2] else u26.1.s.ns).getD u22 []] C (u25.1*1) 9) (dU x.1.s u24.1)/\aa (SB.rows A u26.1.s.fs.length [ak.str λu21=>(u26.1.s.fs.getD u21 ([],[])).1,ak.str λu20=>(u26.1.s.fs.getD u20 ([],[])).2] C (u25.2*2) 50) (dy x.1.s u24.2)/\aa (SB.cells [SV.map 5] 1 90) (SB.cells [SV.map 5] 1 90)/\aa (SB.fmap u26.1.w.ad (aC.int G u26.1.w.ag) F) (SB.fmap x.1.w.ad (aC.int G x.1.w.ag) F) /\aa (SB.cells [SV.bH 7 1 u26.1.w.z u26.1.w.o 0 u26.1.w.n u26.1.w.c] 1 29) P1/\True)/\(bp x.2=C->(aQ x.2=A->(bJ x.1.w (ai x.2)=A->∃(u19:Nat×Nat),((if x.1.s.used (ai x.2)=0 then x.1.s.ns++[x.1.w.at (ai x.2)] else x.1.s.ns).length<=u19.1/\x.1.s.fs.length<=u19.2)/\(∀(u18:Nat->Nat),SV.val u18 (SV.agg (aU (getD (u26.1.w.at u26.2))))=SV.val u18 (getD (x.1.w.at (ai x.2))).sv)/\(7:Nat)=(7:Nat)/\u26.1.w.fr=x.1.w.fr/\u26.1.w.to=x.1.w.to/\(0:Nat)=(0:Nat)/\(0:Nat)=(0:Nat)/\((0:Nat)=(0:Nat)/\(if u26.1.s.used u26.2=0 then u26.1.s.ns++[u26.1.w.at u26.2] else u26.1.s.ns).length=(if x.1.s.used (ai x.2)=0 then x.1.s.ns++[x.1.w.at (ai x.2)] else x.1.s.ns).length/\u25.1=u19.1)/\True/\(u26.1.s.lk:Int)=(x.1.s.lk:Int)/\((0:Nat)=(0:Nat)/\u26.1.s.fs.length=x.1.s.fs.length/\u25.2=u19.2)/\True/\aa (SB.fmap (dN u26.1.s.ud u26.2) (aC.int G (fK u26.1.s.us u26.2 (u26.1.s.used u26.2+1))) F) (eU (Wk.take x.1.w x.1.s (ai x.2))) /\aa (SB.rows A (if u26.1.s.used u26.2=0 then u26.1.s.ns++[u26.1.w.at u26.2] else u26.1.s.ns).length [ak.str λu17=>(if u26.1.s.used u26.2=0 then u26.1.s.ns++[u26.1.w.at u26.2] else u26.1.s.ns).getD u17 []] C (u25.1*1) 9) (dU (Wk.take x.1.w x.1.s (ai x.2)) u19.1)/\aa (SB.rows A u26.1.s.fs.length [ak.str λu16=>(u26.1.s.fs.getD u16 ([],[])).1,ak.str λu15=>(u26.1.s.fs.getD u15 ([],[])).2] C (u25.2*2) 50) (dy (Wk.take x.1.w x.1.s (ai x.2)) u19.2)/\aa (SB.cells [SV.map 5] 1 90) (SB.cells [SV.map 5] 1 90)/\aa (SB.fmap u26.1.w.ad (aC.int G u26.1.w.ag) F) (SB.fmap x.1.w.ad (aC.int G x.1.w.ag) F)/\aa (SB.cells [SV.bH 7 1 u26.1.w.z u26.1.w.o 0 u26.1.w.n u26.1.w.c] 1 29) P1/\True)/\(bJ x.1.w (ai x.2)=C->∃(_:List UInt8×List UInt8),False))/\(aQ x.2=C->∃(_:List UInt8×List UInt8),False)))/\(bJ u26.1.w u26.2=C->∀(u12:List UInt8×List UInt8),(bp x.2=A->∃(u11:Nat×Nat),(x.1.s.ns.length<=u11.1 /\x.1.s.fs.length<=u11.2)/\False)/\(bp x.2=C->(aQ x.2=A->(bJ x.1.w (ai x.2)=A->∃(u10:Nat×Nat),((if x.1.s.used (ai x.2)=0 then x.1.s.ns++[x.1.w.at (ai x.2)] else x.1.s.ns).length<=u10.1/\x.1.s.fs.length<=u10.2)/\False)/\(bJ x.1.w (ai x.2)=C->∃(u9:List UInt8×List UInt8),(∀(u8:Nat->Nat),SV.val u8 P0=SV.val u8 cW)/\(0:Nat)=(0:Nat)/\aa (SB.cells [SV.str C u12.1,SV.str C u12.2] 2 207) (SB.cells [SV.str C u9.1,SV.str C u9.2] 2 207)/\True))/\(aQ x.2=C->∃(u7:List UInt8×List UInt8),(∀(u6:Nat->Nat),SV.val u6 P0=SV.val u6 cW)/\(0:Nat)=(0:Nat)/\aa (SB.cells [SV.str C u12.1,SV.str C u12.2] 2 207) (SB.cells [SV.str C u7.1,SV.str C u7.2] 2 207)/\True))))/\(aQ x.2=C->(bp x.2=A->∃(u5:Nat×Nat),(x.1.s.ns.length<=u5.1/\x.1.s.fs.length<=u5.2)/\False)/\(bp x.2=C->(aQ x.2=A->(bJ x.1.w (ai x.2)=A ->∃(u4:Nat×Nat),((if x.1.s.used (ai x.2)=0 then x.1.s.ns++[x.1.w.at (ai x.2)] else x.1.s.ns).length<=u4.1/\x.1.s.fs.length<=u4.2)/\False)/\(bJ x.1.w (ai x.2)=C->∃(u3:List UInt8×List UInt8),(∀(u2:Nat->Nat),SV.val u2 P0=SV.val u2 cW)/\(0:Nat)=(0:Nat)/\aa (SB.cells [SV.str A [(110:UInt8),(111:UInt8),(32:UInt8),(114:UInt8),(101:UInt8),(102:UInt8),(58:UInt8)],SV.str C x.2] 2 207) (SB.cells [SV.str C u3.1,SV.str C u3.2] 2 207)/\True))/\(aQ x.2=C->∃(u1:List UInt8×List UInt8),(∀(u0:Nat->Nat),SV.val u0 P0=SV.val u0 cW)/\(0:Nat)=(0:Nat)/\aa (SB.cells [SV.str A [(110:UInt8),(111:UInt8),(32:UInt8),(114:UInt8),(101:UInt8),(102:UInt8),(58:UInt8)],SV.str C x.2] 2 207) (SB.cells [SV.str C u1.1,SV.str C u1.2] 2 207)/\True))))))) (SB.cells [SV.bH 7 1 x.1.w.z x.1.w.o 0 x.1.w.n x.1.w.c] 1 29))) (SV.agg (SV.int .i64 A 0::SV.str A []::SV.str A []::E6))):=by kernel_rfl
section
attribute [local irreducible] aY getD bp aQ ai bJ
theorem Cs {x:yK×List UInt8}(hw:x.1.w.Ok)(hs:x.1.s.Small)(hc:x.1.s.ns.length<=x.1.c1/\x.1.s.fs.length<=x.1.c2)(ht:x.2.length<9223372036854775808) :
  az (runM Nq 132 b7 oH x):=by
 refine az.of_eq (MX x) ?_;obtain⟨⟨w,s,c1,c2⟩,t⟩:=x;dsimp only at hw hs hc ht ⊢;have hr:Rel 9223372036854775808 t:=⟨.inl ht,ht⟩
 have ez:=Wv.zero;have done: ∀ {p q:Nat},s.ns.length<=c1->s.fs.length<=c2->p=c1->q=c2->s.ns.length<=p/\s.fs.length<=q:=λa b c d=>by subst c;subst d;exact⟨a,b⟩
 cases h1:bp t<;>cases h2:aQ t<;>cases h3:bJ w (ai t)
 all_goals simp only[hr,ht,R,Y,false_imp_iff,forall_const,true_and,and_true]
 all_goals first
  | exact⟨(_,_),ez,m4⟩
  | refine⟨(⟨w,s,c1,c2⟩,ai t),?_⟩
  | refine⟨(c1,c2),?_⟩
 all_goals simp only[h3,hw,hs,hc,R,Y,false_imp_iff,forall_const,true_and,and_true]
 all_goals
  repeat' first
   | exact aa.refl _
   | refine And.intro ?_ ?_
   | exact λ_=>rfl
   | (intro (y:List UInt8×List UInt8);exact⟨y,ez,aa.refl _⟩)
   | (intro (y:Nat×Nat) hy;refine⟨y,hy,?_⟩)
   | rfl
   | exact trivial
   | fail
end
end
section
open Go Sx
set_option maxRecDepth 20000
theorem JN:av O 132 (cF oH) :=fH (n:=20) (fn:=b7) Tryz.func132 (by kernel_rfl) (by kernel_rfl) oH λx hx=>⟨Nq,aaL,rfl,Cs hx.1 hx.2.1 hx.2.2.1 hx.2.2.2⟩
def dR (x:Nd)(p:List UInt8)(i:Nat):List UInt8:=if x.k=3 then cat (cat p x.p) [H i] else cat p x.p
def eS (w:Sp)(x:Nd)(p:List UInt8):Bool:=!decide (x.v=[])&&(hasB w.fr w.to (cat p x.p)&&k8 (cat p x.p))
def Wk.iW (w:Sp)(s:Wk)(x:Nd)(p:List UInt8):Wk:={s with lk:=s.lk+1,fs:=if eS w x p=A then s.fs++[(bl (cat p x.p),x.v)] else s.fs}
def iH (w:Sp)(s:Wk)(t:List UInt8):Option (Nd×Wk):=if bp t=A then I (getD t,s)else if(aQ t&&bJ w (ai t))=A then I (getD (w.at (ai t)),s.take w (ai t))else F
def jv (w:Sp)(T:Wk->Nd->List UInt8->Option Wk)(x:Nd)(p:List UInt8)(i:Nat)(s:Wk):Option Wk :=
 if x.r i=[] then I s else bif bK w.fr w.to (dR x p i)then(match iH w s (x.r i)with
  | none=>F
  | some (y,s')=>T s' y (dR x p i))else I s
def cu (w:Sp)(T:Wk->Nd->List UInt8->Option Wk)(x:Nd)(p:List UInt8):Nat->Wk->Option Wk
 | 0,s=>I s
 | i+1,s=>match cu w T x p i s with
   | none=>F
   | some s'=>jv w T x p i s'
def kZ (w:Sp):Nat->Wk->Nd->List UInt8->Option Wk
 | 0,_,_,_=>F
 | m+1,s,x,p=>if 400<=s.lk then F else cu w (kZ w m) x p 16 (s.iW w x p)
def dj (w:Sp)(m:Nat)(s:Wk)(x:Nd)(p:List UInt8):Bool:=(kZ w m s x p).isSome
def bz (w:Sp)(m:Nat)(s:Wk)(x:Nd)(p:List UInt8):Wk:=match kZ w m s x p with
 | some s'=>s'
 | none=>s
structure Wk.Fit (s:Wk)(k:Nat):Prop where
 u: ∀ h,0<=s.used h/\s.used h<=k
 ns:s.ns.length<=k
 fs:s.fs.length<=s.lk
 lk:s.lk<=400
def J' (m:Nat):gD:=snC (Nd×List UInt8) (λy=>[y.1.sv,.str C y.2]) (λg y=>g.s.Fit (g.s.lk+1)/\401<=g.s.lk+m/\y.1.lu/\y.2.length<=13*g.s.lk) λg y=>.fork (dj g.w m g.s y.1 y.2) λb=>match b with
 | true=>aby .ay g.w (bz g.w m g.s y.1 y.2)
 | false=>MA λv=>v
def Oq (st:Sx.St):List Nat:=match st.m.get 0 with
 | some (.cells [_,_,_,_,.bx kn _ _ _ _ _,_,.bx kf _ _ _ _ _] _ _)=>[kn,kf]
 | _=>[]
def Xp (g:yK)(x:Nd)(p:List UInt8):bg :={α:=Nat,pre:=λ_ c2=>(g.s.iW g.w x p).fs.length<=c2,kY:=λ_ _=>0,fresh:=1,slots:=λ_ _=>[],mem:=λst c2=>[(0,Kq g.w (g.s.iW g.w x p) 2 st.nx g.c1 c2),(st.nx,dy (g.s.iW g.w x p) c2)],drop:=λ_=>[3]}
def RF (m:Nat)(g:yK)(x:Nd)(p:List UInt8):bg :=
 {α:=Nat×Wk×Nat×Nat,pre:=λ_ y=>y.1<=16/\cu g.w (kZ g.w m) x p y.1 (g.s.iW g.w x p)=I y.2.1/\y.2.1.ns.length<=y.2.2.1/\y.2.1.fs.length<=y.2.2.2,kY:=λ_ y=>16 - y.1,fresh:=2,slots:=λ_ y=>[(10,.int .i64 C y.1)],
  mem:=λst y=>[(0,Kq g.w y.2.1 st.nx (st.nx+1) y.2.2.1 y.2.2.2),(1,eU y.2.1),(st.nx,dU y.2.1 y.2.2.1),(st.nx+1,dy y.2.1 y.2.2.2)],drop:=Oq}
def aaV (x:Nd)(p:List UInt8)(i:Nat):bg :={α:=Unit,pre:=λ_ _=>True,kY:=λ_ _=>0,fresh:=0,slots:=λ_ _=>[(7,.str C (dR x p i))],mem:=λ_ _=>[]}
def Ii (x:Nd)(p:List UInt8)(st:Sx.St):Option kj:=match slot st.tmps 10 with
 | some (.int _ _ i)=>I (one (aaV x p i.toNat))
 | _=>F
noncomputable def Gc (m:Nat):List (FuncId×PT):=(84,cF (J' m))::(132,cF oH)::Gb
noncomputable def SF (m:Nat)(g:yK)(x:Nd)(p:List UInt8):fQ:={cv with cQ:=λf=>aD f (Gc m),bD:=λf=>if f=171 then [(1,always (RF m g x p)),(105007,Ii x p)] else if f=84 then [(104009,always (Xp g x p))] else []}
abbrev Rw:=List UInt8×List UInt8
def bP:List UInt8->List UInt8->Nat
 | a::r,b::s=>if a=b then bP r s+1 else 0
 | _,_=>0
def cq (k:Nat)(l:List Rw):List Rw:=l.map λr=>(r.1.drop k,r.2)
def k7 (i:Nat)(p:List UInt8):Bool:=match p with
 | []=>C
 | b::_=>decide (b.toNat=i)
def bI (i:Nat)(l:List Rw):List Rw:=l.filter λr=>k7 i r.1
def aB (l:List Rw)(i:Nat):List Rw:=match l with
 | []=>[]
 | [_]=>[]
 | r::s::t=>if 0<bP r.1 ((s::t).getLastD r).1 then(if i=0 then cq (bP r.1 ((s::t).getLastD r).1) (r::s::t)else [])else cq 1 (bI i (r::s::t))
def ga (ref:List Rw->List UInt8)(l:List Rw):Nd:=match l with
 | []=>dO
 | [r]=>⟨1,r.1,r.2,bE⟩
 | r::s::t=>if 0<bP r.1 ((s::t).getLastD r).1 then⟨2,r.1.take (bP r.1 ((s::t).getLastD r).1),[],bL (ref (aB (r::s::t) 0))⟩
   else⟨3,[],if r.1=[] then r.2 else [],dB λi=>ref (aB (r::s::t) i)⟩
def bn:Nat->List Rw->Nd
 | 0,_=>dO
 | m+1,l=>ga (λl'=>if l'=[] then [] else dZ (cS (bn m l'))) l
def ctext (m:Nat)(l:List Rw):List UInt8:=cS (bn m l)
def cr:Nat->List Rw->List (List UInt8)
 | 0,_=>[]
 | m+1,l=>(J 16).flatMap λi=>if aB l i=[] then [] else(if(ctext m (aB l i)).length<32 then [] else [ctext m (aB l i)])++cr m (aB l i)
def cM (m:Nat)(l:List Rw):List (List UInt8):=ctext m l::cr m l
def rowsOf (l:List (List UInt8×List UInt8)):List Rw:=l.map λe=>(aj e.1,e.2)
def aL (fr to:List UInt8)(l:List (List UInt8×List UInt8)):List (List UInt8×List UInt8):=l.filter λe=>hasB fr to (aj e.1)
def tO (l:List Rw):Prop:=l.Pairwise λa b=>D a.1 b.1=A
def gx (fr to p:List UInt8)(l:List Rw):List (List UInt8×List UInt8):=(l.filter λr=>hasB fr to (cat p r.1)).map λr=>(bl (cat p r.1),r.2)
theorem zO: ∀(a b:List UInt8),bP a b<=a.length/\bP a b<=b.length
 | [],_=>by simp[bP]
 | _::_,[]=>by simp[bP]
 | a::r,b::s=>by
   unfold bP;split
   ·have:=zO r s;simp only[aO];omega
   ·simp
theorem BH: ∀(k:Nat) (a b c:List UInt8),k<=bP a c->D b a=C->D c b=C->b.take k=a.take k
 | 0,_,_,_,_,_,_=>by simp
 | k+1,[],_,_,h,_,_=>by simp[bP] at h
 | k+1,_::_,_,[],h,_,_=>by simp[bP] at h
 | k+1,a::r,b,c::t,h,h1,h2=>by
   unfold bP at h;split at h
   ·rename_i e;subst e;cases b with
    | nil=>simp[D] at h1
    | cons b s =>
      simp only[D] at h1 h2;by_cases e1:b<a
      ·simp[e1] at h1
      ·by_cases e2:a<b
       ·simp[e2] at h2
       ·have e:b=a:=by
         apply e3
         ·exact c!.1 e2
         ·exact c!.1 e1
        subst e;simp at h1 h2;rw[a!,a!,BH k r s t (by omega) h1 h2]
   ·omega
theorem gu: ∀(a b:List UInt8),D a b=A->D b a=C
 | _,[],h=>by simp[D] at h
 | [],_::_,_=>by simp[D]
 | a::r,b::s,h=>by
   simp only[D,L,decide_eq_true_eq,N,beq_iff_eq] at h;simp only[D,ef,decide_eq_false_iff_not];rcases h with h | ⟨h1,h2⟩
   ·refine⟨λe=>absurd (UInt8.lt_trans h e) (bf _),?_⟩;have:(b==a)=false:=by rw[beq_eq_false_iff_ne];intro e;subst e;exact absurd h (bf _)
    rw[this,bW]
   ·subst h1;refine⟨bf _,?_⟩;rw[gu r s h2,dV]
theorem gd (a:List UInt8):D a a=false:=by
 cases h:D a a with
 | false=>rfl
 | true=>rw[gu a a h] at h;cases h
theorem n9: ∀(r:Rw) (l:List Rw),l.getLastD r∈ r::l
 | r,[]=>by simp
 | r,s::l=>by rw[eN];exact aP _ (n9 s l)
theorem EI: ∀(r:Rw) (l:List Rw),tO (r::l)->∀ x,x∈ r::l->x=l.getLastD r∨D x.1 (l.getLastD r).1=A
 | r,[],_,x,hx=>by simp only[Q,Z,or_false] at hx;exact .inl hx
 | r,s::l,h,x,hx=>by
   rw[eN];have h':tO (r::s::l):=h;unfold tO at h';rw[a_] at h';rcases Q.1 hx with e | e
   ·subst e;exact .inr (h'.1 _ (n9 s l))
   ·exact EI s l h'.2 x e
theorem Mq {r:Rw}{l:List Rw}(h:tO (r::l)){x:Rw}(hx:x∈ r::l):D x.1 r.1=false:=by
 unfold tO at h;rw[a_] at h;rcases Q.1 hx with e | e
 ·subst e;exact gd _
 ·exact gu _ _ (h.1 x e)
theorem sO {r:Rw}{l:List Rw}(h:tO (r::l)){x:Rw}(hx:x∈ r::l):x.1.take (bP r.1 (l.getLastD r).1)=r.1.take (bP r.1 (l.getLastD r).1):=by
 refine BH _ r.1 x.1 (l.getLastD r).1 (Nat.le_refl _) (Mq h hx) ?_;rcases EI r l h x hx with e | e
 ·subst e;exact gd _
 ·exact gu _ _ e
theorem DW: ∀(k:Nat) (a b:List UInt8),a.take k=b.take k->k<=a.length->k<=b.length->D (a.drop k) (b.drop k)=D a b
 | 0,_,_,_,_,_=>rfl
 | k+1,[],_,_,h,_=>by simp at h
 | k+1,_::_,[],_,_,h=>by simp at h
 | k+1,a::r,b::s,h,h1,h2=>by rw[a!,a!] at h;injection h with e h;subst e;rw[eA,eA,DW k r s h (by simpa using h1) (by simpa using h2)];have: ¬ a<a:=bf _;simp[D,this]
theorem Ct {α:Type}(f:α->Nat)(n:Nat): ∀(l:List α),l.Pairwise (λa b=>f a<=f b)->l.filter (λx=>decide (f x<n))++l.filter (λx=>!decide (f x<n))=l
 | [],_=>rfl
 | x::l,h=>by
   rw[a_] at h;by_cases hx:f x<n
   ·rw[W (by simpa using hx),V (by simpa using hx),b_,Ct f n l h.2]
   ·have hl: ∀ y,y∈ l->¬ f y<n:=λy hy=>by have:=h.1 y hy;omega
    rw[V (by simpa using hx),W (by simpa using hx)];rw[cl.2 (λy hy=>by simpa using hl y hy),List.nil_append];rw[List.filter_eq_self.2 (λy hy=>by simpa using hl y hy)]
theorem jj {α β:Type}{f g:α->List β}: ∀ {l:List α},(∀ i,i∈ l->f i=g i)->l.flatMap f=l.flatMap g
 | [],_=>rfl
 | a::l,h=>by rw[M,M,h a (K ..),jj λi hi=>h i (aP _ hi)]
theorem vr {α:Type}(f:α->Nat): ∀(n:Nat) (l:List α),l.Pairwise (λa b=>f a<=f b)->(∀ x,x∈ l->f x<n)->(J n).flatMap (λi=>l.filter λx=>decide (f x=i))=l
 | 0,l,_,h=>by
   cases l with
   | nil=>rfl
   | cons x l=>exact absurd (h x (K ..)) (Nat.not_lt_zero _)
 | n+1,l,hp,h=>by
   have hs:=Ct f n l hp;rw[List.range_succ,List.flatMap_append];have e1:(J n).flatMap (λi=>l.filter λx=>decide (f x=i))=l.filter (λx=>decide (f x<n)):=by
    have hA:=vr f n (l.filter λx=>decide (f x<n)) (hp.filter _) (λx hx=>by simpa using (X.1 hx).2);rw[← hA];have: ∀ i,i∈ J n->(l.filter λx=>decide (f x=i))=(l.filter λx=>decide (f x<n)).filter λx=>decide (f x=i):=λi hi=>by
     rw[List.filter_filter];refine b! λx _=> ?_;have hi:=c_.1 hi;by_cases e:f x=i
     ·have:f x<n:=by omega
      rw[decide_eq_true e,decide_eq_true this];rfl
     ·rw[decide_eq_false e];rfl
    rw[jj this,hA]
   have e2:[n].flatMap (λi=>l.filter λx=>decide (f x=i))=l.filter (λx=>!decide (f x<n)):=by
    simp only[M,List.flatMap_nil,P];refine b! λx hx=> ?_;have:=h x hx;by_cases e:f x=n
    ·rw[decide_eq_true e,decide_eq_false (by omega)];rfl
    ·rw[decide_eq_false e,decide_eq_true (by omega)];rfl
   rw[e1,e2,hs]
def jJ (p:List UInt8):Nat:=match p with
 | []=>0
 | b::_=>b.toNat+1
theorem TT: ∀ {a b:List UInt8},D a b=A->jJ a<=jJ b
 | [],_,_=>Nat.zero_le _
 | _::_,[],h=>by simp[D] at h
 | a::r,b::s,h=>by
   simp only[D,L,decide_eq_true_eq,N,beq_iff_eq] at h;show a.toNat+1<=b.toNat+1;rcases h with h | ⟨h,_⟩
   ·have:a.toNat<b.toNat:=UInt8.lt_iff_toNat_lt.1 h;omega
   ·subst h;exact Nat.le_refl _
theorem pn (i:Nat)(p:List UInt8):k7 i p=decide (jJ p=i+1):=by
 cases p with
 | nil=>simp[k7,jJ]
 | cons b r=>simp[k7,jJ]
theorem Mr {l:List Rw}(h:tO l)(hn: ∀ x,x∈ l->jJ x.1<17):l.filter (λx=>decide (jJ x.1=0))++(J 16).flatMap (λi=>bI i l)=l:=by
 have hg:=vr (λx:Rw=>jJ x.1) 17 l (h.imp TT) hn;have e:(J 17).flatMap (λi=>l.filter λx=>decide (jJ x.1=i))=l.filter (λx=>decide (jJ x.1=0))++(J 16).flatMap (λi=>bI i l):=by rw[eR,M,eB];congr 1;refine jj λi _=> ?_;unfold bI;refine b! λx _=> ?_;rw[pn]
 rw[← e];exact hg
theorem IT (fr to p:List UInt8)(a b:List Rw):gx fr to p (a++b)=gx fr to p a++gx fr to p b:=by simp[gx,List.filter_append,List.map_append]
theorem Eh (fr to p:List UInt8)(f:Nat->List Rw): ∀(l:List Nat),gx fr to p (l.flatMap f)=l.flatMap λi=>gx fr to p (f i)
 | []=>rfl
 | i::l=>by rw[M,M,IT,Eh fr to p f l]
theorem xR (fr to p q:List UInt8)(k:Nat): ∀(l:List Rw),(∀ x,x∈ l->x.1=q++x.1.drop k)->gx fr to p l=gx fr to (cat p q) (cq k l)
 | [],_=>rfl
 | x::l,h=>by
   have ih:=xR fr to p q k l λy hy=>h y (aP _ hy);have e:cat (cat p q) (x.1.drop k)=cat p x.1:=by show(p++q)++x.1.drop k=p++x.1;rw[er,← h x (K ..)]
   unfold gx cq at ih ⊢;rw[c4];cases hb:hasB fr to (cat p x.1)with
   | true=>rw[W (p:=λr:Rw=>hasB fr to (cat p r.1)) hb,W (p:=λr:Rw=>hasB fr to (cat (cat p q) r.1)) (show hasB fr to (cat (cat p q) (x.1.drop k))=A by rw[e];exact hb),c4,c4,ih,e]
   | false=>rw[V (p:=λr:Rw=>hasB fr to (cat p r.1)) (by simp[hb]),V (p:=λr:Rw=>hasB fr to (cat (cat p q) r.1)) (by simp[e,hb]),ih]
theorem IU (fr to p:List UInt8){l:List Rw}(h:tO l)(hn: ∀ x,x∈ l->jJ x.1<17) :
  gx fr to p l=gx fr to p (l.filter λx=>decide (jJ x.1=0))++(J 16).flatMap λi=>gx fr to (cat p [H i]) (cq 1 (bI i l)):=by
 conv=>lhs;rw[← Mr h hn]
 rw[IT,Eh];congr 1;refine jj λi hi=> ?_;have hi:=c_.1 hi;refine xR fr to p [H i] 1 _ λx hx=> ?_;have hx:=(X.1 hx).2;rw[pn,decide_eq_true_eq] at hx;obtain⟨q,v⟩:=x;cases q with
 | nil=>cases hx
 | cons b r =>have hb:b.toNat=i:=Nat.succ.inj hx;show b::r=[H i]++r;rw[← hb,dG];rfl
theorem Uo (fr to p:List UInt8){r:Rw}{l:List Rw}(h:tO (r::l)) :
  gx fr to p (r::l)=gx fr to (cat p (r.1.take (bP r.1 (l.getLastD r).1))) (cq (bP r.1 (l.getLastD r).1) (r::l)) :=
 xR fr to p _ _ _ λx hx=>by rw[← sO h hx,eT]
theorem pJ {a b:UInt8}{r s:List UInt8}:D (a::r) (b::s)=C↔b<=a/\(a=b->D r s=C):=by
 simp only[D,ef,decide_eq_false_iff_not,c!,Bool.and_eq_false_iff,beq_eq_false_iff_ne];constructor
 ·rintro⟨h1,h2⟩;exact⟨h1,λe=>h2.resolve_left (λh=>h e)⟩
 ·rintro⟨h1,h2⟩;refine⟨h1,?_⟩;by_cases e:a=b
  ·exact .inr (h2 e)
  ·exact .inl e
theorem kN: ∀(a b c:List UInt8),D b a=C->D c b=C->D c a=C
 | [],_,c,_,_=>by cases c<;>simp[D]
 | _::_,[],_,h,_=>by simp[D] at h
 | _::_,_::_,[],_,h=>by simp[D] at h
 | x::a,y::b,z::c,h1,h2=>by rw[pJ] at h1 h2 ⊢;refine⟨UInt8.le_trans h1.1 h2.1,λe=> ?_⟩;subst e;have e:z=y:=e3 h1.1 h2.1;exact kN a b c (h1.2 e.symm) (h2.2 e)
theorem xW: ∀(q r:List UInt8),D (q++r) q=C
 | [],r=>by cases r<;>simp[D]
 | a::q,r=>by rw[b_,pJ];exact⟨UInt8.le_refl _,λ_=>xW q r⟩
theorem Hz: ∀(q r:List UInt8),q.length<=bP q (q++r)
 | [],_=>Nat.zero_le _
 | a::q,r=>by rw[b_];unfold bP;rw[if_pos rfl,aO];have:=Hz q r;omega
theorem y9 {a:List UInt8}(h:(D a b||decide (a=b))=A):D b a=false:=by
 rw[L,decide_eq_true_eq] at h;rcases h with h | h
 ·exact gu _ _ h
 ·subst h;exact gd _
theorem Ke: ∀(a b:List UInt8),D b a=C->(D a b||decide (a=b))=A
 | [],[],_=>by simp
 | [],_::_,_=>by simp[D]
 | _::_,[],h=>by simp[D] at h
 | x::a,y::b,h=>by
   rw[pJ] at h;by_cases e:x=y
   ·subst e;have:=Ke a b (h.2 rfl);rw[L,decide_eq_true_eq] at this ⊢;rcases this with h1 | h1
    ·left;simp[D,h1]
    ·right;rw[h1]
   ·rw[L];left;have:x<y:=UInt8.lt_of_le_of_ne h.1 e;simp[D,this]
theorem Pr {fr to r:List UInt8}(h:hasB fr to (q++r)=A):bK fr to q=true:=by
 unfold hasB at h;rw[N,d_] at h;obtain⟨h1,h2⟩:=h;have h3:=y9 h2;have hq:=xW q r;unfold bK;rw[N];refine⟨Ke _ _ (kN _ _ _ hq h3),?_⟩;cases hl:D q (aj fr)with
 | false=>rfl
 | true =>have ht:=BH q.length q (aj fr) (q++r) (Hz q r) (gu _ _ hl) h1;rw[List.take_length] at ht;show(C||preB q (aj fr))=A;rw[Bool.false_or];unfold preB;have hl:=congrArg eP ht;rw[cR] at hl;rw[decide_eq_true ht,decide_eq_true (show q.length<=(aj fr).length by omega)];rfl
theorem xS {fr to:List UInt8}(h:bK fr to p=C)(l:List Rw):gx fr to p l=[]:=by
 unfold gx;rw[cl.2]
 ·rfl
 ·intro x _ hx;have:bK fr to p=true:=Pr (r:=x.1) hx;rw[h] at this;cases this
structure bV (m:Nat)(l:List Rw):Prop where
 yb:tO l
 len: ∀ x,x∈ l->x.1.length<m
 Kv: ∀ x,x∈ l->∀ b,b∈ x.1->b.toNat<16
 val: ∀ x,x∈ l->0<x.2.length/\x.2.length<=80
theorem HJ {k:Nat}{l:List Rw}(h:bV (m+1) l)(hk:0<k)(hq: ∀ x,x∈ l->k<=x.1.length/\x.1.take k=q):bV m (cq k l):=by
 refine⟨?_,λx hx=> ?_,λx hx b hb=> ?_,λx hx=> ?_⟩
 ·have hr:=h.yb;unfold tO cq at *;rw[List.pairwise_map];refine List.Pairwise.imp_of_mem (λ{a b} ha hb hab=> ?_) hr;have h1:=hq a ha;have h2:=hq b hb;show D (a.1.drop k) (b.1.drop k)=A;rw[DW k a.1 b.1 (h1.2.trans h2.2.symm) h1.1 h2.1];exact hab
 all_goals
  obtain⟨y,hy,rfl⟩:=c5.1 hx
 ·have:=h.len y hy;have:=(hq y hy).1;show(y.1.drop k).length<m;rw[List.length_drop];omega
 ·exact h.Kv y hy b (List.mem_of_mem_drop hb)
 ·exact h.val y hy
theorem W0 {l:List Rw}(h:bV m l)(i:Nat):bV m (bI i l):=by have hm: ∀ x,x∈ bI i l->x∈ l:=λx hx=>(X.1 hx).1;exact⟨h.yb.filter _,λx hx=>h.len x (hm x hx),λx hx=>h.Kv x (hm x hx),λx hx=>h.val x (hm x hx)⟩
theorem cC (r s:Rw)(t:List Rw)(i:Nat):aB (r::s::t) i=if 0<bP r.1 ((s::t).getLastD r).1 then(if i=0 then cq (bP r.1 ((s::t).getLastD r).1) (r::s::t)else [])else cq 1 (bI i (r::s::t)):=rfl
theorem fD {l:List Rw}(h:bV (m+1) l)(i:Nat):bV m (aB l i):=by
 have nil:bV m []:=⟨List.Pairwise.nil,(λx hx=>by cases hx),(λx hx=>by cases hx),(λx hx=>by cases hx)⟩
 match l,h with
 | [],_=>exact nil
 | [_],_=>exact nil
 | r::s::t,h =>
   rw[cC];split
   ·rename_i hk;split
    ·refine HJ (q:=r.1.take (bP r.1 ((s::t).getLastD r).1)) h hk λx hx=> ?_;have ht:=sO h.yb hx;refine⟨?_,ht⟩;have hl:=congrArg eP ht;rw[cR,cR] at hl;have:=(zO r.1 ((s::t).getLastD r).1).1;omega
    ·exact nil
   ·refine HJ (q:=[H i]) (W0 h i) (Nat.succ_pos _) λx hx=> ?_;have hx:=(X.1 hx).2;rw[pn,decide_eq_true_eq] at hx;obtain⟨q,v⟩:=x;cases q with
    | nil=>cases hx
    | cons b r =>
      have hb:b.toNat=i:=Nat.succ.inj hx;refine⟨by simp,?_⟩;show [b]=[H i]
      rw[← hb,dG]
theorem KZ {r:Rw}{l:List Rw}(h:tO (r::l)):(r::l).filter (λx=>decide (jJ x.1=0))=if r.1=[] then [r] else []:=by
 have hl:l.filter (λx=>decide (jJ x.1=0))=[]:=by
  rw[cl];intro x hx;unfold tO at h;rw[a_] at h;have hx:=h.1 x hx;obtain⟨q,v⟩:=x;cases q with
  | nil=>simp[D] at hx
  | cons b q=>simp[jJ]
 obtain⟨q,v⟩:=r;cases q with
 | nil=>rw[W (by simp[jJ]),hl];rfl
 | cons b q=>rw[V (by simp[jJ]),hl,if_neg (by simp)]
def xZ (fr to p:List UInt8)(x:Nd):List (List UInt8×List UInt8):=if x.v=[] then [] else(if hasB fr to (cat p x.p)=A then [(bl (cat p x.p),x.v)] else [])
theorem IV (fr to p:List UInt8)(r:Rw):gx fr to p [r]=if hasB fr to (cat p r.1)=A then [(bl (cat p r.1),r.2)] else []:=by
 unfold gx;by_cases h:hasB fr to (cat p r.1)=A
 ·rw[if_pos h,W (p:=λr:Rw=>hasB fr to (cat p r.1)) h];rfl
 ·rw[if_neg h,V (p:=λr:Rw=>hasB fr to (cat p r.1)) h];rfl
theorem kE {α:Type}{f:Nat->List α}: ∀ {l:List Nat},(∀ i,i∈ l->f i=[])->l.flatMap f=[]
 | [],_=>rfl
 | i::l,h=>by rw[M,h i (K ..),kE λj hj=>h j (aP _ hj)];rfl
theorem K9 {α:Type}{f:Nat->List α}(h: ∀ i,0<i->f i=[]):(J 16).flatMap f=f 0:=by rw[eR,M,eB,kE λi _=>h _ (Nat.succ_pos _),P]
theorem Ei (fr to p:List UInt8){l:List Rw}(hl:l≠[])(h:bV (m+1) l) :
  gx fr to p l=xZ fr to p (bn (m+1) l)++(J 16).flatMap λi=>gx fr to (dR (bn (m+1) l) p i) (aB l i):=by
 match l,hl,h with
 | [r],_,h =>
   have hv:r.2≠[]:=λe=>by have:=(h.val r (K ..)).1;rw[e] at this;cases this
   rw[kE (f:=λi=>gx fr to (dR (bn (m+1) [r]) p i) (aB [r] i)) λi _=>rfl,P,IV];show _=if r.2=[] then [] else _
   rw[if_neg hv];rfl
 | r::s::t,_,h =>
   by_cases hk:0<bP r.1 ((s::t).getLastD r).1
   ·have hc:bn (m+1) (r::s::t)=⟨2,r.1.take (bP r.1 ((s::t).getLastD r).1),[],bL (if aB (r::s::t) 0=[] then [] else dZ (cS (bn m (aB (r::s::t) 0))))⟩:=by show ga _ (r::s::t)=_;unfold ga;dsimp only;rw[if_pos hk]
    have h0: ∀ i,0<i->aB (r::s::t) i=[]:=λi hi=>by rw[cC,if_pos hk,if_neg (by omega)]
    rw[K9 (f:=λi=>gx fr to (dR (bn (m+1) (r::s::t)) p i) (aB (r::s::t) i)) λi hi=>by rw[h0 i hi];rfl];have e0:aB (r::s::t) 0=cq (bP r.1 ((s::t).getLastD r).1) (r::s::t):=by rw[cC,if_pos hk,if_pos rfl]
    rw[hc,e0,Uo fr to p h.yb];rfl
   ·have hn: ∀ x,x∈ r::s::t->jJ x.1<17:=λx hx=>by
     have:=h.Kv x hx;obtain⟨q,v⟩:=x;cases q with
     | nil=>exact Nat.succ_pos _
     | cons b q =>have:=this b (K ..);show b.toNat+1<17;omega
    have hc:bn (m+1) (r::s::t)=⟨3,[],if r.1=[] then r.2 else [],dB λi=>if aB (r::s::t) i=[] then [] else dZ (cS (bn m (aB (r::s::t) i)))⟩:=by show ga _ (r::s::t)=_;unfold ga;dsimp only;rw[if_neg hk]
    rw[hc,IU fr to p h.yb hn,KZ h.yb];have hp:cat p []=p:=by show p++[]=p;rw[P]
    congr 1
    ·unfold xZ;dsimp only;by_cases he:r.1=[]
     ·have hv:r.2≠[]:=λe=>by have:=(h.val r (K ..)).1;rw[e] at this;cases this
      rw[if_pos he,if_pos he,if_neg hv,IV,he]
     ·rw[if_neg he,if_neg he,if_pos rfl];rfl
    ·refine jj λi _=> ?_;rw[cC,if_neg hk];unfold dR;rw[if_pos rfl];dsimp only;rw[hp]
theorem XR : ∀ {l:List Rw},(bn (m+1) l).v≠[]->∃ x,x∈ l/\(bn (m+1) l).p=x.1
 | [],h=>absurd rfl h
 | [r],_=>⟨r,K ..,rfl⟩
 | r::s::t,h=>by
   refine⟨r,K ..,?_⟩;have e:bn (m+1) (r::s::t)=ga (λl'=>if l'=[] then [] else dZ (cS (bn m l'))) (r::s::t):=rfl
   rw[e] at h ⊢;unfold ga at h ⊢;dsimp only at h ⊢;split at h
   ·exact absurd rfl h
   ·rename_i hk;rw[if_neg hk];dsimp only at h ⊢;by_cases he:r.1=[]
    ·exact he.symm
    ·rw[if_neg he] at h;exact absurd rfl h
theorem Yc {w:Sp}{l:List Rw}(s:Wk)(hk: ∀ x,x∈ l->k8 (cat p x.1)=A):(s.iW w (bn (m+1) l) p).fs=s.fs++xZ w.fr w.to p (bn (m+1) l):=by
 show(if eS w (bn (m+1) l) p=A then s.fs++[(bl (cat p (bn (m+1) l).p),(bn (m+1) l).v)] else s.fs)=_
 unfold eS xZ;by_cases hv:(bn (m+1) l).v=[]
 ·rw[if_pos hv,decide_eq_true hv];simp
 ·obtain⟨x,hx,e⟩:=XR hv;rw[if_neg hv,decide_eq_false hv,e,hk x hx];by_cases hb:hasB w.fr w.to (cat p x.1)=A
  ·rw[if_pos hb,hb];rfl
  ·have:hasB w.fr w.to (cat p x.1)=false:=by simpa using hb
   rw[if_neg hb,this];simp
theorem TL {l:List Rw}{i:Nat}(h:bV (m+1) l){x:Rw}(hx:x∈ aB l i): ∃ y,y∈ l/\cat (dR (bn (m+1) l) p i) x.1=cat p y.1:=by
 match l,h with
 | [],_=>cases hx
 | [_],_=>cases hx
 | r::s::t,h =>
   have e:bn (m+1) (r::s::t)=ga (λl'=>if l'=[] then [] else dZ (cS (bn m l'))) (r::s::t):=rfl
   rw[cC] at hx;rw[e];unfold ga;dsimp only;split at hx
   ·rename_i hk;rw[if_pos hk];split at hx
    ·obtain⟨y,hy,rfl⟩:=c5.1 hx;refine⟨y,hy,?_⟩;show(p++r.1.take (bP r.1 ((s::t).getLastD r).1))++y.1.drop (bP r.1 ((s::t).getLastD r).1)=p++y.1;rw[← sO h.yb hy,er,eT]
    ·cases hx
   ·rename_i hk;rw[if_neg hk];obtain⟨y,hy,rfl⟩:=c5.1 hx;refine⟨y,(X.1 hy).1,?_⟩;have hy:=(X.1 hy).2;rw[pn,decide_eq_true_eq] at hy;obtain⟨q,v⟩:=y;cases q with
    | nil=>cases hy
    | cons b q =>have hb:b.toNat=i:=Nat.succ.inj hy;show((p++[])++[H i])++q=p++b::q;rw[← hb,dG];simp
theorem adt: ∀ a,a<16->∀ b,b<16->(a*16% 256) ||| b=a*16+b:=by decide
theorem Oa {a b:Int}(ha:0<=a/\a<=15)(hb:0<=b/\b<=15):bitsOf .or (a*16% 256) b=a*16+b:=by
 obtain⟨x,rfl⟩:=ep ha.1;obtain⟨y,rfl⟩:=ep hb.1;have:=adt x (by omega) y (by omega);show(((((x:Int)*16% 256).toNat ||| ((y:Int)).toNat:Nat):Int))=_;rw[show((x:Int)*16% 256).toNat=x*16% 256 by omega,ax,this]
 push_cast;rfl
theorem CV {f:Nat->Int}{n j:Nat}(h:j<n)(h0:0<=f j/\f j<256):ah (dw f 0 n) (j:Int)=f j:=by unfold ah dw;rw[ct,ax,eL,eM h];simp only[eW,Option.getD_some,Nat.zero_add];rw[an];omega
theorem KG (q:List UInt8)(j:Nat)(h:j<q.length):q[j]?=I (H (ah q (j:Int)).toNat):=by unfold ah;simp[ct,cx h]
theorem BX (hm:q.length=2*m)(hq: ∀ j:Nat,j<q.length->ah q (j:Int)<=15):aj (bl q)=q:=by
 have hnn: ∀ i,0<=ah q i:=λi=>(dM q i).1;have hl:(bl q).length=m:=by rw[BU,hm];omega
 have hpair: ∀ i:Nat,i<m->ah (bl q) (i:Int)=ah q ((2*i:Nat):Int)*16+ah q ((2*i+1:Nat):Int):=λi hi=>by
  have h1:=hq (2*i) (by omega);have h2:=hq (2*i+1) (by omega);have h3:=hnn ((2*i:Nat):Int);have h4:=hnn ((2*i+1:Nat):Int);have e:iz q i=ah q ((2*i:Nat):Int)*16+ah q ((2*i+1:Nat):Int):=by unfold iz;rw[show(2*(i:Int))=((2*i:Nat):Int)by push_cast;rfl,show(((2*i:Nat):Int)+1)=((2*i+1:Nat):Int)by push_cast;rfl];exact Oa ⟨h3,h1⟩ ⟨h4,h2⟩
  unfold bl;rw[CV (by rw[hm];omega) (by rw[e];omega),e]
 apply List.ext_getElem?;intro j;by_cases hj:j<q.length
 ·rw[KG q j hj];unfold aj dw;rw[eL,eM (by rw[hl];omega)];simp only[eW,Nat.zero_add,Option.some.injEq];congr 2;obtain⟨i,hi⟩: ∃ i,j=2*i∨j=2*i+1:=⟨j / 2,by omega⟩
  have hp:=hpair i (by omega);have h1:=hq (2*i) (by omega);have h2:=hq (2*i+1) (by omega);have h3:=hnn ((2*i:Nat):Int);have h4:=hnn ((2*i+1:Nat):Int);unfold kM;rcases hi with rfl | rfl
  ·rw[if_pos (by omega),show(((2*i:Nat):Int) / 2)=(i:Int)by omega,hp];omega
  ·rw[if_neg (by omega),show(((2*i+1:Nat):Int) / 2)=(i:Int)by omega,hp];omega
 ·rw[eC (by rw[ow,hl];omega),eC (by omega)]
theorem aa9 (h:ij p=A)(j:Nat)(hj:j<p.length):ah p (j:Int)<=15:=by have:=List.all_eq_true.1 h j (c_.2 hj);unfold Gr at this;simp only[d_,decide_eq_false_iff_not] at this;omega
theorem ck (b:UInt8)(l:List UInt8)(j:Nat):ah (b::l) ((j+1:Nat):Int)=ah l (j:Int):=by unfold ah;rw[ax,ax];rfl
theorem En (h:ij p=A)(leaf:Bool):fM (dI p leaf)=A/\dS (dI p leaf)=leaf/\eH (dI p leaf)=p:=by
 have hp:=aa9 h;cases ho:decide ((p.length:Int)% 2=1)with
 | true =>
   have ho':(p.length:Int)% 2=1:=of_decide_eq_true ho;have hflag:gE leaf A<=3/\0<=gE leaf A/\gE leaf A% 2=1/\(2<=gE leaf A↔leaf=A):=by cases leaf<;>decide
   have e:aj (dI p leaf)=H (gE leaf A).toNat::p:=by
    unfold dI;rw[ho];refine BX (m:=(p.length+1) / 2) (by simp only[cond_true,aO];omega) λj hj=> ?_;cases j with
    | zero =>show((H (gE leaf A).toNat).toNat:Int)<=15;rw[an];omega
    | succ j =>rw[ck];exact hp j (by simpa using hj)
   have e0:ah (aj (dI p leaf)) 0=gE leaf true:=by rw[e];show((H (gE leaf A).toNat).toNat:Int)=_;rw[an];omega
   refine⟨vJ.2 ⟨by rw[e];simp,by rw[e0];omega,.inl (by rw[e0];omega)⟩,?_,?_⟩
   ·unfold dS;rw[e0];cases leaf<;>rfl
   ·unfold eH;rw[e0,if_pos hflag.2.2.1,e];rfl
 | false =>
   have ho': ¬ (p.length:Int)% 2=1:=of_decide_eq_false ho;have hflag:gE leaf C<=3/\0<=gE leaf C/\¬ gE leaf C% 2=1/\(2<=gE leaf C↔leaf=A):=by cases leaf<;>decide
   have e:aj (dI p leaf)=H (gE leaf C).toNat::0::p:=by
    unfold dI;rw[ho];refine BX (m:=(p.length+2) / 2) (by simp only[cond_false,aO];omega) λj hj=> ?_;cases j with
    | zero =>show((H (gE leaf C).toNat).toNat:Int)<=15;rw[an];omega
    | succ j =>
      rw[ck];cases j with
      | zero=>show((0:UInt8).toNat:Int)<=15;decide
      | succ j =>simp only[cond_false];rw[ck];exact hp j (by simpa using hj)
   have e0:ah (aj (dI p leaf)) 0=gE leaf false:=by rw[e];show((H (gE leaf C).toNat).toNat:Int)=_;rw[an];omega
   refine⟨vJ.2 ⟨by rw[e];simp,by rw[e0];omega,.inr (by rw[e];rfl)⟩,?_,?_⟩
   ·unfold dS;rw[e0];cases leaf<;>rfl
   ·unfold eH;rw[e0,if_neg hflag.2.2.1,e];rfl
theorem jZ (hb:b.length<=1048576):bR (aA b)=A/\dx (aA b)=C/\ai (aA b)=b/\aF (aA b)=[]:=by
 have:=J9 hb []
 rwa [P] at this
theorem pQ (hb:b.length<=1048576):c6 (aA b)=true:=by obtain⟨h1,h2,_,h4⟩:=jZ hb;exact sL.2 ⟨h1,h2,h4⟩
theorem Bz {l:List (List UInt8)}(hl:(flat l).length<=1048576):bR (ff l)=A/\dx (ff l)=A/\ai (ff l)=flat l/\aF (ff l)=[]:=by
 have:=Uc hl []
 rwa [P] at this
theorem Xw {l:List (List UInt8)}(hl:(flat l).length<=1048576):ff l≠[128]:=λh=>by have h1:=(Bz hl).2.1;rw[h] at h1;exact absurd h1 (by decide)
theorem uv {l:List (List UInt8)}(hl:(flat l).length<=1048576)(hw: ∀ x∈ l,bR x=A/\aF x=[]) :
  aq (ff l)=qi (flat l)/\ai (ff l)=flat l/\dX (flat l)=A/\bQ (flat l)=l.length/\∀(j:Nat) (x:List UInt8),l[j]?=I x->au (flat l) j=x:=by
 obtain⟨h1,h2,h3,h4⟩:=Bz hl;obtain⟨i1,i2,i3⟩:=AV l hw;refine⟨?_,h3,i1,i2,i3⟩;rw[aq,if_neg (Xw hl),h1,h2,h4,h3];rfl
theorem vT {t:List UInt8}(h:iV bp t=A):bR t=A/\aF t=[]/\t≠[128]/\t≠[]:=by
 have hn: ∀ {t:List UInt8},bR t=A->t≠[]:=λh e=>by rw[e] at h;exact absurd h (by decide)
 simp only[iV,L] at h;rcases h with h | h
 ·obtain⟨⟨h1,_,h3⟩,h4⟩:=qR.1 h;exact⟨h1,h3,λe=>by have:=kH h;rw[e] at this;simp at this,hn h1⟩
 ·obtain⟨h1,h2,h3⟩:=sq h;have hs:1<=aq t:=by
   by_cases e:aq t=0
   ·exact absurd (by unfold getD;rw[if_neg (by omega),if_neg (by omega),if_neg (by omega)];rfl) h3
   ·omega
  obtain⟨g1,_,g3,_⟩:=Cq hs;exact⟨g1,g3,λe=>by rw[e] at hs;exact absurd hs (by decide),hn g1⟩
def Hf (s:List UInt8)(x:Nd):Prop:=0<=aq s/\(getD s).Fa x
theorem jT (j:Nat)(hj:j<16):bE j=[]:=fy (λ_=>[]) j hj
theorem Jk {l:Int}(h:gW x l=A):ij x.p=true:=by simp only[gW,N] at h;exact h.2
theorem Jh (h:ij x.p=A)(leaf:Bool):c7 x leaf=dI x.p leaf:=by rw[c7,h];rfl
theorem Wd:bR [128]=A/\aF [128]=[]:=by have:=jZ (b:=[]) (by decide);exact⟨this.1,this.2.2.2⟩
attribute [local irreducible] au ai bR aF dx bQ dX c6 fM dS eH dI aA b8
theorem MI (hk:x.k=1)(h:kL x=A):Hf (jI x) x:=by
 have hnib:ij x.p=true:=by simp only[kL,N] at h;exact Jk h.1
 obtain⟨h1,_,h3,h4⟩:=ur h;have l1:=oy (x:=x) (leaf:=A);have l2:=jC (c7 x A);have l3:=jC x.v;have l4:=n4 (a:=aA (c7 x A)) (b:=aA x.v);obtain⟨a1,a2,a3,a4⟩:=jZ (b:=c7 x A) (by omega);obtain⟨b1,b2,b3,b4⟩:=jZ (b:=x.v) (by omega);obtain⟨s1,s2,s3,s4,s5⟩:=uv (l:=[aA (c7 x A),aA x.v]) (by omega) (λy hy=>by
  simp only[Q,Z,or_false] at hy;rcases hy with rfl | rfl
  ·exact⟨a1,a4⟩
  ·exact⟨b1,b4⟩)
 have i0:=s5 0 _ rfl;have i1:=s5 1 _ rfl;obtain⟨n1,n2,n3⟩:=En hnib A;have p0:c6 (au (flat [aA (c7 x A),aA x.v]) 0)=true:=by rw[i0];exact pQ (by omega)
 have p1:c6 (au (flat [aA (c7 x A),aA x.v]) 1)=true:=by rw[i1];exact pQ (by omega)
 have c0:ai (au (flat [aA (c7 x A),aA x.v]) 0)=dI x.p true:=by rw[i0,a3,Jh hnib]
 have hs:aq (jI x)=1:=by rw[jI,s1,qi,s3,s4];show ov _=1;rw[ov,p0,c0,n1,n2,p1];rfl
 refine⟨by rw[hs];decide,?_⟩;have e:getD (jI x)=nF (jI x):=by unfold getD;rw[if_pos hs]
 rw[e];unfold nF jI;rw[s2];refine⟨hk.symm,?_,?_,λj hj=> ?_⟩
 ·show eH (ai (au (flat [aA (c7 x A),aA x.v]) 0))=x.p;rw[c0,n3]
 ·show ai (au (flat [aA (c7 x A),aA x.v]) 1)=x.v;rw[i1,b3]
 ·rw[h4 j hj];exact jT j hj
theorem Q2 (hk:x.k=2)(h:ny bp x=A):Hf (qp x) x:=by
 have hnib:ij x.p=true:=by simp only[ny,N] at h;exact Jk h.1
 obtain⟨h1,h2,h3,_,h4⟩:=xo h;have hm:iV bp (x.r 0)=true:=by simp only[iV,L];exact h4.imp id λh=>h.1
 obtain⟨r1,r2,_,_⟩:=vT hm;have rl:=pH hm;have l1:=oy (x:=x) (leaf:=C);have l2:=jC (c7 x C);have l4:=n4 (a:=aA (c7 x C)) (b:=x.r 0);obtain⟨a1,a2,a3,a4⟩:=jZ (b:=c7 x C) (by omega);obtain⟨s1,s2,s3,s4,s5⟩:=uv (l:=[aA (c7 x C),x.r 0]) (by omega) (λy hy=>by
  simp only[Q,Z,or_false] at hy;rcases hy with rfl | rfl
  ·exact⟨a1,a4⟩
  ·exact⟨r1,r2⟩)
 have i0:=s5 0 _ rfl;have i1:=s5 1 _ rfl;obtain⟨n1,n2,n3⟩:=En hnib C;have p0:c6 (au (flat [aA (c7 x C),x.r 0]) 0)=true:=by rw[i0];exact pQ (by omega)
 have c0:ai (au (flat [aA (c7 x C),x.r 0]) 0)=dI x.p false:=by rw[i0,a3,Jh hnib]
 have hs:aq (qp x)=2:=by rw[qp,s1,qi,s3,s4];show ov _=2;rw[ov,p0,c0,n1,n2];rfl
 refine⟨by rw[hs];decide,?_⟩;have e:getD (qp x)=tG (qp x):=by unfold getD;rw[if_neg (by omega),if_pos hs]
 rw[e];unfold tG qp;rw[s2];refine⟨hk.symm,?_,h2.symm,λj hj=> ?_⟩
 ·show eH (ai (au (flat [aA (c7 x C),x.r 0]) 0))=x.p;rw[c0,n3]
 ·show bL (au (flat [aA (c7 x C),x.r 0]) 1) j=x.r j;rw[i1];have:bL (x.r 0) j=(λi=>if i=0 then x.r 0 else []) j:=fy (λi=>if i=0 then x.r 0 else []) j hj
  rw[this];show(if j=0 then x.r 0 else [])=x.r j
  by_cases e:j=0
  ·subst e;rfl
  ·rw[if_neg e,h3 j (by omega) hj]
def G9 (x:Nd):List (List UInt8):=[b5 x.r 16 0,b5 x.r 16 1,b5 x.r 16 2,b5 x.r 16 3,b5 x.r 16 4,b5 x.r 16 5,b5 x.r 16 6,b5 x.r 16 7,b5 x.r 16 8,b5 x.r 16 9,b5 x.r 16 10,b5 x.r 16 11,b5 x.r 16 12,b5 x.r 16 13,b5 x.r 16 14,b5 x.r 16 15,aA x.v]
theorem WR (x:Nd)(j:Nat)(hj:j<16):(G9 x)[j]?=I (b5 x.r 16 j):=by
 have:j=0∨j=1∨j=2∨j=3∨j=4∨j=5∨j=6∨j=7∨j=8∨j=9∨j=10∨j=11∨j=12∨j=13∨j=14∨j=15:=by omega
 rcases this with rfl | rfl | rfl | rfl | rfl | rfl | rfl | rfl | rfl | rfl | rfl | rfl | rfl | rfl | rfl | rfl<;>rfl
theorem WS {y:List UInt8}(h:y∈ G9 x):(∃ j,j<16/\y=b5 x.r 16 j)∨y=aA x.v:=by
 simp only[G9,Q,Z,or_false] at h;rcases h with h | h | h | h | h | h | h | h | h | h | h | h | h | h | h | h | h
 ·exact .inl ⟨0,by decide,h⟩
 ·exact .inl ⟨1,by decide,h⟩
 ·exact .inl ⟨2,by decide,h⟩
 ·exact .inl ⟨3,by decide,h⟩
 ·exact .inl ⟨4,by decide,h⟩
 ·exact .inl ⟨5,by decide,h⟩
 ·exact .inl ⟨6,by decide,h⟩
 ·exact .inl ⟨7,by decide,h⟩
 ·exact .inl ⟨8,by decide,h⟩
 ·exact .inl ⟨9,by decide,h⟩
 ·exact .inl ⟨10,by decide,h⟩
 ·exact .inl ⟨11,by decide,h⟩
 ·exact .inl ⟨12,by decide,h⟩
 ·exact .inl ⟨13,by decide,h⟩
 ·exact .inl ⟨14,by decide,h⟩
 ·exact .inl ⟨15,by decide,h⟩
 ·exact .inr h
theorem wY (r:Nat->List UInt8)(j:Nat)(hj:j<16):(r j=[]/\b5 r 16 j=[128])∨(r j≠[]/\b5 r 16 j=r j):=by
 unfold b5;rw[if_pos hj];by_cases e:r j=[]
 ·exact .inl ⟨e,by rw[if_pos e]⟩
 ·exact .inr ⟨e,by rw[if_neg e]⟩
theorem Nc (h:dQ bp x=A):(flat (G9 x)).length<=617:=by
 obtain⟨_,h2,h3,_⟩:=oT h;have hb: ∀ j,j<16->(b5 x.r 16 j).length<=33:=λj hj=>by
  rcases wY x.r j hj with ⟨_,e⟩ | ⟨e0,e⟩
  ·rw[e];decide
  ·rw[e];rcases qZ h3 hj with h | h
   ·exact absurd h e0
   ·exact pH h
 have e:flat (G9 x)=flat [b5 x.r 16 0,b5 x.r 16 1,b5 x.r 16 2,b5 x.r 16 3,b5 x.r 16 4,b5 x.r 16 5,b5 x.r 16 6,b5 x.r 16 7,b5 x.r 16 8,b5 x.r 16 9,b5 x.r 16 10,b5 x.r 16 11,b5 x.r 16 12,b5 x.r 16 13,b5 x.r 16 14,b5 x.r 16 15]++aA x.v:=by show flat ([b5 x.r 16 0,b5 x.r 16 1,b5 x.r 16 2,b5 x.r 16 3,b5 x.r 16 4,b5 x.r 16 5,b5 x.r 16 6,b5 x.r 16 7,b5 x.r 16 8,b5 x.r 16 9,b5 x.r 16 10,b5 x.r 16 11,b5 x.r 16 12,b5 x.r 16 13,b5 x.r 16 14,b5 x.r 16 15]++[aA x.v])=_;simp only[flat,List.flatten_append,List.flatten_cons,List.flatten_nil,P]
 have h6:(flat [b5 x.r 16 0,b5 x.r 16 1,b5 x.r 16 2,b5 x.r 16 3,b5 x.r 16 4,b5 x.r 16 5,b5 x.r 16 6,b5 x.r 16 7,b5 x.r 16 8,b5 x.r 16 9,b5 x.r 16 10,b5 x.r 16 11,b5 x.r 16 12,b5 x.r 16 13,b5 x.r 16 14,b5 x.r 16 15]).length<=16*33:=by
  refine NG (m:=33) λy hy=> ?_;simp only[Q,Z,or_false] at hy;rcases hy with rfl | rfl | rfl | rfl | rfl | rfl | rfl | rfl | rfl | rfl | rfl | rfl | rfl | rfl | rfl | rfl
  ·exact hb 0 (by decide)
  ·exact hb 1 (by decide)
  ·exact hb 2 (by decide)
  ·exact hb 3 (by decide)
  ·exact hb 4 (by decide)
  ·exact hb 5 (by decide)
  ·exact hb 6 (by decide)
  ·exact hb 7 (by decide)
  ·exact hb 8 (by decide)
  ·exact hb 9 (by decide)
  ·exact hb 10 (by decide)
  ·exact hb 11 (by decide)
  ·exact hb 12 (by decide)
  ·exact hb 13 (by decide)
  ·exact hb 14 (by decide)
  ·exact hb 15 (by decide)
 have h7:=jC x.v;rw[e,cy];omega
theorem GY (hk:x.k=3)(h:dQ bp x=A):Hf (fS x) x:=by
 obtain⟨h1,h2,h3,_⟩:=oT h;have hl:=Nc h;have hT:fS x=ff (G9 x):=rfl;obtain⟨b1,b2,b3,b4⟩:=jZ (b:=x.v) (by omega);have hw: ∀ y∈ G9 x,bR y=A/\aF y=[]:=λy hy=>by
  rcases WS hy with ⟨j,hj,rfl⟩ | rfl
  ·rcases wY x.r j hj with ⟨_,e⟩ | ⟨e0,e⟩
   ·rw[e];exact Wd
   ·rw[e];rcases qZ h3 hj with g | g
    ·exact absurd g e0
    ·exact⟨(vT g).1,(vT g).2.1⟩
  ·exact⟨b1,b4⟩
 obtain⟨s1,s2,s3,s4,s5⟩:=uv (l:=G9 x) (by omega) hw;have i16:au (flat (G9 x)) 16=aA x.v:=s5 16 _ rfl;have p16:c6 (au (flat (G9 x)) 16)=true:=by rw[i16];exact pQ (by omega)
 have hs:aq (fS x)=3:=by
  rw[hT,s1,qi,s3,s4];show(bif c6 (au (flat (G9 x)) 16)then(3:Int)else -1)=3
  rw[p16];rfl
 refine⟨by rw[hs];decide,?_⟩;have e:getD (fS x)=iE (fS x):=by unfold getD;rw[if_neg (by omega),if_neg (by omega),if_pos hs]
 rw[e];unfold iE;rw[hT,s2];refine⟨hk.symm,h1.symm,?_,λj hj=> ?_⟩
 ·show ai (au (flat (G9 x)) 16)=x.v;rw[i16,b3]
 ·show dB (cL (flat (G9 x))) j=x.r j;have e1:dB (cL (flat (G9 x))) j=cL (flat (G9 x)) j:=fy _ j hj;rw[e1,cL,s5 j _ (WR x j hj)];rcases wY x.r j hj with ⟨e0,e⟩ | ⟨e0,e⟩
  ·rw[e,if_pos rfl,e0]
  ·rw[e];rcases qZ h3 hj with g | g
   ·exact absurd g e0
   ·rw[if_neg (vT g).2.2.1]
theorem MJ (h:qj x=A):Hf [128] x:=by
 obtain⟨h0,h1,h2,h3⟩:=BN h;have hs:aq [128]=0:=by decide
 refine⟨by rw[hs];decide,?_⟩;have e:getD [128]=dO:=by unfold getD;rw[if_neg (by omega),if_neg (by omega),if_neg (by omega)]
 rw[e];exact⟨h0.symm,h1.symm,h2.symm,λj hj=>by rw[h3 j hj];exact jT j hj⟩
theorem rq :(x.k=0->cS x=[128])/\(x.k=1->cS x=jI x)/\(x.k=2->cS x=qp x)/\(x.k=3->cS x=fS x):=by unfold cS;refine⟨λh=>by rw[if_pos h],λh=>by rw[if_neg (by omega),if_pos h],λh=>by rw[if_neg (by omega),if_neg (by omega),if_pos h],λh=>by rw[if_neg (by omega),if_neg (by omega),if_neg (by omega)]⟩
theorem Q3 (h:aX x=A):Hf (cS x) x:=by
 rcases nr h with ⟨hk,h⟩ | ⟨hk,h⟩ | ⟨hk,h⟩ | ⟨hk,h⟩
 ·rw[rq.1 hk];exact MJ h
 ·rw[rq.2.1 hk];exact MI hk h
 ·rw[rq.2.2.1 hk];exact Q2 hk h
 ·rw[rq.2.2.2 hk];exact GY hk h
theorem gr (h:aX x=A):aY (cS x)=A/\(getD (cS x)).Fa x:=by
 obtain⟨h1,h2⟩:=Q3 h;refine⟨?_,h2⟩;unfold aY C1;rw[decide_eq_true h1,show iX bp (getD (cS x))=A from(sY h2).trans h,Ob h2]
 simp
theorem Oc (h:aX x=A):1<=(cS x).length/\(cS x).length<=700:=by
 have hp: ∀ l:List (List UInt8),1<=(ff l).length/\(ff l).length<=(flat l).length+9:=λl=>by have h1:=A6 192 (flat l).length;have h2:=qT 192 (flat l).length;unfold ff;rw[cy];omega
 rcases nr h with ⟨hk,h⟩ | ⟨hk,h⟩ | ⟨hk,h⟩ | ⟨hk,h⟩
 ·rw[rq.1 hk];decide
 ·rw[rq.2.1 hk];obtain⟨h1,_,h3,_⟩:=ur h;have l1:=oy (x:=x) (leaf:=A);have l2:=jC (c7 x A);have l3:=jC x.v;have l4:=n4 (a:=aA (c7 x A)) (b:=aA x.v);have:=hp [aA (c7 x A),aA x.v];unfold jI;omega
 ·rw[rq.2.2.1 hk];obtain⟨h1,h2,h3,_,h4⟩:=xo h;have hm:iV bp (x.r 0)=true:=by simp only[iV,L];exact h4.imp id λh=>h.1
  have rl:=pH hm;have l1:=oy (x:=x) (leaf:=C);have l2:=jC (c7 x C);have l4:=n4 (a:=aA (c7 x C)) (b:=x.r 0);have:=hp [aA (c7 x C),x.r 0];unfold qp;omega
 ·rw[rq.2.2.2 hk];have hl:=Nc h;have:=hp (G9 x);show 1<=(ff (G9 x)).length/\(ff (G9 x)).length<=700;omega
end
section
open Go Sx
set_option maxRecDepth 20000
theorem pN (t:List UInt8)(j:Nat)(hj:j<16):bL t j=if j=0 then t else []:=fy (λj=>if j=0 then t else []) j hj
theorem lC (m:Nat)(l:List Rw){i:Nat}(hi:i<16):(bn (m+1) l).r i=if aB l i=[] then [] else dZ (ctext m (aB l i)):=by
 match l with
 | []=>exact jT i hi
 | [_]=>exact jT i hi
 | r::s::t =>
   have e:bn (m+1) (r::s::t)=ga (λl'=>if l'=[] then [] else dZ (cS (bn m l'))) (r::s::t):=rfl
   rw[e];unfold ga;dsimp only;by_cases hk:0<bP r.1 ((s::t).getLastD r).1
   ·rw[if_pos hk];dsimp only;rw[pN _ i hi];by_cases h0:i=0
    ·subst h0;rw[if_pos rfl];rfl
    ·rw[if_neg h0,cC,if_pos hk,if_neg h0,if_pos rfl]
   ·rw[if_neg hk];dsimp only;exact fy (λi=>if aB (r::s::t) i=[] then [] else dZ (cS (bn m (aB (r::s::t) i)))) i hi
theorem BK (f:Nat->List UInt8)(j:Nat)(hj:j<16):dB f j=f j:=fy f j hj
theorem Uq {f g:Nat->List UInt8}(h: ∀ j,j<16->f j=g j):dB f=dB g:=by unfold dB;rw[h 0 (by decide),h 1 (by decide),h 2 (by decide),h 3 (by decide),h 4 (by decide),h 5 (by decide),h 6 (by decide),h 7 (by decide),h 8 (by decide),h 9 (by decide),h 10 (by decide),h 11 (by decide),h 12 (by decide),h 13 (by decide),h 14 (by decide),h 15 (by decide)]
def Nd.Six (x:Nd):Prop:=∃ f,x.r=dB f
theorem Th (s:List UInt8):(getD s).Six:=by
 unfold getD;split
 ·exact⟨λ_=>[],rfl⟩
 ·split
  ·exact⟨λj=>if j=0 then au (ai s) 1 else [],rfl⟩
  ·split
   ·exact⟨_,rfl⟩
   ·exact⟨λ_=>[],rfl⟩
theorem WX: ∀(m:Nat) (l:List Rw),(bn m l).Six
 | 0,_=>⟨λ_=>[],rfl⟩
 | _+1,[]=>⟨λ_=>[],rfl⟩
 | _+1,[_]=>⟨λ_=>[],rfl⟩
 | m+1,r::s::t=>by
   have e:bn (m+1) (r::s::t)=ga (λl'=>if l'=[] then [] else dZ (cS (bn m l'))) (r::s::t):=rfl
   rw[e];unfold ga;dsimp only;split
   ·exact⟨λj=>if j=0 then(if aB (r::s::t) 0=[] then [] else dZ (cS (bn m (aB (r::s::t) 0))))else [],rfl⟩
   ·exact⟨λi=>if aB (r::s::t) i=[] then [] else dZ (cS (bn m (aB (r::s::t) i))),rfl⟩
theorem Vo {y:Nd}(hx:x.Six)(hy:y.Six)(h:x.Fa y):x=y:=by
 obtain⟨f,hf⟩:=hx;obtain⟨g,hg⟩:=hy;have hr:x.r=y.r:=by rw[hf,hg];refine Uq λj hj=> ?_;have:=h.r j hj;rw[hf,hg,BK f j hj,BK g j hj] at this;exact this
 obtain⟨k,p,v,r⟩:=x;obtain⟨k',p',v',r'⟩:=y;have h1:=h.k;have h2:=h.p;have h3:=h.v;dsimp only at h1 h2 h3 hr;subst h1;subst h2;subst h3;subst hr;rfl
theorem eD {l:List Rw}(h:aX (bn m l)=A):getD (ctext m l)=bn m l:=Vo (Th _) (WX m l) (gr h).2
theorem Lx {v:List UInt8}(hp:p.length<=12)(hn:ij p=A)(hv:0<v.length/\v.length<=80):aX ⟨1,p,v,bE⟩=true:=by
 show kL ⟨1,p,v,bE⟩=A;have hb:cD bE 16=0:=by decide
 have h1:v≠[]:=λe=>by rw[e] at hv;exact absurd hv.1 (Nat.lt_irrefl _)
 unfold kL gW;dsimp only;rw[hn,hb,decide_eq_false h1,decide_eq_true (show(p.length:Int)<=12 by omega),decide_eq_true (show(v.length:Int)<=80 by omega),decide_eq_true (show(0:Int)<=(p.length:Int)by omega)];rfl
end
end Go.Proofs.YtoibaecagklkaaaGreatDoor
