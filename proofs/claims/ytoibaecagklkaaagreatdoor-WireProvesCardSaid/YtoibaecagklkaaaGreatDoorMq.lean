/- A part of the proof. -/
import Derived.Test.YtoibaecagklkaaaGreatDoorMp
open Bool renaming and_eq_true->N,and_false->cD,false->C,false_and->c4,false_eq_true->V,not_eq_true'->c5,or_eq_false_iff->c6,or_eq_true->L,true->A,true_eq_false->Y
open Go.IntKind renaming i64->G
open Go.Op renaming bytesLess->D
open Int renaming eq_ofNat_of_zero_le->c7,toNat_natCast->Z
open List renaming append_assoc->c_,append_nil->O,cons_append->a!,drop_succ_cons->c!,filter_congr->bf,filter_cons_of_neg->Q,filter_cons_of_pos->R,filter_eq_nil_iff->b5,flatMap_cons->M,flatMap_map->dm,getD_eq_getElem?_getD->b6,getElem?_eq_getElem->b7,getElem?_eq_none->dQ,getElem?_map->d_,getElem?_range->d!,getLastD_cons->ec,length->ef,length_append->b9,length_cons->an,length_take->b_,map_cons->b!,mem_cons->P,mem_cons_of_mem->az,mem_cons_self->K,mem_filter->S,mem_map->cl,mem_range->ct,not_mem_nil->W,pairwise_cons->aN,range->J,range_succ_eq_map->ei,take_append_drop->ej,take_succ_cons->aO
open Option renaming map_some->ek,none->F,some->I
open UInt8 renaming le_antisymm->en,lt_irrefl->a_,not_lt->cx,ofNat->H,ofNat_toNat->cy,toNat_ofNat'->X
namespace Go.Proofs.YtoibaecagklkaaaGreatDoor
open Go Sx
variable {b p q:f_}{m:Nat}{x:Nd}{ty:TypeId}
section
open Go Sx
set_option maxRecDepth 20000
theorem kW {z:Bool}{n n':Nat}{cs cs':List av}{tot tot':Nat}(hn:n=n')(ht:tot=tot')(hl:cs.length=cs'.length)
  (h: ∀(k:Nat) (c c':av),cs[k]?=I c->cs'[k]?=I c'->∀ i,i<n->∀ E,(c'.at i).val E=(c.at i).val E):aa (.rows z n cs C tot ty) (.rows z n' cs' C tot' ty):=by
 subst hn;subst ht;refine aa.of rfl rfl λhno=>⟨hno,λE o ⟨c,fr,h1,h2,h3,h4,h5⟩=>⟨c,fr,h1,h2,by rw[← hl];exact h3,h4,λi k col hi hk=> ?_⟩,id⟩
 have hk0:k<cs.length:=by rw[hl];exact(List.getElem?_eq_some_iff.1 hk).1
 rw[h k _ col (b7 hk0) hk i hi E,← hl];exact h5 i k _ hi (b7 hk0)
theorem sS {α:Type}(l:List α)(x d:α)(i:Nat)(h:i<l.length+1):(l++[x]).getD i d=if i<l.length then l.getD i d else [x].getD (i-l.length) d:=by
 simp only[b6];by_cases h1:i<l.length
 ·rw[r_ h1,List.getElem?_append_left h1]
 ·rw[s_ h1,List.getElem?_append_right (by omega)]
theorem QK {l:List f_}{x:f_}{c:Nat}:aa (.rows A (l.length+1) [.str λj=>if j<l.length then l.getD j [] else ck [x] (j-l.length)] C (c*1) ty) (.rows A (l++[x]).length [jz (l++[x])] C (c*1) ty):=by
 refine kW (by simp) rfl rfl λk c c' h1 h2 i hi E=> ?_;cases k with
 | zero =>simp only[List.getElem?_cons_zero,Option.some.injEq] at h1 h2;subst h1;subst h2;simp only[jz,av.at,SV.val,sS l x [] i hi];rfl
 | succ k=>simp at h1
theorem nL {a:f_}:aa (SB.cells [SV.str A a,SV.str C b] 2 ty) (SB.cells [SV.str C (a,b).1,SV.str C (a,b).2] 2 ty):=aa.cells (λ_=>rfl) rfl
theorem ZB.zero (E:Nat->Nat):SV.val E (SV.agg [SV.int .i64 A 0,SV.str A [],SV.str A [],SV.str A [],SV.str A [],SV.str A [],SV.str A [],SV.str A [],SV.str A [],SV.str A [],SV.str A [],SV.str A [],SV.str A [],SV.str A [],SV.str A [],SV.str A [],SV.str A [],SV.str A [],SV.str A []])=SV.val E dc:=rfl
section
attribute [local irreducible] bG getD
theorem I4 {x:Ae×f_}(hw:x.1.w.Ok)(hs:x.1.s.Small)(hc:x.1.s.ns.length<=x.1.c1/\x.1.s.fs.length<=x.1.c2):ay (runM oK 83 Tryz.f83 xS x):=by
 refine ay.mS (Y1 x) (by delta Bk Fk;exact rfl) ?_;obtain⟨⟨w,s,c1,c2⟩,t⟩:=x;dsimp only at hw hs hc ⊢;have hu:=hs.u t;have hn:=hs.ns;have eu:dflt (s.ud t) (s.us t)=s.used t:=rfl;have el:cL w t=(w.ad t&&bG (w.f (w.ag t).toNat)):=rfl;have ea:w.at t=w.f (w.ag t).toNat:=rfl;obtain⟨hc1,hc2⟩:=hc;have ez:=ZB.zero;simp only[eu,Nat.zero_add];cases hA:w.ad t with
 | false =>rw[hA] at el;simp only[el,c4,Bool.not_false,V,Y,false_imp_iff,forall_const,true_and,and_true];exact⟨(_,_),ez,nL⟩
 | true =>
   obtain⟨b1,b2⟩:=hw.a t hA;have hf:=hw.f (w.ag t).toNat (by omega);rw[hA] at el;have ed:dflt A (w.ag t)=w.ag t:=rfl;simp only[ed,Bool.not_true,V,false_imp_iff,forall_const,true_and];refine⟨⟨b1,b2⟩,by omega,⟨by omega,by omega⟩,λhB=> ?_,λhB=> ?_⟩
   ·rw[hB] at el;simp only[el,Bool.and_self,Y,false_imp_iff,forall_const,and_true];refine⟨λh0=>⟨⟨Nat.le_refl _,by omega,by omega⟩,λc hcc=>⟨by omega,?_⟩⟩,λh0=>⟨by omega,?_⟩⟩
    ·have h0:=l_ h0;rw[r_ h0,b9];have h1:(Wk.take w s t).ns=s.ns++[w.f (w.ag t).toNat]:=by show(if s.used t=0 then _ else _)=_;rw[r_ h0];rfl
     have hns:aa (.rows A (s.ns.length+1) [.str λj=>if j<s.ns.length then s.ns.getD j [] else ck [w.f (w.ag t).toNat] (j-s.ns.length)] C (c*1) 9) (dY (Wk.take w s t) c):=by unfold dY;rw[h1];exact QK
     have hl:s.ns.length+[w.at t].length<=c:=hcc;refine⟨(c,c2),?_⟩
     repeat' first
      | assumption
      | exact nL
      | exact aa.refl _
      | refine And.intro ?_ ?_
      | exact λ_=>rfl
      | rfl
      | omega
      | exact trivial
      | fail
    ·have h0:=m_ h0;rw[s_ h0];have h1:(Wk.take w s t).ns=s.ns:=by show(if s.used t=0 then _ else _)=_;rw[s_ h0]
     have hns:aa (.rows A s.ns.length [jz s.ns] C (c1*1) 9) (dY (Wk.take w s t) c1):=by unfold dY;rw[h1];exact aa.refl _
     refine⟨(c1,c2),?_⟩
     repeat' first
      | assumption
      | exact nL
      | exact aa.refl _
      | refine And.intro ?_ ?_
      | exact λ_=>rfl
      | rfl
      | omega
      | exact trivial
      | fail
   ·rw[hB] at el;simp only[el,cD,V,false_imp_iff,forall_const,true_and];exact⟨(_,_),ez,nL,trivial⟩
end
theorem TH:ax Tryz.prog 83 (cM xS) :=fT (n:=20) Tryz.func83 (by kernel_rfl) (by kernel_rfl) xS λx hx=>⟨oK,Cp,rfl,I4 hx.1 hx.2.1 hx.2.2.1⟩
noncomputable def Ic:List (FuncId×PT):=(83,cM xS)::(43,bn Bh)::(42,bn tT)::(130,bY xq)::gy
theorem y6:bp Tryz.prog (λf=>aD f Ic):=.cons TH (cz _) (.cons V6 (aS _) (.cons KS (aS _) (.cons QG (bO _) dj)))
noncomputable def PN:fD:={cv with cT:=λf=>aD f Ic}
theorem adZ:Sx.Good Tryz.prog PN:=.of bR y6 bq
end
section
open Go Sx
set_option maxRecDepth 20000
theorem Pf (x:Ae×f_):VC.holds (runM PN 132 Tryz.f132 pL x)=((λj:SV=>((λd:SB=>((Rel 9223372036854775808 x.2/\Bk (bH x.2) (Bk (bH x.2) (∃(e:Nat×Nat),(x.1.s.ns.length<=e.1/\x.1.s.fs.length<=e.2)/\(∀(l:Nat->Nat),SV.val l (SV.agg (bh (getD x.2)))=SV.val l (getD x.2).sv)/\(7:Nat)=(7:Nat)/\x.1.w.fr=x.1.w.fr/\x.1.w.to=x.1.w.to/\(0:Nat)=(0:Nat)/\(0:Nat)=(0:Nat)/\((0:Nat)=(0:Nat)/\x.1.s.ns.length=x.1.s.ns.length/\x.1.c1=e.1)/\True/\(x.1.s.lk:Int)=(x.1.s.lk:Int)/\((0:Nat)=(0:Nat)/\x.1.s.fs.length=x.1.s.fs.length/\x.1.c2=e.2)/\True/\aa (ff x.1.s) (ff x.1.s)/\aa (SB.rows A x.1.s.ns.length [jz x.1.s.ns] C (x.1.c1*1) 9) (dY x.1.s e.1)/\aa (SB.rows A x.1.s.fs.length [bU x.1.s.fs,bV x.1.s.fs] C (x.1.c2*2) 50) (dH x.1.s e.2)/\aa (SB.cells [SV.map 5] 1 90) (SB.cells [SV.map 5] 1 90)/\aa (SB.fmap x.1.w.ad (aE.int G x.1.w.ag) F) (SB.fmap x.1.w.ad (aE.int G x.1.w.ag) F)/\aa d d/\True) (Bk (bw x.2) (Bk (cL x.1.w (af x.2)) (∃(g:Nat×Nat),((if x.1.s.used (af x.2)=0 then x.1.s.ns++[x.1.w.at (af x.2)] else x.1.s.ns).length<=g.1/\x.1.s.fs.length<=g.2)/\(∀(m:Nat->Nat),SV.val m (SV.agg (bh (getD x.2)))=SV.val m (getD (x.1.w.at (af x.2))).sv)/\(7:Nat)=(7:Nat)/\x.1.w.fr=x.1.w.fr/\x.1.w.to=x.1.w.to/\(0:Nat)=(0:Nat)/\(0:Nat)=(0:Nat)/\((0:Nat)=(0:Nat)/\x.1.s.ns.length=(if x.1.s.used (af x.2)=0 then x.1.s.ns++[x.1.w.at (af x.2)] else x.1.s.ns).length/\x.1.c1=g.1)/\True/\(x.1.s.lk:Int)=(x.1.s.lk:Int)/\((0:Nat)=(0:Nat)/\x.1.s.fs.length=x.1.s.fs.length/\x.1.c2=g.2)/\True/\aa (SB.fmap x.1.s.ud (aE.int G x.1.s.us) F) (ff (Wk.take x.1.w x.1.s (af x.2)))/\aa (SB.rows A x.1.s.ns.length [jz x.1.s.ns] C (x.1.c1*1) 9) (dY (Wk.take x.1.w x.1.s (af x.2)) g.1)/\aa (SB.rows A x.1.s.fs.length [bU x.1.s.fs,bV x.1.s.fs] C (x.1.c2*2) 50) (dH (Wk.take x.1.w x.1.s (af x.2)) g.2)/\aa (SB.cells [SV.map 5] 1 90) (SB.cells [SV.map 5] 1 90)/\aa (SB.fmap x.1.w.ad (aE.int G x.1.w.ag) F) (SB.fmap x.1.w.ad (aE.int G x.1.w.ag) F)/\aa d d/\True) (∃(_:f_×f_),False)) (∃(_:f_×f_),False))) (x.2.length<9223372036854775808/\Bk (bw x.2) (∃(a:Ae×f_),(a.1.w.Ok/\a.1.s.Small/\(a.1.s.ns.length<=a.1.c1/\a.1.s.fs.length<=a.1.c2)/\True)/\(0:Nat)=(0:Nat)/\af x.2=a.2/\(7:Nat)=(7:Nat)/\x.1.w.fr=a.1.w.fr/\x.1.w.to=a.1.w.to/\(0:Nat)=(0:Nat)/\(0:Nat)=(0:Nat)/\((0:Nat)=(0:Nat)/\x.1.s.ns.length=a.1.s.ns.length/\x.1.c1=a.1.c1)/\True/\(x.1.s.lk:Int)=(a.1.s.lk:Int)/\((0:Nat)=(0:Nat)/\x.1.s.fs.length=a.1.s.fs.length/\x.1.c2=a.1.c2)/\True/\aa (SB.fmap x.1.s.ud (aE.int G x.1.s.us) F) (ff a.1.s)/\aa (SB.rows A x.1.s.ns.length [jz x.1.s.ns] C (x.1.c1*1) 9) (dY a.1.s a.1.c1)/\aa (SB.rows A x.1.s.fs.length [bU x.1.s.fs,bV x.1.s.fs] C (x.1.c2*2) 50) (dH a.1.s a.1.c2)/\(1:Nat)=(1:Nat)/\aa (SB.fmap x.1.w.ad (aE.int G x.1.w.ag) F) (SB.fmap a.1.w.ad (aE.int G a.1.w.ag) F)/\(1:Nat)=(1:Nat)/\(x.1.w.z=a.1.w.z/\x.1.w.o=a.1.w.o/\(0:Nat)=(0:Nat)/\x.1.w.n=a.1.w.n/\x.1.w.c=a.1.w.c)/\aa (SB.view x.1.w.z x.1.w.o x.1.w.n [av.str x.1.w.f]) (SB.view a.1.w.z a.1.w.o a.1.w.n [av.str a.1.w.f])/\Bk (cL a.1.w a.2) (∀(b:Nat×Nat),(if a.1.s.used a.2=0 then a.1.s.ns++[a.1.w.at a.2] else a.1.s.ns).length<=b.1/\a.1.s.fs.length<=b.2->Bk (bH x.2) (∃(h:Nat×Nat),(x.1.s.ns.length<=h.1/\x.1.s.fs.length<=h.2)/\(∀(p:Nat->Nat),SV.val p (SV.agg (bh (getD (a.1.w.at a.2))))=SV.val p (getD x.2).sv)/\(7:Nat)=(7:Nat)/\a.1.w.fr=x.1.w.fr/\a.1.w.to=x.1.w.to/\(0:Nat)=(0:Nat)/\(0:Nat)=(0:Nat)/\((0:Nat)=(0:Nat)/\(if a.1.s.used a.2=0 then a.1.s.ns++[a.1.w.at a.2] else a.1.s.ns).length=x.1.s.ns.length/\b.1=h.1)/\True/\(a.1.s.lk:Int)=(x.1.s.lk:Int)/\((0:Nat)=(0:Nat)/\a.1.s.fs.length=x.1.s.fs.length/\b.2=h.2)/\True/\aa (SB.fmap (dZ a.1.s.ud a.2) (aE.int G (gA a.1.s.us a.2 (a.1.s.used a.2+1))) F) (ff x.1.s)/\aa (SB.rows A (if a.1.s.used a.2=0 then a.1.s.ns++[a.1.w.at a.2] else a.1.s.ns).length [av.str λL=>(if a.1.s.used a.2=0 then a.1.s.ns++[a.1.w.at a.2] else a.1.s.ns).getD L []] C (b.1*1) 9) (dY x.1.s h.1)/\aa (SB.rows A a.1.s.fs.length [av.str λM=>(a.1.s.fs.getD M ([],[])).1,av.str λN=>(a.1.s.fs.getD N ([],[])).2] C (b.2*2) 50) (dH x.1.s h.2)/\aa (SB.cells [SV.map 5] 1 90) (SB.cells [SV.map 5] 1 90)/\aa (SB.fmap a.1.w.ad (aE.int G a.1.w.ag) F) (SB.fmap x.1.w.ad (aE.int G x.1.w.ag) F)/\aa (SB.cells [SV.bE 7 1 a.1.w.z a.1.w.o 0 a.1.w.n a.1.w.c] 1 29) d/\True) (Bk (bw x.2) (Bk (cL x.1.w (af x.2)) (∃(i:Nat×Nat),((if x.1.s.used (af x.2)=0 then x.1.s.ns++[x.1.w.at (af x.2)] else x.1.s.ns).length<=i.1/\x.1.s.fs.length<=i.2)/\(∀(q:Nat->Nat),SV.val q (SV.agg (bh (getD (a.1.w.at a.2))))=SV.val q (getD (x.1.w.at (af x.2))).sv)/\(7:Nat)=(7:Nat)/\a.1.w.fr=x.1.w.fr/\a.1.w.to=x.1.w.to/\(0:Nat)=(0:Nat)/\(0:Nat)=(0:Nat)/\((0:Nat)=(0:Nat)/\(if a.1.s.used a.2=0 then a.1.s.ns++[a.1.w.at a.2] else a.1.s.ns).length=(if x.1.s.used (af x.2)=0 then x.1.s.ns++[x.1.w.at (af x.2)] else x.1.s.ns).length/\b.1=i.1)/\True/\(a.1.s.lk:Int)=(x.1.s.lk:Int)/\((0:Nat)=(0:Nat)/\a.1.s.fs.length=x.1.s.fs.length/\b.2=i.2)/\True/\aa (SB.fmap (dZ a.1.s.ud a.2) (aE.int G (gA a.1.s.us a.2 (a.1.s.used a.2+1))) F) (ff (Wk.take x.1.w x.1.s (af x.2)))/\aa (SB.rows A (if a.1.s.used a.2=0 then a.1.s.ns++[a.1.w.at a.2] else a.1.s.ns).length [av.str λO=>(if a.1.s.used a.2=0 then a.1.s.ns++[a.1.w.at a.2] else a.1.s.ns).getD O []] C (b.1*1) 9) (dY (Wk.take x.1.w x.1.s (af x.2)) i.1)/\aa (SB.rows A a.1.s.fs.length [av.str λP=>(a.1.s.fs.getD P ([],[])).1,av.str λQ=>(a.1.s.fs.getD Q ([],[])).2] C (b.2*2) 50) (dH (Wk.take x.1.w x.1.s (af x.2)) i.2)/\aa (SB.cells [SV.map 5] 1 90) (SB.cells [SV.map 5] 1 90)/\aa (SB.fmap a.1.w.ad (aE.int G a.1.w.ag) F) (SB.fmap x.1.w.ad (aE.int G x.1.w.ag) F)/\aa (SB.cells [SV.bE 7 1 a.1.w.z a.1.w.o 0 a.1.w.n a.1.w.c] 1 29) d/\True) (∃(_:f_×f_),False)) (∃(_:f_×f_),False))) (∀(k:f_×f_),Bk (bH x.2) (∃(r:Nat×Nat),(x.1.s.ns.length<=r.1/\x.1.s.fs.length<=r.2)/\False) (Bk (bw x.2) (Bk (cL x.1.w (af x.2)) (∃(t:Nat×Nat),((if x.1.s.used (af x.2)=0 then x.1.s.ns++[x.1.w.at (af x.2)] else x.1.s.ns).length<=t.1/\x.1.s.fs.length<=t.2)/\False) (∃(u:f_×f_),(∀(v:Nat->Nat),SV.val v j=SV.val v dc)/\(0:Nat)=(0:Nat)/\aa (SB.cells [SV.str C k.1,SV.str C k.2] 2 207) (SB.cells [SV.str C u.1,SV.str C u.2] 2 207)/\True)) (∃(y:f_×f_),(∀(B:Nat->Nat),SV.val B j=SV.val B dc)/\(0:Nat)=(0:Nat)/\aa (SB.cells [SV.str C k.1,SV.str C k.2] 2 207) (SB.cells [SV.str C y.1,SV.str C y.2] 2 207)/\True)))) (Bk (bH x.2) (∃(D:Nat×Nat),(x.1.s.ns.length<=D.1/\x.1.s.fs.length<=D.2)/\False) (Bk (bw x.2) (Bk (cL x.1.w (af x.2)) (∃(E:Nat×Nat),((if x.1.s.used (af x.2)=0 then x.1.s.ns++[x.1.w.at (af x.2)] else x.1.s.ns).length<=E.1/\x.1.s.fs.length<=E.2)/\False) (∃(H:f_×f_),(∀(I:Nat->Nat),SV.val I j=SV.val I dc)/\(0:Nat)=(0:Nat)/\aa (SB.cells [SV.str A [(110:UInt8),(111:UInt8),(32:UInt8),(114:UInt8),(101:UInt8),(102:UInt8),(58:UInt8)],SV.str C x.2] 2 207) (SB.cells [SV.str C H.1,SV.str C H.2] 2 207)/\True)) (∃(J:f_×f_),(∀(K:Nat->Nat),SV.val K j=SV.val K dc)/\(0:Nat)=(0:Nat)/\aa (SB.cells [SV.str A [(110:UInt8),(111:UInt8),(32:UInt8),(114:UInt8),(101:UInt8),(102:UInt8),(58:UInt8)],SV.str C x.2] 2 207) (SB.cells [SV.str C J.1,SV.str C J.2] 2 207)/\True))))))) (SB.cells [SV.bE 7 1 x.1.w.z x.1.w.o 0 x.1.w.n x.1.w.c] 1 29))) (SV.agg (SV.int .i64 A 0::SV.str A []::SV.str A []::Jo))):=by kernel_rfl
section
attribute [local irreducible] bG getD bH bw af cL
theorem DR {x:Ae×f_}(hw:x.1.w.Ok)(hs:x.1.s.Small)(hc:x.1.s.ns.length<=x.1.c1/\x.1.s.fs.length<=x.1.c2)(ht:x.2.length<9223372036854775808) :
  ay (runM PN 132 Tryz.f132 pL x):=by
 refine ay.mS (Pf x) (by delta Bk;exact rfl) ?_;obtain⟨⟨w,s,c1,c2⟩,t⟩:=x;dsimp only at hw hs hc ht ⊢;have hr:Rel 9223372036854775808 t:=⟨.inl ht,ht⟩
 have ez:=ZB.zero;have done: ∀ {p q:Nat},s.ns.length<=c1->s.fs.length<=c2->p=c1->q=c2->s.ns.length<=p/\s.fs.length<=q:=λa b c d=>by subst c;subst d;exact⟨a,b⟩
 cases h1:bH t<;>cases h2:bw t<;>cases h3:cL w (af t)
 all_goals simp only[hr,ht,V,Y,false_imp_iff,forall_const,true_and,and_true]
 all_goals first
  | exact⟨(_,_),ez,nL⟩
  | refine⟨(⟨w,s,c1,c2⟩,af t),?_⟩
  | refine⟨(c1,c2),?_⟩
 all_goals simp only[h3,hw,hs,hc,V,Y,false_imp_iff,forall_const,true_and,and_true]
 all_goals
  repeat' first
   | exact aa.refl _
   | refine And.intro ?_ ?_
   | exact λ_=>rfl
   | (intro (y:f_×f_);exact⟨y,ez,aa.refl _⟩)
   | (intro (y:Nat×Nat) hy;refine⟨y,hy,?_⟩)
   | rfl
   | exact trivial
   | fail
end
end
section
open Go Sx
set_option maxRecDepth 20000
theorem LY:ax Tryz.prog 132 (cM pL) :=fT (n:=20) Tryz.func132 (by kernel_rfl) (by kernel_rfl) pL λx hx=>⟨PN,adZ,rfl,DR hx.1 hx.2.1 hx.2.2.1 hx.2.2.2⟩
def eV (x:Nd)(p:f_)(i:Nat):f_:=if x.k=3 then cat (cat p x.p) [H i] else cat p x.p
def fe (w:Sp)(x:Nd)(p:f_):Bool:=!decide (x.v=[])&&(hasB w.fr w.to (cat p x.p)&&oS (cat p x.p))
def Wk.jm (w:Sp)(s:Wk)(x:Nd)(p:f_):Wk:={s with lk:=s.lk+1,fs:=if fe w x p=A then s.fs++[(br (cat p x.p),x.v)] else s.fs}
def i7 (w:Sp)(s:Wk)(t:f_):Option (Nd×Wk):=if bH t=A then I (getD t,s)else if(bw t&&cL w (af t))=A then I (getD (w.at (af t)),s.take w (af t))else F
def jT (w:Sp)(T:Wk->Nd->f_->Option Wk)(x:Nd)(p:f_)(i:Nat)(s:Wk):Option Wk :=
 if x.r i=[] then I s else bif bW w.fr w.to (eV x p i)then(match i7 w s (x.r i)with
  | none=>F
  | some (y,s')=>T s' y (eV x p i))else I s
def cA (w:Sp)(T:Wk->Nd->f_->Option Wk)(x:Nd)(p:f_):Nat->Wk->Option Wk
 | 0,s=>I s
 | i+1,s=>match cA w T x p i s with
   | none=>F
   | some s'=>jT w T x p i s'
def lQ (w:Sp):Nat->Wk->Nd->f_->Option Wk
 | 0,_,_,_=>F
 | m+1,s,x,p=>if 400<=s.lk then F else cA w (lQ w m) x p 16 (s.jm w x p)
def fC (w:Sp)(m:Nat)(s:Wk)(x:Nd)(p:f_):Bool:=(lQ w m s x p).isSome
def bz (w:Sp)(m:Nat)(s:Wk)(x:Nd)(p:f_):Wk:=match lQ w m s x p with
 | some s'=>s'
 | none=>s
structure Wk.Fit (s:Wk)(k:Nat):Prop where
 u: ∀ h,0<=s.used h/\s.used h<=k
 ns:s.ns.length<=k
 fs:s.fs.length<=s.lk
 lk:s.lk<=400
def Me (m:Nat):gP:=snC (Nd×f_) (λy=>[y.1.sv,.str C y.2]) (λg y=>g.s.Fit (g.s.lk+1)/\401<=g.s.lk+m/\y.1.lZ/\y.2.length<=13*g.s.lk) λg y=>.fork (fC g.w m g.s y.1 y.2) λb=>match b with
 | true=>aeH .aC g.w (bz g.w m g.s y.1 y.2)
 | false=>OR λv=>v
def Q5 (st:Sx.St):List Nat:=match st.m.get 0 with
 | some (.cells [_,_,_,_,.aX kn _ _ _ _ _,_,.aX kf _ _ _ _ _] _ _)=>[kn,kf]
 | _=>[]
def aav (g:Ae)(x:Nd)(p:f_):aY :={α:=Nat,pre:=λ_ c2=>(g.s.jm g.w x p).fs.length<=c2,kH:=λ_ _=>0,fresh:=1,slots:=λ_ _=>[],mem:=λst c2=>[(0,Ms g.w (g.s.jm g.w x p) 2 st.nx g.c1 c2),(st.nx,dH (g.s.jm g.w x p) c2)],drop:=λ_=>[3]}
def Uu (m:Nat)(g:Ae)(x:Nd)(p:f_):aY :=
 {α:=Nat×Wk×Nat×Nat,pre:=λ_ y=>y.1<=16/\cA g.w (lQ g.w m) x p y.1 (g.s.jm g.w x p)=I y.2.1/\y.2.1.ns.length<=y.2.2.1/\y.2.1.fs.length<=y.2.2.2,kH:=λ_ y=>16-y.1,fresh:=2,slots:=λ_ y=>[(10,.int .i64 C y.1)],
  mem:=λst y=>[(0,Ms g.w y.2.1 st.nx (st.nx+1) y.2.2.1 y.2.2.2),(1,ff y.2.1),(st.nx,dY y.2.1 y.2.2.1),(st.nx+1,dH y.2.1 y.2.2.2)],drop:=Q5}
def ad8 (x:Nd)(p:f_)(i:Nat):aY :={α:=Unit,pre:=λ_ _=>True,kH:=λ_ _=>0,fresh:=0,slots:=λ_ _=>[(7,.str C (eV x p i))],mem:=λ_ _=>[]}
def Kk (x:Nd)(p:f_)(st:Sx.St):Option lY:=match slot st.tmps 10 with
 | some (.int _ _ i)=>I (one (ad8 x p i.toNat))
 | _=>F
noncomputable def Ie (m:Nat):List (FuncId×PT):=(84,cM (Me m))::(132,cM pL)::Ic
noncomputable def Vh (m:Nat)(g:Ae)(x:Nd)(p:f_):fD:={cv with cT:=λf=>aD f (Ie m),aW:=λf=>if f=171 then [(1,always (Uu m g x p)),(105007,Kk x p)] else if f=84 then [(104009,always (aav g x p))] else []}
abbrev Rw:=f_×f_
def bL:f_->f_->Nat
 | a::r,b::s=>if a=b then bL r s+1 else 0
 | _,_=>0
def cm (k:Nat)(l:List Rw):List Rw:=l.map λr=>(r.1.drop k,r.2)
def lU (i:Nat)(p:f_):Bool:=match p with
 | []=>C
 | b::_=>decide (b.toNat=i)
def bI (i:Nat)(l:List Rw):List Rw:=l.filter λr=>lU i r.1
def aG (l:List Rw)(i:Nat):List Rw:=match l with
 | []=>[]
 | [_]=>[]
 | r::s::t=>if 0<bL r.1 ((s::t).getLastD r).1 then(if i=0 then cm (bL r.1 ((s::t).getLastD r).1) (r::s::t)else [])else cm 1 (bI i (r::s::t))
def fP (ref:List Rw->f_)(l:List Rw):Nd:=match l with
 | []=>e9
 | [r]=>⟨1,r.1,r.2,bJ⟩
 | r::s::t=>if 0<bL r.1 ((s::t).getLastD r).1 then⟨2,r.1.take (bL r.1 ((s::t).getLastD r).1),[],bN (ref (aG (r::s::t) 0))⟩
   else⟨3,[],if r.1=[] then r.2 else [],dK λi=>ref (aG (r::s::t) i)⟩
def bF:Nat->List Rw->Nd
 | 0,_=>e9
 | m+1,l=>fP (λl'=>if l'=[] then [] else eY (cZ (bF m l'))) l
def ctext (m:Nat)(l:List Rw):f_:=cZ (bF m l)
def cR:Nat->List Rw->List f_
 | 0,_=>[]
 | m+1,l=>(J 16).flatMap λi=>if aG l i=[] then [] else(if(ctext m (aG l i)).length<32 then [] else [ctext m (aG l i)])++cR m (aG l i)
def cX (m:Nat)(l:List Rw):List f_:=ctext m l::cR m l
def rowsOf (l:List (f_×f_)):List Rw:=l.map λe=>(au e.1,e.2)
def ak (fr to:f_)(l:List (f_×f_)):List (f_×f_):=l.filter λe=>hasB fr to (au e.1)
def ve (l:List Rw):Prop:=l.Pairwise λa b=>D a.1 b.1=A
def gL (fr to p:f_)(l:List Rw):List (f_×f_):=(l.filter λr=>hasB fr to (cat p r.1)).map λr=>(br (cat p r.1),r.2)
theorem Bd: ∀(a b:f_),bL a b<=a.length/\bL a b<=b.length
 | [],_=>by simp[bL]
 | _::_,[]=>by simp[bL]
 | a::r,b::s=>by
   unfold bL;split
   ·have:=Bd r s;simp only[an];omega
   ·simp
theorem C3: ∀(k:Nat) (a b c:f_),k<=bL a c->D b a=C->D c b=C->b.take k=a.take k
 | 0,_,_,_,_,_,_=>by simp
 | k+1,[],_,_,h,_,_=>by simp[bL] at h
 | k+1,_::_,_,[],h,_,_=>by simp[bL] at h
 | k+1,a::r,b,c::t,h,h1,h2=>by
   unfold bL at h;split at h
   ·rename_i e;subst e;cases b with
    | nil=>simp[D] at h1
    | cons b s =>
      simp only[D] at h1 h2;by_cases e1:b<a
      ·simp[e1] at h1
      ·by_cases e2:a<b
       ·simp[e2] at h2
       ·have e:b=a:=by
         apply en
         ·exact cx.1 e2
         ·exact cx.1 e1
        subst e;simp at h1 h2;rw[aO,aO,C3 k r s t (by omega) h1 h2]
   ·omega
theorem gK: ∀(a b:f_),D a b=A->D b a=C
 | _,[],h=>by simp[D] at h
 | [],_::_,_=>by simp[D]
 | a::r,b::s,h=>by
   simp only[D,L,p_,N,beq_iff_eq] at h;simp only[D,c6,q_];rcases h with h | ⟨h1,h2⟩
   ·refine⟨λe=>absurd (UInt8.lt_trans h e) (a_ _),?_⟩;have:(b==a)=false:=by rw[beq_eq_false_iff_ne];intro e;subst e;exact absurd h (a_ _)
    rw[this,c4]
   ·subst h1;refine⟨a_ _,?_⟩;rw[gK r s h2,cD]
theorem gD (a:f_):D a a=false:=by
 cases h:D a a with
 | false=>rfl
 | true=>rw[gK a a h] at h;cases h
theorem mD: ∀(r:Rw) (l:List Rw),l.getLastD r∈ r::l
 | r,[]=>by simp
 | r,s::l=>by rw[ec];exact az _ (mD s l)
theorem Gp: ∀(r:Rw) (l:List Rw),ve (r::l)->∀ x,x∈ r::l->x=l.getLastD r∨D x.1 (l.getLastD r).1=A
 | r,[],_,x,hx=>by simp only[P,W,or_false] at hx;exact .inl hx
 | r,s::l,h,x,hx=>by
   rw[ec];have h':ve (r::s::l):=h;unfold ve at h';rw[aN] at h';rcases P.1 hx with e | e
   ·subst e;exact .inr (h'.1 _ (mD s l))
   ·exact Gp s l h'.2 x e
theorem OD {r:Rw}{l:List Rw}(h:ve (r::l)){x:Rw}(hx:x∈ r::l):D x.1 r.1=false:=by
 unfold ve at h;rw[aN] at h;rcases P.1 hx with e | e
 ·subst e;exact gD _
 ·exact gK _ _ (h.1 x e)
theorem uc {r:Rw}{l:List Rw}(h:ve (r::l)){x:Rw}(hx:x∈ r::l):x.1.take (bL r.1 (l.getLastD r).1)=r.1.take (bL r.1 (l.getLastD r).1):=by
 refine C3 _ r.1 x.1 (l.getLastD r).1 (Nat.le_refl _) (OD h hx) ?_;rcases Gp r l h x hx with e | e
 ·subst e;exact gD _
 ·exact gK _ _ e
theorem FC: ∀(k:Nat) (a b:f_),a.take k=b.take k->k<=a.length->k<=b.length->D (a.drop k) (b.drop k)=D a b
 | 0,_,_,_,_,_=>rfl
 | k+1,[],_,_,h,_=>by simp at h
 | k+1,_::_,[],_,_,h=>by simp at h
 | k+1,a::r,b::s,h,h1,h2=>by rw[aO,aO] at h;injection h with e h;subst e;rw[c!,c!,FC k r s h (by simpa using h1) (by simpa using h2)];have: ¬ a<a:=a_ _;simp[D,this]
theorem DS {α:Type}(f:α->Nat)(n:Nat): ∀(l:List α),l.Pairwise (λa b=>f a<=f b)->l.filter (λx=>decide (f x<n))++l.filter (λx=>!decide (f x<n))=l
 | [],_=>rfl
 | x::l,h=>by
   rw[aN] at h;by_cases hx:f x<n
   ·rw[R (by simpa using hx),Q (by simpa using hx),a!,DS f n l h.2]
   ·have hl: ∀ y,y∈ l->¬ f y<n:=λy hy=>by have:=h.1 y hy;omega
    rw[Q (by simpa using hx),R (by simpa using hx)];rw[b5.2 (λy hy=>by simpa using hl y hy),List.nil_append];rw[List.filter_eq_self.2 (λy hy=>by simpa using hl y hy)]
theorem jH {α β:Type}{f g:α->List β}: ∀ {l:List α},(∀ i,i∈ l->f i=g i)->l.flatMap f=l.flatMap g
 | [],_=>rfl
 | a::l,h=>by rw[M,M,h a (K ..),jH λi hi=>h i (az _ hi)]
theorem wT {α:Type}(f:α->Nat): ∀(n:Nat) (l:List α),l.Pairwise (λa b=>f a<=f b)->(∀ x,x∈ l->f x<n)->(J n).flatMap (λi=>l.filter λx=>decide (f x=i))=l
 | 0,l,_,h=>by
   cases l with
   | nil=>rfl
   | cons x l=>exact absurd (h x (K ..)) (Nat.not_lt_zero _)
 | n+1,l,hp,h=>by
   have hs:=DS f n l hp;rw[List.range_succ,List.flatMap_append];have e1:(J n).flatMap (λi=>l.filter λx=>decide (f x=i))=l.filter (λx=>decide (f x<n)):=by
    have hA:=wT f n (l.filter λx=>decide (f x<n)) (hp.filter _) (λx hx=>by simpa using (S.1 hx).2);rw[← hA];have: ∀ i,i∈ J n->(l.filter λx=>decide (f x=i))=(l.filter λx=>decide (f x<n)).filter λx=>decide (f x=i):=λi hi=>by
     rw[List.filter_filter];refine bf λx _=> ?_;have hi:=ct.1 hi;by_cases e:f x=i
     ·have:f x<n:=by omega
      rw[n_ e,n_ this];rfl
     ·rw[o_ e];rfl
    rw[jH this,hA]
   have e2:[n].flatMap (λi=>l.filter λx=>decide (f x=i))=l.filter (λx=>!decide (f x<n)):=by
    simp only[M,List.flatMap_nil,O];refine bf λx hx=> ?_;have:=h x hx;by_cases e:f x=n
    ·rw[n_ e,o_ (by omega)];rfl
    ·rw[o_ e,n_ (by omega)];rfl
   rw[e1,e2,hs]
def kj (p:f_):Nat:=match p with
 | []=>0
 | b::_=>b.toNat+1
theorem WD: ∀ {a b:f_},D a b=A->kj a<=kj b
 | [],_,_=>Nat.zero_le _
 | _::_,[],h=>by simp[D] at h
 | a::r,b::s,h=>by
   simp only[D,L,p_,N,beq_iff_eq] at h;show a.toNat+1<=b.toNat+1;rcases h with h | ⟨h,_⟩
   ·have:a.toNat<b.toNat:=UInt8.lt_iff_toNat_lt.1 h;omega
   ·subst h;exact Nat.le_refl _
theorem qf (i:Nat)(p:f_):lU i p=decide (kj p=i+1):=by
 cases p with
 | nil=>simp[lU,kj]
 | cons b r=>simp[lU,kj]
theorem OE {l:List Rw}(h:ve l)(hn: ∀ x,x∈ l->kj x.1<17):l.filter (λx=>decide (kj x.1=0))++(J 16).flatMap (λi=>bI i l)=l:=by
 have hg:=wT (λx:Rw=>kj x.1) 17 l (h.imp WD) hn;have e:(J 17).flatMap (λi=>l.filter λx=>decide (kj x.1=i))=l.filter (λx=>decide (kj x.1=0))++(J 16).flatMap (λi=>bI i l):=by rw[ei,M,dm];congr 1;refine jH λi _=> ?_;unfold bI;refine bf λx _=> ?_;rw[qf]
 rw[← e];exact hg
theorem KT (fr to p:f_)(a b:List Rw):gL fr to p (a++b)=gL fr to p a++gL fr to p b:=by simp[gL,List.filter_append,List.map_append]
theorem FX (fr to p:f_)(f:Nat->List Rw): ∀(l:List Nat),gL fr to p (l.flatMap f)=l.flatMap λi=>gL fr to p (f i)
 | []=>rfl
 | i::l=>by rw[M,M,KT,FX fr to p f l]
theorem ze (fr to p q:f_)(k:Nat): ∀(l:List Rw),(∀ x,x∈ l->x.1=q++x.1.drop k)->gL fr to p l=gL fr to (cat p q) (cm k l)
 | [],_=>rfl
 | x::l,h=>by
   have ih:=ze fr to p q k l λy hy=>h y (az _ hy);have e:cat (cat p q) (x.1.drop k)=cat p x.1:=by show(p++q)++x.1.drop k=p++x.1;rw[c_,← h x (K ..)]
   unfold gL cm at ih ⊢;rw[b!];cases hb:hasB fr to (cat p x.1)with
   | true=>rw[R (p:=λr:Rw=>hasB fr to (cat p r.1)) hb,R (p:=λr:Rw=>hasB fr to (cat (cat p q) r.1)) (show hasB fr to (cat (cat p q) (x.1.drop k))=A by rw[e];exact hb),b!,b!,ih,e]
   | false=>rw[Q (p:=λr:Rw=>hasB fr to (cat p r.1)) (by simp[hb]),Q (p:=λr:Rw=>hasB fr to (cat (cat p q) r.1)) (by simp[e,hb]),ih]
theorem KU (fr to p:f_){l:List Rw}(h:ve l)(hn: ∀ x,x∈ l->kj x.1<17) :
  gL fr to p l=gL fr to p (l.filter λx=>decide (kj x.1=0))++(J 16).flatMap λi=>gL fr to (cat p [H i]) (cm 1 (bI i l)):=by
 conv=>lhs;rw[← OE h hn]
 rw[KT,FX];congr 1;refine jH λi hi=> ?_;have hi:=ct.1 hi;refine ze fr to p [H i] 1 _ λx hx=> ?_;have hx:=(S.1 hx).2;rw[qf,p_] at hx;obtain⟨q,v⟩:=x;cases q with
 | nil=>cases hx
 | cons b r =>have hb:b.toNat=i:=Nat.succ.inj hx;show b::r=[H i]++r;rw[← hb,cy];rfl
theorem Xa (fr to p:f_){r:Rw}{l:List Rw}(h:ve (r::l)) :
  gL fr to p (r::l)=gL fr to (cat p (r.1.take (bL r.1 (l.getLastD r).1))) (cm (bL r.1 (l.getLastD r).1) (r::l)) :=
 ze fr to p _ _ _ λx hx=>by rw[← uc h hx,ej]
theorem qt {a b:UInt8}{r s:f_}:D (a::r) (b::s)=C↔b<=a/\(a=b->D r s=C):=by
 simp only[D,c6,q_,cx,Bool.and_eq_false_iff,beq_eq_false_iff_ne];constructor
 ·rintro⟨h1,h2⟩;exact⟨h1,λe=>h2.resolve_left (λh=>h e)⟩
 ·rintro⟨h1,h2⟩;refine⟨h1,?_⟩;by_cases e:a=b
  ·exact .inr (h2 e)
  ·exact .inl e
theorem lD: ∀(a b c:f_),D b a=C->D c b=C->D c a=C
 | [],_,c,_,_=>by cases c<;>simp[D]
 | _::_,[],_,h,_=>by simp[D] at h
 | _::_,_::_,[],_,h=>by simp[D] at h
 | x::a,y::b,z::c,h1,h2=>by rw[qt] at h1 h2 ⊢;refine⟨UInt8.le_trans h1.1 h2.1,λe=> ?_⟩;subst e;have e:z=y:=en h1.1 h2.1;exact lD a b c (h1.2 e.symm) (h2.2 e)
theorem zk: ∀(q r:f_),D (q++r) q=C
 | [],r=>by cases r<;>simp[D]
 | a::q,r=>by rw[a!,qt];exact⟨UInt8.le_refl _,λ_=>zk q r⟩
theorem JJ: ∀(q r:f_),q.length<=bL q (q++r)
 | [],_=>Nat.zero_le _
 | a::q,r=>by rw[a!];unfold bL;rw[r_ rfl,an];have:=JJ q r;omega
theorem AB {a:f_}(h:(D a b||decide (a=b))=A):D b a=false:=by
 rw[L,p_] at h;rcases h with h | h
 ·exact gK _ _ h
 ·subst h;exact gD _
theorem Mi: ∀(a b:f_),D b a=C->(D a b||decide (a=b))=A
 | [],[],_=>by simp
 | [],_::_,_=>by simp[D]
 | _::_,[],h=>by simp[D] at h
 | x::a,y::b,h=>by
   rw[qt] at h;by_cases e:x=y
   ·subst e;have:=Mi a b (h.2 rfl);rw[L,p_] at this ⊢;rcases this with h1 | h1
    ·left;simp[D,h1]
    ·right;rw[h1]
   ·rw[L];left;have:x<y:=UInt8.lt_of_le_of_ne h.1 e;simp[D,this]
theorem Sq {fr to r:f_}(h:hasB fr to (q++r)=A):bW fr to q=true:=by
 unfold hasB at h;rw[N,c5] at h;obtain⟨h1,h2⟩:=h;have h3:=AB h2;have hq:=zk q r;unfold bW;rw[N];refine⟨Mi _ _ (lD _ _ _ hq h3),?_⟩;cases hl:D q (au fr)with
 | false=>rfl
 | true =>have ht:=C3 q.length q (au fr) (q++r) (JJ q r) (gK _ _ hl) h1;rw[List.take_length] at ht;show(C||preB q (au fr))=A;rw[Bool.false_or];unfold preB;have hl:=congrArg ef ht;rw[b_] at hl;rw[n_ ht,n_ (show q.length<=(au fr).length by omega)];rfl
theorem zf {fr to:f_}(h:bW fr to p=C)(l:List Rw):gL fr to p l=[]:=by
 unfold gL;rw[b5.2]
 ·rfl
 ·intro x _ hx;have:bW fr to p=true:=Sq (r:=x.1) hx;rw[h] at this;cases this
structure cc (m:Nat)(l:List Rw):Prop where
 zG:ve l
 len: ∀ x,x∈ l->x.1.length<m
 N1: ∀ x,x∈ l->∀ b,b∈ x.1->b.toNat<16
 val: ∀ x,x∈ l->0<x.2.length/\x.2.length<=80
theorem JS {k:Nat}{l:List Rw}(h:cc (m+1) l)(hk:0<k)(hq: ∀ x,x∈ l->k<=x.1.length/\x.1.take k=q):cc m (cm k l):=by
 refine⟨?_,λx hx=> ?_,λx hx b hb=> ?_,λx hx=> ?_⟩
 ·have hr:=h.zG;unfold ve cm at *;rw[List.pairwise_map];refine List.Pairwise.imp_of_mem (λ{a b} ha hb hab=> ?_) hr;have h1:=hq a ha;have h2:=hq b hb;show D (a.1.drop k) (b.1.drop k)=A;rw[FC k a.1 b.1 (h1.2.trans h2.2.symm) h1.1 h2.1];exact hab
 all_goals
  obtain⟨y,hy,rfl⟩:=cl.1 hx
 ·have:=h.len y hy;have:=(hq y hy).1;show(y.1.drop k).length<m;rw[List.length_drop];omega
 ·exact h.N1 y hy b (List.mem_of_mem_drop hb)
 ·exact h.val y hy
theorem Z2 {l:List Rw}(h:cc m l)(i:Nat):cc m (bI i l):=by have hm: ∀ x,x∈ bI i l->x∈ l:=λx hx=>(S.1 hx).1;exact⟨h.zG.filter _,λx hx=>h.len x (hm x hx),λx hx=>h.N1 x (hm x hx),λx hx=>h.val x (hm x hx)⟩
theorem cq (r s:Rw)(t:List Rw)(i:Nat):aG (r::s::t) i=if 0<bL r.1 ((s::t).getLastD r).1 then(if i=0 then cm (bL r.1 ((s::t).getLastD r).1) (r::s::t)else [])else cm 1 (bI i (r::s::t)):=rfl
theorem fL {l:List Rw}(h:cc (m+1) l)(i:Nat):cc m (aG l i):=by
 have nil:cc m []:=⟨List.Pairwise.nil,(λx hx=>by cases hx),(λx hx=>by cases hx),(λx hx=>by cases hx)⟩
 match l,h with
 | [],_=>exact nil
 | [_],_=>exact nil
 | r::s::t,h =>
   rw[cq];split
   ·rename_i hk;split
    ·refine JS (q:=r.1.take (bL r.1 ((s::t).getLastD r).1)) h hk λx hx=> ?_;have ht:=uc h.zG hx;refine⟨?_,ht⟩;have hl:=congrArg ef ht;rw[b_,b_] at hl;have:=(Bd r.1 ((s::t).getLastD r).1).1;omega
    ·exact nil
   ·refine JS (q:=[H i]) (Z2 h i) (Nat.succ_pos _) λx hx=> ?_;have hx:=(S.1 hx).2;rw[qf,p_] at hx;obtain⟨q,v⟩:=x;cases q with
    | nil=>cases hx
    | cons b r =>
      have hb:b.toNat=i:=Nat.succ.inj hx;refine⟨by simp,?_⟩;show [b]=[H i]
      rw[← hb,cy]
theorem M5 {r:Rw}{l:List Rw}(h:ve (r::l)):(r::l).filter (λx=>decide (kj x.1=0))=if r.1=[] then [r] else []:=by
 have hl:l.filter (λx=>decide (kj x.1=0))=[]:=by
  rw[b5];intro x hx;unfold ve at h;rw[aN] at h;have hx:=h.1 x hx;obtain⟨q,v⟩:=x;cases q with
  | nil=>simp[D] at hx
  | cons b q=>simp[kj]
 obtain⟨q,v⟩:=r;cases q with
 | nil=>rw[R (by simp[kj]),hl];rfl
 | cons b q=>rw[Q (by simp[kj]),hl,s_ (by simp)]
def zo (fr to p:f_)(x:Nd):List (f_×f_):=if x.v=[] then [] else(if hasB fr to (cat p x.p)=A then [(br (cat p x.p),x.v)] else [])
theorem KV (fr to p:f_)(r:Rw):gL fr to p [r]=if hasB fr to (cat p r.1)=A then [(br (cat p r.1),r.2)] else []:=by
 unfold gL;by_cases h:hasB fr to (cat p r.1)=A
 ·rw[r_ h,R (p:=λr:Rw=>hasB fr to (cat p r.1)) h];rfl
 ·rw[s_ h,Q (p:=λr:Rw=>hasB fr to (cat p r.1)) h];rfl
theorem mT {α:Type}{f:Nat->List α}: ∀ {l:List Nat},(∀ i,i∈ l->f i=[])->l.flatMap f=[]
 | [],_=>rfl
 | i::l,h=>by rw[M,h i (K ..),mT λj hj=>h j (az _ hj)];rfl
theorem Nc {α:Type}{f:Nat->List α}(h: ∀ i,0<i->f i=[]):(J 16).flatMap f=f 0:=by rw[ei,M,dm,mT λi _=>h _ (Nat.succ_pos _),O]
theorem FY (fr to p:f_){l:List Rw}(hl:l≠[])(h:cc (m+1) l) :
  gL fr to p l=zo fr to p (bF (m+1) l)++(J 16).flatMap λi=>gL fr to (eV (bF (m+1) l) p i) (aG l i):=by
 match l,hl,h with
 | [r],_,h =>
   have hv:r.2≠[]:=λe=>by have:=(h.val r (K ..)).1;rw[e] at this;cases this
   rw[mT (f:=λi=>gL fr to (eV (bF (m+1) [r]) p i) (aG [r] i)) λi _=>rfl,O,KV];show _=if r.2=[] then [] else _
   rw[s_ hv];rfl
 | r::s::t,_,h =>
   by_cases hk:0<bL r.1 ((s::t).getLastD r).1
   ·have hc:bF (m+1) (r::s::t)=⟨2,r.1.take (bL r.1 ((s::t).getLastD r).1),[],bN (if aG (r::s::t) 0=[] then [] else eY (cZ (bF m (aG (r::s::t) 0))))⟩:=by show fP _ (r::s::t)=_;unfold fP;dsimp only;rw[r_ hk]
    have h0: ∀ i,0<i->aG (r::s::t) i=[]:=λi hi=>by rw[cq,r_ hk,s_ (by omega)]
    rw[Nc (f:=λi=>gL fr to (eV (bF (m+1) (r::s::t)) p i) (aG (r::s::t) i)) λi hi=>by rw[h0 i hi];rfl];have e0:aG (r::s::t) 0=cm (bL r.1 ((s::t).getLastD r).1) (r::s::t):=by rw[cq,r_ hk,r_ rfl]
    rw[hc,e0,Xa fr to p h.zG];rfl
   ·have hn: ∀ x,x∈ r::s::t->kj x.1<17:=λx hx=>by
     have:=h.N1 x hx;obtain⟨q,v⟩:=x;cases q with
     | nil=>exact Nat.succ_pos _
     | cons b q =>have:=this b (K ..);show b.toNat+1<17;omega
    have hc:bF (m+1) (r::s::t)=⟨3,[],if r.1=[] then r.2 else [],dK λi=>if aG (r::s::t) i=[] then [] else eY (cZ (bF m (aG (r::s::t) i)))⟩:=by show fP _ (r::s::t)=_;unfold fP;dsimp only;rw[s_ hk]
    rw[hc,KU fr to p h.zG hn,M5 h.zG];have hp:cat p []=p:=by show p++[]=p;rw[O]
    congr 1
    ·unfold zo;dsimp only;by_cases he:r.1=[]
     ·have hv:r.2≠[]:=λe=>by have:=(h.val r (K ..)).1;rw[e] at this;cases this
      rw[r_ he,r_ he,s_ hv,KV,he]
     ·rw[s_ he,s_ he,r_ rfl];rfl
    ·refine jH λi _=> ?_;rw[cq,s_ hk];unfold eV;rw[r_ rfl];dsimp only;rw[hp]
theorem aaS : ∀ {l:List Rw},(bF (m+1) l).v≠[]->∃ x,x∈ l/\(bF (m+1) l).p=x.1
 | [],h=>absurd rfl h
 | [r],_=>⟨r,K ..,rfl⟩
 | r::s::t,h=>by
   refine⟨r,K ..,?_⟩;have e:bF (m+1) (r::s::t)=fP (λl'=>if l'=[] then [] else eY (cZ (bF m l'))) (r::s::t):=rfl
   rw[e] at h ⊢;unfold fP at h ⊢;dsimp only at h ⊢;split at h
   ·exact absurd rfl h
   ·rename_i hk;rw[s_ hk];dsimp only at h ⊢;by_cases he:r.1=[]
    ·exact he.symm
    ·rw[s_ he] at h;exact absurd rfl h
theorem aba {w:Sp}{l:List Rw}(s:Wk)(hk: ∀ x,x∈ l->oS (cat p x.1)=A):(s.jm w (bF (m+1) l) p).fs=s.fs++zo w.fr w.to p (bF (m+1) l):=by
 show(if fe w (bF (m+1) l) p=A then s.fs++[(br (cat p (bF (m+1) l).p),(bF (m+1) l).v)] else s.fs)=_
 unfold fe zo;by_cases hv:(bF (m+1) l).v=[]
 ·rw[r_ hv,n_ hv];simp
 ·obtain⟨x,hx,e⟩:=aaS hv;rw[s_ hv,o_ hv,e,hk x hx];by_cases hb:hasB w.fr w.to (cat p x.1)=A
  ·rw[r_ hb,hb];rfl
  ·have:hasB w.fr w.to (cat p x.1)=false:=by simpa using hb
   rw[s_ hb,this];simp
theorem Wt {l:List Rw}{i:Nat}(h:cc (m+1) l){x:Rw}(hx:x∈ aG l i): ∃ y,y∈ l/\cat (eV (bF (m+1) l) p i) x.1=cat p y.1:=by
 match l,h with
 | [],_=>cases hx
 | [_],_=>cases hx
 | r::s::t,h =>
   have e:bF (m+1) (r::s::t)=fP (λl'=>if l'=[] then [] else eY (cZ (bF m l'))) (r::s::t):=rfl
   rw[cq] at hx;rw[e];unfold fP;dsimp only;split at hx
   ·rename_i hk;rw[r_ hk];split at hx
    ·obtain⟨y,hy,rfl⟩:=cl.1 hx;refine⟨y,hy,?_⟩;show(p++r.1.take (bL r.1 ((s::t).getLastD r).1))++y.1.drop (bL r.1 ((s::t).getLastD r).1)=p++y.1;rw[← uc h.zG hy,c_,ej]
    ·cases hx
   ·rename_i hk;rw[s_ hk];obtain⟨y,hy,rfl⟩:=cl.1 hx;refine⟨y,(S.1 hy).1,?_⟩;have hy:=(S.1 hy).2;rw[qf,p_] at hy;obtain⟨q,v⟩:=y;cases q with
    | nil=>cases hy
    | cons b q =>have hb:b.toNat=i:=Nat.succ.inj hy;show((p++[])++[H i])++q=p++b::q;rw[← hb,cy];simp
theorem agD: ∀ a,a<16->∀ b,b<16->(a*16%256) ||| b=a*16+b:=by decide
theorem QL {a b:Int}(ha:0<=a/\a<=15)(hb:0<=b/\b<=15):bitsOf .or (a*16%256) b=a*16+b:=by
 obtain⟨x,rfl⟩:=c7 ha.1;obtain⟨y,rfl⟩:=c7 hb.1;have:=agD x (by omega) y (by omega);show(((((x:Int)*16%256).toNat ||| ((y:Int)).toNat:Nat):Int))=_;rw[show((x:Int)*16%256).toNat=x*16%256 by omega,Z,this]
 push_cast;rfl
theorem Ei {f:Nat->Int}{n j:Nat}(h:j<n)(h0:0<=f j/\f j<256):ai (dG f 0 n) (j:Int)=f j:=by unfold ai dG;rw[b6,Z,d_,d! h];simp only[ek,Option.getD_some,Nat.zero_add];rw[X];omega
theorem MO (q:f_)(j:Nat)(h:j<q.length):q[j]?=I (H (ai q (j:Int)).toNat):=by unfold ai;simp[b6,b7 h]
theorem Dk (hm:q.length=2*m)(hq: ∀ j:Nat,j<q.length->ai q (j:Int)<=15):au (br q)=q:=by
 have hnn: ∀ i,0<=ai q i:=λi=>(dW q i).1;have hl:(br q).length=m:=by rw[Dh,hm];omega
 have hpair: ∀ i:Nat,i<m->ai (br q) (i:Int)=ai q ((2*i:Nat):Int)*16+ai q ((2*i+1:Nat):Int):=λi hi=>by
  have h1:=hq (2*i) (by omega);have h2:=hq (2*i+1) (by omega);have h3:=hnn ((2*i:Nat):Int);have h4:=hnn ((2*i+1:Nat):Int);have e:iW q i=ai q ((2*i:Nat):Int)*16+ai q ((2*i+1:Nat):Int):=by unfold iW;rw[show(2*(i:Int))=((2*i:Nat):Int)by push_cast;rfl,show(((2*i:Nat):Int)+1)=((2*i+1:Nat):Int)by push_cast;rfl];exact QL ⟨h3,h1⟩ ⟨h4,h2⟩
  unfold br;rw[Ei (by rw[hm];omega) (by rw[e];omega),e]
 apply List.ext_getElem?;intro j;by_cases hj:j<q.length
 ·rw[MO q j hj];unfold au dG;rw[d_,d! (by rw[hl];omega)];simp only[ek,Nat.zero_add,Option.some.injEq];congr 2;obtain⟨i,hi⟩: ∃ i,j=2*i∨j=2*i+1:=⟨j/2,by omega⟩
  have hp:=hpair i (by omega);have h1:=hq (2*i) (by omega);have h2:=hq (2*i+1) (by omega);have h3:=hnn ((2*i:Nat):Int);have h4:=hnn ((2*i+1:Nat):Int);unfold lC;rcases hi with rfl | rfl
  ·rw[r_ (by omega),show(((2*i:Nat):Int)/2)=(i:Int)by omega,hp];omega
  ·rw[s_ (by omega),show(((2*i+1:Nat):Int)/2)=(i:Int)by omega,hp];omega
 ·rw[dQ (by rw[pg,hl];omega),dQ (by omega)]
theorem aem (h:jO p=A)(j:Nat)(hj:j<p.length):ai p (j:Int)<=15:=by have:=List.all_eq_true.1 h j (ct.2 hj);unfold Iu at this;simp only[c5,q_] at this;omega
theorem cn (b:UInt8)(l:f_)(j:Nat):ai (b::l) ((j+1:Nat):Int)=ai l (j:Int):=by unfold ai;rw[Z,Z];rfl
theorem F3 (h:jO p=A)(leaf:Bool):jN (dS p leaf)=A/\eI (dS p leaf)=leaf/\eU (dS p leaf)=p:=by
 have hp:=aem h;cases ho:decide ((p.length:Int)%2=1)with
 | true =>
   have ho':(p.length:Int)%2=1:=l_ ho;have hflag:gR leaf A<=3/\0<=gR leaf A/\gR leaf A%2=1/\(2<=gR leaf A↔leaf=A):=by cases leaf<;>decide
   have e:au (dS p leaf)=H (gR leaf A).toNat::p:=by
    unfold dS;rw[ho];refine Dk (m:=(p.length+1)/2) (by simp only[cond_true,an];omega) λj hj=> ?_;cases j with
    | zero =>show((H (gR leaf A).toNat).toNat:Int)<=15;rw[X];omega
    | succ j =>rw[cn];exact hp j (by simpa using hj)
   have e0:ai (au (dS p leaf)) 0=gR leaf true:=by rw[e];show((H (gR leaf A).toNat).toNat:Int)=_;rw[X];omega
   refine⟨xp.2 ⟨by rw[e];simp,by rw[e0];omega,.inl (by rw[e0];omega)⟩,?_,?_⟩
   ·unfold eI;rw[e0];cases leaf<;>rfl
   ·unfold eU;rw[e0,r_ hflag.2.2.1,e];rfl
 | false =>
   have ho': ¬ (p.length:Int)%2=1:=m_ ho;have hflag:gR leaf C<=3/\0<=gR leaf C/\¬ gR leaf C%2=1/\(2<=gR leaf C↔leaf=A):=by cases leaf<;>decide
   have e:au (dS p leaf)=H (gR leaf C).toNat::0::p:=by
    unfold dS;rw[ho];refine Dk (m:=(p.length+2)/2) (by simp only[cond_false,an];omega) λj hj=> ?_;cases j with
    | zero =>show((H (gR leaf C).toNat).toNat:Int)<=15;rw[X];omega
    | succ j =>
      rw[cn];cases j with
      | zero=>show((0:UInt8).toNat:Int)<=15;decide
      | succ j =>simp only[cond_false];rw[cn];exact hp j (by simpa using hj)
   have e0:ai (au (dS p leaf)) 0=gR leaf false:=by rw[e];show((H (gR leaf C).toNat).toNat:Int)=_;rw[X];omega
   refine⟨xp.2 ⟨by rw[e];simp,by rw[e0];omega,.inr (by rw[e];rfl)⟩,?_,?_⟩
   ·unfold eI;rw[e0];cases leaf<;>rfl
   ·unfold eU;rw[e0,s_ hflag.2.2.1,e];rfl
theorem kN (hb:b.length<=1048576):cw (aq b)=A/\dn (aq b)=C/\af (aq b)=b/\aF (aq b)=[]:=by
 have:=sW hb []
 rwa [O] at this
theorem qB (hb:b.length<=1048576):eo (aq b)=true:=by obtain⟨h1,h2,_,h4⟩:=kN hb;exact tY.2 ⟨h1,h2,h4⟩
theorem CV {l:List f_}(hl:(flat l).length<=1048576):cw (cU l)=A/\dn (cU l)=A/\af (cU l)=flat l/\aF (cU l)=[]:=by
 have:=KD hl []
 rwa [O] at this
theorem aaB {l:List f_}(hl:(flat l).length<=1048576):cU l≠[128]:=λh=>by have h1:=(CV hl).2.1;rw[h] at h1;exact absurd h1 (by decide)
theorem vG {l:List f_}(hl:(flat l).length<=1048576)(hw: ∀ x∈ l,cw x=A/\aF x=[]) :
  aH (cU l)=q9 (flat l)/\af (cU l)=flat l/\dD (flat l)=A/\aA (flat l)=l.length/\∀(j:Nat) (x:f_),l[j]?=I x->aj (flat l) j=x:=by
 obtain⟨h1,h2,h3,h4⟩:=CV hl;obtain⟨i1,i2,i3⟩:=vp l hw;refine⟨?_,h3,i1,i2,i3⟩;rw[aH,s_ (aaB hl),h1,h2,h4,h3];rfl
theorem xF {t:f_}(h:iU bH t=A):cw t=A/\aF t=[]/\t≠[128]/\t≠[]:=by
 have hn: ∀ {t:f_},cw t=A->t≠[]:=λh e=>by rw[e] at h;exact absurd h (by decide)
 simp only[iU,L] at h;rcases h with h | h
 ·obtain⟨⟨h1,_,h3⟩,h4⟩:=rZ.1 h;exact⟨h1,h3,λe=>by have:=lg h;rw[e] at this;simp at this,hn h1⟩
 ·obtain⟨h1,h2,h3⟩:=tI h;have hs:1<=aH t:=by
   by_cases e:aH t=0
   ·exact absurd (by unfold getD;rw[s_ (by omega),s_ (by omega),s_ (by omega)];rfl) h3
   ·omega
  obtain⟨g1,_,g3,_⟩:=DO hs;exact⟨g1,g3,λe=>by rw[e] at hs;exact absurd hs (by decide),hn g1⟩
def Jq (s:f_)(x:Nd):Prop:=0<=aH s/\(getD s).GR x
theorem m7 (j:Nat)(hj:j<16):bJ j=[]:=fF (λ_=>[]) j hj
theorem Lq {l:Int}(h:iB x l=A):jO x.p=true:=by simp only[iB,N] at h;exact h.2
theorem Lm (h:jO x.p=A)(leaf:Bool):cN x leaf=dS x.p leaf:=by rw[cN,h];rfl
theorem Zf:cw [128]=A/\aF [128]=[]:=by have:=kN (b:=[]) (by decide);exact⟨this.1,this.2.2.2⟩
attribute [local irreducible] aj af cw aF dn aA dD eo jN eI eU dS aq bA
theorem OZ (hk:x.k=1)(h:kg x=A):Jq (ki x) x:=by
 have hnib:jO x.p=true:=by simp only[kg,N] at h;exact Lq h.1
 obtain⟨h1,_,h3,h4⟩:=qo h;have l1:=lG (x:=x) (leaf:=A);have l2:=fB (cN x A);have l3:=fB x.v;have l4:=k9 (a:=aq (cN x A)) (b:=aq x.v);obtain⟨a1,a2,a3,a4⟩:=kN (b:=cN x A) (by omega);obtain⟨b1,b2,b3,b4⟩:=kN (b:=x.v) (by omega);obtain⟨s1,s2,s3,s4,s5⟩:=vG (l:=[aq (cN x A),aq x.v]) (by omega) (λy hy=>by
  simp only[P,W,or_false] at hy;rcases hy with rfl | rfl
  ·exact⟨a1,a4⟩
  ·exact⟨b1,b4⟩)
 have i0:=s5 0 _ rfl;have i1:=s5 1 _ rfl;obtain⟨n1,n2,n3⟩:=F3 hnib A;have p0:eo (aj (flat [aq (cN x A),aq x.v]) 0)=true:=by rw[i0];exact qB (by omega)
 have p1:eo (aj (flat [aq (cN x A),aq x.v]) 1)=true:=by rw[i1];exact qB (by omega)
 have c0:af (aj (flat [aq (cN x A),aq x.v]) 0)=dS x.p true:=by rw[i0,a3,Lm hnib]
 have hs:aH (ki x)=1:=by rw[ki,s1,q9,s3,s4];show o9 _=1;rw[o9,p0,c0,n1,n2,p1];rfl
 refine⟨by rw[hs];decide,?_⟩;have e:getD (ki x)=oh (ki x):=by unfold getD;rw[r_ hs]
 rw[e];unfold oh ki;rw[s2];refine⟨hk.symm,?_,?_,λj hj=> ?_⟩
 ·show eU (af (aj (flat [aq (cN x A),aq x.v]) 0))=x.p;rw[c0,n3]
 ·show af (aj (flat [aq (cN x A),aq x.v]) 1)=x.v;rw[i1,b3]
 ·rw[h4 j hj];exact m7 j hj
theorem TP (hk:x.k=2)(h:nB bH x=A):Jq (rA x) x:=by
 have hnib:jO x.p=true:=by simp only[nB,N] at h;exact Lq h.1
 obtain⟨h1,h2,h3,_,h4⟩:=tA h;have hm:iU bH (x.r 0)=true:=by simp only[iU,L];exact h4.imp id λh=>h.1
 obtain⟨r1,r2,_,_⟩:=xF hm;have rl:=nR hm;have l1:=lG (x:=x) (leaf:=C);have l2:=fB (cN x C);have l4:=k9 (a:=aq (cN x C)) (b:=x.r 0);obtain⟨a1,a2,a3,a4⟩:=kN (b:=cN x C) (by omega);obtain⟨s1,s2,s3,s4,s5⟩:=vG (l:=[aq (cN x C),x.r 0]) (by omega) (λy hy=>by
  simp only[P,W,or_false] at hy;rcases hy with rfl | rfl
  ·exact⟨a1,a4⟩
  ·exact⟨r1,r2⟩)
 have i0:=s5 0 _ rfl;have i1:=s5 1 _ rfl;obtain⟨n1,n2,n3⟩:=F3 hnib C;have p0:eo (aj (flat [aq (cN x C),x.r 0]) 0)=true:=by rw[i0];exact qB (by omega)
 have c0:af (aj (flat [aq (cN x C),x.r 0]) 0)=dS x.p false:=by rw[i0,a3,Lm hnib]
 have hs:aH (rA x)=2:=by rw[rA,s1,q9,s3,s4];show o9 _=2;rw[o9,p0,c0,n1,n2];rfl
 refine⟨by rw[hs];decide,?_⟩;have e:getD (rA x)=uT (rA x):=by unfold getD;rw[s_ (by omega),r_ hs]
 rw[e];unfold uT rA;rw[s2];refine⟨hk.symm,?_,h2.symm,λj hj=> ?_⟩
 ·show eU (af (aj (flat [aq (cN x C),x.r 0]) 0))=x.p;rw[c0,n3]
 ·show bN (aj (flat [aq (cN x C),x.r 0]) 1) j=x.r j;rw[i1];have:bN (x.r 0) j=(λi=>if i=0 then x.r 0 else []) j:=fF (λi=>if i=0 then x.r 0 else []) j hj
  rw[this];show(if j=0 then x.r 0 else [])=x.r j
  by_cases e:j=0
  ·subst e;rfl
  ·rw[s_ e,h3 j (by omega) hj]
def Jn (x:Nd):List f_:=[bZ x.r 16 0,bZ x.r 16 1,bZ x.r 16 2,bZ x.r 16 3,bZ x.r 16 4,bZ x.r 16 5,bZ x.r 16 6,bZ x.r 16 7,bZ x.r 16 8,bZ x.r 16 9,bZ x.r 16 10,bZ x.r 16 11,bZ x.r 16 12,bZ x.r 16 13,bZ x.r 16 14,bZ x.r 16 15,aq x.v]
theorem ZV (x:Nd)(j:Nat)(hj:j<16):(Jn x)[j]?=I (bZ x.r 16 j):=by
 have:j=0∨j=1∨j=2∨j=3∨j=4∨j=5∨j=6∨j=7∨j=8∨j=9∨j=10∨j=11∨j=12∨j=13∨j=14∨j=15:=by omega
 rcases this with rfl | rfl | rfl | rfl | rfl | rfl | rfl | rfl | rfl | rfl | rfl | rfl | rfl | rfl | rfl | rfl<;>rfl
theorem ZW {y:f_}(h:y∈ Jn x):(∃ j,j<16/\y=bZ x.r 16 j)∨y=aq x.v:=by
 simp only[Jn,P,W,or_false] at h;rcases h with h | h | h | h | h | h | h | h | h | h | h | h | h | h | h | h | h
 ·exact .inl ⟨0,by decide,h⟩
 ·exact .inl ⟨1,by decide,h⟩
 ·exact .inl ⟨2,by decide,h⟩
 ·exact .inl ⟨3,by decide,h⟩
 ·exact .inl ⟨4,by decide,h⟩
 ·exact .inl ⟨5,by decide,h⟩
 ·exact .inl ⟨6,by decide,h⟩
 ·exact .inl ⟨7,by decide,h⟩
 ·exact .inl ⟨8,by decide,h⟩
 ·exact .inl ⟨9,by decide,h⟩
 ·exact .inl ⟨10,by decide,h⟩
 ·exact .inl ⟨11,by decide,h⟩
 ·exact .inl ⟨12,by decide,h⟩
 ·exact .inl ⟨13,by decide,h⟩
 ·exact .inl ⟨14,by decide,h⟩
 ·exact .inl ⟨15,by decide,h⟩
 ·exact .inr h
theorem yx (r:Nat->f_)(j:Nat)(hj:j<16):(r j=[]/\bZ r 16 j=[128])∨(r j≠[]/\bZ r 16 j=r j):=by
 unfold bZ;rw[r_ hj];by_cases e:r j=[]
 ·exact .inl ⟨e,by rw[r_ e]⟩
 ·exact .inr ⟨e,by rw[s_ e]⟩
theorem PB (h:dX bH x=A):(flat (Jn x)).length<=617:=by
 obtain⟨_,h2,h3,_⟩:=pX h;have hb: ∀ j,j<16->(bZ x.r 16 j).length<=33:=λj hj=>by
  rcases yx x.r j hj with ⟨_,e⟩ | ⟨e0,e⟩
  ·rw[e];decide
  ·rw[e];rcases sA h3 hj with h | h
   ·exact absurd h e0
   ·exact nR h
 have e:flat (Jn x)=flat [bZ x.r 16 0,bZ x.r 16 1,bZ x.r 16 2,bZ x.r 16 3,bZ x.r 16 4,bZ x.r 16 5,bZ x.r 16 6,bZ x.r 16 7,bZ x.r 16 8,bZ x.r 16 9,bZ x.r 16 10,bZ x.r 16 11,bZ x.r 16 12,bZ x.r 16 13,bZ x.r 16 14,bZ x.r 16 15]++aq x.v:=by show flat ([bZ x.r 16 0,bZ x.r 16 1,bZ x.r 16 2,bZ x.r 16 3,bZ x.r 16 4,bZ x.r 16 5,bZ x.r 16 6,bZ x.r 16 7,bZ x.r 16 8,bZ x.r 16 9,bZ x.r 16 10,bZ x.r 16 11,bZ x.r 16 12,bZ x.r 16 13,bZ x.r 16 14,bZ x.r 16 15]++[aq x.v])=_;simp only[flat,List.flatten_append,List.flatten_cons,List.flatten_nil,O]
 have h6:(flat [bZ x.r 16 0,bZ x.r 16 1,bZ x.r 16 2,bZ x.r 16 3,bZ x.r 16 4,bZ x.r 16 5,bZ x.r 16 6,bZ x.r 16 7,bZ x.r 16 8,bZ x.r 16 9,bZ x.r 16 10,bZ x.r 16 11,bZ x.r 16 12,bZ x.r 16 13,bZ x.r 16 14,bZ x.r 16 15]).length<=16*33:=by
  refine Qh (m:=33) λy hy=> ?_;simp only[P,W,or_false] at hy;rcases hy with rfl | rfl | rfl | rfl | rfl | rfl | rfl | rfl | rfl | rfl | rfl | rfl | rfl | rfl | rfl | rfl
  ·exact hb 0 (by decide)
  ·exact hb 1 (by decide)
  ·exact hb 2 (by decide)
  ·exact hb 3 (by decide)
  ·exact hb 4 (by decide)
  ·exact hb 5 (by decide)
  ·exact hb 6 (by decide)
  ·exact hb 7 (by decide)
  ·exact hb 8 (by decide)
  ·exact hb 9 (by decide)
  ·exact hb 10 (by decide)
  ·exact hb 11 (by decide)
  ·exact hb 12 (by decide)
  ·exact hb 13 (by decide)
  ·exact hb 14 (by decide)
  ·exact hb 15 (by decide)
 have h7:=fB x.v;rw[e,b9];omega
theorem Ja (hk:x.k=3)(h:dX bH x=A):Jq (gj x) x:=by
 obtain⟨h1,h2,h3,_⟩:=pX h;have hl:=PB h;have hT:gj x=cU (Jn x):=rfl;obtain⟨b1,b2,b3,b4⟩:=kN (b:=x.v) (by omega);have hw: ∀ y∈ Jn x,cw y=A/\aF y=[]:=λy hy=>by
  rcases ZW hy with ⟨j,hj,rfl⟩ | rfl
  ·rcases yx x.r j hj with ⟨_,e⟩ | ⟨e0,e⟩
   ·rw[e];exact Zf
   ·rw[e];rcases sA h3 hj with g | g
    ·exact absurd g e0
    ·exact⟨(xF g).1,(xF g).2.1⟩
  ·exact⟨b1,b4⟩
 obtain⟨s1,s2,s3,s4,s5⟩:=vG (l:=Jn x) (by omega) hw;have i16:aj (flat (Jn x)) 16=aq x.v:=s5 16 _ rfl;have p16:eo (aj (flat (Jn x)) 16)=true:=by rw[i16];exact qB (by omega)
 have hs:aH (gj x)=3:=by
  rw[hT,s1,q9,s3,s4];show(bif eo (aj (flat (Jn x)) 16)then(3:Int)else -1)=3
  rw[p16];rfl
 refine⟨by rw[hs];decide,?_⟩;have e:getD (gj x)=i5 (gj x):=by unfold getD;rw[s_ (by omega),s_ (by omega),r_ hs]
 rw[e];unfold i5;rw[hT,s2];refine⟨hk.symm,h1.symm,?_,λj hj=> ?_⟩
 ·show af (aj (flat (Jn x)) 16)=x.v;rw[i16,b3]
 ·show dK (cS (flat (Jn x))) j=x.r j;have e1:dK (cS (flat (Jn x))) j=cS (flat (Jn x)) j:=fF _ j hj;rw[e1,cS,s5 j _ (ZV x j hj)];rcases yx x.r j hj with ⟨e0,e⟩ | ⟨e0,e⟩
  ·rw[e,r_ rfl,e0]
  ·rw[e];rcases sA h3 hj with g | g
   ·exact absurd g e0
   ·rw[s_ (xF g).2.2.1]
theorem O0 (h:ri x=A):Jq [128] x:=by
 obtain⟨h0,h1,h2,h3⟩:=C' h;have hs:aH [128]=0:=by decide
 refine⟨by rw[hs];decide,?_⟩;have e:getD [128]=e9:=by unfold getD;rw[s_ (by omega),s_ (by omega),s_ (by omega)]
 rw[e];exact⟨h0.symm,h1.symm,h2.symm,λj hj=>by rw[h3 j hj];exact m7 j hj⟩
theorem og :(x.k=0->cZ x=[128])/\(x.k=1->cZ x=ki x)/\(x.k=2->cZ x=rA x)/\(x.k=3->cZ x=gj x):=by unfold cZ;refine⟨λh=>by rw[r_ h],λh=>by rw[s_ (by omega),r_ h],λh=>by rw[s_ (by omega),s_ (by omega),r_ h],λh=>by rw[s_ (by omega),s_ (by omega),s_ (by omega)]⟩
theorem TQ (h:aZ x=A):Jq (cZ x) x:=by
 rcases jB h with ⟨hk,h⟩ | ⟨hk,h⟩ | ⟨hk,h⟩ | ⟨hk,h⟩
 ·rw[og.1 hk];exact O0 h
 ·rw[og.2.1 hk];exact OZ hk h
 ·rw[og.2.2.1 hk];exact TP hk h
 ·rw[og.2.2.2 hk];exact Ja hk h
theorem gJ (h:aZ x=A):bG (cZ x)=A/\(getD (cZ x)).GR x:=by
 obtain⟨h1,h2⟩:=TQ h;refine⟨?_,h2⟩;unfold bG Er;rw[n_ h1,show jq bH (getD (cZ x))=A from(uu h2).trans h,QU h2]
 simp
theorem IF (h:aZ x=A):1<=(cZ x).length/\(cZ x).length<=700:=by
 have hp: ∀ l:List f_,1<=(cU l).length/\(cU l).length<=(flat l).length+9:=λl=>by have h1:=Cr 192 (flat l).length;have h2:=lp 192 (flat l).length;unfold cU;rw[b9];omega
 rcases jB h with ⟨hk,h⟩ | ⟨hk,h⟩ | ⟨hk,h⟩ | ⟨hk,h⟩
 ·rw[og.1 hk];decide
 ·rw[og.2.1 hk];obtain⟨h1,_,h3,_⟩:=qo h;have l1:=lG (x:=x) (leaf:=A);have l2:=fB (cN x A);have l3:=fB x.v;have l4:=k9 (a:=aq (cN x A)) (b:=aq x.v);have:=hp [aq (cN x A),aq x.v];unfold ki;omega
 ·rw[og.2.2.1 hk];obtain⟨h1,h2,h3,_,h4⟩:=tA h;have hm:iU bH (x.r 0)=true:=by simp only[iU,L];exact h4.imp id λh=>h.1
  have rl:=nR hm;have l1:=lG (x:=x) (leaf:=C);have l2:=fB (cN x C);have l4:=k9 (a:=aq (cN x C)) (b:=x.r 0);have:=hp [aq (cN x C),x.r 0];unfold rA;omega
 ·rw[og.2.2.2 hk];have hl:=PB h;have:=hp (Jn x);show 1<=(cU (Jn x)).length/\(cU (Jn x)).length<=700;omega
end
section
open Go Sx
set_option maxRecDepth 20000
theorem qx (t:f_)(j:Nat)(hj:j<16):bN t j=if j=0 then t else []:=fF (λj=>if j=0 then t else []) j hj
theorem p4 (m:Nat)(l:List Rw){i:Nat}(hi:i<16):(bF (m+1) l).r i=if aG l i=[] then [] else eY (ctext m (aG l i)):=by
 match l with
 | []=>exact m7 i hi
 | [_]=>exact m7 i hi
 | r::s::t =>
   have e:bF (m+1) (r::s::t)=fP (λl'=>if l'=[] then [] else eY (cZ (bF m l'))) (r::s::t):=rfl
   rw[e];unfold fP;dsimp only;by_cases hk:0<bL r.1 ((s::t).getLastD r).1
   ·rw[r_ hk];dsimp only;rw[qx _ i hi];by_cases h0:i=0
    ·subst h0;rw[r_ rfl];rfl
    ·rw[s_ h0,cq,r_ hk,s_ h0,r_ rfl]
   ·rw[s_ hk];dsimp only;exact fF (λi=>if aG (r::s::t) i=[] then [] else eY (cZ (bF m (aG (r::s::t) i)))) i hi
theorem C6 (f:Nat->f_)(j:Nat)(hj:j<16):dK f j=f j:=fF f j hj
theorem Xc {f g:Nat->f_}(h: ∀ j,j<16->f j=g j):dK f=dK g:=by unfold dK;rw[h 0 (by decide),h 1 (by decide),h 2 (by decide),h 3 (by decide),h 4 (by decide),h 5 (by decide),h 6 (by decide),h 7 (by decide),h 8 (by decide),h 9 (by decide),h 10 (by decide),h 11 (by decide),h 12 (by decide),h 13 (by decide),h 14 (by decide),h 15 (by decide)]
def Nd.Six (x:Nd):Prop:=∃ f,x.r=dK f
theorem VW (s:f_):(getD s).Six:=by
 unfold getD;split
 ·exact⟨λ_=>[],rfl⟩
 ·split
  ·exact⟨λj=>if j=0 then aj (af s) 1 else [],rfl⟩
  ·split
   ·exact⟨_,rfl⟩
   ·exact⟨λ_=>[],rfl⟩
theorem Z1: ∀(m:Nat) (l:List Rw),(bF m l).Six
 | 0,_=>⟨λ_=>[],rfl⟩
 | _+1,[]=>⟨λ_=>[],rfl⟩
 | _+1,[_]=>⟨λ_=>[],rfl⟩
 | m+1,r::s::t=>by
   have e:bF (m+1) (r::s::t)=fP (λl'=>if l'=[] then [] else eY (cZ (bF m l'))) (r::s::t):=rfl
   rw[e];unfold fP;dsimp only;split
   ·exact⟨λj=>if j=0 then(if aG (r::s::t) 0=[] then [] else eY (cZ (bF m (aG (r::s::t) 0))))else [],rfl⟩
   ·exact⟨λi=>if aG (r::s::t) i=[] then [] else eY (cZ (bF m (aG (r::s::t) i))),rfl⟩
theorem Yj {y:Nd}(hx:x.Six)(hy:y.Six)(h:x.GR y):x=y:=by
 obtain⟨f,hf⟩:=hx;obtain⟨g,hg⟩:=hy;have hr:x.r=y.r:=by rw[hf,hg];refine Xc λj hj=> ?_;have:=h.r j hj;rw[hf,hg,C6 f j hj,C6 g j hj] at this;exact this
 obtain⟨k,p,v,r⟩:=x;obtain⟨k',p',v',r'⟩:=y;have h1:=h.k;have h2:=h.p;have h3:=h.v;dsimp only at h1 h2 h3 hr;subst h1;subst h2;subst h3;subst hr;rfl
theorem gr {l:List Rw}(h:aZ (bF m l)=A):getD (ctext m l)=bF m l:=Yj (VW _) (Z1 m l) (gJ h).2
theorem NA {v:f_}(hp:p.length<=12)(hn:jO p=A)(hv:0<v.length/\v.length<=80):aZ ⟨1,p,v,bJ⟩=true:=by
 show kg ⟨1,p,v,bJ⟩=A;have hb:cF bJ 16=0:=by decide
 have h1:v≠[]:=λe=>by rw[e] at hv;exact absurd hv.1 (Nat.lt_irrefl _)
 unfold kg iB;dsimp only;rw[hn,hb,o_ h1,n_ (show(p.length:Int)<=12 by omega),n_ (show(v.length:Int)<=80 by omega),n_ (show(0:Int)<=(p.length:Int)by omega)];rfl
end
end Go.Proofs.YtoibaecagklkaaaGreatDoor
