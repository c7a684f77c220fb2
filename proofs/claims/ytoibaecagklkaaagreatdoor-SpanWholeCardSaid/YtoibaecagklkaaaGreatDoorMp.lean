/-
  Conditions that the executor computes, written out by a program (vcgen.py).
-/
import Derived.Test.YtoibaecagklkaaaGreatDoorMo
import Derived.Test.YtoibaecagklkaaaGreatDoorMn
open And renaming intro->J
open Bool renaming and_eq_true->S,false->F,false_eq_true->cy,not_eq_true'->cS,true->C,true_eq_false->c4
open Decidable renaming decide->O
open Go.LoopState renaming ready->M
open Go.Proofs.Tryz renaming f105->c5,f128->Z,f150->c6,f157->an,func128->a_,prog->Q
open Int renaming toNat_natCast->a!
open List renaming all_eq_true->c7,getElem?_cons_succ->c8,getElem?_map->bf,map_cons->c9,mem_range->c_
open Nat renaming blt->T,blt_eq->V,le_add_right->c!,le_refl->d_,le_trans->b_,lt_of_lt_of_le->d!,mul_one->b!,not_lt_zero->W,zero_le->ct
open Option renaming none->I,some->H
namespace Go.Proofs.YtoibaecagklkaaaGreatDoor
open Go Sx
set_option maxRecDepth 20000
theorem QK (x:Nd):VC.holds (hJ AF 105 c5 [x.sv] (aag x))=((oC 9223372036854775808 fun(i:Nat)=>(cV x.r []).getD i []) /\((!aU {k:=x.k,p:=x.p,v:=x.v,r:=fun(i:Nat)=>(cV x.r []).getD i []:Nd})=C ->(aU x=C ->af (SV.aN [SV.str C [],SV.int .i64 C 1]) (SV.aN [SV.str F (cR x),SV.int .i64 C 0])) /\(aU x=F ->af (SV.aN [SV.str C [],SV.int .i64 C 1]) (SV.aN [SV.str C [],SV.int .i64 C 1]))) /\((!aU {k:=x.k,p:=x.p,v:=x.v,r:=fun(i:Nat)=>(cV x.r []).getD i []:Nd})=F ->(((0:Int)<=x.k /\x.k<=(3:Int)) /\{k:=x.k,p:=x.p,v:=x.v,r:=fun(i:Nat)=>(cV x.r []).getD i []:Nd}.oB) /\(aU x=C ->af (SV.aN [SV.str F (cR {k:=x.k,p:=x.p,v:=x.v,r:=fun(i:Nat)=>(cV x.r []).getD i []:Nd}),SV.int .i64 C 0]) (SV.aN [SV.str F (cR x),SV.int .i64 C 0])) /\(aU x=F ->af (SV.aN [SV.str F (cR {k:=x.k,p:=x.p,v:=x.v,r:=fun(i:Nat)=>(cV x.r []).getD i []:Nd}),SV.int .i64 C 0]) (SV.aN [SV.str C [],SV.int .i64 C 1])))):=by kernel_rfl
theorem abN (s:List UInt8)(R:SV->Prop):VC.holds (eD AF 150 c6 [.str F s] R)=((O ((↑s.length:Int)<(32:Int))=C ->R (SV.str F s)) /\(O ((↑s.length:Int)<(32:Int))=F ->(True /\BT [s]) /\(32:Nat)<(1152921504606846976:Nat) /\R (SV.str F (aA (aC (flat [s])))))):=by kernel_rfl
theorem aaE (L:Nat)(x:Nd)(R:SV->Prop):VC.holds (eD (M4 L) 128 Z [x.sv] R)=((λQ0:SB=>((oC 9223372036854775808 fun(i:Nat)=>(cV x.r []).getD i []) /\((!aU {k:=x.k,p:=x.p,v:=x.v,r:=fun(i:Nat)=>(cV x.r []).getD i []:Nd})=C ->R SV.aM) /\((!aU {k:=x.k,p:=x.p,v:=x.v,r:=fun(i:Nat)=>(cV x.r []).getD i []:Nd})=F ->∀(R_1:Loop),(∃(y:Nat),y<=(16:Nat) /\(0:Int)=(↑y:Int) /\aa (SB.loop M I R_1) (SB.loop M I R_1) /\aa Q0 Q0 /\aa (SB.cells SV.aM.cells 1 29) (SB.cells SV.aM.cells 1 29) /\aa (SB.cells x.sv.cells 19 138) (SB.cells x.sv.cells 19 138) /\True) /\∀(x_2:Nat),x_2<=(16:Nat) ->(O ((↑x_2:Int)<(16:Int))=C ->((0:Int)<=(↑x_2:Int) /\(↑x_2:Int)<(16:Int) /\(↑x_2:Int)<(↑(16:Nat):Int)) /\((!decide (bP (cV x.r []) (↑x_2:Int).toNat=[]))=C ->R_1=R_1 /\(bP (cV x.r []) (↑x_2:Int).toNat).length<(9223372036854775808:Nat) /\(bw (bP (cV x.r []) (↑x_2:Int).toNat)=C ->∀(c:Nat),(1:Nat)<=c ->((-9223372036854775808:Int)<=(↑x_2:Int)+(1:Int) /\(↑x_2:Int)+(1:Int)<=(9223372036854775807:Int)) /\∃(y:Nat),(y<=(16:Nat) /\(16:Nat) - y<(16:Nat) - x_2) /\(↑x_2:Int)+(1:Int)=(↑y:Int) /\aa (SB.loop M I R_1) (SB.loop M I R_1) /\aa Q0 Q0 /\aa (SB.cells [SV.slc ((5:Nat)) 0 1 F c] 1 29) (SB.cells [SV.aM] 1 29) /\aa (SB.cells x.sv.cells 19 138) (SB.cells x.sv.cells 19 138) /\True) /\(bw (bP (cV x.r []) (↑x_2:Int).toNat)=F ->Rel 9223372036854775808 (bP (cV x.r []) (↑x_2:Int).toNat) /\(bJ (bP (cV x.r []) (↑x_2:Int).toNat)=C ->zG L {k:=(getD (bP (cV x.r []) (↑x_2:Int).toNat)).k,p:=(getD (bP (cV x.r []) (↑x_2:Int).toNat)).p,v:=(getD (bP (cV x.r []) (↑x_2:Int).toNat)).v,r:=fun(i:Nat)=>(cV ((getD (bP (cV x.r []) (↑x_2:Int).toNat)).r) []).getD i []:Nd} /\H (SB.cells SV.aM.cells 1 29)=H (SB.cells SV.aM.cells 1 29) /\((-9223372036854775808:Int)<=(↑x_2:Int)+(1:Int) /\(↑x_2:Int)+(1:Int)<=(9223372036854775807:Int)) /\∃(y:Nat),(y<=(16:Nat) /\(16:Nat) - y<(16:Nat) - x_2) /\(↑x_2:Int)+(1:Int)=(↑y:Int) /\aa (SB.loop M I R_1) (SB.loop M I R_1) /\aa Q0 Q0 /\aa (SB.cells [SV.aM] 1 29) (SB.cells [SV.aM] 1 29) /\aa (SB.cells x.sv.cells 19 138) (SB.cells x.sv.cells 19 138) /\True) /\(bJ (bP (cV x.r []) (↑x_2:Int).toNat)=F ->zG L {k:=(0:Int),p:=[],v:=[],r:=fun(i:Nat)=>[[],[],[],[],[],[],[],[],[],[],[],[],[],[],[],[]].getD i []:Nd} /\H (SB.cells SV.aM.cells 1 29)=H (SB.cells SV.aM.cells 1 29) /\((-9223372036854775808:Int)<=(↑x_2:Int)+(1:Int) /\(↑x_2:Int)+(1:Int)<=(9223372036854775807:Int)) /\∃(y:Nat),(y<=(16:Nat) /\(16:Nat) - y<(16:Nat) - x_2) /\(↑x_2:Int)+(1:Int)=(↑y:Int) /\aa (SB.loop M I R_1) (SB.loop M I R_1) /\aa Q0 Q0 /\aa (SB.cells [SV.aM] 1 29) (SB.cells [SV.aM] 1 29) /\aa (SB.cells x.sv.cells 19 138) (SB.cells x.sv.cells 19 138) /\True))) /\((!decide (bP (cV x.r []) (↑x_2:Int).toNat=[]))=F ->((-9223372036854775808:Int)<=(↑x_2:Int)+(1:Int) /\(↑x_2:Int)+(1:Int)<=(9223372036854775807:Int)) /\∃(y:Nat),(y<=(16:Nat) /\(16:Nat) - y<(16:Nat) - x_2) /\(↑x_2:Int)+(1:Int)=(↑y:Int) /\aa (SB.loop M I R_1) (SB.loop M I R_1) /\aa Q0 Q0 /\aa (SB.cells SV.aM.cells 1 29) (SB.cells SV.aM.cells 1 29) /\aa (SB.cells x.sv.cells 19 138) (SB.cells x.sv.cells 19 138) /\True)) /\(O ((↑x_2:Int)<(16:Int))=F ->R SV.aM)))) (SB.cells (SV.agg (SV.int .i64 F x.k::SV.str F x.p::SV.str F x.v::cV (λi=>SV.str F (x.r i)) [])).cells 19 238)):=by kernel_rfl
theorem U' (x:Nd):VC.holds (hJ (M3 x) 128 Z [x.sv] (zX x))=((λQ0:SB=>((oC 9223372036854775808 fun(i:Nat)=>(cV x.r []).getD i []) /\((!aU {k:=x.k,p:=x.p,v:=x.v,r:=fun(i:Nat)=>(cV x.r []).getD i []:Nd})=C ->(aU x=C ->∃(x_3:Nat),aS x.r (16:Nat)<=x_3 /\False) /\(aU x=F ->af SV.aM SV.aM)) /\((!aU {k:=x.k,p:=x.p,v:=x.v,r:=fun(i:Nat)=>(cV x.r []).getD i []:Nd})=F ->∀(R:Loop),(∃(y:Nat×Nat),(y.1<=(16:Nat) /\aS x.r y.1<=y.2) /\(0:Int)=(↑y.1:Int) /\(1:Nat)=(1:Nat) /\aS x.r y.1=(0:Nat) /\(SB.rows C (aS x.r y.1) [aq.str (cK x.r y.1)] F y.2 9).no=C /\aa (SB.loop M I R) (SB.loop M I R) /\aa Q0 Q0 /\aa (SB.cells x.sv.cells 19 138) (SB.cells x.sv.cells 19 138) /\True) /\∀(x_2:Nat×Nat),x_2.1<=(16:Nat) /\aS x.r x_2.1<=x_2.2 ->(O ((↑x_2.1:Int)<(16:Int))=C ->((0:Int)<=(↑x_2.1:Int) /\(↑x_2.1:Int)<(16:Int) /\(↑x_2.1:Int)<(↑(16:Nat):Int)) /\((!decide (bP (cV x.r []) (↑x_2.1:Int).toNat=[]))=C ->R=R /\(bP (cV x.r []) (↑x_2.1:Int).toNat).length<(9223372036854775808:Nat) /\(bw (bP (cV x.r []) (↑x_2.1:Int).toNat)=C ->((0:Nat)+aS x.r x_2.1<=aS x.r x_2.1 /\True /\(2:Nat)*(aS x.r x_2.1+(1:Nat))*(16:Nat)<=(281474976710656:Nat) /\aS x.r x_2.1+(1:Nat)<(9223372036854775808:Nat)) /\x_2.2=x_2.2*(1:Nat) /\∀(c:Nat),aS x.r x_2.1+(1:Nat)<=c ->((-9223372036854775808:Int)<=(↑x_2.1:Int)+(1:Int) /\(↑x_2.1:Int)+(1:Int)<=(9223372036854775807:Int)) /\∃(y:Nat×Nat),((y.1<=(16:Nat) /\aS x.r y.1<=y.2) /\(16:Nat) - y.1<(16:Nat) - x_2.1) /\(↑x_2.1:Int)+(1:Int)=(↑y.1:Int) /\(1:Nat)=(1:Nat) /\((0:Nat)=(0:Nat) /\aS x.r x_2.1+(1:Nat)=aS x.r y.1 /\c=y.2) /\True /\aa (SB.rows C (aS x.r x_2.1+(1:Nat)) [aq.str fun(j:Nat)=>if j<aS x.r x_2.1 then cK x.r x_2.1 j else bP [ah (bP (cV x.r []) (↑x_2.1:Int).toNat)] (j - aS x.r x_2.1)] F (c*(1:Nat)) 9) (SB.rows C (aS x.r y.1) [aq.str (cK x.r y.1)] F y.2 9) /\aa (SB.loop M I R) (SB.loop M I R) /\aa Q0 Q0 /\aa (SB.cells x.sv.cells 19 138) (SB.cells x.sv.cells 19 138) /\True) /\(bw (bP (cV x.r []) (↑x_2.1:Int).toNat)=F ->Rel 9223372036854775808 (bP (cV x.r []) (↑x_2.1:Int).toNat) /\(bJ (bP (cV x.r []) (↑x_2.1:Int).toNat)=C ->zG 64 {k:=(getD (bP (cV x.r []) (↑x_2.1:Int).toNat)).k,p:=(getD (bP (cV x.r []) (↑x_2.1:Int).toNat)).p,v:=(getD (bP (cV x.r []) (↑x_2.1:Int).toNat)).v,r:=fun(i:Nat)=>(cV ((getD (bP (cV x.r []) (↑x_2.1:Int).toNat)).r) []).getD i []:Nd} /\H (SB.cells [SV.aZ ((4:Nat)) 1 C 0 (aS x.r x_2.1) x_2.2] 1 29)=H (SB.cells [SV.aZ ((4:Nat)) 1 C 0 (aS x.r x_2.1) x_2.2] 1 29) /\((0:Nat)+aS x.r x_2.1<=aS x.r x_2.1 /\True /\(2:Nat)*(aS x.r x_2.1+(0:Nat))*(16:Nat)<=(281474976710656:Nat) /\aS x.r x_2.1+(0:Nat)<(9223372036854775808:Nat)) /\x_2.2=x_2.2*(1:Nat) /\∀(c:Nat),aS x.r x_2.1+(0:Nat)<=c ->((-9223372036854775808:Int)<=(↑x_2.1:Int)+(1:Int) /\(↑x_2.1:Int)+(1:Int)<=(9223372036854775807:Int)) /\∃(y:Nat×Nat),((y.1<=(16:Nat) /\aS x.r y.1<=y.2) /\(16:Nat) - y.1<(16:Nat) - x_2.1) /\(↑x_2.1:Int)+(1:Int)=(↑y.1:Int) /\(1:Nat)=(1:Nat) /\((0:Nat)=(0:Nat) /\aS x.r x_2.1+(0:Nat)=aS x.r y.1 /\c=y.2) /\True /\aa (SB.rows C (aS x.r x_2.1+(0:Nat)) [aq.str (cK x.r x_2.1)] F (c*(1:Nat)) 9) (SB.rows C (aS x.r y.1) [aq.str (cK x.r y.1)] F y.2 9) /\aa (SB.loop M I R) (SB.loop M I R) /\aa Q0 Q0 /\aa (SB.cells x.sv.cells 19 138) (SB.cells x.sv.cells 19 138) /\True) /\(bJ (bP (cV x.r []) (↑x_2.1:Int).toNat)=F ->zG 64 {k:=(0:Int),p:=[],v:=[],r:=fun(i:Nat)=>[[],[],[],[],[],[],[],[],[],[],[],[],[],[],[],[]].getD i []:Nd} /\H (SB.cells [SV.aZ ((4:Nat)) 1 C 0 (aS x.r x_2.1) x_2.2] 1 29)=H (SB.cells [SV.aZ ((4:Nat)) 1 C 0 (aS x.r x_2.1) x_2.2] 1 29) /\((0:Nat)+aS x.r x_2.1<=aS x.r x_2.1 /\True /\(2:Nat)*(aS x.r x_2.1+(0:Nat))*(16:Nat)<=(281474976710656:Nat) /\aS x.r x_2.1+(0:Nat)<(9223372036854775808:Nat)) /\x_2.2=x_2.2*(1:Nat) /\∀(c:Nat),aS x.r x_2.1+(0:Nat)<=c ->((-9223372036854775808:Int)<=(↑x_2.1:Int)+(1:Int) /\(↑x_2.1:Int)+(1:Int)<=(9223372036854775807:Int)) /\∃(y:Nat×Nat),((y.1<=(16:Nat) /\aS x.r y.1<=y.2) /\(16:Nat) - y.1<(16:Nat) - x_2.1) /\(↑x_2.1:Int)+(1:Int)=(↑y.1:Int) /\(1:Nat)=(1:Nat) /\((0:Nat)=(0:Nat) /\aS x.r x_2.1+(0:Nat)=aS x.r y.1 /\c=y.2) /\True /\aa (SB.rows C (aS x.r x_2.1+(0:Nat)) [aq.str (cK x.r x_2.1)] F (c*(1:Nat)) 9) (SB.rows C (aS x.r y.1) [aq.str (cK x.r y.1)] F y.2 9) /\aa (SB.loop M I R) (SB.loop M I R) /\aa Q0 Q0 /\aa (SB.cells x.sv.cells 19 138) (SB.cells x.sv.cells 19 138) /\True))) /\((!decide (bP (cV x.r []) (↑x_2.1:Int).toNat=[]))=F ->((-9223372036854775808:Int)<=(↑x_2.1:Int)+(1:Int) /\(↑x_2.1:Int)+(1:Int)<=(9223372036854775807:Int)) /\∃(y:Nat×Nat),((y.1<=(16:Nat) /\aS x.r y.1<=y.2) /\(16:Nat) - y.1<(16:Nat) - x_2.1) /\(↑x_2.1:Int)+(1:Int)=(↑y.1:Int) /\(1:Nat)=(1:Nat) /\((0:Nat)=(0:Nat) /\aS x.r x_2.1=aS x.r y.1 /\x_2.2=y.2) /\True /\aa (SB.rows C (aS x.r x_2.1) [aq.str (cK x.r x_2.1)] F x_2.2 9) (SB.rows C (aS x.r y.1) [aq.str (cK x.r y.1)] F y.2 9) /\aa (SB.loop M I R) (SB.loop M I R) /\aa Q0 Q0 /\aa (SB.cells x.sv.cells 19 138) (SB.cells x.sv.cells 19 138) /\True)) /\(O ((↑x_2.1:Int)<(16:Int))=F ->(aU x=C ->∃(x_6:Nat),aS x.r (16:Nat)<=x_6 /\aa (SB.rows C (aS x.r x_2.1) [aq.str (cK x.r x_2.1)] F x_2.2 9) (SB.rows C (aS x.r 16) [aq.str (cK x.r 16)] F x_6 9) /\af (SV.aZ ((4:Nat)) 1 C 0 (aS x.r x_2.1) x_2.2) (SV.aZ ((4:Nat)) 1 C 0 (aS x.r 16) x_6)) /\(aU x=F ->af (SV.aZ ((4:Nat)) 1 C 0 (aS x.r x_2.1) x_2.2) SV.aM))))) (SB.cells (SV.agg (SV.int .i64 F x.k::SV.str F x.p::SV.str F x.v::cV (λi=>SV.str F (x.r i)) [])).cells 19 238)):=by kernel_rfl
structure Nd.EW (x y:Nd):Prop where
 k:x.k=y.k
 p:x.p=y.p
 v:x.v=y.v
 r: ∀ j,j<16->x.r j=y.r j
theorem Iu {inl:List UInt8->Bool}{r r':Nat->List UInt8}: ∀ {n:Nat},(∀ j,j<n->r j=r' j)->jB inl r n=jB inl r' n/\dn r n=dn r' n
 | 0,_=>⟨rfl,rfl⟩
 | n+1,h=>by obtain⟨h1,h2⟩:=Iu (inl:=inl) (n:=n) λj hj=>h j (by omega);simp only[jB,dn,h1,h2,h n (by omega),and_self]
theorem sX {x y:Nd}(h:x.EW y):aU x=aU y:=by
 obtain⟨h1,h2⟩:=Iu (inl:=bJ) h.r;have e0:qe x=qe y:=by
  unfold qe;rw[h.k,h.p,h.v];congr 3;rw[Bool.eq_iff_iff,c7,c7];constructor
  ·intro g j hj;rw[← h.r j (c_.1 hj)];exact g j hj
  ·intro g j hj;rw[h.r j (c_.1 hj)];exact g j hj
 have e1:kH x=kH y:=by unfold kH iq;rw[h.p,h.v,fu h.r]
 have e2:nL bJ x=nL bJ y:=by unfold nL iq;rw[h.p,h.v,fu h.r,h.r 0 (by decide)]
 have e3:dJ bJ x=dJ bJ y:=by unfold dJ;rw[h.p,h.v,h1,h2]
 unfold aU iT;rw[h.k,e0,e1,e2,e3]
theorem NV {x y:Nd}(h:x.EW y):cR x=cR y:=by
 have e1:jE x=jE y:=by unfold jE cQ;rw[h.p,h.v]
 have e2:qh x=qh y:=by unfold qh cQ;rw[h.p,h.r 0 (by decide)]
 have e3:fL x=fL y:=by
  have hb: ∀ j,j<16->bT x.r 16 j=bT y.r 16 j:=λj hj=>by unfold bT;rw[h.r j hj]
  unfold fL;rw[hb 0 (by decide),hb 1 (by decide),hb 2 (by decide),hb 3 (by decide),hb 4 (by decide),hb 5 (by decide),hb 6 (by decide),hb 7 (by decide),hb 8 (by decide),hb 9 (by decide),hb 10 (by decide),hb 11 (by decide),hb 12 (by decide),hb 13 (by decide),hb 14 (by decide),hb 15 (by decide),h.v]
 unfold cR;rw[h.k,e1,e2,e3]
theorem pP (x:Nd):Nd.EW {k:=x.k,p:=x.p,v:=x.v,r:=fun(i:Nat)=>[x.r 0,x.r 1,x.r 2,x.r 3,x.r 4,x.r 5,x.r 6,x.r 7,x.r 8,x.r 9,x.r 10,x.r 11,x.r 12,x.r 13,x.r 14,x.r 15].getD i []} x:=⟨rfl,rfl,rfl,λj hj=>fy x.r j hj⟩
theorem Nd.oB.same {x y:Nd}(h:x.EW y)(hf:y.oB):x.oB:=⟨by rw[h.p];exact hf.p,by rw[h.v];exact hf.v,λj hj=>by rw[h.r j hj];exact hf.r j hj⟩
def Fits (x:Nd):Prop:=∀ j,j<16->(x.r j).length<9223372036854775808
theorem AW {x:Nd}(h:Fits x):oC 9223372036854775808 (fun(i:Nat)=>[x.r 0,x.r 1,x.r 2,x.r 3,x.r 4,x.r 5,x.r 6,x.r 7,x.r 8,x.r 9,x.r 10,x.r 11,x.r 12,x.r 13,x.r 14,x.r 15].getD i []):=λj hj=>by show Rel _ ([x.r 0,x.r 1,x.r 2,x.r 3,x.r 4,x.r 5,x.r 6,x.r 7,x.r 8,x.r 9,x.r 10,x.r 11,x.r 12,x.r 13,x.r 14,x.r 15].getD j []);rw[fy x.r j hj];exact⟨.inl (h j hj),h j hj⟩
theorem LR:az Q 105 (cH (sE λx=>H (Fits x,aag x))):=by
 refine ew (n:=20) (fn:=c5) Tryz.func105 (by kernel_rfl) (by kernel_rfl) ?_;intro args p a h hp;obtain⟨x,hx,hg⟩:=BK h;subst hx;injection hg with hg;injection hg with h1 h2;subst h1;subst h2;refine⟨AF,KV,rfl,λb=>by cases b<;>exact rfl,aB.of_eq (QK x) ?_⟩
 have e:=sX (pP x);have e2:=NV (pP x);refine⟨AW hp,λa=> ?_,λa=> ?_⟩
 ·rw[e] at a;have a:aU x=false:=by simpa using a
  rw[a];exact⟨(λh=>by cases h),λ_ _=>rfl⟩
 ·rw[e] at a;have a:aU x=true:=by simpa using a
  have hs:=gS a;rw[e2,a];exact⟨⟨hs.k,Nd.oB.same (pP x) hs.few⟩,λ_ _=>rfl,λh=>by cases h⟩
theorem XZ (s:List UInt8):flat [s]=s:=by simp[flat]
theorem acd {s:List UInt8}(h:s.length<1152921504606846976):True/\BT [s]:=⟨trivial,by rw[XZ];exact h,by simp⟩
def Gq:List SV->Option (Prop×SV)
 | [.str F s]=>H (s.length<1152921504606846976,.str F (eS s))
 | _=>I
theorem LS:az Q 150 (aY Gq):=by
 refine iJ KV (n:=20) (fn:=c6) Tryz.func150 (by kernel_rfl) (by kernel_rfl) ?_;intro args p r h hp;unfold Gq at h;split at h
 ·rename_i s;injection h with h;injection h with h1 h2;subst h1;subst h2;refine⟨rfl,rfl,aB.of_eq (abN s _) ⟨λa=> ?_,λa=>⟨acd hp,by omega,?_⟩⟩⟩
  ·have a:=of_decide_eq_true a;exact gQ (by rw[eS,if_pos (by omega)])
  ·have a:=of_decide_eq_false a;exact gQ (by rw[eS,if_neg (by omega),XZ])
 ·cases h
theorem IN {L:Nat}{x:Nd}(h:zG L x): ∃ K,L=K+1/\∀ j,j<16->x.r j=[]∨((x.r j).length<K/\(x.r j).length<32):=by
 cases L with
 | zero=>exact h.elim
 | succ K=>exact⟨K,rfl,h⟩
theorem PF {L:Nat}{x:Nd}(h:zG L x):Fits x:=λj hj=>by
 obtain⟨K,_,h⟩:=IN h;rcases h j hj with h | h
 ·rw[h];simp
 ·omega
theorem F8 {L:Nat}{t:List UInt8}(hk:0<=au t)(h:t.length<L)(h32:t.length<32):zG L (getD t):=by
 cases L with
 | zero=>exact absurd h (W _)
 | succ L =>
   intro j _;by_cases e:(getD t).r j=[]
   ·exact .inl e
   ·have:=Gr hk j e;exact .inr ⟨by omega,by omega⟩
theorem Eg {L:Nat}{x y:Nd}(h:x.EW y)(hn:zG L y):zG L x:=by
 cases L with
 | zero=>exact hn.elim
 | succ L=>intro j hj;rw[h.r j hj];exact hn j hj
theorem Eh {L:Nat}(h:0<L):zG L e8:=by
 cases L with
 | zero=>omega
 | succ L=>intro j hj;exact .inl (fy (λ_=>[]) j hj)
theorem sj {t:List UInt8}(h:bJ t=C):0<=au t/\bg t=C/\(getD t).k≠0:=by
 rw[xA] at h;simp only[S,decide_eq_true_eq,cS,decide_eq_false_iff_not] at h;refine⟨?_,h.2.1,h.2.2⟩;by_cases g:0<=au t
 ·exact g
 ·rw[SN g] at h;exact absurd h.2.1 (by decide)
theorem PG {L:Nat}(hH:az Q 128 (aY (qY L))):az Q 128 (aY (qY (L+1))):=by
 refine Ef a_ (by kernel_rfl) (by kernel_rfl) λx p v h hp=> ?_;injection h with h;injection h with h1 h2;subst h1;subst h2;have hp:zG (L+1) x:=hp;refine⟨M4 L,[x.sv],.of bR (bn.cons hH (aR _) sw) bl,λE=>rfl,rfl,rfl,aB.of_eq (aaE L x _) ?_⟩;refine⟨AW (PF hp),λ_ _=>rfl,λ_ R=>⟨⟨0,by omega,rfl,aa.refl _,aa.refl _,aa.refl _,aa.refl _,trivial⟩,λi hi=>⟨λc=> ?_,λ_ _=>rfl⟩⟩⟩;have c:=of_decide_eq_true c;have ei:i<16:=by omega
 rw[a!,zn x.r ei];refine⟨by omega,λd=> ?_,λd=>⟨by omega,i+1,by omega,by omega,aa.refl _,aa.refl _,aa.refl _,aa.refl _,trivial⟩⟩;have d: ¬ x.r i=[]:=by simpa using d
 obtain⟨hl,h32⟩:(x.r i).length<L/\(x.r i).length<32:=by
  rcases hp i ei with h | h
  ·exact absurd h d
  ·exact h
 have hlp:0<L:=by omega
 refine⟨rfl,by omega,λe=> ?_,λe=>⟨⟨.inl (by omega),by omega⟩,λf=>⟨?_,rfl,by omega,i+1,by omega,by omega,aa.refl _,aa.refl _,aa.refl _,aa.refl _,trivial⟩,λf=>⟨Eh hlp,rfl,by omega,i+1,by omega,by omega,aa.refl _,aa.refl _,aa.refl _,aa.refl _,trivial⟩⟩⟩
 ·have:=lT e;omega
 ·exact Eg (pP (getD (x.r i))) (F8 (sj f).1 hl h32)
theorem IM: ∀ L,az Q 128 (aY (qY L))
 | 0=>Ef a_ (by kernel_rfl) (by kernel_rfl) λx p v h hp=>by injection h with h;injection h with h1 h2;subst h1;exact hp.elim
 | L+1=>PG (IM L)
theorem vn (r:Nat->List UInt8): ∀ i,aS r i<=i
 | 0=>d_ _
 | i+1=>by have:=vn r i;unfold aS;cases bw (r i)<;>simp only[cond_true,cond_false]<;>omega
theorem Zk (x:Nd):Sx.Good Q (M3 x):=.of bR (bn.cons (IM 64) (aR _) sw) bl
theorem HO {r:Nat->List UInt8}{i:Nat}(h:bw (r i)=C)(j:Nat)(hj:j<aS r i+1):(if j<aS r i then cK r i j else bP [ah (r i)] (j - aS r i))=cK r (i+1) j:=by
 show _=(bif bw (r i)then(if j=aS r i then ah (r i)else cK r i j)else cK r i j)
 rw[h];simp only[cond_true];by_cases e:j<aS r i
 ·rw[if_pos e,if_neg (by omega)]
 ·have e:j=aS r i:=by omega
  subst e;rw[if_neg (by omega),if_pos rfl,Nat.sub_self];rfl
theorem uf {r:Nat->List UInt8}{i:Nat}(h:bw (r i)=C):aS r (i+1)=aS r i+1:=by rw[aS,h];rfl
theorem ey {r:Nat->List UInt8}{i:Nat}(h:bw (r i)=F):aS r (i+1)=aS r i/\∀ j,cK r (i+1) j=cK r i j:=by
 refine⟨by rw[aS,h];rfl,λj=> ?_⟩;show(bif bw (r i)then(if j=aS r i then ah (r i)else cK r i j)else cK r i j)=_
 rw[h];rfl
theorem FF {x:Nd}(hp:Fits x):aB (hJ (M3 x) 128 Z [x.sv] (zX x)):=by
 refine aB.of_eq (U' x) ?_;have ev:=sX (pP x);rw[ev];refine⟨AW hp,λa=>⟨λb=> ?_,λ_ _=>rfl⟩,λa R=>⟨⟨(0,0),⟨ct _,d_ _⟩,rfl,rfl,rfl,rfl,aa.refl _,aa.refl _,aa.refl _,trivial⟩,λg hg=>⟨λc=> ?_,λc=> ?_⟩⟩⟩
 ·rw[b] at a;cases a
 ·have c:=of_decide_eq_true c;have ei:g.1<16:=by omega
  rw[a!,zn x.r ei];have hf:=hp g.1 ei;have hn:=vn x.r g.1;have hg2:=hg.2;have hs:aU x=true:=by simpa using a
  refine⟨by omega,λd=> ?_,λd=> ?_⟩
  ·have d: ¬ x.r g.1=[]:=by simpa using d
   refine⟨rfl,hf,λe=> ?_,λe=>⟨⟨.inl hf,hf⟩,λf=> ?_,λf=> ?_⟩⟩
   ·refine⟨⟨by omega,trivial,by omega,by omega⟩,by omega,λcap hcap=>⟨by omega,(g.1+1,cap),⟨⟨by show g.1+1<=16;omega,?_⟩,by show 16 - (g.1+1)<_;omega⟩,by show(g.1:Int)+1=((g.1+1:Nat):Int);omega,rfl,⟨rfl,(uf e).symm,rfl⟩,trivial,?_,aa.refl _,aa.refl _,aa.refl _,trivial⟩⟩
    ·show aS x.r (g.1+1)<=cap;rw[uf e];exact hcap
    ·exact Sx.aa.wv (uf e).symm (b! cap) λj hj=>HO e j hj
   ·have hk:=sj f;have hil:=oX f;refine⟨Eg (pP (getD (x.r g.1))) (F8 hk.1 (by omega) hil),rfl,⟨by omega,trivial,by omega,by omega⟩,by omega,λcap hcap=>⟨by omega,(g.1+1,cap),⟨⟨by show g.1+1<=16;omega,?_⟩,by show 16 - (g.1+1)<_;omega⟩,by show(g.1:Int)+1=((g.1+1:Nat):Int);omega,rfl,⟨rfl,(ey e).1.symm,rfl⟩,trivial,?_,aa.refl _,aa.refl _,aa.refl _,trivial⟩⟩
    ·show aS x.r (g.1+1)<=cap;rw[(ey e).1];exact hcap
    ·exact Sx.aa.wv (ey e).1.symm (b! cap) λj _=>((ey e).2 j).symm
   ·refine⟨Eh (by decide),rfl,⟨by omega,trivial,by omega,by omega⟩,by omega,λcap hcap=>⟨by omega,(g.1+1,cap),⟨⟨by show g.1+1<=16;omega,?_⟩,by show 16 - (g.1+1)<_;omega⟩,by show(g.1:Int)+1=((g.1+1:Nat):Int);omega,rfl,⟨rfl,(ey e).1.symm,rfl⟩,trivial,?_,aa.refl _,aa.refl _,aa.refl _,trivial⟩⟩
    ·show aS x.r (g.1+1)<=cap;rw[(ey e).1];exact hcap
    ·exact Sx.aa.wv (ey e).1.symm (b! cap) λj _=>((ey e).2 j).symm
  ·have d:x.r g.1=[]:=by simpa using d
   have e:bw (x.r g.1)=false:=by rw[d];rfl
   refine⟨by omega,(g.1+1,g.2),⟨⟨by show g.1+1<=16;omega,?_⟩,by show 16 - (g.1+1)<_;omega⟩,by show(g.1:Int)+1=((g.1+1:Nat):Int);omega,rfl,⟨rfl,(ey e).1.symm,rfl⟩,trivial,?_,aa.refl _,aa.refl _,aa.refl _,trivial⟩
   ·show aS x.r (g.1+1)<=g.2;rw[(ey e).1];exact hg2
   ·exact Sx.aa.wv (ey e).1.symm rfl λj _=>((ey e).2 j).symm
 ·have c:=of_decide_eq_false c;have hg1:=hg.1;have e:g.1=16:=by omega
  have hg2:=hg.2;rw[e] at hg2 ⊢;exact⟨λ_=>⟨g.2,hg2,aa.refl _,λ_=>rfl⟩,λh=>by rw[h] at a;cases a⟩
theorem OZ:az Q 128 (cH (sE λx=>H (Fits x,zX x))):=by
 refine ew (n:=20) (fn:=Z) a_ (by kernel_rfl) (by kernel_rfl) ?_;intro args p a h hp;obtain⟨x,hx,hg⟩:=BK h;subst hx;injection hg with hg;injection hg with h1 h2;subst h1;subst h2;refine⟨M3 x,Zk x,rfl,λb=> ?_,FF hp⟩;cases b with
 | false=>exact rfl
 | true =>
   intro c;refine⟨rfl,rfl,λk=>by simp[SV.wf,V],λE E' k k' h=> ?_⟩;cases hn:aS x.r 16 with
   | zero=>rfl
   | succ n =>rw[hn] at h;have hk:E k=E' k':=h rfl;simp[SV.val,hk]
end Go.Proofs.YtoibaecagklkaaaGreatDoor
namespace Go.Proofs.YtoibaecagklkaaaGreatDoor.Sx
open Go
noncomputable section
mutual
def SV.aJ (ρ:Nat->Nat):SV->SV
 | .ptr k l o=>.ptr (ρ k) l o
 | .kV k w i j=>.kV (ρ k) w i j
 | .oD k b n i=>.oD (ρ k) b n i
 | .slc k o n l c=>.slc (ρ k) o n l c
 | .aZ k w z i n c=>.aZ (ρ k) w z i n c
 | .bS k w z o i n c=>.bS (ρ k) w z o i n c
 | .iE k w o i j=>.iE (ρ k) w o i j
 | .map k=>.map (ρ k)
 | .yield k=>.yield (ρ k)
 | .agg cs=>.agg (SV.jU ρ cs)
 | .aN vs=>.aN (SV.jU ρ vs)
 | .iface t v=>.iface t (v.aJ ρ)
 | .func fn a b=>.func fn (SV.jU ρ a) (SV.jU ρ b)
 | .int k l n=>.int k l n
 | .bool l b=>.bool l b
 | .str l s=>.str l s
 | .bO=>.bO
 | .aM=>.aM
 | .aK=>.aK
 | .fo=>.fo
 | .fB=>.fB
 | .raw v=>.raw v
 | .fI k a o=>.fI (ρ k) a o
 | .bU k w z a i n c=>.bU (ρ k) w z a i n c
 | .m5 k w a i j=>.m5 (ρ k) w a i j
def SV.jU (ρ:Nat->Nat):List SV->List SV
 | []=>[]
 | x::r=>x.aJ ρ::SV.jU ρ r
end
mutual
theorem SV.iL (ρ E:Nat->Nat):(v:SV)->(v.aJ ρ).val E=v.val (λk=>E (ρ k))
 | .agg cs=>by simp only[SV.aJ,SV.val,SV.rq ρ E cs]
 | .aN cs=>by simp only[SV.aJ,SV.val,SV.rq ρ E cs]
 | .iface t v=>by simp only[SV.aJ,SV.val,SV.iL ρ E v]
 | .func fn a b=>by simp only[SV.aJ,SV.val,SV.rq ρ E a,SV.rq ρ E b]
 | .ptr .. =>rfl
 | .kV .. =>rfl
 | .oD .. =>rfl
 | .slc .. =>rfl
 | .aZ .. =>rfl
 | .bS .. =>rfl
 | .iE .. =>rfl
 | .map .. =>rfl
 | .yield .. =>rfl
 | .int .. =>rfl
 | .bool .. =>rfl
 | .str .. =>rfl
 | .bO=>rfl
 | .aM=>rfl
 | .aK=>rfl
 | .fo=>rfl
 | .fB=>rfl
 | .raw .. =>rfl
 | .fI .. =>rfl
 | .bU .. =>rfl
 | .m5 .. =>rfl
theorem SV.rq (ρ E:Nat->Nat):(l:List SV)->SV.vals E (SV.jU ρ l)=SV.vals (λk=>E (ρ k)) l
 | []=>rfl
 | x::r=>by simp only[SV.jU,SV.vals,SV.iL ρ E x,SV.rq ρ E r]
end
theorem SV.me {ρ:Nat->Nat}: ∀ {l:List SV} {i:Nat} {u:SV},(SV.jU ρ l)[i]?=H u->∃ v,l[i]?=H v/\u=v.aJ ρ
 | [],i,u,h=>by simp[SV.jU] at h
 | x::r,0,u,h=>by simp[SV.jU] at h;exact⟨x,rfl,h.symm⟩
 | x::r,i+1,u,h=>by simp only[SV.jU,c8] at h;obtain⟨v,h1,h2⟩:=SV.me h;exact⟨v,by simpa using h1,h2⟩
def Hz (ρ:Nat->Nat):List (Nat×SV×SV)->List (Nat×SV×SV)
 | []=>[]
 | e::r=>(e.1,e.2.1.aJ ρ,e.2.2.aJ ρ)::Hz ρ r
theorem AR (ρ E:Nat->Nat): ∀ es:List (Nat×SV×SV),dY E (Hz ρ es)=dY (λk=>E (ρ k)) es
 | []=>rfl
 | e::r=>by have:=AR ρ E r;simp only[dY,Hz,c9] at this ⊢;rw[SV.iL,SV.iL,this]
def aq.aJ (ρ:Nat->Nat):aq->aq
 | .ref k f=>.ref (ρ k) f
 | .bU k w z f n c=>.bU (ρ k) w z f n c
 | c=>c
theorem aq.iL (ρ E:Nat->Nat)(c:aq)(i:Nat):((c.aJ ρ).at i).val E=(c.at i).val E:=by cases c<;>rfl
def aq.jU (ρ:Nat->Nat):List aq->List aq
 | []=>[]
 | c::r=>c.aJ ρ::aq.jU ρ r
def bW.aJ (ρ:Nat->Nat):bW->bW
 | .ref k f=>.ref (ρ k) f
 | c=>c
theorem bW.N5 {ρ:Nat->Nat}{a:Nat}: ∀ {l:List bW},aq.jU ρ (l.map (bW.at a))=(l.map (bW.aJ ρ)).map (bW.at a)
 | []=>rfl
 | c::r=>by simp only[c9,aq.jU,bW.N5];congr 1;cases c<;>rfl
theorem aq.vW {ρ:Nat->Nat}: ∀ {l:List aq},(aq.jU ρ l).length=l.length
 | []=>rfl
 | c::r=>by simp only[aq.jU,List.length_cons,aq.vW]
theorem aq.me {ρ:Nat->Nat}: ∀ {l:List aq} {k:Nat} {c:aq},(aq.jU ρ l)[k]?=H c->∃ c0,l[k]?=H c0/\c=c0.aJ ρ
 | [],_,_,h=>by cases h
 | x::r,0,_,h=>by simp[aq.jU] at h;exact⟨x,rfl,h.symm⟩
 | x::r,k+1,_,h=>by simp only[aq.jU,c8] at h;simpa using aq.me h
theorem aq.Uw {ρ E:Nat->Nat}{a:Nat}: ∀ {l:List aq} {k:Nat} {v:SV},((aq.jU ρ l).map (aq.at a))[k]?=H v->∃ u,(l.map (aq.at a))[k]?=H u/\v.val E=u.val E:=λ{l k v} h=>by
 rw[bf] at h;cases hc:(aq.jU ρ l)[k]? with
 | none=>rw[hc] at h;cases h
 | some c =>rw[hc] at h;injection h with h;subst h;obtain⟨c0,h1,rfl⟩:=aq.me hc;exact⟨c0.at a,by rw[bf,h1];rfl,aq.iL ρ E c0 a⟩
def aD.aJ (ρ:Nat->Nat):aD->aD
 | .ref k f=>.ref (ρ k) f
 | c=>c
theorem aD.iL (ρ:Nat->Nat)(c:aD)(s:List UInt8):(c.aJ ρ).val s=c.val s:=by cases c<;>rfl
def SB.aJ (ρ:Nat->Nat):SB->SB
 | .cells cs tot ty=>.cells (SV.jU ρ cs) tot ty
 | .rows z n ay ro tot ty=>.rows z n (aq.jU ρ ay) ro tot ty
 | .view z o n ay=>.view z o n (aq.jU ρ ay)
 | .map es c=>.map (Hz ρ es) c
 | .VJ (H k) a b c=>.VJ (H (ρ k)) a b c
 | .dR D cs tot ty ro=>.dR D (aq.jU ρ cs) tot ty ro
 | .dD D n ay ro=>.dD D n (ay.map (bW.aJ ρ)) ro
 | .fmap d c p=>.fmap d (c.aJ ρ) p
 | B=>B
theorem SB.Mc (ρ:Nat->Nat)(B:SB):(B.aJ ρ).ro=B.ro:=by
 cases B<;>try rfl
 rename_i mp _ _ _;cases mp<;>rfl
theorem SB.vV (ρ:Nat->Nat)(B:SB)(b a:Nat):(B.aJ ρ).fR b a↔B.fR b a:=by
 cases B<;>try exact Iff.rfl
 rename_i mp _ _ _;cases mp<;>exact Iff.rfl
theorem bz.N4 {ρ E E':Nat->Nat}{z:Bool}{o n:Nat}{ay:List aq}{ob:Obj}(h:bz E' (.view z o n ay) ob):bz E (.view z o n (aq.jU ρ ay)) ob:=by obtain⟨c,ty,fr,h1,h2⟩:=h;refine⟨c,ty,fr,h1,λi k col hi hk=> ?_⟩;obtain⟨c0,g1,rfl⟩:=aq.me hk;rw[aq.vW,aq.iL,h2 i k c0 hi g1,SV.val_congr (E:=E) (nx:=0) (λk hk=>absurd hk (W _)) _ (aq.Dn i 0 c0)]
theorem bz.aJ {ρ E:Nat->Nat}{B:SB}{a:Nat}{o:Obj}(h:bz (λk=>E (ρ k)) (B.el a) o):bz E ((B.aJ ρ).el a) o:=by
 cases B with
 | cells cs tot ty =>obtain⟨c,fr,h1,h2,h3,h4⟩:=h;refine⟨c,fr,h1,h2,λi u hu=> ?_,h4⟩;obtain⟨v,g1,g2⟩:=SV.me hu;subst g2;rw[SV.iL];exact h3 i v g1
 | map es c =>have h:o=.map (dY _ es).toArray c:=h;show o=.map (dY E (Hz ρ es)).toArray c;rw[AR,h]
 | VJ mp a b c =>
   cases mp with
   | none=>exact h
   | some k=>exact h
 | rows z n ay ro tot ty =>obtain⟨c,fr,h1,h2,h3,h4,h5⟩:=h;refine⟨c,fr,h1,h2,by rw[aq.vW];exact h3,h4,λi k col hi hk=> ?_⟩;obtain⟨c0,g1,rfl⟩:=aq.me hk;rw[aq.vW,aq.iL,h5 i k c0 hi g1,SV.val_congr (E:=E) (nx:=0) (λk hk=>absurd hk (W _)) _ (aq.Dn i 0 c0)]
 | view z o n ay=>exact bz.N4 h
 | loop=>exact h
 | fmap d c p =>obtain⟨es,cl,h1,h2⟩:=h;exact⟨es,cl,h1,⟨h2.st,h2.ks,λs hs=>by rw[aD.iL];exact h2.has s hs,h2.no,h2.pd⟩⟩
 | dR D cs tot ty ro =>
   obtain⟨c,fr,h1,h2,h3,h4⟩:=h;refine⟨c,fr,h1,h2,λi u hu=> ?_,h4⟩;obtain⟨v,g1,g2⟩:=aq.Uw (E:=E) hu;have hv:v.wf 0=true:=by
    rw[bf] at g1;cases hc:cs[i]? with
    | none=>rw[hc] at g1;cases g1
    | some c0=>rw[hc] at g1;injection g1 with g1;subst g1;exact aq.Dn a 0 c0
   rw[h3 i v g1,g2];exact congrArg H (SV.val_congr (nx:=0) (λk hk=>absurd hk (W _)) v hv)
 | dD D n ay ro =>have:=bz.N4 (ρ:=ρ) (E:=E) h;rw[bW.N5] at this;exact this
def kN (base:Nat):List SV->List SV->Ren->(Ren->VC)->VC
 | [],[],aJ,t=>t aJ
 | h::hs,u::us,aJ,t=>rz base aJ h u (λaJ=>kN base hs us aJ t)
 | _,_,_,_=>.fail "call: so many arguments"
theorem ju {base:Nat}: ∀ {hs us:List SV} {aJ:Ren} {t:Ren->VC},(kN base hs us aJ t).holds ->
  ∃ ren',aJ.le ren'/\(t ren').holds/\∀ ren'' (E:Nat->Nat),ren'.le ren''->SV.vals (Ren.E base ren'' E) hs=SV.vals E us
 | [],[],aJ,t,h=>⟨aJ,Ren.le_refl _,h,λ_ _ _=>rfl⟩
 | h::hs,u::us,aJ,t,hh=>by simp only[kN] at hh;obtain⟨r1,h1,h2,h3⟩:=pO hh;obtain⟨r2,g1,g2,g3⟩:=ju h2;exact⟨r2,Ren.le_trans h1 g1,g2,λr'' E hle=>by simp only[SV.vals];rw[h3 r'' E (Ren.le_trans g1 hle),g3 r'' E hle]⟩
 | [],_::_,_,_,h=>h.elim
 | _::_,[],_,_,h=>h.elim
theorem dB {base:Nat}{aJ:Ren}{kh k1:Nat}{t t':Ren->VC}(ht: ∀ r,(t r).holds->(t' r).holds)(h:(dF base aJ kh k1 t).holds):(dF base aJ kh k1 t').holds:=by
 unfold dF at h ⊢;revert h;cases T kh base with
 | true =>
   by_cases e:kh=k1
   ·simp only[if_pos e];exact ht _
   ·simp only[if_neg e];exact id
 | false =>
   cases aJ.get kh with
   | none=>exact ht _
   | some k =>
     by_cases e:k=k1
     ·simp only[if_pos e];exact ht _
     ·simp only[if_neg e];exact id
theorem nu {base:Nat}: ∀ {a b:List SV} {aJ:Ren} {t t':Ren->VC},(∀ r,(t r).holds->(t' r).holds)->(jv base a b aJ t).holds->(jv base a b aJ t').holds
 | a,b,aJ,t,t',ht,h=>by
   revert h;unfold jv;split
   ·exact ht _
   ·exact dB (t:=λr=>.and (jM _ _) (jv base _ _ r t)) (λr h=>J h.1 (nu ht h.2))
   ·exact id
theorem nt {base:Nat}{aJ:Ren}{a b:SV}{t t':Ren->VC}(ht: ∀ r,(t r).holds->(t' r).holds):(kO base aJ a b t).holds->(kO base aJ a b t').holds:=by
 unfold kO
 split<;>first
  | exact ht _
  | exact λh=>J h.1 (ht _ h.2)
  | exact dB ht
  | exact dB (t:=λr=>.and (jM _ _) (t r)) (λr h=>J h.1 (ht r h.2))
  | exact dB (t:=λr=>.and (.and _ _) (t r)) (λr h=>J h.1 (ht r h.2))
  | exact dB (t:=λr=>.and (.and _ _) (.and _ (t r))) (λr h=>J h.1 (J h.2.1 (ht r h.2.2)))
  | exact dB (t:=λr=>.and (jM _ _) (.and (jM _ _) (t r))) (λr h=>J h.1 (J h.2.1 (ht r h.2.2)))
  | (split<;>first
    | exact id
    | exact λh=>J h.1 (ht _ h.2)
    | exact dB (t:=λr=>.and (jM _ _) (t r)) (λr h=>J h.1 (ht r h.2))
    | exact dB (t:=λr=>.and (.and _ _) (t r)) (λr h=>J h.1 (ht r h.2))
    | exact dB (t:=λr=>.and (.and _ _) (.and _ (t r))) (λr h=>J h.1 (J h.2.1 (ht r h.2.2)))
    | exact dB (t:=λr=>.and (jM _ _) (.and (jM _ _) (.and (jM _ _) (.and (jM _ _) (t r))))) (λr h=>J h.1 (J h.2.1 (J h.2.2.1 (J h.2.2.2.1 (ht r h.2.2.2.2)))))
    | exact nu (λ_ h=>nu ht h))
theorem gO {base:Nat}: ∀ {a b:List SV} {aJ:Ren} {t t':Ren->VC},(∀ r,(t r).holds->(t' r).holds)->(ic base a b aJ t).holds->(ic base a b aJ t').holds
 | [],[],_,_,_,ht,h=>ht _ h
 | _::_,_::_,_,_,_,ht,h=>nt (λ_ h=>gO ht h) h
 | [],_::_,_,_,_,_,h=>h.elim
 | _::_,[],_,_,_,_,h=>h.elim
theorem zl {base:Nat}{aJ:Ren}{a b:SV}{t t':Ren->VC}(ht: ∀ r,(t r).holds->(t' r).holds)(h:(rz base aJ a b t).holds):(rz base aJ a b t').holds:=by
 unfold rz at h ⊢;split at h
 ·exact gO ht h
 ·exact gO ht h
 ·split at h
  ·rename_i e;rw[if_pos e];split at h
   ·exact gO ht h
   ·exact nt ht h
  ·exact h.elim
 ·exact nt ht h
theorem nr {base:Nat}: ∀ {a b:List SV} {aJ:Ren} {t t':Ren->VC},(∀ r,(t r).holds->(t' r).holds)->(kN base a b aJ t).holds->(kN base a b aJ t').holds
 | [],[],_,_,_,ht,h=>ht _ h
 | _::_,_::_,_,_,_,ht,h=>zl (λ_ h=>nr ht h) h
 | [],_::_,_,_,_,_,h=>h.elim
 | _::_,[],_,_,_,_,h=>h.elim
theorem fX {base:Nat}{m:Mem}: ∀ {l:List (Nat×SB)} {used:List Nat} {aJ:Ren} {t t':Ren->VC},(∀ r,(t r).holds->(t' r).holds)->(e9 base m l used aJ t).holds->(e9 base m l used aJ t').holds
 | [],_,_,_,_,ht,h=>ht _ h
 | (k0,B0)::r,used,aJ,t,t',ht,h=>by
   simp only[e9] at h ⊢;revert h;cases dy base aJ k0 with
   | none =>
     cases B0.wf base with
     | true=>cases B0.jl with
       | true=>exact λh=>J h.1 (fX ht h.2)
       | false=>exact λh=>J h.1 (fX ht h.2)
     | false=>exact id
   | some k1 =>
     by_cases hu:used.contains k1=C
     ·simp only[if_pos hu];exact id
     ·simp only[if_neg hu];cases m.get k1 with
      | none=>exact id
      | some B =>
        cases B0.wf base with
        | true=>exact λh=>J h.1 (fX ht h.2)
        | false =>
          cases B0<;>try exact id
          cases B<;>try exact id
          rename_i cs' tot' ty' cs tot ty;by_cases e:ty'=ty
          ·simp only[if_pos e];exact λh=>J h.1 (gO (λ_ h=>fX ht h) h.2)
          ·simp only[if_neg e];exact id
inductive fZ:Type 1 where
 | ret (v:SV) (back:Mem)
 | fork (b:Bool) (f:Bool->fZ)
 | all (α:Type) (f:α->fZ)
 | req (p:Prop) (a:fZ)
def fZ.qK (g:SV->Mem->VC):fZ->VC
 | .ret v back=>g v back
 | .fork b f=>Sx.fork b λc=>(f c).qK g
 | .all α f=>.all α λx=>(f x).qK g
 | .req p a=>.imp p (a.qK g)
def fZ.ask (g:SV->Mem->VC):fZ->VC
 | .ret v back=>g v back
 | .fork b f=>Sx.fork b λc=>(f c).ask g
 | .all α f=>.ex α λx=>(f x).ask g
 | .req p a=>.and (.atom p) (a.ask g)
theorem fZ.meet {g h:SV->Mem->VC}: ∀ {a:fZ},(a.ask g).holds->(a.qK h).holds->∃ v back,(g v back).holds/\(h v back).holds
 | .ret v back,h1,h2=>⟨v,back,h1,h2⟩
 | .fork b f,h1,h2=>by simp only[fZ.ask,fZ.qK,cB] at h1 h2;exact fZ.meet h1 h2
 | .all α f,⟨x,h1⟩,h2=>fZ.meet h1 (h2 x)
 | .req p a,⟨h0,h1⟩,h2=>fZ.meet h1 (h2 h0)
theorem fZ.lD {g h:SV->Mem->VC}(hg: ∀ v m,(g v m).holds->(h v m).holds): ∀ {a:fZ},(a.qK g).holds->(a.qK h).holds
 | .ret v back,h1=>hg _ _ h1
 | .fork b f,h1=>by simp only[fZ.qK,cB] at h1 ⊢;exact fZ.lD hg h1
 | .all α f,h1=>λx=>fZ.lD hg (h1 x)
 | .req p a,h1=>λh0=>fZ.lD hg (h1 h0)
structure gE where
 G:Type
 n:Nat
 N:Nat
 pre:G->Prop
 args:G->List SV
 mem:G->Mem
 wP:G->fZ
 gh:SV->Mem->List Gh:=λ_ _=>[]
def pL (n:Nat)(aJ:Ren)(nx k:Nat):Nat:=match T k n,aJ.get k with
 | true,H k1=>k1
 | _,_=>nx+k
def C' (ρ:Nat->Nat):Mem->Mem
 | []=>[]
 | e::r=>(ρ e.1,e.2.aJ ρ)::C' ρ r
def mh (aJ:Ren):Mem->List Nat
 | []=>[]
 | e::r=>match e.2.ro,aJ.get e.1 with
   | false,H k1=>k1::mh aJ r
   | _,_=>mh aJ r
def zj (nx:Nat):Ren->Bool
 | []=>C
 | e::r=>T e.2 nx&&zj nx r
def rN (N:Nat):Mem->Bool
 | []=>C
 | e::r=>T e.1 N&&(!e.2.ro)&&rN N r
def SV.Xa (ρ:Nat->Nat)(v:SV):SV:=match v.wf 0&& !v.hint with
 | true=>v
 | false=>v.aJ ρ
theorem SV.Jf (ρ E:Nat->Nat)(v:SV):(v.Xa ρ).val E=v.val (λk=>E (ρ k)):=by
 unfold SV.Xa;split
 ·rename_i h;rw[S] at h;exact SV.val_congr (nx:=0) (λk hk=>absurd hk (W _)) v h.1
 ·exact SV.iL ρ E v
def SV.N3 (ρ:Nat->Nat):List SV->List SV
 | []=>[]
 | v::r=>v.Xa ρ::SV.N3 ρ r
theorem SV.EC (ρ E:Nat->Nat): ∀ l:List SV,SV.vals E (SV.N3 ρ l)=SV.vals (λk=>E (ρ k)) l
 | []=>rfl
 | v::r=>by simp only[SV.N3,SV.vals,SV.Jf,SV.EC ρ E r]
def SV.PY (ρ:Nat->Nat):SV->SV
 | .aN vs=>.aN (SV.N3 ρ vs)
 | v=>v.Xa ρ
theorem SV.Jg (ρ E:Nat->Nat)(v:SV):(v.PY ρ).val E=v.val (λk=>E (ρ k)):=by
 unfold SV.PY;split
 ·simp only[SV.val,SV.EC]
 ·exact SV.Jf ρ E _
def XW:SV->SV->Bool
 | .bool C a,.bool C b=>a !=b
 | .int _ C a,.int _ C b=>!decide (a=b)
 | .aK,.iface .. =>C
 | .iface ..,.aK=>C
 | .bO,.ptr .. =>C
 | .ptr ..,.bO=>C
 | _,_=>F
def Se:List SV->List SV->Bool
 | a::r,b::s=>match XW a b with
   | true=>C
   | false=>Se r s
 | _,_=>F
def Sf:SV->SV->Bool
 | .aN a,.aN b=>Se a b
 | a,b=>XW a b
def cD (c:gE):PT:=λargs m nx K=>.ex c.G λx=>.and (.atom (c.pre x)) (kN 0 (c.args x) args [] λaJ=>e9 0 m (c.mem x) [] aJ λaJ=>match zj nx aJ with
 | true=>(c.wP x).qK λv back=>(match rN c.N back with
   | true=>K (v.PY (pL c.n aJ nx)) (C' (pL c.n aJ nx) back++j6 (mh aJ (c.mem x)) m) (nx+c.N)
   | false=>.fail "call: blocks that are handed back")
 | false=>.fail "call: keys")
theorem cc (c:gE):aQ (cD c):=by
 intro args m nx K K' hK h;obtain⟨x,h1,h2⟩:=h;refine⟨x,h1,nr (λaJ h=>fX (λaJ h=> ?_) h) h2⟩;cases hr:zj nx aJ with
 | false=>simp only[hr] at h;exact h.elim
 | true =>
   simp only[hr] at h ⊢;refine fZ.lD (λv back=> ?_) h;cases rN c.N back with
   | false=>exact id
   | true=>exact hK _ _ _
def gE.fit (c:gE)(x:c.G):SV->Mem->Nat->VC:=λv m _=>Q9 (c.gh v m) [H v] m λvs m=>match vs with
 | [H v]=>(c.wP x).ask λu back=>(match Sf u v with
   | true=>.fail "call: another way"
   | false=>kN c.n [u] [v] [] λaJ=>e9 c.n m back [] aJ λ_=>.tt)
 | _=>.fail "call: no value"
theorem x9 {nx:Nat}: ∀ {aJ:Ren} {k k1:Nat},zj nx aJ=C->aJ.get k=H k1->k1<nx
 | [],_,_,_,h=>by cases h
 | e::r,k,k1,hb,h=>by
   simp only[zj,S,V] at hb;by_cases he:e.1=k
   ·rw[Ren.get,if_pos he] at h;injection h with h;subst h;exact hb.1
   ·rw[Ren.get,if_neg he] at h;exact x9 hb.2 h
theorem tS {N:Nat}: ∀ {m:Mem} {k:Nat} {B:SB},rN N m=C->m.get k=H B->k<N/\B.ro=F
 | [],_,_,_,h=>by cases h
 | e::r,k,B,hb,h=>by
   simp only[rN,S,V,cS] at hb;by_cases he:e.1=k
   ·rw[Mem.get,if_pos he] at h;injection h with h;subst h;exact⟨he▸ hb.1.1,hb.1.2⟩
   ·rw[Mem.get,if_neg he] at h;exact tS hb.2 h
theorem qR {ks:List Nat}: ∀ {m:Mem} {k:Nat} {B:SB},(j6 ks m).get k=H B->k∉ ks/\m.get k=H B
 | [],_,_,h=>by cases h
 | e::r,k,B,h=>by
   simp only[j6] at h;cases hc:ks.contains e.1 with
   | true =>rw[hc] at h;obtain⟨h1,h2⟩:=qR h;refine⟨h1,?_⟩;rw[Mem.get,if_neg (λx=>h1 (by rw[← x];simpa using hc))];exact h2
   | false =>
     rw[hc] at h;by_cases he:e.1=k
     ·simp only[Mem.get,he,if_true] at h ⊢;refine⟨λhk=> ?_,h⟩;have:ks.contains e.1=true:=by rw[he];simpa using hk
      rw[hc] at this;cases this
     ·simp only[Mem.get,he,if_false] at h ⊢;exact qR h
theorem vU {ρ:Nat->Nat}{m1:Mem}: ∀ {m2:Mem} {j:Nat} {X:SB},(C' ρ m2++m1).get j=H X->(∃ k B,m2.get k=H B/\ρ k=j/\X=B.aJ ρ)∨m1.get j=H X
 | [],_,_,h=>.inr h
 | e::r,j,X,h=>by
   simp only[C',List.cons_append] at h;rcases Mem.fN h with ⟨h1,h2⟩ | ⟨hne,h⟩
   ·exact .inl ⟨e.1,e.2,by rw[Mem.get,if_pos rfl],h1.symm,h2⟩
   ·rcases vU h with ⟨k,B,g1,g2,g3⟩ | h
    ·refine .inl ⟨k,B,?_,g2,g3⟩;rw[Mem.get,if_neg (λx=>hne (by rw[← g2,x]))];exact g1
    ·exact .inr h
theorem Co {aJ:Ren}: ∀ {fm:Mem} {k k1:Nat} {B:SB},fm.get k=H B->B.ro=F->aJ.get k=H k1->k1∈ mh aJ fm
 | [],_,_,_,h,_,_=>by cases h
 | e::r,k,k1,B,h,hr,hk=>by
   rcases Mem.fN (k0:=e.1) (B0:=e.2) h with ⟨h1,h2⟩ | ⟨hne,h⟩
   ·subst h1;subst h2;simp only[mh,hr,hk];exact List.mem_cons_self ..
   ·have:=Co h hr hk;simp only[mh];split
    ·exact List.mem_cons_of_mem _ this
    ·exact this
theorem N2 {aJ:Ren}{k:Nat}:dy 0 aJ k=aJ.get k:=by
 have:T k 0=false:=by cases h:T k 0 with
  | false=>rfl
  | true=>rw[V] at h;omega
 simp[dy,this]
def iR (E:Nat->Nat)(fm:Mem)(b:Nat):Prop:=∃ k B,fm.get k=H B/\B.fR (E k) b/\B.ro=F
theorem aL.Y4 {Γ E m nx w}(h:aL Γ E m nx w){fm:Mem}{n:Nat}{aJ:Ren}(hb: ∀ kh B',fm.get kh=H B'->An 0 m [] aJ kh B')
  (hi: ∀ kh kh' B B' k1,fm.get kh=H B->(∃ b a,B.fR b a)->fm.get kh'=H B'->(∃ b a,B'.fR b a)->dy 0 aJ kh=H k1->dy 0 aJ kh'=H k1->kh=kh') (hlt: ∀ kh B',fm.get kh=H B'->kh<n) :
  ∃ gm,aL (bh.at w (iR (Ren.E 0 aJ E) fm) h.KU gm) (Ren.E 0 aJ E) fm n w:=by
 have hE: ∀ kh k1,dy 0 aJ kh=H k1->Ren.E 0 aJ E kh=E k1:=λkh k1 hr=>by simp[Ren.E,hr]
 have hg: ∀ {kh B' a},fm.get kh=H B'->B'.fR (Ren.E 0 aJ E kh) a->∃ k1 B,dy 0 aJ kh=H k1/\m.get k1=H B/\B.fR (E k1) a/\(∀ E1 o,bz E1 (B.el a) o->bz (Ren.E 0 aJ E1) (B'.el a) o)/\(B'.ro=F->B.ro=F):=λ{kh B' a} hg ha=>by obtain⟨k1,B,g1,_,g3,g4,g5,g6⟩:=hb kh B' hg _ a ha;exact⟨k1,B,g1,g3,by rw[← hE kh k1 g1];exact g4,g5,g6⟩
 refine⟨λp hp ⟨k,B,g1,g2,g3⟩=> ?_,λkh B' a hk ha=> ?_,λkh kh' B B' a hk ha hk' ha' hr=> ?_,hlt,λkh B' a hg hn hro=>.inl ⟨kh,B',hg,hn,hro⟩,Ext.refl _ _,⟨ct _,λk hk=>absurd hk (W _)⟩,λD hD=>by cases hD⟩
 ·obtain⟨k1,X,_,q3,q4,_,q6⟩:=hg g1 g2;exact h.NR q3 q4 (q6 g3) p hp rfl
 ·obtain⟨k1,X,_,q3,q4,q5,_⟩:=hg hk ha;obtain⟨o,ho,hbo⟩:=h.iy k1 X a q3 q4;exact⟨o,ho,q5 E o hbo⟩
 ·obtain⟨k1,X,g1,g3,g5,_,g7⟩:=hg hk ha;obtain⟨k1',X',g1',g3',g5',_,g7'⟩:=hg hk' ha';have:=h.iO k1 k1' X X' a g3 g5 g3' g5' (hr.imp g7 g7');subst this;exact hi kh kh' B B' k1 hk ⟨_,_,ha⟩ hk' ⟨_,_,ha'⟩ g1 g1'
theorem aL.told {Γ:bh}(hΓ:Γ.td=0){E m nx w}(h:aL Γ E m nx w){n N:Nat}{aJ:Ren}{m2:Mem}(hb: ∀ kh B',m2.get kh=H B'->An n m [] aJ kh B')
  (hi: ∀ kh kh' B B' k1,m2.get kh=H B->(∃ b a,B.fR b a)->m2.get kh'=H B'->(∃ b a,B'.fR b a)->dy n aJ kh=H k1->dy n aJ kh'=H k1->kh=kh') (hlt: ∀ kh B',m2.get kh=H B'->kh<N) :
  aL Γ (Ren.E n aJ E) m2 N w:=by
 have hE: ∀ kh k1,dy n aJ kh=H k1->Ren.E n aJ E kh=E k1:=λkh k1 hr=>by simp[Ren.E,hr]
 have hg: ∀ {kh B' a},m2.get kh=H B'->B'.fR (Ren.E n aJ E kh) a->∃ k1 B,dy n aJ kh=H k1/\m.get k1=H B/\B.fR (E k1) a/\(∀ E1 o,bz E1 (B.el a) o->bz (Ren.E n aJ E1) (B'.el a) o)/\(B'.ro=F->B.ro=F):=λ{kh B' a} hg ha=>by obtain⟨k1,B,g1,_,g3,g4,g5,g6⟩:=hb kh B' hg _ a ha;exact⟨k1,B,g1,g3,by rw[← hE kh k1 g1];exact g4,g5,g6⟩
 refine⟨λkh B' a hk ha=> ?_,λkh kh' B B' a hk ha hk' ha' hr=> ?_,hlt,λkh B' a hk ha hro=> ?_,h.ext,⟨by rw[hΓ];exact ct _,λk hk=>by rw[hΓ] at hk;omega⟩,h.kp⟩
 ·obtain⟨k1,X,_,q3,q4,q5,_⟩:=hg hk ha;obtain⟨o,ho,hbo⟩:=h.iy k1 X a q3 q4;exact⟨o,ho,q5 E o hbo⟩
 ·obtain⟨k1,X,g1,g3,g5,_,g7⟩:=hg hk ha;obtain⟨k1',X',g1',g3',g5',_,g7'⟩:=hg hk' ha';have:=h.iO k1 k1' X X' a g3 g5 g3' g5' (hr.imp g7 g7');subst this;exact hi kh kh' B B' k1 hk ⟨_,_,ha⟩ hk' ⟨_,_,ha'⟩ g1 g1'
 ·obtain⟨k1,X,_,g3,g5,_,g7⟩:=hg hk ha;exact h.jj k1 X a g3 g5 (g7 hro)
def jD (nx:Nat)(E E2:Nat->Nat)(j:Nat):Nat:=if j<nx then E j else E2 (j - nx)
theorem aL.back {Γ E m nx w}(h:aL Γ E m nx w)(hw:Mem.wf nx m=C){fm:Mem}{n N:Nat}{aJ:Ren}(hb: ∀ kh B',fm.get kh=H B'->An 0 m [] aJ kh B')(hrl:zj nx aJ=C)
  {E2:Nat->Nat} {m2:Mem} {w':World} {gl gm} (h2:aL (bh.at w (iR (Ren.E 0 aJ E) fm) gl gm) E2 m2 N w') (hE2: ∀ k,k<n->E2 k=Ren.E 0 aJ E k) (hro: ∀ k B,m2.get k=H B->B.ro=F) :
  (∀ k,jD nx E E2 (pL n aJ nx k)=E2 k) /\
  aL Γ (jD nx E E2) (C' (pL n aJ nx) m2++j6 (mh aJ fm) m) (nx+N) w':=by
 have hρ: ∀ k,jD nx E E2 (pL n aJ nx k)=E2 k:=λk=>by
  unfold pL jD;split
  ·rename_i k1 hk hg;have:=x9 hrl hg;simp only[this,if_true];rw[hE2 k (by simpa [V] using hk)];simp[Ren.E,N2,hg]
  ·simp only[show ¬ nx+k<nx by omega,if_false,Nat.add_sub_cancel_left]
 refine⟨hρ,?_⟩;have hMa: ∀ b,iR (Ren.E 0 aJ E) fm b->∃ k1 X,k1∈ mh aJ fm/\m.get k1=H X/\X.fR (E k1) b/\X.ro=false:=λb ⟨k,B,g1,g2,g3⟩=>by
  obtain⟨k1,X,q1,_,q3,q4,_,q6⟩:=hb k B g1 _ b g2;refine⟨k1,X,Co g1 g3 (by rw[← N2];exact q1),q3,?_,q6 g3⟩;have:Ren.E 0 aJ E k=E k1:=by simp[Ren.E,q1]
  rw[← this];exact q4
 have hx:Sx.Ext (iR (Ren.E 0 aJ E) fm) w w':=h2.ext;have hEo: ∀ j,j<nx->jD nx E E2 j=E j:=λj hj=>by simp[jD,hj]
 have old: ∀ {j X},(j6 (mh aJ fm) m).get j=H X->j<nx/\m.get j=H X/\∀ a,X.fR (E j) a->¬ iR (Ren.E 0 aJ E) fm a:=λ{j X} hj=>by obtain⟨h1,h3⟩:=qR hj;refine⟨h.lt _ _ h3,h3,λa ha hm=> ?_⟩;obtain⟨k1,Y,q1,q2,q3,q4⟩:=hMa _ hm;have:=h.iO j k1 X Y a h3 ha q2 q3 (.inr q4);subst this;exact h1 q1
 have hg: ∀ {j X a},(C' (pL n aJ nx) m2++j6 (mh aJ fm) m).get j=H X->X.fR (jD nx E E2 j) a ->
   (∃ k B,m2.get k=H B/\pL n aJ nx k=j/\X=B.aJ (pL n aJ nx)/\B.fR (E2 k) a/\(iR (Ren.E 0 aJ E) fm a∨w.heap.size<=a))∨((j6 (mh aJ fm) m).get j=H X/\X.fR (E j) a/\a<w.heap.size/\¬ iR (Ren.E 0 aJ E) fm a):=λ{j X a} hj ha=>by
  rcases vU hj with ⟨k,B,g1,g2,g3⟩ | hj
  ·subst g3;rw[SB.vV,← g2,hρ] at ha;exact .inl ⟨k,B,g1,g2,rfl,ha,h2.jj k B a g1 ha (hro k B g1)⟩
  ·obtain⟨q1,q2,q3⟩:=old hj;rw[hEo j q1] at ha;exact .inr ⟨hj,ha,h.X3 q2 ha,q3 a ha⟩
 refine⟨λj X a hj ha=> ?_,λj j' X X' a hj ha hj' ha' hr=> ?_,λj X hj=> ?_,λj X a hj ha hr=> ?_,⟨hx.os.trans h.ext.os,hx.tape.trans h.ext.tape,hx.output.trans h.ext.output,b_ h.ext.size hx.size,λi hi hm=>(hx.block i (d! hi h.ext.size) (λhmi=> ?_)).trans (h.ext.block i hi hm)⟩,
  ⟨b_ h.cx.1 (c! _ _),λk hk=>(hEo k (d! hk h.cx.1)).trans (h.cx.2 k hk)⟩,λD hD=> ?_⟩
 ·rcases hg hj ha with ⟨k,B,g1,g2,rfl,g4,_⟩ | ⟨hj,ha,hl,hm⟩
  ·obtain⟨o,ho,hbo⟩:=h2.iy k B a g1 g4;refine⟨o,ho,bz.aJ ?_⟩;have:(λk=>jD nx E E2 (pL n aJ nx k))=E2:=funext hρ;rw[this];exact hbo
  ·obtain⟨q1,q2,_⟩:=old hj;obtain⟨o,ho,hbo⟩:=h.iy j X a q2 ha;exact⟨o,by rw[hx.block _ hl hm];exact ho,hbo.congr hEo (SB.Ni (Mem.GQ hw q2) a)⟩
 ·rcases hg hj ha with ⟨k,B,g1,g2,g3,g4,g5⟩ | ⟨hj,ha,hl,hm⟩<;>rcases hg hj' ha' with ⟨k',B',g1',g2',g3',g4',g5'⟩ | ⟨hj',ha',hl',hm'⟩
  ·rw[← g2,← g2',h2.iO k k' B B' a g1 g4 g1' g4' (.inl (hro k B g1))]
  ·rcases g5 with g5 | g5
   ·exact absurd g5 hm'
   ·omega
  ·rcases g5' with g5 | g5
   ·exact absurd g5 hm
   ·omega
  ·exact h.iO j j' X X' a (old hj).2.1 ha (old hj').2.1 ha' hr
 ·rcases vU hj with ⟨k,B,g1,g2,_⟩ | hj
  ·rw[← g2];unfold pL;split
   ·rename_i hk;have:=x9 hrl hk;omega
   ·have:=h2.lt k B g1;omega
  ·have:=(old hj).1;omega
 ·rcases hg hj ha with ⟨k,B,_,_,_,_,g5⟩ | ⟨hj,ha,_,_⟩
  ·rcases g5 with g5 | g5
   ·obtain⟨k1,Y,_,q2,q3,q4⟩:=hMa _ g5;exact h.jj k1 Y a q2 q3 q4
   ·exact .inr (b_ h.ext.size g5)
  ·exact h.jj j X a (old hj).2.1 ha hr
 ·obtain⟨k1,Y,_,q2,q3,q4⟩:=hMa _ hmi;rcases h.jj k1 Y i q2 q3 q4 with h' | h'
  ·exact hm h'
  ·omega
 ·have hd:=h.kp D hD;rw[hx.block _ (Array.getElem?_eq_some_iff.1 hd).1 (λhmD=> ?_)]
  ·exact hd
  ·obtain⟨k1,Y,_,q2,q3,q4⟩:=hMa _ hmD;obtain⟨o,ho,hbo⟩:=h.iy k1 Y D q2 q3;rw[hd] at ho;exact hbo.kJ _ (Option.some.inj ho).symm
def NM (n:Nat):Mem->Bool
 | []=>C
 | e::r=>T e.1 n&&NM n r
theorem Ec {n:Nat}: ∀ {m:Mem} {k:Nat} {B:SB},NM n m=C->m.get k=H B->k<n
 | [],_,_,_,h=>by cases h
 | e::r,k,B,hb,h=>by
   simp only[NM,S,V] at hb;by_cases he:e.1=k
   ·exact he▸ hb.1
   ·rw[Mem.get,if_neg he] at h;exact Ec hb.2 h
def gE.ok (c:gE)(x:c.G):Bool:=NM c.n (c.mem x)&&Mem.wf c.n (c.mem x)&&SV.fH c.n (c.args x)
theorem gx {P:Program}{f:FuncId}{fn:Func}(hf:P.funcs[f]?=H fn) (hn:(fn.name== "runtime.NumGoroutine")=F) (hb:fn.body.isSome=C) {n:Nat} (c:gE)
  (h: ∀ x,c.pre x->∃ cfg,Good P cfg/\c.ok x=C/\aB (fG P (calling P cfg n) [] Ad (cfg.bx f) cfg.rounds fn (c.args x) (c.mem x) c.n (c.fit x))):az P f (cD c):=by
 intro args m nx K hk hwf hargs Γ E w hs;obtain⟨x,hpre,hk⟩:=hk;obtain⟨cfg,hgood,hok,hrun⟩:=h x hpre;simp only[gE.ok,S] at hok;obtain⟨⟨hlt,hwm⟩,hwa⟩:=hok;obtain⟨ren1,_,hk1,ha⟩:=ju hk;obtain⟨aJ,hle,hk2,hm⟩:=fC hk1;obtain⟨hb0,hi⟩:=hm aJ (Ren.le_refl _);revert hk2;cases hrl:zj nx aJ with
 | false=>exact λh=>h.elim
 | true =>
   intro hk2;obtain⟨gm,hform⟩:=hs.Y4 hb0 hi (λkh B' hg=>Ec hlt hg);have hc:=eV hgood hf hn hb hrun hwm hwa hform;rw[ha aJ E hle] at hc;refine fV hf hn hb (hc.mono ?_);rintro e w' ⟨v,rfl,E1,u,m1,nx1,g1,g2,g3,g4,g5⟩;refine⟨v,rfl,?_⟩;cases u with
   | none=>exact g5.elim
   | some u' =>
     obtain⟨ts,m2,ht,g4,g5⟩:=nP g5 g4;split at g5
     case h_2=>exact g5.elim
     rename_i u;have g3: ∀ z,H u=H z->v=z.val E1:=λz hz=>by injection hz with hz;subst hz;obtain⟨v0,q1,q2,_⟩:=ht.get 0 u rfl;simp at q1;subst q1;rw[g3 _ rfl,q2]
     obtain⟨u0,back,y2,hk3⟩:=fZ.meet g5 hk2;revert y2;cases Sf u0 u with
     | true=>exact λh=>h.elim
     | false =>
     intro y2;obtain⟨r1,_,z1,za⟩:=ju y2;obtain⟨r2,hle2,_,zm⟩:=fC z1;obtain⟨zb,zi⟩:=zm r2 (Ren.le_refl _);revert hk3;cases hbk:rN c.N back with
     | false=>exact λh=>h.elim
     | true =>
       intro hk3;have ht:=g4.told rfl zb zi (λkh B' h=>(tS hbk h).1);have hE2: ∀ k,k<c.n->Ren.E c.n r2 E1 k=Ren.E 0 aJ E k:=λk hk=>(Ren.yM hk).trans (g1 k hk);obtain⟨hρ,hfin⟩:=hs.back hwf hb0 hrl ht hE2 (λk B h=>(tS hbk h).2);refine⟨_,H (u0.PY (pL c.n aJ nx)),_,_,λk hk=>by simp[jD,hk],c! _ _,λz hz=> ?_,hfin,hk3⟩;injection hz with hz;subst hz;rw[SV.Jg,show(λk=>jD nx E (Ren.E c.n r2 E1) (pL c.n aJ nx k))=Ren.E c.n r2 E1 from funext hρ,g3 u rfl]
       have:=za r2 E1 hle2;simp only[SV.vals,List.cons.injEq,and_true] at this;exact this.symm
end
end Go.Proofs.YtoibaecagklkaaaGreatDoor.Sx
namespace Go.Proofs.YtoibaecagklkaaaGreatDoor
open Go Sx
set_option maxRecDepth 20000
structure Wy where
 root:List UInt8
 n:Nat
 f:Nat->List UInt8
 z:Bool
 o:Nat
 c:Nat
 u:Nat
def Wy.sb (w:Wy)(key u:Nat)(e:SV):SB:=.cells [.str F w.root,.bS key 1 w.z w.o 0 w.n w.c,.int .i64 F u,e] 4 188
def Wy.view (w:Wy):SB:=.view w.z w.o w.n [.str w.f]
structure Wy.Ok (w:Wy):Prop where
 n:w.n<=200
 f: ∀ i,i<w.n->(w.f i).length<=1000
 u:w.u<=w.n
def gR (w:Wy)(h:List UInt8):Bool:=O ((w.u:Int)<(w.n:Int))&&(O (aC (w.f w.u)=h)&&bg (w.f w.u))
def aaM (u:Nat):SB:=.cells [.int .i64 F u,.iface 30 (.int .i64 C 10)] 2 186
def aaN (k:Nat):SV:=.iface 184 (.ptr k C 0)
def aaL (w:Wy):fZ:=.ret (.aN [dw,.bool C F]) [(0,w.sb 1 w.u (aaN 2)),(2,aaM w.u)]
def abF (w:Wy)(h:List UInt8):fZ:=.fork (gR w h) λb=>match b with
 | true=>.ret (.aN [(getD (w.f w.u)).sv,.bool C C]) [(0,w.sb 1 (w.u+1) .aK)]
 | false=>aaL w
def aco (q:List UInt8->Prop)(wP:Wy->List UInt8->fZ):gE :={G:=Wy×List UInt8,n:=2,N:=3,pre:=λx=>x.1.Ok/\q x.2,args:=λx=>[.ptr 0 C 0,.str F x.2],mem:=λx=>[(0,x.1.sb 1 x.1.u .aK),(1,x.1.view)],wP:=λx=>wP x.1 x.2}
def JQ:gE:=aco (λ_=>True) abF
noncomputable def runM (cfg:fJ)(f:Nat)(fn:Func)(c:gE)(x:c.G):VC:=fG Q (calling Q cfg 20) [] Ad (cfg.bx f) cfg.rounds fn (c.args x) (c.mem x) c.n (c.fit x)
def preB (p s:List UInt8):Bool:=O (p.length<=s.length)&&O (s.take p.length=p)
def Nd.again (x:Nd):Nd:={k:=x.k,p:=x.p,v:=x.v,r:=fun(i:Nat)=>[x.r 0,x.r 1,x.r 2,x.r 3,x.r 4,x.r 5,x.r 6,x.r 7,x.r 8,x.r 9,x.r 10,x.r 11,x.r 12,x.r 13,x.r 14,x.r 15].getD i []}
def ep (x:Nd):List SV:=.int .i64 F x.k::.str F x.p::.str F x.v::Jc x.r
def zeroCells:List SV:=[.int .i64 C 0,.str C [],.str C [],.str C [],.str C [],.str C [],.str C [],.str C [],.str C [],.str C [],.str C [],.str C [],.str C [],.str C [],.str C [],.str C [],.str C [],.str C [],.str C []]
theorem Vg (x:Wy×List UInt8):VC.holds (runM AF 157 an JQ x)=((λP0:SV=>((λP1:SB=>(((O ((x.1.n:Int)<=(x.1.u:Int))=C->(gR x.1 x.2=C->False)/\(gR x.1 x.2=F->(∀(u5:Nat->Nat),SV.val u5 P0=SV.val u5 dw)/\F=F/\(4:Nat)=(4:Nat)/\x.1.root=x.1.root/\(x.1.z=x.1.z/\x.1.o=x.1.o/\(0:Nat)=(0:Nat)/\x.1.n=x.1.n/\x.1.c=x.1.c)/\(x.1.u:Int)=(x.1.u:Int)/\(0:Nat)=(0:Nat)/\aa P1 P1/\True))/\(O ((x.1.n:Int)<=(x.1.u:Int))=F->(0<=(x.1.u:Int)/\(x.1.u:Int)<(x.1.n:Int))/\(x.1.o=x.1.o/\0+(x.1.u:Int).toNat<x.1.n)/\(True/\BT [x.1.f (0+(x.1.u:Int).toNat)])/\((!decide (aC (flat [x.1.f (0+(x.1.u:Int).toNat)])=x.2))=C->(gR x.1 x.2=C->False)/\(gR x.1 x.2=F->(∀(u4:Nat->Nat),SV.val u4 P0=SV.val u4 dw)/\F=F/\(4:Nat)=(4:Nat)/\x.1.root=x.1.root/\(x.1.z=x.1.z/\x.1.o=x.1.o/\(0:Nat)=(0:Nat)/\x.1.n=x.1.n/\x.1.c=x.1.c)/\(x.1.u:Int)=(x.1.u:Int)/\(0:Nat)=(0:Nat)/\aa P1 P1/\True))/\((!decide (aC (flat [x.1.f (0+(x.1.u:Int).toNat)])=x.2))=F ->(0<=(x.1.u:Int)/\(x.1.u:Int)<(x.1.n:Int))/\(x.1.o=x.1.o/\0+(x.1.u:Int).toNat<x.1.n)/\(((x.1.f (0+(x.1.u:Int).toNat)).length<=9223372036854775808/\(x.1.f (0+(x.1.u:Int).toNat)).length<1099511627776)/\(bg (x.1.f (0+(x.1.u:Int).toNat))=C->H x.1.view=H x.1.view/\H (x.1.sb 1 x.1.u SV.aK)=H (x.1.sb 1 x.1.u SV.aK)/\H (x.1.sb 1 x.1.u SV.aK)=H (x.1.sb 1 x.1.u SV.aK)/\I6 ((x.1.u:Int)+1)/\(gR x.1 x.2=C->(∀(u3:Nat->Nat),SV.val u3 (SV.agg (ep (getD (x.1.f (0+(x.1.u:Int).toNat)))))=SV.val u3 (getD (x.1.f x.1.u)).sv)/\C=C/\aa (SB.cells [SV.str F x.1.root,SV.bS 1 1 x.1.z x.1.o 0 x.1.n x.1.c,SV.int .i64 F ((x.1.u:Int)+1),SV.aK] 4 188) (SB.cells [SV.str F x.1.root,SV.bS 1 1 x.1.z x.1.o 0 x.1.n x.1.c,SV.int .i64 F (↑(x.1.u+1):Int),SV.aK] 4 188)/\True)/\(gR x.1 x.2=F->False))/\(bg (x.1.f (0+(x.1.u:Int).toNat))=F ->H x.1.view=H x.1.view/\H (x.1.sb 1 x.1.u SV.aK)=H (x.1.sb 1 x.1.u SV.aK)/\H (x.1.sb 1 x.1.u SV.aK)=H (x.1.sb 1 x.1.u SV.aK)/\(gR x.1 x.2=C->False)/\(gR x.1 x.2=F->(∀(u2:Nat->Nat),SV.val u2 P0=SV.val u2 dw)/\F=F/\(4:Nat)=(4:Nat)/\x.1.root=x.1.root/\(x.1.z=x.1.z/\x.1.o=x.1.o/\(0:Nat)=(0:Nat)/\x.1.n=x.1.n/\x.1.c=x.1.c)/\(x.1.u:Int)=(x.1.u:Int)/\(0:Nat)=(0:Nat)/\aa P1 P1/\True)))/\H x.1.view=H x.1.view/\H (x.1.sb 1 x.1.u SV.aK)=H (x.1.sb 1 x.1.u SV.aK)/\H (x.1.sb 1 x.1.u SV.aK)=H (x.1.sb 1 x.1.u SV.aK)/\((x.1.f (0+(x.1.u:Int).toNat)).length<=9223372036854775808/\(x.1.f (0+(x.1.u:Int).toNat)).length<1099511627776)/\(bg (x.1.f (0+(x.1.u:Int).toNat))=C->I6 ((x.1.u:Int)+1)/\(gR x.1 x.2=C->(∀(u1:Nat ->Nat),SV.val u1 (SV.agg (ep (getD (x.1.f (0+(x.1.u:Int).toNat)))))=SV.val u1 (getD (x.1.f x.1.u)).sv)/\C=C/\aa (SB.cells [SV.str F x.1.root,SV.bS 1 1 x.1.z x.1.o 0 x.1.n x.1.c,SV.int .i64 F ((x.1.u:Int)+1),SV.aK] 4 188) (SB.cells [SV.str F x.1.root,SV.bS 1 1 x.1.z x.1.o 0 x.1.n x.1.c,SV.int .i64 F (↑(x.1.u+1):Int),SV.aK] 4 188)/\True)/\(gR x.1 x.2=F->False))/\(bg (x.1.f (0+(x.1.u:Int).toNat))=F->(gR x.1 x.2=C->False)/\(gR x.1 x.2=F->(∀(u0:Nat->Nat),SV.val u0 P0=SV.val u0 dw)/\F=F/\(4:Nat)=(4:Nat)/\x.1.root=x.1.root/\(x.1.z=x.1.z/\x.1.o=x.1.o/\(0:Nat)=(0:Nat)/\x.1.n=x.1.n/\x.1.c=x.1.c)/\(x.1.u:Int)=(x.1.u:Int)/\(0:Nat)=(0:Nat)/\aa P1 P1/\True))))))) (SB.cells [SV.int .i64 F (x.1.u:Int),SV.iface 30 (SV.int .i64 C 10)] 2 186))) (SV.agg (SV.int .i64 C 0::SV.str C []::SV.str C []::Kf))):=by kernel_rfl
theorem nN (a:List UInt8):flat [a]=a:=by simp[flat]
theorem aab {a:List UInt8}(h:a.length<=1099511627776):BT [a]:=⟨by rw[nN];omega,by simp⟩
attribute [local irreducible] aC bg getD
theorem Mw {x:Wy×List UInt8}(h:x.1.Ok):aB (runM AF 157 an JQ x):=by
 refine aB.of_eq (Vg x) ?_;dsimp only;obtain⟨w,t⟩:=x;have h:w.Ok:=h;have hu:=h.u;have hn:=h.n;simp only[a!,Nat.zero_add,nN];by_cases h1:(w.u:Int)<w.n
 ·have hf:=h.f w.u (by omega);have d1:O ((w.n:Int)<=w.u)=false:=decide_eq_false (by omega);have hq:BT [w.f w.u]:=aab (by omega);cases h2:O (aC (w.f w.u)=t)<;>cases h3:bg (w.f w.u)
  all_goals
   have ht:gR w t=(O ((w.u:Int)<w.n)&&(O (aC (w.f w.u)=t)&&bg (w.f w.u))):=rfl;rw[decide_eq_true h1,h2,h3] at ht;simp only[d1,ht,Bool.not_true,Bool.not_false,Bool.and_false,Bool.and_true,cy,c4,false_imp_iff,forall_const,true_and,and_true,hq]
   repeat' first
    | omega
    | exact aa.refl _
    | refine J ?_ ?_
    | exact λ_=>rfl
    | rfl
    | exact trivial
    | fail
 ·have d1:O ((w.n:Int)<=w.u)=true:=decide_eq_true (by omega);have ht:gR w t=false:=by rw[gR,decide_eq_false h1];rfl
  simp only[d1,ht,cy,c4,false_imp_iff,forall_const,true_and,and_true]
  repeat' first
   | omega
   | exact aa.refl _
   | refine J ?_ ?_
   | exact λ_=>rfl
   | rfl
   | exact trivial
   | fail
theorem Xl:az Q 157 (cD JQ) :=gx (n:=20) (fn:=an) Tryz.func157 (by kernel_rfl) (by kernel_rfl) JQ λx hx=>⟨AF,KV,rfl,Mw hx.1⟩
noncomputable def NG:List (FuncId×PT):=(157,cD JQ)::(151,cH vo)::Bw
theorem Lp:bn Q (λf=>aE f NG):=.cons Xl (cc _) (.cons Nw (b9 _) sw)
end Go.Proofs.YtoibaecagklkaaaGreatDoor
namespace Go.Proofs.YtoibaecagklkaaaGreatDoor
open Go Sx
set_option maxRecDepth 20000
section
attribute [local irreducible] aC bg getD bJ bw ah gR
end
def Wy.on (w:Wy)(u:Nat):Wy:={w with u:=u}
structure Wh where
 y:Nd
 p:List UInt8
 u:Nat
 b:Bool
 v:List UInt8
def Nd.Good (x:Nd):Prop:=(x.k=2->x.p≠[])/\Fits x
def I9 (st:Sx.St)(i:Nat):Nat:=match slot st.tmps i with
 | some (.ptr k _ _)=>k
 | _=>0
theorem nO {s:List UInt8}(h:bg s=C):aU (getD s)=true:=by unfold bg CZ at h;simp only[S] at h;exact h.2.1
theorem O4 {t:List UInt8}(h:bJ t=C):aU (getD t)=true:=by rw[xA,S,S] at h;exact nO h.2.1
end Go.Proofs.YtoibaecagklkaaaGreatDoor
namespace Go.Proofs.YtoibaecagklkaaaGreatDoor
open Go Sx
set_option maxRecDepth 20000
structure Sp where
 fr:List UInt8
 to:List UInt8
 n:Nat
 f:Nat->List UInt8
 z:Bool
 o:Nat
 c:Nat
 ad:List UInt8->Bool
 ag:List UInt8->Int
structure Sp.Ok (w:Sp):Prop where
 n:w.n<=200
 f: ∀ i,i<w.n->(w.f i).length<=1000
 a: ∀ h,w.ad h=C->0<=w.ag h/\w.ag h<w.n
 fr:w.fr.length<=1000
 to:w.to.length<=1000
structure Wk where
 ud:List UInt8->Bool
 us:List UInt8->Int
 ns:List (List UInt8)
 lk:Nat
 fs:List (List UInt8×List UInt8)
def Wk.used (s:Wk)(h:List UInt8):Int:=dflt (s.ud h) (s.us h)
structure Wk.Small (s:Wk):Prop where
 u: ∀ h,0<=s.used h/\s.used h<=1000
 ns:s.ns.length<=1000
 lk:s.lk<=1000
 fs:s.fs.length<=1000
def Sp.at (w:Sp)(h:List UInt8):List UInt8:=w.f (w.ag h).toNat
def bD (w:Sp)(h:List UInt8):Bool:=w.ad h&&bg (w.at h)
def Wk.take (w:Sp)(s:Wk)(h:List UInt8):Wk:={s with ud:=dA s.ud h,us:=fE s.us h (s.used h+1),ns:=if s.used h=0 then s.ns++[w.at h] else s.ns}
def iA (l:List (List UInt8)):aq:=.str λi=>l.getD i []
def bK (l:List (List UInt8×List UInt8)):aq:=.str λi=>(l.getD i ([],[])).1
def bL (l:List (List UInt8×List UInt8)):aq:=.str λi=>(l.getD i ([],[])).2
def Ka (w:Sp)(s:Wk)(kn kf c1 c2:Nat):SB:=.cells [.str F w.fr,.str F w.to,.func (.func 50) [] [.ptr 4 C 0,.ptr 6 C 0],.map 1,.aZ kn 1 C 0 s.ns.length c1,.int .i64 F s.lk,.aZ kf 2 C 0 s.fs.length c2] 7 92
def eH (s:Wk):SB:=.fmap s.ud (.int .i64 s.us) I
def dL (s:Wk)(c1:Nat):SB:=.rows C s.ns.length [iA s.ns] F (c1*1) 9
def dm (s:Wk)(c2:Nat):SB:=.rows C s.fs.length [bK s.fs,bL s.fs] F (c2*2) 50
def Sp.own (w:Sp):Mem:=[(4,.cells [.map 5] 1 90),(5,.fmap w.ad (.int .i64 w.ag) I),(6,.cells [.bS 7 1 w.z w.o 0 w.n w.c] 1 29)]
def Sp.view (w:Sp):SB:=.view w.z w.o w.n [.str w.f]
structure yN where
 w:Sp
 s:Wk
 c1:Nat
 c2:Nat
def yN.mem (g:yN):Mem:=[(0,Ka g.w g.s 2 3 g.c1 g.c2),(1,eH g.s),(2,dL g.s g.c1),(3,dm g.s g.c2)]++g.w.own++[(7,g.w.view)]
def Sp.back (w:Sp)(s:Wk)(c1 c2:Nat):Mem:=[(0,Ka w s 8 9 c1 c2),(1,eH s),(8,dL s c1),(9,dm s c2)]++w.own
def aat (v:SV)(w:Sp)(s:Wk):fZ:=.all (Nat×Nat) λc=>.req (s.ns.length<=c.1/\s.fs.length<=c.2) (.ret v (w.back s c.1 c.2))
def Mq (f:SV->SV):fZ:=.all (List UInt8×List UInt8) λy=>.ret (f (.iface 87 (.ptr 10 C 0))) [(10,.cells [.str F y.1,.str F y.2] 2 207)]
def snC (A:Type)(args:A->List SV)(pre:yN->A->Prop)(wP:yN->A->fZ):gE :={G:=yN×A,n:=8,N:=11,pre:=λx=>x.1.w.Ok/\x.1.s.Small/\(x.1.s.ns.length<=x.1.c1/\x.1.s.fs.length<=x.1.c2)/\pre x.1 x.2,args:=λx=>.ptr 0 C 0::args x.2,mem:=λx=>x.1.mem,wP:=λx=>wP x.1 x.2}
def Oc (g:yN)(h:List UInt8):fZ:=.fork (bD g.w h) λb=>match b with
 | true=>aat (.aN [(getD (g.w.at h)).sv,.aK]) g.w (g.s.take g.w h)
 | false=>Mq λv=>.aN [dw,v]
def wh:gE:=snC (List UInt8) (λh=>[.str F h]) (λ_ _=>True) Oc
def Qp (g:yN)(t:List UInt8):fZ:=.fork (bJ t) λb=>match b with
 | true=>aat (.aN [(getD t).sv,.aK]) g.w g.s
 | false=>.fork (bw t) λb=>match b with
   | true=>Oc g (ah t)
   | false=>Mq λv=>.aN [dw,v]
def om:gE:=snC (List UInt8) (λt=>[.str F t]) (λ_ t=>t.length<9223372036854775808) Qp
def hasB (fr to p:List UInt8):Bool:=!Op.bytesLess p (ak fr)&&(Op.bytesLess p (ak to)||decide (p=ak to))
def bN (fr to p:List UInt8):Bool:=(Op.bytesLess p (ak to)||decide (p=ak to))&&(!Op.bytesLess p (ak fr)||preB p (ak fr))
def kC (p:List UInt8):Bool:=O ((p.length:Int)% 2=0)&&gY p
def TW (p:List UInt8):cL:=.fork (kC p) λb=>match b with
 | true=>.ret (.aN [.str F (aX p),.bool C C])
 | false=>.ret (.aN [.str C [],.bool C F])
def zW:List SV->Option (Prop×SV)
 | [.agg [.str F fr,.str F to],.str F p]=>H (fr.length<=1000/\to.length<=1000,.bool F (hasB fr to p))
 | _=>I
def sD:List SV->Option (Prop×SV)
 | [.agg [.str F fr,.str F to],.str F p]=>H (fr.length<=1000/\to.length<=1000,.bool F (bN fr to p))
 | _=>I
def vJ:List SV->Option (Prop×cL)
 | [.str F p]=>H (p.length<1099511627776,TW p)
 | _=>I
noncomputable def fP:List (FuncId×PT):=(58,aY sH)::(170,aY pg)::NG
theorem cO:bn Q (λf=>aE f fP):=.cons IV (aR _) (.cons Em (aR _) Lp)
noncomputable def nJ:fJ:={cm with cG:=λf=>aE f fP}
theorem A5:Sx.Good Q nJ:=.of bR cO bl
end Go.Proofs.YtoibaecagklkaaaGreatDoor
