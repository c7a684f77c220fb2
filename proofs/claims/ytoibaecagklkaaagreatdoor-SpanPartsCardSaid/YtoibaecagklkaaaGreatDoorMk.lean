/-
  Conditions that the executor computes, written out by a program (vcgen.py).
-/
import Derived.Test.YtoibaecagklkaaaGreatDoorMj
import Derived.Test.YtoibaecagklkaaaGreatDoorProg
import Derived.Shelf.Strings.OnBuilder
open And renaming intro->O
open Array renaming getElem?_eq_some_iff->b!
open Bool renaming and_eq_false_iff->d_,and_eq_true->d!,eq_iff_iff->Z,false->u,false_and->ag,false_eq_true->M,not_eq_false'->ec,not_eq_true'->ef,true->A,true_and->an,true_eq_false->N
open Decidable renaming decide->C
open Go.IntKind renaming i64->S,u64->a_
open Go.LoopState renaming ready->a!
open Go.Operand renaming const->ei,tmp->L
open Go.Proofs.Tryz renaming f115->ct,f124->cx,f165->cy,f166->cS,f198->c4,f69->c5,f71->ej,func116->ek,prog->J
open Int renaming le_refl->bf,not_le->bU,not_lt->W,pow_succ->b_,toNat_natCast->en
open List renaming concat_eq_append->c6,eq_nil_or_concat->c7,getD_eq_getElem?_getD->c8,getElem?_append_left->er,getElem?_eq_getElem->eu,getElem?_map->c9,intercalate->ez,length_append->eA,length_cons->c_,length_drop->c!,length_eq_zero_iff->X,length_map->eB,length_nil->dD,length_pos_iff->Y,map_map->eC,nil_append->dR,take->I
open Option renaming none->H,some->D
open UInt8 renaming ofNat->V
namespace Go.Proofs.YtoibaecagklkaaaGreatDoor
open Go Sx
set_option maxRecDepth 20000
theorem aaz (base n:Int)(R:SV->Prop):VC.holds (eD Rs 115 ct [.int .u8 u base,.int .i64 u n] R)=(((C (n<=55)=A->R (SV.str (u&&A) [V ((base+n% 256)% 256).toNat]))/\(C (n<=55)=u->(0<=n% 18446744073709551616/\n% 18446744073709551616<(18446744073709551616:Int))/\(↑(1:Nat):Int)+(↑(digits (n% 18446744073709551616)).length:Int)<=9223372036854775807/\R (SV.str u (cat [V (((base+55)% 256+(↑(digits (n% 18446744073709551616)).length:Int)% 256)% 256).toNat] (digits (n% 18446744073709551616))))))):=by kernel_rfl
theorem abI (s:List UInt8):VC.holds (hJ Rs 198 c4 [.str u s] (Y0 s))=((λP0:SV=>((λP1:SV=>((λP2:SV=>((λP3:SV=>((λP4:SV=>((λP5:SB=>(((C (s=[])=A->(bM s=A->af P0 P1)/\(bM s=u->∃(u17:Int),aa (SB.cells [SV.int .i64 A 0,SV.iface 30 (SV.int .i64 A 2)] 2 292) (SB.cells [SV.int .i64 u u17,SV.iface 30 (SV.int .i64 A 2)] 2 292)/\af P0 P2))/\(C (s=[])=u->((0:Int)<=(0:Int)/\0<(s.length:Int))/\(C (ai s 0<128)=A->((0:Int)<=(0:Int)/\(0:Int)<=(1:Int)/\1<=(s.length:Int))/\((0:Int)<=(1:Int)/\1<=(s.length:Int)/\(s.length:Int)<=(s.length:Int))/\(bM s=A->af (SV.aN [SV.bool A u,SV.str (u&&A&&A) (cj s H (D (ei (Value.int S 1))) 0 1),SV.str (u&&A&&u) (cj s (D (ei (Value.int S 1))) H 1 (s.length:Int)),SV.aK]) P1)/\(bM s=u->∃(_:Int),False))/\(C (ai s 0<128)=u->((0:Int)<=(0:Int)/\0<(s.length:Int))/\(C (ai s 0<192)=A->((0:Int)<=(0:Int)/\0<(s.length:Int))/\I6 ((ai s 0 - 128)% 256) /\(C (55<(ai s 0 - 128)% 256)=A->I6 (1+(ai s 0 - 128)% 256)/\I6 (1+(ai s 0 - 128)% 256 - (55:Int))/\((2:Int)<=1+(ai s 0 - 128)% 256 - (55:Int)/\1+(ai s 0 - 128)% 256 - (55:Int)<(100:Int))/\(jP s (1+(ai s 0 - 128)% 256 - (55:Int))=A->((-9223372036854775808:Int)<=(s.length:Int) - (1+(ai s 0 - 128)% 256 - (55:Int))/\(s.length:Int) - (1+(ai s 0 - 128)% 256 - (55:Int))<=9223372036854775807)/\(C ((s.length:Int) - (1+(ai s 0 - 128)% 256 - (55:Int))<part s (1+(ai s 0 - 128)% 256 - (55:Int)))=A->(bM s=A->af P0 P1)/\(bM s=u->∃(u15:Int),aa P5 (SB.cells [SV.int .i64 u u15,SV.iface 30 (SV.int .i64 A 2)] 2 292)/\af P0 P2))/\(C ((s.length:Int) - (1+(ai s 0 - 128)% 256 - (55:Int))<part s (1+(ai s 0 - 128)% 256 - (55:Int)))=u ->(C (part s (1+(ai s 0 - 128)% 256 - (55:Int))=1)=A->((0:Int)<=(1:Int)/\1<(s.length:Int))/\(C (ai s 1<128)=A->(bM s=A->af P0 P1)/\(bM s=u->∃(u14:Int),aa (SB.cells [SV.int .i64 A 1,SV.iface 30 (SV.int .i64 A 2)] 2 292) (SB.cells [SV.int .i64 u u14,SV.iface 30 (SV.int .i64 A 2)] 2 292)/\af P0 P2))/\(C (ai s 1<128)=u->((-9223372036854775808:Int)<=1+(ai s 0 - 128)% 256 - 55+part s (1+(ai s 0 - 128)% 256 - (55:Int))/\1+(ai s 0 - 128)% 256 - 55+part s (1+(ai s 0 - 128)% 256 - (55:Int))<=9223372036854775807)/\((0:Int)<=1+(ai s 0 - 128)% 256 - (55:Int)/\1+(ai s 0 - 128)% 256 - (55:Int)<=1+(ai s 0 - 128)% 256 - 55+part s (1+(ai s 0 - 128)% 256 - (55:Int))/\1+(ai s 0 - 128)% 256 - 55+part s (1+(ai s 0 - 128)% 256 - (55:Int))<=(s.length:Int))/\((-9223372036854775808:Int)<=1+(ai s 0 - 128)% 256 - 55+part s (1+(ai s 0 - 128)% 256 - (55:Int)) /\1+(ai s 0 - 128)% 256 - 55+part s (1+(ai s 0 - 128)% 256 - (55:Int))<=9223372036854775807)/\((0:Int)<=1+(ai s 0 - 128)% 256 - 55+part s (1+(ai s 0 - 128)% 256 - (55:Int))/\1+(ai s 0 - 128)% 256 - 55+part s (1+(ai s 0 - 128)% 256 - (55:Int))<=(s.length:Int)/\(s.length:Int)<=(s.length:Int))/\(bM s=A->af P3 P1)/\(bM s=u->∃(_:Int),False)))/\(C (part s (1+(ai s 0 - 128)% 256 - (55:Int))=1)=u->((-9223372036854775808:Int)<=1+(ai s 0 - 128)% 256 - 55+part s (1+(ai s 0 - 128)% 256 - (55:Int))/\1+(ai s 0 - 128)% 256 - 55+part s (1+(ai s 0 - 128)% 256 - (55:Int))<=9223372036854775807)/\((0:Int)<=1+(ai s 0 - 128)% 256 - (55:Int)/\1+(ai s 0 - 128)% 256 - (55:Int)<=1+(ai s 0 - 128)% 256 - 55+part s (1+(ai s 0 - 128)% 256 - (55:Int))/\1+(ai s 0 - 128)% 256 - 55+part s (1+(ai s 0 - 128)% 256 - (55:Int))<=(s.length:Int))/\((-9223372036854775808:Int)<=1+(ai s 0 - 128)% 256 - 55+part s (1+(ai s 0 - 128)% 256 - (55:Int)) /\1+(ai s 0 - 128)% 256 - 55+part s (1+(ai s 0 - 128)% 256 - (55:Int))<=9223372036854775807)/\((0:Int)<=1+(ai s 0 - 128)% 256 - 55+part s (1+(ai s 0 - 128)% 256 - (55:Int))/\1+(ai s 0 - 128)% 256 - 55+part s (1+(ai s 0 - 128)% 256 - (55:Int))<=(s.length:Int)/\(s.length:Int)<=(s.length:Int))/\(bM s=A->af P3 P1)/\(bM s=u->∃(_:Int),False))))/\(jP s (1+(ai s 0 - 128)% 256 - (55:Int))=u->∀(u11:Int),(bM s=A->af P0 P1)/\(bM s=u->∃(u10:Int),aa (SB.cells [SV.int .i64 u u11,SV.iface 30 (SV.int .i64 A 2)] 2 292) (SB.cells [SV.int .i64 u u10,SV.iface 30 (SV.int .i64 A 2)] 2 292)/\af P0 P2)))/\(C (55<(ai s 0 - 128)% 256)=u->I6 ((s.length:Int) - 1)/\(C ((s.length:Int) - 1<(ai s 0 - 128)% 256)=A->(bM s=A->af P0 P1)/\(bM s=u->∃(u9:Int),aa P5 (SB.cells [SV.int .i64 u u9,SV.iface 30 (SV.int .i64 A 2)] 2 292)/\af P0 P2)) /\(C ((s.length:Int) - 1<(ai s 0 - 128)% 256)=u->(C ((ai s 0 - 128)% 256=(1:Int))=A->((0:Int)<=(1:Int)/\1<(s.length:Int))/\(C (ai s 1<128)=A->(bM s=A->af P0 P1)/\(bM s=u->∃(u8:Int),aa (SB.cells [SV.int .i64 A 1,SV.iface 30 (SV.int .i64 A 2)] 2 292) (SB.cells [SV.int .i64 u u8,SV.iface 30 (SV.int .i64 A 2)] 2 292)/\af P0 P2))/\(C (ai s 1<128)=u->I6 (1+(ai s 0 - 128)% 256)/\((0:Int)<=(1:Int)/\(1:Int)<=1+(ai s 0 - 128)% 256/\1+(ai s 0 - 128)% 256<=(s.length:Int))/\I6 (1+(ai s 0 - 128)% 256)/\((0:Int)<=1+(ai s 0 - 128)% 256/\1+(ai s 0 - 128)% 256<=(s.length:Int)/\(s.length:Int)<=(s.length:Int))/\(bM s=A->af P4 P1)/\(bM s=u->∃(_:Int),False)))/\(C ((ai s 0 - 128)% 256=(1:Int))=u->((-9223372036854775808:Int)<=1+(ai s 0 - 128)% 256 /\1+(ai s 0 - 128)% 256<=(9223372036854775807:Int))/\((0:Int)<=(1:Int)/\(1:Int)<=1+(ai s 0 - 128)% 256/\1+(ai s 0 - 128)% 256<=(s.length:Int))/\I6 (1+(ai s 0 - 128)% 256)/\((0:Int)<=1+(ai s 0 - 128)% 256/\1+(ai s 0 - 128)% 256<=(s.length:Int)/\(s.length:Int)<=(s.length:Int))/\(bM s=A->af P4 P1)/\(bM s=u->∃(_:Int),False)))))/\(C (ai s 0<192)=u->((0:Int)<=(0:Int)/\0<(s.length:Int))/\I6 ((ai s 0 - 192)% 256)/\(C (55<(ai s 0 - 192)% 256)=A->I6 (1+(ai s 0 - 192)% 256)/\I6 (1+(ai s 0 - 192)% 256 - (55:Int))/\((2:Int)<=1+(ai s 0 - 192)% 256 - (55:Int)/\1+(ai s 0 - 192)% 256 - (55:Int)<(100:Int)) /\(jP s (1+(ai s 0 - 192)% 256 - (55:Int))=A->((-9223372036854775808:Int)<=(s.length:Int) - (1+(ai s 0 - 192)% 256 - (55:Int))/\(s.length:Int) - (1+(ai s 0 - 192)% 256 - (55:Int))<=9223372036854775807)/\(C ((s.length:Int) - (1+(ai s 0 - 192)% 256 - (55:Int))<part s (1+(ai s 0 - 192)% 256 - (55:Int)))=A->(bM s=A->af P0 P1)/\(bM s=u->∃(u5:Int),aa P5 (SB.cells [SV.int .i64 u u5,SV.iface 30 (SV.int .i64 A 2)] 2 292)/\af P0 P2))/\(C ((s.length:Int) - (1+(ai s 0 - 192)% 256 - (55:Int))<part s (1+(ai s 0 - 192)% 256 - (55:Int)))=u->((-9223372036854775808:Int)<=1+(ai s 0 - 192)% 256 - 55+part s (1+(ai s 0 - 192)% 256 - (55:Int))/\1+(ai s 0 - 192)% 256 - 55+part s (1+(ai s 0 - 192)% 256 - (55:Int))<=9223372036854775807)/\((0:Int)<=1+(ai s 0 - 192)% 256 - (55:Int)/\1+(ai s 0 - 192)% 256 - (55:Int)<=1+(ai s 0 - 192)% 256 - 55+part s (1+(ai s 0 - 192)% 256 - (55:Int)) /\1+(ai s 0 - 192)% 256 - 55+part s (1+(ai s 0 - 192)% 256 - (55:Int))<=(s.length:Int))/\((-9223372036854775808:Int)<=1+(ai s 0 - 192)% 256 - 55+part s (1+(ai s 0 - 192)% 256 - (55:Int))/\1+(ai s 0 - 192)% 256 - 55+part s (1+(ai s 0 - 192)% 256 - (55:Int))<=9223372036854775807)/\((0:Int)<=1+(ai s 0 - 192)% 256 - 55+part s (1+(ai s 0 - 192)% 256 - (55:Int))/\1+(ai s 0 - 192)% 256 - 55+part s (1+(ai s 0 - 192)% 256 - (55:Int))<=(s.length:Int)/\(s.length:Int)<=(s.length:Int))/\(bM s=A->af (SV.aN [SV.bool (A&&A) (C ((192:Int)=(192:Int))),SV.str (u&&u&&u) (cj s (D (L 70)) (D (L 73)) (1+(ai s 0 - 192)% 256 - (55:Int)) (1+(ai s 0 - 192)% 256 - 55+part s (1+(ai s 0 - 192)% 256 - (55:Int)))),SV.str (u&&u&&u) (cj s (D (L 78)) H (1+(ai s 0 - 192)% 256 - 55+part s (1+(ai s 0 - 192)% 256 - (55:Int))) (s.length:Int)),SV.aK]) P1)/\(bM s=u->∃(_:Int),False))) /\(jP s (1+(ai s 0 - 192)% 256 - (55:Int))=u->∀(u3:Int),(bM s=A->af P0 P1)/\(bM s=u->∃(u2:Int),aa (SB.cells [SV.int .i64 u u3,SV.iface 30 (SV.int .i64 A 2)] 2 292) (SB.cells [SV.int .i64 u u2,SV.iface 30 (SV.int .i64 A 2)] 2 292)/\af P0 P2)))/\(C (55<(ai s 0 - 192)% 256)=u->I6 ((s.length:Int) - 1)/\(C ((s.length:Int) - 1<(ai s 0 - 192)% 256)=A->(bM s=A->af P0 P1)/\(bM s=u->∃(u1:Int),aa P5 (SB.cells [SV.int .i64 u u1,SV.iface 30 (SV.int .i64 A 2)] 2 292)/\af P0 P2))/\(C ((s.length:Int) - 1<(ai s 0 - 192)% 256)=u->I6 (1+(ai s 0 - 192)% 256)/\((0:Int)<=(1:Int)/\(1:Int)<=1+(ai s 0 - 192)% 256/\1+(ai s 0 - 192)% 256<=(s.length:Int))/\I6 (1+(ai s 0 - 192)% 256)/\((0:Int)<=1+(ai s 0 - 192)% 256 /\1+(ai s 0 - 192)% 256<=(s.length:Int)/\(s.length:Int)<=(s.length:Int))/\(bM s=A->af (SV.aN [SV.bool (A&&A) (C ((192:Int)=(192:Int))),SV.str (u&&A&&u) (cj s (D (L 70)) (D (L 73)) 1 (1+(ai s 0 - 192)% 256)),SV.str (u&&u&&u) (cj s (D (L 78)) H (1+(ai s 0 - 192)% 256) (s.length:Int)),SV.aK]) P1)/\(bM s=u->∃(_:Int),False))))))))) (SB.cells [SV.int .i64 u (s.length:Int),SV.iface 30 (SV.int .i64 A 2)] 2 292))) (SV.aN [SV.bool (A&&A) (C ((128:Int)=(192:Int))),SV.str (u&&A&&u) (cj s (D (L 70)) (D (L 73)) 1 (1+(ai s 0 - 128)% 256)),SV.str (u&&u&&u) (cj s (D (L 78)) H (1+(ai s 0 - 128)% 256) (s.length:Int)),SV.aK]))) (SV.aN [SV.bool (A&&A) (C ((128:Int)=(192:Int))),SV.str (u&&u&&u) (cj s (D (L 70)) (D (L 73)) (1+(ai s 0 - 128)% 256 - (55:Int)) (1+(ai s 0 - 128)% 256 - 55+part s (1+(ai s 0 - 128)% 256 - (55:Int)))),SV.str (u&&u&&u) (cj s (D (L 78)) H (1+(ai s 0 - 128)% 256 - 55+part s (1+(ai s 0 - 128)% 256 - (55:Int))) (s.length:Int)),SV.aK]))) (SV.aN ([SV.bool A u,SV.str A [],SV.str A []]++[SV.iface 290 (SV.ptr 0 A 0)])))) (SV.aN [SV.bool u (dj s),SV.str u (ah s),SV.str u (aH s),SV.aK]))) (SV.aN [SV.bool A u,SV.str A [],SV.str A [],SV.iface 290 (SV.ptr 0 A 0)])):=by kernel_rfl
theorem Aa {s:List UInt8}(h:ai s 0<192):lead s=ai s 0 - 128:=if_pos h
theorem z8 {s:List UInt8}(h: ¬ ai s 0<192):lead s=ai s 0 - 192:=if_neg h
theorem fj {s:List UInt8}:bM s=A↔s≠[]/\(ai s 0<128∨(¬ ai s 0<128/\55<lead s/\jP s (lead s - 54)=A/\part s (lead s - 54)<=s.length - (lead s - 54))∨(¬ ai s 0<128/\¬ 55<lead s/\lead s<=s.length - 1/\¬ (ai s 0<192/\lead s=1/\ai s 1<128))):=by
 unfold bM KB cutFrom;by_cases hA:ai s 0<128
 ·simp[hA]
 ·by_cases hL:55<lead s
  ·have:lead s≠1:=by omega
   simp[hA,hL,this]
  ·simp[hA,hL];intro _ _;omega
theorem Jr {a a':Bool}{b b' c c':List UInt8}{l1 l2 l3 l4 l5 l6:Bool}(h1:a=a')(h2:b=b')(h3:c=c'):af (.aN [.bool l1 a,.str l2 b,.str l3 c,.aK]) (.aN [.bool l4 a',.str l5 b',.str l6 c',.aK]):=by subst h1;subst h2;subst h3;exact λ_=>rfl
theorem lC {s:List UInt8}(h:ai s 0<128):dj s=u/\ah s=s.take 1/\aH s=s.drop 1:=by refine⟨by simp[dj];omega,?_,?_⟩<;>simp[ah,aH,cutFrom,KB,h]
theorem oL {s:List UInt8}(h: ¬ ai s 0<128)(h2: ¬ 55<lead s):ah s=(s.drop (1:Int).toNat).take (lead s).toNat/\aH s=s.drop (1+lead s).toNat:=by constructor<;>simp[ah,aH,cutFrom,KB,h,h2]
theorem lP {s:List UInt8}(h: ¬ ai s 0<128)(h2:55<lead s):ah s=(s.drop (lead s - 54).toNat).take (part s (lead s - 54)).toNat/\aH s=s.drop (lead s - 54+part s (lead s - 54)).toNat:=by constructor<;>simp[ah,aH,cutFrom,KB,h,h2]
theorem OM {s:List UInt8}(hs:s.length<9223372036854775808):aB (hJ Rs 198 c4 [.str u s] (Y0 s)):=by
 refine aB.of_eq (abI s) ?_;have g0:=eO s 0;have g1:=eO s 1;have g2:=sI s (lead s - 54);by_cases h0:s=[]
 ·have hB:bM s=false:=by rw[Bool.eq_false_iff,ne_eq,fj];simp[h0]
  simp only[h0,decide_true,forall_const,N,false_imp_iff,and_true];rw[h0] at hB;simp only[hB,M,false_imp_iff,forall_const,true_and]
  (first | exact⟨_,aa.cells (λ_=>rfl) rfl,λ_=>rfl⟩ | exact λ_=>rfl | trivial)
 have hl:0<s.length:=Y.2 h0;by_cases hA:ai s 0<128
 ·have hB:bM s=true:=fj.2 ⟨h0,.inl hA⟩;obtain⟨k1,k2,k3⟩:=lC hA;simp only[h0,hA,hB,decide_true,decide_false,forall_const,N,M,false_imp_iff,and_true,true_and,cj];refine⟨by omega,by omega,by omega,?_⟩;exact Jr k1.symm (by rw[k2];rfl) (by rw[k3];rfl)
 ·have e2:1+lead s - 55=lead s - 54:=by omega
  by_cases hC:ai s 0<192
  ·have e3:dj s=false:=by simp[dj];omega
   have e1:(ai s 0 - 128)% 256=lead s:=by rw[Aa hC];omega
   have e4:=Aa hC;by_cases hL:55<lead s
   ·obtain⟨k1,k2⟩:=lP hA hL;have hB:bM s=(jP s (lead s - 54)&&C (part s (lead s - 54)<=s.length - (lead s - 54))):=by rw[Z,fj];simp[h0,hA,hL]
    simp only[h0,hA,hC,hL,hB,e1,e2,decide_true,decide_false,forall_const,N,M,false_imp_iff,and_true,true_and,cj];cases hb:jP s (lead s - 54)with
    | false=>simp only[ag,M,false_imp_iff,forall_const,true_and];(repeat' first | apply O | intro (_:_=A) | intro (_:_=u) | intro (_:Int))<;>first | omega | (first | exact⟨_,aa.cells (λ_=>rfl) rfl,λ_=>rfl⟩ | exact λ_=>rfl | trivial)
    | true =>
      have hb':=iz.1 hb;have hn: ¬ part s (lead s - 54)=1:=by omega
      simp only[hn,decide_false,an,N,M,false_imp_iff,forall_const,true_and,and_true]
      (repeat' first | apply O | intro (_:_=A) | intro (_:_=u) | intro (_:Int))
      all_goals simp only[decide_eq_true_eq,decide_eq_false_iff_not,W,bU] at *
      all_goals first
       | omega
       | (refine Jr ?_ ?_ ?_
          ·simp[e3]
          ·rw[k1,show(lead s - 54+part s (lead s - 54)).toNat - (lead s - 54).toNat=(part s (lead s - 54)).toNat by omega]
          ·rw[k2])
       | (first | exact⟨_,aa.cells (λ_=>rfl) rfl,λ_=>rfl⟩ | exact λ_=>rfl | trivial)
   ·obtain⟨k1,k2⟩:=oL hA hL;have hB:bM s=(C (lead s<=s.length - 1)&& !(C (ai s 0<192)&&C (lead s=1)&&C (ai s 1<128))):=by
     rw[Z,fj];simp[h0,hA,hL,hC]
     try (intro _;omega)
    simp only[h0,hA,hC,hL,hB,e1,e2,decide_true,decide_false,forall_const,N,M,false_imp_iff,and_true,true_and,cj]
    (repeat' first | apply O | intro (_:_=A) | intro (_:_=u) | intro (_:Int))
    all_goals simp only[decide_eq_true_eq,decide_eq_false_iff_not,W,bU,d!,d_,ef,ec,an,ag] at *
    all_goals first
     | omega
     | (refine Jr ?_ ?_ ?_
        ·simp[e3]
        ·rw[k1,show(1+lead s).toNat - (1:Int).toNat=(lead s).toNat by omega]
        ·rw[k2])
     | (first | exact⟨_,aa.cells (λ_=>rfl) rfl,λ_=>rfl⟩ | exact λ_=>rfl | trivial)
  ·have e3:dj s=true:=by simp[dj];omega
   have e1:(ai s 0 - 192)% 256=lead s:=by rw[z8 hC];omega
   have e4:=z8 hC;by_cases hL:55<lead s
   ·obtain⟨k1,k2⟩:=lP hA hL;have hB:bM s=(jP s (lead s - 54)&&C (part s (lead s - 54)<=s.length - (lead s - 54))):=by rw[Z,fj];simp[h0,hA,hL]
    simp only[h0,hA,hC,hL,hB,e1,e2,decide_true,decide_false,forall_const,N,M,false_imp_iff,and_true,true_and,cj];cases hb:jP s (lead s - 54)with
    | false=>simp only[ag,M,false_imp_iff,forall_const,true_and];(repeat' first | apply O | intro (_:_=A) | intro (_:_=u) | intro (_:Int))<;>first | omega | (first | exact⟨_,aa.cells (λ_=>rfl) rfl,λ_=>rfl⟩ | exact λ_=>rfl | trivial)
    | true =>
      have hb':=iz.1 hb;have hn: ¬ part s (lead s - 54)=1:=by omega
      simp only[an,N,false_imp_iff,forall_const,and_true]
      (repeat' first | apply O | intro (_:_=A) | intro (_:_=u) | intro (_:Int))
      all_goals simp only[decide_eq_true_eq,decide_eq_false_iff_not,W,bU] at *
      all_goals first
       | omega
       | (refine Jr ?_ ?_ ?_
          ·simp[e3]
          ·rw[k1,show(lead s - 54+part s (lead s - 54)).toNat - (lead s - 54).toNat=(part s (lead s - 54)).toNat by omega]
          ·rw[k2])
       | (first | exact⟨_,aa.cells (λ_=>rfl) rfl,λ_=>rfl⟩ | exact λ_=>rfl | trivial)
   ·obtain⟨k1,k2⟩:=oL hA hL;have hB:bM s=(C (lead s<=s.length - 1)&& !(C (ai s 0<192)&&C (lead s=1)&&C (ai s 1<128))):=by
     rw[Z,fj];simp[h0,hA,hL,hC]
     try (intro _;omega)
    simp only[h0,hA,hC,hL,hB,e1,e2,decide_true,decide_false,forall_const,M,false_imp_iff,true_and,cj]
    (repeat' first | apply O | intro (_:_=A) | intro (_:_=u) | intro (_:Int))
    all_goals simp only[decide_eq_true_eq,decide_eq_false_iff_not,W,bU,d!,d_,an,ag,Bool.not_false,N,or_false] at *
    all_goals first
     | omega
     | (refine Jr ?_ ?_ ?_
        ·simp[e3]
        ·rw[k1,show(1+lead s).toNat - (1:Int).toNat=(lead s).toNat by omega]
        ·rw[k2])
     | (first | exact⟨_,aa.cells (λ_=>rfl) rfl,λ_=>rfl⟩ | exact λ_=>rfl | trivial)
def Fi:List SV->Option (Prop×cL)
 | [.str u s]=>D (s.length<9223372036854775808,Y0 s)
 | _=>H
noncomputable def XX:PT:=cH Fi
theorem So:az J 198 XX:=by
 refine ew (n:=20) (fn:=c4) Tryz.func198 (by kernel_rfl) (by kernel_rfl) ?_;intro args p a h hp;unfold Fi at h;split at h
 ·rename_i s;injection h with h;injection h with h1 h2;subst h1;subst h2;refine⟨_,X4,rfl,λb=> ?_,OM hp⟩;cases b
  ·exact Dy rfl
  ·exact rfl
 ·cases h
def bV (base:Int)(n:Nat):List UInt8:=if n<=55 then [V (base+n).toNat] else V (base+55+(digits n).length).toNat::digits n
def aA (b:List UInt8):List UInt8:=if b.length=1/\ai b 0<128 then b else bV 128 b.length++b
theorem Fk (k:Nat)(n:Int):(CW k n).length<=k:=by
 induction k generalizing n with
 | zero=>simp[CW]
 | succ k ih =>
   unfold CW;split
   ·have:=ih (n / 256);simp only[eA,c_,dD];omega
   ·simp
theorem tX (n:Int):(digits n).length<=8:=Fk 8 n
theorem KY {base n:Int}(h0:0<=base)(h1:base<=192)(h2:0<=n)(h3:n<1152921504606846976):aB (eD Rs 115 ct [.int .u8 u base,.int .i64 u n] (λv=>af v (.str u (bV base n.toNat)))):=by
 refine aB.of_eq (aaz base n _) ?_;have e:n% 18446744073709551616=n:=by omega
 have e1:((n.toNat:Nat):Int)=n:=by omega
 have hd:=tX n;rw[e];refine⟨λh=>gQ ?_,λh=>⟨by omega,by omega,gQ ?_⟩⟩
 ·simp only[decide_eq_true_eq] at h;unfold bV;rw[if_pos (by omega),e1];congr 3;omega
 ·simp only[decide_eq_false_iff_not] at h;unfold bV;rw[if_neg (by omega),e1];simp only[cat,List.cons_append,dR];congr 3;omega
def A8:List SV->Option (Prop×SV)
 | [.int .u8 u base,.int .i64 u n]=>D ((0<=base/\base<=192)/\0<=n/\n<1152921504606846976,.str u (bV base n.toNat))
 | _=>H
noncomputable def S2:PT:=aY A8
theorem Nx:az J 115 S2:=by
 refine iJ X4 (n:=20) (fn:=ct) Tryz.func115 (by kernel_rfl) (by kernel_rfl) ?_;intro args p r h hp;unfold A8 at h;split at h
 ·injection h with h;injection h with h1 h2;subst h1;subst h2;exact⟨rfl,rfl,KY hp.1.1 hp.1.2 hp.2.1 hp.2.2⟩
 ·cases h
noncomputable def To:List (FuncId×PT):=(198,XX)::(115,S2)::Tn
theorem Ig:bn J (λf=>aE f To):=.cons So (b9 _) (.cons Nx (aR _) Ie)
noncomputable def Rt:fJ:={cm with cG:=λf=>aE f To}
theorem X5:Sx.Good J Rt:=.of bR Ig bl
def Ms (s:List UInt8):cL:=.fork (bM s) λb=>match b with
 | true=>.ret (.aN [.bool u (dj s),.str u (ah s),.str u (aH s),.int .i64 A 0])
 | false=>.ret (.aN [.bool A u,.str A [],.str A [],.int .i64 A 2])
theorem aaJ (b:List UInt8)(R:SV->Prop):VC.holds (eD Rt 69 c5 [.str u b] R)=(((C ((b.length:Int)=1)=A->((0:Int)<=(0:Int)/\0<(b.length:Int))/\(C (ai b 0<128)=A->R (SV.str u b))/\(C (ai b 0<128)=u->(((0:Int)<=(128:Int)/\(128:Int)<=(192:Int))/\0<=(b.length:Int)/\(b.length:Int)<1152921504606846976)/\(↑(bV 128 (b.length:Int).toNat).length:Int)+(b.length:Int)<=9223372036854775807/\R (SV.str u (cat (bV 128 (b.length:Int).toNat) b))))/\(C ((b.length:Int)=1)=u->(((0:Int)<=(128:Int)/\(128:Int)<=(192:Int))/\0<=(b.length:Int)/\(b.length:Int)<1152921504606846976)/\(↑(bV 128 (b.length:Int).toNat).length:Int)+(b.length:Int)<=9223372036854775807/\R (SV.str u (cat (bV 128 (b.length:Int).toNat) b))))):=by kernel_rfl
theorem XG (s:List UInt8):VC.holds (hJ Rt 166 cS [.str u s] (Ms s))=((λP0:SV=>((s.length<9223372036854775808/\(bM s=A->(bM s=A->af P0 P0)/\(bM s=u->af P0 (SV.aN [SV.bool A u,SV.str A [],SV.str A [],SV.int .i64 A 2])))/\(bM s=u->∀(_:Int),(bM s=A->af (SV.aN [SV.bool A u,SV.str A [],SV.str A [],SV.int .i64 A 2]) P0)/\(bM s=u->af (SV.aN [SV.bool A u,SV.str A [],SV.str A [],SV.int .i64 A 2]) (SV.aN [SV.bool A u,SV.str A [],SV.str A [],SV.int .i64 A 2])))))) (SV.aN [SV.bool u (dj s),SV.str u (ah s),SV.str u (aH s),SV.int .i64 A 0])):=by kernel_rfl
theorem S3 (base:Int)(n:Nat):(bV base n).length<=9:=by unfold bV;have:=tX n;split<;>simp only[c_,dD]<;>omega
theorem ou {b:List UInt8}(h: ¬ (b.length=1/\ai b 0<128)):aA b=bV 128 b.length++b:=if_neg h
theorem MA {b:List UInt8}(hb:b.length<1152921504606846976):aB (eD Rt 69 c5 [.str u b] (λv=>af v (.str u (aA b)))):=by
 refine aB.of_eq (aaJ b _) ?_;have hl:=S3 128 b.length;simp only[en];refine⟨λh=>⟨by simp at h;omega,λh2=>gQ ?_,λh2=>⟨by omega,by omega,gQ ?_⟩⟩,λh=>⟨by omega,by omega,gQ ?_⟩⟩
 ·simp at h h2;exact(if_pos ⟨by omega,h2⟩).symm
 ·simp only[decide_eq_false_iff_not] at h2;exact(ou λx=>h2 x.2).symm
 ·simp only[decide_eq_false_iff_not] at h;exact(ou λx=>h (by omega)).symm
def CB:List SV->Option (Prop×SV)
 | [.str u b]=>D (b.length<1152921504606846976,.str u (aA b))
 | _=>H
noncomputable def UW:PT:=aY CB
theorem Oh:az J 69 UW:=by
 refine iJ X5 (n:=20) (fn:=c5) Tryz.func69 (by kernel_rfl) (by kernel_rfl) ?_;intro args p r h hp;unfold CB at h;split at h
 ·injection h with h;injection h with h1 h2;subst h1;subst h2;exact⟨rfl,rfl,MA hp⟩
 ·cases h
theorem JD {s:List UInt8}(hs:s.length<9223372036854775808):aB (hJ Rt 166 cS [.str u s] (Ms s)):=by
 refine aB.of_eq (XG s) ?_;cases bM s with
 | true=>exact⟨hs,λ_=>⟨λ_ _=>rfl,(λh=>by cases h)⟩,λh=>by cases h⟩
 | false=>exact⟨hs,(λh=>by cases h),λ_ _=>⟨(λh=>by cases h),λ_ _=>rfl⟩⟩
def yp:List SV->Option (Prop×cL)
 | [.str u s]=>D (s.length<9223372036854775808,Ms s)
 | _=>H
noncomputable def Od:PT:=cH yp
theorem JE:az J 166 Od:=by
 refine ew (n:=20) (fn:=cS) Tryz.func166 (by kernel_rfl) (by kernel_rfl) ?_;intro args p a h hp;unfold yp at h;split at h
 ·rename_i s;injection h with h;injection h with h1 h2;subst h1;subst h2;refine⟨_,X5,rfl,λb=> ?_,JD hp⟩;cases b<;>exact rfl
 ·cases h
noncomputable def Tp:List (FuncId×PT):=(69,UW)::(166,Od)::To
theorem Ih:bn J (λf=>aE f Tp):=.cons Oh (aR _) (.cons JE (b9 _) Ig)
def kz (s:List UInt8):Bool:=bM s&& !dj s&&C (aH s=[])&&C ((ah s).length<=8)&& !(C (ah s≠[])&&C (ai (ah s) 0=0))
def Y5 (s:List UInt8):cL:=.fork (kz s) λb=>match b with
 | true=>.ret (.aN [.int .u64 u (num (ah s)),.int .i64 A 0])
 | false=>.ret (.aN [.int .u64 A 0,.int .i64 A 2])
noncomputable def YK (l:List UInt8):aV :={α:=Int,pre:=λ_ i=>0<=i/\i<=l.length,kT:=λ_ i=>(l.length - i).toNat,fresh:=0,slots:=λ_ i=>[(8,.int .u64 u (num (l.take i.toNat))),(42,.int .i64 u i)],mem:=λ_ _=>[]}
noncomputable def V3 (l:List UInt8):fJ:={cm with cG:=λf=>aE f Tp,bx:=λf=>if f=124 then [(10,always (YK l))] else []}
theorem X7 (l:List UInt8):Sx.Good J (V3 l):=.of bR Ih bl
theorem abK (s:List UInt8):VC.holds (hJ (V3 (ah s)) 124 cx [.str u s] (Y5 s))=((λP0:SV=>((λP1:SV=>((s.length<9223372036854775808/\(bM s=A->(dj s=A->(kz s=A->af P0 P1)/\(kz s=u->af P0 P0))/\(dj s=u->((!decide (aH s=[]))=A->(kz s=A->af P0 P1)/\(kz s=u->af P0 P0))/\((!decide (aH s=[]))=u->(C (8<(↑(ah s).length:Int))=A->(kz s=A->af P0 P1)/\(kz s=u->af P0 P0))/\(C (8<(↑(ah s).length:Int))=u->((!decide (ah s=[]))=A->((0:Int)<=(0:Int)/\0<(↑(ah s).length:Int))/\(C (ai (ah s) 0=(0:Int))=A->(kz s=A->af P0 P1)/\(kz s=u->af P0 P0))/\(C (ai (ah s) 0=(0:Int))=u->(∃(u5:Int),(0<=u5/\u5<=(↑(ah s).length:Int))/\0=num (I u5.toNat (ah s))/\0=u5/\True)/\∀(u4:Int),0<=u4/\u4<=(↑(ah s).length:Int)->(C (u4<(↑(ah s).length:Int))=A->(0<=u4/\u4<(↑(ah s).length:Int))/\(0<=ai (ah s) u4/\ai (ah s) u4<=18446744073709551615)/\(0<=num (I u4.toNat (ah s))*256% (18446744073709551616:Int) /\num (I u4.toNat (ah s))*256% (18446744073709551616:Int)<=(18446744073709551615:Int)/\0<=ai (ah s) u4/\ai (ah s) u4<=18446744073709551615)/\I6 (u4+1)/\∃(u3:Int),((0<=u3/\u3<=(↑(ah s).length:Int))/\((↑(ah s).length:Int) - u3).toNat<((↑(ah s).length:Int) - u4).toNat)/\bitsOf BinOp.or (num (I u4.toNat (ah s))*256% (18446744073709551616:Int)) (ai (ah s) u4)=num (I u3.toNat (ah s))/\u4+1=u3/\True)/\(C (u4<(↑(ah s).length:Int))=u->(kz s=A->af (SV.aN [SV.int .u64 u (num (I u4.toNat (ah s))),SV.int .i64 A 0]) P1)/\(kz s=u->af (SV.aN [SV.int .u64 u (num (I u4.toNat (ah s))),SV.int .i64 A 0]) P0))))/\((!decide (ah s=[]))=u->(∃(u2:Int),(0<=u2/\u2<=(↑(ah s).length:Int))/\0=num (I u2.toNat (ah s))/\0=u2/\True)/\∀(u1:Int),0<=u1/\u1<=(↑(ah s).length:Int)->(C (u1<(↑(ah s).length:Int))=A->(0<=u1/\u1<(↑(ah s).length:Int))/\(0<=ai (ah s) u1 /\ai (ah s) u1<=18446744073709551615)/\(0<=num (I u1.toNat (ah s))*256% (18446744073709551616:Int)/\num (I u1.toNat (ah s))*256% (18446744073709551616:Int)<=(18446744073709551615:Int)/\0<=ai (ah s) u1/\ai (ah s) u1<=18446744073709551615)/\I6 (u1+1)/\∃(u0:Int),((0<=u0/\u0<=(↑(ah s).length:Int))/\((↑(ah s).length:Int) - u0).toNat<((↑(ah s).length:Int) - u1).toNat)/\bitsOf BinOp.or (num (I u1.toNat (ah s))*256% (18446744073709551616:Int)) (ai (ah s) u1)=num (I u0.toNat (ah s))/\u1+1=u0/\True)/\(C (u1<(↑(ah s).length:Int))=u->(kz s=A->af (SV.aN [SV.int .u64 u (num (I u1.toNat (ah s))),SV.int .i64 A 0]) P1)/\(kz s=u->af (SV.aN [SV.int .u64 u (num (I u1.toNat (ah s))),SV.int .i64 A 0]) P0)))))))/\(bM s=u->(kz s=A->af P0 P1)/\(kz s=u->af P0 P0))))) (SV.aN [SV.int .u64 u (num (ah s)),SV.int .i64 A 0]))) (SV.aN [SV.int .u64 A 0,SV.int .i64 A 2])):=by kernel_rfl
theorem abM (n:Int)(R:SV->Prop):VC.holds (eD (V3 []) 71 ej [.int .u64 u n] R)=(((0<=n/\n<18446744073709551616)/\(digits n).length<1152921504606846976/\R (SV.str u (aA (digits n))))):=by kernel_rfl
theorem aaa (l:List UInt8):0<=num l:=by
 unfold num;suffices ∀(l:List UInt8) (a:Int),0<=a->0<=l.foldl (λa b=>a*256+(b.toNat:Int)) a from this _ _ (bf _)
 intro l;induction l with
 | nil=>exact λ_ h=>h
 | cons b r ih=>intro a h;exact ih _ (show 0<=a*256+(b.toNat:Int)by omega)
theorem T3 {l:List UInt8}{x:Int}(h:0<=x)(h2:x<l.length):num (l.take (x+1).toNat)=num (l.take x.toNat)*256+ai l x:=by
 have e:(x+1).toNat=x.toNat+1:=by omega
 have hx:x.toNat<l.length:=by omega
 rw[e,List.take_add_one,eu hx];simp only[Option.toList,nY];congr 1;unfold ai;rw[c8,eu hx];rfl
theorem T1: ∀(n:Nat) (l:List UInt8),l.length<=n->num l<256^ n
 | 0,l,h=>by have:l=[]:=X.1 (by omega);subst this;decide
 | n+1,l,h=>by
   rcases c7 l with rfl | ⟨r,b,rfl⟩
   ·have:(0:Int)<256^ (n+1):=Int.pow_pos (by decide);exact this
   ·simp only[List.length_concat] at h;have:=T1 n r (by omega);have hb:=b.toNat_lt;rw[c6,nY,b_];omega
theorem WS {l:List UInt8}{x:Int}(_h0:0<=x)(h:x<l.length)(h2:l.length<=8):num (l.take x.toNat)<72057594037927936:=by have:=T1 7 (l.take x.toNat) (by simp only[List.length_take];omega);exact this
theorem SP {l:List UInt8}{x:Int}(h0:0<=x)(h:x<l.length)(h2:l.length<=8):bitsOf .or (num (l.take x.toNat)*256% 18446744073709551616) (ai l x)=num (l.take (x+1).toNat):=by have h3:=WS h0 h h2;have h4:=aaa (l.take x.toNat);have h5:=eO l x;rw[show num (l.take x.toNat)*256% 18446744073709551616=num (l.take x.toNat)*256 by omega,T8 h4 h5.1 h5.2,T3 h0 h]
theorem HL {s:List UInt8}:kz s=A↔bM s=A/\dj s=u/\aH s=[]/\(ah s).length<=8/\(ah s=[]∨ai (ah s) 0≠0):=by unfold kz;by_cases h:ah s=[]<;>simp[and_assoc,h]
theorem HM {l:List UInt8}(hl:l.length<=8){Q:Int->Prop}(hQ:Q l.length):(∃(y:Int),((0:Int)<=y/\y<=(↑l.length:Int))/\(0:Int)=num (I y.toNat l)/\(0:Int)=y/\True) /\
            ∀(x:Int),
             (0:Int)<=x/\x<=(↑l.length:Int) ->
               (C (x<(↑l.length:Int))=A ->
                 ((0:Int)<=x/\x<(↑l.length:Int)) /\
                  ((0:Int)<=ai l x/\ai l x<=(18446744073709551615:Int)) /\
                   ((0:Int)<=num (I x.toNat l)*(256:Int)% (18446744073709551616:Int) /\
                      num (I x.toNat l)*(256:Int)% (18446744073709551616:Int)<=(18446744073709551615:Int) /\
                       (0:Int)<=ai l x/\ai l x<=(18446744073709551615:Int)) /\
                    ((-9223372036854775808:Int)<=x+(1:Int)/\x+(1:Int)<=(9223372036854775807:Int)) /\
                     ∃(y:Int),
                      (((0:Int)<=y/\y<=(↑l.length:Int))/\((↑l.length:Int) - y).toNat<((↑l.length:Int) - x).toNat) /\
                       bitsOf BinOp.or (num (I x.toNat l)*(256:Int)% (18446744073709551616:Int)) (ai l x)=num (I y.toNat l) /\
                        x+(1:Int)=y/\True) /\
                 (C (x<(↑l.length:Int))=u->Q x):=by
 refine⟨⟨0,by omega,rfl,rfl,trivial⟩,λx ⟨h1,h2⟩=>⟨λh=> ?_,λh=> ?_⟩⟩
 ·simp only[decide_eq_true_eq] at h;have h5:=eO l x;exact⟨by omega,by omega,by omega,by omega,x+1,by omega,SP h1 h hl,rfl,trivial⟩
 ·simp only[decide_eq_false_iff_not] at h;obtain rfl:x=l.length:=by omega
  exact hQ
theorem OU {s:List UInt8}(hs:s.length<9223372036854775808):aB (hJ (V3 (ah s)) 124 cx [.str u s] (Y5 s)):=by
 refine aB.of_eq (abK s) ?_;have F: ∀ {p q:Prop},¬ (bM s=A/\dj s=u/\aH s=[]/\(ah s).length<=8/\(ah s=[]∨ai (ah s) 0≠0))->q->(kz s=A->p)/\(kz s=u->q):=λh hq=>⟨λe=>absurd (HL.1 e) h,λ_=>hq⟩
 refine⟨hs,λa=>⟨λb=>F (by simp[b]) λ_=>rfl,λb=>⟨λc=>F (by simp at c;simp[c]) λ_=>rfl,λc=>⟨λd=>F (by simp at d;omega) λ_=>rfl,λd=> ?_⟩⟩⟩,λa=>F (by simp[a]) λ_=>rfl⟩;simp only[decide_eq_false_iff_not,W,ec,decide_eq_true_eq] at c d;have T:(ah s=[]∨ai (ah s) 0≠0)->kz s=true:=λe=>HL.2 ⟨a,b,c,by omega,e⟩
 have G: ∀ {p:Prop},(ah s=[]∨ai (ah s) 0≠0)->(kz s=A->af (SV.aN [SV.int a_ u (num (I (((ah s).length:Int)).toNat (ah s))),SV.int S A (0:Int)])
                      (SV.aN [SV.int a_ u (num (ah s)),SV.int S A (0:Int)]))/\(kz s=u->p):=λe=>⟨λ_=>by rw[en,List.take_length];exact λ_=>rfl,λh=>by rw[T e] at h;cases h⟩
 refine⟨λe=>⟨?_,λf=>F (by simp at e f;simp[e,f]) λ_=>rfl,λf=> ?_⟩,λe=> ?_⟩
 ·simp only[ef,decide_eq_false_iff_not] at e;have:=Y.2 e;omega
 ·exact HM (l:=ah s) (by omega) (Q:=λx=>(kz s=A->af (SV.aN [SV.int a_ u (num (I x.toNat (ah s))),SV.int S A (0:Int)]) _)/\(kz s=u->_)) (G (.inr (by simpa using f)))
 ·exact HM (l:=ah s) (by omega) (Q:=λx=>(kz s=A->af (SV.aN [SV.int a_ u (num (I x.toNat (ah s))),SV.int S A (0:Int)]) _)/\(kz s=u->_)) (G (.inl (by simpa using e)))
def FB:List SV->Option (Prop×cL)
 | [.str u s]=>D (s.length<9223372036854775808,Y5 s)
 | _=>H
noncomputable def X2:PT:=cH FB
theorem SO:az J 124 X2:=by
 refine ew (n:=20) (fn:=cx) Tryz.func124 (by kernel_rfl) (by kernel_rfl) ?_;intro args p a h hp;unfold FB at h;split at h
 ·rename_i s;injection h with h;injection h with h1 h2;subst h1;subst h2;refine⟨_,X7 (ah s),rfl,λb=> ?_,OU hp⟩;cases b<;>exact rfl
 ·cases h
def Gd:List SV->Option (Prop×SV)
 | [.int .u64 u n]=>D (0<=n/\n<18446744073709551616,.str u (aA (digits n)))
 | _=>H
noncomputable def Yg:PT:=aY Gd
theorem T2:az J 71 Yg:=by
 refine iJ (X7 []) (n:=20) (fn:=ej) Tryz.func71 (by kernel_rfl) (by kernel_rfl) ?_;intro args p r h hp;unfold Gd at h;split at h
 ·rename_i n;injection h with h;injection h with h1 h2;subst h1;subst h2;have:=tX n;exact⟨rfl,rfl,aB.of_eq (abM n _) ⟨hp,by omega,λ_=>rfl⟩⟩
 ·cases h
noncomputable def Yb:List (FuncId×PT):=(124,X2)::(71,Yg)::Tp
theorem Tq:bn J (λf=>aE f Yb):=.cons SO (b9 _) (.cons T2 (aR _) Ih)
end Go.Proofs.YtoibaecagklkaaaGreatDoor
namespace Go.Proofs
open Go.Shelf
def Tryz.o6:Go.Shelf.Ren:=⟨λ| 156=>116 | 165=>160 | 166=>161 | 169=>162 | 240=>194 | 241=>195 | 276=>212 | 277=>213 | n=>n,λ| 31=>29 | 9=>9 | 3=>3 | 4=>4 | 0=>0 | 20=>20 | 72=>249 | 76=>251 | 70=>247 | 37=>54 | 75=>84 | 127=>272 | 164=>142 | 5=>5 | 80=>102 | n=>n,λ| n=>n⟩
theorem Tryz.HZ:Go.Proofs.Lays.n156 J Tryz.o6:={
 mixed:=by kernel_rfl,
 f156:=ek.trans (congrArg D (by kernel_rfl)),
 f165:=Tryz.func160.trans (congrArg D (by kernel_rfl)),
 f166:=Tryz.func161.trans (congrArg D (by kernel_rfl)),
 f169:=Tryz.func162.trans (congrArg D (by kernel_rfl)),
 f240:=Tryz.func194.trans (congrArg D (by kernel_rfl)),
 f241:=Tryz.func195.trans (congrArg D (by kernel_rfl)),
 f276:=Tryz.func212.trans (congrArg D (by kernel_rfl)),
 f277:=Tryz.func213.trans (congrArg D (by kernel_rfl)),
 t0:=Tryz.underlying0,
 a0:=Tryz.isAgg0,
 z0:=Tryz.sizeOf0,
 v0:=Tryz.zeroValue0,
 t3:=Tryz.underlying3,
 a3:=Tryz.isAgg3,
 z3:=Tryz.sizeOf3,
 v3:=Tryz.zeroValue3,
 t4:=Tryz.underlying4,
 a4:=Tryz.isAgg4,
 z4:=Tryz.sizeOf4,
 v4:=Tryz.zeroValue4,
 t9:=Tryz.underlying9,
 a9:=Tryz.isAgg9,
 z9:=Tryz.sizeOf9,
 v9:=Tryz.zeroValue9,
 t20:=Tryz.underlying20,
 a20:=Tryz.isAgg20,
 z20:=Tryz.sizeOf20,
 v20:=Tryz.zeroValue20,
 t31:=Tryz.underlying29,
 a31:=Tryz.isAgg29,
 z31:=Tryz.sizeOf29,
 v31:=Tryz.zeroValue29,
 t37:=Tryz.underlying54,
 a37:=Tryz.isAgg54,
 z37:=Tryz.sizeOf54,
 v37:=Tryz.zeroValue54,
 t70:=Tryz.underlying247,
 a70:=Tryz.isAgg247,
 z70:=Tryz.sizeOf247,
 v70:=Tryz.zeroValue247,
 t72:=Tryz.underlying249,
 a72:=Tryz.isAgg249,
 z72:=Tryz.sizeOf249,
 v72:=Tryz.zeroValue249,
 t75:=Tryz.underlying84,
 a75:=Tryz.isAgg84,
 z75:=Tryz.sizeOf84,
 v75:=Tryz.zeroValue84,
 t76:=Tryz.underlying251,
 a76:=Tryz.isAgg251,
 z76:=Tryz.sizeOf251,
 v76:=Tryz.zeroValue251,
 t127:=Tryz.underlying272,
 a127:=Tryz.isAgg272,
 z127:=Tryz.sizeOf272,
 v127:=Tryz.zeroValue272,
 t164:=Tryz.underlying142,
 a164:=Tryz.isAgg142,
 z164:=Tryz.sizeOf142,
 v164:=Tryz.zeroValue142}
end Go.Proofs
namespace Go.Proofs
open Go.Shelf Go.RowKit
theorem Tryz.extra:Builder.Extra J Tryz.o6:={
 sizeBuilder:=by kernel_rfl,
 liesBuilder:=by kernel_rfl,
 t5:=by kernel_rfl,
 a5:=by intro w;kernel_rfl,
 z5:=by intro w;kernel_rfl,
 v5:=by intro w;kernel_rfl,
 infoByte:=by kernel_rfl,
 cellsByte:=by kernel_rfl,
 sizeByte:=by kernel_rfl,
 neB5:=by decide}
end Go.Proofs
namespace Go.Proofs.YtoibaecagklkaaaGreatDoor
open Go Sx
set_option maxRecDepth 20000
theorem Wt:Tryz.o6.f 156=116:=by kernel_rfl
def flat (l:List (List UInt8)):List UInt8:=l.flatten
def iC (f:Nat->List UInt8)(i n:Nat):List (List UInt8):=(List.range n).map λj=>f (i+j)
theorem Jj {f:Nat->List UInt8}{i n j:Nat}{x:List UInt8}(h:(iC f i n)[j]?=D x):j<n/\f (i+j)=x:=by
 unfold iC at h;rw[c9] at h;by_cases hj:j<n
 ·rw[List.getElem?_range hj] at h;injection h with h;exact⟨hj,h⟩
 ·rw[List.getElem?_eq_none (by simpa using hj)] at h;cases h
theorem oa (f:Nat->List UInt8)(i n:Nat):(iC f i n).length=n:=by simp[iC]
def strCells:List SV->Option (List (List UInt8))
 | []=>D []
 | .str _ s::r=>(match strCells r with
   | some l=>D (s::l)
   | none=>H)
 | _=>H
theorem wu {cs:List SV}{l:List (List UInt8)}(h:strCells cs=D l):l.length=cs.length/\∀(j:Nat) (x:List UInt8),l[j]?=D x->∃ b,cs[j]?=D (.str b x):=by
 induction cs generalizing l with
 | nil=>injection h with h;subst h;exact⟨rfl,λj x hx=>by simp at hx⟩
 | cons v r ih =>
   unfold strCells at h;split at h
   ·cases ‹_::_=[]›
   ·rename_i b s r' e;injection e with e1 e2;subst e1;subst e2;split at h
    ·rename_i l' hl;injection h with h;subst h;obtain⟨g1,g2⟩:=ih hl;refine⟨by simp[g1],λj x hx=> ?_⟩;cases j with
     | zero=>injection hx with hx;subst hx;exact⟨b,rfl⟩
     | succ j=>exact g2 j x (by simpa using hx)
    ·cases h
   ·cases h
def Mu (m:Mem):SV->Option (Prop×List (List UInt8))
 | .aM=>D (True,[])
 | .slc key o n _ c=>(match m.get key with
   | some (.cells cs _ _)=>(match strCells ((cs.drop o).take n)with
     | some l=>D (l.length=n/\n<=c,l)
     | none=>H)
   | _=>H)
 | .aZ key 1 _ i n c=>(match m.get key with
   | some (.rows _ n' [.str f] _ _ _)=>D (i+n<=n'/\n<=c,iC f i n)
   | _=>H)
 | .bS key 1 _ o i n c=>(match m.get key with
   | some (.view _ o' n' [.str f])=>D (o'=o/\i+n<=n'/\n<=c,iC f i n)
   | _=>H)
 | _=>H
theorem Qu {Γ E m nx w}(h:aL Γ E m nx w){v:SV}{p:Prop}{l:List (List UInt8)}(hv:Mu m v=D (p,l))(hp:p) :
  (∃ a c,l=[]/\v.val E=.slice a 0 c)∨(∃ k o c,v.val E=.slice (D ⟨k,o,H⟩) l.length c/\l.length<=c/\k<w.heap.size/\∀(j:Nat) x,l[j]?=D x->w.cell? ⟨k,o+j,H⟩=D (.string ⟨x.toArray⟩)):=by
 unfold Mu at hv;split at hv
 ·injection hv with hv;injection hv with h1 h2;subst h2;exact .inl ⟨_,_,rfl,rfl⟩
 ·rename_i key o n cl c;split at hv
  ·rename_i cs tot ty hk;split at hv
   ·rename_i l' hl;injection hv with hv;injection hv with h1 h2;subst h1;subst h2;obtain⟨g1,g2⟩:=wu hl;obtain⟨ob,ho,ce,fr,rfl,_,h4,_⟩:=h.nG key _ hk rfl;refine .inr ⟨E key,o,c,by rw[hp.1];rfl,by omega,(b!.1 ho).1,λj x hx=> ?_⟩;obtain⟨b,hb⟩:=g2 j x hx;rw[cell_of ho];have hj:j<n:=by have:=(List.getElem?_eq_some_iff.1 hx).1;omega
    rw[List.getElem?_take_of_lt hj,List.getElem?_drop] at hb;exact h4 _ _ hb
   ·cases hv
  ·cases hv
 ·rename_i key z i n c;split at hv
  ·rename_i z' n' f ro tot ty hk;injection hv with hv;injection hv with h1 h2;subst h1;subst h2;cases n with
   | zero=>exact .inl ⟨_,_,rfl,rfl⟩
   | succ n =>
     obtain⟨ob,ho,ce,fr,rfl,_,_,_,h4⟩:=h.nG key _ hk (SB.jo (i:=0) (by omega));refine .inr ⟨E key,i,c,?_,by rw[oa];exact hp.2,(b!.1 ho).1,λj x hx=> ?_⟩
     ·rw[oa];cases z<;>simp[SV.val,show Nat.beq (n+1) 0=u from rfl]
     ·obtain⟨hj,hx⟩:=Jj hx;rw[cell_of ho];have:=h4 (i+j) 0 (.str f) (by omega) rfl;simpa [aq.at,SV.val,hx] using this
  ·cases hv
 ·rename_i key z o i n c;split at hv
  ·rename_i z' o' n' f hk;injection hv with hv;injection hv with h1 h2;subst h1;subst h2;cases n with
   | zero=>exact .inl ⟨_,_,rfl,rfl⟩
   | succ n =>
     obtain⟨ob,ho,ce,ty,fr,rfl,h4⟩:=h.nG key _ hk (SB.Ae (i:=0) (by omega));refine .inr ⟨E key,o+i,c,?_,by rw[oa];exact hp.2.2,(b!.1 ho).1,λj x hx=> ?_⟩
     ·rw[oa];cases z<;>simp[SV.val,show Nat.beq (n+1) 0=u from rfl]
     ·obtain⟨hj,hx⟩:=Jj hx;rw[cell_of ho];have:=h4 (i+j) 0 (.str f) (by omega) rfl;obtain⟨rfl,_⟩:=hp;simpa [aq.at,SV.val,hx,Nat.add_assoc] using this
  ·cases hv
 ·cases hv
noncomputable def xD:PT:=λargs m nx K=>match args with
 | [v,.str _ []]=>(match Mu m v with
   | some (p,l)=>.and (.atom (p/\l.length<=140737488355328/\(flat l).length<=140737488355328)) (K (.str u (flat l)) m nx)
   | none=>.fail "texts that are not known")
 | _=>.fail "a separator"
theorem y6:aQ xD:=by
 intro args m nx K K' hK h;unfold xD at h ⊢;split at h
 ·split at h
  ·rename_i p l hl;exact⟨h.1,hK _ _ _ h.2⟩
  ·exact h.elim
 ·exact h.elim
theorem xE: ∀ l:List (List UInt8),Lib.join l []=flat l
 | []=>rfl
 | [x]=>by simp[Lib.join,flat,ez]
 | x::y::r=>by have:=xE (y::r);simp[Lib.join,flat,ez] at this ⊢;rw[this]
theorem NA:az J 116 xD:=by
 intro args m nx K hk hwf hargs Γ E w hs;unfold xD at hk;split at hk
 ·rename_i v b;split at hk
  ·rename_i p l hl;obtain⟨⟨hp,h1,h2⟩,hk⟩:=hk;have hc:Calls J 116 (SV.vals E [v,.str b []]).toArray w λe w'=>e=.returned (.string ⟨(flat l).toArray⟩)/\RowKit.Below w.heap.size w w':=by
    rw[← Wt];rcases Qu hs hl hp with ⟨a,c,rfl,hv⟩ | ⟨k,o,c,hv,g1,g2,g3⟩
    ·simp only[SV.vals,hv,SV.val];exact(Any.strings_Join_none Tryz.HZ Tryz.extra a c _ w).mono λe w' ⟨he,hw⟩=>⟨he,hw▸ RowKit.Below.refl _ _⟩
    ·simp only[SV.vals,hv,SV.val];have:=Any.strings_Join Tryz.HZ Tryz.extra k o c (l.map λx=>⟨x.toArray⟩) ⟨#[]⟩ w (λj x hx=>by
      rw[c9] at hx;cases hj:l[j]? with
      | none=>rw[hj] at hx;cases hx
      | some y=>rw[hj] at hx;injection hx with hx;subst hx;exact g3 j y hj) g2 (by simpa using h1) (by simpa using g1) (by
      simp only[eC];have:(l.map ((λx:ByteArray=>x.data.toList)∘ λx=>(⟨x.toArray⟩:ByteArray)))=l:=by
       rw[show((λx:ByteArray=>x.data.toList)∘ λx:List UInt8=>(⟨x.toArray⟩:ByteArray))=id from by funext x;simp]
       simp
      rw[this];show(Lib.join l []).length<=_;rw[xE];exact h2)
     rw[eB] at this;refine this.mono λe w' ⟨he,hw⟩=>⟨?_,hw⟩
     rw[he,eC];have:(l.map ((λx:ByteArray=>x.data.toList)∘ λx=>(⟨x.toArray⟩:ByteArray)))=l:=by
      rw[show((λx:ByteArray=>x.data.toList)∘ λx:List UInt8=>(⟨x.toArray⟩:ByteArray))=id from by funext x;simp]
      simp
     rw[this];rw[← xE]
   refine fV ek (by kernel_rfl) (by kernel_rfl) (hc.mono ?_);rintro e w' ⟨rfl,hb⟩;exact⟨_,rfl,E,D (.str u (flat l)),m,nx,λ_ _=>rfl,Nat.le_refl _,λx hx=>by injection hx with hx;subst hx;rfl,hs.still (Ext.T4 hb),hk⟩
  ·exact hk.elim
 ·exact hk.elim
end Go.Proofs.YtoibaecagklkaaaGreatDoor
namespace Go.Proofs.YtoibaecagklkaaaGreatDoor
open Go Sx
set_option maxRecDepth 20000
noncomputable def Yc:List (FuncId×PT):=(116,xD)::Yb
theorem Tr:bn J (λf=>aE f Yc):=.cons NA y6 Tq
def aW (s:List UInt8):Nat->List UInt8
 | 0=>s
 | k+1=>aH (aW s k)
def uk (s:List UInt8):List UInt8:=s.take (s.length - (aH s).length)
def ax (s:List UInt8)(k:Nat):List UInt8:=uk (aW s k)
def scan:Nat->List UInt8->Nat×Bool
 | 0,s=>(0,C (s=[]))
 | f+1,s=>if s=[] then(0,A)else if bM s then((scan f (aH s)).1+1,(scan f (aH s)).2)else(0,u)
def bI (s:List UInt8):Nat:=(scan s.length s).1
def dN (s:List UInt8):Bool:=(scan s.length s).2
def K7 (s:List UInt8):cL:=.fork (dN s) λb=>match b with
 | true=>.all Nat λc=>.req (bI s<=c) (.new (λk=>.aN [.aZ k 1 A 0 (bI s) c,.int .i64 A 0]) (.rows A (bI s) [.str (ax s)] u c 9))
 | false=>.ret (.aN [.aM,.int .i64 A 2])
structure GV where
 k:Nat
 c:Nat
structure zM (s:List UInt8)(x:GV):Prop where
 walk: ∀ j,j<x.k->aW s j≠[]/\bM (aW s j)=A
 cap:x.k<=x.c
noncomputable def Rg (s:List UInt8):aV :=
 {α:=GV,pre:=λ_ x=>zM s x,kT:=λ_ x=>(aW s x.k).length,fresh:=1,slots:=λ_ x=>[(3,.str u (aW s x.k))],
  mem:=λst x=>[(2,.cells [.aZ st.nx 1 A 0 x.k x.c] 1 29),(st.nx,.rows A x.k [.str (ax s)] u x.c 9)]}
noncomputable def YX (s:List UInt8):fJ:={cm with cG:=λf=>aE f Yc,bx:=λf=>if f=214 then [(1,always (Rg s))] else []}
theorem abg (s:List UInt8):Sx.Good J (YX s):=.of bR Tr bl
theorem Xy (s:List UInt8):VC.holds (hJ (YX s) 165 cy [.str u s] (K7 s))=((∀(u8:Loop),(∃(u7:GV),zM s u7/\s=aW s u7.k/\(1:Nat)=(1:Nat)/\u7.k=0/\(SB.rows A u7.k [aq.str (ax s)] u u7.c 9).no=A/\aa (SB.loop a! H u8) (SB.loop a! H u8)/\aa (SB.cells (SV.str u s).cells 1 9) (SB.cells (SV.str u s).cells 1 9)/\aa (SB.cells (SV.int .i64 A 0).cells 1 30) (SB.cells (SV.int .i64 A 0).cells 1 30)/\aa (SB.cells SV.aM.cells 1 29) (SB.cells SV.aM.cells 1 29)/\True)/\∀(u6:GV),zM s u6->((!decide (aW s u6.k=[]))=A->(aW s u6.k).length<9223372036854775808/\(bM (aW s u6.k)=A->((-9223372036854775808:Int)<=(↑(aW s u6.k).length:Int) - (↑(aH (aW s u6.k)).length:Int)/\(↑(aW s u6.k).length:Int) - (↑(aH (aW s u6.k)).length:Int)<=9223372036854775807)/\((0:Int)<=(0:Int)/\0<=(↑(aW s u6.k).length:Int) - (↑(aH (aW s u6.k)).length:Int)/\(↑(aW s u6.k).length:Int) - (↑(aH (aW s u6.k)).length:Int)<=(↑(aW s u6.k).length:Int))/\u8=u8/\(0+u6.k<=u6.k/\True/\2*(u6.k+1)*16<=(281474976710656:Nat) /\u6.k+1<(9223372036854775808:Nat))/\u6.c=u6.c*1/\∀(u5:Nat),u6.k+1<=u5->∃(u4:GV),(zM s u4/\(aW s u4.k).length<(aW s u6.k).length)/\aH (aW s u6.k)=aW s u4.k/\(1:Nat)=(1:Nat)/\((0:Nat)=(0:Nat)/\u6.k+1=u4.k/\u5=u4.c)/\True/\aa (SB.rows A (u6.k+1) [aq.str λu3=>if u3<u6.k then ax s u3 else bP [cj (aW s u6.k) H (D (L 37)) 0 ((↑(aW s u6.k).length:Int) - (↑(aH (aW s u6.k)).length:Int))] (u3 - u6.k)] u (u5*1) 9) (SB.rows A u4.k [aq.str (ax s)] u u4.c 9)/\aa (SB.loop a! H u8) (SB.loop a! H u8)/\aa (SB.cells (SV.str u s).cells 1 9) (SB.cells (SV.str u s).cells 1 9)/\aa (SB.cells (SV.int .i64 A 0).cells 1 30) (SB.cells (SV.int .i64 A 0).cells 1 30)/\aa (SB.cells SV.aM.cells 1 29) (SB.cells SV.aM.cells 1 29)/\True)/\(bM (aW s u6.k)=u->∀(_:Int),((-9223372036854775808:Int)<=(s.length:Int) - (↑(aW s u6.k).length:Int)/\(s.length:Int) - (↑(aW s u6.k).length:Int)<=9223372036854775807)/\u8=u8/\(dN s=A ->∃(u1:Nat),bI s<=u1/\False)/\(dN s=u->af (SV.aN [SV.aM,SV.int .i64 A 2]) (SV.aN [SV.aM,SV.int .i64 A 2]))))/\((!decide (aW s u6.k=[]))=u->(dN s=A->∃(u0:Nat),bI s<=u0/\aa (SB.rows A u6.k [aq.str (ax s)] u u6.c 9) (SB.rows A (bI s) [aq.str (ax s)] u u0 9)/\af (SV.aN [SV.aZ ((5:Nat)) 1 A 0 u6.k u6.c,SV.int .i64 A 0]) (SV.aN [SV.aZ ((5:Nat)) 1 A 0 (bI s) u0,SV.int .i64 A 0]))/\(dN s=u->af (SV.aN [SV.aZ ((5:Nat)) 1 A 0 u6.k u6.c,SV.int .i64 A 0]) (SV.aN [SV.aM,SV.int .i64 A 2]))))):=by kernel_rfl
theorem FM {s:List UInt8}(h: ¬ ai s 0<128):0<=lead s:=by unfold lead;split<;>omega
theorem AM {s:List UInt8}(h:bM s=A):(aH s).length<s.length:=by
 obtain⟨h0,h⟩:=fj.1 h;have hl:=Y.2 h0;by_cases hA:ai s 0<128
 ·rw[(lC hA).2.2,c!];omega
 ·have g:=FM hA;by_cases hL:55<lead s
  ·have:=sI s (lead s - 54);rw[(lP hA hL).2,c!];omega
  ·rw[(oL hA hL).2,c!];omega
theorem EJ: ∀(f f':Nat) (s:List UInt8),s.length<=f->s.length<=f'->scan f s=scan f' s
 | 0,0,_,_,_=>rfl
 | 0,f'+1,s,h,_=>by have:s=[]:=X.1 (by omega);subst this;rfl
 | f+1,0,s,_,h=>by have:s=[]:=X.1 (by omega);subst this;rfl
 | f+1,f'+1,s,h,h'=>by
   simp only[scan];split
   ·rfl
   ·split
    ·rename_i hc;have:=AM hc;rw[EJ f f' (aH s) (by omega) (by omega)]
    ·rfl
theorem jN:dN []=A/\bI []=0:=⟨rfl,rfl⟩
theorem xC {s:List UInt8}(h0:s≠[])(h:bM s=A):dN s=dN (aH s)/\bI s=bI (aH s)+1:=by
 have hl:=AM h;unfold dN bI;obtain⟨n,hn⟩: ∃ n,s.length=n+1:=⟨s.length - 1,by omega⟩
 rw[hn];simp only[scan,h0,h,if_true,if_false];rw[EJ n (aH s).length (aH s) (by omega) (by omega)];exact⟨rfl,rfl⟩
theorem DO {s:List UInt8}(h0:s≠[])(h:bM s=u):dN s=false:=by
 have hl:=Y.2 h0;unfold dN;obtain⟨n,hn⟩: ∃ n,s.length=n+1:=⟨s.length - 1,by omega⟩
 rw[hn];simp[scan,h0,h]
theorem kM (s:List UInt8): ∀ k,aW s (k+1)=aW (aH s) k
 | 0=>by simp only[aW]
 | k+1=>by rw[aW,kM s k];simp only[aW]
def Walk (s:List UInt8)(k:Nat):Prop:=∀ j,j<k->aW s j≠[]/\bM (aW s j)=A
theorem Walk.len {s:List UInt8}: ∀ {k:Nat},Walk s k->(aW s k).length+k<=s.length
 | 0,_=>by simp[aW]
 | k+1,h=>by have h1:=Walk.len (k:=k) (λj hj=>h j (by omega));have h2:=AM (h k (by omega)).2;simp only[aW];omega
theorem Walk.tail {s:List UInt8}{k:Nat}(h:Walk s (k+1)):Walk (aH s) k:=λj hj=>by rw[← kM];exact h (j+1) (by omega)
theorem Walk.items {s:List UInt8}: ∀ {k:Nat},Walk s k->dN s=dN (aW s k)/\bI s=bI (aW s k)+k
 | 0,_=>⟨rfl,rfl⟩
 | k+1,h=>by obtain⟨h0,h1⟩:=h 0 (by omega);obtain⟨g1,g2⟩:=xC (s:=s) h0 h1;obtain⟨g3,g4⟩:=Walk.items h.tail;rw[kM,g1,g2,g3,g4];exact⟨rfl,by omega⟩
theorem Walk.snoc {s:List UInt8}{k:Nat}(h:Walk s k)(h0:aW s k≠[])(h1:bM (aW s k)=A):Walk s (k+1):=λj hj=>by
 by_cases e:j=k
 ·subst e;exact⟨h0,h1⟩
 ·exact h j (by omega)
theorem Sx.aa.EG {z:Bool}{n n':Nat}{ay cols':List aq}{tot tot':Nat}{ty:TypeId}(hn:n=n')(ht:tot=tot')(hl:ay.length=cols'.length)
  (h: ∀(i k:Nat) (c':aq),i<n->cols'[k]?=D c'->∃ c,ay[k]?=D c/\c.at i=c'.at i):aa (.rows z n ay u tot ty) (.rows z n' cols' u tot' ty):=by
 subst hn;subst ht;refine aa.of rfl rfl λhno=> ?_;refine⟨hno,λE o ⟨c,fr,h1,h2,h3,h4,h5⟩=>⟨c,fr,h1,h2,by rw[← hl];exact h3,h4,λi k col hi hk=> ?_⟩,λ_=>rfl⟩;obtain⟨c0,hc0,he⟩:=h i k col hi hk;rw[← he,← hl];exact h5 i k c0 hi hc0
theorem Sx.aa.wv {z:Bool}{n n':Nat}{f g:Nat->List UInt8}{tot tot':Nat}{ty:TypeId}(hn:n=n')(ht:tot=tot')(h: ∀ i,i<n->f i=g i):aa (.rows z n [.str f] u tot ty) (.rows z n' [.str g] u tot' ty):=by
 refine Sx.aa.EG hn ht rfl λi k c' hi hk=>⟨.str f,?_,?_⟩
 ·match k,hk with
  | 0,_=>rfl
 ·match k,hk with
  | 0,hk =>simp only[List.getElem?_cons_zero,Option.some.injEq] at hk;subst hk;simp only[aq.at,h i hi]
theorem HR {s:List UInt8}(hs:s.length<1099511627776):aB (hJ (YX s) 165 cy [.str u s] (K7 s)):=by
 refine aB.of_eq (Xy s) ?_;intro R;refine⟨⟨⟨0,0⟩,⟨λj hj=>absurd hj (Nat.not_lt_zero _),Nat.le_refl _⟩,rfl,rfl,rfl,rfl,aa.refl _,aa.refl _,aa.refl _,aa.refl _,trivial⟩,λx hx=> ?_⟩;have hw:Walk s x.k:=hx.walk;have hl:=hw.len;obtain⟨i1,i2⟩:=hw.items;refine⟨λa=> ?_,λa=> ?_⟩
 ·have a:aW s x.k≠[]:=by simpa using a
  refine⟨by omega,λb=> ?_,λb y=> ?_⟩
  ·have hlt:=AM b;refine⟨by omega,by omega,rfl,⟨by omega,trivial,by omega,by omega⟩,by omega,λc hc=>⟨⟨x.k+1,c⟩,⟨⟨hw.snoc a b,hc⟩,?_⟩,?_,rfl,⟨rfl,rfl,rfl⟩,trivial,?_,aa.refl _,aa.refl _,aa.refl _,aa.refl _,trivial⟩⟩
   ·simp only[aW];exact hlt
   ·simp only[aW]
   ·refine Sx.aa.wv rfl (Nat.mul_one c) λi hi=> ?_;by_cases h:i<x.k
    ·rw[if_pos h]
    ·rw[if_neg h];have e:i=x.k:=by omega
     subst e;simp only[Nat.sub_self,bP,cj,ax,uk];rw[show((↑(aW s x.k).length:Int) - (↑(aH (aW s x.k)).length:Int)).toNat=(aW s x.k).length - (aH (aW s x.k)).length by omega];simp only[List.getD_cons_zero]
  ·have hb:=DO a b;rw[← i1] at hb;exact⟨by omega,rfl,(λh=>by rw[hb] at h;cases h),λ_ _=>rfl⟩
 ·have a:aW s x.k=[]:=by simpa using a
  rw[a] at i1 i2;have n0:bI s=x.k:=by rw[i2,jN.2];omega
  have b0:dN s=true:=by rw[i1,jN.1]
  refine⟨λ_=>⟨x.c,by rw[n0];exact hx.cap,?_,?_⟩,λh=>by rw[b0] at h;cases h⟩
  ·rw[n0];exact aa.refl _
  ·rw[n0];exact λ_=>rfl
def xB:List SV->Option (Prop×cL)
 | [.str u s]=>D (s.length<1099511627776,K7 s)
 | _=>H
noncomputable def Ws:PT:=cH xB
theorem Td:az J 165 Ws:=by
 refine ew (n:=20) (fn:=cy) Tryz.func165 (by kernel_rfl) (by kernel_rfl) ?_;intro args p a h hp;unfold xB at h;split at h
 ·rename_i s;injection h with h;injection h with h1 h2;subst h1;subst h2;refine⟨_,abg s,rfl,λb=> ?_,HR hp⟩;cases b with
  | false=>exact rfl
  | true =>
    intro c;refine⟨rfl,rfl,λk=>by simp[SV.wf,SV.fH,Nat.blt_eq],λE E' k k' h=> ?_⟩;cases hn:bI s with
    | zero=>rfl
    | succ n =>rw[hn] at h;have hk:E k=E' k':=h rfl;simp[SV.val,SV.vals,hk]
 ·cases h
end Go.Proofs.YtoibaecagklkaaaGreatDoor
namespace Go.Proofs.YtoibaecagklkaaaGreatDoor.Sx
open Go
def ZW:SV->SV
 | .int k _ n=>.int k A n
 | .bool _ b=>.bool A b
 | .str _ s=>.str A s
 | v=>v
def TD:SV->SV
 | .agg cs=>.agg (cs.map ZW)
 | v=>ZW v
def lit:SV->SV
 | .aN vs=>.aN (vs.map TD)
 | v=>TD v
theorem ow {f:SV->SV}{E:Nat->Nat}(hf: ∀ v,(f v).val E=v.val E): ∀ l:List SV,SV.vals E (l.map f)=SV.vals E l
 | []=>rfl
 | v::r=>by simp only[List.map_cons,SV.vals,hf,ow hf r]
theorem Ii (E:Nat->Nat)(v:SV):(ZW v).val E=v.val E:=by cases v<;>rfl
theorem TE (E:Nat->Nat)(v:SV):(TD v).val E=v.val E:=by cases v<;>first | rfl | simp only[TD,SV.val,ow (Ii E)]
theorem Ab (E:Nat->Nat)(v:SV):(lit v).val E=v.val E:=by cases v<;>first | rfl | simp only[lit,TD,SV.val,ow (Ii E),ow (TE E)]
def Tb:SV->Bool
 | .int _ l _=>l
 | .bool l _=>l
 | .str l _=>l
 | _=>u
def isLit:SV->Bool
 | .agg cs=>cs.all Tb
 | v=>Tb v
def Aq:List SV->Bool
 | []=>A
 | v::r=>isLit v&&Aq r
def ru (ay:List aq)(i:Nat):Nat->List SV
 | 0=>[]
 | n+1=>ay.map (λc=>lit (c.at i))++ru ay (i+1) n
theorem vY {ay:List aq}: ∀ {n i0 j:Nat} {v:SV},(ru ay i0 n)[j]?=D v->∃ i k col,j=i*ay.length+k/\i<n/\ay[k]?=D col/\v=lit (col.at (i0+i))
 | 0,_,_,_,h=>by simp[ru] at h
 | n+1,i0,j,v,h=>by
   simp only[ru] at h;by_cases hj:j<ay.length
   ·rw[er (by simpa using hj),c9] at h;cases hc:ay[j]? with
    | none=>rw[hc] at h;cases h
    | some c=>rw[hc] at h;injection h with h;exact⟨0,j,c,by simp,by omega,hc,h.symm⟩
   ·rw[List.getElem?_append_right (by simpa using hj)] at h;obtain⟨i,k,col,h1,h2,h3,h4⟩:=vY h;simp only[eB] at h1;refine⟨i+1,k,col,by rw[Nat.add_mul];omega,by omega,h3,?_⟩;rw[h4];congr 2;omega
def Y3:SB->SB
 | .rows A 0 ay ro tot ty=>.rows A 0 ay ro tot ty
 | .rows _z n ay u tot ty=>.cells (ru ay 0 n) tot ty
 | B=>B
def Nq:SV->SV
 | .aZ _ _ A _ 0 _=>.aM
 | .aZ k _ _ 0 n c=>.slc k 0 n u c
 | v=>v
def Nr:SV->SV
 | .agg cs=>.agg (cs.map Nq)
 | v=>Nq v
def Wd:SV->SV
 | .aN vs=>.aN (vs.map Nr)
 | v=>Nr v
theorem Wc (B:SB):aa B (Y3 B):=by
 unfold Y3;split
 ·exact aa.refl _
 ·rename_i z n ay tot ty hne;refine aa.of rfl rfl λ_=> ?_;have hno:(SB.rows z n ay u tot ty).no=false:=by
   cases z with
   | false=>rfl
   | true =>
     cases n with
     | zero=>exact(hne rfl rfl).elim
     | succ n=>rfl
  refine⟨hno,λE o ⟨c,fr,h1,h2,h3,h4,h5⟩=>⟨c,fr,h1,h2 rfl,λj v hv=> ?_,h4⟩,λ_=>rfl⟩;obtain⟨i,k,col,g1,g2,g3,g4⟩:=vY hv;rw[g4,Ab,Nat.zero_add,g1];exact h5 i k col g2 g3
 ·exact aa.refl _
theorem DD (E:Nat->Nat)(v:SV):(Nq v).val E=v.val E:=by
 unfold Nq;split
 ·rfl
 ·rename_i k w z n c hne;have hz:(z&&Nat.beq n 0)=false:=by
   cases z with
   | false=>rfl
   | true =>
     cases n with
     | zero=>exact(hne rfl rfl).elim
     | succ n=>rfl
  simp[SV.val,hz]
 ·rfl
theorem DE (E:Nat->Nat)(v:SV):(Nr v).val E=v.val E:=by
 unfold Nr;split
 ·simp only[SV.val,ow (DD E)]
 ·exact DD E _
theorem SG (E:Nat->Nat)(v:SV):(Wd v).val E=v.val E:=by
 unfold Wd;split
 ·simp only[SV.val,ow (DE E)]
 ·exact DE E _
def cL.XN (m:Mem)(nx:Nat)(K:SV->Mem->Nat->VC):cL->VC
 | .ret v=>K (lit v) m nx
 | .new v B=>K (lit (Wd (v nx))) ((nx,Y3 B)::m) (nx+1)
 | .all α f=>.all α λx=>(f x).XN m nx K
 | .req p a=>.imp p (a.XN m nx K)
 | .fork b f=>match b with
   | true=>(f A).XN m nx K
   | false=>(f u).XN m nx K
def aaq (Γ:bh)(E:Nat->Nat)(nx:Nat)(K:SV->Mem->Nat->VC):SV->Mem->Nat->VC:=λv m' nx' =>.atom (∀(E':Nat->Nat) (w':World),(∀ k,k<nx->E' k=E k)->nx<=nx'->aL Γ E' m' nx' w'->bt (lift K) Γ E nx (v.val E') w')
theorem cL.m4 {Γ:bh}{E:Nat->Nat}{m:Mem}{nx:Nat}{K:SV->Mem->Nat->VC}: ∀ {a:cL},(a.XN m nx K).holds->(a.vc m nx (aaq Γ E nx K)).holds
 | .ret v,h=>λE' w' h1 h2 hs=>⟨E',D (lit v),m,nx,h1,h2,λx hx=>by injection hx with hx;subst hx;rw[Ab],hs,h⟩
 | .new v B,h=>λE' w' h1 h2 hs=>⟨E',D (lit (Wd (v nx))),_,nx+1,h1,h2,λx hx=>by injection hx with hx;subst hx;rw[Ab,SG],hs.JP (Wc B),h⟩
 | .all _ f,h=>λx=>cL.m4 (a:=f x) (h x)
 | .req _ a,h=>λx=>cL.m4 (a:=a) (h x)
 | .fork b f,h=>cB.2 (by
    cases b with
    | true=>exact cL.m4 (a:=f A) h
    | false=>exact cL.m4 (a:=f u) h)
theorem cL.oz {m:Mem}{nx:Nat}{K K':SV->Mem->Nat->VC}(hK: ∀ v m nx,(K v m nx).holds->(K' v m nx).holds): ∀ {a:cL},(a.XN m nx K).holds->(a.XN m nx K').holds
 | .ret _,h=>hK _ _ _ h
 | .new _ _,h=>hK _ _ _ h
 | .all _ f,h=>λx=>cL.oz (a:=f x) hK (h x)
 | .req _ a,h=>λx=>cL.oz (a:=a) hK (h x)
 | .fork b f,h=>by
   cases b with
   | true=>exact cL.oz (a:=f A) hK h
   | false=>exact cL.oz (a:=f u) hK h
noncomputable def qp (spec:List SV->Option (Prop×cL)):PT:=λargs m nx K=>match Aq args with
 | true=>(match spec (args.map CI)with
   | some (p,a)=>.and (.atom p) (a.XN m nx K)
   | none=>.fail "arguments that nothing is said of")
 | false=>cH spec args m nx K
theorem mG (spec:List SV->Option (Prop×cL)):aQ (qp spec):=by
 intro args m nx K K' hK h;unfold qp at h ⊢;split at h
 ·split at h
  ·exact⟨h.1,cL.oz hK h.2⟩
  ·exact h
 ·exact b9 spec _ _ _ _ _ hK h
theorem bt.Yj {Γ:bh}{E:Nat->Nat}{nx:Nat}{r:Value}{w:World}{K:SV->Mem->Nat->VC}(h:bt (lift (λv m nx=>K (lit v) m nx)) Γ E nx r w):bt (lift K) Γ E nx r w:=by
 obtain⟨E',sv,m',nx',h1,h2,h3,h4,h5⟩:=h;cases sv with
 | none=>exact h5.elim
 | some v=>exact⟨E',D (lit v),m',nx',h1,h2,λx hx=>by injection hx with hx;subst hx;rw[Ab];exact h3 v rfl,h4,h5⟩
theorem zO {P:Program}{f:FuncId}{spec:List SV->Option (Prop×cL)}(h:az P f (cH spec)):az P f (qp spec):=by
 intro args m nx K hk hwf hargs Γ E w hs;unfold qp at hk;split at hk
 ·have:(cH spec args m nx (aaq Γ E nx K)).holds:=by
   unfold cH;split at hk
   ·rename_i p a hsp
    first
     | exact⟨hk.1,cL.m4 hk.2⟩
     | (rw[hsp];exact⟨hk.1,cL.m4 hk.2⟩)
   ·exact hk.elim
  refine(h args m nx _ this hwf hargs Γ E w hs).mono (λe w' hh=> ?_) (λ_ _ h=>h);obtain⟨E',sv,m',nx',h1,h2,h3,h4,h5⟩:=hh;cases sv with
  | none=>exact h5.elim
  | some v=>rw[h3 v rfl];exact h5 E' w' h1 h2 h4
 ·exact h args m nx K hk hwf hargs Γ E w hs
noncomputable def pG (spec:List SV->Option (Prop×SV)):PT:=λargs m nx K=>match Aq args with
 | true=>aY spec args m nx (λv m nx=>K (lit v) m nx)
 | false=>aY spec args m nx K
theorem pH (spec:List SV->Option (Prop×SV)):aQ (pG spec):=by
 intro args m nx K K' hK h;unfold pG at h ⊢;split at h
 ·exact aR spec _ _ _ _ _ (λv m nx=>hK _ _ _) h
 ·exact aR spec _ _ _ _ _ hK h
theorem B5 {P:Program}{f:FuncId}{spec:List SV->Option (Prop×SV)}(h:az P f (aY spec)):az P f (pG spec):=by
 intro args m nx K hk hwf hargs Γ E w hs;unfold pG at hk;split at hk
 ·exact(h args m nx _ hk hwf hargs Γ E w hs).mono (λe w' hh=>bt.Yj hh) (λ_ _ h=>h)
 ·exact h args m nx K hk hwf hargs Γ E w hs
def Ij (t:List SV->Mem->Bool)(pt:PT):PT:=λargs m nx K=>match t args m with
 | true=>pt args m nx (λv m nx=>K (lit v) m nx)
 | false=>pt args m nx K
theorem Lz {t:List SV->Mem->Bool}{pt:PT}(h:aQ pt):aQ (Ij t pt):=by
 intro args m nx K K' hK hh;unfold Ij at hh ⊢;split at hh
 ·exact h _ _ _ _ _ (λv m nx=>hK _ _ _) hh
 ·exact h _ _ _ _ _ hK hh
theorem TG {P:Program}{f:FuncId}{t:List SV->Mem->Bool}{pt:PT}(h:az P f pt):az P f (Ij t pt):=by
 intro args m nx K hk hwf hargs Γ E w hs;unfold Ij at hk;split at hk
 ·exact(h args m nx _ hk hwf hargs Γ E w hs).mono (λe w' hh=>bt.Yj hh) (λ_ _ h=>h)
 ·exact h args m nx K hk hwf hargs Γ E w hs
def TF (m:Mem):SV->Bool
 | .aM=>A
 | .slc key o n _ _=>(match m.get key with
   | some (.cells cs _ _)=>Aq ((cs.drop o).take n)
   | _=>u)
 | _=>u
end Go.Proofs.YtoibaecagklkaaaGreatDoor.Sx
namespace Go.Proofs.YtoibaecagklkaaaGreatDoor
open Go Sx
set_option maxRecDepth 20000
noncomputable def Bv:List (FuncId×PT) :=
 (165,qp xB)::(116,Ij (λargs m=>TF m (args.headD .bO)) xD)::(124,qp FB)::(71,pG Gd) ::
 (69,pG CB)::(166,qp yp)::(198,qp Fi)::(115,pG A8)::gd
theorem nT:bn J (λf=>aE f Bv) :=
 .cons (zO Td) (mG _) (.cons (TG NA) (Lz y6) (.cons (zO SO) (mG _) (.cons (B5 T2) (pH _)
  (.cons (B5 Oh) (pH _) (.cons (zO JE) (mG _) (.cons (zO So) (mG _) (.cons (B5 Nx) (pH _) dU)))))))
noncomputable def aa9:fJ:={cm with cG:=λf=>aE f Bv,rounds:=4}
theorem abe:Sx.Good J aa9:=.of bR nT bl
theorem ko {x y:List UInt8}{i:Int}(h0:0<=i)(h:i<x.length):ai (x++y) i=ai x i:=by unfold ai;rw[c8,c8,er (by omega)]
theorem iW (b:UInt8)(l:List UInt8):ai (b::l) 0=(b.toNat:Int):=rfl
theorem uX (b c:UInt8)(l:List UInt8):ai (b::c::l) 1=(c.toNat:Int):=rfl
theorem ofNat_toNat {n:Int}(h0:0<=n)(h:n<256):((V n.toNat).toNat:Int)=n:=by rw[UInt8.toNat_ofNat'];omega
theorem qC {k:Nat}{n:Int}(h:n<=0):CW k n=[]:=by
 cases k with
 | zero=>rfl
 | succ k=>unfold CW;rw[if_neg (by omega)]
theorem zT {k:Nat}{n:Int}(h:0<n):CW (k+1) n=CW k (n / 256)++[V (n% 256).toNat]:=by
 conv=>lhs;unfold CW
 rw[if_pos h]
theorem Nf: ∀(k:Nat) (n:Int),0<=n->n<256^ k->num (CW k n)=n
 | 0,n,h0,h=>by
   have:n=0:=by simp at h;omega
   subst this;rfl
 | k+1,n,h0,h=>by
   by_cases hp:0<n
   ·rw[b_] at h;rw[zT hp,nY,Nf k (n / 256) (by omega) (by omega),ofNat_toNat (by omega) (by omega)];omega
   ·have:n=0:=by omega
    subst this;rw[qC (bf _)];rfl
theorem qx {x:List UInt8}{b:UInt8}(h:x≠[]):ai (x++[b]) 0=ai x 0:=by have:=Y.2 h;exact ko (bf _) (by omega)
theorem Hr: ∀(k:Nat) (n:Int),0<n->n<256^ k->CW k n≠[]/\ai (CW k n) 0≠0
 | 0,n,h0,h=>by simp at h;omega
 | k+1,n,h0,h=>by
   rw[b_] at h;rw[zT h0];refine⟨by simp,?_⟩;by_cases hp:0<n / 256
   ·obtain⟨h1,h2⟩:=Hr k (n / 256) hp (by omega);rw[qx h1];exact h2
   ·rw[qC (by omega),dR,iW,ofNat_toNat (by omega) (by omega)];omega
theorem IX: ∀(n:Nat) (l:List UInt8),l.length<=n->ai l 0≠0->0<num l
 | 0,l,hn,h=>by have:l=[]:=X.1 (by omega);subst this;exact absurd rfl h
 | n+1,l,hn,h=>by
   rcases c7 l with rfl | ⟨r,b,rfl⟩
   ·exact absurd rfl h
   ·rw[c6] at h hn ⊢;rw[nY];by_cases hr:r=[]
    ·subst hr;rw[dR,iW] at h;have:num []=0:=rfl;rw[this];omega
    ·rw[qx hr] at h;have h2:=IX n r (by simp at hn;omega) h;omega
theorem WT (l:List UInt8)(h:ai l 0≠0):0<num l:=IX l.length l (Nat.le_refl _) h
theorem Sq: ∀(k:Nat) (l:List UInt8),l.length<=k->(l=[]∨ai l 0≠0)->CW k (num l)=l
 | 0,l,h,_=>by have:l=[]:=X.1 (by omega);subst this;rfl
 | k+1,l,h,hl=>by
   rcases c7 l with rfl | ⟨r,b,rfl⟩
   ·exact qC (bf _)
   ·rw[c6] at hl h ⊢;have hne:ai (r++[b]) 0≠0:=by
     rcases hl with hl | hl
     ·simp at hl
     ·exact hl
    have hp:=WT _ hne;have hb:=b.toNat_lt;rw[zT hp];rw[nY] at hp ⊢;have e1:(num r*256+(b.toNat:Int)) / 256=num r:=by omega
    have e2:((num r*256+(b.toNat:Int))% 256).toNat=b.toNat:=by omega
    rw[e1,e2,UInt8.ofNat_toNat];congr 1;refine Sq k r (by simp at h;omega) ?_;by_cases hr:r=[]
    ·exact .inl hr
    ·rw[qx hr] at hne;exact .inr hne
theorem Du: ∀(j k:Nat) (n:Int),n<256^ j->(CW k n).length<=j
 | 0,k,n,h=>by rw[qC (by simp at h;omega)];simp
 | j+1,0,n,h=>by simp[CW]
 | j+1,k+1,n,h=>by
   by_cases hp:0<n
   ·rw[b_] at h;rw[zT hp];have:=Du j k (n / 256) (by omega);simp only[eA,c_,dD];omega
   ·rw[qC (by omega)];simp
theorem KE {n:Int}(h0:0<=n)(h:n<18446744073709551616):num (digits n)=n:=Nf 8 n h0 h
theorem Ht {n:Int}(h0:0<n)(h:n<18446744073709551616):digits n≠[]/\ai (digits n) 0≠0:=Hr 8 n h0 h
theorem ON {l:List UInt8}(h:l.length<=8)(h2:l=[]∨ai l 0≠0):digits (num l)=l:=Sq 8 l h h2
theorem Fm {n:Int}(h:n<16777216):(digits n).length<=3:=Du 3 8 n h
end Go.Proofs.YtoibaecagklkaaaGreatDoor
