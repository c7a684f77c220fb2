/-
  Conditions that the executor computes, written out by a program (vcgen.py).
-/
import Derived.Test.YtoibaecagklkaaaGreatDoorMj
import Derived.Test.YtoibaecagklkaaaGreatDoorProg
import Derived.Shelf.Strings.OnBuilder
open And renaming intro->O
open Array renaming getElem?_eq_some_iff->b!
open Bool renaming and_eq_false_iff->ei,and_eq_true->ej,eq_iff_iff->Z,false->u,false_and->ag,false_eq_true->M,not_eq_false'->ek,not_eq_true'->en,true->A,true_and->an,true_eq_false->N
open Decidable renaming decide->C
open Go.IntKind renaming i64->S,u64->a_
open Go.LoopState renaming ready->a!
open Go.Operand renaming const->ep,tmp->L
open Go.Proofs.Tryz renaming f115->ct,f124->cx,f165->cy,f166->cR,f198->c4,f69->c5,f71->er,func116->eu,prog->J
open Int renaming le_refl->bf,not_le->b7,not_lt->W,pow_succ->b_,toNat_natCast->ez
open List renaming concat_eq_append->c_,eq_nil_or_concat->c!,getD_eq_getElem?_getD->dG,getElem?_append_left->eA,getElem?_eq_getElem->eB,getElem?_map->dV,intercalate->eC,length_append->eL,length_cons->d_,length_drop->d!,length_eq_zero_iff->X,length_map->eM,length_nil->ec,length_pos_iff->Y,map_map->eN,nil_append->ef,take->I
open Option renaming none->H,some->D
open UInt8 renaming ofNat->V
namespace Go.Proofs.YtoibaecagklkaaaGreatDoor
open Go Sx
set_option maxRecDepth 20000
theorem abG (base n:Int)(R:SV->Prop):VC.holds (eO RW 115 ct [.int .u8 u base,.int .i64 u n] R)=(((C (n<=55)=A->R (SV.str (u&&A) [V ((base+n% 256)% 256).toNat]))/\(C (n<=55)=u->(0<=n% 18446744073709551616/\n% 18446744073709551616<(18446744073709551616:Int))/\(↑(1:Nat):Int)+(↑(digits (n% 18446744073709551616)).length:Int)<=9223372036854775807/\R (SV.str u (cat [V (((base+55)% 256+(↑(digits (n% 18446744073709551616)).length:Int)% 256)% 256).toNat] (digits (n% 18446744073709551616))))))):=by kernel_rfl
theorem acS (s:List UInt8):VC.holds (gG RW 198 c4 [.str u s] (Z2 s))=((λP0:SV=>((λP1:SV=>((λP2:SV=>((λP3:SV=>((λP4:SV=>((λP5:SB=>(((C (s=[])=A->(bR s=A->af P0 P1)/\(bR s=u->∃(u17:Int),aa (SB.cells [SV.int .i64 A 0,SV.iface 30 (SV.int .i64 A 2)] 2 292) (SB.cells [SV.int .i64 u u17,SV.iface 30 (SV.int .i64 A 2)] 2 292)/\af P0 P2))/\(C (s=[])=u->((0:Int)<=(0:Int)/\0<(s.length:Int))/\(C (ah s 0<128)=A->((0:Int)<=(0:Int)/\(0:Int)<=(1:Int)/\1<=(s.length:Int))/\((0:Int)<=(1:Int)/\1<=(s.length:Int)/\(s.length:Int)<=(s.length:Int))/\(bR s=A->af (SV.aO [SV.bool A u,SV.str (u&&A&&A) (bO s H (D (ep (Value.int S 1))) 0 1),SV.str (u&&A&&u) (bO s (D (ep (Value.int S 1))) H 1 (s.length:Int)),SV.ay]) P1)/\(bR s=u->∃(_:Int),False))/\(C (ah s 0<128)=u->((0:Int)<=(0:Int)/\0<(s.length:Int))/\(C (ah s 0<192)=A->((0:Int)<=(0:Int)/\0<(s.length:Int))/\I6 ((ah s 0 - 128)% 256) /\(C (55<(ah s 0 - 128)% 256)=A->I6 (1+(ah s 0 - 128)% 256)/\I6 (1+(ah s 0 - 128)% 256 - (55:Int))/\((2:Int)<=1+(ah s 0 - 128)% 256 - (55:Int)/\1+(ah s 0 - 128)% 256 - (55:Int)<(100:Int))/\(jS s (1+(ah s 0 - 128)% 256 - (55:Int))=A->((-9223372036854775808:Int)<=(s.length:Int) - (1+(ah s 0 - 128)% 256 - (55:Int))/\(s.length:Int) - (1+(ah s 0 - 128)% 256 - (55:Int))<=9223372036854775807)/\(C ((s.length:Int) - (1+(ah s 0 - 128)% 256 - (55:Int))<part s (1+(ah s 0 - 128)% 256 - (55:Int)))=A->(bR s=A->af P0 P1)/\(bR s=u->∃(u15:Int),aa P5 (SB.cells [SV.int .i64 u u15,SV.iface 30 (SV.int .i64 A 2)] 2 292)/\af P0 P2))/\(C ((s.length:Int) - (1+(ah s 0 - 128)% 256 - (55:Int))<part s (1+(ah s 0 - 128)% 256 - (55:Int)))=u ->(C (part s (1+(ah s 0 - 128)% 256 - (55:Int))=1)=A->((0:Int)<=(1:Int)/\1<(s.length:Int))/\(C (ah s 1<128)=A->(bR s=A->af P0 P1)/\(bR s=u->∃(u14:Int),aa (SB.cells [SV.int .i64 A 1,SV.iface 30 (SV.int .i64 A 2)] 2 292) (SB.cells [SV.int .i64 u u14,SV.iface 30 (SV.int .i64 A 2)] 2 292)/\af P0 P2))/\(C (ah s 1<128)=u->((-9223372036854775808:Int)<=1+(ah s 0 - 128)% 256 - 55+part s (1+(ah s 0 - 128)% 256 - (55:Int))/\1+(ah s 0 - 128)% 256 - 55+part s (1+(ah s 0 - 128)% 256 - (55:Int))<=9223372036854775807)/\((0:Int)<=1+(ah s 0 - 128)% 256 - (55:Int)/\1+(ah s 0 - 128)% 256 - (55:Int)<=1+(ah s 0 - 128)% 256 - 55+part s (1+(ah s 0 - 128)% 256 - (55:Int))/\1+(ah s 0 - 128)% 256 - 55+part s (1+(ah s 0 - 128)% 256 - (55:Int))<=(s.length:Int))/\((-9223372036854775808:Int)<=1+(ah s 0 - 128)% 256 - 55+part s (1+(ah s 0 - 128)% 256 - (55:Int)) /\1+(ah s 0 - 128)% 256 - 55+part s (1+(ah s 0 - 128)% 256 - (55:Int))<=9223372036854775807)/\((0:Int)<=1+(ah s 0 - 128)% 256 - 55+part s (1+(ah s 0 - 128)% 256 - (55:Int))/\1+(ah s 0 - 128)% 256 - 55+part s (1+(ah s 0 - 128)% 256 - (55:Int))<=(s.length:Int)/\(s.length:Int)<=(s.length:Int))/\(bR s=A->af P3 P1)/\(bR s=u->∃(_:Int),False)))/\(C (part s (1+(ah s 0 - 128)% 256 - (55:Int))=1)=u->((-9223372036854775808:Int)<=1+(ah s 0 - 128)% 256 - 55+part s (1+(ah s 0 - 128)% 256 - (55:Int))/\1+(ah s 0 - 128)% 256 - 55+part s (1+(ah s 0 - 128)% 256 - (55:Int))<=9223372036854775807)/\((0:Int)<=1+(ah s 0 - 128)% 256 - (55:Int)/\1+(ah s 0 - 128)% 256 - (55:Int)<=1+(ah s 0 - 128)% 256 - 55+part s (1+(ah s 0 - 128)% 256 - (55:Int))/\1+(ah s 0 - 128)% 256 - 55+part s (1+(ah s 0 - 128)% 256 - (55:Int))<=(s.length:Int))/\((-9223372036854775808:Int)<=1+(ah s 0 - 128)% 256 - 55+part s (1+(ah s 0 - 128)% 256 - (55:Int)) /\1+(ah s 0 - 128)% 256 - 55+part s (1+(ah s 0 - 128)% 256 - (55:Int))<=9223372036854775807)/\((0:Int)<=1+(ah s 0 - 128)% 256 - 55+part s (1+(ah s 0 - 128)% 256 - (55:Int))/\1+(ah s 0 - 128)% 256 - 55+part s (1+(ah s 0 - 128)% 256 - (55:Int))<=(s.length:Int)/\(s.length:Int)<=(s.length:Int))/\(bR s=A->af P3 P1)/\(bR s=u->∃(_:Int),False))))/\(jS s (1+(ah s 0 - 128)% 256 - (55:Int))=u->∀(u11:Int),(bR s=A->af P0 P1)/\(bR s=u->∃(u10:Int),aa (SB.cells [SV.int .i64 u u11,SV.iface 30 (SV.int .i64 A 2)] 2 292) (SB.cells [SV.int .i64 u u10,SV.iface 30 (SV.int .i64 A 2)] 2 292)/\af P0 P2)))/\(C (55<(ah s 0 - 128)% 256)=u->I6 ((s.length:Int) - 1)/\(C ((s.length:Int) - 1<(ah s 0 - 128)% 256)=A->(bR s=A->af P0 P1)/\(bR s=u->∃(u9:Int),aa P5 (SB.cells [SV.int .i64 u u9,SV.iface 30 (SV.int .i64 A 2)] 2 292)/\af P0 P2)) /\(C ((s.length:Int) - 1<(ah s 0 - 128)% 256)=u->(C ((ah s 0 - 128)% 256=(1:Int))=A->((0:Int)<=(1:Int)/\1<(s.length:Int))/\(C (ah s 1<128)=A->(bR s=A->af P0 P1)/\(bR s=u->∃(u8:Int),aa (SB.cells [SV.int .i64 A 1,SV.iface 30 (SV.int .i64 A 2)] 2 292) (SB.cells [SV.int .i64 u u8,SV.iface 30 (SV.int .i64 A 2)] 2 292)/\af P0 P2))/\(C (ah s 1<128)=u->I6 (1+(ah s 0 - 128)% 256)/\((0:Int)<=(1:Int)/\(1:Int)<=1+(ah s 0 - 128)% 256/\1+(ah s 0 - 128)% 256<=(s.length:Int))/\I6 (1+(ah s 0 - 128)% 256)/\((0:Int)<=1+(ah s 0 - 128)% 256/\1+(ah s 0 - 128)% 256<=(s.length:Int)/\(s.length:Int)<=(s.length:Int))/\(bR s=A->af P4 P1)/\(bR s=u->∃(_:Int),False)))/\(C ((ah s 0 - 128)% 256=(1:Int))=u->((-9223372036854775808:Int)<=1+(ah s 0 - 128)% 256 /\1+(ah s 0 - 128)% 256<=(9223372036854775807:Int))/\((0:Int)<=(1:Int)/\(1:Int)<=1+(ah s 0 - 128)% 256/\1+(ah s 0 - 128)% 256<=(s.length:Int))/\I6 (1+(ah s 0 - 128)% 256)/\((0:Int)<=1+(ah s 0 - 128)% 256/\1+(ah s 0 - 128)% 256<=(s.length:Int)/\(s.length:Int)<=(s.length:Int))/\(bR s=A->af P4 P1)/\(bR s=u->∃(_:Int),False)))))/\(C (ah s 0<192)=u->((0:Int)<=(0:Int)/\0<(s.length:Int))/\I6 ((ah s 0 - 192)% 256)/\(C (55<(ah s 0 - 192)% 256)=A->I6 (1+(ah s 0 - 192)% 256)/\I6 (1+(ah s 0 - 192)% 256 - (55:Int))/\((2:Int)<=1+(ah s 0 - 192)% 256 - (55:Int)/\1+(ah s 0 - 192)% 256 - (55:Int)<(100:Int)) /\(jS s (1+(ah s 0 - 192)% 256 - (55:Int))=A->((-9223372036854775808:Int)<=(s.length:Int) - (1+(ah s 0 - 192)% 256 - (55:Int))/\(s.length:Int) - (1+(ah s 0 - 192)% 256 - (55:Int))<=9223372036854775807)/\(C ((s.length:Int) - (1+(ah s 0 - 192)% 256 - (55:Int))<part s (1+(ah s 0 - 192)% 256 - (55:Int)))=A->(bR s=A->af P0 P1)/\(bR s=u->∃(u5:Int),aa P5 (SB.cells [SV.int .i64 u u5,SV.iface 30 (SV.int .i64 A 2)] 2 292)/\af P0 P2))/\(C ((s.length:Int) - (1+(ah s 0 - 192)% 256 - (55:Int))<part s (1+(ah s 0 - 192)% 256 - (55:Int)))=u->((-9223372036854775808:Int)<=1+(ah s 0 - 192)% 256 - 55+part s (1+(ah s 0 - 192)% 256 - (55:Int))/\1+(ah s 0 - 192)% 256 - 55+part s (1+(ah s 0 - 192)% 256 - (55:Int))<=9223372036854775807)/\((0:Int)<=1+(ah s 0 - 192)% 256 - (55:Int)/\1+(ah s 0 - 192)% 256 - (55:Int)<=1+(ah s 0 - 192)% 256 - 55+part s (1+(ah s 0 - 192)% 256 - (55:Int)) /\1+(ah s 0 - 192)% 256 - 55+part s (1+(ah s 0 - 192)% 256 - (55:Int))<=(s.length:Int))/\((-9223372036854775808:Int)<=1+(ah s 0 - 192)% 256 - 55+part s (1+(ah s 0 - 192)% 256 - (55:Int))/\1+(ah s 0 - 192)% 256 - 55+part s (1+(ah s 0 - 192)% 256 - (55:Int))<=9223372036854775807)/\((0:Int)<=1+(ah s 0 - 192)% 256 - 55+part s (1+(ah s 0 - 192)% 256 - (55:Int))/\1+(ah s 0 - 192)% 256 - 55+part s (1+(ah s 0 - 192)% 256 - (55:Int))<=(s.length:Int)/\(s.length:Int)<=(s.length:Int))/\(bR s=A->af (SV.aO [SV.bool (A&&A) (C ((192:Int)=(192:Int))),SV.str (u&&u&&u) (bO s (D (L 70)) (D (L 73)) (1+(ah s 0 - 192)% 256 - (55:Int)) (1+(ah s 0 - 192)% 256 - 55+part s (1+(ah s 0 - 192)% 256 - (55:Int)))),SV.str (u&&u&&u) (bO s (D (L 78)) H (1+(ah s 0 - 192)% 256 - 55+part s (1+(ah s 0 - 192)% 256 - (55:Int))) (s.length:Int)),SV.ay]) P1)/\(bR s=u->∃(_:Int),False))) /\(jS s (1+(ah s 0 - 192)% 256 - (55:Int))=u->∀(u3:Int),(bR s=A->af P0 P1)/\(bR s=u->∃(u2:Int),aa (SB.cells [SV.int .i64 u u3,SV.iface 30 (SV.int .i64 A 2)] 2 292) (SB.cells [SV.int .i64 u u2,SV.iface 30 (SV.int .i64 A 2)] 2 292)/\af P0 P2)))/\(C (55<(ah s 0 - 192)% 256)=u->I6 ((s.length:Int) - 1)/\(C ((s.length:Int) - 1<(ah s 0 - 192)% 256)=A->(bR s=A->af P0 P1)/\(bR s=u->∃(u1:Int),aa P5 (SB.cells [SV.int .i64 u u1,SV.iface 30 (SV.int .i64 A 2)] 2 292)/\af P0 P2))/\(C ((s.length:Int) - 1<(ah s 0 - 192)% 256)=u->I6 (1+(ah s 0 - 192)% 256)/\((0:Int)<=(1:Int)/\(1:Int)<=1+(ah s 0 - 192)% 256/\1+(ah s 0 - 192)% 256<=(s.length:Int))/\I6 (1+(ah s 0 - 192)% 256)/\((0:Int)<=1+(ah s 0 - 192)% 256 /\1+(ah s 0 - 192)% 256<=(s.length:Int)/\(s.length:Int)<=(s.length:Int))/\(bR s=A->af (SV.aO [SV.bool (A&&A) (C ((192:Int)=(192:Int))),SV.str (u&&A&&u) (bO s (D (L 70)) (D (L 73)) 1 (1+(ah s 0 - 192)% 256)),SV.str (u&&u&&u) (bO s (D (L 78)) H (1+(ah s 0 - 192)% 256) (s.length:Int)),SV.ay]) P1)/\(bR s=u->∃(_:Int),False))))))))) (SB.cells [SV.int .i64 u (s.length:Int),SV.iface 30 (SV.int .i64 A 2)] 2 292))) (SV.aO [SV.bool (A&&A) (C ((128:Int)=(192:Int))),SV.str (u&&A&&u) (bO s (D (L 70)) (D (L 73)) 1 (1+(ah s 0 - 128)% 256)),SV.str (u&&u&&u) (bO s (D (L 78)) H (1+(ah s 0 - 128)% 256) (s.length:Int)),SV.ay]))) (SV.aO [SV.bool (A&&A) (C ((128:Int)=(192:Int))),SV.str (u&&u&&u) (bO s (D (L 70)) (D (L 73)) (1+(ah s 0 - 128)% 256 - (55:Int)) (1+(ah s 0 - 128)% 256 - 55+part s (1+(ah s 0 - 128)% 256 - (55:Int)))),SV.str (u&&u&&u) (bO s (D (L 78)) H (1+(ah s 0 - 128)% 256 - 55+part s (1+(ah s 0 - 128)% 256 - (55:Int))) (s.length:Int)),SV.ay]))) (SV.aO ([SV.bool A u,SV.str A [],SV.str A []]++[SV.iface 290 (SV.ptr 0 A 0)])))) (SV.aO [SV.bool u (dx s),SV.str u (ai s),SV.str u (aF s),SV.ay]))) (SV.aO [SV.bool A u,SV.str A [],SV.str A [],SV.iface 290 (SV.ptr 0 A 0)])):=by kernel_rfl
theorem zZ {s:List UInt8}(h:ah s 0<192):lead s=ah s 0 - 128:=if_pos h
theorem zY {s:List UInt8}(h: ¬ ah s 0<192):lead s=ah s 0 - 192:=if_neg h
theorem fB {s:List UInt8}:bR s=A↔s≠[]/\(ah s 0<128∨(¬ ah s 0<128/\55<lead s/\jS s (lead s - 54)=A/\part s (lead s - 54)<=s.length - (lead s - 54))∨(¬ ah s 0<128/\¬ 55<lead s/\lead s<=s.length - 1/\¬ (ah s 0<192/\lead s=1/\ah s 1<128))):=by
 unfold bR KS cutFrom;by_cases hA:ah s 0<128
 ·simp[hA]
 ·by_cases hL:55<lead s
  ·have:lead s≠1:=by omega
   simp[hA,hL,this]
  ·simp[hA,hL];intro _ _;omega
theorem JD {a a':Bool}{b b' c c':List UInt8}{l1 l2 l3 l4 l5 l6:Bool}(h1:a=a')(h2:b=b')(h3:c=c'):af (.aO [.bool l1 a,.str l2 b,.str l3 c,.ay]) (.aO [.bool l4 a',.str l5 b',.str l6 c',.ay]):=by subst h1;subst h2;subst h3;exact λ_=>rfl
theorem lO {s:List UInt8}(h:ah s 0<128):dx s=u/\ai s=s.take 1/\aF s=s.drop 1:=by refine⟨by simp[dx];omega,?_,?_⟩<;>simp[ai,aF,cutFrom,KS,h]
theorem oY {s:List UInt8}(h: ¬ ah s 0<128)(h2: ¬ 55<lead s):ai s=(s.drop (1:Int).toNat).take (lead s).toNat/\aF s=s.drop (1+lead s).toNat:=by constructor<;>simp[ai,aF,cutFrom,KS,h,h2]
theorem l9 {s:List UInt8}(h: ¬ ah s 0<128)(h2:55<lead s):ai s=(s.drop (lead s - 54).toNat).take (part s (lead s - 54)).toNat/\aF s=s.drop (lead s - 54+part s (lead s - 54)).toNat:=by constructor<;>simp[ai,aF,cutFrom,KS,h,h2]
theorem O9 {s:List UInt8}(hs:s.length<9223372036854775808):az (gG RW 198 c4 [.str u s] (Z2 s)):=by
 refine az.of_eq (acS s) ?_;have g0:=dM s 0;have g1:=dM s 1;have g2:=sK s (lead s - 54);by_cases h0:s=[]
 ·have hB:bR s=false:=by rw[Bool.eq_false_iff,ne_eq,fB];simp[h0]
  simp only[h0,decide_true,forall_const,N,false_imp_iff,and_true];rw[h0] at hB;simp only[hB,M,false_imp_iff,forall_const,true_and]
  (first | exact⟨_,aa.cells (λ_=>rfl) rfl,λ_=>rfl⟩ | exact λ_=>rfl | trivial)
 have hl:0<s.length:=Y.2 h0;by_cases hA:ah s 0<128
 ·have hB:bR s=true:=fB.2 ⟨h0,.inl hA⟩;obtain⟨k1,k2,k3⟩:=lO hA;simp only[h0,hA,hB,decide_true,decide_false,forall_const,N,M,false_imp_iff,and_true,true_and,bO];refine⟨by omega,by omega,by omega,?_⟩;exact JD k1.symm (by rw[k2];rfl) (by rw[k3];rfl)
 ·have e2:1+lead s - 55=lead s - 54:=by omega
  by_cases hC:ah s 0<192
  ·have e3:dx s=false:=by simp[dx];omega
   have e1:(ah s 0 - 128)% 256=lead s:=by rw[zZ hC];omega
   have e4:=zZ hC;by_cases hL:55<lead s
   ·obtain⟨k1,k2⟩:=l9 hA hL;have hB:bR s=(jS s (lead s - 54)&&C (part s (lead s - 54)<=s.length - (lead s - 54))):=by rw[Z,fB];simp[h0,hA,hL]
    simp only[h0,hA,hC,hL,hB,e1,e2,decide_true,decide_false,forall_const,N,M,false_imp_iff,and_true,true_and,bO];cases hb:jS s (lead s - 54)with
    | false=>simp only[ag,M,false_imp_iff,forall_const,true_and];(repeat' first | apply O | intro (_:_=A) | intro (_:_=u) | intro (_:Int))<;>first | omega | (first | exact⟨_,aa.cells (λ_=>rfl) rfl,λ_=>rfl⟩ | exact λ_=>rfl | trivial)
    | true =>
      have hb':=iD.1 hb;have hn: ¬ part s (lead s - 54)=1:=by omega
      simp only[hn,decide_false,an,N,M,false_imp_iff,forall_const,true_and,and_true]
      (repeat' first | apply O | intro (_:_=A) | intro (_:_=u) | intro (_:Int))
      all_goals simp only[decide_eq_true_eq,decide_eq_false_iff_not,W,b7] at *
      all_goals first
       | omega
       | (refine JD ?_ ?_ ?_
          ·simp[e3]
          ·rw[k1,show(lead s - 54+part s (lead s - 54)).toNat - (lead s - 54).toNat=(part s (lead s - 54)).toNat by omega]
          ·rw[k2])
       | (first | exact⟨_,aa.cells (λ_=>rfl) rfl,λ_=>rfl⟩ | exact λ_=>rfl | trivial)
   ·obtain⟨k1,k2⟩:=oY hA hL;have hB:bR s=(C (lead s<=s.length - 1)&& !(C (ah s 0<192)&&C (lead s=1)&&C (ah s 1<128))):=by
     rw[Z,fB];simp[h0,hA,hL,hC]
     try (intro _;omega)
    simp only[h0,hA,hC,hL,hB,e1,e2,decide_true,decide_false,forall_const,N,M,false_imp_iff,and_true,true_and,bO]
    (repeat' first | apply O | intro (_:_=A) | intro (_:_=u) | intro (_:Int))
    all_goals simp only[decide_eq_true_eq,decide_eq_false_iff_not,W,b7,ej,ei,en,ek,an,ag] at *
    all_goals first
     | omega
     | (refine JD ?_ ?_ ?_
        ·simp[e3]
        ·rw[k1,show(1+lead s).toNat - (1:Int).toNat=(lead s).toNat by omega]
        ·rw[k2])
     | (first | exact⟨_,aa.cells (λ_=>rfl) rfl,λ_=>rfl⟩ | exact λ_=>rfl | trivial)
  ·have e3:dx s=true:=by simp[dx];omega
   have e1:(ah s 0 - 192)% 256=lead s:=by rw[zY hC];omega
   have e4:=zY hC;by_cases hL:55<lead s
   ·obtain⟨k1,k2⟩:=l9 hA hL;have hB:bR s=(jS s (lead s - 54)&&C (part s (lead s - 54)<=s.length - (lead s - 54))):=by rw[Z,fB];simp[h0,hA,hL]
    simp only[h0,hA,hC,hL,hB,e1,e2,decide_true,decide_false,forall_const,N,M,false_imp_iff,and_true,true_and,bO];cases hb:jS s (lead s - 54)with
    | false=>simp only[ag,M,false_imp_iff,forall_const,true_and];(repeat' first | apply O | intro (_:_=A) | intro (_:_=u) | intro (_:Int))<;>first | omega | (first | exact⟨_,aa.cells (λ_=>rfl) rfl,λ_=>rfl⟩ | exact λ_=>rfl | trivial)
    | true =>
      have hb':=iD.1 hb;have hn: ¬ part s (lead s - 54)=1:=by omega
      simp only[an,N,false_imp_iff,forall_const,and_true]
      (repeat' first | apply O | intro (_:_=A) | intro (_:_=u) | intro (_:Int))
      all_goals simp only[decide_eq_true_eq,decide_eq_false_iff_not,W,b7] at *
      all_goals first
       | omega
       | (refine JD ?_ ?_ ?_
          ·simp[e3]
          ·rw[k1,show(lead s - 54+part s (lead s - 54)).toNat - (lead s - 54).toNat=(part s (lead s - 54)).toNat by omega]
          ·rw[k2])
       | (first | exact⟨_,aa.cells (λ_=>rfl) rfl,λ_=>rfl⟩ | exact λ_=>rfl | trivial)
   ·obtain⟨k1,k2⟩:=oY hA hL;have hB:bR s=(C (lead s<=s.length - 1)&& !(C (ah s 0<192)&&C (lead s=1)&&C (ah s 1<128))):=by
     rw[Z,fB];simp[h0,hA,hL,hC]
     try (intro _;omega)
    simp only[h0,hA,hC,hL,hB,e1,e2,decide_true,decide_false,forall_const,M,false_imp_iff,true_and,bO]
    (repeat' first | apply O | intro (_:_=A) | intro (_:_=u) | intro (_:Int))
    all_goals simp only[decide_eq_true_eq,decide_eq_false_iff_not,W,b7,ej,ei,an,ag,Bool.not_false,N,or_false] at *
    all_goals first
     | omega
     | (refine JD ?_ ?_ ?_
        ·simp[e3]
        ·rw[k1,show(1+lead s).toNat - (1:Int).toNat=(lead s).toNat by omega]
        ·rw[k2])
     | (first | exact⟨_,aa.cells (λ_=>rfl) rfl,λ_=>rfl⟩ | exact λ_=>rfl | trivial)
def Fy:List SV->Option (Prop×cO)
 | [.str u s]=>D (s.length<9223372036854775808,Z2 s)
 | _=>H
noncomputable def YW:PT:=cw Fy
theorem SW:av J 198 YW:=by
 refine dW (n:=20) (fn:=c4) Tryz.func198 (by kernel_rfl) (by kernel_rfl) ?_;intro args p a h hp;unfold Fy at h;split at h
 ·rename_i s;injection h with h;injection h with h1 h2;subst h1;subst h2;refine⟨_,Y1,rfl,λb=> ?_,O9 hp⟩;cases b
  ·exact DB rfl
  ·exact rfl
 ·cases h
def b8 (base:Int)(n:Nat):List UInt8:=if n<=55 then [V (base+n).toNat] else V (base+55+(digits n).length).toNat::digits n
def aA (b:List UInt8):List UInt8:=if b.length=1/\ah b 0<128 then b else b8 128 b.length++b
theorem FA (k:Nat)(n:Int):(CY k n).length<=k:=by
 induction k generalizing n with
 | zero=>simp[CY]
 | succ k ih =>
   unfold CY;split
   ·have:=ih (n / 256);simp only[eL,d_,ec];omega
   ·simp
theorem tX (n:Int):(digits n).length<=8:=FA 8 n
theorem Le {base n:Int}(h0:0<=base)(h1:base<=192)(h2:0<=n)(h3:n<1152921504606846976):az (eO RW 115 ct [.int .u8 u base,.int .i64 u n] (λv=>af v (.str u (b8 base n.toNat)))):=by
 refine az.of_eq (abG base n _) ?_;have e:n% 18446744073709551616=n:=by omega
 have e1:((n.toNat:Nat):Int)=n:=by omega
 have hd:=tX n;rw[e];refine⟨λh=>ic ?_,λh=>⟨by omega,by omega,ic ?_⟩⟩
 ·simp only[decide_eq_true_eq] at h;unfold b8;rw[if_pos (by omega),e1];congr 3;omega
 ·simp only[decide_eq_false_iff_not] at h;unfold b8;rw[if_neg (by omega),e1];simp only[cat,List.cons_append,ef];congr 3;omega
def A7:List SV->Option (Prop×SV)
 | [.int .u8 u base,.int .i64 u n]=>D ((0<=base/\base<=192)/\0<=n/\n<1152921504606846976,.str u (b8 base n.toNat))
 | _=>H
noncomputable def Tw:PT:=bh A7
theorem NN:av J 115 Tw:=by
 refine iO Y1 (n:=20) (fn:=ct) Tryz.func115 (by kernel_rfl) (by kernel_rfl) ?_;intro args p r h hp;unfold A7 at h;split at h
 ·injection h with h;injection h with h1 h2;subst h1;subst h2;exact⟨rfl,rfl,Le hp.1.1 hp.1.2 hp.2.1 hp.2.2⟩
 ·cases h
noncomputable def TW:List (FuncId×PT):=(198,YW)::(115,Tw)::TV
theorem IB:bt J (λf=>aD f TW):=.cons SW (b6 _) (.cons NN (aS _) IA)
noncomputable def RX:fQ:={cv with cQ:=λf=>aD f TW}
theorem Y2:Sx.Good J RX:=.of bX IB bw
def MB (s:List UInt8):cO:=.fork (bR s) λb=>match b with
 | true=>.ret (.aO [.bool u (dx s),.str u (ai s),.str u (aF s),.int .i64 A 0])
 | false=>.ret (.aO [.bool A u,.str A [],.str A [],.int .i64 A 2])
theorem abQ (b:List UInt8)(R:SV->Prop):VC.holds (eO RX 69 c5 [.str u b] R)=(((C ((b.length:Int)=1)=A->((0:Int)<=(0:Int)/\0<(b.length:Int))/\(C (ah b 0<128)=A->R (SV.str u b))/\(C (ah b 0<128)=u->(((0:Int)<=(128:Int)/\(128:Int)<=(192:Int))/\0<=(b.length:Int)/\(b.length:Int)<1152921504606846976)/\(↑(b8 128 (b.length:Int).toNat).length:Int)+(b.length:Int)<=9223372036854775807/\R (SV.str u (cat (b8 128 (b.length:Int).toNat) b))))/\(C ((b.length:Int)=1)=u->(((0:Int)<=(128:Int)/\(128:Int)<=(192:Int))/\0<=(b.length:Int)/\(b.length:Int)<1152921504606846976)/\(↑(b8 128 (b.length:Int).toNat).length:Int)+(b.length:Int)<=9223372036854775807/\R (SV.str u (cat (b8 128 (b.length:Int).toNat) b))))):=by kernel_rfl
theorem YC (s:List UInt8):VC.holds (gG RX 166 cR [.str u s] (MB s))=((λP0:SV=>((s.length<9223372036854775808/\(bR s=A->(bR s=A->af P0 P0)/\(bR s=u->af P0 (SV.aO [SV.bool A u,SV.str A [],SV.str A [],SV.int .i64 A 2])))/\(bR s=u->∀(_:Int),(bR s=A->af (SV.aO [SV.bool A u,SV.str A [],SV.str A [],SV.int .i64 A 2]) P0)/\(bR s=u->af (SV.aO [SV.bool A u,SV.str A [],SV.str A [],SV.int .i64 A 2]) (SV.aO [SV.bool A u,SV.str A [],SV.str A [],SV.int .i64 A 2])))))) (SV.aO [SV.bool u (dx s),SV.str u (ai s),SV.str u (aF s),SV.int .i64 A 0])):=by kernel_rfl
theorem Tx (base:Int)(n:Nat):(b8 base n).length<=9:=by unfold b8;have:=tX n;split<;>simp only[d_,ec]<;>omega
theorem oI {b:List UInt8}(h: ¬ (b.length=1/\ah b 0<128)):aA b=b8 128 b.length++b:=if_neg h
theorem MK {b:List UInt8}(hb:b.length<1152921504606846976):az (eO RX 69 c5 [.str u b] (λv=>af v (.str u (aA b)))):=by
 refine az.of_eq (abQ b _) ?_;have hl:=Tx 128 b.length;simp only[ez];refine⟨λh=>⟨by simp at h;omega,λh2=>ic ?_,λh2=>⟨by omega,by omega,ic ?_⟩⟩,λh=>⟨by omega,by omega,ic ?_⟩⟩
 ·simp at h h2;exact(if_pos ⟨by omega,h2⟩).symm
 ·simp only[decide_eq_false_iff_not] at h2;exact(oI λx=>h2 x.2).symm
 ·simp only[decide_eq_false_iff_not] at h;exact(oI λx=>h (by omega)).symm
def CD:List SV->Option (Prop×SV)
 | [.str u b]=>D (b.length<1152921504606846976,.str u (aA b))
 | _=>H
noncomputable def Vw:PT:=bh CD
theorem OC:av J 69 Vw:=by
 refine iO Y2 (n:=20) (fn:=c5) Tryz.func69 (by kernel_rfl) (by kernel_rfl) ?_;intro args p r h hp;unfold CD at h;split at h
 ·injection h with h;injection h with h1 h2;subst h1;subst h2;exact⟨rfl,rfl,MK hp⟩
 ·cases h
theorem JS {s:List UInt8}(hs:s.length<9223372036854775808):az (gG RX 166 cR [.str u s] (MB s)):=by
 refine az.of_eq (YC s) ?_;cases bR s with
 | true=>exact⟨hs,λ_=>⟨λ_ _=>rfl,(λh=>by cases h)⟩,λh=>by cases h⟩
 | false=>exact⟨hs,(λh=>by cases h),λ_ _=>⟨(λh=>by cases h),λ_ _=>rfl⟩⟩
def yh:List SV->Option (Prop×cO)
 | [.str u s]=>D (s.length<9223372036854775808,MB s)
 | _=>H
noncomputable def Oy:PT:=cw yh
theorem JT:av J 166 Oy:=by
 refine dW (n:=20) (fn:=cR) Tryz.func166 (by kernel_rfl) (by kernel_rfl) ?_;intro args p a h hp;unfold yh at h;split at h
 ·rename_i s;injection h with h;injection h with h1 h2;subst h1;subst h2;refine⟨_,Y2,rfl,λb=> ?_,JS hp⟩;cases b<;>exact rfl
 ·cases h
noncomputable def TX:List (FuncId×PT):=(69,Vw)::(166,Oy)::TW
theorem IC:bt J (λf=>aD f TX):=.cons OC (aS _) (.cons JT (b6 _) IB)
def kG (s:List UInt8):Bool:=bR s&& !dx s&&C (aF s=[])&&C ((ai s).length<=8)&& !(C (ai s≠[])&&C (ah (ai s) 0=0))
def Z7 (s:List UInt8):cO:=.fork (kG s) λb=>match b with
 | true=>.ret (.aO [.int .u64 u (num (ai s)),.int .i64 A 0])
 | false=>.ret (.aO [.int .u64 A 0,.int .i64 A 2])
noncomputable def ZM (l:List UInt8):bg :={α:=Int,pre:=λ_ i=>0<=i/\i<=l.length,kY:=λ_ i=>(l.length - i).toNat,fresh:=0,slots:=λ_ i=>[(8,.int .u64 u (num (l.take i.toNat))),(42,.int .i64 u i)],mem:=λ_ _=>[]}
noncomputable def WV (l:List UInt8):fQ:={cv with cQ:=λf=>aD f TX,bD:=λf=>if f=124 then [(10,always (ZM l))] else []}
theorem Y4 (l:List UInt8):Sx.Good J (WV l):=.of bX IC bw
theorem acU (s:List UInt8):VC.holds (gG (WV (ai s)) 124 cx [.str u s] (Z7 s))=((λP0:SV=>((λP1:SV=>((s.length<9223372036854775808/\(bR s=A->(dx s=A->(kG s=A->af P0 P1)/\(kG s=u->af P0 P0))/\(dx s=u->((!decide (aF s=[]))=A->(kG s=A->af P0 P1)/\(kG s=u->af P0 P0))/\((!decide (aF s=[]))=u->(C (8<(↑(ai s).length:Int))=A->(kG s=A->af P0 P1)/\(kG s=u->af P0 P0))/\(C (8<(↑(ai s).length:Int))=u->((!decide (ai s=[]))=A->((0:Int)<=(0:Int)/\0<(↑(ai s).length:Int))/\(C (ah (ai s) 0=(0:Int))=A->(kG s=A->af P0 P1)/\(kG s=u->af P0 P0))/\(C (ah (ai s) 0=(0:Int))=u->(∃(u5:Int),(0<=u5/\u5<=(↑(ai s).length:Int))/\0=num (I u5.toNat (ai s))/\0=u5/\True)/\∀(u4:Int),0<=u4/\u4<=(↑(ai s).length:Int)->(C (u4<(↑(ai s).length:Int))=A->(0<=u4/\u4<(↑(ai s).length:Int))/\(0<=ah (ai s) u4/\ah (ai s) u4<=18446744073709551615)/\(0<=num (I u4.toNat (ai s))*256% (18446744073709551616:Int) /\num (I u4.toNat (ai s))*256% (18446744073709551616:Int)<=(18446744073709551615:Int)/\0<=ah (ai s) u4/\ah (ai s) u4<=18446744073709551615)/\I6 (u4+1)/\∃(u3:Int),((0<=u3/\u3<=(↑(ai s).length:Int))/\((↑(ai s).length:Int) - u3).toNat<((↑(ai s).length:Int) - u4).toNat)/\bitsOf BinOp.or (num (I u4.toNat (ai s))*256% (18446744073709551616:Int)) (ah (ai s) u4)=num (I u3.toNat (ai s))/\u4+1=u3/\True)/\(C (u4<(↑(ai s).length:Int))=u->(kG s=A->af (SV.aO [SV.int .u64 u (num (I u4.toNat (ai s))),SV.int .i64 A 0]) P1)/\(kG s=u->af (SV.aO [SV.int .u64 u (num (I u4.toNat (ai s))),SV.int .i64 A 0]) P0))))/\((!decide (ai s=[]))=u->(∃(u2:Int),(0<=u2/\u2<=(↑(ai s).length:Int))/\0=num (I u2.toNat (ai s))/\0=u2/\True)/\∀(u1:Int),0<=u1/\u1<=(↑(ai s).length:Int)->(C (u1<(↑(ai s).length:Int))=A->(0<=u1/\u1<(↑(ai s).length:Int))/\(0<=ah (ai s) u1 /\ah (ai s) u1<=18446744073709551615)/\(0<=num (I u1.toNat (ai s))*256% (18446744073709551616:Int)/\num (I u1.toNat (ai s))*256% (18446744073709551616:Int)<=(18446744073709551615:Int)/\0<=ah (ai s) u1/\ah (ai s) u1<=18446744073709551615)/\I6 (u1+1)/\∃(u0:Int),((0<=u0/\u0<=(↑(ai s).length:Int))/\((↑(ai s).length:Int) - u0).toNat<((↑(ai s).length:Int) - u1).toNat)/\bitsOf BinOp.or (num (I u1.toNat (ai s))*256% (18446744073709551616:Int)) (ah (ai s) u1)=num (I u0.toNat (ai s))/\u1+1=u0/\True)/\(C (u1<(↑(ai s).length:Int))=u->(kG s=A->af (SV.aO [SV.int .u64 u (num (I u1.toNat (ai s))),SV.int .i64 A 0]) P1)/\(kG s=u->af (SV.aO [SV.int .u64 u (num (I u1.toNat (ai s))),SV.int .i64 A 0]) P0)))))))/\(bR s=u->(kG s=A->af P0 P1)/\(kG s=u->af P0 P0))))) (SV.aO [SV.int .u64 u (num (ai s)),SV.int .i64 A 0]))) (SV.aO [SV.int .u64 A 0,SV.int .i64 A 2])):=by kernel_rfl
theorem acW (n:Int)(R:SV->Prop):VC.holds (eO (WV []) 71 er [.int .u64 u n] R)=(((0<=n/\n<18446744073709551616)/\(digits n).length<1152921504606846976/\R (SV.str u (aA (digits n))))):=by kernel_rfl
theorem abd (l:List UInt8):0<=num l:=by
 unfold num;suffices ∀(l:List UInt8) (a:Int),0<=a->0<=l.foldl (λa b=>a*256+(b.toNat:Int)) a from this _ _ (bf _)
 intro l;induction l with
 | nil=>exact λ_ h=>h
 | cons b r ih=>intro a h;exact ih _ (show 0<=a*256+(b.toNat:Int)by omega)
theorem UE {l:List UInt8}{x:Int}(h:0<=x)(h2:x<l.length):num (l.take (x+1).toNat)=num (l.take x.toNat)*256+ah l x:=by
 have e:(x+1).toNat=x.toNat+1:=by omega
 have hx:x.toNat<l.length:=by omega
 rw[e,List.take_add_one,eB hx];simp only[Option.toList,ou];congr 1;unfold ah;rw[dG,eB hx];rfl
theorem UC: ∀(n:Nat) (l:List UInt8),l.length<=n->num l<256^ n
 | 0,l,h=>by have:l=[]:=X.1 (by omega);subst this;decide
 | n+1,l,h=>by
   rcases c! l with rfl | ⟨r,b,rfl⟩
   ·have:(0:Int)<256^ (n+1):=Int.pow_pos (by decide);exact this
   ·simp only[List.length_concat] at h;have:=UC n r (by omega);have hb:=b.toNat_lt;rw[c_,ou,b_];omega
theorem XL {l:List UInt8}{x:Int}(_h0:0<=x)(h:x<l.length)(h2:l.length<=8):num (l.take x.toNat)<72057594037927936:=by have:=UC 7 (l.take x.toNat) (by simp only[List.length_take];omega);exact this
theorem Tk {l:List UInt8}{x:Int}(h0:0<=x)(h:x<l.length)(h2:l.length<=8):bitsOf .or (num (l.take x.toNat)*256% 18446744073709551616) (ah l x)=num (l.take (x+1).toNat):=by have h3:=XL h0 h h2;have h4:=abd (l.take x.toNat);have h5:=dM l x;rw[show num (l.take x.toNat)*256% 18446744073709551616=num (l.take x.toNat)*256 by omega,UJ h4 h5.1 h5.2,UE h0 h]
theorem H7 {s:List UInt8}:kG s=A↔bR s=A/\dx s=u/\aF s=[]/\(ai s).length<=8/\(ai s=[]∨ah (ai s) 0≠0):=by unfold kG;by_cases h:ai s=[]<;>simp[and_assoc,h]
theorem H8 {l:List UInt8}(hl:l.length<=8){Q:Int->Prop}(hQ:Q l.length):(∃(y:Int),((0:Int)<=y/\y<=(↑l.length:Int))/\(0:Int)=num (I y.toNat l)/\(0:Int)=y/\True) /\
            ∀(x:Int),
             (0:Int)<=x/\x<=(↑l.length:Int) ->
               (C (x<(↑l.length:Int))=A ->
                 ((0:Int)<=x/\x<(↑l.length:Int)) /\
                  ((0:Int)<=ah l x/\ah l x<=(18446744073709551615:Int)) /\
                   ((0:Int)<=num (I x.toNat l)*(256:Int)% (18446744073709551616:Int) /\
                      num (I x.toNat l)*(256:Int)% (18446744073709551616:Int)<=(18446744073709551615:Int) /\
                       (0:Int)<=ah l x/\ah l x<=(18446744073709551615:Int)) /\
                    ((-9223372036854775808:Int)<=x+(1:Int)/\x+(1:Int)<=(9223372036854775807:Int)) /\
                     ∃(y:Int),
                      (((0:Int)<=y/\y<=(↑l.length:Int))/\((↑l.length:Int) - y).toNat<((↑l.length:Int) - x).toNat) /\
                       bitsOf BinOp.or (num (I x.toNat l)*(256:Int)% (18446744073709551616:Int)) (ah l x)=num (I y.toNat l) /\
                        x+(1:Int)=y/\True) /\
                 (C (x<(↑l.length:Int))=u->Q x):=by
 refine⟨⟨0,by omega,rfl,rfl,trivial⟩,λx ⟨h1,h2⟩=>⟨λh=> ?_,λh=> ?_⟩⟩
 ·simp only[decide_eq_true_eq] at h;have h5:=dM l x;exact⟨by omega,by omega,by omega,by omega,x+1,by omega,Tk h1 h hl,rfl,trivial⟩
 ·simp only[decide_eq_false_iff_not] at h;obtain rfl:x=l.length:=by omega
  exact hQ
theorem Pn {s:List UInt8}(hs:s.length<9223372036854775808):az (gG (WV (ai s)) 124 cx [.str u s] (Z7 s)):=by
 refine az.of_eq (acU s) ?_;have F: ∀ {p q:Prop},¬ (bR s=A/\dx s=u/\aF s=[]/\(ai s).length<=8/\(ai s=[]∨ah (ai s) 0≠0))->q->(kG s=A->p)/\(kG s=u->q):=λh hq=>⟨λe=>absurd (H7.1 e) h,λ_=>hq⟩
 refine⟨hs,λa=>⟨λb=>F (by simp[b]) λ_=>rfl,λb=>⟨λc=>F (by simp at c;simp[c]) λ_=>rfl,λc=>⟨λd=>F (by simp at d;omega) λ_=>rfl,λd=> ?_⟩⟩⟩,λa=>F (by simp[a]) λ_=>rfl⟩;simp only[decide_eq_false_iff_not,W,ek,decide_eq_true_eq] at c d;have T:(ai s=[]∨ah (ai s) 0≠0)->kG s=true:=λe=>H7.2 ⟨a,b,c,by omega,e⟩
 have G: ∀ {p:Prop},(ai s=[]∨ah (ai s) 0≠0)->(kG s=A->af (SV.aO [SV.int a_ u (num (I (((ai s).length:Int)).toNat (ai s))),SV.int S A (0:Int)])
                      (SV.aO [SV.int a_ u (num (ai s)),SV.int S A (0:Int)]))/\(kG s=u->p):=λe=>⟨λ_=>by rw[ez,List.take_length];exact λ_=>rfl,λh=>by rw[T e] at h;cases h⟩
 refine⟨λe=>⟨?_,λf=>F (by simp at e f;simp[e,f]) λ_=>rfl,λf=> ?_⟩,λe=> ?_⟩
 ·simp only[en,decide_eq_false_iff_not] at e;have:=Y.2 e;omega
 ·exact H8 (l:=ai s) (by omega) (Q:=λx=>(kG s=A->af (SV.aO [SV.int a_ u (num (I x.toNat (ai s))),SV.int S A (0:Int)]) _)/\(kG s=u->_)) (G (.inr (by simpa using f)))
 ·exact H8 (l:=ai s) (by omega) (Q:=λx=>(kG s=A->af (SV.aO [SV.int a_ u (num (I x.toNat (ai s))),SV.int S A (0:Int)]) _)/\(kG s=u->_)) (G (.inl (by simpa using e)))
def FQ:List SV->Option (Prop×cO)
 | [.str u s]=>D (s.length<9223372036854775808,Z7 s)
 | _=>H
noncomputable def YZ:PT:=cw FQ
theorem Tj:av J 124 YZ:=by
 refine dW (n:=20) (fn:=cx) Tryz.func124 (by kernel_rfl) (by kernel_rfl) ?_;intro args p a h hp;unfold FQ at h;split at h
 ·rename_i s;injection h with h;injection h with h1 h2;subst h1;subst h2;refine⟨_,Y4 (ai s),rfl,λb=> ?_,Pn hp⟩;cases b<;>exact rfl
 ·cases h
def Gv:List SV->Option (Prop×SV)
 | [.int .u64 u n]=>D (0<=n/\n<18446744073709551616,.str u (aA (digits n)))
 | _=>H
noncomputable def Zc:PT:=bh Gv
theorem UD:av J 71 Zc:=by
 refine iO (Y4 []) (n:=20) (fn:=er) Tryz.func71 (by kernel_rfl) (by kernel_rfl) ?_;intro args p r h hp;unfold Gv at h;split at h
 ·rename_i n;injection h with h;injection h with h1 h2;subst h1;subst h2;have:=tX n;exact⟨rfl,rfl,az.of_eq (acW n _) ⟨hp,by omega,λ_=>rfl⟩⟩
 ·cases h
noncomputable def Y8:List (FuncId×PT):=(124,YZ)::(71,Zc)::TX
theorem TY:bt J (λf=>aD f Y8):=.cons Tj (b6 _) (.cons UD (aS _) IC)
end Go.Proofs.YtoibaecagklkaaaGreatDoor
namespace Go.Proofs
open Go.Shelf
def Tryz.pF:Go.Shelf.Ren:=⟨λ| 156=>116 | 165=>160 | 166=>161 | 169=>162 | 240=>194 | 241=>195 | 276=>212 | 277=>213 | n=>n,λ| 31=>29 | 9=>9 | 3=>3 | 4=>4 | 0=>0 | 20=>20 | 72=>249 | 76=>251 | 70=>247 | 37=>54 | 75=>84 | 127=>272 | 164=>142 | 5=>5 | 80=>102 | n=>n,λ| n=>n⟩
theorem Tryz.Ip:Go.Proofs.Lays.n156 J Tryz.pF:={
 mixed:=by kernel_rfl,
 f156:=eu.trans (congrArg D (by kernel_rfl)),
 f165:=Tryz.func160.trans (congrArg D (by kernel_rfl)),
 f166:=Tryz.func161.trans (congrArg D (by kernel_rfl)),
 f169:=Tryz.func162.trans (congrArg D (by kernel_rfl)),
 f240:=Tryz.func194.trans (congrArg D (by kernel_rfl)),
 f241:=Tryz.func195.trans (congrArg D (by kernel_rfl)),
 f276:=Tryz.func212.trans (congrArg D (by kernel_rfl)),
 f277:=Tryz.func213.trans (congrArg D (by kernel_rfl)),
 t0:=Tryz.underlying0,
 a0:=Tryz.isAgg0,
 z0:=Tryz.sizeOf0,
 v0:=Tryz.zeroValue0,
 t3:=Tryz.underlying3,
 a3:=Tryz.isAgg3,
 z3:=Tryz.sizeOf3,
 v3:=Tryz.zeroValue3,
 t4:=Tryz.underlying4,
 a4:=Tryz.isAgg4,
 z4:=Tryz.sizeOf4,
 v4:=Tryz.zeroValue4,
 t9:=Tryz.underlying9,
 a9:=Tryz.isAgg9,
 z9:=Tryz.sizeOf9,
 v9:=Tryz.zeroValue9,
 t20:=Tryz.underlying20,
 a20:=Tryz.isAgg20,
 z20:=Tryz.sizeOf20,
 v20:=Tryz.zeroValue20,
 t31:=Tryz.underlying29,
 a31:=Tryz.isAgg29,
 z31:=Tryz.sizeOf29,
 v31:=Tryz.zeroValue29,
 t37:=Tryz.underlying54,
 a37:=Tryz.isAgg54,
 z37:=Tryz.sizeOf54,
 v37:=Tryz.zeroValue54,
 t70:=Tryz.underlying247,
 a70:=Tryz.isAgg247,
 z70:=Tryz.sizeOf247,
 v70:=Tryz.zeroValue247,
 t72:=Tryz.underlying249,
 a72:=Tryz.isAgg249,
 z72:=Tryz.sizeOf249,
 v72:=Tryz.zeroValue249,
 t75:=Tryz.underlying84,
 a75:=Tryz.isAgg84,
 z75:=Tryz.sizeOf84,
 v75:=Tryz.zeroValue84,
 t76:=Tryz.underlying251,
 a76:=Tryz.isAgg251,
 z76:=Tryz.sizeOf251,
 v76:=Tryz.zeroValue251,
 t127:=Tryz.underlying272,
 a127:=Tryz.isAgg272,
 z127:=Tryz.sizeOf272,
 v127:=Tryz.zeroValue272,
 t164:=Tryz.underlying142,
 a164:=Tryz.isAgg142,
 z164:=Tryz.sizeOf142,
 v164:=Tryz.zeroValue142}
end Go.Proofs
namespace Go.Proofs
open Go.Shelf Go.RowKit
theorem Tryz.extra:Builder.Extra J Tryz.pF:={
 sizeBuilder:=by kernel_rfl,
 liesBuilder:=by kernel_rfl,
 t5:=by kernel_rfl,
 a5:=by intro w;kernel_rfl,
 z5:=by intro w;kernel_rfl,
 v5:=by intro w;kernel_rfl,
 infoByte:=by kernel_rfl,
 cellsByte:=by kernel_rfl,
 sizeByte:=by kernel_rfl,
 neB5:=by decide}
end Go.Proofs
namespace Go.Proofs.YtoibaecagklkaaaGreatDoor
open Go Sx
set_option maxRecDepth 20000
theorem Xn:Tryz.pF.f 156=116:=by kernel_rfl
def flat (l:List (List UInt8)):List UInt8:=l.flatten
def iF (f:Nat->List UInt8)(i n:Nat):List (List UInt8):=(List.range n).map λj=>f (i+j)
theorem Jw {f:Nat->List UInt8}{i n j:Nat}{x:List UInt8}(h:(iF f i n)[j]?=D x):j<n/\f (i+j)=x:=by
 unfold iF at h;rw[dV] at h;by_cases hj:j<n
 ·rw[List.getElem?_range hj] at h;injection h with h;exact⟨hj,h⟩
 ·rw[List.getElem?_eq_none (by simpa using hj)] at h;cases h
theorem oD (f:Nat->List UInt8)(i n:Nat):(iF f i n).length=n:=by simp[iF]
def strCells:List SV->Option (List (List UInt8))
 | []=>D []
 | .str _ s::r=>(match strCells r with
   | some l=>D (s::l)
   | none=>H)
 | _=>H
theorem wv {cs:List SV}{l:List (List UInt8)}(h:strCells cs=D l):l.length=cs.length/\∀(j:Nat) (x:List UInt8),l[j]?=D x->∃ b,cs[j]?=D (.str b x):=by
 induction cs generalizing l with
 | nil=>injection h with h;subst h;exact⟨rfl,λj x hx=>by simp at hx⟩
 | cons v r ih =>
   unfold strCells at h;split at h
   ·cases ‹_::_=[]›
   ·rename_i b s r' e;injection e with e1 e2;subst e1;subst e2;split at h
    ·rename_i l' hl;injection h with h;subst h;obtain⟨g1,g2⟩:=ih hl;refine⟨by simp[g1],λj x hx=> ?_⟩;cases j with
     | zero=>injection hx with hx;subst hx;exact⟨b,rfl⟩
     | succ j=>exact g2 j x (by simpa using hx)
    ·cases h
   ·cases h
def ME (m:Mem):SV->Option (Prop×List (List UInt8))
 | .aP=>D (True,[])
 | .slc key o n _ c=>(match m.get key with
   | some (.cells cs _ _)=>(match strCells ((cs.drop o).take n)with
     | some l=>D (l.length=n/\n<=c,l)
     | none=>H)
   | _=>H)
 | .bx key 1 _ i n c=>(match m.get key with
   | some (.rows _ n' [.str f] _ _ _)=>D (i+n<=n'/\n<=c,iF f i n)
   | _=>H)
 | .bH key 1 _ o i n c=>(match m.get key with
   | some (.view _ o' n' [.str f])=>D (o'=o/\i+n<=n'/\n<=c,iF f i n)
   | _=>H)
 | _=>H
theorem QV {Γ E m nx w}(h:aN Γ E m nx w){v:SV}{p:Prop}{l:List (List UInt8)}(hv:ME m v=D (p,l))(hp:p) :
  (∃ a c,l=[]/\v.val E=.slice a 0 c)∨(∃ k o c,v.val E=.slice (D ⟨k,o,H⟩) l.length c/\l.length<=c/\k<w.heap.size/\∀(j:Nat) x,l[j]?=D x->w.cell? ⟨k,o+j,H⟩=D (.string ⟨x.toArray⟩)):=by
 unfold ME at hv;split at hv
 ·injection hv with hv;injection hv with h1 h2;subst h2;exact .inl ⟨_,_,rfl,rfl⟩
 ·rename_i key o n cl c;split at hv
  ·rename_i cs tot ty hk;split at hv
   ·rename_i l' hl;injection hv with hv;injection hv with h1 h2;subst h1;subst h2;obtain⟨g1,g2⟩:=wv hl;obtain⟨ob,ho,ce,fr,rfl,_,h4,_⟩:=h.nU key _ hk rfl;refine .inr ⟨E key,o,c,by rw[hp.1];rfl,by omega,(b!.1 ho).1,λj x hx=> ?_⟩;obtain⟨b,hb⟩:=g2 j x hx;rw[cell_of ho];have hj:j<n:=by have:=(List.getElem?_eq_some_iff.1 hx).1;omega
    rw[List.getElem?_take_of_lt hj,List.getElem?_drop] at hb;exact h4 _ _ hb
   ·cases hv
  ·cases hv
 ·rename_i key z i n c;split at hv
  ·rename_i z' n' f ro tot ty hk;injection hv with hv;injection hv with h1 h2;subst h1;subst h2;cases n with
   | zero=>exact .inl ⟨_,_,rfl,rfl⟩
   | succ n =>
     obtain⟨ob,ho,ce,fr,rfl,_,_,_,h4⟩:=h.nU key _ hk (SB.iN (i:=0) (by omega));refine .inr ⟨E key,i,c,?_,by rw[oD];exact hp.2,(b!.1 ho).1,λj x hx=> ?_⟩
     ·rw[oD];cases z<;>simp[SV.val,show Nat.beq (n+1) 0=u from rfl]
     ·obtain⟨hj,hx⟩:=Jw hx;rw[cell_of ho];have:=h4 (i+j) 0 (.str f) (by omega) rfl;simpa [ak.at,SV.val,hx] using this
  ·cases hv
 ·rename_i key z o i n c;split at hv
  ·rename_i z' o' n' f hk;injection hv with hv;injection hv with h1 h2;subst h1;subst h2;cases n with
   | zero=>exact .inl ⟨_,_,rfl,rfl⟩
   | succ n =>
     obtain⟨ob,ho,ce,ty,fr,rfl,h4⟩:=h.nU key _ hk (SB.Ab (i:=0) (by omega));refine .inr ⟨E key,o+i,c,?_,by rw[oD];exact hp.2.2,(b!.1 ho).1,λj x hx=> ?_⟩
     ·rw[oD];cases z<;>simp[SV.val,show Nat.beq (n+1) 0=u from rfl]
     ·obtain⟨hj,hx⟩:=Jw hx;rw[cell_of ho];have:=h4 (i+j) 0 (.str f) (by omega) rfl;obtain⟨rfl,_⟩:=hp;simpa [ak.at,SV.val,hx,Nat.add_assoc] using this
  ·cases hv
 ·cases hv
noncomputable def xA:PT:=λargs m nx K=>match args with
 | [v,.str _ []]=>(match ME m v with
   | some (p,l)=>.and (.atom (p/\l.length<=140737488355328/\(flat l).length<=140737488355328)) (K (.str u (flat l)) m nx)
   | none=>.fail "texts that are not known")
 | _=>.fail "a separator"
theorem yZ:aT xA:=by
 intro args m nx K K' hK h;unfold xA at h ⊢;split at h
 ·split at h
  ·rename_i p l hl;exact⟨h.1,hK _ _ _ h.2⟩
  ·exact h.elim
 ·exact h.elim
theorem xB: ∀ l:List (List UInt8),Lib.join l []=flat l
 | []=>rfl
 | [x]=>by simp[Lib.join,flat,eC]
 | x::y::r=>by have:=xB (y::r);simp[Lib.join,flat,eC] at this ⊢;rw[this]
theorem NQ:av J 116 xA:=by
 intro args m nx K hk hwf hargs Γ E w hs;unfold xA at hk;split at hk
 ·rename_i v b;split at hk
  ·rename_i p l hl;obtain⟨⟨hp,h1,h2⟩,hk⟩:=hk;have hc:Calls J 116 (SV.vals E [v,.str b []]).toArray w λe w'=>e=.returned (.string ⟨(flat l).toArray⟩)/\RowKit.Below w.heap.size w w':=by
    rw[← Xn];rcases QV hs hl hp with ⟨a,c,rfl,hv⟩ | ⟨k,o,c,hv,g1,g2,g3⟩
    ·simp only[SV.vals,hv,SV.val];exact(Any.strings_Join_none Tryz.Ip Tryz.extra a c _ w).mono λe w' ⟨he,hw⟩=>⟨he,hw▸ RowKit.Below.refl _ _⟩
    ·simp only[SV.vals,hv,SV.val];have:=Any.strings_Join Tryz.Ip Tryz.extra k o c (l.map λx=>⟨x.toArray⟩) ⟨#[]⟩ w (λj x hx=>by
      rw[dV] at hx;cases hj:l[j]? with
      | none=>rw[hj] at hx;cases hx
      | some y=>rw[hj] at hx;injection hx with hx;subst hx;exact g3 j y hj) g2 (by simpa using h1) (by simpa using g1) (by
      simp only[eN];have:(l.map ((λx:ByteArray=>x.data.toList)∘ λx=>(⟨x.toArray⟩:ByteArray)))=l:=by
       rw[show((λx:ByteArray=>x.data.toList)∘ λx:List UInt8=>(⟨x.toArray⟩:ByteArray))=id from by funext x;simp]
       simp
      rw[this];show(Lib.join l []).length<=_;rw[xB];exact h2)
     rw[eM] at this;refine this.mono λe w' ⟨he,hw⟩=>⟨?_,hw⟩
     rw[he,eN];have:(l.map ((λx:ByteArray=>x.data.toList)∘ λx=>(⟨x.toArray⟩:ByteArray)))=l:=by
      rw[show((λx:ByteArray=>x.data.toList)∘ λx:List UInt8=>(⟨x.toArray⟩:ByteArray))=id from by funext x;simp]
      simp
     rw[this];rw[← xB]
   refine gy eu (by kernel_rfl) (by kernel_rfl) (hc.mono ?_);rintro e w' ⟨rfl,hb⟩;exact⟨_,rfl,E,D (.str u (flat l)),m,nx,λ_ _=>rfl,Nat.le_refl _,λx hx=>by injection hx with hx;subst hx;rfl,hs.still (Ext.UF hb),hk⟩
  ·exact hk.elim
 ·exact hk.elim
end Go.Proofs.YtoibaecagklkaaaGreatDoor
namespace Go.Proofs.YtoibaecagklkaaaGreatDoor
open Go Sx
set_option maxRecDepth 20000
noncomputable def Y9:List (FuncId×PT):=(116,xA)::Y8
theorem TZ:bt J (λf=>aD f Y9):=.cons NQ yZ TY
def aZ (s:List UInt8):Nat->List UInt8
 | 0=>s
 | k+1=>aF (aZ s k)
def uo (s:List UInt8):List UInt8:=s.take (s.length - (aF s).length)
def au (s:List UInt8)(k:Nat):List UInt8:=uo (aZ s k)
def scan:Nat->List UInt8->Nat×Bool
 | 0,s=>(0,C (s=[]))
 | f+1,s=>if s=[] then(0,A)else if bR s then((scan f (aF s)).1+1,(scan f (aF s)).2)else(0,u)
def bQ (s:List UInt8):Nat:=(scan s.length s).1
def dX (s:List UInt8):Bool:=(scan s.length s).2
def Lm (s:List UInt8):cO:=.fork (dX s) λb=>match b with
 | true=>.all Nat λc=>.req (bQ s<=c) (.new (λk=>.aO [.bx k 1 A 0 (bQ s) c,.int .i64 A 0]) (.rows A (bQ s) [.str (au s)] u c 9))
 | false=>.ret (.aO [.aP,.int .i64 A 2])
structure He where
 k:Nat
 c:Nat
structure zJ (s:List UInt8)(x:He):Prop where
 walk: ∀ j,j<x.k->aZ s j≠[]/\bR (aZ s j)=A
 cap:x.k<=x.c
noncomputable def RH (s:List UInt8):bg :=
 {α:=He,pre:=λ_ x=>zJ s x,kY:=λ_ x=>(aZ s x.k).length,fresh:=1,slots:=λ_ x=>[(3,.str u (aZ s x.k))],
  mem:=λst x=>[(2,.cells [.bx st.nx 1 A 0 x.k x.c] 1 29),(st.nx,.rows A x.k [.str (au s)] u x.c 9)]}
noncomputable def ZZ (s:List UInt8):fQ:={cv with cQ:=λf=>aD f Y9,bD:=λf=>if f=214 then [(1,always (RH s))] else []}
theorem acs (s:List UInt8):Sx.Good J (ZZ s):=.of bX TZ bw
theorem Yu (s:List UInt8):VC.holds (gG (ZZ s) 165 cy [.str u s] (Lm s))=((∀(u8:Loop),(∃(u7:He),zJ s u7/\s=aZ s u7.k/\(1:Nat)=(1:Nat)/\u7.k=0/\(SB.rows A u7.k [ak.str (au s)] u u7.c 9).no=A/\aa (SB.loop a! H u8) (SB.loop a! H u8)/\aa (SB.cells (SV.str u s).cells 1 9) (SB.cells (SV.str u s).cells 1 9)/\aa (SB.cells (SV.int .i64 A 0).cells 1 30) (SB.cells (SV.int .i64 A 0).cells 1 30)/\aa (SB.cells SV.aP.cells 1 29) (SB.cells SV.aP.cells 1 29)/\True)/\∀(u6:He),zJ s u6->((!decide (aZ s u6.k=[]))=A->(aZ s u6.k).length<9223372036854775808/\(bR (aZ s u6.k)=A->((-9223372036854775808:Int)<=(↑(aZ s u6.k).length:Int) - (↑(aF (aZ s u6.k)).length:Int)/\(↑(aZ s u6.k).length:Int) - (↑(aF (aZ s u6.k)).length:Int)<=9223372036854775807)/\((0:Int)<=(0:Int)/\0<=(↑(aZ s u6.k).length:Int) - (↑(aF (aZ s u6.k)).length:Int)/\(↑(aZ s u6.k).length:Int) - (↑(aF (aZ s u6.k)).length:Int)<=(↑(aZ s u6.k).length:Int))/\u8=u8/\(0+u6.k<=u6.k/\True/\2*(u6.k+1)*16<=(281474976710656:Nat) /\u6.k+1<(9223372036854775808:Nat))/\u6.c=u6.c*1/\∀(u5:Nat),u6.k+1<=u5->∃(u4:He),(zJ s u4/\(aZ s u4.k).length<(aZ s u6.k).length)/\aF (aZ s u6.k)=aZ s u4.k/\(1:Nat)=(1:Nat)/\((0:Nat)=(0:Nat)/\u6.k+1=u4.k/\u5=u4.c)/\True/\aa (SB.rows A (u6.k+1) [ak.str λu3=>if u3<u6.k then au s u3 else bT [bO (aZ s u6.k) H (D (L 37)) 0 ((↑(aZ s u6.k).length:Int) - (↑(aF (aZ s u6.k)).length:Int))] (u3 - u6.k)] u (u5*1) 9) (SB.rows A u4.k [ak.str (au s)] u u4.c 9)/\aa (SB.loop a! H u8) (SB.loop a! H u8)/\aa (SB.cells (SV.str u s).cells 1 9) (SB.cells (SV.str u s).cells 1 9)/\aa (SB.cells (SV.int .i64 A 0).cells 1 30) (SB.cells (SV.int .i64 A 0).cells 1 30)/\aa (SB.cells SV.aP.cells 1 29) (SB.cells SV.aP.cells 1 29)/\True)/\(bR (aZ s u6.k)=u->∀(_:Int),((-9223372036854775808:Int)<=(s.length:Int) - (↑(aZ s u6.k).length:Int)/\(s.length:Int) - (↑(aZ s u6.k).length:Int)<=9223372036854775807)/\u8=u8/\(dX s=A ->∃(u1:Nat),bQ s<=u1/\False)/\(dX s=u->af (SV.aO [SV.aP,SV.int .i64 A 2]) (SV.aO [SV.aP,SV.int .i64 A 2]))))/\((!decide (aZ s u6.k=[]))=u->(dX s=A->∃(u0:Nat),bQ s<=u0/\aa (SB.rows A u6.k [ak.str (au s)] u u6.c 9) (SB.rows A (bQ s) [ak.str (au s)] u u0 9)/\af (SV.aO [SV.bx ((5:Nat)) 1 A 0 u6.k u6.c,SV.int .i64 A 0]) (SV.aO [SV.bx ((5:Nat)) 1 A 0 (bQ s) u0,SV.int .i64 A 0]))/\(dX s=u->af (SV.aO [SV.bx ((5:Nat)) 1 A 0 u6.k u6.c,SV.int .i64 A 0]) (SV.aO [SV.aP,SV.int .i64 A 2]))))):=by kernel_rfl
theorem F3 {s:List UInt8}(h: ¬ ah s 0<128):0<=lead s:=by unfold lead;split<;>omega
theorem AK {s:List UInt8}(h:bR s=A):(aF s).length<s.length:=by
 obtain⟨h0,h⟩:=fB.1 h;have hl:=Y.2 h0;by_cases hA:ah s 0<128
 ·rw[(lO hA).2.2,d!];omega
 ·have g:=F3 hA;by_cases hL:55<lead s
  ·have:=sK s (lead s - 54);rw[(l9 hA hL).2,d!];omega
  ·rw[(oY hA hL).2,d!];omega
theorem EL: ∀(f f':Nat) (s:List UInt8),s.length<=f->s.length<=f'->scan f s=scan f' s
 | 0,0,_,_,_=>rfl
 | 0,f'+1,s,h,_=>by have:s=[]:=X.1 (by omega);subst this;rfl
 | f+1,0,s,_,h=>by have:s=[]:=X.1 (by omega);subst this;rfl
 | f+1,f'+1,s,h,h'=>by
   simp only[scan];split
   ·rfl
   ·split
    ·rename_i hc;have:=AK hc;rw[EL f f' (aF s) (by omega) (by omega)]
    ·rfl
theorem jQ:dX []=A/\bQ []=0:=⟨rfl,rfl⟩
theorem xz {s:List UInt8}(h0:s≠[])(h:bR s=A):dX s=dX (aF s)/\bQ s=bQ (aF s)+1:=by
 have hl:=AK h;unfold dX bQ;obtain⟨n,hn⟩: ∃ n,s.length=n+1:=⟨s.length - 1,by omega⟩
 rw[hn];simp only[scan,h0,h,if_true,if_false];rw[EL n (aF s).length (aF s) (by omega) (by omega)];exact⟨rfl,rfl⟩
theorem DS {s:List UInt8}(h0:s≠[])(h:bR s=u):dX s=false:=by
 have hl:=Y.2 h0;unfold dX;obtain⟨n,hn⟩: ∃ n,s.length=n+1:=⟨s.length - 1,by omega⟩
 rw[hn];simp[scan,h0,h]
theorem kS (s:List UInt8): ∀ k,aZ s (k+1)=aZ (aF s) k
 | 0=>by simp only[aZ]
 | k+1=>by rw[aZ,kS s k];simp only[aZ]
def Walk (s:List UInt8)(k:Nat):Prop:=∀ j,j<k->aZ s j≠[]/\bR (aZ s j)=A
theorem Walk.len {s:List UInt8}: ∀ {k:Nat},Walk s k->(aZ s k).length+k<=s.length
 | 0,_=>by simp[aZ]
 | k+1,h=>by have h1:=Walk.len (k:=k) (λj hj=>h j (by omega));have h2:=AK (h k (by omega)).2;simp only[aZ];omega
theorem Walk.tail {s:List UInt8}{k:Nat}(h:Walk s (k+1)):Walk (aF s) k:=λj hj=>by rw[← kS];exact h (j+1) (by omega)
theorem Walk.items {s:List UInt8}: ∀ {k:Nat},Walk s k->dX s=dX (aZ s k)/\bQ s=bQ (aZ s k)+k
 | 0,_=>⟨rfl,rfl⟩
 | k+1,h=>by obtain⟨h0,h1⟩:=h 0 (by omega);obtain⟨g1,g2⟩:=xz (s:=s) h0 h1;obtain⟨g3,g4⟩:=Walk.items h.tail;rw[kS,g1,g2,g3,g4];exact⟨rfl,by omega⟩
theorem Walk.snoc {s:List UInt8}{k:Nat}(h:Walk s k)(h0:aZ s k≠[])(h1:bR (aZ s k)=A):Walk s (k+1):=λj hj=>by
 by_cases e:j=k
 ·subst e;exact⟨h0,h1⟩
 ·exact h j (by omega)
theorem Sx.aa.EJ {z:Bool}{n n':Nat}{ax cols':List ak}{tot tot':Nat}{ty:TypeId}(hn:n=n')(ht:tot=tot')(hl:ax.length=cols'.length)
  (h: ∀(i k:Nat) (c':ak),i<n->cols'[k]?=D c'->∃ c,ax[k]?=D c/\c.at i=c'.at i):aa (.rows z n ax u tot ty) (.rows z n' cols' u tot' ty):=by
 subst hn;subst ht;refine aa.of rfl rfl λhno=> ?_;refine⟨hno,λE o ⟨c,fr,h1,h2,h3,h4,h5⟩=>⟨c,fr,h1,h2,by rw[← hl];exact h3,h4,λi k col hi hk=> ?_⟩,λ_=>rfl⟩;obtain⟨c0,hc0,he⟩:=h i k col hi hk;rw[← he,← hl];exact h5 i k c0 hi hc0
theorem Sx.aa.sS {z:Bool}{n n':Nat}{f g:Nat->List UInt8}{tot tot':Nat}{ty:TypeId}(hn:n=n')(ht:tot=tot')(h: ∀ i,i<n->f i=g i):aa (.rows z n [.str f] u tot ty) (.rows z n' [.str g] u tot' ty):=by
 refine Sx.aa.EJ hn ht rfl λi k c' hi hk=>⟨.str f,?_,?_⟩
 ·match k,hk with
  | 0,_=>rfl
 ·match k,hk with
  | 0,hk =>simp only[List.getElem?_cons_zero,Option.some.injEq] at hk;subst hk;simp only[ak.at,h i hi]
theorem Ig {s:List UInt8}(hs:s.length<1099511627776):az (gG (ZZ s) 165 cy [.str u s] (Lm s)):=by
 refine az.of_eq (Yu s) ?_;intro R;refine⟨⟨⟨0,0⟩,⟨λj hj=>absurd hj (Nat.not_lt_zero _),Nat.le_refl _⟩,rfl,rfl,rfl,rfl,aa.refl _,aa.refl _,aa.refl _,aa.refl _,trivial⟩,λx hx=> ?_⟩;have hw:Walk s x.k:=hx.walk;have hl:=hw.len;obtain⟨i1,i2⟩:=hw.items;refine⟨λa=> ?_,λa=> ?_⟩
 ·have a:aZ s x.k≠[]:=by simpa using a
  refine⟨by omega,λb=> ?_,λb y=> ?_⟩
  ·have hlt:=AK b;refine⟨by omega,by omega,rfl,⟨by omega,trivial,by omega,by omega⟩,by omega,λc hc=>⟨⟨x.k+1,c⟩,⟨⟨hw.snoc a b,hc⟩,?_⟩,?_,rfl,⟨rfl,rfl,rfl⟩,trivial,?_,aa.refl _,aa.refl _,aa.refl _,aa.refl _,trivial⟩⟩
   ·simp only[aZ];exact hlt
   ·simp only[aZ]
   ·refine Sx.aa.sS rfl (Nat.mul_one c) λi hi=> ?_;by_cases h:i<x.k
    ·rw[if_pos h]
    ·rw[if_neg h];have e:i=x.k:=by omega
     subst e;simp only[Nat.sub_self,bT,bO,au,uo];rw[show((↑(aZ s x.k).length:Int) - (↑(aF (aZ s x.k)).length:Int)).toNat=(aZ s x.k).length - (aF (aZ s x.k)).length by omega];simp only[List.getD_cons_zero]
  ·have hb:=DS a b;rw[← i1] at hb;exact⟨by omega,rfl,(λh=>by rw[hb] at h;cases h),λ_ _=>rfl⟩
 ·have a:aZ s x.k=[]:=by simpa using a
  rw[a] at i1 i2;have n0:bQ s=x.k:=by rw[i2,jQ.2];omega
  have b0:dX s=true:=by rw[i1,jQ.1]
  refine⟨λ_=>⟨x.c,by rw[n0];exact hx.cap,?_,?_⟩,λh=>by rw[b0] at h;cases h⟩
  ·rw[n0];exact aa.refl _
  ·rw[n0];exact λ_=>rfl
def xy:List SV->Option (Prop×cO)
 | [.str u s]=>D (s.length<1099511627776,Lm s)
 | _=>H
noncomputable def Xm:PT:=cw xy
theorem TJ:av J 165 Xm:=by
 refine dW (n:=20) (fn:=cy) Tryz.func165 (by kernel_rfl) (by kernel_rfl) ?_;intro args p a h hp;unfold xy at h;split at h
 ·rename_i s;injection h with h;injection h with h1 h2;subst h1;subst h2;refine⟨_,acs s,rfl,λb=> ?_,Ig hp⟩;cases b with
  | false=>exact rfl
  | true =>
    intro c;refine⟨rfl,rfl,λk=>by simp[SV.wf,SV.fO,Nat.blt_eq],λE E' k k' h=> ?_⟩;cases hn:bQ s with
    | zero=>rfl
    | succ n =>rw[hn] at h;have hk:E k=E' k':=h rfl;simp[SV.val,SV.vals,hk]
 ·cases h
end Go.Proofs.YtoibaecagklkaaaGreatDoor
namespace Go.Proofs.YtoibaecagklkaaaGreatDoor.Sx
open Go
def aaZ:SV->SV
 | .int k _ n=>.int k A n
 | .bool _ b=>.bool A b
 | .str _ s=>.str A s
 | v=>v
def Ud:SV->SV
 | .agg cs=>.agg (cs.map aaZ)
 | v=>aaZ v
def lit:SV->SV
 | .aO vs=>.aO (vs.map Ud)
 | v=>Ud v
theorem oJ {f:SV->SV}{E:Nat->Nat}(hf: ∀ v,(f v).val E=v.val E): ∀ l:List SV,SV.vals E (l.map f)=SV.vals E l
 | []=>rfl
 | v::r=>by simp only[List.map_cons,SV.vals,hf,oJ hf r]
theorem ID (E:Nat->Nat)(v:SV):(aaZ v).val E=v.val E:=by cases v<;>rfl
theorem Ue (E:Nat->Nat)(v:SV):(Ud v).val E=v.val E:=by cases v<;>first | rfl | simp only[Ud,SV.val,oJ (ID E)]
theorem z7 (E:Nat->Nat)(v:SV):(lit v).val E=v.val E:=by cases v<;>first | rfl | simp only[lit,Ud,SV.val,oJ (ID E),oJ (Ue E)]
def TH:SV->Bool
 | .int _ l _=>l
 | .bool l _=>l
 | .str l _=>l
 | _=>u
def isLit:SV->Bool
 | .agg cs=>cs.all TH
 | v=>TH v
def Ap:List SV->Bool
 | []=>A
 | v::r=>isLit v&&Ap r
def rC (ax:List ak)(i:Nat):Nat->List SV
 | 0=>[]
 | n+1=>ax.map (λc=>lit (c.at i))++rC ax (i+1) n
theorem vY {ax:List ak}: ∀ {n i0 j:Nat} {v:SV},(rC ax i0 n)[j]?=D v->∃ i k col,j=i*ax.length+k/\i<n/\ax[k]?=D col/\v=lit (col.at (i0+i))
 | 0,_,_,_,h=>by simp[rC] at h
 | n+1,i0,j,v,h=>by
   simp only[rC] at h;by_cases hj:j<ax.length
   ·rw[eA (by simpa using hj),dV] at h;cases hc:ax[j]? with
    | none=>rw[hc] at h;cases h
    | some c=>rw[hc] at h;injection h with h;exact⟨0,j,c,by simp,by omega,hc,h.symm⟩
   ·rw[List.getElem?_append_right (by simpa using hj)] at h;obtain⟨i,k,col,h1,h2,h3,h4⟩:=vY h;simp only[eM] at h1;refine⟨i+1,k,col,by rw[Nat.add_mul];omega,by omega,h3,?_⟩;rw[h4];congr 2;omega
def Z5:SB->SB
 | .rows A 0 ax ro tot ty=>.rows A 0 ax ro tot ty
 | .rows _z n ax u tot ty=>.cells (rC ax 0 n) tot ty
 | B=>B
def ND:SV->SV
 | .bx _ _ A _ 0 _=>.aP
 | .bx k _ _ 0 n c=>.slc k 0 n u c
 | v=>v
def NF:SV->SV
 | .agg cs=>.agg (cs.map ND)
 | v=>ND v
def W7:SV->SV
 | .aO vs=>.aO (vs.map NF)
 | v=>NF v
theorem W6 (B:SB):aa B (Z5 B):=by
 unfold Z5;split
 ·exact aa.refl _
 ·rename_i z n ax tot ty hne;refine aa.of rfl rfl λ_=> ?_;have hno:(SB.rows z n ax u tot ty).no=false:=by
   cases z with
   | false=>rfl
   | true =>
     cases n with
     | zero=>exact(hne rfl rfl).elim
     | succ n=>rfl
  refine⟨hno,λE o ⟨c,fr,h1,h2,h3,h4,h5⟩=>⟨c,fr,h1,h2 rfl,λj v hv=> ?_,h4⟩,λ_=>rfl⟩;obtain⟨i,k,col,g1,g2,g3,g4⟩:=vY hv;rw[g4,z7,Nat.zero_add,g1];exact h5 i k col g2 g3
 ·exact aa.refl _
theorem DG (E:Nat->Nat)(v:SV):(ND v).val E=v.val E:=by
 unfold ND;split
 ·rfl
 ·rename_i k w z n c hne;have hz:(z&&Nat.beq n 0)=false:=by
   cases z with
   | false=>rfl
   | true =>
     cases n with
     | zero=>exact(hne rfl rfl).elim
     | succ n=>rfl
  simp[SV.val,hz]
 ·rfl
theorem DH (E:Nat->Nat)(v:SV):(NF v).val E=v.val E:=by
 unfold NF;split
 ·simp only[SV.val,oJ (DG E)]
 ·exact DG E _
theorem Ta (E:Nat->Nat)(v:SV):(W7 v).val E=v.val E:=by
 unfold W7;split
 ·simp only[SV.val,oJ (DH E)]
 ·exact DH E _
def cO.YJ (m:Mem)(nx:Nat)(K:SV->Mem->Nat->VC):cO->VC
 | .ret v=>K (lit v) m nx
 | .new v B=>K (lit (W7 (v nx))) ((nx,Z5 B)::m) (nx+1)
 | .all α f=>.all α λx=>(f x).YJ m nx K
 | .req p a=>.imp p (a.YJ m nx K)
 | .fork b f=>match b with
   | true=>(f A).YJ m nx K
   | false=>(f u).YJ m nx K
def abu (Γ:br)(E:Nat->Nat)(nx:Nat)(K:SV->Mem->Nat->VC):SV->Mem->Nat->VC:=λv m' nx' =>.atom (∀(E':Nat->Nat) (w':World),(∀ k,k<nx->E' k=E k)->nx<=nx'->aN Γ E' m' nx' w'->bC (lift K) Γ E nx (v.val E') w')
theorem cO.nu {Γ:br}{E:Nat->Nat}{m:Mem}{nx:Nat}{K:SV->Mem->Nat->VC}: ∀ {a:cO},(a.YJ m nx K).holds->(a.vc m nx (abu Γ E nx K)).holds
 | .ret v,h=>λE' w' h1 h2 hs=>⟨E',D (lit v),m,nx,h1,h2,λx hx=>by injection hx with hx;subst hx;rw[z7],hs,h⟩
 | .new v B,h=>λE' w' h1 h2 hs=>⟨E',D (lit (W7 (v nx))),_,nx+1,h1,h2,λx hx=>by injection hx with hx;subst hx;rw[z7,Ta],hs.J7 (W6 B),h⟩
 | .all _ f,h=>λx=>cO.nu (a:=f x) (h x)
 | .req _ a,h=>λx=>cO.nu (a:=a) (h x)
 | .fork b f,h=>cH.2 (by
    cases b with
    | true=>exact cO.nu (a:=f A) h
    | false=>exact cO.nu (a:=f u) h)
theorem cO.oL {m:Mem}{nx:Nat}{K K':SV->Mem->Nat->VC}(hK: ∀ v m nx,(K v m nx).holds->(K' v m nx).holds): ∀ {a:cO},(a.YJ m nx K).holds->(a.YJ m nx K').holds
 | .ret _,h=>hK _ _ _ h
 | .new _ _,h=>hK _ _ _ h
 | .all _ f,h=>λx=>cO.oL (a:=f x) hK (h x)
 | .req _ a,h=>λx=>cO.oL (a:=a) hK (h x)
 | .fork b f,h=>by
   cases b with
   | true=>exact cO.oL (a:=f A) hK h
   | false=>exact cO.oL (a:=f u) hK h
noncomputable def qw (spec:List SV->Option (Prop×cO)):PT:=λargs m nx K=>match Ap args with
 | true=>(match spec (args.map CI)with
   | some (p,a)=>.and (.atom p) (a.YJ m nx K)
   | none=>.fail "arguments that nothing is said of")
 | false=>cw spec args m nx K
theorem mT (spec:List SV->Option (Prop×cO)):aT (qw spec):=by
 intro args m nx K K' hK h;unfold qw at h ⊢;split at h
 ·split at h
  ·exact⟨h.1,cO.oL hK h.2⟩
  ·exact h
 ·exact b6 spec _ _ _ _ _ hK h
theorem bC.Zg {Γ:br}{E:Nat->Nat}{nx:Nat}{r:Value}{w:World}{K:SV->Mem->Nat->VC}(h:bC (lift (λv m nx=>K (lit v) m nx)) Γ E nx r w):bC (lift K) Γ E nx r w:=by
 obtain⟨E',sv,m',nx',h1,h2,h3,h4,h5⟩:=h;cases sv with
 | none=>exact h5.elim
 | some v=>exact⟨E',D (lit v),m',nx',h1,h2,λx hx=>by injection hx with hx;subst hx;rw[z7];exact h3 v rfl,h4,h5⟩
theorem zK {P:Program}{f:FuncId}{spec:List SV->Option (Prop×cO)}(h:av P f (cw spec)):av P f (qw spec):=by
 intro args m nx K hk hwf hargs Γ E w hs;unfold qw at hk;split at hk
 ·have:(cw spec args m nx (abu Γ E nx K)).holds:=by
   unfold cw;split at hk
   ·rename_i p a hsp
    first
     | exact⟨hk.1,cO.nu hk.2⟩
     | (rw[hsp];exact⟨hk.1,cO.nu hk.2⟩)
   ·exact hk.elim
  refine(h args m nx _ this hwf hargs Γ E w hs).mono (λe w' hh=> ?_) (λ_ _ h=>h);obtain⟨E',sv,m',nx',h1,h2,h3,h4,h5⟩:=hh;cases sv with
  | none=>exact h5.elim
  | some v=>rw[h3 v rfl];exact h5 E' w' h1 h2 h4
 ·exact h args m nx K hk hwf hargs Γ E w hs
noncomputable def pR (spec:List SV->Option (Prop×SV)):PT:=λargs m nx K=>match Ap args with
 | true=>bh spec args m nx (λv m nx=>K (lit v) m nx)
 | false=>bh spec args m nx K
theorem pS (spec:List SV->Option (Prop×SV)):aT (pR spec):=by
 intro args m nx K K' hK h;unfold pR at h ⊢;split at h
 ·exact aS spec _ _ _ _ _ (λv m nx=>hK _ _ _) h
 ·exact aS spec _ _ _ _ _ hK h
theorem B3 {P:Program}{f:FuncId}{spec:List SV->Option (Prop×SV)}(h:av P f (bh spec)):av P f (pR spec):=by
 intro args m nx K hk hwf hargs Γ E w hs;unfold pR at hk;split at hk
 ·exact(h args m nx _ hk hwf hargs Γ E w hs).mono (λe w' hh=>bC.Zg hh) (λ_ _ h=>h)
 ·exact h args m nx K hk hwf hargs Γ E w hs
def IE (t:List SV->Mem->Bool)(pt:PT):PT:=λargs m nx K=>match t args m with
 | true=>pt args m nx (λv m nx=>K (lit v) m nx)
 | false=>pt args m nx K
theorem LL {t:List SV->Mem->Bool}{pt:PT}(h:aT pt):aT (IE t pt):=by
 intro args m nx K K' hK hh;unfold IE at hh ⊢;split at hh
 ·exact h _ _ _ _ _ (λv m nx=>hK _ _ _) hh
 ·exact h _ _ _ _ _ hK hh
theorem Ug {P:Program}{f:FuncId}{t:List SV->Mem->Bool}{pt:PT}(h:av P f pt):av P f (IE t pt):=by
 intro args m nx K hk hwf hargs Γ E w hs;unfold IE at hk;split at hk
 ·exact(h args m nx _ hk hwf hargs Γ E w hs).mono (λe w' hh=>bC.Zg hh) (λ_ _ h=>h)
 ·exact h args m nx K hk hwf hargs Γ E w hs
def Uf (m:Mem):SV->Bool
 | .aP=>A
 | .slc key o n _ _=>(match m.get key with
   | some (.cells cs _ _)=>Ap ((cs.drop o).take n)
   | _=>u)
 | _=>u
end Go.Proofs.YtoibaecagklkaaaGreatDoor.Sx
namespace Go.Proofs.YtoibaecagklkaaaGreatDoor
open Go Sx
set_option maxRecDepth 20000
noncomputable def Bx:List (FuncId×PT) :=
 (165,qw xy)::(116,IE (λargs m=>Uf m (args.headD .bW)) xA)::(124,qw FQ)::(71,pR Gv) ::
 (69,pR CD)::(166,qw yh)::(198,qw Fy)::(115,pR A7)::gX
theorem oe:bt J (λf=>aD f Bx) :=
 .cons (zK TJ) (mT _) (.cons (Ug NQ) (LL yZ) (.cons (zK Tj) (mT _) (.cons (B3 UD) (pS _)
  (.cons (B3 OC) (pS _) (.cons (zK JT) (mT _) (.cons (zK SW) (mT _) (.cons (B3 NN) (pS _) eZ)))))))
noncomputable def acm:fQ:={cv with cQ:=λf=>aD f Bx,rounds:=4}
theorem acq:Sx.Good J acm:=.of bX oe bw
theorem kq {x y:List UInt8}{i:Int}(h0:0<=i)(h:i<x.length):ah (x++y) i=ah x i:=by unfold ah;rw[dG,dG,eA (by omega)]
theorem i5 (b:UInt8)(l:List UInt8):ah (b::l) 0=(b.toNat:Int):=rfl
theorem ve (b c:UInt8)(l:List UInt8):ah (b::c::l) 1=(c.toNat:Int):=rfl
theorem ofNat_toNat {n:Int}(h0:0<=n)(h:n<256):((V n.toNat).toNat:Int)=n:=by rw[UInt8.toNat_ofNat'];omega
theorem qH {k:Nat}{n:Int}(h:n<=0):CY k n=[]:=by
 cases k with
 | zero=>rfl
 | succ k=>unfold CY;rw[if_neg (by omega)]
theorem zP {k:Nat}{n:Int}(h:0<n):CY (k+1) n=CY k (n / 256)++[V (n% 256).toNat]:=by
 conv=>lhs;unfold CY
 rw[if_pos h]
theorem Nt: ∀(k:Nat) (n:Int),0<=n->n<256^ k->num (CY k n)=n
 | 0,n,h0,h=>by
   have:n=0:=by simp at h;omega
   subst this;rfl
 | k+1,n,h0,h=>by
   by_cases hp:0<n
   ·rw[b_] at h;rw[zP hp,ou,Nt k (n / 256) (by omega) (by omega),ofNat_toNat (by omega) (by omega)];omega
   ·have:n=0:=by omega
    subst this;rw[qH (bf _)];rfl
theorem qC {x:List UInt8}{b:UInt8}(h:x≠[]):ah (x++[b]) 0=ah x 0:=by have:=Y.2 h;exact kq (bf _) (by omega)
theorem HG: ∀(k:Nat) (n:Int),0<n->n<256^ k->CY k n≠[]/\ah (CY k n) 0≠0
 | 0,n,h0,h=>by simp at h;omega
 | k+1,n,h0,h=>by
   rw[b_] at h;rw[zP h0];refine⟨by simp,?_⟩;by_cases hp:0<n / 256
   ·obtain⟨h1,h2⟩:=HG k (n / 256) hp (by omega);rw[qC h1];exact h2
   ·rw[qH (by omega),ef,i5,ofNat_toNat (by omega) (by omega)];omega
theorem Jc: ∀(n:Nat) (l:List UInt8),l.length<=n->ah l 0≠0->0<num l
 | 0,l,hn,h=>by have:l=[]:=X.1 (by omega);subst this;exact absurd rfl h
 | n+1,l,hn,h=>by
   rcases c! l with rfl | ⟨r,b,rfl⟩
   ·exact absurd rfl h
   ·rw[c_] at h hn ⊢;rw[ou];by_cases hr:r=[]
    ·subst hr;rw[ef,i5] at h;have:num []=0:=rfl;rw[this];omega
    ·rw[qC hr] at h;have h2:=Jc n r (by simp at hn;omega) h;omega
theorem XM (l:List UInt8)(h:ah l 0≠0):0<num l:=Jc l.length l (Nat.le_refl _) h
theorem SX: ∀(k:Nat) (l:List UInt8),l.length<=k->(l=[]∨ah l 0≠0)->CY k (num l)=l
 | 0,l,h,_=>by have:l=[]:=X.1 (by omega);subst this;rfl
 | k+1,l,h,hl=>by
   rcases c! l with rfl | ⟨r,b,rfl⟩
   ·exact qH (bf _)
   ·rw[c_] at hl h ⊢;have hne:ah (r++[b]) 0≠0:=by
     rcases hl with hl | hl
     ·simp at hl
     ·exact hl
    have hp:=XM _ hne;have hb:=b.toNat_lt;rw[zP hp];rw[ou] at hp ⊢;have e1:(num r*256+(b.toNat:Int)) / 256=num r:=by omega
    have e2:((num r*256+(b.toNat:Int))% 256).toNat=b.toNat:=by omega
    rw[e1,e2,UInt8.ofNat_toNat];congr 1;refine SX k r (by simp at h;omega) ?_;by_cases hr:r=[]
    ·exact .inl hr
    ·rw[qC hr] at hne;exact .inr hne
theorem Dw: ∀(j k:Nat) (n:Int),n<256^ j->(CY k n).length<=j
 | 0,k,n,h=>by rw[qH (by simp at h;omega)];simp
 | j+1,0,n,h=>by simp[CY]
 | j+1,k+1,n,h=>by
   by_cases hp:0<n
   ·rw[b_] at h;rw[zP hp];have:=Dw j k (n / 256) (by omega);simp only[eL,d_,ec];omega
   ·rw[qH (by omega)];simp
theorem KV {n:Int}(h0:0<=n)(h:n<18446744073709551616):num (digits n)=n:=Nt 8 n h0 h
theorem HI {n:Int}(h0:0<n)(h:n<18446744073709551616):digits n≠[]/\ah (digits n) 0≠0:=HG 8 n h0 h
theorem Pa {l:List UInt8}(h:l.length<=8)(h2:l=[]∨ah l 0≠0):digits (num l)=l:=SX 8 l h h2
theorem FC {n:Int}(h:n<16777216):(digits n).length<=3:=Dw 3 8 n h
end Go.Proofs.YtoibaecagklkaaaGreatDoor
