/-
  Conditions that the executor computes, written out by a program (vcgen.py).
-/
import Derived.Test.YtoibaecagklkaaaGreatDoorMj
import Derived.Test.YtoibaecagklkaaaGreatDoorProg
import Derived.Shelf.Strings.OnBuilder
open And renaming intro->O
open Array renaming getElem?_eq_some_iff->b6
open Bool renaming and_eq_false_iff->ei,and_eq_true->ej,eq_iff_iff->ag,false->u,false_and->an,false_eq_true->M,not_eq_false'->ek,not_eq_true'->en,true->A,true_and->a_,true_eq_false->N
open Decidable renaming decide->H
open Go.IntKind renaming i64->S,u64->a!
open Go.LoopState renaming ready->bl
open Go.Operand renaming const->ep,tmp->L
open Go.Proofs.Tryz renaming f115->b9,f124->b_,f165->b!,f166->cx,f198->cB,f69->cL,f71->er,func116->eu,prog->J
open Int renaming le_refl->W,not_le->bn,not_lt->X,pow_succ->b5,toNat_natCast->ey
open List renaming concat_eq_append->c4,eq_nil_or_concat->c5,getD_eq_getElem?_getD->c6,getElem?_append_left->ez,getElem?_eq_getElem->eB,getElem?_map->c_,intercalate->eI,length_append->eK,length_cons->c!,length_drop->d_,length_eq_zero_iff->Y,length_map->eL,length_nil->d!,length_pos_iff->Z,map_map->eN,nil_append->ef,take->I
open Option renaming none->D,some->C
open UInt8 renaming ofNat->V
namespace Go.Proofs.YtoibaecagklkaaaGreatDoor
open Go Sx
set_option maxRecDepth 20000
theorem ab7 (base n:Int)(R:SV->Prop):VC.holds (cA Su 115 b9 [.int .u8 u base,.int .i64 u n] R)=(((H (n<=55)=A->R (SV.str (u&&A) [V ((base+n% 256)% 256).toNat]))/\(H (n<=55)=u->(0<=n% 18446744073709551616/\n% 18446744073709551616<(18446744073709551616:Int))/\(↑(1:Nat):Int)+(↑(digits (n% 18446744073709551616)).length:Int)<=9223372036854775807/\R (SV.str u (cat [V (((base+55)% 256+(↑(digits (n% 18446744073709551616)).length:Int)% 256)% 256).toNat] (digits (n% 18446744073709551616))))))):=by kernel_rfl
theorem ado (s:e_):VC.holds (dB Su 198 cB [.str u s] (aap s))=((λa:SV=>((λb:SV=>((λc:SV=>((λe:SV=>((λf:SV=>((λd:SB=>((Fk (s=[]) (Bk (bO s) (aa a b) (∃(g:Int),ah (SB.cells [SV.int .i64 A 0,SV.iface 30 (SV.int .i64 A 2)] 2 292) (SB.cells [SV.int .i64 u g,SV.iface 30 (SV.int .i64 A 2)] 2 292)/\aa a c)) (((0:Int)<=(0:Int)/\0<(s.length:Int))/\Fk (ai s 0<128) (((0:Int)<=(0:Int)/\(0:Int)<=(1:Int)/\1<=(s.length:Int))/\((0:Int)<=(1:Int)/\1<=(s.length:Int)/\(s.length:Int)<=(s.length:Int))/\Bk (bO s) (aa (SV.aD [SV.bool A u,SV.str (u&&A&&A) (aB s D (C (ep (Value.int S 1))) 0 1),SV.str (u&&A&&u) (aB s (C (ep (Value.int S 1))) D 1 (s.length:Int)),SV.aA]) b) (∃(_:Int),False)) (((0:Int)<=(0:Int)/\0<(s.length:Int))/\Fk (ai s 0<192) (((0:Int)<=(0:Int)/\0<(s.length:Int))/\I6 ((ai s 0 - 128)% 256) /\Fk (55<(ai s 0 - 128)% 256) (I6 (1+(ai s 0 - 128)% 256)/\I6 (1+(ai s 0 - 128)% 256 - (55:Int))/\((2:Int)<=1+(ai s 0 - 128)% 256 - (55:Int)/\1+(ai s 0 - 128)% 256 - (55:Int)<(100:Int))/\Bk (nP s (1+(ai s 0 - 128)% 256 - (55:Int))) (((-9223372036854775808:Int)<=(s.length:Int) - (1+(ai s 0 - 128)% 256 - (55:Int))/\(s.length:Int) - (1+(ai s 0 - 128)% 256 - (55:Int))<=9223372036854775807)/\Fk ((s.length:Int) - (1+(ai s 0 - 128)% 256 - (55:Int))<part s (1+(ai s 0 - 128)% 256 - (55:Int))) (Bk (bO s) (aa a b) (∃(h:Int),ah d (SB.cells [SV.int .i64 u h,SV.iface 30 (SV.int .i64 A 2)] 2 292)/\aa a c)) (Fk (part s (1+(ai s 0 - 128)% 256 - (55:Int))=1) (((0:Int)<=(1:Int)/\1<(s.length:Int))/\Fk (ai s 1<128) (Bk (bO s) (aa a b) (∃(i:Int),ah (SB.cells [SV.int .i64 A 1,SV.iface 30 (SV.int .i64 A 2)] 2 292) (SB.cells [SV.int .i64 u i,SV.iface 30 (SV.int .i64 A 2)] 2 292)/\aa a c)) (((-9223372036854775808:Int)<=1+(ai s 0 - 128)% 256 - 55+part s (1+(ai s 0 - 128)% 256 - (55:Int))/\1+(ai s 0 - 128)% 256 - 55+part s (1+(ai s 0 - 128)% 256 - (55:Int))<=9223372036854775807)/\((0:Int)<=1+(ai s 0 - 128)% 256 - (55:Int)/\1+(ai s 0 - 128)% 256 - (55:Int)<=1+(ai s 0 - 128)% 256 - 55+part s (1+(ai s 0 - 128)% 256 - (55:Int))/\1+(ai s 0 - 128)% 256 - 55+part s (1+(ai s 0 - 128)% 256 - (55:Int))<=(s.length:Int))/\((-9223372036854775808:Int)<=1+(ai s 0 - 128)% 256 - 55+part s (1+(ai s 0 - 128)% 256 - (55:Int)) /\1+(ai s 0 - 128)% 256 - 55+part s (1+(ai s 0 - 128)% 256 - (55:Int))<=9223372036854775807)/\((0:Int)<=1+(ai s 0 - 128)% 256 - 55+part s (1+(ai s 0 - 128)% 256 - (55:Int))/\1+(ai s 0 - 128)% 256 - 55+part s (1+(ai s 0 - 128)% 256 - (55:Int))<=(s.length:Int)/\(s.length:Int)<=(s.length:Int))/\Bk (bO s) (aa e b) (∃(_:Int),False))) (((-9223372036854775808:Int)<=1+(ai s 0 - 128)% 256 - 55+part s (1+(ai s 0 - 128)% 256 - (55:Int))/\1+(ai s 0 - 128)% 256 - 55+part s (1+(ai s 0 - 128)% 256 - (55:Int))<=9223372036854775807)/\((0:Int)<=1+(ai s 0 - 128)% 256 - (55:Int)/\1+(ai s 0 - 128)% 256 - (55:Int)<=1+(ai s 0 - 128)% 256 - 55+part s (1+(ai s 0 - 128)% 256 - (55:Int))/\1+(ai s 0 - 128)% 256 - 55+part s (1+(ai s 0 - 128)% 256 - (55:Int))<=(s.length:Int))/\((-9223372036854775808:Int)<=1+(ai s 0 - 128)% 256 - 55+part s (1+(ai s 0 - 128)% 256 - (55:Int)) /\1+(ai s 0 - 128)% 256 - 55+part s (1+(ai s 0 - 128)% 256 - (55:Int))<=9223372036854775807)/\((0:Int)<=1+(ai s 0 - 128)% 256 - 55+part s (1+(ai s 0 - 128)% 256 - (55:Int))/\1+(ai s 0 - 128)% 256 - 55+part s (1+(ai s 0 - 128)% 256 - (55:Int))<=(s.length:Int)/\(s.length:Int)<=(s.length:Int))/\Bk (bO s) (aa e b) (∃(_:Int),False)))) (∀(j:Int),Bk (bO s) (aa a b) (∃(k:Int),ah (SB.cells [SV.int .i64 u j,SV.iface 30 (SV.int .i64 A 2)] 2 292) (SB.cells [SV.int .i64 u k,SV.iface 30 (SV.int .i64 A 2)] 2 292)/\aa a c))) (I6 ((s.length:Int) - 1)/\Fk ((s.length:Int) - 1<(ai s 0 - 128)% 256) (Bk (bO s) (aa a b) (∃(l:Int),ah d (SB.cells [SV.int .i64 u l,SV.iface 30 (SV.int .i64 A 2)] 2 292)/\aa a c)) (Fk ((ai s 0 - 128)% 256=(1:Int)) (((0:Int)<=(1:Int)/\1<(s.length:Int))/\Fk (ai s 1<128) (Bk (bO s) (aa a b) (∃(m:Int),ah (SB.cells [SV.int .i64 A 1,SV.iface 30 (SV.int .i64 A 2)] 2 292) (SB.cells [SV.int .i64 u m,SV.iface 30 (SV.int .i64 A 2)] 2 292)/\aa a c)) (I6 (1+(ai s 0 - 128)% 256)/\((0:Int)<=(1:Int)/\(1:Int)<=1+(ai s 0 - 128)% 256/\1+(ai s 0 - 128)% 256<=(s.length:Int))/\I6 (1+(ai s 0 - 128)% 256)/\((0:Int)<=1+(ai s 0 - 128)% 256/\1+(ai s 0 - 128)% 256<=(s.length:Int)/\(s.length:Int)<=(s.length:Int))/\Bk (bO s) (aa f b) (∃(_:Int),False))) (((-9223372036854775808:Int)<=1+(ai s 0 - 128)% 256 /\1+(ai s 0 - 128)% 256<=(9223372036854775807:Int))/\((0:Int)<=(1:Int)/\(1:Int)<=1+(ai s 0 - 128)% 256/\1+(ai s 0 - 128)% 256<=(s.length:Int))/\I6 (1+(ai s 0 - 128)% 256)/\((0:Int)<=1+(ai s 0 - 128)% 256/\1+(ai s 0 - 128)% 256<=(s.length:Int)/\(s.length:Int)<=(s.length:Int))/\Bk (bO s) (aa f b) (∃(_:Int),False))))) (((0:Int)<=(0:Int)/\0<(s.length:Int))/\I6 ((ai s 0 - 192)% 256)/\Fk (55<(ai s 0 - 192)% 256) (I6 (1+(ai s 0 - 192)% 256)/\I6 (1+(ai s 0 - 192)% 256 - (55:Int))/\((2:Int)<=1+(ai s 0 - 192)% 256 - (55:Int)/\1+(ai s 0 - 192)% 256 - (55:Int)<(100:Int)) /\Bk (nP s (1+(ai s 0 - 192)% 256 - (55:Int))) (((-9223372036854775808:Int)<=(s.length:Int) - (1+(ai s 0 - 192)% 256 - (55:Int))/\(s.length:Int) - (1+(ai s 0 - 192)% 256 - (55:Int))<=9223372036854775807)/\Fk ((s.length:Int) - (1+(ai s 0 - 192)% 256 - (55:Int))<part s (1+(ai s 0 - 192)% 256 - (55:Int))) (Bk (bO s) (aa a b) (∃(n:Int),ah d (SB.cells [SV.int .i64 u n,SV.iface 30 (SV.int .i64 A 2)] 2 292)/\aa a c)) (((-9223372036854775808:Int)<=1+(ai s 0 - 192)% 256 - 55+part s (1+(ai s 0 - 192)% 256 - (55:Int))/\1+(ai s 0 - 192)% 256 - 55+part s (1+(ai s 0 - 192)% 256 - (55:Int))<=9223372036854775807)/\((0:Int)<=1+(ai s 0 - 192)% 256 - (55:Int)/\1+(ai s 0 - 192)% 256 - (55:Int)<=1+(ai s 0 - 192)% 256 - 55+part s (1+(ai s 0 - 192)% 256 - (55:Int)) /\1+(ai s 0 - 192)% 256 - 55+part s (1+(ai s 0 - 192)% 256 - (55:Int))<=(s.length:Int))/\((-9223372036854775808:Int)<=1+(ai s 0 - 192)% 256 - 55+part s (1+(ai s 0 - 192)% 256 - (55:Int))/\1+(ai s 0 - 192)% 256 - 55+part s (1+(ai s 0 - 192)% 256 - (55:Int))<=9223372036854775807)/\((0:Int)<=1+(ai s 0 - 192)% 256 - 55+part s (1+(ai s 0 - 192)% 256 - (55:Int))/\1+(ai s 0 - 192)% 256 - 55+part s (1+(ai s 0 - 192)% 256 - (55:Int))<=(s.length:Int)/\(s.length:Int)<=(s.length:Int))/\Bk (bO s) (aa (SV.aD [SV.bool (A&&A) (H ((192:Int)=(192:Int))),SV.str (u&&u&&u) (aB s (C (L 70)) (C (L 73)) (1+(ai s 0 - 192)% 256 - (55:Int)) (1+(ai s 0 - 192)% 256 - 55+part s (1+(ai s 0 - 192)% 256 - (55:Int)))),SV.str (u&&u&&u) (aB s (C (L 78)) D (1+(ai s 0 - 192)% 256 - 55+part s (1+(ai s 0 - 192)% 256 - (55:Int))) (s.length:Int)),SV.aA]) b) (∃(_:Int),False))) (∀(o:Int),Bk (bO s) (aa a b) (∃(u2:Int),ah (SB.cells [SV.int .i64 u o,SV.iface 30 (SV.int .i64 A 2)] 2 292) (SB.cells [SV.int .i64 u u2,SV.iface 30 (SV.int .i64 A 2)] 2 292)/\aa a c))) (I6 ((s.length:Int) - 1)/\Fk ((s.length:Int) - 1<(ai s 0 - 192)% 256) (Bk (bO s) (aa a b) (∃(p:Int),ah d (SB.cells [SV.int .i64 u p,SV.iface 30 (SV.int .i64 A 2)] 2 292)/\aa a c)) (I6 (1+(ai s 0 - 192)% 256)/\((0:Int)<=(1:Int)/\(1:Int)<=1+(ai s 0 - 192)% 256/\1+(ai s 0 - 192)% 256<=(s.length:Int))/\I6 (1+(ai s 0 - 192)% 256)/\((0:Int)<=1+(ai s 0 - 192)% 256 /\1+(ai s 0 - 192)% 256<=(s.length:Int)/\(s.length:Int)<=(s.length:Int))/\Bk (bO s) (aa (SV.aD [SV.bool (A&&A) (H ((192:Int)=(192:Int))),SV.str (u&&A&&u) (aB s (C (L 70)) (C (L 73)) 1 (1+(ai s 0 - 192)% 256)),SV.str (u&&u&&u) (aB s (C (L 78)) D (1+(ai s 0 - 192)% 256) (s.length:Int)),SV.aA]) b) (∃(_:Int),False))))))))) (SB.cells [SV.int .i64 u (s.length:Int),SV.iface 30 (SV.int .i64 A 2)] 2 292))) (SV.aD [SV.bool (A&&A) (H ((128:Int)=(192:Int))),SV.str (u&&A&&u) (aB s (C (L 70)) (C (L 73)) 1 (1+(ai s 0 - 128)% 256)),SV.str (u&&u&&u) (aB s (C (L 78)) D (1+(ai s 0 - 128)% 256) (s.length:Int)),SV.aA]))) (SV.aD [SV.bool (A&&A) (H ((128:Int)=(192:Int))),SV.str (u&&u&&u) (aB s (C (L 70)) (C (L 73)) (1+(ai s 0 - 128)% 256 - (55:Int)) (1+(ai s 0 - 128)% 256 - 55+part s (1+(ai s 0 - 128)% 256 - (55:Int)))),SV.str (u&&u&&u) (aB s (C (L 78)) D (1+(ai s 0 - 128)% 256 - 55+part s (1+(ai s 0 - 128)% 256 - (55:Int))) (s.length:Int)),SV.aA]))) (SV.aD ([SV.bool A u,SV.str A [],SV.str A []]++[SV.iface 290 (SV.ptr 0 A 0)])))) (SV.aD [SV.bool u (cy s),SV.str u (af s),SV.str u (aF s),SV.aA]))) (SV.aD [SV.bool A u,SV.str A [],SV.str A [],SV.iface 290 (SV.ptr 0 A 0)])):=by kernel_rfl
theorem vm {s:e_}(h:ai s 0<192):lead s=ai s 0 - 128:=if_pos h
theorem vl {s:e_}(h: ¬ ai s 0<192):lead s=ai s 0 - 192:=if_neg h
theorem eA {s:e_}:bO s=A↔s≠[]/\(ai s 0<128∨(¬ ai s 0<128/\55<lead s/\nP s (lead s - 54)=A/\part s (lead s - 54)<=s.length - (lead s - 54))∨(¬ ai s 0<128/\¬ 55<lead s/\lead s<=s.length - 1/\¬ (ai s 0<192/\lead s=1/\ai s 1<128))):=by
 unfold bO dH cutFrom;by_cases hA:ai s 0<128
 ·simp[hA]
 ·by_cases hL:55<lead s
  ·have:lead s≠1:=by omega
   simp[hA,hL,this]
  ·simp[hA,hL];intro _ _;omega
theorem Js {a a':Bool}{b b' c c':e_}{l1 l2 l3 l4 l5 l6:Bool}(h1:a=a')(h2:b=b')(h3:c=c'):aa (.aD [.bool l1 a,.str l2 b,.str l3 c,.aA]) (.aD [.bool l4 a',.str l5 b',.str l6 c',.aA]):=by subst h1;subst h2;subst h3;exact λ_=>rfl
theorem lC {s:e_}(h:ai s 0<128):cy s=u/\af s=s.take 1/\aF s=s.drop 1:=by refine⟨by simp[cy];omega,?_,?_⟩<;>simp[af,aF,cutFrom,dH,h]
theorem oH {s:e_}(h: ¬ ai s 0<128)(h2: ¬ 55<lead s):af s=(s.drop (1:Int).toNat).take (lead s).toNat/\aF s=s.drop (1+lead s).toNat:=by constructor<;>simp[af,aF,cutFrom,dH,h,h2]
theorem lQ {s:e_}(h: ¬ ai s 0<128)(h2:55<lead s):af s=(s.drop (lead s - 54).toNat).take (part s (lead s - 54)).toNat/\aF s=s.drop (lead s - 54+part s (lead s - 54)).toNat:=by constructor<;>simp[af,aF,cutFrom,dH,h,h2]
theorem O2 {s:e_}(hs:s.length<9223372036854775808):av (dB Su 198 cB [.str u s] (aap s)):=by
 refine av.gV (ado s) (by delta Bk Fk;exact rfl) ?_;have g0:=cg s 0;have g1:=cg s 1;have g2:=oY s (lead s - 54);by_cases h0:s=[]
 ·have hB:bO s=false:=by rw[Bool.eq_false_iff,ne_eq,eA];simp[h0]
  simp only[h0,decide_true,forall_const,N,false_imp_iff,and_true];rw[h0] at hB;simp only[hB,M,false_imp_iff,forall_const,true_and]
  (first | exact⟨_,ah.cells (λ_=>rfl) rfl,λ_=>rfl⟩ | exact λ_=>rfl | trivial)
 have hl:0<s.length:=Z.2 h0;by_cases hA:ai s 0<128
 ·have hB:bO s=true:=eA.2 ⟨h0,.inl hA⟩;obtain⟨k1,k2,k3⟩:=lC hA;simp only[h0,hA,hB,decide_true,decide_false,forall_const,N,M,false_imp_iff,and_true,true_and,aB];refine⟨by omega,by omega,by omega,?_⟩;exact Js k1.symm (by rw[k2];rfl) (by rw[k3];rfl)
 ·have e2:1+lead s - 55=lead s - 54:=by omega
  by_cases hC:ai s 0<192
  ·have e3:cy s=false:=by simp[cy];omega
   have e1:(ai s 0 - 128)% 256=lead s:=by rw[vm hC];omega
   have e4:=vm hC;by_cases hL:55<lead s
   ·obtain⟨k1,k2⟩:=lQ hA hL;have hB:bO s=(nP s (lead s - 54)&&H (part s (lead s - 54)<=s.length - (lead s - 54))):=by rw[ag,eA];simp[h0,hA,hL]
    simp only[h0,hA,hC,hL,hB,e1,e2,decide_true,decide_false,forall_const,N,M,false_imp_iff,and_true,true_and,aB];cases hb:nP s (lead s - 54)with
    | false=>simp only[an,M,false_imp_iff,forall_const,true_and];(repeat' first | apply O | intro (_:_=A) | intro (_:_=u) | intro (_:Int))<;>first | omega | (first | exact⟨_,ah.cells (λ_=>rfl) rfl,λ_=>rfl⟩ | exact λ_=>rfl | trivial)
    | true =>
      have hb':=gH.1 hb;have hn: ¬ part s (lead s - 54)=1:=by omega
      simp only[hn,decide_false,a_,N,M,false_imp_iff,forall_const,true_and,and_true]
      (repeat' first | apply O | intro (_:_=A) | intro (_:_=u) | intro (_:Int))
      all_goals simp only[decide_eq_true_eq,decide_eq_false_iff_not,X,bn] at *
      all_goals first
       | omega
       | (refine Js ?_ ?_ ?_
          ·simp[e3]
          ·rw[k1,show(lead s - 54+part s (lead s - 54)).toNat - (lead s - 54).toNat=(part s (lead s - 54)).toNat by omega]
          ·rw[k2])
       | (first | exact⟨_,ah.cells (λ_=>rfl) rfl,λ_=>rfl⟩ | exact λ_=>rfl | trivial)
   ·obtain⟨k1,k2⟩:=oH hA hL;have hB:bO s=(H (lead s<=s.length - 1)&& !(H (ai s 0<192)&&H (lead s=1)&&H (ai s 1<128))):=by
     rw[ag,eA];simp[h0,hA,hL,hC]
     try (intro _;omega)
    simp only[h0,hA,hC,hL,hB,e1,e2,decide_true,decide_false,forall_const,N,M,false_imp_iff,and_true,true_and,aB]
    (repeat' first | apply O | intro (_:_=A) | intro (_:_=u) | intro (_:Int))
    all_goals simp only[decide_eq_true_eq,decide_eq_false_iff_not,X,bn,ej,ei,en,ek,a_,an] at *
    all_goals first
     | omega
     | (refine Js ?_ ?_ ?_
        ·simp[e3]
        ·rw[k1,show(1+lead s).toNat - (1:Int).toNat=(lead s).toNat by omega]
        ·rw[k2])
     | (first | exact⟨_,ah.cells (λ_=>rfl) rfl,λ_=>rfl⟩ | exact λ_=>rfl | trivial)
  ·have e3:cy s=true:=by simp[cy];omega
   have e1:(ai s 0 - 192)% 256=lead s:=by rw[vl hC];omega
   have e4:=vl hC;by_cases hL:55<lead s
   ·obtain⟨k1,k2⟩:=lQ hA hL;have hB:bO s=(nP s (lead s - 54)&&H (part s (lead s - 54)<=s.length - (lead s - 54))):=by rw[ag,eA];simp[h0,hA,hL]
    simp only[h0,hA,hC,hL,hB,e1,e2,decide_true,decide_false,forall_const,N,M,false_imp_iff,and_true,true_and,aB];cases hb:nP s (lead s - 54)with
    | false=>simp only[an,M,false_imp_iff,forall_const,true_and];(repeat' first | apply O | intro (_:_=A) | intro (_:_=u) | intro (_:Int))<;>first | omega | (first | exact⟨_,ah.cells (λ_=>rfl) rfl,λ_=>rfl⟩ | exact λ_=>rfl | trivial)
    | true =>
      have hb':=gH.1 hb;have hn: ¬ part s (lead s - 54)=1:=by omega
      simp only[a_,N,false_imp_iff,forall_const,and_true]
      (repeat' first | apply O | intro (_:_=A) | intro (_:_=u) | intro (_:Int))
      all_goals simp only[decide_eq_true_eq,decide_eq_false_iff_not,X,bn] at *
      all_goals first
       | omega
       | (refine Js ?_ ?_ ?_
          ·simp[e3]
          ·rw[k1,show(lead s - 54+part s (lead s - 54)).toNat - (lead s - 54).toNat=(part s (lead s - 54)).toNat by omega]
          ·rw[k2])
       | (first | exact⟨_,ah.cells (λ_=>rfl) rfl,λ_=>rfl⟩ | exact λ_=>rfl | trivial)
   ·obtain⟨k1,k2⟩:=oH hA hL;have hB:bO s=(H (lead s<=s.length - 1)&& !(H (ai s 0<192)&&H (lead s=1)&&H (ai s 1<128))):=by
     rw[ag,eA];simp[h0,hA,hL,hC]
     try (intro _;omega)
    simp only[h0,hA,hC,hL,hB,e1,e2,decide_true,decide_false,forall_const,M,false_imp_iff,true_and,aB]
    (repeat' first | apply O | intro (_:_=A) | intro (_:_=u) | intro (_:Int))
    all_goals simp only[decide_eq_true_eq,decide_eq_false_iff_not,X,bn,ej,ei,a_,an,Bool.not_false,N,or_false] at *
    all_goals first
     | omega
     | (refine Js ?_ ?_ ?_
        ·simp[e3]
        ·rw[k1,show(1+lead s).toNat - (1:Int).toNat=(lead s).toNat by omega]
        ·rw[k2])
     | (first | exact⟨_,ah.cells (λ_=>rfl) rfl,λ_=>rfl⟩ | exact λ_=>rfl | trivial)
def big:Nat:=1152921504606846976
def ES:List SV->Option (Prop×cN)
 | [.str u s]=>C (s.length<9223372036854775808,aap s)
 | _=>D
noncomputable def ZC:PT:=bw ES
theorem Th:ax J 198 ZC:=by
 refine cn (n:=20) (fn:=cB) Tryz.func198 (by kernel_rfl) (by kernel_rfl) ?_;intro args p a h hp;unfold ES at h;split at h
 ·rename_i s;cases h;refine⟨_,ZF,rfl,λb=> ?_,O2 hp⟩;cases b
  ·exact CW rfl
  ·exact rfl
 ·cases h
def aN (base:Int)(n:Nat):e_:=if n<=55 then [V (base+n).toNat] else V (base+55+(digits n).length).toNat::digits n
def aq (b:e_):e_:=if b.length=1/\ai b 0<128 then b else aN 128 b.length++b
theorem zz (k:Nat)(n:Int):(uE k n).length<=k:=by
 induction k generalizing n with
 | zero=>simp[uE]
 | succ k ih =>
   unfold uE;split
   ·have:=ih (n / 256);simp only[eK,c!,d!];omega
   ·simp
theorem fV (n:Int):(digits n).length<=8:=zz 8 n
theorem K7 {base n:Int}(h0:0<=base)(h1:base<=192)(h2:0<=n)(h3:n<1152921504606846976):av (cA Su 115 b9 [.int .u8 u base,.int .i64 u n] (λv=>aa v (.str u (aN base n.toNat)))):=by
 refine av.of_eq (ab7 base n _) ?_;have e:n% 18446744073709551616=n:=by omega
 have e1:((n.toNat:Nat):Int)=n:=by omega
 have hd:=fV n;rw[e];refine⟨λh=>cv ?_,λh=>⟨by omega,by omega,cv ?_⟩⟩
 ·simp only[decide_eq_true_eq] at h;unfold aN;rw[if_pos (by omega),e1];congr 3;omega
 ·simp only[decide_eq_false_iff_not] at h;unfold aN;rw[if_neg (by omega),e1];simp only[cat,List.cons_append,ef];congr 3;omega
def AE:List SV->Option (Prop×SV)
 | [.int .u8 u base,.int .i64 u n]=>C ((0<=base/\base<=192)/\0<=n/\n<1152921504606846976,.str u (aN base n.toNat))
 | _=>D
noncomputable def TT:PT:=aM AE
theorem NN:ax J 115 TT:=by
 refine dL ZF (n:=20) (fn:=b9) Tryz.func115 (by kernel_rfl) (by kernel_rfl) ?_;intro args p r h hp;unfold AE at h;split at h
 ·cases h;exact⟨rfl,rfl,K7 hp.1.1 hp.1.2 hp.2.1 hp.2.2⟩
 ·cases h
noncomputable def Uf:List (FuncId×PT):=(198,ZC)::(115,TT)::Ue
theorem Ib:aQ J (λf=>ay f Uf):=.cons Th (aZ _) (.cons NN (aG _) Ia)
noncomputable def Sv:dK:={bE with cm:=λf=>ay f Uf}
theorem ZG:Sx.Good J Sv:=.of bz Ib aU
def BY (s:e_):cN:=.fork (bO s) λb=>match b with
 | true=>.ret (.aD [.bool u (cy s),.str u (af s),.str u (aF s),.int .i64 A 0])
 | false=>.ret (.aD [.bool A u,.str A [],.str A [],.int .i64 A 2])
theorem acv (b:e_)(R:SV->Prop):VC.holds (cA Sv 69 cL [.str u b] R)=((Fk ((b.length:Int)=1) (((0:Int)<=(0:Int)/\0<(b.length:Int))/\Fk (ai b 0<128) (R (SV.str u b)) ((((0:Int)<=(128:Int)/\(128:Int)<=(192:Int))/\0<=(b.length:Int)/\(b.length:Int)<1152921504606846976)/\(↑(aN 128 (b.length:Int).toNat).length:Int)+(b.length:Int)<=9223372036854775807/\R (SV.str u (cat (aN 128 (b.length:Int).toNat) b)))) ((((0:Int)<=(128:Int)/\(128:Int)<=(192:Int))/\0<=(b.length:Int)/\(b.length:Int)<1152921504606846976)/\(↑(aN 128 (b.length:Int).toNat).length:Int)+(b.length:Int)<=9223372036854775807/\R (SV.str u (cat (aN 128 (b.length:Int).toNat) b))))):=by kernel_rfl
theorem Za (s:e_):VC.holds (dB Sv 166 cx [.str u s] (BY s))=((λa:SV=>((s.length<9223372036854775808/\Bk (bO s) (Bk (bO s) (aa a a) (aa a (SV.aD [SV.bool A u,SV.str A [],SV.str A [],SV.int .i64 A 2]))) (∀(_:Int),Bk (bO s) (aa (SV.aD [SV.bool A u,SV.str A [],SV.str A [],SV.int .i64 A 2]) a) (aa (SV.aD [SV.bool A u,SV.str A [],SV.str A [],SV.int .i64 A 2]) (SV.aD [SV.bool A u,SV.str A [],SV.str A [],SV.int .i64 A 2])))))) (SV.aD [SV.bool u (cy s),SV.str u (af s),SV.str u (aF s),SV.int .i64 A 0])):=by kernel_rfl
theorem qw (base:Int)(n:Nat):(aN base n).length<=9:=by unfold aN;have:=fV n;split<;>simp only[c!,d!]<;>omega
theorem iZ {b:e_}(h: ¬ (b.length=1/\ai b 0<128)):aq b=aN 128 b.length++b:=if_neg h
theorem MU {b:e_}(hb:b.length<1152921504606846976):av (cA Sv 69 cL [.str u b] (λv=>aa v (.str u (aq b)))):=by
 refine av.gV (acv b _) (by delta Fk;exact rfl) ?_;have hl:=qw 128 b.length;simp only[ey];refine⟨λh=>⟨by simp at h;omega,λh2=>cv ?_,λh2=>⟨by omega,by omega,cv ?_⟩⟩,λh=>⟨by omega,by omega,cv ?_⟩⟩
 ·simp at h h2;exact(if_pos ⟨by omega,h2⟩).symm
 ·simp only[decide_eq_false_iff_not] at h2;exact(iZ λx=>h2 x.2).symm
 ·simp only[decide_eq_false_iff_not] at h;exact(iZ λx=>h (by omega)).symm
def og:List SV->Option (Prop×SV)
 | [.str u b]=>C (b.length<1152921504606846976,.str u (aq b))
 | _=>D
noncomputable def VQ:PT:=aM og
theorem OA:ax J 69 VQ:=by
 refine dL ZG (n:=20) (fn:=cL) Tryz.func69 (by kernel_rfl) (by kernel_rfl) ?_;intro args p r h hp;unfold og at h;split at h
 ·cases h;exact⟨rfl,rfl,MU hp⟩
 ·cases h
theorem JD {s:e_}(hs:s.length<9223372036854775808):av (dB Sv 166 cx [.str u s] (BY s)):=by
 refine av.gV (Za s) (by delta Bk;exact rfl) ?_;cases bO s with
 | true=>exact⟨hs,λ_=>⟨λ_ _=>rfl,(λh=>by cases h)⟩,λh=>by cases h⟩
 | false=>exact⟨hs,(λh=>by cases h),λ_ _=>⟨(λh=>by cases h),λ_ _=>rfl⟩⟩
def lM:List SV->Option (Prop×cN)
 | [.str u s]=>C (s.length<9223372036854775808,BY s)
 | _=>D
noncomputable def Ow:PT:=bw lM
theorem JE:ax J 166 Ow:=by
 refine cn (n:=20) (fn:=cx) Tryz.func166 (by kernel_rfl) (by kernel_rfl) ?_;intro args p a h hp;unfold lM at h;split at h
 ·rename_i s;cases h;refine⟨_,ZG,rfl,λb=> ?_,JD hp⟩;cases b<;>exact rfl
 ·cases h
noncomputable def Ug:List (FuncId×PT):=(69,VQ)::(166,Ow)::Uf
theorem Ic:aQ J (λf=>ay f Ug):=.cons OA (aG _) (.cons JE (aZ _) Ib)
def kP (s:e_):Bool:=bO s&& !cy s&&H (aF s=[])&&H ((af s).length<=8)&& !(H (af s≠[])&&H (ai (af s) 0=0))
def aaw (s:e_):cN:=.fork (kP s) λb=>match b with
 | true=>.ret (.aD [.int .u64 u (num (af s)),.int .i64 A 0])
 | false=>.ret (.aD [.int .u64 A 0,.int .i64 A 2])
noncomputable def Z9 (l:e_):aX :={α:=Int,pre:=λ_ i=>0<=i/\i<=l.length,jx:=λ_ i=>(l.length - i).toNat,fresh:=0,slots:=λ_ i=>[(8,.int .u64 u (num (l.take i.toNat))),(42,.int .i64 u i)],mem:=λ_ _=>[]}
noncomputable def Xs (l:e_):dK:={bE with cm:=λf=>ay f Ug,bh:=λf=>if f=124 then [(10,always (Z9 l))] else []}
theorem ZI (l:e_):Sx.Good J (Xs l):=.of bz Ic aU
theorem adq (s:e_):VC.holds (dB (Xs (af s)) 124 b_ [.str u s] (aaw s))=((λc:SV=>((λd:SV=>((s.length<9223372036854775808/\Bk (bO s) (Bk (cy s) (Bk (kP s) (aa c d) (aa c c)) (Bk (!decide (aF s=[])) (Bk (kP s) (aa c d) (aa c c)) (Fk (8<(↑(af s).length:Int)) (Bk (kP s) (aa c d) (aa c c)) (Bk (!decide (af s=[])) (((0:Int)<=(0:Int)/\0<(↑(af s).length:Int))/\Fk (ai (af s) 0=(0:Int)) (Bk (kP s) (aa c d) (aa c c)) ((∃(g:Int),(0<=g/\g<=(↑(af s).length:Int))/\0=num (I g.toNat (af s))/\0=g/\True)/\∀(a:Int),0<=a/\a<=(↑(af s).length:Int)->Fk (a<(↑(af s).length:Int)) ((0<=a/\a<(↑(af s).length:Int))/\(0<=ai (af s) a/\ai (af s) a<=18446744073709551615)/\(0<=num (I a.toNat (af s))*256% (18446744073709551616:Int) /\num (I a.toNat (af s))*256% (18446744073709551616:Int)<=(18446744073709551615:Int)/\0<=ai (af s) a/\ai (af s) a<=18446744073709551615)/\I6 (a+1)/\∃(e:Int),((0<=e/\e<=(↑(af s).length:Int))/\((↑(af s).length:Int) - e).toNat<((↑(af s).length:Int) - a).toNat)/\bitsOf BinOp.or (num (I a.toNat (af s))*256% (18446744073709551616:Int)) (ai (af s) a)=num (I e.toNat (af s))/\a+1=e/\True) (Bk (kP s) (aa (SV.aD [SV.int .u64 u (num (I a.toNat (af s))),SV.int .i64 A 0]) d) (aa (SV.aD [SV.int .u64 u (num (I a.toNat (af s))),SV.int .i64 A 0]) c)))) ((∃(u2:Int),(0<=u2/\u2<=(↑(af s).length:Int))/\0=num (I u2.toNat (af s))/\0=u2/\True)/\∀(b:Int),0<=b/\b<=(↑(af s).length:Int)->Fk (b<(↑(af s).length:Int)) ((0<=b/\b<(↑(af s).length:Int))/\(0<=ai (af s) b /\ai (af s) b<=18446744073709551615)/\(0<=num (I b.toNat (af s))*256% (18446744073709551616:Int)/\num (I b.toNat (af s))*256% (18446744073709551616:Int)<=(18446744073709551615:Int)/\0<=ai (af s) b/\ai (af s) b<=18446744073709551615)/\I6 (b+1)/\∃(f:Int),((0<=f/\f<=(↑(af s).length:Int))/\((↑(af s).length:Int) - f).toNat<((↑(af s).length:Int) - b).toNat)/\bitsOf BinOp.or (num (I b.toNat (af s))*256% (18446744073709551616:Int)) (ai (af s) b)=num (I f.toNat (af s))/\b+1=f/\True) (Bk (kP s) (aa (SV.aD [SV.int .u64 u (num (I b.toNat (af s))),SV.int .i64 A 0]) d) (aa (SV.aD [SV.int .u64 u (num (I b.toNat (af s))),SV.int .i64 A 0]) c))))))) (Bk (kP s) (aa c d) (aa c c))))) (SV.aD [SV.int .u64 u (num (af s)),SV.int .i64 A 0]))) (SV.aD [SV.int .u64 A 0,SV.int .i64 A 2])):=by kernel_rfl
theorem adt (n:Int)(R:SV->Prop):VC.holds (cA (Xs []) 71 er [.int .u64 u n] R)=(((0<=n/\n<18446744073709551616)/\(digits n).length<1152921504606846976/\R (SV.str u (aq (digits n))))):=by kernel_rfl
theorem L7 (l:e_):0<=num l:=by
 unfold num;suffices ∀(l:e_) (a:Int),0<=a->0<=l.foldl (λa b=>a*256+(b.toNat:Int)) a from this _ _ (W _)
 intro l;induction l with
 | nil=>exact λ_ h=>h
 | cons b r ih=>intro a h;exact ih _ (show 0<=a*256+(b.toNat:Int)by omega)
theorem IN {l:e_}{x:Int}(h:0<=x)(h2:x<l.length):num (l.take (x+1).toNat)=num (l.take x.toNat)*256+ai l x:=by
 have e:(x+1).toNat=x.toNat+1:=by omega
 have hx:x.toNat<l.length:=by omega
 rw[e,List.take_add_one,eB hx];simp only[Option.toList,nX];congr 1;unfold ai;rw[c6,eB hx];rfl
theorem UU: ∀(n:Nat) (l:e_),l.length<=n->num l<256^ n
 | 0,l,h=>by have:l=[]:=Y.1 (by omega);subst this;decide
 | n+1,l,h=>by
   rcases c5 l with rfl | ⟨r,b,rfl⟩
   ·have:(0:Int)<256^ (n+1):=Int.pow_pos (by decide);exact this
   ·simp only[List.length_concat] at h;have:=UU n r (by omega);have hb:=b.toNat_lt;rw[c4,nX,b5];omega
theorem N8 {l:e_}{x:Int}(_h0:0<=x)(h:x<l.length)(h2:l.length<=8):num (l.take x.toNat)<72057594037927936:=by have:=UU 7 (l.take x.toNat) (by simp only[List.length_take];omega);exact this
theorem TJ {l:e_}{x:Int}(h0:0<=x)(h:x<l.length)(h2:l.length<=8):bitsOf .or (num (l.take x.toNat)*256% 18446744073709551616) (ai l x)=num (l.take (x+1).toNat):=by have h3:=N8 h0 h h2;have h4:=L7 (l.take x.toNat);have h5:=cg l x;rw[show num (l.take x.toNat)*256% 18446744073709551616=num (l.take x.toNat)*256 by omega,U2 h4 h5.1 h5.2,IN h0 h]
theorem vf {s:e_}:kP s=A↔bO s=A/\cy s=u/\aF s=[]/\(af s).length<=8/\(af s=[]∨ai (af s) 0≠0):=by unfold kP;by_cases h:af s=[]<;>simp[and_assoc,h]
theorem HH {l:e_}(hl:l.length<=8){Q:Int->Prop}(hQ:Q l.length):(∃(y:Int),((0:Int)<=y/\y<=(↑l.length:Int))/\(0:Int)=num (I y.toNat l)/\(0:Int)=y/\True) /\
            ∀(x:Int),
             (0:Int)<=x/\x<=(↑l.length:Int) ->
               (H (x<(↑l.length:Int))=A ->
                 ((0:Int)<=x/\x<(↑l.length:Int)) /\
                  ((0:Int)<=ai l x/\ai l x<=(18446744073709551615:Int)) /\
                   ((0:Int)<=num (I x.toNat l)*(256:Int)% (18446744073709551616:Int) /\
                      num (I x.toNat l)*(256:Int)% (18446744073709551616:Int)<=(18446744073709551615:Int) /\
                       (0:Int)<=ai l x/\ai l x<=(18446744073709551615:Int)) /\
                    ((-9223372036854775808:Int)<=x+(1:Int)/\x+(1:Int)<=(9223372036854775807:Int)) /\
                     ∃(y:Int),
                      (((0:Int)<=y/\y<=(↑l.length:Int))/\((↑l.length:Int) - y).toNat<((↑l.length:Int) - x).toNat) /\
                       bitsOf BinOp.or (num (I x.toNat l)*(256:Int)% (18446744073709551616:Int)) (ai l x)=num (I y.toNat l) /\
                        x+(1:Int)=y/\True) /\
                 (H (x<(↑l.length:Int))=u->Q x):=by
 refine⟨⟨0,by omega,rfl,rfl,trivial⟩,λx ⟨h1,h2⟩=>⟨λh=> ?_,λh=> ?_⟩⟩
 ·simp only[decide_eq_true_eq] at h;have h5:=cg l x;exact⟨by omega,by omega,by omega,by omega,x+1,by omega,TJ h1 h hl,rfl,trivial⟩
 ·simp only[decide_eq_false_iff_not] at h;obtain rfl:x=l.length:=by omega
  exact hQ
theorem Pf {s:e_}(hs:s.length<9223372036854775808):av (dB (Xs (af s)) 124 b_ [.str u s] (aaw s)):=by
 refine av.gV (adq s) (by delta Bk Fk;exact rfl) ?_;have F: ∀ {p q:Prop},¬ (bO s=A/\cy s=u/\aF s=[]/\(af s).length<=8/\(af s=[]∨ai (af s) 0≠0))->q->(kP s=A->p)/\(kP s=u->q):=λh hq=>⟨λe=>absurd (vf.1 e) h,λ_=>hq⟩
 refine⟨hs,λa=>⟨λb=>F (by simp[b]) λ_=>rfl,λb=>⟨λc=>F (by simp at c;simp[c]) λ_=>rfl,λc=>⟨λd=>F (by simp at d;omega) λ_=>rfl,λd=> ?_⟩⟩⟩,λa=>F (by simp[a]) λ_=>rfl⟩;simp only[decide_eq_false_iff_not,X,ek,decide_eq_true_eq] at c d;have T:(af s=[]∨ai (af s) 0≠0)->kP s=true:=λe=>vf.2 ⟨a,b,c,by omega,e⟩
 have G: ∀ {p:Prop},(af s=[]∨ai (af s) 0≠0)->(kP s=A->aa (SV.aD [SV.int a! u (num (I (((af s).length:Int)).toNat (af s))),SV.int S A (0:Int)])
                      (SV.aD [SV.int a! u (num (af s)),SV.int S A (0:Int)]))/\(kP s=u->p):=λe=>⟨λ_=>by rw[ey,List.take_length];exact λ_=>rfl,λh=>by rw[T e] at h;cases h⟩
 refine⟨λe=>⟨?_,λf=>F (by simp at e f;simp[e,f]) λ_=>rfl,λf=> ?_⟩,λe=> ?_⟩
 ·simp only[en,decide_eq_false_iff_not] at e;have:=Z.2 e;omega
 ·exact HH (l:=af s) (by omega) (Q:=λx=>(kP s=A->aa (SV.aD [SV.int a! u (num (I x.toNat (af s))),SV.int S A (0:Int)]) _)/\(kP s=u->_)) (G (.inr (by simpa using f)))
 ·exact HH (l:=af s) (by omega) (Q:=λx=>(kP s=A->aa (SV.aD [SV.int a! u (num (I x.toNat (af s))),SV.int S A (0:Int)]) _)/\(kP s=u->_)) (G (.inl (by simpa using e)))
def Fi:List SV->Option (Prop×cN)
 | [.str u s]=>C (s.length<9223372036854775808,aaw s)
 | _=>D
noncomputable def ZE:PT:=bw Fi
theorem TH:ax J 124 ZE:=by
 refine cn (n:=20) (fn:=b_) Tryz.func124 (by kernel_rfl) (by kernel_rfl) ?_;intro args p a h hp;unfold Fi at h;split at h
 ·rename_i s;cases h;refine⟨_,ZI (af s),rfl,λb=> ?_,Pf hp⟩;cases b<;>exact rfl
 ·cases h
def sj:List SV->Option (Prop×SV)
 | [.int .u64 u n]=>C (0<=n/\n<18446744073709551616,.str u (aq (digits n)))
 | _=>D
noncomputable def ZP:PT:=aM sj
theorem UW:ax J 71 ZP:=by
 refine dL (ZI []) (n:=20) (fn:=er) Tryz.func71 (by kernel_rfl) (by kernel_rfl) ?_;intro args p r h hp;unfold sj at h;split at h
 ·rename_i n;cases h;have:=fV n;exact⟨rfl,rfl,av.of_eq (adt n _) ⟨hp,by omega,λ_=>rfl⟩⟩
 ·cases h
noncomputable def ZN:List (FuncId×PT):=(124,ZE)::(71,ZP)::Ug
theorem Uh:aQ J (λf=>ay f ZN):=.cons TH (aZ _) (.cons UW (aG _) Ic)
end Go.Proofs.YtoibaecagklkaaaGreatDoor
namespace Go.Proofs
open Go.Shelf
def Tryz.oS:Go.Shelf.Ren:=⟨λ| 156=>116 | 165=>160 | 166=>161 | 169=>162 | 240=>194 | 241=>195 | 276=>212 | 277=>213 | n=>n,λ| 31=>29 | 9=>9 | 3=>3 | 4=>4 | 0=>0 | 20=>20 | 72=>249 | 76=>251 | 70=>247 | 37=>54 | 75=>84 | 127=>272 | 164=>142 | 5=>5 | 80=>102 | n=>n,λ| n=>n⟩
theorem Tryz.HY:Go.Proofs.Lays.n156 J Tryz.oS:={
 mixed:=by kernel_rfl,
 f156:=eu.trans (congrArg C (by kernel_rfl)),
 f165:=Tryz.func160.trans (congrArg C (by kernel_rfl)),
 f166:=Tryz.func161.trans (congrArg C (by kernel_rfl)),
 f169:=Tryz.func162.trans (congrArg C (by kernel_rfl)),
 f240:=Tryz.func194.trans (congrArg C (by kernel_rfl)),
 f241:=Tryz.func195.trans (congrArg C (by kernel_rfl)),
 f276:=Tryz.func212.trans (congrArg C (by kernel_rfl)),
 f277:=Tryz.func213.trans (congrArg C (by kernel_rfl)),
 t0:=Tryz.underlying0,
 a0:=Tryz.isAgg0,
 z0:=Tryz.sizeOf0,
 v0:=Tryz.zeroValue0,
 t3:=Tryz.underlying3,
 a3:=Tryz.isAgg3,
 z3:=Tryz.sizeOf3,
 v3:=Tryz.zeroValue3,
 t4:=Tryz.underlying4,
 a4:=Tryz.isAgg4,
 z4:=Tryz.sizeOf4,
 v4:=Tryz.zeroValue4,
 t9:=Tryz.underlying9,
 a9:=Tryz.isAgg9,
 z9:=Tryz.sizeOf9,
 v9:=Tryz.zeroValue9,
 t20:=Tryz.underlying20,
 a20:=Tryz.isAgg20,
 z20:=Tryz.sizeOf20,
 v20:=Tryz.zeroValue20,
 t31:=Tryz.underlying29,
 a31:=Tryz.isAgg29,
 z31:=Tryz.sizeOf29,
 v31:=Tryz.zeroValue29,
 t37:=Tryz.underlying54,
 a37:=Tryz.isAgg54,
 z37:=Tryz.sizeOf54,
 v37:=Tryz.zeroValue54,
 t70:=Tryz.underlying247,
 a70:=Tryz.isAgg247,
 z70:=Tryz.sizeOf247,
 v70:=Tryz.zeroValue247,
 t72:=Tryz.underlying249,
 a72:=Tryz.isAgg249,
 z72:=Tryz.sizeOf249,
 v72:=Tryz.zeroValue249,
 t75:=Tryz.underlying84,
 a75:=Tryz.isAgg84,
 z75:=Tryz.sizeOf84,
 v75:=Tryz.zeroValue84,
 t76:=Tryz.underlying251,
 a76:=Tryz.isAgg251,
 z76:=Tryz.sizeOf251,
 v76:=Tryz.zeroValue251,
 t127:=Tryz.underlying272,
 a127:=Tryz.isAgg272,
 z127:=Tryz.sizeOf272,
 v127:=Tryz.zeroValue272,
 t164:=Tryz.underlying142,
 a164:=Tryz.isAgg142,
 z164:=Tryz.sizeOf142,
 v164:=Tryz.zeroValue142}
end Go.Proofs
namespace Go.Proofs
open Go.Shelf Go.RowKit
theorem Tryz.extra:Builder.Extra J Tryz.oS:={
 sizeBuilder:=by kernel_rfl,
 liesBuilder:=by kernel_rfl,
 t5:=by kernel_rfl,
 a5:=by intro w;kernel_rfl,
 z5:=by intro w;kernel_rfl,
 v5:=by intro w;kernel_rfl,
 infoByte:=by kernel_rfl,
 cellsByte:=by kernel_rfl,
 sizeByte:=by kernel_rfl,
 neB5:=by decide}
end Go.Proofs
namespace Go.Proofs.YtoibaecagklkaaaGreatDoor
open Go Sx
set_option maxRecDepth 20000
theorem XS:Tryz.oS.f 156=116:=by kernel_rfl
def flat (l:List e_):e_:=l.flatten
def bW (f:Nat->e_)(i n:Nat):List e_:=(List.range n).map λj=>f (i+j)
theorem vO {f:Nat->e_}{i n j:Nat}{x:e_}(h:(bW f i n)[j]?=C x):j<n/\f (i+j)=x:=by
 unfold bW at h;rw[c_] at h;by_cases hj:j<n
 ·rw[List.getElem?_range hj] at h;injection h with h;exact⟨hj,h⟩
 ·rw[List.getElem?_eq_none (by simpa using hj)] at h;cases h
theorem gQ (f:Nat->e_)(i n:Nat):(bW f i n).length=n:=by simp[bW]
def strCells:List SV->Option (List e_)
 | []=>C []
 | .str _ s::r=>(match strCells r with
   | some l=>C (s::l)
   | none=>D)
 | _=>D
theorem vZ {cs:List SV}{l:List e_}(h:strCells cs=C l):l.length=cs.length/\∀(j:Nat) (x:e_),l[j]?=C x->∃ b,cs[j]?=C (.str b x):=by
 induction cs generalizing l with
 | nil=>cases h;exact⟨rfl,λj x hx=>by simp at hx⟩
 | cons v r ih =>
   unfold strCells at h;split at h
   ·cases ‹_::_=[]›
   ·rename_i b s r' e;injection e with e1 e2;subst e1;subst e2;split at h
    ·rename_i l' hl;cases h;obtain⟨g1,g2⟩:=ih hl;refine⟨by simp[g1],λj x hx=> ?_⟩;cases j with
     | zero=>cases hx;exact⟨b,rfl⟩
     | succ j=>exact g2 j x (by simpa using hx)
    ·cases h
   ·cases h
def MQ (m:Mem):SV->Option (Prop×List e_)
 | .aK=>C (True,[])
 | .slc key o n _ c=>(match m.get key with
   | some (.cells cs _ _)=>(match strCells ((cs.drop o).take n)with
     | some l=>C (l.length=n/\n<=c,l)
     | none=>D)
   | _=>D)
 | .bx key 1 _ i n c=>(match m.get key with
   | some (.rows _ n' [.str f] _ _ _)=>C (i+n<=n'/\n<=c,bW f i n)
   | _=>D)
 | .aS key 1 _ o i n c=>(match m.get key with
   | some (.view _ o' n' [.str f])=>C (o'=o/\i+n<=n'/\n<=c,bW f i n)
   | _=>D)
 | _=>D
theorem Q9 {Γ E m nx w}(h:aO Γ E m nx w){v:SV}{p:Prop}{l:List e_}(hv:MQ m v=C (p,l))(hp:p) :
  (∃ a c,l=[]/\v.val E=.slice a 0 c)∨(∃ k o c,v.val E=.slice (C ⟨k,o,D⟩) l.length c/\l.length<=c/\k<w.heap.size/\∀(j:Nat) x,l[j]?=C x->w.cell? ⟨k,o+j,D⟩=C (.string ⟨x.toArray⟩)):=by
 unfold MQ at hv;split at hv
 ·injection hv with hv;injection hv with h1 h2;subst h2;exact .inl ⟨_,_,rfl,rfl⟩
 ·rename_i key o n cl c;split at hv
  ·rename_i cs tot ty hk;split at hv
   ·rename_i l' hl;cases hv;obtain⟨g1,g2⟩:=vZ hl;obtain⟨ob,ho,ce,fr,rfl,_,h4,_⟩:=h.ny key _ hk rfl;refine .inr ⟨E key,o,c,by rw[hp.1];rfl,by omega,(b6.1 ho).1,λj x hx=> ?_⟩;obtain⟨b,hb⟩:=g2 j x hx;rw[cell_of ho];have hj:j<n:=by have:=(List.getElem?_eq_some_iff.1 hx).1;omega
    rw[List.getElem?_take_of_lt hj,List.getElem?_drop] at hb;exact h4 _ _ hb
   ·cases hv
  ·cases hv
 ·rename_i key z i n c;split at hv
  ·rename_i z' n' f ro tot ty hk;cases hv;cases n with
   | zero=>exact .inl ⟨_,_,rfl,rfl⟩
   | succ n =>
     obtain⟨ob,ho,ce,fr,rfl,_,_,_,h4⟩:=h.ny key _ hk (SB.jk (i:=0) (by omega));refine .inr ⟨E key,i,c,?_,by rw[gQ];exact hp.2,(b6.1 ho).1,λj x hx=> ?_⟩
     ·rw[gQ];cases z<;>simp[SV.val,show Nat.beq (n+1) 0=u from rfl]
     ·obtain⟨hj,hx⟩:=vO hx;rw[cell_of ho];have:=h4 (i+j) 0 (.str f) (by omega) rfl;simpa [aE.at,SV.val,hx] using this
  ·cases hv
 ·rename_i key z o i n c;split at hv
  ·rename_i z' o' n' f hk;cases hv;cases n with
   | zero=>exact .inl ⟨_,_,rfl,rfl⟩
   | succ n =>
     obtain⟨ob,ho,ce,ty,fr,rfl,h4⟩:=h.ny key _ hk (SB.zN (i:=0) (by omega));refine .inr ⟨E key,o+i,c,?_,by rw[gQ];exact hp.2.2,(b6.1 ho).1,λj x hx=> ?_⟩
     ·rw[gQ];cases z<;>simp[SV.val,show Nat.beq (n+1) 0=u from rfl]
     ·obtain⟨hj,hx⟩:=vO hx;rw[cell_of ho];have:=h4 (i+j) 0 (.str f) (by omega) rfl;obtain⟨rfl,_⟩:=hp;simpa [aE.at,SV.val,hx,Nat.add_assoc] using this
  ·cases hv
 ·cases hv
noncomputable def xg:PT:=λargs m nx K=>match args with
 | [v,.str _ []]=>(match MQ m v with
   | some (p,l)=>.and (.atom (p/\l.length<=140737488355328/\(flat l).length<=140737488355328)) (K (.str u (flat l)) m nx)
   | none=>.fail "texts that are not known")
 | _=>.fail "a separator"
theorem yK:bq xg:=by
 intro args m nx K K' hK h;unfold xg at h ⊢;split at h
 ·split at h
  ·rename_i p l hl;exact⟨h.1,hK _ _ _ h.2⟩
  ·exact h.elim
 ·exact h.elim
theorem xh: ∀ l:List e_,Lib.join l []=flat l
 | []=>rfl
 | [x]=>by simp[Lib.join,flat,eI]
 | x::y::r=>by have:=xh (y::r);simp[Lib.join,flat,eI] at this ⊢;rw[this]
theorem NQ:ax J 116 xg:=by
 intro args m nx K hk hwf hargs Γ E w hs;unfold xg at hk;split at hk
 ·rename_i v b;split at hk
  ·rename_i p l hl;obtain⟨⟨hp,h1,h2⟩,hk⟩:=hk;have hc:Calls J 116 (SV.vals E [v,.str b []]).toArray w λe w'=>e=.returned (.string ⟨(flat l).toArray⟩)/\RowKit.Below w.heap.size w w':=by
    rw[← XS];rcases Q9 hs hl hp with ⟨a,c,rfl,hv⟩ | ⟨k,o,c,hv,g1,g2,g3⟩
    ·simp only[SV.vals,hv,SV.val];exact(Any.strings_Join_none Tryz.HY Tryz.extra a c _ w).mono λe w' ⟨he,hw⟩=>⟨he,hw▸ RowKit.Below.refl _ _⟩
    ·simp only[SV.vals,hv,SV.val];have:=Any.strings_Join Tryz.HY Tryz.extra k o c (l.map λx=>⟨x.toArray⟩) ⟨#[]⟩ w (λj x hx=>by
      rw[c_] at hx;cases hj:l[j]? with
      | none=>rw[hj] at hx;cases hx
      | some y=>rw[hj] at hx;cases hx;exact g3 j y hj) g2 (by simpa using h1) (by simpa using g1) (by
      simp only[eN];have:(l.map ((λx:ByteArray=>x.data.toList)∘ λx=>(⟨x.toArray⟩:ByteArray)))=l:=by
       rw[show((λx:ByteArray=>x.data.toList)∘ λx:e_=>(⟨x.toArray⟩:ByteArray))=id from by funext x;simp]
       simp
      rw[this];show(Lib.join l []).length<=_;rw[xh];exact h2)
     rw[eL] at this;refine this.mono λe w' ⟨he,hw⟩=>⟨?_,hw⟩
     rw[he,eN];have:(l.map ((λx:ByteArray=>x.data.toList)∘ λx=>(⟨x.toArray⟩:ByteArray)))=l:=by
      rw[show((λx:ByteArray=>x.data.toList)∘ λx:e_=>(⟨x.toArray⟩:ByteArray))=id from by funext x;simp]
      simp
     rw[this];rw[← xh]
   refine eF eu (by kernel_rfl) (by kernel_rfl) (hc.mono ?_);rintro e w' ⟨rfl,hb⟩;exact⟨_,rfl,E,C (.str u (flat l)),m,nx,λ_ _=>rfl,Nat.le_refl _,λx hx=>by cases hx;rfl,hs.still (Ext.UX hb),hk⟩
  ·exact hk.elim
 ·exact hk.elim
end Go.Proofs.YtoibaecagklkaaaGreatDoor
namespace Go.Proofs.YtoibaecagklkaaaGreatDoor
open Go Sx
set_option maxRecDepth 20000
noncomputable def ZO:List (FuncId×PT):=(116,xg)::ZN
theorem Ui:aQ J (λf=>ay f ZO):=.cons NQ yK Uh
def aP (s:e_):Nat->e_
 | 0=>s
 | k+1=>aF (aP s k)
def qz (s:e_):e_:=s.take (s.length - (aF s).length)
def aj (s:e_)(k:Nat):e_:=qz (aP s k)
def scan:Nat->e_->Nat×Bool
 | 0,s=>(0,H (s=[]))
 | f+1,s=>if s=[] then(0,A)else if bO s then((scan f (aF s)).1+1,(scan f (aF s)).2)else(0,u)
def au (s:e_):Nat:=(scan s.length s).1
def cS (s:e_):Bool:=(scan s.length s).2
def AJ (s:e_):cN:=.fork (cS s) λb=>match b with
 | true=>.all Nat λc=>.req (au s<=c) (.new (λk=>.aD [.bx k 1 A 0 (au s) c,.int .i64 A 0]) (.rows A (au s) [.str (aj s)] u c 9))
 | false=>.ret (.aD [.aK,.int .i64 A 2])
structure uG where
 k:Nat
 c:Nat
structure mG (s:e_)(x:uG):Prop where
 walk: ∀ j,j<x.k->aP s j≠[]/\bO (aP s j)=A
 cap:x.k<=x.c
noncomputable def Sa (s:e_):aX :=
 {α:=uG,pre:=λ_ x=>mG s x,jx:=λ_ x=>(aP s x.k).length,fresh:=1,slots:=λ_ x=>[(3,.str u (aP s x.k))],
  mem:=λst x=>[(2,.cells [.bx st.nx 1 A 0 x.k x.c] 1 29),(st.nx,.rows A x.k [.str (aj s)] u x.c 9)]}
noncomputable def aam (s:e_):dK:={bE with cm:=λf=>ay f ZO,bh:=λf=>if f=214 then [(1,always (Sa s))] else []}
theorem acY (s:e_):Sx.Good J (aam s):=.of bz Ui aU
theorem YV (s:e_):VC.holds (dB (aam s) 165 b! [.str u s] (AJ s))=((∀(b:Loop),(∃(e:uG),mG s e/\s=aP s e.k/\(1:Nat)=(1:Nat)/\e.k=0/\(SB.rows A e.k [aE.str (aj s)] u e.c 9).no=A/\ah (SB.loop bl D b) (SB.loop bl D b)/\ah (SB.cells (SV.str u s).cells 1 9) (SB.cells (SV.str u s).cells 1 9)/\ah (SB.cells (SV.int .i64 A 0).cells 1 30) (SB.cells (SV.int .i64 A 0).cells 1 30)/\ah (SB.cells SV.aK.cells 1 29) (SB.cells SV.aK.cells 1 29)/\True)/\∀(a:uG),mG s a->Bk (!decide (aP s a.k=[])) ((aP s a.k).length<9223372036854775808/\Bk (bO (aP s a.k)) (((-9223372036854775808:Int)<=(↑(aP s a.k).length:Int) - (↑(aF (aP s a.k)).length:Int)/\(↑(aP s a.k).length:Int) - (↑(aF (aP s a.k)).length:Int)<=9223372036854775807)/\((0:Int)<=(0:Int)/\0<=(↑(aP s a.k).length:Int) - (↑(aF (aP s a.k)).length:Int)/\(↑(aP s a.k).length:Int) - (↑(aF (aP s a.k)).length:Int)<=(↑(aP s a.k).length:Int))/\b=b/\(0+a.k<=a.k/\True/\2*(a.k+1)*16<=(281474976710656:Nat) /\a.k+1<(9223372036854775808:Nat))/\a.c=a.c*1/\∀(f:Nat),a.k+1<=f->∃(d:uG),(mG s d/\(aP s d.k).length<(aP s a.k).length)/\aF (aP s a.k)=aP s d.k/\(1:Nat)=(1:Nat)/\((0:Nat)=(0:Nat)/\a.k+1=d.k/\f=d.c)/\True/\ah (SB.rows A (a.k+1) [aE.str λg=>if g<a.k then aj s g else bZ [aB (aP s a.k) D (C (L 37)) 0 ((↑(aP s a.k).length:Int) - (↑(aF (aP s a.k)).length:Int))] (g - a.k)] u (f*1) 9) (SB.rows A d.k [aE.str (aj s)] u d.c 9)/\ah (SB.loop bl D b) (SB.loop bl D b)/\ah (SB.cells (SV.str u s).cells 1 9) (SB.cells (SV.str u s).cells 1 9)/\ah (SB.cells (SV.int .i64 A 0).cells 1 30) (SB.cells (SV.int .i64 A 0).cells 1 30)/\ah (SB.cells SV.aK.cells 1 29) (SB.cells SV.aK.cells 1 29)/\True) (∀(_:Int),((-9223372036854775808:Int)<=(s.length:Int) - (↑(aP s a.k).length:Int)/\(s.length:Int) - (↑(aP s a.k).length:Int)<=9223372036854775807)/\b=b/\Bk (cS s) (∃(i:Nat),au s<=i/\False) (aa (SV.aD [SV.aK,SV.int .i64 A 2]) (SV.aD [SV.aK,SV.int .i64 A 2])))) (Bk (cS s) (∃(h:Nat),au s<=h/\ah (SB.rows A a.k [aE.str (aj s)] u a.c 9) (SB.rows A (au s) [aE.str (aj s)] u h 9)/\aa (SV.aD [SV.bx ((5:Nat)) 1 A 0 a.k a.c,SV.int .i64 A 0]) (SV.aD [SV.bx ((5:Nat)) 1 A 0 (au s) h,SV.int .i64 A 0])) (aa (SV.aD [SV.bx ((5:Nat)) 1 A 0 a.k a.c,SV.int .i64 A 0]) (SV.aD [SV.aK,SV.int .i64 A 2]))))):=by kernel_rfl
theorem vn {s:e_}(h: ¬ ai s 0<128):0<=lead s:=by unfold lead;split<;>omega
theorem wQ {s:e_}(h:bO s=A):(aF s).length<s.length:=by
 obtain⟨h0,h⟩:=eA.1 h;have hl:=Z.2 h0;by_cases hA:ai s 0<128
 ·rw[(lC hA).2.2,d_];omega
 ·have g:=vn hA;by_cases hL:55<lead s
  ·have:=oY s (lead s - 54);rw[(lQ hA hL).2,d_];omega
  ·rw[(oH hA hL).2,d_];omega
theorem Ea: ∀(f f':Nat) (s:e_),s.length<=f->s.length<=f'->scan f s=scan f' s
 | 0,0,_,_,_=>rfl
 | 0,f'+1,s,h,_=>by have:s=[]:=Y.1 (by omega);subst this;rfl
 | f+1,0,s,_,h=>by have:s=[]:=Y.1 (by omega);subst this;rfl
 | f+1,f'+1,s,h,h'=>by
   simp only[scan];split
   ·rfl
   ·split
    ·rename_i hc;have:=wQ hc;rw[Ea f f' (aF s) (by omega) (by omega)]
    ·rfl
theorem gZ:cS []=A/\au []=0:=⟨rfl,rfl⟩
theorem xd {s:e_}(h0:s≠[])(h:bO s=A):cS s=cS (aF s)/\au s=au (aF s)+1:=by
 have hl:=wQ h;unfold cS au;obtain⟨n,hn⟩: ∃ n,s.length=n+1:=⟨s.length - 1,by omega⟩
 rw[hn];simp only[scan,h0,h,if_true,if_false];rw[Ea n (aF s).length (aF s) (by omega) (by omega)];exact⟨rfl,rfl⟩
theorem xb {s:e_}(h0:s≠[])(h:bO s=u):cS s=false:=by
 have hl:=Z.2 h0;unfold cS;obtain⟨n,hn⟩: ∃ n,s.length=n+1:=⟨s.length - 1,by omega⟩
 rw[hn];simp[scan,h0,h]
theorem kD (s:e_): ∀ k,aP s (k+1)=aP (aF s) k
 | 0=>by simp only[aP]
 | k+1=>by rw[aP,kD s k];simp only[aP]
def Walk (s:e_)(k:Nat):Prop:=∀ j,j<k->aP s j≠[]/\bO (aP s j)=A
theorem Walk.len {s:e_}: ∀ {k:Nat},Walk s k->(aP s k).length+k<=s.length
 | 0,_=>by simp[aP]
 | k+1,h=>by have h1:=Walk.len (k:=k) (λj hj=>h j (by omega));have h2:=wQ (h k (by omega)).2;simp only[aP];omega
theorem Walk.tail {s:e_}{k:Nat}(h:Walk s (k+1)):Walk (aF s) k:=λj hj=>by rw[← kD];exact h (j+1) (by omega)
theorem Walk.items {s:e_}: ∀ {k:Nat},Walk s k->cS s=cS (aP s k)/\au s=au (aP s k)+k
 | 0,_=>⟨rfl,rfl⟩
 | k+1,h=>by obtain⟨h0,h1⟩:=h 0 (by omega);obtain⟨g1,g2⟩:=xd (s:=s) h0 h1;obtain⟨g3,g4⟩:=Walk.items h.tail;rw[kD,g1,g2,g3,g4];exact⟨rfl,by omega⟩
theorem Walk.snoc {s:e_}{k:Nat}(h:Walk s k)(h0:aP s k≠[])(h1:bO (aP s k)=A):Walk s (k+1):=λj hj=>by
 by_cases e:j=k
 ·subst e;exact⟨h0,h1⟩
 ·exact h j (by omega)
theorem Sx.ah.D8 {z:Bool}{n n':Nat}{az cols':List aE}{tot tot':Nat}{ty:TypeId}(hn:n=n')(ht:tot=tot')(hl:az.length=cols'.length)
  (h: ∀(i k:Nat) (c':aE),i<n->cols'[k]?=C c'->∃ c,az[k]?=C c/\c.at i=c'.at i):ah (.rows z n az u tot ty) (.rows z n' cols' u tot' ty):=by
 subst hn;subst ht;refine ah.of rfl rfl λhno=> ?_;refine⟨hno,λE o ⟨c,fr,h1,h2,h3,h4,h5⟩=>⟨c,fr,h1,h2,by rw[← hl];exact h3,h4,λi k col hi hk=> ?_⟩,λ_=>rfl⟩;obtain⟨c0,hc0,he⟩:=h i k col hi hk;rw[← he,← hl];exact h5 i k c0 hi hc0
theorem Sx.ah.iJ {z:Bool}{n n':Nat}{f g:Nat->e_}{tot tot':Nat}{ty:TypeId}(hn:n=n')(ht:tot=tot')(h: ∀ i,i<n->f i=g i):ah (.rows z n [.str f] u tot ty) (.rows z n' [.str g] u tot' ty):=by
 refine Sx.ah.D8 hn ht rfl λi k c' hi hk=>⟨.str f,?_,?_⟩
 ·match k,hk with
  | 0,_=>rfl
 ·match k,hk with
  | 0,hk =>simp only[List.getElem?_cons_zero,Option.some.injEq] at hk;subst hk;simp only[aE.at,h i hi]
theorem HP {s:e_}(hs:s.length<1099511627776):av (dB (aam s) 165 b! [.str u s] (AJ s)):=by
 refine av.gV (YV s) (by delta Bk;exact rfl) ?_;intro R;refine⟨⟨⟨0,0⟩,⟨λj hj=>absurd hj (Nat.not_lt_zero _),Nat.le_refl _⟩,rfl,rfl,rfl,rfl,ah.refl _,ah.refl _,ah.refl _,ah.refl _,trivial⟩,λx hx=> ?_⟩;have hw:Walk s x.k:=hx.walk;have hl:=hw.len;obtain⟨i1,i2⟩:=hw.items;refine⟨λa=> ?_,λa=> ?_⟩
 ·have a:aP s x.k≠[]:=by simpa using a
  refine⟨by omega,λb=> ?_,λb y=> ?_⟩
  ·have hlt:=wQ b;refine⟨by omega,by omega,rfl,⟨by omega,trivial,by omega,by omega⟩,by omega,λc hc=>⟨⟨x.k+1,c⟩,⟨⟨hw.snoc a b,hc⟩,?_⟩,?_,rfl,⟨rfl,rfl,rfl⟩,trivial,?_,ah.refl _,ah.refl _,ah.refl _,ah.refl _,trivial⟩⟩
   ·simp only[aP];exact hlt
   ·simp only[aP]
   ·refine Sx.ah.iJ rfl (Nat.mul_one c) λi hi=> ?_;by_cases h:i<x.k
    ·rw[if_pos h]
    ·rw[if_neg h];have e:i=x.k:=by omega
     subst e;simp only[Nat.sub_self,bZ,aB,aj,qz];rw[show((↑(aP s x.k).length:Int) - (↑(aF (aP s x.k)).length:Int)).toNat=(aP s x.k).length - (aF (aP s x.k)).length by omega];simp only[List.getD_cons_zero]
  ·have hb:=xb a b;rw[← i1] at hb;exact⟨by omega,rfl,(λh=>by rw[hb] at h;cases h),λ_ _=>rfl⟩
 ·have a:aP s x.k=[]:=by simpa using a
  rw[a] at i1 i2;have n0:au s=x.k:=by rw[i2,gZ.2];omega
  have b0:cS s=true:=by rw[i1,gZ.1]
  refine⟨λ_=>⟨x.c,by rw[n0];exact hx.cap,?_,?_⟩,λh=>by rw[b0] at h;cases h⟩
  ·rw[n0];exact ah.refl _
  ·rw[n0];exact λ_=>rfl
def rS:List SV->Option (Prop×cN)
 | [.str u s]=>C (s.length<1099511627776,AJ s)
 | _=>D
noncomputable def Fz:PT:=bw rS
theorem T3:ax J 165 Fz:=by
 refine cn (n:=20) (fn:=b!) Tryz.func165 (by kernel_rfl) (by kernel_rfl) ?_;intro args p a h hp;unfold rS at h;split at h
 ·rename_i s;cases h;refine⟨_,acY s,rfl,λb=> ?_,HP hp⟩;cases b with
  | false=>exact rfl
  | true =>
    intro c;refine⟨rfl,rfl,λk=>by simp[SV.wf,SV.e9,Nat.blt_eq],λE E' k k' h=> ?_⟩;cases hn:au s with
    | zero=>rfl
    | succ n =>rw[hn] at h;have hk:E k=E' k':=h rfl;simp[SV.val,SV.vals,hk]
 ·cases h
end Go.Proofs.YtoibaecagklkaaaGreatDoor
namespace Go.Proofs.YtoibaecagklkaaaGreatDoor.Sx
open Go
def Uz:SV->SV
 | .int k _ n=>.int k A n
 | .bool _ b=>.bool A b
 | .str _ s=>.str A s
 | v=>v
def UA:SV->SV
 | .agg cs=>.agg (cs.map Uz)
 | v=>Uz v
def lit:SV->SV
 | .aD vs=>.aD (vs.map UA)
 | v=>UA v
theorem oo {f:SV->SV}{E:Nat->Nat}(hf: ∀ v,(f v).val E=v.val E): ∀ l:List SV,SV.vals E (l.map f)=SV.vals E l
 | []=>rfl
 | v::r=>by simp only[List.map_cons,SV.vals,hf,oo hf r]
theorem Ie (E:Nat->Nat)(v:SV):(Uz v).val E=v.val E:=by cases v<;>rfl
theorem UB (E:Nat->Nat)(v:SV):(UA v).val E=v.val E:=by cases v<;>first | rfl | simp only[UA,SV.val,oo (Ie E)]
theorem zK (E:Nat->Nat)(v:SV):(lit v).val E=v.val E:=by cases v<;>first | rfl | simp only[lit,UA,SV.val,oo (Ie E),oo (UB E)]
def T1:SV->Bool
 | .int _ l _=>l
 | .bool l _=>l
 | .str l _=>l
 | _=>u
def isLit:SV->Bool
 | .agg cs=>cs.all T1
 | v=>T1 v
def Et:List SV->Bool
 | []=>A
 | v::r=>isLit v&&Et r
def qY (az:List aE)(i:Nat):Nat->List SV
 | 0=>[]
 | n+1=>az.map (λc=>lit (c.at i))++qY az (i+1) n
theorem vN {az:List aE}: ∀ {n i0 j:Nat} {v:SV},(qY az i0 n)[j]?=C v->∃ i k col,j=i*az.length+k/\i<n/\az[k]?=C col/\v=lit (col.at (i0+i))
 | 0,_,_,_,h=>by simp[qY] at h
 | n+1,i0,j,v,h=>by
   simp only[qY] at h;by_cases hj:j<az.length
   ·rw[ez (by simpa using hj),c_] at h;cases hc:az[j]? with
    | none=>rw[hc] at h;cases h
    | some c=>rw[hc] at h;injection h with h;exact⟨0,j,c,by simp,by omega,hc,h.symm⟩
   ·rw[List.getElem?_append_right (by simpa using hj)] at h;obtain⟨i,k,col,h1,h2,h3,h4⟩:=vN h;simp only[eL] at h1;refine⟨i+1,k,col,by rw[Nat.add_mul];omega,by omega,h3,?_⟩;rw[h4];congr 2;omega
def Au:SB->SB
 | .rows A 0 az ro tot ty=>.rows A 0 az ro tot ty
 | .rows _z n az u tot ty=>.cells (qY az 0 n) tot ty
 | B=>B
def C3:SV->SV
 | .bx _ _ A _ 0 _=>.aK
 | .bx k _ _ 0 n c=>.slc k 0 n u c
 | v=>v
def NJ:SV->SV
 | .agg cs=>.agg (cs.map C3)
 | v=>C3 v
def Xy:SV->SV
 | .aD vs=>.aD (vs.map NJ)
 | v=>NJ v
theorem Xx (B:SB):ah B (Au B):=by
 unfold Au;split
 ·exact ah.refl _
 ·rename_i z n az tot ty hne;refine ah.of rfl rfl λ_=> ?_;have hno:(SB.rows z n az u tot ty).no=false:=by
   cases z with
   | false=>rfl
   | true =>
     cases n with
     | zero=>exact(hne rfl rfl).elim
     | succ n=>rfl
  refine⟨hno,λE o ⟨c,fr,h1,h2,h3,h4,h5⟩=>⟨c,fr,h1,h2 rfl,λj v hv=> ?_,h4⟩,λ_=>rfl⟩;obtain⟨i,k,col,g1,g2,g3,g4⟩:=vN hv;rw[g4,zK,Nat.zero_add,g1];exact h5 i k col g2 g3
 ·exact ah.refl _
theorem C4 (E:Nat->Nat)(v:SV):(C3 v).val E=v.val E:=by
 unfold C3;split
 ·rfl
 ·rename_i k w z n c hne;have hz:(z&&Nat.beq n 0)=false:=by
   cases z with
   | false=>rfl
   | true =>
     cases n with
     | zero=>exact(hne rfl rfl).elim
     | succ n=>rfl
  simp[SV.val,hz]
 ·rfl
theorem C5 (E:Nat->Nat)(v:SV):(NJ v).val E=v.val E:=by
 unfold NJ;split
 ·simp only[SV.val,oo (C4 E)]
 ·exact C4 E _
theorem Tw (E:Nat->Nat)(v:SV):(Xy v).val E=v.val E:=by
 unfold Xy;split
 ·simp only[SV.val,oo (C5 E)]
 ·exact C5 E _
def cN.Z4 (m:Mem)(nx:Nat)(K:SV->Mem->Nat->VC):cN->VC
 | .ret v=>K (lit v) m nx
 | .new v B=>K (lit (Xy (v nx))) ((nx,Au B)::m) (nx+1)
 | .all α f=>.all α λx=>(f x).Z4 m nx K
 | .req p a=>.imp p (a.Z4 m nx K)
 | .fork b f=>match b with
   | true=>(f A).Z4 m nx K
   | false=>(f u).Z4 m nx K
def adi (Γ:bg)(E:Nat->Nat)(nx:Nat)(K:SV->Mem->Nat->VC):SV->Mem->Nat->VC:=λv m' nx' =>.atom (∀(E':Nat->Nat) (w':World),(∀ k,k<nx->E' k=E k)->nx<=nx'->aO Γ E' m' nx' w'->bF (lift K) Γ E nx (v.val E') w')
theorem cN.sC {Γ:bg}{E:Nat->Nat}{m:Mem}{nx:Nat}{K:SV->Mem->Nat->VC}: ∀ {a:cN},(a.Z4 m nx K).holds->(a.vc m nx (adi Γ E nx K)).holds
 | .ret v,h=>λE' w' h1 h2 hs=>⟨E',C (lit v),m,nx,h1,h2,λx hx=>by cases hx;rw[zK],hs,h⟩
 | .new v B,h=>λE' w' h1 h2 hs=>⟨E',C (lit (Xy (v nx))),_,nx+1,h1,h2,λx hx=>by cases hx;rw[zK,Tw],hs.JJ (Xx B),h⟩
 | .all _ f,h=>λx=>cN.sC (a:=f x) (h x)
 | .req _ a,h=>λx=>cN.sC (a:=a) (h x)
 | .fork b f,h=>c9.2 (by
    cases b with
    | true=>exact cN.sC (a:=f A) h
    | false=>exact cN.sC (a:=f u) h)
theorem cN.rz {m:Mem}{nx:Nat}{K K':SV->Mem->Nat->VC}(hK: ∀ v m nx,(K v m nx).holds->(K' v m nx).holds): ∀ {a:cN},(a.Z4 m nx K).holds->(a.Z4 m nx K').holds
 | .ret _,h=>hK _ _ _ h
 | .new _ _,h=>hK _ _ _ h
 | .all _ f,h=>λx=>cN.rz (a:=f x) hK (h x)
 | .req _ a,h=>λx=>cN.rz (a:=a) hK (h x)
 | .fork b f,h=>by
   cases b with
   | true=>exact cN.rz (a:=f A) hK h
   | false=>exact cN.rz (a:=f u) hK h
noncomputable def jc (spec:List SV->Option (Prop×cN)):PT:=λargs m nx K=>match Et args with
 | true=>(match spec (args.map y8)with
   | some (p,a)=>.and (.atom p) (a.Z4 m nx K)
   | none=>.fail "arguments that nothing is said of")
 | false=>bw spec args m nx K
theorem eM (spec:List SV->Option (Prop×cN)):bq (jc spec):=by
 intro args m nx K K' hK h;unfold jc at h ⊢;split at h
 ·split at h
  ·exact⟨h.1,cN.rz hK h.2⟩
  ·exact h
 ·exact aZ spec _ _ _ _ _ hK h
theorem bF.ZR {Γ:bg}{E:Nat->Nat}{nx:Nat}{r:Value}{w:World}{K:SV->Mem->Nat->VC}(h:bF (lift (λv m nx=>K (lit v) m nx)) Γ E nx r w):bF (lift K) Γ E nx r w:=by
 obtain⟨E',sv,m',nx',h1,h2,h3,h4,h5⟩:=h;cases sv with
 | none=>exact h5.elim
 | some v=>exact⟨E',C (lit v),m',nx',h1,h2,λx hx=>by cases hx;rw[zK];exact h3 v rfl,h4,h5⟩
theorem jT {P:Program}{f:FuncId}{spec:List SV->Option (Prop×cN)}(h:ax P f (bw spec)):ax P f (jc spec):=by
 intro args m nx K hk hwf hargs Γ E w hs;unfold jc at hk;split at hk
 ·have:(bw spec args m nx (adi Γ E nx K)).holds:=by
   unfold bw;split at hk
   ·rename_i p a hsp
    first
     | exact⟨hk.1,cN.sC hk.2⟩
     | (rw[hsp];exact⟨hk.1,cN.sC hk.2⟩)
   ·exact hk.elim
  refine(h args m nx _ this hwf hargs Γ E w hs).mono (λe w' hh=> ?_) (λ_ _ h=>h);obtain⟨E',sv,m',nx',h1,h2,h3,h4,h5⟩:=hh;cases sv with
  | none=>exact h5.elim
  | some v=>rw[h3 v rfl];exact h5 E' w' h1 h2 h4
 ·exact h args m nx K hk hwf hargs Γ E w hs
noncomputable def mZ (spec:List SV->Option (Prop×SV)):PT:=λargs m nx K=>match Et args with
 | true=>aM spec args m nx (λv m nx=>K (lit v) m nx)
 | false=>aM spec args m nx K
theorem lg (spec:List SV->Option (Prop×SV)):bq (mZ spec):=by
 intro args m nx K K' hK h;unfold mZ at h ⊢;split at h
 ·exact aG spec _ _ _ _ _ (λv m nx=>hK _ _ _) h
 ·exact aG spec _ _ _ _ _ hK h
theorem vC {P:Program}{f:FuncId}{spec:List SV->Option (Prop×SV)}(h:ax P f (aM spec)):ax P f (mZ spec):=by
 intro args m nx K hk hwf hargs Γ E w hs;unfold mZ at hk;split at hk
 ·exact(h args m nx _ hk hwf hargs Γ E w hs).mono (λe w' hh=>bF.ZR hh) (λ_ _ h=>h)
 ·exact h args m nx K hk hwf hargs Γ E w hs
def A7 (t:List SV->Mem->Bool)(pt:PT):PT:=λargs m nx K=>match t args m with
 | true=>pt args m nx (λv m nx=>K (lit v) m nx)
 | false=>pt args m nx K
theorem tN {t:List SV->Mem->Bool}{pt:PT}(h:bq pt):bq (A7 t pt):=by
 intro args m nx K K' hK hh;unfold A7 at hh ⊢;split at hh
 ·exact h _ _ _ _ _ (λv m nx=>hK _ _ _) hh
 ·exact h _ _ _ _ _ hK hh
theorem A8 {P:Program}{f:FuncId}{t:List SV->Mem->Bool}{pt:PT}(h:ax P f pt):ax P f (A7 t pt):=by
 intro args m nx K hk hwf hargs Γ E w hs;unfold A7 at hk;split at hk
 ·exact(h args m nx _ hk hwf hargs Γ E w hs).mono (λe w' hh=>bF.ZR hh) (λ_ _ h=>h)
 ·exact h args m nx K hk hwf hargs Γ E w hs
def Ig (m:Mem):SV->Bool
 | .aK=>A
 | .slc key o n _ _=>(match m.get key with
   | some (.cells cs _ _)=>Et ((cs.drop o).take n)
   | _=>u)
 | _=>u
end Go.Proofs.YtoibaecagklkaaaGreatDoor.Sx
namespace Go.Proofs.YtoibaecagklkaaaGreatDoor
open Go Sx
set_option maxRecDepth 20000
noncomputable def mR:List (FuncId×PT) :=
 (165,jc rS)::(116,A7 (λargs m=>Ig m (args.headD .cH)) xg)::(124,jc Fi)::(71,mZ sj) ::
 (69,mZ og)::(166,jc lM)::(198,jc ES)::(115,mZ AE)::dW
theorem fI:aQ J (λf=>ay f mR) :=
 .cons (jT T3) (eM _) (.cons (A8 NQ) (tN yK) (.cons (jT TH) (eM _) (.cons (vC UW) (lg _)
  (.cons (vC OA) (lg _) (.cons (jT JE) (eM _) (.cons (jT Th) (eM _) (.cons (vC NN) (lg _) cW)))))))
noncomputable def acS:dK:={bE with cm:=λf=>ay f mR,rounds:=4}
theorem acW:Sx.Good J acS:=.of bz fI aU
theorem j5 {x y:e_}{i:Int}(h0:0<=i)(h:i<x.length):ai (x++y) i=ai x i:=by unfold ai;rw[c6,c6,ez (by omega)]
theorem iS (b:UInt8)(l:e_):ai (b::l) 0=(b.toNat:Int):=rfl
theorem uL (b c:UInt8)(l:e_):ai (b::c::l) 1=(c.toNat:Int):=rfl
theorem ofNat_toNat {n:Int}(h0:0<=n)(h:n<256):((V n.toNat).toNat:Int)=n:=by rw[UInt8.toNat_ofNat'];omega
theorem lR {k:Nat}{n:Int}(h:n<=0):uE k n=[]:=by
 cases k with
 | zero=>rfl
 | succ k=>unfold uE;rw[if_neg (by omega)]
theorem uS {k:Nat}{n:Int}(h:0<n):uE (k+1) n=uE k (n / 256)++[V (n% 256).toNat]:=by
 conv=>lhs;unfold uE
 rw[if_pos h]
theorem Ny: ∀(k:Nat) (n:Int),0<=n->n<256^ k->num (uE k n)=n
 | 0,n,h0,h=>by
   have:n=0:=by simp at h;omega
   subst this;rfl
 | k+1,n,h0,h=>by
   by_cases hp:0<n
   ·rw[b5] at h;rw[uS hp,nX,Ny k (n / 256) (by omega) (by omega),ofNat_toNat (by omega) (by omega)];omega
   ·have:n=0:=by omega
    subst this;rw[lR (W _)];rfl
theorem qe {x:e_}{b:UInt8}(h:x≠[]):ai (x++[b]) 0=ai x 0:=by have:=Z.2 h;exact j5 (W _) (by omega)
theorem Hq: ∀(k:Nat) (n:Int),0<n->n<256^ k->uE k n≠[]/\ai (uE k n) 0≠0
 | 0,n,h0,h=>by simp at h;omega
 | k+1,n,h0,h=>by
   rw[b5] at h;rw[uS h0];refine⟨by simp,?_⟩;by_cases hp:0<n / 256
   ·obtain⟨h1,h2⟩:=Hq k (n / 256) hp (by omega);rw[qe h1];exact h2
   ·rw[lR (by omega),ef,iS,ofNat_toNat (by omega) (by omega)];omega
theorem IM: ∀(n:Nat) (l:e_),l.length<=n->ai l 0≠0->0<num l
 | 0,l,hn,h=>by have:l=[]:=Y.1 (by omega);subst this;exact absurd rfl h
 | n+1,l,hn,h=>by
   rcases c5 l with rfl | ⟨r,b,rfl⟩
   ·exact absurd rfl h
   ·rw[c4] at h hn ⊢;rw[nX];by_cases hr:r=[]
    ·subst hr;rw[ef,iS] at h;have:num []=0:=rfl;rw[this];omega
    ·rw[qe hr] at h;have h2:=IM n r (by simp at hn;omega) h;omega
theorem Yb (l:e_)(h:ai l 0≠0):0<num l:=IM l.length l (Nat.le_refl _) h
theorem Ti: ∀(k:Nat) (l:e_),l.length<=k->(l=[]∨ai l 0≠0)->uE k (num l)=l
 | 0,l,h,_=>by have:l=[]:=Y.1 (by omega);subst this;rfl
 | k+1,l,h,hl=>by
   rcases c5 l with rfl | ⟨r,b,rfl⟩
   ·exact lR (W _)
   ·rw[c4] at hl h ⊢;have hne:ai (r++[b]) 0≠0:=by
     rcases hl with hl | hl
     ·simp at hl
     ·exact hl
    have hp:=Yb _ hne;have hb:=b.toNat_lt;rw[uS hp];rw[nX] at hp ⊢;have e1:(num r*256+(b.toNat:Int)) / 256=num r:=by omega
    have e2:((num r*256+(b.toNat:Int))% 256).toNat=b.toNat:=by omega
    rw[e1,e2,UInt8.ofNat_toNat];congr 1;refine Ti k r (by simp at h;omega) ?_;by_cases hr:r=[]
    ·exact .inl hr
    ·rw[qe hr] at hne;exact .inr hne
theorem CR: ∀(j k:Nat) (n:Int),n<256^ j->(uE k n).length<=j
 | 0,k,n,h=>by rw[lR (by simp at h;omega)];simp
 | j+1,0,n,h=>by simp[uE]
 | j+1,k+1,n,h=>by
   by_cases hp:0<n
   ·rw[b5] at h;rw[uS hp];have:=CR j k (n / 256) (by omega);simp only[eK,c!,d!];omega
   ·rw[lR (by omega)];simp
theorem Al {n:Int}(h0:0<=n)(h:n<18446744073709551616):num (digits n)=n:=Ny 8 n h0 h
theorem yH {n:Int}(h0:0<n)(h:n<18446744073709551616):digits n≠[]/\ai (digits n) 0≠0:=Hq 8 n h0 h
theorem O4 {l:e_}(h:l.length<=8)(h2:l=[]∨ai l 0≠0):digits (num l)=l:=Ti 8 l h h2
theorem Hs:digits 0=[]:=lR (W _)
theorem EX {n:Int}(h:n<16777216):(digits n).length<=3:=CR 3 8 n h
end Go.Proofs.YtoibaecagklkaaaGreatDoor
