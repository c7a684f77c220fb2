/- A part of the proof. -/
import Derived.Test.YtoibaecagklkaaaGreatDoorMj
import Derived.Shelf.Strings.OnBuilder
open And renaming intro->O
open Array renaming getElem?_eq_some_iff->b7
open Bool renaming and_eq_false_iff->d_,and_eq_true->d!,eq_iff_iff->ag,false->u,false_and->an,false_eq_true->M,not_eq_false'->ec,not_eq_true'->ef,true->A,true_and->a_,true_eq_false->N
open Decidable renaming decide->H
open Go.IntKind renaming i64->S,u64->a!
open Go.LoopState renaming ready->bf
open Go.Operand renaming const->ei,tmp->L
open Go.Proofs.Tryz renaming f115->b9,f124->b_,f165->b!,f166->ct,f198->cx,f69->cy,f71->ej,func116->ek,prog->J
open Int renaming le_refl->W,not_le->b5,not_lt->X,pow_succ->b6,toNat_natCast->en
open List renaming concat_eq_append->c4,eq_nil_or_concat->c5,getD_eq_getElem?_getD->c6,getElem?_append_left->ep,getElem?_eq_getElem->er,getElem?_map->c7,intercalate->eu,length_append->ez,length_cons->c_,length_drop->c!,length_eq_zero_iff->Y,length_map->eA,length_nil->dm,length_pos_iff->Z,map_map->eB,nil_append->dQ,take->I
open Option renaming none->D,some->C
open UInt8 renaming ofNat->V
namespace Go.Proofs.YtoibaecagklkaaaGreatDoor
open Go Sx
set_option maxRecDepth 20000
theorem aeQ (base n:Int)(R:SV->Prop):VC.holds (eZ UK 115 b9 [.int .u8 u base,.int .i64 u n] R)=(((H (n<=55)=A->R (SV.str (u&&A) [V ((base+n% 256)% 256).toNat]))/\(H (n<=55)=u->(0<=n% 18446744073709551616/\n% 18446744073709551616<(18446744073709551616:Int))/\(↑(1:Nat):Int)+(↑(digits (n% 18446744073709551616)).length:Int)<=9223372036854775807/\R (SV.str u (cat [V (((base+55)% 256+(↑(digits (n% 18446744073709551616)).length:Int)% 256)% 256).toNat] (digits (n% 18446744073709551616))))))):=by kernel_rfl
theorem af5 (s:f_):VC.holds (gT UK 198 cx [.str u s] (ac9 s))=((λa:SV=>((λb:SV=>((λc:SV=>((λe:SV=>((λf:SV=>((λd:SB=>((Fk (s=[]) (Bk (cw s) (ah a b) (∃(g:Int),aa (SB.cells [SV.int .i64 A 0,SV.iface 30 (SV.int .i64 A 2)] 2 292) (SB.cells [SV.int .i64 u g,SV.iface 30 (SV.int .i64 A 2)] 2 292)/\ah a c)) (((0:Int)<=(0:Int)/\0<(s.length:Int))/\Fk (ai s 0<128) (((0:Int)<=(0:Int)/\(0:Int)<=(1:Int)/\1<=(s.length:Int))/\((0:Int)<=(1:Int)/\1<=(s.length:Int)/\(s.length:Int)<=(s.length:Int))/\Bk (cw s) (ah (SV.aN [SV.bool A u,SV.str (u&&A&&A) (bX s D (C (ei (Value.int S 1))) 0 1),SV.str (u&&A&&u) (bX s (C (ei (Value.int S 1))) D 1 (s.length:Int)),SV.aC]) b) (∃(_:Int),False)) (((0:Int)<=(0:Int)/\0<(s.length:Int))/\Fk (ai s 0<192) (((0:Int)<=(0:Int)/\0<(s.length:Int))/\I6 ((ai s 0 - 128)% 256) /\Fk (55<(ai s 0 - 128)% 256) (I6 (1+(ai s 0 - 128)% 256)/\I6 (1+(ai s 0 - 128)% 256 - (55:Int))/\((2:Int)<=1+(ai s 0 - 128)% 256 - (55:Int)/\1+(ai s 0 - 128)% 256 - (55:Int)<(100:Int))/\Bk (oU s (1+(ai s 0 - 128)% 256 - (55:Int))) (((-9223372036854775808:Int)<=(s.length:Int) - (1+(ai s 0 - 128)% 256 - (55:Int))/\(s.length:Int) - (1+(ai s 0 - 128)% 256 - (55:Int))<=9223372036854775807)/\Fk ((s.length:Int) - (1+(ai s 0 - 128)% 256 - (55:Int))<part s (1+(ai s 0 - 128)% 256 - (55:Int))) (Bk (cw s) (ah a b) (∃(h:Int),aa d (SB.cells [SV.int .i64 u h,SV.iface 30 (SV.int .i64 A 2)] 2 292)/\ah a c)) (Fk (part s (1+(ai s 0 - 128)% 256 - (55:Int))=1) (((0:Int)<=(1:Int)/\1<(s.length:Int))/\Fk (ai s 1<128) (Bk (cw s) (ah a b) (∃(i:Int),aa (SB.cells [SV.int .i64 A 1,SV.iface 30 (SV.int .i64 A 2)] 2 292) (SB.cells [SV.int .i64 u i,SV.iface 30 (SV.int .i64 A 2)] 2 292)/\ah a c)) (((-9223372036854775808:Int)<=1+(ai s 0 - 128)% 256 - 55+part s (1+(ai s 0 - 128)% 256 - (55:Int))/\1+(ai s 0 - 128)% 256 - 55+part s (1+(ai s 0 - 128)% 256 - (55:Int))<=9223372036854775807)/\((0:Int)<=1+(ai s 0 - 128)% 256 - (55:Int)/\1+(ai s 0 - 128)% 256 - (55:Int)<=1+(ai s 0 - 128)% 256 - 55+part s (1+(ai s 0 - 128)% 256 - (55:Int))/\1+(ai s 0 - 128)% 256 - 55+part s (1+(ai s 0 - 128)% 256 - (55:Int))<=(s.length:Int))/\((-9223372036854775808:Int)<=1+(ai s 0 - 128)% 256 - 55+part s (1+(ai s 0 - 128)% 256 - (55:Int)) /\1+(ai s 0 - 128)% 256 - 55+part s (1+(ai s 0 - 128)% 256 - (55:Int))<=9223372036854775807)/\((0:Int)<=1+(ai s 0 - 128)% 256 - 55+part s (1+(ai s 0 - 128)% 256 - (55:Int))/\1+(ai s 0 - 128)% 256 - 55+part s (1+(ai s 0 - 128)% 256 - (55:Int))<=(s.length:Int)/\(s.length:Int)<=(s.length:Int))/\Bk (cw s) (ah e b) (∃(_:Int),False))) (((-9223372036854775808:Int)<=1+(ai s 0 - 128)% 256 - 55+part s (1+(ai s 0 - 128)% 256 - (55:Int))/\1+(ai s 0 - 128)% 256 - 55+part s (1+(ai s 0 - 128)% 256 - (55:Int))<=9223372036854775807)/\((0:Int)<=1+(ai s 0 - 128)% 256 - (55:Int)/\1+(ai s 0 - 128)% 256 - (55:Int)<=1+(ai s 0 - 128)% 256 - 55+part s (1+(ai s 0 - 128)% 256 - (55:Int))/\1+(ai s 0 - 128)% 256 - 55+part s (1+(ai s 0 - 128)% 256 - (55:Int))<=(s.length:Int))/\((-9223372036854775808:Int)<=1+(ai s 0 - 128)% 256 - 55+part s (1+(ai s 0 - 128)% 256 - (55:Int)) /\1+(ai s 0 - 128)% 256 - 55+part s (1+(ai s 0 - 128)% 256 - (55:Int))<=9223372036854775807)/\((0:Int)<=1+(ai s 0 - 128)% 256 - 55+part s (1+(ai s 0 - 128)% 256 - (55:Int))/\1+(ai s 0 - 128)% 256 - 55+part s (1+(ai s 0 - 128)% 256 - (55:Int))<=(s.length:Int)/\(s.length:Int)<=(s.length:Int))/\Bk (cw s) (ah e b) (∃(_:Int),False)))) (∀(j:Int),Bk (cw s) (ah a b) (∃(k:Int),aa (SB.cells [SV.int .i64 u j,SV.iface 30 (SV.int .i64 A 2)] 2 292) (SB.cells [SV.int .i64 u k,SV.iface 30 (SV.int .i64 A 2)] 2 292)/\ah a c))) (I6 ((s.length:Int) - 1)/\Fk ((s.length:Int) - 1<(ai s 0 - 128)% 256) (Bk (cw s) (ah a b) (∃(l:Int),aa d (SB.cells [SV.int .i64 u l,SV.iface 30 (SV.int .i64 A 2)] 2 292)/\ah a c)) (Fk ((ai s 0 - 128)% 256=(1:Int)) (((0:Int)<=(1:Int)/\1<(s.length:Int))/\Fk (ai s 1<128) (Bk (cw s) (ah a b) (∃(m:Int),aa (SB.cells [SV.int .i64 A 1,SV.iface 30 (SV.int .i64 A 2)] 2 292) (SB.cells [SV.int .i64 u m,SV.iface 30 (SV.int .i64 A 2)] 2 292)/\ah a c)) (I6 (1+(ai s 0 - 128)% 256)/\((0:Int)<=(1:Int)/\(1:Int)<=1+(ai s 0 - 128)% 256/\1+(ai s 0 - 128)% 256<=(s.length:Int))/\I6 (1+(ai s 0 - 128)% 256)/\((0:Int)<=1+(ai s 0 - 128)% 256/\1+(ai s 0 - 128)% 256<=(s.length:Int)/\(s.length:Int)<=(s.length:Int))/\Bk (cw s) (ah f b) (∃(_:Int),False))) (((-9223372036854775808:Int)<=1+(ai s 0 - 128)% 256 /\1+(ai s 0 - 128)% 256<=(9223372036854775807:Int))/\((0:Int)<=(1:Int)/\(1:Int)<=1+(ai s 0 - 128)% 256/\1+(ai s 0 - 128)% 256<=(s.length:Int))/\I6 (1+(ai s 0 - 128)% 256)/\((0:Int)<=1+(ai s 0 - 128)% 256/\1+(ai s 0 - 128)% 256<=(s.length:Int)/\(s.length:Int)<=(s.length:Int))/\Bk (cw s) (ah f b) (∃(_:Int),False))))) (((0:Int)<=(0:Int)/\0<(s.length:Int))/\I6 ((ai s 0 - 192)% 256)/\Fk (55<(ai s 0 - 192)% 256) (I6 (1+(ai s 0 - 192)% 256)/\I6 (1+(ai s 0 - 192)% 256 - (55:Int))/\((2:Int)<=1+(ai s 0 - 192)% 256 - (55:Int)/\1+(ai s 0 - 192)% 256 - (55:Int)<(100:Int)) /\Bk (oU s (1+(ai s 0 - 192)% 256 - (55:Int))) (((-9223372036854775808:Int)<=(s.length:Int) - (1+(ai s 0 - 192)% 256 - (55:Int))/\(s.length:Int) - (1+(ai s 0 - 192)% 256 - (55:Int))<=9223372036854775807)/\Fk ((s.length:Int) - (1+(ai s 0 - 192)% 256 - (55:Int))<part s (1+(ai s 0 - 192)% 256 - (55:Int))) (Bk (cw s) (ah a b) (∃(n:Int),aa d (SB.cells [SV.int .i64 u n,SV.iface 30 (SV.int .i64 A 2)] 2 292)/\ah a c)) (((-9223372036854775808:Int)<=1+(ai s 0 - 192)% 256 - 55+part s (1+(ai s 0 - 192)% 256 - (55:Int))/\1+(ai s 0 - 192)% 256 - 55+part s (1+(ai s 0 - 192)% 256 - (55:Int))<=9223372036854775807)/\((0:Int)<=1+(ai s 0 - 192)% 256 - (55:Int)/\1+(ai s 0 - 192)% 256 - (55:Int)<=1+(ai s 0 - 192)% 256 - 55+part s (1+(ai s 0 - 192)% 256 - (55:Int)) /\1+(ai s 0 - 192)% 256 - 55+part s (1+(ai s 0 - 192)% 256 - (55:Int))<=(s.length:Int))/\((-9223372036854775808:Int)<=1+(ai s 0 - 192)% 256 - 55+part s (1+(ai s 0 - 192)% 256 - (55:Int))/\1+(ai s 0 - 192)% 256 - 55+part s (1+(ai s 0 - 192)% 256 - (55:Int))<=9223372036854775807)/\((0:Int)<=1+(ai s 0 - 192)% 256 - 55+part s (1+(ai s 0 - 192)% 256 - (55:Int))/\1+(ai s 0 - 192)% 256 - 55+part s (1+(ai s 0 - 192)% 256 - (55:Int))<=(s.length:Int)/\(s.length:Int)<=(s.length:Int))/\Bk (cw s) (ah (SV.aN [SV.bool (A&&A) (H ((192:Int)=(192:Int))),SV.str (u&&u&&u) (bX s (C (L 70)) (C (L 73)) (1+(ai s 0 - 192)% 256 - (55:Int)) (1+(ai s 0 - 192)% 256 - 55+part s (1+(ai s 0 - 192)% 256 - (55:Int)))),SV.str (u&&u&&u) (bX s (C (L 78)) D (1+(ai s 0 - 192)% 256 - 55+part s (1+(ai s 0 - 192)% 256 - (55:Int))) (s.length:Int)),SV.aC]) b) (∃(_:Int),False))) (∀(o:Int),Bk (cw s) (ah a b) (∃(p:Int),aa (SB.cells [SV.int .i64 u o,SV.iface 30 (SV.int .i64 A 2)] 2 292) (SB.cells [SV.int .i64 u p,SV.iface 30 (SV.int .i64 A 2)] 2 292)/\ah a c))) (I6 ((s.length:Int) - 1)/\Fk ((s.length:Int) - 1<(ai s 0 - 192)% 256) (Bk (cw s) (ah a b) (∃(q:Int),aa d (SB.cells [SV.int .i64 u q,SV.iface 30 (SV.int .i64 A 2)] 2 292)/\ah a c)) (I6 (1+(ai s 0 - 192)% 256)/\((0:Int)<=(1:Int)/\(1:Int)<=1+(ai s 0 - 192)% 256/\1+(ai s 0 - 192)% 256<=(s.length:Int))/\I6 (1+(ai s 0 - 192)% 256)/\((0:Int)<=1+(ai s 0 - 192)% 256 /\1+(ai s 0 - 192)% 256<=(s.length:Int)/\(s.length:Int)<=(s.length:Int))/\Bk (cw s) (ah (SV.aN [SV.bool (A&&A) (H ((192:Int)=(192:Int))),SV.str (u&&A&&u) (bX s (C (L 70)) (C (L 73)) 1 (1+(ai s 0 - 192)% 256)),SV.str (u&&u&&u) (bX s (C (L 78)) D (1+(ai s 0 - 192)% 256) (s.length:Int)),SV.aC]) b) (∃(_:Int),False))))))))) (SB.cells [SV.int .i64 u (s.length:Int),SV.iface 30 (SV.int .i64 A 2)] 2 292))) (SV.aN [SV.bool (A&&A) (H ((128:Int)=(192:Int))),SV.str (u&&A&&u) (bX s (C (L 70)) (C (L 73)) 1 (1+(ai s 0 - 128)% 256)),SV.str (u&&u&&u) (bX s (C (L 78)) D (1+(ai s 0 - 128)% 256) (s.length:Int)),SV.aC]))) (SV.aN [SV.bool (A&&A) (H ((128:Int)=(192:Int))),SV.str (u&&u&&u) (bX s (C (L 70)) (C (L 73)) (1+(ai s 0 - 128)% 256 - (55:Int)) (1+(ai s 0 - 128)% 256 - 55+part s (1+(ai s 0 - 128)% 256 - (55:Int)))),SV.str (u&&u&&u) (bX s (C (L 78)) D (1+(ai s 0 - 128)% 256 - 55+part s (1+(ai s 0 - 128)% 256 - (55:Int))) (s.length:Int)),SV.aC]))) (SV.aN ([SV.bool A u,SV.str A [],SV.str A []]++[SV.iface 290 (SV.ptr 0 A 0)])))) (SV.aN [SV.bool u (dn s),SV.str u (af s),SV.str u (aF s),SV.aC]))) (SV.aN [SV.bool A u,SV.str A [],SV.str A [],SV.iface 290 (SV.ptr 0 A 0)])):=by kernel_rfl
theorem Bq {s:f_}(h:ai s 0<192):lead s=ai s 0 - 128:=r_ h
theorem Bp {s:f_}(h: ¬ ai s 0<192):lead s=ai s 0 - 192:=s_ h
theorem fJ {s:f_}:cw s=A↔s≠[]/\(ai s 0<128∨(¬ ai s 0<128/\55<lead s/\oU s (lead s - 54)=A/\part s (lead s - 54)<=s.length - (lead s - 54))∨(¬ ai s 0<128/\¬ 55<lead s/\lead s<=s.length - 1/\¬ (ai s 0<192/\lead s=1/\ai s 1<128))):=by
 unfold cw MX cutFrom;by_cases hA:ai s 0<128
 ·simp[hA]
 ·by_cases hL:55<lead s
  ·have:lead s≠1:=by omega
   simp[hA,hL,this]
  ·simp[hA,hL];intro _ _;omega
theorem LO {a a':Bool}{b b' c c':f_}{l1 l2 l3 l4 l5 l6:Bool}(h1:a=a')(h2:b=b')(h3:c=c'):ah (.aN [.bool l1 a,.str l2 b,.str l3 c,.aC]) (.aN [.bool l4 a',.str l5 b',.str l6 c',.aC]):=by subst h1;subst h2;subst h3;exact λ_=>rfl
theorem mu {s:f_}(h:ai s 0<128):dn s=u/\af s=s.take 1/\aF s=s.drop 1:=by refine⟨by simp[dn];omega,?_,?_⟩<;>simp[af,aF,cutFrom,MX,h]
theorem p7 {s:f_}(h: ¬ ai s 0<128)(h2: ¬ 55<lead s):af s=(s.drop (1:Int).toNat).take (lead s).toNat/\aF s=s.drop (1+lead s).toNat:=by constructor<;>simp[af,aF,cutFrom,MX,h,h2]
theorem mO {s:f_}(h: ¬ ai s 0<128)(h2:55<lead s):af s=(s.drop (lead s - 54).toNat).take (part s (lead s - 54)).toNat/\aF s=s.drop (lead s - 54+part s (lead s - 54)).toNat:=by constructor<;>simp[af,aF,cutFrom,MX,h,h2]
theorem RW {s:f_}(hs:s.length<9223372036854775808):ay (gT UK 198 cx [.str u s] (ac9 s)):=by
 refine ay.mS (af5 s) (by delta Bk Fk;exact rfl) ?_;have g0:=dW s 0;have g1:=dW s 1;have g2:=tX s (lead s - 54);by_cases h0:s=[]
 ·have hB:cw s=false:=by rw[Bool.eq_false_iff,ne_eq,fJ];simp[h0]
  simp only[h0,decide_true,forall_const,N,false_imp_iff,and_true];rw[h0] at hB;simp only[hB,M,false_imp_iff,forall_const,true_and]
  (first | exact⟨_,aa.cells (λ_=>rfl) rfl,λ_=>rfl⟩ | exact λ_=>rfl | trivial)
 have hl:0<s.length:=Z.2 h0;by_cases hA:ai s 0<128
 ·have hB:cw s=true:=fJ.2 ⟨h0,.inl hA⟩;obtain⟨k1,k2,k3⟩:=mu hA;simp only[h0,hA,hB,decide_true,decide_false,forall_const,N,M,false_imp_iff,and_true,true_and,bX];refine⟨by omega,by omega,by omega,?_⟩;exact LO k1.symm (by rw[k2];rfl) (by rw[k3];rfl)
 ·have e2:1+lead s - 55=lead s - 54:=by omega
  by_cases hC:ai s 0<192
  ·have e3:dn s=false:=by simp[dn];omega
   have e1:(ai s 0 - 128)% 256=lead s:=by rw[Bq hC];omega
   have e4:=Bq hC;by_cases hL:55<lead s
   ·obtain⟨k1,k2⟩:=mO hA hL;have hB:cw s=(oU s (lead s - 54)&&H (part s (lead s - 54)<=s.length - (lead s - 54))):=by rw[ag,fJ];simp[h0,hA,hL]
    simp only[h0,hA,hC,hL,hB,e1,e2,decide_true,decide_false,forall_const,N,M,false_imp_iff,and_true,true_and,bX];cases hb:oU s (lead s - 54)with
    | false=>simp only[an,M,false_imp_iff,forall_const,true_and];(repeat' first | apply O | intro (_:_=A) | intro (_:_=u) | intro (_:Int))<;>first | omega | (first | exact⟨_,aa.cells (λ_=>rfl) rfl,λ_=>rfl⟩ | exact λ_=>rfl | trivial)
    | true =>
      have hb':=i4.1 hb;have hn: ¬ part s (lead s - 54)=1:=by omega
      simp only[hn,decide_false,a_,N,M,false_imp_iff,forall_const,true_and,and_true]
      (repeat' first | apply O | intro (_:_=A) | intro (_:_=u) | intro (_:Int))
      all_goals simp only[p_,q_,X,b5] at *
      all_goals first
       | omega
       | (refine LO ?_ ?_ ?_
          ·simp[e3]
          ·rw[k1,show(lead s - 54+part s (lead s - 54)).toNat - (lead s - 54).toNat=(part s (lead s - 54)).toNat by omega]
          ·rw[k2])
       | (first | exact⟨_,aa.cells (λ_=>rfl) rfl,λ_=>rfl⟩ | exact λ_=>rfl | trivial)
   ·obtain⟨k1,k2⟩:=p7 hA hL;have hB:cw s=(H (lead s<=s.length - 1)&& !(H (ai s 0<192)&&H (lead s=1)&&H (ai s 1<128))):=by
     rw[ag,fJ];simp[h0,hA,hL,hC]
     try (intro _;omega)
    simp only[h0,hA,hC,hL,hB,e1,e2,decide_true,decide_false,forall_const,N,M,false_imp_iff,and_true,true_and,bX]
    (repeat' first | apply O | intro (_:_=A) | intro (_:_=u) | intro (_:Int))
    all_goals simp only[p_,q_,X,b5,d!,d_,ef,ec,a_,an] at *
    all_goals first
     | omega
     | (refine LO ?_ ?_ ?_
        ·simp[e3]
        ·rw[k1,show(1+lead s).toNat - (1:Int).toNat=(lead s).toNat by omega]
        ·rw[k2])
     | (first | exact⟨_,aa.cells (λ_=>rfl) rfl,λ_=>rfl⟩ | exact λ_=>rfl | trivial)
  ·have e3:dn s=true:=by simp[dn];omega
   have e1:(ai s 0 - 192)% 256=lead s:=by rw[Bp hC];omega
   have e4:=Bp hC;by_cases hL:55<lead s
   ·obtain⟨k1,k2⟩:=mO hA hL;have hB:cw s=(oU s (lead s - 54)&&H (part s (lead s - 54)<=s.length - (lead s - 54))):=by rw[ag,fJ];simp[h0,hA,hL]
    simp only[h0,hA,hC,hL,hB,e1,e2,decide_true,decide_false,forall_const,N,M,false_imp_iff,and_true,true_and,bX];cases hb:oU s (lead s - 54)with
    | false=>simp only[an,M,false_imp_iff,forall_const,true_and];(repeat' first | apply O | intro (_:_=A) | intro (_:_=u) | intro (_:Int))<;>first | omega | (first | exact⟨_,aa.cells (λ_=>rfl) rfl,λ_=>rfl⟩ | exact λ_=>rfl | trivial)
    | true =>
      have hb':=i4.1 hb;have hn: ¬ part s (lead s - 54)=1:=by omega
      simp only[a_,N,false_imp_iff,forall_const,and_true]
      (repeat' first | apply O | intro (_:_=A) | intro (_:_=u) | intro (_:Int))
      all_goals simp only[p_,q_,X,b5] at *
      all_goals first
       | omega
       | (refine LO ?_ ?_ ?_
          ·simp[e3]
          ·rw[k1,show(lead s - 54+part s (lead s - 54)).toNat - (lead s - 54).toNat=(part s (lead s - 54)).toNat by omega]
          ·rw[k2])
       | (first | exact⟨_,aa.cells (λ_=>rfl) rfl,λ_=>rfl⟩ | exact λ_=>rfl | trivial)
   ·obtain⟨k1,k2⟩:=p7 hA hL;have hB:cw s=(H (lead s<=s.length - 1)&& !(H (ai s 0<192)&&H (lead s=1)&&H (ai s 1<128))):=by
     rw[ag,fJ];simp[h0,hA,hL,hC]
     try (intro _;omega)
    simp only[h0,hA,hC,hL,hB,e1,e2,decide_true,decide_false,forall_const,M,false_imp_iff,true_and,bX]
    (repeat' first | apply O | intro (_:_=A) | intro (_:_=u) | intro (_:Int))
    all_goals simp only[p_,q_,X,b5,d!,d_,a_,an,Bool.not_false,N,or_false] at *
    all_goals first
     | omega
     | (refine LO ?_ ?_ ?_
        ·simp[e3]
        ·rw[k1,show(1+lead s).toNat - (1:Int).toNat=(lead s).toNat by omega]
        ·rw[k2])
     | (first | exact⟨_,aa.cells (λ_=>rfl) rfl,λ_=>rfl⟩ | exact λ_=>rfl | trivial)
def Hp:List SV->Option (Prop×cK)
 | [.str u s]=>C (s.length<9223372036854775808,ac9 s)
 | _=>D
noncomputable def abX:PT:=bY Hp
theorem Vx:ax J 198 abX:=by
 refine ee (n:=20) Tryz.func198 (by kernel_rfl) (by kernel_rfl) ?_;intro args p a h hp;unfold Hp at h;split at h
 ·rename_i s;cases h;refine⟨_,ab2,rfl,λb=> ?_,RW hp⟩;cases b
  ·exact Fa rfl
  ·exact rfl
 ·cases h
def bA (base:Int)(n:Nat):f_:=if n<=55 then [V (base+n).toNat] else V (base+55+(digits n).length).toNat::digits n
def aq (b:f_):f_:=if b.length=1/\ai b 0<128 then b else bA 128 b.length++b
theorem Hs (k:Nat)(n:Int):(Em k n).length<=k:=by
 induction k generalizing n with
 | zero=>simp[Em]
 | succ k ih =>
   unfold Em;split
   ·have:=ih (n / 256);simp only[ez,c_,dm];omega
   ·simp
theorem mP (n:Int):(digits n).length<=8:=Hs 8 n
theorem Ni {base n:Int}(h0:0<=base)(h1:base<=192)(h2:0<=n)(h3:n<1152921504606846976):ay (eZ UK 115 b9 [.int .u8 u base,.int .i64 u n] (λv=>ah v (.str u (bA base n.toNat)))):=by
 refine ay.of_eq (aeQ base n _) ?_;have e:n% 18446744073709551616=n:=by omega
 have e1:((n.toNat:Nat):Int)=n:=by omega
 have hd:=mP n;rw[e];refine⟨λh=>iJ ?_,λh=>⟨by omega,by omega,iJ ?_⟩⟩
 ·simp only[p_] at h;unfold bA;rw[r_ (by omega),e1];congr 3;omega
 ·simp only[q_] at h;unfold bA;rw[s_ (by omega),e1];simp only[cat,List.cons_append,dQ];congr 3;omega
def Cs:List SV->Option (Prop×SV)
 | [.int .u8 u base,.int .i64 u n]=>C ((0<=base/\base<=192)/\0<=n/\n<1152921504606846976,.str u (bA base n.toNat))
 | _=>D
noncomputable def Wc:PT:=bn Cs
theorem Qn:ax J 115 Wc:=by
 refine je ab2 (n:=20) Tryz.func115 (by kernel_rfl) (by kernel_rfl) ?_;intro args p r h hp;unfold Cs at h;split at h
 ·cases h;exact⟨rfl,rfl,Ni hp.1.1 hp.1.2 hp.2.1 hp.2.2⟩
 ·cases h
noncomputable def WH:List (FuncId×PT):=(198,abX)::(115,Wc)::WG
theorem KB:bp J (λf=>aD f WH):=.cons Vx (bO _) (.cons Qn (aS _) KA)
noncomputable def UL:fD:={cv with cT:=λf=>aD f WH}
theorem ab3:Sx.Good J UL:=.of bR KB bq
def OS (s:f_):cK:=.fork (cw s) λb=>match b with
 | true=>.ret (.aN [.bool u (dn s),.str u (af s),.str u (aF s),.int .i64 A 0])
 | false=>.ret (.aN [.bool A u,.str A [],.str A [],.int .i64 A 2])
theorem ae1 (b:f_)(R:SV->Prop):VC.holds (eZ UL 69 cy [.str u b] R)=((Fk ((b.length:Int)=1) (((0:Int)<=(0:Int)/\0<(b.length:Int))/\Fk (ai b 0<128) (R (SV.str u b)) ((((0:Int)<=(128:Int)/\(128:Int)<=(192:Int))/\0<=(b.length:Int)/\(b.length:Int)<1152921504606846976)/\(↑(bA 128 (b.length:Int).toNat).length:Int)+(b.length:Int)<=9223372036854775807/\R (SV.str u (cat (bA 128 (b.length:Int).toNat) b)))) ((((0:Int)<=(128:Int)/\(128:Int)<=(192:Int))/\0<=(b.length:Int)/\(b.length:Int)<1152921504606846976)/\(↑(bA 128 (b.length:Int).toNat).length:Int)+(b.length:Int)<=9223372036854775807/\R (SV.str u (cat (bA 128 (b.length:Int).toNat) b))))):=by kernel_rfl
theorem abC (s:f_):VC.holds (gT UL 166 ct [.str u s] (OS s))=((λa:SV=>((s.length<9223372036854775808/\Bk (cw s) (Bk (cw s) (ah a a) (ah a (SV.aN [SV.bool A u,SV.str A [],SV.str A [],SV.int .i64 A 2]))) (∀(_:Int),Bk (cw s) (ah (SV.aN [SV.bool A u,SV.str A [],SV.str A [],SV.int .i64 A 2]) a) (ah (SV.aN [SV.bool A u,SV.str A [],SV.str A [],SV.int .i64 A 2]) (SV.aN [SV.bool A u,SV.str A [],SV.str A [],SV.int .i64 A 2])))))) (SV.aN [SV.bool u (dn s),SV.str u (af s),SV.str u (aF s),SV.int .i64 A 0])):=by kernel_rfl
theorem sj (base:Int)(n:Nat):(bA base n).length<=9:=by unfold bA;have:=mP n;split<;>simp only[c_,dm]<;>omega
theorem mH {b:f_}(h: ¬ (b.length=1/\ai b 0<128)):aq b=bA 128 b.length++b:=s_ h
theorem O1 {b:f_}(hb:b.length<1152921504606846976):ay (eZ UL 69 cy [.str u b] (λv=>ah v (.str u (aq b)))):=by
 refine ay.mS (ae1 b _) (by delta Fk;exact rfl) ?_;have hl:=sj 128 b.length;simp only[en];refine⟨λh=>⟨by simp at h;omega,λh2=>iJ ?_,λh2=>⟨by omega,by omega,iJ ?_⟩⟩,λh=>⟨by omega,by omega,iJ ?_⟩⟩
 ·simp at h h2;exact(r_ ⟨by omega,h2⟩).symm
 ·simp only[q_] at h2;exact(mH λx=>h2 x.2).symm
 ·simp only[q_] at h;exact(mH λx=>h (by omega)).symm
def D0:List SV->Option (Prop×SV)
 | [.str u b]=>C (b.length<1152921504606846976,.str u (aq b))
 | _=>D
noncomputable def Yt:PT:=bn D0
theorem Rj:ax J 69 Yt:=by
 refine je ab3 (n:=20) Tryz.func69 (by kernel_rfl) (by kernel_rfl) ?_;intro args p r h hp;unfold D0 at h;split at h
 ·cases h;exact⟨rfl,rfl,O1 hp⟩
 ·cases h
theorem L1 {s:f_}(hs:s.length<9223372036854775808):ay (gT UL 166 ct [.str u s] (OS s)):=by
 refine ay.mS (abC s) (by delta Bk;exact rfl) ?_;cases cw s with
 | true=>exact⟨hs,λ_=>⟨λ_ _=>rfl,(λh=>by cases h)⟩,λh=>by cases h⟩
 | false=>exact⟨hs,(λh=>by cases h),λ_ _=>⟨(λh=>by cases h),λ_ _=>rfl⟩⟩
def zN:List SV->Option (Prop×cK)
 | [.str u s]=>C (s.length<9223372036854775808,OS s)
 | _=>D
noncomputable def Rc:PT:=bY zN
theorem L2:ax J 166 Rc:=by
 refine ee (n:=20) Tryz.func166 (by kernel_rfl) (by kernel_rfl) ?_;intro args p a h hp;unfold zN at h;split at h
 ·rename_i s;cases h;refine⟨_,ab3,rfl,λb=> ?_,L1 hp⟩;cases b<;>exact rfl
 ·cases h
noncomputable def WI:List (FuncId×PT):=(69,Yt)::(166,Rc)::WH
theorem KC:bp J (λf=>aD f WI):=.cons Rj (aS _) (.cons L2 (bO _) KB)
def lT (s:f_):Bool:=cw s&& !dn s&&H (aF s=[])&&H ((af s).length<=8)&& !(H (af s≠[])&&H (ai (af s) 0=0))
def adi (s:f_):cK:=.fork (lT s) λb=>match b with
 | true=>.ret (.aN [.int .u64 u (num (af s)),.int .i64 A 0])
 | false=>.ret (.aN [.int .u64 A 0,.int .i64 A 2])
noncomputable def acU (l:f_):aY :={α:=Int,pre:=λ_ i=>0<=i/\i<=l.length,kH:=λ_ i=>(l.length - i).toNat,fresh:=0,slots:=λ_ i=>[(8,.int .u64 u (num (l.take i.toNat))),(42,.int .i64 u i)],mem:=λ_ _=>[]}
noncomputable def ZZ (l:f_):fD:={cv with cT:=λf=>aD f WI,aW:=λf=>if f=124 then [(10,always (acU l))] else []}
theorem ab5 (l:f_):Sx.Good J (ZZ l):=.of bR KC bq
theorem af7 (s:f_):VC.holds (gT (ZZ (af s)) 124 b_ [.str u s] (adi s))=((λc:SV=>((λd:SV=>((s.length<9223372036854775808/\Bk (cw s) (Bk (dn s) (Bk (lT s) (ah c d) (ah c c)) (Bk (!decide (aF s=[])) (Bk (lT s) (ah c d) (ah c c)) (Fk (8<(↑(af s).length:Int)) (Bk (lT s) (ah c d) (ah c c)) (Bk (!decide (af s=[])) (((0:Int)<=(0:Int)/\0<(↑(af s).length:Int))/\Fk (ai (af s) 0=(0:Int)) (Bk (lT s) (ah c d) (ah c c)) ((∃(g:Int),(0<=g/\g<=(↑(af s).length:Int))/\0=num (I g.toNat (af s))/\0=g/\True)/\∀(a:Int),0<=a/\a<=(↑(af s).length:Int)->Fk (a<(↑(af s).length:Int)) ((0<=a/\a<(↑(af s).length:Int))/\(0<=ai (af s) a/\ai (af s) a<=18446744073709551615)/\(0<=num (I a.toNat (af s))*256% (18446744073709551616:Int) /\num (I a.toNat (af s))*256% (18446744073709551616:Int)<=(18446744073709551615:Int)/\0<=ai (af s) a/\ai (af s) a<=18446744073709551615)/\I6 (a+1)/\∃(e:Int),((0<=e/\e<=(↑(af s).length:Int))/\((↑(af s).length:Int) - e).toNat<((↑(af s).length:Int) - a).toNat)/\bitsOf BinOp.or (num (I a.toNat (af s))*256% (18446744073709551616:Int)) (ai (af s) a)=num (I e.toNat (af s))/\a+1=e/\True) (Bk (lT s) (ah (SV.aN [SV.int .u64 u (num (I a.toNat (af s))),SV.int .i64 A 0]) d) (ah (SV.aN [SV.int .u64 u (num (I a.toNat (af s))),SV.int .i64 A 0]) c)))) ((∃(h:Int),(0<=h/\h<=(↑(af s).length:Int))/\0=num (I h.toNat (af s))/\0=h/\True)/\∀(b:Int),0<=b/\b<=(↑(af s).length:Int)->Fk (b<(↑(af s).length:Int)) ((0<=b/\b<(↑(af s).length:Int))/\(0<=ai (af s) b /\ai (af s) b<=18446744073709551615)/\(0<=num (I b.toNat (af s))*256% (18446744073709551616:Int)/\num (I b.toNat (af s))*256% (18446744073709551616:Int)<=(18446744073709551615:Int)/\0<=ai (af s) b/\ai (af s) b<=18446744073709551615)/\I6 (b+1)/\∃(f:Int),((0<=f/\f<=(↑(af s).length:Int))/\((↑(af s).length:Int) - f).toNat<((↑(af s).length:Int) - b).toNat)/\bitsOf BinOp.or (num (I b.toNat (af s))*256% (18446744073709551616:Int)) (ai (af s) b)=num (I f.toNat (af s))/\b+1=f/\True) (Bk (lT s) (ah (SV.aN [SV.int .u64 u (num (I b.toNat (af s))),SV.int .i64 A 0]) d) (ah (SV.aN [SV.int .u64 u (num (I b.toNat (af s))),SV.int .i64 A 0]) c))))))) (Bk (lT s) (ah c d) (ah c c))))) (SV.aN [SV.int .u64 u (num (af s)),SV.int .i64 A 0]))) (SV.aN [SV.int .u64 A 0,SV.int .i64 A 2])):=by kernel_rfl
theorem af9 (n:Int)(R:SV->Prop):VC.holds (eZ (ZZ []) 71 ej [.int .u64 u n] R)=(((0<=n/\n<18446744073709551616)/\(digits n).length<1152921504606846976/\R (SV.str u (aq (digits n))))):=by kernel_rfl
theorem Xq (l:f_):0<=num l:=by
 unfold num;suffices ∀(l:f_) (a:Int),0<=a->0<=l.foldl (λa b=>a*256+(b.toNat:Int)) a from this _ _ (W _)
 intro l;induction l with
 | nil=>exact λ_ h=>h
 | cons b r ih=>intro a h;exact ih _ (show 0<=a*256+(b.toNat:Int)by omega)
theorem Xt {l:f_}{x:Int}(h:0<=x)(h2:x<l.length):num (l.take (x+1).toNat)=num (l.take x.toNat)*256+ai l x:=by
 have e:(x+1).toNat=x.toNat+1:=by omega
 have hx:x.toNat<l.length:=by omega
 rw[e,List.take_add_one,er hx];simp only[Option.toList,o8];congr 1;unfold ai;rw[c6,er hx];rfl
theorem Xp: ∀(n:Nat) (l:f_),l.length<=n->num l<256^ n
 | 0,l,h=>by have:l=[]:=Y.1 (by omega);subst this;decide
 | n+1,l,h=>by
   rcases c5 l with rfl | ⟨r,b,rfl⟩
   ·have:(0:Int)<256^ (n+1):=Int.pow_pos (by decide);exact this
   ·simp only[List.length_concat] at h;have:=Xp n r (by omega);have hb:=b.toNat_lt;rw[c4,o8,b6];omega
theorem aaO {l:f_}{x:Int}(_h0:0<=x)(h:x<l.length)(h2:l.length<=8):num (l.take x.toNat)<72057594037927936:=by have:=Xp 7 (l.take x.toNat) (by simp only[List.length_take];omega);exact this
theorem V0 {l:f_}{x:Int}(h0:0<=x)(h:x<l.length)(h2:l.length<=8):bitsOf .or (num (l.take x.toNat)*256% 18446744073709551616) (ai l x)=num (l.take (x+1).toNat):=by have h3:=aaO h0 h h2;have h4:=Xq (l.take x.toNat);have h5:=dW l x;rw[show num (l.take x.toNat)*256% 18446744073709551616=num (l.take x.toNat)*256 by omega,Xz h4 h5.1 h5.2,Xt h0 h]
theorem wR {s:f_}:lT s=A↔cw s=A/\dn s=u/\aF s=[]/\(af s).length<=8/\(af s=[]∨ai (af s) 0≠0):=by unfold lT;by_cases h:af s=[]<;>simp[and_assoc,h]
theorem Kc {l:f_}(hl:l.length<=8){Q:Int->Prop}(hQ:Q l.length):(∃(y:Int),((0:Int)<=y/\y<=(↑l.length:Int))/\(0:Int)=num (I y.toNat l)/\(0:Int)=y/\True) /\
            ∀(x:Int),
             (0:Int)<=x/\x<=(↑l.length:Int) ->
               (H (x<(↑l.length:Int))=A ->
                 ((0:Int)<=x/\x<(↑l.length:Int)) /\
                  ((0:Int)<=ai l x/\ai l x<=(18446744073709551615:Int)) /\
                   ((0:Int)<=num (I x.toNat l)*(256:Int)% (18446744073709551616:Int) /\
                      num (I x.toNat l)*(256:Int)% (18446744073709551616:Int)<=(18446744073709551615:Int) /\
                       (0:Int)<=ai l x/\ai l x<=(18446744073709551615:Int)) /\
                    ((-9223372036854775808:Int)<=x+(1:Int)/\x+(1:Int)<=(9223372036854775807:Int)) /\
                     ∃(y:Int),
                      (((0:Int)<=y/\y<=(↑l.length:Int))/\((↑l.length:Int) - y).toNat<((↑l.length:Int) - x).toNat) /\
                       bitsOf BinOp.or (num (I x.toNat l)*(256:Int)% (18446744073709551616:Int)) (ai l x)=num (I y.toNat l) /\
                        x+(1:Int)=y/\True) /\
                 (H (x<(↑l.length:Int))=u->Q x):=by
 refine⟨⟨0,by omega,rfl,rfl,trivial⟩,λx ⟨h1,h2⟩=>⟨λh=> ?_,λh=> ?_⟩⟩
 ·simp only[p_] at h;have h5:=dW l x;exact⟨by omega,by omega,by omega,by omega,x+1,by omega,V0 h1 h hl,rfl,trivial⟩
 ·simp only[q_] at h;obtain rfl:x=l.length:=by omega
  exact hQ
theorem Sl {s:f_}(hs:s.length<9223372036854775808):ay (gT (ZZ (af s)) 124 b_ [.str u s] (adi s)):=by
 refine ay.mS (af7 s) (by delta Bk Fk;exact rfl) ?_;have F: ∀ {p q:Prop},¬ (cw s=A/\dn s=u/\aF s=[]/\(af s).length<=8/\(af s=[]∨ai (af s) 0≠0))->q->(lT s=A->p)/\(lT s=u->q):=λh hq=>⟨λe=>absurd (wR.1 e) h,λ_=>hq⟩
 refine⟨hs,λa=>⟨λb=>F (by simp[b]) λ_=>rfl,λb=>⟨λc=>F (by simp at c;simp[c]) λ_=>rfl,λc=>⟨λd=>F (by simp at d;omega) λ_=>rfl,λd=> ?_⟩⟩⟩,λa=>F (by simp[a]) λ_=>rfl⟩;simp only[q_,X,ec,p_] at c d;have T:(af s=[]∨ai (af s) 0≠0)->lT s=true:=λe=>wR.2 ⟨a,b,c,by omega,e⟩
 have G: ∀ {p:Prop},(af s=[]∨ai (af s) 0≠0)->(lT s=A->ah (SV.aN [SV.int a! u (num (I (((af s).length:Int)).toNat (af s))),SV.int S A (0:Int)])
                      (SV.aN [SV.int a! u (num (af s)),SV.int S A (0:Int)]))/\(lT s=u->p):=λe=>⟨λ_=>by rw[en,List.take_length];exact λ_=>rfl,λh=>by rw[T e] at h;cases h⟩
 refine⟨λe=>⟨?_,λf=>F (by simp at e f;simp[e,f]) λ_=>rfl,λf=> ?_⟩,λe=> ?_⟩
 ·simp only[ef,q_] at e;have:=Z.2 e;omega
 ·exact Kc (l:=af s) (by omega) (Q:=λx=>(lT s=A->ah (SV.aN [SV.int a! u (num (I x.toNat (af s))),SV.int S A (0:Int)]) _)/\(lT s=u->_)) (G (.inr (by simpa using f)))
 ·exact Kc (l:=af s) (by omega) (Q:=λx=>(lT s=A->ah (SV.aN [SV.int a! u (num (I x.toNat (af s))),SV.int S A (0:Int)]) _)/\(lT s=u->_)) (G (.inl (by simpa using e)))
def HJ:List SV->Option (Prop×cK)
 | [.str u s]=>C (s.length<9223372036854775808,adi s)
 | _=>D
noncomputable def ab0:PT:=bY HJ
theorem VZ:ax J 124 ab0:=by
 refine ee (n:=20) Tryz.func124 (by kernel_rfl) (by kernel_rfl) ?_;intro args p a h hp;unfold HJ at h;split at h
 ·rename_i s;cases h;refine⟨_,ab5 (af s),rfl,λb=> ?_,Sl hp⟩;cases b<;>exact rfl
 ·cases h
def Iz:List SV->Option (Prop×SV)
 | [.int .u64 u n]=>C (0<=n/\n<18446744073709551616,.str u (aq (digits n)))
 | _=>D
noncomputable def acg:PT:=bn Iz
theorem Xs:ax J 71 acg:=by
 refine je (ab5 []) (n:=20) Tryz.func71 (by kernel_rfl) (by kernel_rfl) ?_;intro args p r h hp;unfold Iz at h;split at h
 ·rename_i n;cases h;have:=mP n;exact⟨rfl,rfl,ay.of_eq (af9 n _) ⟨hp,by omega,λ_=>rfl⟩⟩
 ·cases h
noncomputable def ab9:List (FuncId×PT):=(124,ab0)::(71,acg)::WI
theorem WJ:bp J (λf=>aD f ab9):=.cons VZ (bO _) (.cons Xs (aS _) KC)
end Go.Proofs.YtoibaecagklkaaaGreatDoor
namespace Go.Proofs
open Go.Shelf
def Tryz.qn:Go.Shelf.Ren:=⟨λ| 156=>116 | 165=>160 | 166=>161 | 169=>162 | 240=>194 | 241=>195 | 276=>212 | 277=>213 | n=>n,λ| 31=>29 | 9=>9 | 3=>3 | 4=>4 | 0=>0 | 20=>20 | 72=>249 | 76=>251 | 70=>247 | 37=>54 | 75=>84 | 127=>272 | 164=>142 | 5=>5 | 80=>102 | n=>n,λ| n=>n⟩
theorem Tryz.Kr:Go.Proofs.Lays.n156 J Tryz.qn:={
 mixed:=by kernel_rfl,
 f156:=ek.trans (congrArg C (by kernel_rfl)),
 f165:=Tryz.func160.trans (congrArg C (by kernel_rfl)),
 f166:=Tryz.func161.trans (congrArg C (by kernel_rfl)),
 f169:=Tryz.func162.trans (congrArg C (by kernel_rfl)),
 f240:=Tryz.func194.trans (congrArg C (by kernel_rfl)),
 f241:=Tryz.func195.trans (congrArg C (by kernel_rfl)),
 f276:=Tryz.func212.trans (congrArg C (by kernel_rfl)),
 f277:=Tryz.func213.trans (congrArg C (by kernel_rfl)),
 t0:=Tryz.underlying0,
 a0:=Tryz.isAgg0,
 z0:=Tryz.sizeOf0,
 v0:=Tryz.zeroValue0,
 t3:=Tryz.underlying3,
 a3:=Tryz.isAgg3,
 z3:=Tryz.sizeOf3,
 v3:=Tryz.zeroValue3,
 t4:=Tryz.underlying4,
 a4:=Tryz.isAgg4,
 z4:=Tryz.sizeOf4,
 v4:=Tryz.zeroValue4,
 t9:=Tryz.underlying9,
 a9:=Tryz.isAgg9,
 z9:=Tryz.sizeOf9,
 v9:=Tryz.zeroValue9,
 t20:=Tryz.underlying20,
 a20:=Tryz.isAgg20,
 z20:=Tryz.sizeOf20,
 v20:=Tryz.zeroValue20,
 t31:=Tryz.underlying29,
 a31:=Tryz.isAgg29,
 z31:=Tryz.sizeOf29,
 v31:=Tryz.zeroValue29,
 t37:=Tryz.underlying54,
 a37:=Tryz.isAgg54,
 z37:=Tryz.sizeOf54,
 v37:=Tryz.zeroValue54,
 t70:=Tryz.underlying247,
 a70:=Tryz.isAgg247,
 z70:=Tryz.sizeOf247,
 v70:=Tryz.zeroValue247,
 t72:=Tryz.underlying249,
 a72:=Tryz.isAgg249,
 z72:=Tryz.sizeOf249,
 v72:=Tryz.zeroValue249,
 t75:=Tryz.underlying84,
 a75:=Tryz.isAgg84,
 z75:=Tryz.sizeOf84,
 v75:=Tryz.zeroValue84,
 t76:=Tryz.underlying251,
 a76:=Tryz.isAgg251,
 z76:=Tryz.sizeOf251,
 v76:=Tryz.zeroValue251,
 t127:=Tryz.underlying272,
 a127:=Tryz.isAgg272,
 z127:=Tryz.sizeOf272,
 v127:=Tryz.zeroValue272,
 t164:=Tryz.underlying142,
 a164:=Tryz.isAgg142,
 z164:=Tryz.sizeOf142,
 v164:=Tryz.zeroValue142}
end Go.Proofs
namespace Go.Proofs
open Go.Shelf Go.RowKit
theorem Tryz.extra:Builder.Extra J Tryz.qn:={
 sizeBuilder:=by kernel_rfl,
 liesBuilder:=by kernel_rfl,
 t5:=by kernel_rfl,
 a5:=by intro w;kernel_rfl,
 z5:=by intro w;kernel_rfl,
 v5:=by intro w;kernel_rfl,
 infoByte:=by kernel_rfl,
 cellsByte:=by kernel_rfl,
 sizeByte:=by kernel_rfl,
 neB5:=by decide}
end Go.Proofs
namespace Go.Proofs.YtoibaecagklkaaaGreatDoor
open Go Sx
set_option maxRecDepth 20000
theorem aat:Tryz.qn.f 156=116:=by kernel_rfl
def flat (l:List f_):f_:=l.flatten
def dJ (f:Nat->f_)(i n:Nat):List f_:=(List.range n).map λj=>f (i+j)
theorem sP {f:Nat->f_}{i n j:Nat}{x:f_}(h:(dJ f i n)[j]?=C x):j<n/\f (i+j)=x:=by
 unfold dJ at h;rw[c7] at h;by_cases hj:j<n
 ·rw[List.getElem?_range hj] at h;injection h with h;exact⟨hj,h⟩
 ·rw[List.getElem?_eq_none (by simpa using hj)] at h;cases h
theorem i6 (f:Nat->f_)(i n:Nat):(dJ f i n).length=n:=by simp[dJ]
def strCells:List SV->Option (List f_)
 | []=>C []
 | .str _ s::r=>(match strCells r with
   | some l=>C (s::l)
   | none=>D)
 | _=>D
theorem xV {cs:List SV}{l:List f_}(h:strCells cs=C l):l.length=cs.length/\∀(j:Nat) (x:f_),l[j]?=C x->∃ b,cs[j]?=C (.str b x):=by
 induction cs generalizing l with
 | nil=>cases h;exact⟨rfl,λj x hx=>by simp at hx⟩
 | cons v r ih =>
   unfold strCells at h;split at h
   ·cases ‹_::_=[]›
   ·rename_i b s r' e;injection e with e1 e2;subst e1;subst e2;split at h
    ·rename_i l' hl;cases h;obtain⟨g1,g2⟩:=ih hl;refine⟨by simp[g1],λj x hx=> ?_⟩;cases j with
     | zero=>cases hx;exact⟨b,rfl⟩
     | succ j=>exact g2 j x (by simpa using hx)
    ·cases h
   ·cases h
def OV (m:Mem):SV->Option (Prop×List f_)
 | .aO=>C (True,[])
 | .slc key o n _ c=>(match m.get key with
   | some (.cells cs _ _)=>(match strCells ((cs.drop o).take n)with
     | some l=>C (l.length=n/\n<=c,l)
     | none=>D)
   | _=>D)
 | .aX key 1 _ i n c=>(match m.get key with
   | some (.rows _ n' [.str f] _ _ _)=>C (i+n<=n'/\n<=c,dJ f i n)
   | _=>D)
 | .bE key 1 _ o i n c=>(match m.get key with
   | some (.view _ o' n' [.str f])=>C (o'=o/\i+n<=n'/\n<=c,dJ f i n)
   | _=>D)
 | _=>D
theorem TJ {Γ E m nx w}(h:aJ Γ E m nx w){v:SV}{p:Prop}{l:List f_}(hv:OV m v=C (p,l))(hp:p) :
  (∃ a c,l=[]/\v.val E=.slice a 0 c)∨(∃ k o c,v.val E=.slice (C ⟨k,o,D⟩) l.length c/\l.length<=c/\k<w.heap.size/\∀(j:Nat) x,l[j]?=C x->w.cell? ⟨k,o+j,D⟩=C (.string ⟨x.toArray⟩)):=by
 unfold OV at hv;split at hv
 ·injection hv with hv;injection hv with h1 h2;subst h2;exact .inl ⟨_,_,rfl,rfl⟩
 ·rename_i key o n cl c;split at hv
  ·rename_i cs tot ty hk;split at hv
   ·rename_i l' hl;cases hv;obtain⟨g1,g2⟩:=xV hl;obtain⟨ob,ho,ce,fr,rfl,_,h4,_⟩:=h.oB key _ hk rfl;refine .inr ⟨E key,o,c,by rw[hp.1];rfl,by omega,(b7.1 ho).1,λj x hx=> ?_⟩;obtain⟨b,hb⟩:=g2 j x hx;rw[cell_of ho];have hj:j<n:=by have:=(List.getElem?_eq_some_iff.1 hx).1;omega
    rw[List.getElem?_take_of_lt hj,List.getElem?_drop] at hb;exact h4 _ _ hb
   ·cases hv
  ·cases hv
 ·rename_i key z i n c;split at hv
  ·rename_i z' n' f ro tot ty hk;cases hv;cases n with
   | zero=>exact .inl ⟨_,_,rfl,rfl⟩
   | succ n =>
     obtain⟨ob,ho,ce,fr,rfl,_,_,_,h4⟩:=h.oB key _ hk (SB.jd (i:=0) (by omega));refine .inr ⟨E key,i,c,?_,by rw[i6];exact hp.2,(b7.1 ho).1,λj x hx=> ?_⟩
     ·rw[i6];cases z<;>simp[SV.val,show Nat.beq (n+1) 0=u from rfl]
     ·obtain⟨hj,hx⟩:=sP hx;rw[cell_of ho];have:=h4 (i+j) 0 (.str f) (by omega) rfl;simpa [av.at,SV.val,hx] using this
  ·cases hv
 ·rename_i key z o i n c;split at hv
  ·rename_i z' o' n' f hk;cases hv;cases n with
   | zero=>exact .inl ⟨_,_,rfl,rfl⟩
   | succ n =>
     obtain⟨ob,ho,ce,ty,fr,rfl,h4⟩:=h.oB key _ hk (SB.Bu (i:=0) (by omega));refine .inr ⟨E key,o+i,c,?_,by rw[i6];exact hp.2.2,(b7.1 ho).1,λj x hx=> ?_⟩
     ·rw[i6];cases z<;>simp[SV.val,show Nat.beq (n+1) 0=u from rfl]
     ·obtain⟨hj,hx⟩:=sP hx;rw[cell_of ho];have:=h4 (i+j) 0 (.str f) (by omega) rfl;obtain⟨rfl,_⟩:=hp;simpa [av.at,SV.val,hx,Nat.add_assoc] using this
  ·cases hv
 ·cases hv
noncomputable def yO:PT:=λargs m nx K=>match args with
 | [v,.str _ []]=>(match OV m v with
   | some (p,l)=>.and (.atom (p/\l.length<=140737488355328/\(flat l).length<=140737488355328)) (K (.str u (flat l)) m nx)
   | none=>.fail "texts that are not known")
 | _=>.fail "a separator"
theorem Ax:aQ yO:=by
 intro args m nx K K' hK h;unfold yO at h ⊢;split at h
 ·split at h
  ·rename_i p l hl;exact⟨h.1,hK _ _ _ h.2⟩
  ·exact h.elim
 ·exact h.elim
theorem yP: ∀ l:List f_,Lib.join l []=flat l
 | []=>rfl
 | [x]=>by simp[Lib.join,flat,eu]
 | x::y::r=>by have:=yP (y::r);simp[Lib.join,flat,eu] at this ⊢;rw[this]
theorem Qs:ax J 116 yO:=by
 intro args m nx K hk hwf hargs Γ E w hs;unfold yO at hk;split at hk
 ·rename_i v b;split at hk
  ·rename_i p l hl;obtain⟨⟨hp,h1,h2⟩,hk⟩:=hk;have hc:Calls J 116 (SV.vals E [v,.str b []]).toArray w λe w'=>e=.returned (.string ⟨(flat l).toArray⟩)/\RowKit.Below w.heap.size w w':=by
    rw[← aat];rcases TJ hs hl hp with ⟨a,c,rfl,hv⟩ | ⟨k,o,c,hv,g1,g2,g3⟩
    ·simp only[SV.vals,hv,SV.val];exact(Any.strings_Join_none Tryz.Kr Tryz.extra a c _ w).mono λe w' ⟨he,hw⟩=>⟨he,hw▸ RowKit.Below.refl _ _⟩
    ·simp only[SV.vals,hv,SV.val];have:=Any.strings_Join Tryz.Kr Tryz.extra k o c (l.map λx=>⟨x.toArray⟩) ⟨#[]⟩ w (λj x hx=>by
      rw[c7] at hx;cases hj:l[j]? with
      | none=>rw[hj] at hx;cases hx
      | some y=>rw[hj] at hx;cases hx;exact g3 j y hj) g2 (by simpa using h1) (by simpa using g1) (by
      simp only[eB];have:(l.map ((λx:ByteArray=>x.data.toList)∘ λx=>(⟨x.toArray⟩:ByteArray)))=l:=by
       rw[show((λx:ByteArray=>x.data.toList)∘ λx:f_=>(⟨x.toArray⟩:ByteArray))=id from by funext x;simp]
       simp
      rw[this];show(Lib.join l []).length<=_;rw[yP];exact h2)
     rw[eA] at this;refine this.mono λe w' ⟨he,hw⟩=>⟨?_,hw⟩
     rw[he,eB];have:(l.map ((λx:ByteArray=>x.data.toList)∘ λx=>(⟨x.toArray⟩:ByteArray)))=l:=by
      rw[show((λx:ByteArray=>x.data.toList)∘ λx:f_=>(⟨x.toArray⟩:ByteArray))=id from by funext x;simp]
      simp
     rw[this];rw[← yP]
   refine fN ek (by kernel_rfl) (by kernel_rfl) (hc.mono ?_);rintro e w' ⟨rfl,hb⟩;exact⟨_,rfl,E,C (.str u (flat l)),m,nx,λ_ _=>rfl,Nat.le_refl _,λx hx=>by cases hx;rfl,hs.still (Ext.Xv hb),hk⟩
  ·exact hk.elim
 ·exact hk.elim
end Go.Proofs.YtoibaecagklkaaaGreatDoor
namespace Go.Proofs.YtoibaecagklkaaaGreatDoor
open Go Sx
set_option maxRecDepth 20000
noncomputable def acd:List (FuncId×PT):=(116,yO)::ab9
theorem WK:bp J (λf=>aD f acd):=.cons Qs Ax WJ
def bl (s:f_):Nat->f_
 | 0=>s
 | k+1=>aF (bl s k)
def vE (s:f_):f_:=s.take (s.length - (aF s).length)
def aj (s:f_)(k:Nat):f_:=vE (bl s k)
def scan:Nat->f_->Nat×Bool
 | 0,s=>(0,H (s=[]))
 | f+1,s=>if s=[] then(0,A)else if cw s then((scan f (aF s)).1+1,(scan f (aF s)).2)else(0,u)
def aA (s:f_):Nat:=(scan s.length s).1
def dD (s:f_):Bool:=(scan s.length s).2
def Nq (s:f_):cK:=.fork (dD s) λb=>match b with
 | true=>.all Nat λc=>.req (aA s<=c) (.new (λk=>.aN [.aX k 1 A 0 (aA s) c,.int .i64 A 0]) (.rows A (aA s) [.str (aj s)] u c 9))
 | false=>.ret (.aN [.aO,.int .i64 A 2])
structure Jp where
 k:Nat
 c:Nat
structure A8 (s:f_)(x:Jp):Prop where
 walk: ∀ j,j<x.k->bl s j≠[]/\cw (bl s j)=A
 cap:x.k<=x.c
noncomputable def Uw (s:f_):aY :=
 {α:=Jp,pre:=λ_ x=>A8 s x,kH:=λ_ x=>(bl s x.k).length,fresh:=1,slots:=λ_ x=>[(3,.str u (bl s x.k))],
  mem:=λst x=>[(2,.cells [.aX st.nx 1 A 0 x.k x.c] 1 29),(st.nx,.rows A x.k [.str (aj s)] u x.c 9)]}
noncomputable def ac5 (s:f_):fD:={cv with cT:=λf=>aD f acd,aW:=λf=>if f=214 then [(1,always (Uw s))] else []}
theorem afD (s:f_):Sx.Good J (ac5 s):=.of bR WK bq
theorem abr (s:f_):VC.holds (gT (ac5 s) 165 b! [.str u s] (Nq s))=((∀(b:Loop),(∃(e:Jp),A8 s e/\s=bl s e.k/\(1:Nat)=(1:Nat)/\e.k=0/\(SB.rows A e.k [av.str (aj s)] u e.c 9).no=A/\aa (SB.loop bf D b) (SB.loop bf D b)/\aa (SB.cells (SV.str u s).cells 1 9) (SB.cells (SV.str u s).cells 1 9)/\aa (SB.cells (SV.int .i64 A 0).cells 1 30) (SB.cells (SV.int .i64 A 0).cells 1 30)/\aa (SB.cells SV.aO.cells 1 29) (SB.cells SV.aO.cells 1 29)/\True)/\∀(a:Jp),A8 s a->Bk (!decide (bl s a.k=[])) ((bl s a.k).length<9223372036854775808/\Bk (cw (bl s a.k)) (((-9223372036854775808:Int)<=(↑(bl s a.k).length:Int) - (↑(aF (bl s a.k)).length:Int)/\(↑(bl s a.k).length:Int) - (↑(aF (bl s a.k)).length:Int)<=9223372036854775807)/\((0:Int)<=(0:Int)/\0<=(↑(bl s a.k).length:Int) - (↑(aF (bl s a.k)).length:Int)/\(↑(bl s a.k).length:Int) - (↑(aF (bl s a.k)).length:Int)<=(↑(bl s a.k).length:Int))/\b=b/\(0+a.k<=a.k/\True/\2*(a.k+1)*16<=(281474976710656:Nat) /\a.k+1<(9223372036854775808:Nat))/\a.c=a.c*1/\∀(f:Nat),a.k+1<=f->∃(d:Jp),(A8 s d/\(bl s d.k).length<(bl s a.k).length)/\aF (bl s a.k)=bl s d.k/\(1:Nat)=(1:Nat)/\((0:Nat)=(0:Nat)/\a.k+1=d.k/\f=d.c)/\True/\aa (SB.rows A (a.k+1) [av.str λg=>if g<a.k then aj s g else ck [bX (bl s a.k) D (C (L 37)) 0 ((↑(bl s a.k).length:Int) - (↑(aF (bl s a.k)).length:Int))] (g - a.k)] u (f*1) 9) (SB.rows A d.k [av.str (aj s)] u d.c 9)/\aa (SB.loop bf D b) (SB.loop bf D b)/\aa (SB.cells (SV.str u s).cells 1 9) (SB.cells (SV.str u s).cells 1 9)/\aa (SB.cells (SV.int .i64 A 0).cells 1 30) (SB.cells (SV.int .i64 A 0).cells 1 30)/\aa (SB.cells SV.aO.cells 1 29) (SB.cells SV.aO.cells 1 29)/\True) (∀(_:Int),((-9223372036854775808:Int)<=(s.length:Int) - (↑(bl s a.k).length:Int)/\(s.length:Int) - (↑(bl s a.k).length:Int)<=9223372036854775807)/\b=b/\Bk (dD s) (∃(i:Nat),aA s<=i/\False) (ah (SV.aN [SV.aO,SV.int .i64 A 2]) (SV.aN [SV.aO,SV.int .i64 A 2])))) (Bk (dD s) (∃(h:Nat),aA s<=h/\aa (SB.rows A a.k [av.str (aj s)] u a.c 9) (SB.rows A (aA s) [av.str (aj s)] u h 9)/\ah (SV.aN [SV.aX ((5:Nat)) 1 A 0 a.k a.c,SV.int .i64 A 0]) (SV.aN [SV.aX ((5:Nat)) 1 A 0 (aA s) h,SV.int .i64 A 0])) (ah (SV.aN [SV.aX ((5:Nat)) 1 A 0 a.k a.c,SV.int .i64 A 0]) (SV.aN [SV.aO,SV.int .i64 A 2]))))):=by kernel_rfl
theorem HX {s:f_}(h: ¬ ai s 0<128):0<=lead s:=by unfold lead;split<;>omega
theorem BZ {s:f_}(h:cw s=A):(aF s).length<s.length:=by
 obtain⟨h0,h⟩:=fJ.1 h;have hl:=Z.2 h0;by_cases hA:ai s 0<128
 ·rw[(mu hA).2.2,c!];omega
 ·have g:=HX hA;by_cases hL:55<lead s
  ·have:=tX s (lead s - 54);rw[(mO hA hL).2,c!];omega
  ·rw[(p7 hA hL).2,c!];omega
theorem Gs: ∀(f f':Nat) (s:f_),s.length<=f->s.length<=f'->scan f s=scan f' s
 | 0,0,_,_,_=>rfl
 | 0,f'+1,s,h,_=>by have:s=[]:=Y.1 (by omega);subst this;rfl
 | f+1,0,s,_,h=>by have:s=[]:=Y.1 (by omega);subst this;rfl
 | f+1,f'+1,s,h,h'=>by
   simp only[scan];split
   ·rfl
   ·split
    ·rename_i hc;have:=BZ hc;rw[Gs f f' (aF s) (by omega) (by omega)]
    ·rfl
theorem kE:dD []=A/\aA []=0:=⟨rfl,rfl⟩
theorem yN {s:f_}(h0:s≠[])(h:cw s=A):dD s=dD (aF s)/\aA s=aA (aF s)+1:=by
 have hl:=BZ h;unfold dD aA;obtain⟨n,hn⟩: ∃ n,s.length=n+1:=⟨s.length - 1,by omega⟩
 rw[hn];simp only[scan,h0,h,if_true,if_false];rw[Gs n (aF s).length (aF s) (by omega) (by omega)];exact⟨rfl,rfl⟩
theorem Fv {s:f_}(h0:s≠[])(h:cw s=u):dD s=false:=by
 have hl:=Z.2 h0;unfold dD;obtain⟨n,hn⟩: ∃ n,s.length=n+1:=⟨s.length - 1,by omega⟩
 rw[hn];simp[scan,h0,h]
theorem lI (s:f_): ∀ k,bl s (k+1)=bl (aF s) k
 | 0=>by simp only[bl]
 | k+1=>by rw[bl,lI s k];simp only[bl]
def Walk (s:f_)(k:Nat):Prop:=∀ j,j<k->bl s j≠[]/\cw (bl s j)=A
theorem Walk.len {s:f_}: ∀ {k:Nat},Walk s k->(bl s k).length+k<=s.length
 | 0,_=>by simp[bl]
 | k+1,h=>by have h1:=Walk.len (k:=k) (λj hj=>h j (by omega));have h2:=BZ (h k (by omega)).2;simp only[bl];omega
theorem Walk.tail {s:f_}{k:Nat}(h:Walk s (k+1)):Walk (aF s) k:=λj hj=>by rw[← lI];exact h (j+1) (by omega)
theorem Walk.items {s:f_}: ∀ {k:Nat},Walk s k->dD s=dD (bl s k)/\aA s=aA (bl s k)+k
 | 0,_=>⟨rfl,rfl⟩
 | k+1,h=>by obtain⟨h0,h1⟩:=h 0 (by omega);obtain⟨g1,g2⟩:=yN (s:=s) h0 h1;obtain⟨g3,g4⟩:=Walk.items h.tail;rw[lI,g1,g2,g3,g4];exact⟨rfl,by omega⟩
theorem Walk.snoc {s:f_}{k:Nat}(h:Walk s k)(h0:bl s k≠[])(h1:cw (bl s k)=A):Walk s (k+1):=λj hj=>by
 by_cases e:j=k
 ·subst e;exact⟨h0,h1⟩
 ·exact h j (by omega)
theorem Sx.aa.Gq {z:Bool}{n n':Nat}{az cols':List av}{tot tot':Nat}{ty:TypeId}(hn:n=n')(ht:tot=tot')(hl:az.length=cols'.length)
  (h: ∀(i k:Nat) (c':av),i<n->cols'[k]?=C c'->∃ c,az[k]?=C c/\c.at i=c'.at i):aa (.rows z n az u tot ty) (.rows z n' cols' u tot' ty):=by
 subst hn;subst ht;refine aa.of rfl rfl λhno=> ?_;refine⟨hno,λE o ⟨c,fr,h1,h2,h3,h4,h5⟩=>⟨c,fr,h1,h2,by rw[← hl];exact h3,h4,λi k col hi hk=> ?_⟩,λ_=>rfl⟩;obtain⟨c0,hc0,he⟩:=h i k col hi hk;rw[← he,← hl];exact h5 i k c0 hi hc0
theorem Sx.aa.nZ {z:Bool}{n n':Nat}{f g:Nat->f_}{tot tot':Nat}{ty:TypeId}(hn:n=n')(ht:tot=tot')(h: ∀ i,i<n->f i=g i):aa (.rows z n [.str f] u tot ty) (.rows z n' [.str g] u tot' ty):=by
 refine Sx.aa.Gq hn ht rfl λi k c' hi hk=>⟨.str f,?_,?_⟩
 ·match k,hk with
  | 0,_=>rfl
 ·match k,hk with
  | 0,hk =>simp only[List.getElem?_cons_zero,Option.some.injEq] at hk;subst hk;simp only[av.at,h i hi]
theorem Ki {s:f_}(hs:s.length<1099511627776):ay (gT (ac5 s) 165 b! [.str u s] (Nq s)):=by
 refine ay.mS (abr s) (by delta Bk;exact rfl) ?_;intro R;refine⟨⟨⟨0,0⟩,⟨λj hj=>absurd hj (Nat.not_lt_zero _),Nat.le_refl _⟩,rfl,rfl,rfl,rfl,aa.refl _,aa.refl _,aa.refl _,aa.refl _,trivial⟩,λx hx=> ?_⟩;have hw:Walk s x.k:=hx.walk;have hl:=hw.len;obtain⟨i1,i2⟩:=hw.items;refine⟨λa=> ?_,λa=> ?_⟩
 ·have a:bl s x.k≠[]:=by simpa using a
  refine⟨by omega,λb=> ?_,λb y=> ?_⟩
  ·have hlt:=BZ b;refine⟨by omega,by omega,rfl,⟨by omega,trivial,by omega,by omega⟩,by omega,λc hc=>⟨⟨x.k+1,c⟩,⟨⟨hw.snoc a b,hc⟩,?_⟩,?_,rfl,⟨rfl,rfl,rfl⟩,trivial,?_,aa.refl _,aa.refl _,aa.refl _,aa.refl _,trivial⟩⟩
   ·simp only[bl];exact hlt
   ·simp only[bl]
   ·refine Sx.aa.nZ rfl (Nat.mul_one c) λi hi=> ?_;by_cases h:i<x.k
    ·rw[r_ h]
    ·rw[s_ h];have e:i=x.k:=by omega
     subst e;simp only[Nat.sub_self,ck,bX,aj,vE];rw[show((↑(bl s x.k).length:Int) - (↑(aF (bl s x.k)).length:Int)).toNat=(bl s x.k).length - (aF (bl s x.k)).length by omega];simp only[List.getD_cons_zero]
  ·have hb:=Fv a b;rw[← i1] at hb;exact⟨by omega,rfl,(λh=>by rw[hb] at h;cases h),λ_ _=>rfl⟩
 ·have a:bl s x.k=[]:=by simpa using a
  rw[a] at i1 i2;have n0:aA s=x.k:=by rw[i2,kE.2];omega
  have b0:dD s=true:=by rw[i1,kE.1]
  refine⟨λ_=>⟨x.c,by rw[n0];exact hx.cap,?_,?_⟩,λh=>by rw[b0] at h;cases h⟩
  ·rw[n0];exact aa.refl _
  ·rw[n0];exact λ_=>rfl
def yM:List SV->Option (Prop×cK)
 | [.str u s]=>C (s.length<1099511627776,Nq s)
 | _=>D
noncomputable def aas:PT:=bY yM
theorem Wq:ax J 165 aas:=by
 refine ee (n:=20) (fn:=b!) Tryz.func165 (by kernel_rfl) (by kernel_rfl) ?_;intro args p a h hp;unfold yM at h;split at h
 ·rename_i s;cases h;refine⟨_,afD s,rfl,λb=> ?_,Ki hp⟩;cases b with
  | false=>exact rfl
  | true =>
    intro c;refine⟨rfl,rfl,λk=>by simp[SV.wf,SV.fH,Nat.blt_eq],λE E' k k' h=> ?_⟩;cases hn:aA s with
    | zero=>rfl
    | succ n =>rw[hn] at h;have hk:E k=E' k':=h rfl;simp[SV.val,SV.vals,hk]
 ·cases h
end Go.Proofs.YtoibaecagklkaaaGreatDoor
namespace Go.Proofs.YtoibaecagklkaaaGreatDoor.Sx
open Go
def aed:SV->SV
 | .int k _ n=>.int k A n
 | .bool _ b=>.bool A b
 | .str _ s=>.str A s
 | v=>v
def W0:SV->SV
 | .agg cs=>.agg (cs.map aed)
 | v=>aed v
def lit:SV->SV
 | .aN vs=>.aN (vs.map W0)
 | v=>W0 v
theorem pN {f:SV->SV}{E:Nat->Nat}(hf: ∀ v,(f v).val E=v.val E): ∀ l:List SV,SV.vals E (l.map f)=SV.vals E l
 | []=>rfl
 | v::r=>by simp only[List.map_cons,SV.vals,hf,pN hf r]
theorem KE (E:Nat->Nat)(v:SV):(aed v).val E=v.val E:=by cases v<;>rfl
theorem W1 (E:Nat->Nat)(v:SV):(W0 v).val E=v.val E:=by cases v<;>first | rfl | simp only[W0,SV.val,pN (KE E)]
theorem Br (E:Nat->Nat)(v:SV):(lit v).val E=v.val E:=by cases v<;>first | rfl | simp only[lit,W0,SV.val,pN (KE E),pN (W1 E)]
def Wo:SV->Bool
 | .int _ l _=>l
 | .bool l _=>l
 | .str l _=>l
 | _=>u
def isLit:SV->Bool
 | .agg cs=>cs.all Wo
 | v=>Wo v
def GV:List SV->Bool
 | []=>A
 | v::r=>isLit v&&GV r
def sO (az:List av)(i:Nat):Nat->List SV
 | 0=>[]
 | n+1=>az.map (λc=>lit (c.at i))++sO az (i+1) n
theorem xJ {az:List av}: ∀ {n i0 j:Nat} {v:SV},(sO az i0 n)[j]?=C v->∃ i k col,j=i*az.length+k/\i<n/\az[k]?=C col/\v=lit (col.at (i0+i))
 | 0,_,_,_,h=>by simp[sO] at h
 | n+1,i0,j,v,h=>by
   simp only[sO] at h;by_cases hj:j<az.length
   ·rw[ep (by simpa using hj),c7] at h;cases hc:az[j]? with
    | none=>rw[hc] at h;cases h
    | some c=>rw[hc] at h;injection h with h;exact⟨0,j,c,by simp,by omega,hc,h.symm⟩
   ·rw[List.getElem?_append_right (by simpa using hj)] at h;obtain⟨i,k,col,h1,h2,h3,h4⟩:=xJ h;simp only[eA] at h1;refine⟨i+1,k,col,by rw[Nat.add_mul];omega,by omega,h3,?_⟩;rw[h4];congr 2;omega
def adg:SB->SB
 | .rows A 0 az ro tot ty=>.rows A 0 az ro tot ty
 | .rows _z n az u tot ty=>.cells (sO az 0 n) tot ty
 | B=>B
def Qf:SV->SV
 | .aX _ _ A _ 0 _=>.aO
 | .aX k _ _ 0 n c=>.slc k 0 n u c
 | v=>v
def Qg:SV->SV
 | .agg cs=>.agg (cs.map Qf)
 | v=>Qf v
def aac:SV->SV
 | .aN vs=>.aN (vs.map Qg)
 | v=>Qg v
theorem aab (B:SB):aa B (adg B):=by
 unfold adg;split
 ·exact aa.refl _
 ·rename_i z n az tot ty hne;refine aa.of rfl rfl λ_=> ?_;have hno:(SB.rows z n az u tot ty).no=false:=by
   cases z with
   | false=>rfl
   | true =>
     cases n with
     | zero=>exact(hne rfl rfl).elim
     | succ n=>rfl
  refine⟨hno,λE o ⟨c,fr,h1,h2,h3,h4,h5⟩=>⟨c,fr,h1,h2 rfl,λj v hv=> ?_,h4⟩,λ_=>rfl⟩;obtain⟨i,k,col,g1,g2,g3,g4⟩:=xJ hv;rw[g4,Br,Nat.zero_add,g1];exact h5 i k col g2 g3
 ·exact aa.refl _
theorem Fg (E:Nat->Nat)(v:SV):(Qf v).val E=v.val E:=by
 unfold Qf;split
 ·rfl
 ·rename_i k w z n c hne;have hz:(z&&Nat.beq n 0)=false:=by
   cases z with
   | false=>rfl
   | true =>
     cases n with
     | zero=>exact(hne rfl rfl).elim
     | succ n=>rfl
  simp[SV.val,hz]
 ·rfl
theorem Fh (E:Nat->Nat)(v:SV):(Qg v).val E=v.val E:=by
 unfold Qg;split
 ·simp only[SV.val,pN (Fg E)]
 ·exact Fg E _
theorem VM (E:Nat->Nat)(v:SV):(aac v).val E=v.val E:=by
 unfold aac;split
 ·simp only[SV.val,pN (Fh E)]
 ·exact Fh E _
def cK.vcl (m:Mem)(nx:Nat)(K:SV->Mem->Nat->VC):cK->VC
 | .ret v=>K (lit v) m nx
 | .new v B=>K (lit (aac (v nx))) ((nx,adg B)::m) (nx+1)
 | .all α f=>.all α λx=>(f x).vcl m nx K
 | .req p a=>.imp p (a.vcl m nx K)
 | .fork b f=>match b with
   | true=>(f A).vcl m nx K
   | false=>(f u).vcl m nx K
def afV (Γ:aT)(E:Nat->Nat)(nx:Nat)(K:SV->Mem->Nat->VC):SV->Mem->Nat->VC:=λv m' nx' =>.atom (∀(E':Nat->Nat) (w':World),(∀ k,k<nx->E' k=E k)->nx<=nx'->aJ Γ E' m' nx' w'->bx (lift K) Γ E nx (v.val E') w')
theorem cK.uw {Γ:aT}{E:Nat->Nat}{m:Mem}{nx:Nat}{K:SV->Mem->Nat->VC}: ∀ {a:cK},(a.vcl m nx K).holds->(a.vc m nx (afV Γ E nx K)).holds
 | .ret v,h=>λE' w' h1 h2 hs=>⟨E',C (lit v),m,nx,h1,h2,λx hx=>by cases hx;rw[Br],hs,h⟩
 | .new v B,h=>λE' w' h1 h2 hs=>⟨E',C (lit (aac (v nx))),_,nx+1,h1,h2,λx hx=>by cases hx;rw[Br,VM],hs.Md (aab B),h⟩
 | .all _ f,h=>λx=>cK.uw (a:=f x) (h x)
 | .req _ a,h=>λx=>cK.uw (a:=a) (h x)
 | .fork b f,h=>bP.2 (by
    cases b with
    | true=>exact cK.uw (a:=f A) h
    | false=>exact cK.uw (a:=f u) h)
theorem cK.s7 {m:Mem}{nx:Nat}{K K':SV->Mem->Nat->VC}(hK: ∀ v m nx,(K v m nx).holds->(K' v m nx).holds): ∀ {a:cK},(a.vcl m nx K).holds->(a.vcl m nx K').holds
 | .ret _,h=>hK _ _ _ h
 | .new _ _,h=>hK _ _ _ h
 | .all _ f,h=>λx=>cK.s7 (a:=f x) hK (h x)
 | .req _ a,h=>λx=>cK.s7 (a:=a) hK (h x)
 | .fork b f,h=>by
   cases b with
   | true=>exact cK.s7 (a:=f A) hK h
   | false=>exact cK.s7 (a:=f u) hK h
noncomputable def rH (spec:List SV->Option (Prop×cK)):PT:=λargs m nx K=>match GV args with
 | true=>(match spec (args.map AS)with
   | some (p,a)=>.and (.atom p) (a.vcl m nx K)
   | none=>.fail "arguments that nothing is said of")
 | false=>bY spec args m nx K
theorem nE (spec:List SV->Option (Prop×cK)):aQ (rH spec):=by
 intro args m nx K K' hK h;unfold rH at h ⊢;split at h
 ·split at h
  ·exact⟨h.1,cK.s7 hK h.2⟩
  ·exact h
 ·exact bO spec _ _ _ _ _ hK h
theorem bx.ack {Γ:aT}{E:Nat->Nat}{nx:Nat}{r:Value}{w:World}{K:SV->Mem->Nat->VC}(h:bx (lift (λv m nx=>K (lit v) m nx)) Γ E nx r w):bx (lift K) Γ E nx r w:=by
 obtain⟨E',sv,m',nx',h1,h2,h3,h4,h5⟩:=h;cases sv with
 | none=>exact h5.elim
 | some v=>exact⟨E',C (lit v),m',nx',h1,h2,λx hx=>by cases hx;rw[Br];exact h3 v rfl,h4,h5⟩
theorem Ba {P:Program}{f:FuncId}{spec:List SV->Option (Prop×cK)}(h:ax P f (bY spec)):ax P f (rH spec):=by
 intro args m nx K hk hwf hargs Γ E w hs;unfold rH at hk;split at hk
 ·have:(bY spec args m nx (afV Γ E nx K)).holds:=by
   unfold bY;split at hk
   ·rename_i p a hsp
    first
     | exact⟨hk.1,cK.uw hk.2⟩
     | (rw[hsp];exact⟨hk.1,cK.uw hk.2⟩)
   ·exact hk.elim
  refine(h args m nx _ this hwf hargs Γ E w hs).mono (λe w' hh=> ?_) (λ_ _ h=>h);obtain⟨E',sv,m',nx',h1,h2,h3,h4,h5⟩:=hh;cases sv with
  | none=>exact h5.elim
  | some v=>rw[h3 v rfl];exact h5 E' w' h1 h2 h4
 ·exact h args m nx K hk hwf hargs Γ E w hs
noncomputable def qC (spec:List SV->Option (Prop×SV)):PT:=λargs m nx K=>match GV args with
 | true=>bn spec args m nx (λv m nx=>K (lit v) m nx)
 | false=>bn spec args m nx K
theorem qD (spec:List SV->Option (Prop×SV)):aQ (qC spec):=by
 intro args m nx K K' hK h;unfold qC at h ⊢;split at h
 ·exact aS spec _ _ _ _ _ (λv m nx=>hK _ _ _) h
 ·exact aS spec _ _ _ _ _ hK h
theorem Dp {P:Program}{f:FuncId}{spec:List SV->Option (Prop×SV)}(h:ax P f (bn spec)):ax P f (qC spec):=by
 intro args m nx K hk hwf hargs Γ E w hs;unfold qC at hk;split at hk
 ·exact(h args m nx _ hk hwf hargs Γ E w hs).mono (λe w' hh=>bx.ack hh) (λ_ _ h=>h)
 ·exact h args m nx K hk hwf hargs Γ E w hs
def KF (t:List SV->Mem->Bool)(pt:PT):PT:=λargs m nx K=>match t args m with
 | true=>pt args m nx (λv m nx=>K (lit v) m nx)
 | false=>pt args m nx K
theorem NO {t:List SV->Mem->Bool}{pt:PT}(h:aQ pt):aQ (KF t pt):=by
 intro args m nx K K' hK hh;unfold KF at hh ⊢;split at hh
 ·exact h _ _ _ _ _ (λv m nx=>hK _ _ _) hh
 ·exact h _ _ _ _ _ hK hh
theorem W3 {P:Program}{f:FuncId}{t:List SV->Mem->Bool}{pt:PT}(h:ax P f pt):ax P f (KF t pt):=by
 intro args m nx K hk hwf hargs Γ E w hs;unfold KF at hk;split at hk
 ·exact(h args m nx _ hk hwf hargs Γ E w hs).mono (λe w' hh=>bx.ack hh) (λ_ _ h=>h)
 ·exact h args m nx K hk hwf hargs Γ E w hs
def W2 (m:Mem):SV->Bool
 | .aO=>A
 | .slc key o n _ _=>(match m.get key with
   | some (.cells cs _ _)=>GV ((cs.drop o).take n)
   | _=>u)
 | _=>u
end Go.Proofs.YtoibaecagklkaaaGreatDoor.Sx
namespace Go.Proofs.YtoibaecagklkaaaGreatDoor
open Go Sx
set_option maxRecDepth 20000
noncomputable def xe:List (FuncId×PT) :=
 (165,rH yM)::(116,KF (λargs m=>W2 m (args.headD .cD)) yO)::(124,rH HJ)::(71,qC Iz) ::
 (69,qC D0)::(166,rH zN)::(198,rH Hp)::(115,qC Cs)::iD
theorem lB:bp J (λf=>aD f xe) :=
 .cons (Ba Wq) (nE _) (.cons (W3 Qs) (NO Ax) (.cons (Ba VZ) (nE _) (.cons (Dp Xs) (qD _)
  (.cons (Dp Rj) (qD _) (.cons (Ba L2) (nE _) (.cons (Ba Vx) (nE _) (.cons (Dp Qn) (qD _) fo)))))))
noncomputable def afv:fD:={cv with cT:=λf=>aD f xe,rounds:=4}
theorem afB:Sx.Good J afv:=.of bR lB bq
theorem k5 {x y:f_}{i:Int}(h0:0<=i)(h:i<x.length):ai (x++y) i=ai x i:=by unfold ai;rw[c6,c6,ep (by omega)]
theorem jt (b:UInt8)(l:f_):ai (b::l) 0=(b.toNat:Int):=rfl
theorem wD (b c:UInt8)(l:f_):ai (b::c::l) 1=(c.toNat:Int):=rfl
theorem ofNat_toNat {n:Int}(h0:0<=n)(h:n<256):((V n.toNat).toNat:Int)=n:=by rw[UInt8.toNat_ofNat'];omega
theorem oN {k:Nat}{n:Int}(h:n<=0):Em k n=[]:=by
 cases k with
 | zero=>rfl
 | succ k=>unfold Em;rw[s_ (by omega)]
theorem Be {k:Nat}{n:Int}(h:0<n):Em (k+1) n=Em k (n / 256)++[V (n% 256).toNat]:=by
 conv=>lhs;unfold Em
 rw[r_ h]
theorem PS: ∀(k:Nat) (n:Int),0<=n->n<256^ k->num (Em k n)=n
 | 0,n,h0,h=>by
   have:n=0:=by simp at h;omega
   subst this;rfl
 | k+1,n,h0,h=>by
   by_cases hp:0<n
   ·rw[b6] at h;rw[Be hp,o8,PS k (n / 256) (by omega) (by omega),ofNat_toNat (by omega) (by omega)];omega
   ·have:n=0:=by omega
    subst this;rw[oN (W _)];rfl
theorem rN {x:f_}{b:UInt8}(h:x≠[]):ai (x++[b]) 0=ai x 0:=by have:=Z.2 h;exact k5 (W _) (by omega)
theorem JP: ∀(k:Nat) (n:Int),0<n->n<256^ k->Em k n≠[]/\ai (Em k n) 0≠0
 | 0,n,h0,h=>by simp at h;omega
 | k+1,n,h0,h=>by
   rw[b6] at h;rw[Be h0];refine⟨by simp,?_⟩;by_cases hp:0<n / 256
   ·obtain⟨h1,h2⟩:=JP k (n / 256) hp (by omega);rw[rN h1];exact h2
   ·rw[oN (by omega),dQ,jt,ofNat_toNat (by omega) (by omega)];omega
theorem Lf: ∀(n:Nat) (l:f_),l.length<=n->ai l 0≠0->0<num l
 | 0,l,hn,h=>by have:l=[]:=Y.1 (by omega);subst this;exact absurd rfl h
 | n+1,l,hn,h=>by
   rcases c5 l with rfl | ⟨r,b,rfl⟩
   ·exact absurd rfl h
   ·rw[c4] at h hn ⊢;rw[o8];by_cases hr:r=[]
    ·subst hr;rw[dQ,jt] at h;have:num []=0:=rfl;rw[this];omega
    ·rw[rN hr] at h;have h2:=Lf n r (by simp at hn;omega) h;omega
theorem aaP (l:f_)(h:ai l 0≠0):0<num l:=Lf l.length l (Nat.le_refl _) h
theorem Vy: ∀(k:Nat) (l:f_),l.length<=k->(l=[]∨ai l 0≠0)->Em k (num l)=l
 | 0,l,h,_=>by have:l=[]:=Y.1 (by omega);subst this;rfl
 | k+1,l,h,hl=>by
   rcases c5 l with rfl | ⟨r,b,rfl⟩
   ·exact oN (W _)
   ·rw[c4] at hl h ⊢;have hne:ai (r++[b]) 0≠0:=by
     rcases hl with hl | hl
     ·simp at hl
     ·exact hl
    have hp:=aaP _ hne;have hb:=b.toNat_lt;rw[Be hp];rw[o8] at hp ⊢;have e1:(num r*256+(b.toNat:Int)) / 256=num r:=by omega
    have e2:((num r*256+(b.toNat:Int))% 256).toNat=b.toNat:=by omega
    rw[e1,e2,UInt8.ofNat_toNat];congr 1;refine Vy k r (by simp at h;omega) ?_;by_cases hr:r=[]
    ·exact .inl hr
    ·rw[rN hr] at hne;exact .inr hne
theorem EZ: ∀(j k:Nat) (n:Int),n<256^ j->(Em k n).length<=j
 | 0,k,n,h=>by rw[oN (by simp at h;omega)];simp
 | j+1,0,n,h=>by simp[Em]
 | j+1,k+1,n,h=>by
   by_cases hp:0<n
   ·rw[b6] at h;rw[Be hp];have:=EZ j k (n / 256) (by omega);simp only[ez,c_,dm];omega
   ·rw[oN (by omega)];simp
theorem B4 {n:Int}(h0:0<=n)(h:n<18446744073709551616):num (digits n)=n:=PS 8 n h0 h
theorem Aq {n:Int}(h0:0<n)(h:n<18446744073709551616):digits n≠[]/\ai (digits n) 0≠0:=JP 8 n h0 h
theorem RX {l:f_}(h:l.length<=8)(h2:l=[]∨ai l 0≠0):digits (num l)=l:=Vy 8 l h h2
theorem JR:digits 0=[]:=oN (W _)
theorem Hu {n:Int}(h:n<16777216):(digits n).length<=3:=EZ 3 8 n h
end Go.Proofs.YtoibaecagklkaaaGreatDoor
