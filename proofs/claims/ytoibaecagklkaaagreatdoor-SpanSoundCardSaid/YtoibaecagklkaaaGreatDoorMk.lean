/-
  Conditions that the executor computes, written out by a program (vcgen.py).
-/
import Derived.Test.YtoibaecagklkaaaGreatDoorMj
import Derived.Test.YtoibaecagklkaaaGreatDoorProg
import Derived.Shelf.Strings.OnBuilder
namespace Go.Proofs.YtoibaecagklkaaaGreatDoor
open Go Sx
set_option maxRecDepth 20000
theorem Vb (base n:Int)(R:SV->Prop):VC.holds (dm PC 115 Tryz.f115 [.int .u8 false base,.int .i64 false n] R)=(((decide (n<=55)=true->R (SV.str (false&&true) [UInt8.ofNat ((base+n% 256)% 256).toNat]))/\(decide (n<=55)=false->(0<=n% 18446744073709551616/\n% 18446744073709551616<(18446744073709551616:Int))/\(↑(1:Nat):Int)+(↑(digits (n% 18446744073709551616)).length:Int)<=9223372036854775807/\R (SV.str false (cat [UInt8.ofNat (((base+55)% 256+(↑(digits (n% 18446744073709551616)).length:Int)% 256)% 256).toNat] (digits (n% 18446744073709551616))))))):=by kernel_rfl
theorem WS (s:List UInt8):VC.holds (fW PC 198 Tryz.f198 [.str false s] (Uj s))=((fun P0:SV=>((fun P1:SV=>((fun P2:SV=>((fun P3:SV=>((fun P4:SV=>((fun P5:SB=>(((decide (s=[])=true->(bE s=true->af P0 P1)/\(bE s=false->∃(u17:Int),ah (SB.cells [SV.int .i64 true 0,SV.iface 30 (SV.int .i64 true 2)] 2 292) (SB.cells [SV.int .i64 false u17,SV.iface 30 (SV.int .i64 true 2)] 2 292)/\af P0 P2))/\(decide (s=[])=false->((0:Int)<=(0:Int)/\0<(s.length:Int))/\(decide (ai s 0<128)=true->((0:Int)<=(0:Int)/\(0:Int)<=(1:Int)/\1<=(s.length:Int))/\((0:Int)<=(1:Int)/\1<=(s.length:Int)/\(s.length:Int)<=(s.length:Int))/\(bE s=true->af (SV.aL [SV.bool true false,SV.str (false&&true&&true) (bz s none (some (Operand.const (Value.int IntKind.i64 1))) 0 1),SV.str (false&&true&&false) (bz s (some (Operand.const (Value.int IntKind.i64 1))) none 1 (s.length:Int)),SV.aI]) P1)/\(bE s=false->∃(_:Int),False))/\(decide (ai s 0<128)=false->((0:Int)<=(0:Int)/\0<(s.length:Int))/\(decide (ai s 0<192)=true->((0:Int)<=(0:Int)/\0<(s.length:Int))/\((-9223372036854775808:Int)<=(ai s 0 - 128)% 256/\(ai s 0 - 128)% 256<=(9223372036854775807:Int)) /\(decide (55<(ai s 0 - 128)% 256)=true->((-9223372036854775808:Int)<=1+(ai s 0 - 128)% 256/\1+(ai s 0 - 128)% 256<=(9223372036854775807:Int))/\((-9223372036854775808:Int)<=1+(ai s 0 - 128)% 256 - (55:Int)/\1+(ai s 0 - 128)% 256 - (55:Int)<=(9223372036854775807:Int))/\((2:Int)<=1+(ai s 0 - 128)% 256 - (55:Int)/\1+(ai s 0 - 128)% 256 - (55:Int)<(100:Int))/\(iM s (1+(ai s 0 - 128)% 256 - (55:Int))=true->((-9223372036854775808:Int)<=(s.length:Int) - (1+(ai s 0 - 128)% 256 - (55:Int))/\(s.length:Int) - (1+(ai s 0 - 128)% 256 - (55:Int))<=9223372036854775807)/\(decide ((s.length:Int) - (1+(ai s 0 - 128)% 256 - (55:Int))<part s (1+(ai s 0 - 128)% 256 - (55:Int)))=true->(bE s=true->af P0 P1)/\(bE s=false->∃(u15:Int),ah P5 (SB.cells [SV.int .i64 false u15,SV.iface 30 (SV.int .i64 true 2)] 2 292)/\af P0 P2))/\(decide ((s.length:Int) - (1+(ai s 0 - 128)% 256 - (55:Int))<part s (1+(ai s 0 - 128)% 256 - (55:Int)))=false ->(decide (part s (1+(ai s 0 - 128)% 256 - (55:Int))=1)=true->((0:Int)<=(1:Int)/\1<(s.length:Int))/\(decide (ai s 1<128)=true->(bE s=true->af P0 P1)/\(bE s=false->∃(u14:Int),ah (SB.cells [SV.int .i64 true 1,SV.iface 30 (SV.int .i64 true 2)] 2 292) (SB.cells [SV.int .i64 false u14,SV.iface 30 (SV.int .i64 true 2)] 2 292)/\af P0 P2))/\(decide (ai s 1<128)=false->((-9223372036854775808:Int)<=1+(ai s 0 - 128)% 256 - 55+part s (1+(ai s 0 - 128)% 256 - (55:Int))/\1+(ai s 0 - 128)% 256 - 55+part s (1+(ai s 0 - 128)% 256 - (55:Int))<=9223372036854775807)/\((0:Int)<=1+(ai s 0 - 128)% 256 - (55:Int)/\1+(ai s 0 - 128)% 256 - (55:Int)<=1+(ai s 0 - 128)% 256 - 55+part s (1+(ai s 0 - 128)% 256 - (55:Int))/\1+(ai s 0 - 128)% 256 - 55+part s (1+(ai s 0 - 128)% 256 - (55:Int))<=(s.length:Int))/\((-9223372036854775808:Int)<=1+(ai s 0 - 128)% 256 - 55+part s (1+(ai s 0 - 128)% 256 - (55:Int)) /\1+(ai s 0 - 128)% 256 - 55+part s (1+(ai s 0 - 128)% 256 - (55:Int))<=9223372036854775807)/\((0:Int)<=1+(ai s 0 - 128)% 256 - 55+part s (1+(ai s 0 - 128)% 256 - (55:Int))/\1+(ai s 0 - 128)% 256 - 55+part s (1+(ai s 0 - 128)% 256 - (55:Int))<=(s.length:Int)/\(s.length:Int)<=(s.length:Int))/\(bE s=true->af P3 P1)/\(bE s=false->∃(_:Int),False)))/\(decide (part s (1+(ai s 0 - 128)% 256 - (55:Int))=1)=false->((-9223372036854775808:Int)<=1+(ai s 0 - 128)% 256 - 55+part s (1+(ai s 0 - 128)% 256 - (55:Int))/\1+(ai s 0 - 128)% 256 - 55+part s (1+(ai s 0 - 128)% 256 - (55:Int))<=9223372036854775807)/\((0:Int)<=1+(ai s 0 - 128)% 256 - (55:Int)/\1+(ai s 0 - 128)% 256 - (55:Int)<=1+(ai s 0 - 128)% 256 - 55+part s (1+(ai s 0 - 128)% 256 - (55:Int))/\1+(ai s 0 - 128)% 256 - 55+part s (1+(ai s 0 - 128)% 256 - (55:Int))<=(s.length:Int))/\((-9223372036854775808:Int)<=1+(ai s 0 - 128)% 256 - 55+part s (1+(ai s 0 - 128)% 256 - (55:Int)) /\1+(ai s 0 - 128)% 256 - 55+part s (1+(ai s 0 - 128)% 256 - (55:Int))<=9223372036854775807)/\((0:Int)<=1+(ai s 0 - 128)% 256 - 55+part s (1+(ai s 0 - 128)% 256 - (55:Int))/\1+(ai s 0 - 128)% 256 - 55+part s (1+(ai s 0 - 128)% 256 - (55:Int))<=(s.length:Int)/\(s.length:Int)<=(s.length:Int))/\(bE s=true->af P3 P1)/\(bE s=false->∃(_:Int),False))))/\(iM s (1+(ai s 0 - 128)% 256 - (55:Int))=false->∀(u11:Int),(bE s=true->af P0 P1)/\(bE s=false->∃(u10:Int),ah (SB.cells [SV.int .i64 false u11,SV.iface 30 (SV.int .i64 true 2)] 2 292) (SB.cells [SV.int .i64 false u10,SV.iface 30 (SV.int .i64 true 2)] 2 292)/\af P0 P2)))/\(decide (55<(ai s 0 - 128)% 256)=false->((-9223372036854775808:Int)<=(s.length:Int) - 1/\(s.length:Int) - 1<=(9223372036854775807:Int))/\(decide ((s.length:Int) - 1<(ai s 0 - 128)% 256)=true->(bE s=true->af P0 P1)/\(bE s=false->∃(u9:Int),ah P5 (SB.cells [SV.int .i64 false u9,SV.iface 30 (SV.int .i64 true 2)] 2 292)/\af P0 P2)) /\(decide ((s.length:Int) - 1<(ai s 0 - 128)% 256)=false->(decide ((ai s 0 - 128)% 256=(1:Int))=true->((0:Int)<=(1:Int)/\1<(s.length:Int))/\(decide (ai s 1<128)=true->(bE s=true->af P0 P1)/\(bE s=false->∃(u8:Int),ah (SB.cells [SV.int .i64 true 1,SV.iface 30 (SV.int .i64 true 2)] 2 292) (SB.cells [SV.int .i64 false u8,SV.iface 30 (SV.int .i64 true 2)] 2 292)/\af P0 P2))/\(decide (ai s 1<128)=false->((-9223372036854775808:Int)<=1+(ai s 0 - 128)% 256/\1+(ai s 0 - 128)% 256<=(9223372036854775807:Int))/\((0:Int)<=(1:Int)/\(1:Int)<=1+(ai s 0 - 128)% 256/\1+(ai s 0 - 128)% 256<=(s.length:Int))/\((-9223372036854775808:Int)<=1+(ai s 0 - 128)% 256/\1+(ai s 0 - 128)% 256<=(9223372036854775807:Int))/\((0:Int)<=1+(ai s 0 - 128)% 256/\1+(ai s 0 - 128)% 256<=(s.length:Int)/\(s.length:Int)<=(s.length:Int))/\(bE s=true->af P4 P1)/\(bE s=false->∃(_:Int),False)))/\(decide ((ai s 0 - 128)% 256=(1:Int))=false->((-9223372036854775808:Int)<=1+(ai s 0 - 128)% 256 /\1+(ai s 0 - 128)% 256<=(9223372036854775807:Int))/\((0:Int)<=(1:Int)/\(1:Int)<=1+(ai s 0 - 128)% 256/\1+(ai s 0 - 128)% 256<=(s.length:Int))/\((-9223372036854775808:Int)<=1+(ai s 0 - 128)% 256/\1+(ai s 0 - 128)% 256<=(9223372036854775807:Int))/\((0:Int)<=1+(ai s 0 - 128)% 256/\1+(ai s 0 - 128)% 256<=(s.length:Int)/\(s.length:Int)<=(s.length:Int))/\(bE s=true->af P4 P1)/\(bE s=false->∃(_:Int),False)))))/\(decide (ai s 0<192)=false->((0:Int)<=(0:Int)/\0<(s.length:Int))/\((-9223372036854775808:Int)<=(ai s 0 - 192)% 256/\(ai s 0 - 192)% 256<=(9223372036854775807:Int))/\(decide (55<(ai s 0 - 192)% 256)=true->((-9223372036854775808:Int)<=1+(ai s 0 - 192)% 256/\1+(ai s 0 - 192)% 256<=(9223372036854775807:Int))/\((-9223372036854775808:Int)<=1+(ai s 0 - 192)% 256 - (55:Int)/\1+(ai s 0 - 192)% 256 - (55:Int)<=(9223372036854775807:Int))/\((2:Int)<=1+(ai s 0 - 192)% 256 - (55:Int)/\1+(ai s 0 - 192)% 256 - (55:Int)<(100:Int)) /\(iM s (1+(ai s 0 - 192)% 256 - (55:Int))=true->((-9223372036854775808:Int)<=(s.length:Int) - (1+(ai s 0 - 192)% 256 - (55:Int))/\(s.length:Int) - (1+(ai s 0 - 192)% 256 - (55:Int))<=9223372036854775807)/\(decide ((s.length:Int) - (1+(ai s 0 - 192)% 256 - (55:Int))<part s (1+(ai s 0 - 192)% 256 - (55:Int)))=true->(bE s=true->af P0 P1)/\(bE s=false->∃(u5:Int),ah P5 (SB.cells [SV.int .i64 false u5,SV.iface 30 (SV.int .i64 true 2)] 2 292)/\af P0 P2))/\(decide ((s.length:Int) - (1+(ai s 0 - 192)% 256 - (55:Int))<part s (1+(ai s 0 - 192)% 256 - (55:Int)))=false->((-9223372036854775808:Int)<=1+(ai s 0 - 192)% 256 - 55+part s (1+(ai s 0 - 192)% 256 - (55:Int))/\1+(ai s 0 - 192)% 256 - 55+part s (1+(ai s 0 - 192)% 256 - (55:Int))<=9223372036854775807)/\((0:Int)<=1+(ai s 0 - 192)% 256 - (55:Int)/\1+(ai s 0 - 192)% 256 - (55:Int)<=1+(ai s 0 - 192)% 256 - 55+part s (1+(ai s 0 - 192)% 256 - (55:Int)) /\1+(ai s 0 - 192)% 256 - 55+part s (1+(ai s 0 - 192)% 256 - (55:Int))<=(s.length:Int))/\((-9223372036854775808:Int)<=1+(ai s 0 - 192)% 256 - 55+part s (1+(ai s 0 - 192)% 256 - (55:Int))/\1+(ai s 0 - 192)% 256 - 55+part s (1+(ai s 0 - 192)% 256 - (55:Int))<=9223372036854775807)/\((0:Int)<=1+(ai s 0 - 192)% 256 - 55+part s (1+(ai s 0 - 192)% 256 - (55:Int))/\1+(ai s 0 - 192)% 256 - 55+part s (1+(ai s 0 - 192)% 256 - (55:Int))<=(s.length:Int)/\(s.length:Int)<=(s.length:Int))/\(bE s=true->af (SV.aL [SV.bool (true&&true) (decide ((192:Int)=(192:Int))),SV.str (false&&false&&false) (bz s (some (Operand.tmp 70)) (some (Operand.tmp 73)) (1+(ai s 0 - 192)% 256 - (55:Int)) (1+(ai s 0 - 192)% 256 - 55+part s (1+(ai s 0 - 192)% 256 - (55:Int)))),SV.str (false&&false&&false) (bz s (some (Operand.tmp 78)) none (1+(ai s 0 - 192)% 256 - 55+part s (1+(ai s 0 - 192)% 256 - (55:Int))) (s.length:Int)),SV.aI]) P1)/\(bE s=false->∃(_:Int),False))) /\(iM s (1+(ai s 0 - 192)% 256 - (55:Int))=false->∀(u3:Int),(bE s=true->af P0 P1)/\(bE s=false->∃(u2:Int),ah (SB.cells [SV.int .i64 false u3,SV.iface 30 (SV.int .i64 true 2)] 2 292) (SB.cells [SV.int .i64 false u2,SV.iface 30 (SV.int .i64 true 2)] 2 292)/\af P0 P2)))/\(decide (55<(ai s 0 - 192)% 256)=false->((-9223372036854775808:Int)<=(s.length:Int) - 1/\(s.length:Int) - 1<=(9223372036854775807:Int))/\(decide ((s.length:Int) - 1<(ai s 0 - 192)% 256)=true->(bE s=true->af P0 P1)/\(bE s=false->∃(u1:Int),ah P5 (SB.cells [SV.int .i64 false u1,SV.iface 30 (SV.int .i64 true 2)] 2 292)/\af P0 P2))/\(decide ((s.length:Int) - 1<(ai s 0 - 192)% 256)=false->((-9223372036854775808:Int)<=1+(ai s 0 - 192)% 256/\1+(ai s 0 - 192)% 256<=(9223372036854775807:Int))/\((0:Int)<=(1:Int)/\(1:Int)<=1+(ai s 0 - 192)% 256/\1+(ai s 0 - 192)% 256<=(s.length:Int))/\((-9223372036854775808:Int)<=1+(ai s 0 - 192)% 256/\1+(ai s 0 - 192)% 256<=(9223372036854775807:Int))/\((0:Int)<=1+(ai s 0 - 192)% 256 /\1+(ai s 0 - 192)% 256<=(s.length:Int)/\(s.length:Int)<=(s.length:Int))/\(bE s=true->af (SV.aL [SV.bool (true&&true) (decide ((192:Int)=(192:Int))),SV.str (false&&true&&false) (bz s (some (Operand.tmp 70)) (some (Operand.tmp 73)) 1 (1+(ai s 0 - 192)% 256)),SV.str (false&&false&&false) (bz s (some (Operand.tmp 78)) none (1+(ai s 0 - 192)% 256) (s.length:Int)),SV.aI]) P1)/\(bE s=false->∃(_:Int),False))))))))) (SB.cells [SV.int .i64 false (s.length:Int),SV.iface 30 (SV.int .i64 true 2)] 2 292))) (SV.aL [SV.bool (true&&true) (decide ((128:Int)=(192:Int))),SV.str (false&&true&&false) (bz s (some (Operand.tmp 70)) (some (Operand.tmp 73)) 1 (1+(ai s 0 - 128)% 256)),SV.str (false&&false&&false) (bz s (some (Operand.tmp 78)) none (1+(ai s 0 - 128)% 256) (s.length:Int)),SV.aI]))) (SV.aL [SV.bool (true&&true) (decide ((128:Int)=(192:Int))),SV.str (false&&false&&false) (bz s (some (Operand.tmp 70)) (some (Operand.tmp 73)) (1+(ai s 0 - 128)% 256 - (55:Int)) (1+(ai s 0 - 128)% 256 - 55+part s (1+(ai s 0 - 128)% 256 - (55:Int)))),SV.str (false&&false&&false) (bz s (some (Operand.tmp 78)) none (1+(ai s 0 - 128)% 256 - 55+part s (1+(ai s 0 - 128)% 256 - (55:Int))) (s.length:Int)),SV.aI]))) (SV.aL ([SV.bool true false,SV.str true [],SV.str true []]++[SV.iface 290 (SV.ptr 0 true 0)])))) (SV.aL [SV.bool false (cQ s),SV.str false (aa s),SV.str false (aE s),SV.aI]))) (SV.aL [SV.bool true false,SV.str true [],SV.str true [],SV.iface 290 (SV.ptr 0 true 0)])):=by kernel_rfl
theorem xd {s:List UInt8}(h:ai s 0<192):lead s=ai s 0 - 128:=if_pos h
theorem w5 {s:List UInt8}(h: ¬ ai s 0<192):lead s=ai s 0 - 192:=if_neg h
theorem dX {s:List UInt8}:bE s=true↔s≠[]/\(ai s 0<128∨(¬ ai s 0<128/\55<lead s/\iM s (lead s - 54)=true/\part s (lead s - 54)<=s.length - (lead s - 54))∨(¬ ai s 0<128/\¬ 55<lead s/\lead s<=s.length - 1/\¬ (ai s 0<192/\lead s=1/\ai s 1<128))):=by
 unfold bE Hx cutFrom
 by_cases hA:ai s 0<128
 ·simp[hA]
 ·by_cases hL:55<lead s
  ·have:lead s≠1:=by omega
   simp[hA,hL,this]
  ·simp[hA,hL]
   intro _ _;omega
theorem F4 {a a':Bool}{b b' c c':List UInt8}{l1 l2 l3 l4 l5 l6:Bool}(h1:a=a')(h2:b=b')(h3:c=c'):af (.aL [.bool l1 a,.str l2 b,.str l3 c,.aI]) (.aL [.bool l4 a',.str l5 b',.str l6 c',.aI]):=by
 subst h1;subst h2;subst h3;exact fun _=>rfl
theorem jT {s:List UInt8}(h:ai s 0<128):cQ s=false/\aa s=s.take 1/\aE s=s.drop 1:=by
 refine⟨by simp[cQ];omega,?_,?_⟩<;>simp[aa,aE,cutFrom,Hx,h]
theorem nC {s:List UInt8}(h: ¬ ai s 0<128)(h2: ¬ 55<lead s):aa s=(s.drop (1:Int).toNat).take (lead s).toNat/\aE s=s.drop (1+lead s).toNat:=by
 constructor<;>simp[aa,aE,cutFrom,Hx,h,h2]
theorem kD {s:List UInt8}(h: ¬ ai s 0<128)(h2:55<lead s):aa s=(s.drop (lead s - 54).toNat).take (part s (lead s - 54)).toNat/\aE s=s.drop (lead s - 54+part s (lead s - 54)).toNat:=by
 constructor<;>simp[aa,aE,cutFrom,Hx,h,h2]
theorem Mm {s:List UInt8}(hs:s.length<9223372036854775808):aA (fW PC 198 Tryz.f198 [.str false s] (Uj s)):=by
 refine aA.of_eq (WS s) ?_
 have g0:=dG s 0
 have g1:=dG s 1
 have g2:=pV s (lead s - 54)
 by_cases h0:s=[]
 ·have hB:bE s=false:=by rw[Bool.eq_false_iff,ne_eq,dX];simp[h0]
  simp only[h0,decide_true,forall_const,Bool.true_eq_false,false_imp_iff,and_true]
  rw[h0] at hB
  simp only[hB,Bool.false_eq_true,false_imp_iff,forall_const,true_and]
  (first | exact⟨_,ah.cells (fun _=>rfl) rfl,fun _=>rfl⟩ | exact fun _=>rfl | trivial)
 have hl:0<s.length:=List.length_pos_iff.2 h0
 by_cases hA:ai s 0<128
 ·have hB:bE s=true:=dX.2 ⟨h0,.inl hA⟩
  obtain⟨k1,k2,k3⟩:=jT hA
  simp only[h0,hA,hB,decide_true,decide_false,forall_const,Bool.true_eq_false,Bool.false_eq_true,false_imp_iff,and_true,true_and,bz]
  refine⟨by omega,by omega,by omega,?_⟩
  exact F4 k1.symm (by rw[k2];rfl) (by rw[k3];rfl)
 ·have e2:1+lead s - 55=lead s - 54:=by omega
  by_cases hC:ai s 0<192
  ·have e3:cQ s=false:=by simp[cQ];omega
   have e1:(ai s 0 - 128)% 256=lead s:=by rw[xd hC];omega
   have e4:=xd hC
   by_cases hL:55<lead s
   ·obtain⟨k1,k2⟩:=kD hA hL
    have hB:bE s=(iM s (lead s - 54)&&decide (part s (lead s - 54)<=s.length - (lead s - 54))):=by rw[Bool.eq_iff_iff,dX];simp[h0,hA,hL]
    simp only[h0,hA,hC,hL,hB,e1,e2,decide_true,decide_false,forall_const,Bool.true_eq_false,Bool.false_eq_true,false_imp_iff,and_true,true_and,bz]
    cases hb:iM s (lead s - 54)with
    | false=>simp only[Bool.false_and,Bool.false_eq_true,false_imp_iff,forall_const,true_and];(repeat' first | apply And.intro | intro (_:_=true) | intro (_:_=false) | intro (_:Int))<;>first | omega | (first | exact⟨_,ah.cells (fun _=>rfl) rfl,fun _=>rfl⟩ | exact fun _=>rfl | trivial)
    | true =>
      have hb':=gj.1 hb
      have hn: ¬ part s (lead s - 54)=1:=by omega
      simp only[hn,decide_false,Bool.true_and,Bool.true_eq_false,Bool.false_eq_true,false_imp_iff,forall_const,true_and,and_true]
      (repeat' first | apply And.intro | intro (_:_=true) | intro (_:_=false) | intro (_:Int))
      all_goals simp only[decide_eq_true_eq,decide_eq_false_iff_not,Int.not_lt,Int.not_le] at *
      all_goals first
       | omega
       | (refine F4 ?_ ?_ ?_
          ·simp[e3]
          ·rw[k1,show(lead s - 54+part s (lead s - 54)).toNat - (lead s - 54).toNat=(part s (lead s - 54)).toNat by omega]
          ·rw[k2])
       | (first | exact⟨_,ah.cells (fun _=>rfl) rfl,fun _=>rfl⟩ | exact fun _=>rfl | trivial)
   ·obtain⟨k1,k2⟩:=nC hA hL
    have hB:bE s=(decide (lead s<=s.length - 1)&& !(decide (ai s 0<192)&&decide (lead s=1)&&decide (ai s 1<128))):=by
     rw[Bool.eq_iff_iff,dX]
     simp[h0,hA,hL,hC]
     try (intro _;omega)
    simp only[h0,hA,hC,hL,hB,e1,e2,decide_true,decide_false,forall_const,Bool.true_eq_false,Bool.false_eq_true,false_imp_iff,and_true,true_and,bz]
    (repeat' first | apply And.intro | intro (_:_=true) | intro (_:_=false) | intro (_:Int))
    all_goals simp only[decide_eq_true_eq,decide_eq_false_iff_not,Int.not_lt,Int.not_le,Bool.and_eq_true,Bool.and_eq_false_iff,Bool.not_eq_true',Bool.not_eq_false',Bool.true_and,Bool.false_and] at *
    all_goals first
     | omega
     | (refine F4 ?_ ?_ ?_
        ·simp[e3]
        ·rw[k1,show(1+lead s).toNat - (1:Int).toNat=(lead s).toNat by omega]
        ·rw[k2])
     | (first | exact⟨_,ah.cells (fun _=>rfl) rfl,fun _=>rfl⟩ | exact fun _=>rfl | trivial)
  ·have e3:cQ s=true:=by simp[cQ];omega
   have e1:(ai s 0 - 192)% 256=lead s:=by rw[w5 hC];omega
   have e4:=w5 hC
   by_cases hL:55<lead s
   ·obtain⟨k1,k2⟩:=kD hA hL
    have hB:bE s=(iM s (lead s - 54)&&decide (part s (lead s - 54)<=s.length - (lead s - 54))):=by rw[Bool.eq_iff_iff,dX];simp[h0,hA,hL]
    simp only[h0,hA,hC,hL,hB,e1,e2,decide_true,decide_false,forall_const,Bool.true_eq_false,Bool.false_eq_true,false_imp_iff,and_true,true_and,bz]
    cases hb:iM s (lead s - 54)with
    | false=>simp only[Bool.false_and,Bool.false_eq_true,false_imp_iff,forall_const,true_and];(repeat' first | apply And.intro | intro (_:_=true) | intro (_:_=false) | intro (_:Int))<;>first | omega | (first | exact⟨_,ah.cells (fun _=>rfl) rfl,fun _=>rfl⟩ | exact fun _=>rfl | trivial)
    | true =>
      have hb':=gj.1 hb
      have hn: ¬ part s (lead s - 54)=1:=by omega
      simp only[Bool.true_and,Bool.true_eq_false,false_imp_iff,forall_const,and_true]
      (repeat' first | apply And.intro | intro (_:_=true) | intro (_:_=false) | intro (_:Int))
      all_goals simp only[decide_eq_true_eq,decide_eq_false_iff_not,Int.not_lt,Int.not_le] at *
      all_goals first
       | omega
       | (refine F4 ?_ ?_ ?_
          ·simp[e3]
          ·rw[k1,show(lead s - 54+part s (lead s - 54)).toNat - (lead s - 54).toNat=(part s (lead s - 54)).toNat by omega]
          ·rw[k2])
       | (first | exact⟨_,ah.cells (fun _=>rfl) rfl,fun _=>rfl⟩ | exact fun _=>rfl | trivial)
   ·obtain⟨k1,k2⟩:=nC hA hL
    have hB:bE s=(decide (lead s<=s.length - 1)&& !(decide (ai s 0<192)&&decide (lead s=1)&&decide (ai s 1<128))):=by
     rw[Bool.eq_iff_iff,dX]
     simp[h0,hA,hL,hC]
     try (intro _;omega)
    simp only[h0,hA,hC,hL,hB,e1,e2,decide_true,decide_false,forall_const,Bool.false_eq_true,false_imp_iff,true_and,bz]
    (repeat' first | apply And.intro | intro (_:_=true) | intro (_:_=false) | intro (_:Int))
    all_goals simp only[decide_eq_true_eq,decide_eq_false_iff_not,Int.not_lt,Int.not_le,Bool.and_eq_true,Bool.and_eq_false_iff,Bool.true_and,Bool.false_and,Bool.not_false,Bool.true_eq_false,or_false] at *
    all_goals first
     | omega
     | (refine F4 ?_ ?_ ?_
        ·simp[e3]
        ·rw[k1,show(1+lead s).toNat - (1:Int).toNat=(lead s).toNat by omega]
        ·rw[k2])
     | (first | exact⟨_,ah.cells (fun _=>rfl) rfl,fun _=>rfl⟩ | exact fun _=>rfl | trivial)
def Cq:List SV->Option (Prop×c6)
 | [.str false s]=>some (s.length<9223372036854775808,Uj s)
 | _=>none
noncomputable def T8:PT:=cE Cq
theorem Ot:aB Tryz.prog 198 T8:=by
 refine dA (n:=20) (fn:=Tryz.f198) Tryz.func198 (by kernel_rfl) (by kernel_rfl) ?_
 intro args p a h hp
 unfold Cq at h
 split at h
 ·rename_i s
  injection h with h;injection h with h1 h2;subst h1;subst h2
  refine⟨_,T4,rfl,fun b=> ?_,Mm hp⟩
  cases b
  ·exact Cm rfl
  ·exact rfl
 ·cases h
def bJ (base:Int)(n:Nat):List UInt8:=if n<=55 then [UInt8.ofNat (base+n).toNat] else UInt8.ofNat (base+55+(digits n).length).toNat::digits n
def ax (b:List UInt8):List UInt8:=if b.length=1/\ai b 0<128 then b else bJ 128 b.length++b
theorem Da (k:Nat)(n:Int):(AF k n).length<=k:=by
 induction k generalizing n with
 | zero=>simp[AF]
 | succ k ih =>
   unfold AF
   split
   ·have:=ih (n / 256)
    simp only[List.length_append,List.length_cons,List.length_nil];omega
   ·simp
theorem rD (n:Int):(digits n).length<=8:=Da 8 n
theorem Ij {base n:Int}(h0:0<=base)(h1:base<=192)(h2:0<=n)(h3:n<1152921504606846976):aA (dm PC 115 Tryz.f115 [.int .u8 false base,.int .i64 false n] (fun v=>af v (.str false (bJ base n.toNat)))):=by
 refine aA.of_eq (Vb base n _) ?_
 have e:n% 18446744073709551616=n:=by omega
 have e1:((n.toNat:Nat):Int)=n:=by omega
 have hd:=rD n
 rw[e]
 refine⟨fun h=>fO ?_,fun h=>⟨by omega,by omega,fO ?_⟩⟩
 ·simp only[decide_eq_true_eq] at h
  unfold bJ
  rw[if_pos (by omega),e1]
  congr 3;omega
 ·simp only[decide_eq_false_iff_not] at h
  unfold bJ
  rw[if_neg (by omega),e1]
  simp only[cat,List.cons_append,List.nil_append]
  congr 3;omega
def xF:List SV->Option (Prop×SV)
 | [.int .u8 false base,.int .i64 false n]=>some ((0<=base/\base<=192)/\0<=n/\n<1152921504606846976,.str false (bJ base n.toNat))
 | _=>none
noncomputable def NH:PT:=aU xF
theorem KA:aB Tryz.prog 115 NH:=by
 refine fX T4 (n:=20) (fn:=Tryz.f115) Tryz.func115 (by kernel_rfl) (by kernel_rfl) ?_
 intro args p r h hp
 unfold xF at h
 split at h
 ·injection h with h;injection h with h1 h2;subst h1;subst h2
  exact⟨rfl,rfl,Ij hp.1.1 hp.1.2 hp.2.1 hp.2.2⟩
 ·cases h
noncomputable def PR:List (FuncId×PT):=(198,T8)::(115,NH)::M3
theorem EO:bl Tryz.prog (fun f=>aG f PR):=.cons Ot (cj _) (.cons KA (aN _) Fe)
noncomputable def Ny:ff:={cg with cI:=fun f=>aG f PR}
theorem T7:Sx.Good Tryz.prog Ny:=.of bS EO bt
def IA (s:List UInt8):c6:=.fork (bE s) fun b=>match b with
 | true=>.ret (.aL [.bool false (cQ s),.str false (aa s),.str false (aE s),.int .i64 true 0])
 | false=>.ret (.aL [.bool true false,.str true [],.str true [],.int .i64 true 2])
theorem Wj (b:List UInt8)(R:SV->Prop):VC.holds (dm Ny 69 Tryz.f69 [.str false b] R)=(((decide ((b.length:Int)=1)=true->((0:Int)<=(0:Int)/\0<(b.length:Int))/\(decide (ai b 0<128)=true->R (SV.str false b))/\(decide (ai b 0<128)=false->(((0:Int)<=(128:Int)/\(128:Int)<=(192:Int))/\0<=(b.length:Int)/\(b.length:Int)<1152921504606846976)/\(↑(bJ 128 (b.length:Int).toNat).length:Int)+(b.length:Int)<=9223372036854775807/\R (SV.str false (cat (bJ 128 (b.length:Int).toNat) b))))/\(decide ((b.length:Int)=1)=false->(((0:Int)<=(128:Int)/\(128:Int)<=(192:Int))/\0<=(b.length:Int)/\(b.length:Int)<1152921504606846976)/\(↑(bJ 128 (b.length:Int).toNat).length:Int)+(b.length:Int)<=9223372036854775807/\R (SV.str false (cat (bJ 128 (b.length:Int).toNat) b))))):=by kernel_rfl
theorem RW (s:List UInt8):VC.holds (fW Ny 166 Tryz.f166 [.str false s] (IA s))=((fun P0:SV=>((s.length<9223372036854775808/\(bE s=true->(bE s=true->af P0 P0)/\(bE s=false->af P0 (SV.aL [SV.bool true false,SV.str true [],SV.str true [],SV.int .i64 true 2])))/\(bE s=false->∀(_:Int),(bE s=true->af (SV.aL [SV.bool true false,SV.str true [],SV.str true [],SV.int .i64 true 2]) P0)/\(bE s=false->af (SV.aL [SV.bool true false,SV.str true [],SV.str true [],SV.int .i64 true 2]) (SV.aL [SV.bool true false,SV.str true [],SV.str true [],SV.int .i64 true 2])))))) (SV.aL [SV.bool false (cQ s),SV.str false (aa s),SV.str false (aE s),SV.int .i64 true 0])):=by kernel_rfl
theorem NK (base:Int)(n:Nat):(bJ base n).length<=9:=by
 unfold bJ
 have:=rD n
 split<;>simp only[List.length_cons,List.length_nil]<;>omega
theorem mz {b:List UInt8}(h: ¬ (b.length=1/\ai b 0<128)):ax b=bJ 128 b.length++b:=if_neg h
theorem Ia {b:List UInt8}(hb:b.length<1152921504606846976):aA (dm Ny 69 Tryz.f69 [.str false b] (fun v=>af v (.str false (ax b)))):=by
 refine aA.of_eq (Wj b _) ?_
 have hl:=NK 128 b.length
 simp only[Int.toNat_natCast]
 refine⟨fun h=>⟨by simp at h;omega,fun h2=>fO ?_,fun h2=>⟨by omega,by omega,fO ?_⟩⟩,fun h=>⟨by omega,by omega,fO ?_⟩⟩
 ·simp at h h2;exact(if_pos ⟨by omega,h2⟩).symm
 ·simp only[decide_eq_false_iff_not] at h2
  exact(mz fun x=>h2 x.2).symm
 ·simp only[decide_eq_false_iff_not] at h
  exact(mz fun x=>h (by omega)).symm
def xL:List SV->Option (Prop×SV)
 | [.str false b]=>some (b.length<1152921504606846976,.str false (ax b))
 | _=>none
noncomputable def Rx:PT:=aU xL
theorem Kw:aB Tryz.prog 69 Rx:=by
 refine fX T7 (n:=20) (fn:=Tryz.f69) Tryz.func69 (by kernel_rfl) (by kernel_rfl) ?_
 intro args p r h hp
 unfold xL at h
 split at h
 ·injection h with h;injection h with h1 h2;subst h1;subst h2
  exact⟨rfl,rfl,Ia hp⟩
 ·cases h
theorem GM {s:List UInt8}(hs:s.length<9223372036854775808):aA (fW Ny 166 Tryz.f166 [.str false s] (IA s)):=by
 refine aA.of_eq (RW s) ?_
 cases bE s with
 | true=>exact⟨hs,fun _=>⟨fun _ _=>rfl,(fun h=>by cases h)⟩,fun h=>by cases h⟩
 | false=>exact⟨hs,(fun h=>by cases h),fun _ _=>⟨(fun h=>by cases h),fun _ _=>rfl⟩⟩
def vo:List SV->Option (Prop×c6)
 | [.str false s]=>some (s.length<9223372036854775808,IA s)
 | _=>none
noncomputable def J5:PT:=cE vo
theorem GA:aB Tryz.prog 166 J5:=by
 refine dA (n:=20) (fn:=Tryz.f166) Tryz.func166 (by kernel_rfl) (by kernel_rfl) ?_
 intro args p a h hp
 unfold vo at h
 split at h
 ·rename_i s
  injection h with h;injection h with h1 h2;subst h1;subst h2
  refine⟨_,T7,rfl,fun b=> ?_,GM hp⟩
  cases b<;>exact rfl
 ·cases h
noncomputable def OS:List (FuncId×PT):=(69,Rx)::(166,J5)::PR
theorem Es:bl Tryz.prog (fun f=>aG f OS):=.cons Kw (aN _) (.cons GA (cj _) EO)
def jj (s:List UInt8):Bool:=bE s&& !cQ s&&decide (aE s=[])&&decide ((aa s).length<=8)&& !(decide (aa s≠[])&&decide (ai (aa s) 0=0))
def U6 (s:List UInt8):c6:=.fork (jj s) fun b=>match b with
 | true=>.ret (.aL [.int .u64 false (num (aa s)),.int .i64 true 0])
 | false=>.ret (.aL [.int .u64 true 0,.int .i64 true 2])
noncomputable def UM (l:List UInt8):bC :=
 {α:=Int,pre:=fun _ i=>0<=i/\i<=l.length,nY:=fun _ i=>(l.length - i).toNat,fresh:=0,slots:=fun _ i=>[(8,.int .u64 false (num (l.take i.toNat))),(42,.int .i64 false i)],mem:=fun _ _=>[]}
noncomputable def TE (l:List UInt8):ff:={cg with cI:=fun f=>aG f OS,br:=fun f=>if f=124 then [(10,always (UM l))] else []}
theorem Ub (l:List UInt8):Sx.Good Tryz.prog (TE l):=.of bS Es bt
theorem Xh (s:List UInt8):VC.holds (fW (TE (aa s)) 124 Tryz.f124 [.str false s] (U6 s))=((fun P0:SV=>((fun P1:SV=>((s.length<9223372036854775808/\(bE s=true->(cQ s=true->(jj s=true->af P0 P1)/\(jj s=false->af P0 P0))/\(cQ s=false->((!decide (aE s=[]))=true->(jj s=true->af P0 P1)/\(jj s=false->af P0 P0))/\((!decide (aE s=[]))=false->(decide (8<(↑(aa s).length:Int))=true->(jj s=true->af P0 P1)/\(jj s=false->af P0 P0))/\(decide (8<(↑(aa s).length:Int))=false->((!decide (aa s=[]))=true->((0:Int)<=(0:Int)/\0<(↑(aa s).length:Int))/\(decide (ai (aa s) 0=(0:Int))=true->(jj s=true->af P0 P1)/\(jj s=false->af P0 P0))/\(decide (ai (aa s) 0=(0:Int))=false->(∃(u5:Int),(0<=u5/\u5<=(↑(aa s).length:Int))/\0=num (List.take u5.toNat (aa s))/\0=u5/\True)/\∀(u4:Int),0<=u4/\u4<=(↑(aa s).length:Int)->(decide (u4<(↑(aa s).length:Int))=true->(0<=u4/\u4<(↑(aa s).length:Int))/\(0<=ai (aa s) u4/\ai (aa s) u4<=18446744073709551615)/\(0<=num (List.take u4.toNat (aa s))*256% (18446744073709551616:Int) /\num (List.take u4.toNat (aa s))*256% (18446744073709551616:Int)<=(18446744073709551615:Int)/\0<=ai (aa s) u4/\ai (aa s) u4<=18446744073709551615)/\((-9223372036854775808:Int)<=u4+1/\u4+1<=(9223372036854775807:Int))/\∃(u3:Int),((0<=u3/\u3<=(↑(aa s).length:Int))/\((↑(aa s).length:Int) - u3).toNat<((↑(aa s).length:Int) - u4).toNat)/\bitsOf BinOp.or (num (List.take u4.toNat (aa s))*256% (18446744073709551616:Int)) (ai (aa s) u4)=num (List.take u3.toNat (aa s))/\u4+1=u3/\True)/\(decide (u4<(↑(aa s).length:Int))=false->(jj s=true->af (SV.aL [SV.int .u64 false (num (List.take u4.toNat (aa s))),SV.int .i64 true 0]) P1)/\(jj s=false->af (SV.aL [SV.int .u64 false (num (List.take u4.toNat (aa s))),SV.int .i64 true 0]) P0))))/\((!decide (aa s=[]))=false->(∃(u2:Int),(0<=u2/\u2<=(↑(aa s).length:Int))/\0=num (List.take u2.toNat (aa s))/\0=u2/\True)/\∀(u1:Int),0<=u1/\u1<=(↑(aa s).length:Int)->(decide (u1<(↑(aa s).length:Int))=true->(0<=u1/\u1<(↑(aa s).length:Int))/\(0<=ai (aa s) u1 /\ai (aa s) u1<=18446744073709551615)/\(0<=num (List.take u1.toNat (aa s))*256% (18446744073709551616:Int)/\num (List.take u1.toNat (aa s))*256% (18446744073709551616:Int)<=(18446744073709551615:Int)/\0<=ai (aa s) u1/\ai (aa s) u1<=18446744073709551615)/\((-9223372036854775808:Int)<=u1+1/\u1+1<=(9223372036854775807:Int))/\∃(u0:Int),((0<=u0/\u0<=(↑(aa s).length:Int))/\((↑(aa s).length:Int) - u0).toNat<((↑(aa s).length:Int) - u1).toNat)/\bitsOf BinOp.or (num (List.take u1.toNat (aa s))*256% (18446744073709551616:Int)) (ai (aa s) u1)=num (List.take u0.toNat (aa s))/\u1+1=u0/\True)/\(decide (u1<(↑(aa s).length:Int))=false->(jj s=true->af (SV.aL [SV.int .u64 false (num (List.take u1.toNat (aa s))),SV.int .i64 true 0]) P1)/\(jj s=false->af (SV.aL [SV.int .u64 false (num (List.take u1.toNat (aa s))),SV.int .i64 true 0]) P0)))))))/\(bE s=false->(jj s=true->af P0 P1)/\(jj s=false->af P0 P0))))) (SV.aL [SV.int .u64 false (num (aa s)),SV.int .i64 true 0]))) (SV.aL [SV.int .u64 true 0,SV.int .i64 true 2])):=by kernel_rfl
theorem WO (n:Int)(R:SV->Prop):VC.holds (dm (TE []) 71 Tryz.f71 [.int .u64 false n] R)=(((0<=n/\n<18446744073709551616)/\(digits n).length<1152921504606846976/\R (SV.str false (ax (digits n))))):=by kernel_rfl
theorem US (l:List UInt8):0<=num l:=by
 unfold num
 suffices ∀(l:List UInt8) (a:Int),0<=a->0<=l.foldl (fun a b=>a*256+(b.toNat:Int)) a from this _ _ (Int.le_refl _)
 intro l
 induction l with
 | nil=>exact fun _ h=>h
 | cons b r ih=>intro a h;exact ih _ (show 0<=a*256+(b.toNat:Int)by omega)
theorem Og {l:List UInt8}{x:Int}(h:0<=x)(h2:x<l.length):num (l.take (x+1).toNat)=num (l.take x.toNat)*256+ai l x:=by
 have e:(x+1).toNat=x.toNat+1:=by omega
 have hx:x.toNat<l.length:=by omega
 rw[e,List.take_add_one,List.getElem?_eq_getElem hx]
 simp only[Option.toList,mj]
 congr 1
 unfold ai
 rw[List.getD_eq_getElem?_getD,List.getElem?_eq_getElem hx]
 rfl
theorem Ru: ∀(n:Nat) (l:List UInt8),l.length<=n->num l<256^ n
 | 0,l,h=>by
   have:l=[]:=List.length_eq_zero_iff.1 (by omega)
   subst this;decide
 | n+1,l,h=>by
   rcases List.eq_nil_or_concat l with rfl | ⟨r,b,rfl⟩
   ·have:(0:Int)<256^ (n+1):=Int.pow_pos (by decide)
    exact this
   ·simp only[List.length_concat] at h
    have:=Ru n r (by omega)
    have hb:=b.toNat_lt
    rw[List.concat_eq_append,mj,Int.pow_succ]
    omega
theorem Tp {l:List UInt8}{x:Int}(_h0:0<=x)(h:x<l.length)(h2:l.length<=8):num (l.take x.toNat)<72057594037927936:=by
 have:=Ru 7 (l.take x.toNat) (by simp only[List.length_take];omega)
 exact this
theorem Oc {l:List UInt8}{x:Int}(h0:0<=x)(h:x<l.length)(h2:l.length<=8):bitsOf .or (num (l.take x.toNat)*256% 18446744073709551616) (ai l x)=num (l.take (x+1).toNat):=by
 have h3:=Tp h0 h h2
 have h4:=US (l.take x.toNat)
 have h5:=dG l x
 rw[show num (l.take x.toNat)*256% 18446744073709551616=num (l.take x.toNat)*256 by omega,Ob h4 h5.1 h5.2,Og h0 h]
theorem Fv {s:List UInt8}:jj s=true↔bE s=true/\cQ s=false/\aE s=[]/\(aa s).length<=8/\(aa s=[]∨ai (aa s) 0≠0):=by
 unfold jj
 by_cases h:aa s=[]<;>simp[and_assoc,h]
theorem EV {l:List UInt8}(hl:l.length<=8){Q:Int->Prop}(hQ:Q l.length):(∃(y:Int),((0:Int)<=y/\y<=(↑l.length:Int))/\(0:Int)=num (List.take y.toNat l)/\(0:Int)=y/\True) /\
            ∀(x:Int),
             (0:Int)<=x/\x<=(↑l.length:Int) ->
               (decide (x<(↑l.length:Int))=true ->
                 ((0:Int)<=x/\x<(↑l.length:Int)) /\
                  ((0:Int)<=ai l x/\ai l x<=(18446744073709551615:Int)) /\
                   ((0:Int)<=num (List.take x.toNat l)*(256:Int)% (18446744073709551616:Int) /\
                      num (List.take x.toNat l)*(256:Int)% (18446744073709551616:Int)<=(18446744073709551615:Int) /\
                       (0:Int)<=ai l x/\ai l x<=(18446744073709551615:Int)) /\
                    ((-9223372036854775808:Int)<=x+(1:Int)/\x+(1:Int)<=(9223372036854775807:Int)) /\
                     ∃(y:Int),
                      (((0:Int)<=y/\y<=(↑l.length:Int))/\((↑l.length:Int) - y).toNat<((↑l.length:Int) - x).toNat) /\
                       bitsOf BinOp.or (num (List.take x.toNat l)*(256:Int)% (18446744073709551616:Int)) (ai l x)=num (List.take y.toNat l) /\
                        x+(1:Int)=y/\True) /\
                 (decide (x<(↑l.length:Int))=false->Q x):=by
 refine⟨⟨0,by omega,rfl,rfl,trivial⟩,fun x ⟨h1,h2⟩=>⟨fun h=> ?_,fun h=> ?_⟩⟩
 ·simp only[decide_eq_true_eq] at h
  have h5:=dG l x
  exact⟨by omega,by omega,by omega,by omega,x+1,by omega,Oc h1 h hl,rfl,trivial⟩
 ·simp only[decide_eq_false_iff_not] at h
  obtain rfl:x=l.length:=by omega
  exact hQ
theorem LA {s:List UInt8}(hs:s.length<9223372036854775808):aA (fW (TE (aa s)) 124 Tryz.f124 [.str false s] (U6 s)):=by
 refine aA.of_eq (Xh s) ?_
 have F: ∀ {p q:Prop},¬ (bE s=true/\cQ s=false/\aE s=[]/\(aa s).length<=8/\(aa s=[]∨ai (aa s) 0≠0))->q->(jj s=true->p)/\(jj s=false->q):=fun h hq=>⟨fun e=>absurd (Fv.1 e) h,fun _=>hq⟩
 refine⟨hs,fun a=>⟨fun b=>F (by simp[b]) fun _=>rfl,fun b=>⟨fun c=>F (by simp at c;simp[c]) fun _=>rfl,fun c=>⟨fun d=>F (by simp at d;omega) fun _=>rfl,fun d=> ?_⟩⟩⟩,fun a=>F (by simp[a]) fun _=>rfl⟩
 simp only[decide_eq_false_iff_not,Int.not_lt,Bool.not_eq_false',decide_eq_true_eq] at c d
 have T:(aa s=[]∨ai (aa s) 0≠0)->jj s=true:=fun e=>Fv.2 ⟨a,b,c,by omega,e⟩
 have G: ∀ {p:Prop},(aa s=[]∨ai (aa s) 0≠0)->(jj s=true->af (SV.aL [SV.int IntKind.u64 false (num (List.take (((aa s).length:Int)).toNat (aa s))),SV.int IntKind.i64 true (0:Int)])
                      (SV.aL [SV.int IntKind.u64 false (num (aa s)),SV.int IntKind.i64 true (0:Int)]))/\(jj s=false->p):=fun e=>⟨fun _=>by rw[Int.toNat_natCast,List.take_length];exact fun _=>rfl,fun h=>by rw[T e] at h;cases h⟩
 refine⟨fun e=>⟨?_,fun f=>F (by simp at e f;simp[e,f]) fun _=>rfl,fun f=> ?_⟩,fun e=> ?_⟩
 ·simp only[Bool.not_eq_true',decide_eq_false_iff_not] at e
  have:=List.length_pos_iff.2 e
  omega
 ·exact EV (l:=aa s) (by omega) (Q:=fun x=>(jj s=true->af (SV.aL [SV.int IntKind.u64 false (num (List.take x.toNat (aa s))),SV.int IntKind.i64 true (0:Int)]) _)/\(jj s=false->_)) (G (.inr (by simpa using f)))
 ·exact EV (l:=aa s) (by omega) (Q:=fun x=>(jj s=true->af (SV.aL [SV.int IntKind.u64 false (num (List.take x.toNat (aa s))),SV.int IntKind.i64 true (0:Int)]) _)/\(jj s=false->_)) (G (.inl (by simpa using e)))
def CJ:List SV->Option (Prop×c6)
 | [.str false s]=>some (s.length<9223372036854775808,U6 s)
 | _=>none
noncomputable def Ue:PT:=cE CJ
theorem MW:aB Tryz.prog 124 Ue:=by
 refine dA (n:=20) (fn:=Tryz.f124) Tryz.func124 (by kernel_rfl) (by kernel_rfl) ?_
 intro args p a h hp
 unfold CJ at h
 split at h
 ·rename_i s
  injection h with h;injection h with h1 h2;subst h1;subst h2
  refine⟨_,Ub (aa s),rfl,fun b=> ?_,LA hp⟩
  cases b<;>exact rfl
 ·cases h
def Dr:List SV->Option (Prop×SV)
 | [.int .u64 false n]=>some (0<=n/\n<18446744073709551616,.str false (ax (digits n)))
 | _=>none
noncomputable def TX:PT:=aU Dr
theorem QN:aB Tryz.prog 71 TX:=by
 refine fX (Ub []) (n:=20) (fn:=Tryz.f71) Tryz.func71 (by kernel_rfl) (by kernel_rfl) ?_
 intro args p r h hp
 unfold Dr at h
 split at h
 ·rename_i n
  injection h with h;injection h with h1 h2;subst h1;subst h2
  have:=rD n
  exact⟨rfl,rfl,aA.of_eq (WO n _) ⟨hp,by omega,fun _=>rfl⟩⟩
 ·cases h
noncomputable def T1:List (FuncId×PT):=(124,Ue)::(71,TX)::OS
theorem Pt:bl Tryz.prog (fun f=>aG f T1):=.cons MW (cj _) (.cons QN (aN _) Es)
end Go.Proofs.YtoibaecagklkaaaGreatDoor
namespace Go.Proofs
open Go.Shelf
def Tryz.mT:Go.Shelf.Ren:=⟨fun | 156=>116 | 165=>160 | 166=>161 | 169=>162 | 240=>194 | 241=>195 | 276=>212 | 277=>213 | n=>n,fun | 31=>29 | 9=>9 | 3=>3 | 4=>4 | 0=>0 | 20=>20 | 72=>249 | 76=>251 | 70=>247 | 37=>54 | 75=>84 | 127=>272 | 164=>142 | 5=>5 | 80=>102 | n=>n,fun | n=>n⟩
theorem Tryz.En:Go.Proofs.Lays.n156 Tryz.prog Tryz.mT:={
 mixed:=by kernel_rfl,
 f156:=Tryz.func116.trans (congrArg some (by kernel_rfl)),
 f165:=Tryz.func160.trans (congrArg some (by kernel_rfl)),
 f166:=Tryz.func161.trans (congrArg some (by kernel_rfl)),
 f169:=Tryz.func162.trans (congrArg some (by kernel_rfl)),
 f240:=Tryz.func194.trans (congrArg some (by kernel_rfl)),
 f241:=Tryz.func195.trans (congrArg some (by kernel_rfl)),
 f276:=Tryz.func212.trans (congrArg some (by kernel_rfl)),
 f277:=Tryz.func213.trans (congrArg some (by kernel_rfl)),
 t0:=Tryz.underlying0,
 a0:=Tryz.isAgg0,
 z0:=Tryz.sizeOf0,
 v0:=Tryz.zeroValue0,
 t3:=Tryz.underlying3,
 a3:=Tryz.isAgg3,
 z3:=Tryz.sizeOf3,
 v3:=Tryz.zeroValue3,
 t4:=Tryz.underlying4,
 a4:=Tryz.isAgg4,
 z4:=Tryz.sizeOf4,
 v4:=Tryz.zeroValue4,
 t9:=Tryz.underlying9,
 a9:=Tryz.isAgg9,
 z9:=Tryz.sizeOf9,
 v9:=Tryz.zeroValue9,
 t20:=Tryz.underlying20,
 a20:=Tryz.isAgg20,
 z20:=Tryz.sizeOf20,
 v20:=Tryz.zeroValue20,
 t31:=Tryz.underlying29,
 a31:=Tryz.isAgg29,
 z31:=Tryz.sizeOf29,
 v31:=Tryz.zeroValue29,
 t37:=Tryz.underlying54,
 a37:=Tryz.isAgg54,
 z37:=Tryz.sizeOf54,
 v37:=Tryz.zeroValue54,
 t70:=Tryz.underlying247,
 a70:=Tryz.isAgg247,
 z70:=Tryz.sizeOf247,
 v70:=Tryz.zeroValue247,
 t72:=Tryz.underlying249,
 a72:=Tryz.isAgg249,
 z72:=Tryz.sizeOf249,
 v72:=Tryz.zeroValue249,
 t75:=Tryz.underlying84,
 a75:=Tryz.isAgg84,
 z75:=Tryz.sizeOf84,
 v75:=Tryz.zeroValue84,
 t76:=Tryz.underlying251,
 a76:=Tryz.isAgg251,
 z76:=Tryz.sizeOf251,
 v76:=Tryz.zeroValue251,
 t127:=Tryz.underlying272,
 a127:=Tryz.isAgg272,
 z127:=Tryz.sizeOf272,
 v127:=Tryz.zeroValue272,
 t164:=Tryz.underlying142,
 a164:=Tryz.isAgg142,
 z164:=Tryz.sizeOf142,
 v164:=Tryz.zeroValue142}
end Go.Proofs
namespace Go.Proofs
open Go.Shelf Go.RowKit
theorem Tryz.extra:Builder.Extra Tryz.prog Tryz.mT:={
 sizeBuilder:=by kernel_rfl,
 liesBuilder:=by kernel_rfl,
 t5:=by kernel_rfl,
 a5:=by intro w;kernel_rfl,
 z5:=by intro w;kernel_rfl,
 v5:=by intro w;kernel_rfl,
 infoByte:=by kernel_rfl,
 cellsByte:=by kernel_rfl,
 sizeByte:=by kernel_rfl,
 neB5:=by decide}
end Go.Proofs
namespace Go.Proofs.YtoibaecagklkaaaGreatDoor
open Go Sx
set_option maxRecDepth 20000
theorem Sy:Tryz.mT.f 156=116:=by kernel_rfl
def flat (l:List (List UInt8)):List UInt8:=l.flatten
def gr (f:Nat->List UInt8)(i n:Nat):List (List UInt8):=(List.range n).map fun j=>f (i+j)
theorem Gj {f:Nat->List UInt8}{i n j:Nat}{x:List UInt8}(h:(gr f i n)[j]?=some x):j<n/\f (i+j)=x:=by
 unfold gr at h
 rw[List.getElem?_map] at h
 by_cases hj:j<n
 ·rw[List.getElem?_range hj] at h
  injection h with h
  exact⟨hj,h⟩
 ·rw[List.getElem?_eq_none (by simpa using hj)] at h;cases h
theorem mu (f:Nat->List UInt8)(i n:Nat):(gr f i n).length=n:=by simp[gr]
def strCells:List SV->Option (List (List UInt8))
 | []=>some []
 | .str _ s::r=>(match strCells r with
   | some l=>some (s::l)
   | none=>none)
 | _=>none
theorem sD {cs:List SV}{l:List (List UInt8)}(h:strCells cs=some l):l.length=cs.length/\∀(j:Nat) (x:List UInt8),l[j]?=some x->∃ b,cs[j]?=some (.str b x):=by
 induction cs generalizing l with
 | nil=>injection h with h;subst h;exact⟨rfl,fun j x hx=>by simp at hx⟩
 | cons v r ih =>
   unfold strCells at h
   split at h
   ·cases ‹_::_=[]›
   ·rename_i b s r' e
    injection e with e1 e2;subst e1;subst e2
    split at h
    ·rename_i l' hl
     injection h with h;subst h
     obtain⟨g1,g2⟩:=ih hl
     refine⟨by simp[g1],fun j x hx=> ?_⟩
     cases j with
     | zero=>injection hx with hx;subst hx;exact⟨b,rfl⟩
     | succ j=>exact g2 j x (by simpa using hx)
    ·cases h
   ·cases h
def HO (m:Mem):SV->Option (Prop×List (List UInt8))
 | .aO=>some (True,[])
 | .slc key o n _ c=>(match m.get key with
   | some (.cells cs _ _)=>(match strCells ((cs.drop o).take n)with
     | some l=>some (l.length=n/\n<=c,l)
     | none=>none)
   | _=>none)
 | .bw key 1 _ i n c=>(match m.get key with
   | some (.rows _ n' [.str f] _ _ _)=>some (i+n<=n'/\n<=c,gr f i n)
   | _=>none)
 | .bP key 1 _ o i n c=>(match m.get key with
   | some (.view _ o' n' [.str f])=>some (o'=o/\i+n<=n'/\n<=c,gr f i n)
   | _=>none)
 | _=>none
theorem L6 {Γ E m nx w}(h:aJ Γ E m nx w){v:SV}{p:Prop}{l:List (List UInt8)}(hv:HO m v=some (p,l))(hp:p) :
  (∃ a c,l=[]/\v.val E=.slice a 0 c)∨(∃ k o c,v.val E=.slice (some ⟨k,o,none⟩) l.length c/\l.length<=c/\k<w.heap.size/\∀(j:Nat) x,l[j]?=some x->w.cell? ⟨k,o+j,none⟩=some (.string ⟨x.toArray⟩)):=by
 unfold HO at hv
 split at hv
 ·injection hv with hv;injection hv with h1 h2;subst h2;exact .inl ⟨_,_,rfl,rfl⟩
 ·rename_i key o n cl c
  split at hv
  ·rename_i cs tot ty hk
   split at hv
   ·rename_i l' hl
    injection hv with hv;injection hv with h1 h2;subst h1;subst h2
    obtain⟨g1,g2⟩:=sD hl
    obtain⟨ob,ho,ce,fr,rfl,_,h4,_⟩:=h.kO key _ hk rfl
    refine .inr ⟨E key,o,c,by rw[hp.1];rfl,by omega,(Array.getElem?_eq_some_iff.1 ho).1,fun j x hx=> ?_⟩
    obtain⟨b,hb⟩:=g2 j x hx
    rw[cell_of ho]
    have hj:j<n:=by
     have:=(List.getElem?_eq_some_iff.1 hx).1
     omega
    rw[List.getElem?_take_of_lt hj,List.getElem?_drop] at hb
    exact h4 _ _ hb
   ·cases hv
  ·cases hv
 ·rename_i key z i n c
  split at hv
  ·rename_i z' n' f ro tot ty hk
   injection hv with hv;injection hv with h1 h2;subst h1;subst h2
   cases n with
   | zero=>exact .inl ⟨_,_,rfl,rfl⟩
   | succ n =>
     obtain⟨ob,ho,ce,fr,rfl,_,_,_,h4⟩:=h.kO key _ hk (SB.ic (i:=0) (by omega))
     refine .inr ⟨E key,i,c,?_,by rw[mu];exact hp.2,(Array.getElem?_eq_some_iff.1 ho).1,fun j x hx=> ?_⟩
     ·rw[mu];cases z<;>simp[SV.val,show Nat.beq (n+1) 0=false from rfl]
     ·obtain⟨hj,hx⟩:=Gj hx
      rw[cell_of ho]
      have:=h4 (i+j) 0 (.str f) (by omega) rfl
      simpa [au.at,SV.val,hx] using this
  ·cases hv
 ·rename_i key z o i n c
  split at hv
  ·rename_i z' o' n' f hk
   injection hv with hv;injection hv with h1 h2;subst h1;subst h2
   cases n with
   | zero=>exact .inl ⟨_,_,rfl,rfl⟩
   | succ n =>
     obtain⟨ob,ho,ce,ty,fr,rfl,h4⟩:=h.kO key _ hk (SB.wS (i:=0) (by omega))
     refine .inr ⟨E key,o+i,c,?_,by rw[mu];exact hp.2.2,(Array.getElem?_eq_some_iff.1 ho).1,fun j x hx=> ?_⟩
     ·rw[mu];cases z<;>simp[SV.val,show Nat.beq (n+1) 0=false from rfl]
     ·obtain⟨hj,hx⟩:=Gj hx
      rw[cell_of ho]
      have:=h4 (i+j) 0 (.str f) (by omega) rfl
      obtain⟨rfl,_⟩:=hp
      simpa [au.at,SV.val,hx,Nat.add_assoc] using this
  ·cases hv
 ·cases hv
noncomputable def ux:PT:=fun args m nx K=>match args with
 | [v,.str _ []]=>(match HO m v with
   | some (p,l)=>.and (.atom (p/\l.length<=140737488355328/\(flat l).length<=140737488355328)) (K (.str false (flat l)) m nx)
   | none=>.fail "texts that are not known")
 | _=>.fail "a separator"
theorem vU:aR ux:=by
 intro args m nx K K' hK h
 unfold ux at h ⊢
 split at h
 ·split at h
  ·rename_i p l hl
   exact⟨h.1,hK _ _ _ h.2⟩
  ·exact h.elim
 ·exact h.elim
theorem uQ: ∀ l:List (List UInt8),Lib.join l []=flat l
 | []=>rfl
 | [x]=>by simp[Lib.join,flat,List.intercalate]
 | x::y::r=>by
   have:=uQ (y::r)
   simp[Lib.join,flat,List.intercalate] at this ⊢;rw[this]
theorem KH:aB Tryz.prog 116 ux:=by
 intro args m nx K hk hwf hargs Γ E w hs
 unfold ux at hk
 split at hk
 ·rename_i v b
  split at hk
  ·rename_i p l hl
   obtain⟨⟨hp,h1,h2⟩,hk⟩:=hk
   have hc:Calls Tryz.prog 116 (SV.vals E [v,.str b []]).toArray w fun e w'=>e=.returned (.string ⟨(flat l).toArray⟩)/\RowKit.Below w.heap.size w w':=by
    rw[← Sy]
    rcases L6 hs hl hp with ⟨a,c,rfl,hv⟩ | ⟨k,o,c,hv,g1,g2,g3⟩
    ·simp only[SV.vals,hv,SV.val]
     exact(Any.strings_Join_none Tryz.En Tryz.extra a c _ w).mono fun e w' ⟨he,hw⟩=>⟨he,hw▸ RowKit.Below.refl _ _⟩
    ·simp only[SV.vals,hv,SV.val]
     have:=Any.strings_Join Tryz.En Tryz.extra k o c (l.map fun x=>⟨x.toArray⟩) ⟨#[]⟩ w (fun j x hx=>by
      rw[List.getElem?_map] at hx
      cases hj:l[j]? with
      | none=>rw[hj] at hx;cases hx
      | some y=>rw[hj] at hx;injection hx with hx;subst hx;exact g3 j y hj) g2 (by simpa using h1) (by simpa using g1) (by
      simp only[List.map_map]
      have:(l.map ((fun x:ByteArray=>x.data.toList)∘ fun x=>(⟨x.toArray⟩:ByteArray)))=l:=by
       rw[show((fun x:ByteArray=>x.data.toList)∘ fun x:List UInt8=>(⟨x.toArray⟩:ByteArray))=id from by funext x;simp]
       simp
      rw[this]
      show(Lib.join l []).length<=_
      rw[uQ];exact h2)
     rw[List.length_map] at this
     refine this.mono fun e w' ⟨he,hw⟩=>⟨?_,hw⟩
     rw[he,List.map_map]
     have:(l.map ((fun x:ByteArray=>x.data.toList)∘ fun x=>(⟨x.toArray⟩:ByteArray)))=l:=by
      rw[show((fun x:ByteArray=>x.data.toList)∘ fun x:List UInt8=>(⟨x.toArray⟩:ByteArray))=id from by funext x;simp]
      simp
     rw[this]
     rw[← uQ]
   refine dZ Tryz.func116 (by kernel_rfl) (by kernel_rfl) (hc.mono ?_)
   rintro e w' ⟨rfl,hb⟩
   exact⟨_,rfl,E,some (.str false (flat l)),m,nx,fun _ _=>rfl,Nat.le_refl _,fun x hx=>by injection hx with hx;subst hx;rfl,hs.still (Ext.NR hb),hk⟩
  ·exact hk.elim
 ·exact hk.elim
end Go.Proofs.YtoibaecagklkaaaGreatDoor
namespace Go.Proofs.YtoibaecagklkaaaGreatDoor
open Go Sx
set_option maxRecDepth 20000
noncomputable def Ug:List (FuncId×PT):=(116,ux)::T1
theorem QO:bl Tryz.prog (fun f=>aG f Ug):=.cons KH vU Pt
def aT (s:List UInt8):Nat->List UInt8
 | 0=>s
 | k+1=>aE (aT s k)
def ry (s:List UInt8):List UInt8:=s.take (s.length - (aE s).length)
def aj (s:List UInt8)(k:Nat):List UInt8:=ry (aT s k)
def scan:Nat->List UInt8->Nat×Bool
 | 0,s=>(0,decide (s=[]))
 | f+1,s=>if s=[] then(0,true)else if bE s then((scan f (aE s)).1+1,(scan f (aE s)).2)else(0,false)
def bB (s:List UInt8):Nat:=(scan s.length s).1
def c9 (s:List UInt8):Bool:=(scan s.length s).2
def Il (s:List UInt8):c6:=.fork (c9 s) fun b=>match b with
 | true=>.all Nat fun c=>.req (bB s<=c) (.new (fun k=>.aL [.bw k 1 true 0 (bB s) c,.int .i64 true 0]) (.rows true (bB s) [.str (aj s)] false c 9))
 | false=>.ret (.aL [.aO,.int .i64 true 2])
structure FY where
 k:Nat
 c:Nat
structure wW (s:List UInt8)(x:FY):Prop where
 walk: ∀ j,j<x.k->aT s j≠[]/\bE (aT s j)=true
 cap:x.k<=x.c
noncomputable def OU (s:List UInt8):bC :=
 {α:=FY,pre:=fun _ x=>wW s x,nY:=fun _ x=>(aT s x.k).length,fresh:=1,slots:=fun _ x=>[(3,.str false (aT s x.k))],
  mem:=fun st x=>[(2,.cells [.bw st.nx 1 true 0 x.k x.c] 1 29),(st.nx,.rows true x.k [.str (aj s)] false x.c 9)]}
noncomputable def UJ (s:List UInt8):ff:={cg with cI:=fun f=>aG f Ug,br:=fun f=>if f=214 then [(1,always (OU s))] else []}
theorem WM (s:List UInt8):Sx.Good Tryz.prog (UJ s):=.of bS QO bt
theorem RF (s:List UInt8):VC.holds (fW (UJ s) 165 Tryz.f165 [.str false s] (Il s))=((∀(u8:Loop),(∃(u7:FY),wW s u7/\s=aT s u7.k/\(1:Nat)=(1:Nat)/\u7.k=0/\(SB.rows true u7.k [au.str (aj s)] false u7.c 9).no=true/\ah (SB.loop LoopState.ready none u8) (SB.loop LoopState.ready none u8)/\ah (SB.cells (SV.str false s).cells 1 9) (SB.cells (SV.str false s).cells 1 9)/\ah (SB.cells (SV.int .i64 true 0).cells 1 30) (SB.cells (SV.int .i64 true 0).cells 1 30)/\ah (SB.cells SV.aO.cells 1 29) (SB.cells SV.aO.cells 1 29)/\True)/\∀(u6:FY),wW s u6->((!decide (aT s u6.k=[]))=true->(aT s u6.k).length<9223372036854775808/\(bE (aT s u6.k)=true->((-9223372036854775808:Int)<=(↑(aT s u6.k).length:Int) - (↑(aE (aT s u6.k)).length:Int)/\(↑(aT s u6.k).length:Int) - (↑(aE (aT s u6.k)).length:Int)<=9223372036854775807)/\((0:Int)<=(0:Int)/\0<=(↑(aT s u6.k).length:Int) - (↑(aE (aT s u6.k)).length:Int)/\(↑(aT s u6.k).length:Int) - (↑(aE (aT s u6.k)).length:Int)<=(↑(aT s u6.k).length:Int))/\u8=u8/\(0+u6.k<=u6.k/\True/\2*(u6.k+1)*16<=(281474976710656:Nat) /\u6.k+1<(9223372036854775808:Nat))/\u6.c=u6.c*1/\∀(u5:Nat),u6.k+1<=u5->∃(u4:FY),(wW s u4/\(aT s u4.k).length<(aT s u6.k).length)/\aE (aT s u6.k)=aT s u4.k/\(1:Nat)=(1:Nat)/\((0:Nat)=(0:Nat)/\u6.k+1=u4.k/\u5=u4.c)/\True/\ah (SB.rows true (u6.k+1) [au.str fun(u3:Nat)=>if u3<u6.k then aj s u3 else bq [bz (aT s u6.k) none (some (Operand.tmp 37)) 0 ((↑(aT s u6.k).length:Int) - (↑(aE (aT s u6.k)).length:Int))] (u3 - u6.k)] false (u5*1) 9) (SB.rows true u4.k [au.str (aj s)] false u4.c 9)/\ah (SB.loop LoopState.ready none u8) (SB.loop LoopState.ready none u8)/\ah (SB.cells (SV.str false s).cells 1 9) (SB.cells (SV.str false s).cells 1 9)/\ah (SB.cells (SV.int .i64 true 0).cells 1 30) (SB.cells (SV.int .i64 true 0).cells 1 30)/\ah (SB.cells SV.aO.cells 1 29) (SB.cells SV.aO.cells 1 29)/\True)/\(bE (aT s u6.k)=false->∀(_:Int),((-9223372036854775808:Int)<=(s.length:Int) - (↑(aT s u6.k).length:Int)/\(s.length:Int) - (↑(aT s u6.k).length:Int)<=9223372036854775807)/\u8=u8/\(c9 s=true ->∃(u1:Nat),bB s<=u1/\False)/\(c9 s=false->af (SV.aL [SV.aO,SV.int .i64 true 2]) (SV.aL [SV.aO,SV.int .i64 true 2]))))/\((!decide (aT s u6.k=[]))=false->(c9 s=true->∃(u0:Nat),bB s<=u0/\ah (SB.rows true u6.k [au.str (aj s)] false u6.c 9) (SB.rows true (bB s) [au.str (aj s)] false u0 9)/\af (SV.aL [SV.bw ((0:Nat)+(1:Nat)+(1:Nat)+(1:Nat)+(1:Nat)+(1:Nat)) 1 true 0 u6.k u6.c,SV.int .i64 true 0]) (SV.aL [SV.bw ((0:Nat)+(1:Nat)+(1:Nat)+(1:Nat)+(1:Nat)+(1:Nat)) 1 true 0 (bB s) u0,SV.int .i64 true 0]))/\(c9 s=false->af (SV.aL [SV.bw ((0:Nat)+(1:Nat)+(1:Nat)+(1:Nat)+(1:Nat)+(1:Nat)) 1 true 0 u6.k u6.c,SV.int .i64 true 0]) (SV.aL [SV.aO,SV.int .i64 true 2]))))):=by kernel_rfl
theorem Dh {s:List UInt8}(h: ¬ ai s 0<128):0<=lead s:=by
 unfold lead
 split<;>omega
theorem yT {s:List UInt8}(h:bE s=true):(aE s).length<s.length:=by
 obtain⟨h0,h⟩:=dX.1 h
 have hl:=List.length_pos_iff.2 h0
 by_cases hA:ai s 0<128
 ·rw[(jT hA).2.2,List.length_drop];omega
 ·have g:=Dh hA
  by_cases hL:55<lead s
  ·have:=pV s (lead s - 54)
   rw[(kD hA hL).2,List.length_drop];omega
  ·rw[(nC hA hL).2,List.length_drop];omega
theorem BO: ∀(f f':Nat) (s:List UInt8),s.length<=f->s.length<=f'->scan f s=scan f' s
 | 0,0,_,_,_=>rfl
 | 0,f'+1,s,h,_=>by
   have:s=[]:=List.length_eq_zero_iff.1 (by omega)
   subst this;rfl
 | f+1,0,s,_,h=>by
   have:s=[]:=List.length_eq_zero_iff.1 (by omega)
   subst this;rfl
 | f+1,f'+1,s,h,h'=>by
   simp only[scan]
   split
   ·rfl
   ·split
    ·rename_i hc
     have:=yT hc
     rw[BO f f' (aE s) (by omega) (by omega)]
    ·rfl
theorem iW:c9 []=true/\bB []=0:=⟨rfl,rfl⟩
theorem uJ {s:List UInt8}(h0:s≠[])(h:bE s=true):c9 s=c9 (aE s)/\bB s=bB (aE s)+1:=by
 have hl:=yT h
 unfold c9 bB
 obtain⟨n,hn⟩: ∃ n,s.length=n+1:=⟨s.length - 1,by omega⟩
 rw[hn]
 simp only[scan,h0,h,if_true,if_false]
 rw[BO n (aE s).length (aE s) (by omega) (by omega)]
 exact⟨rfl,rfl⟩
theorem B7 {s:List UInt8}(h0:s≠[])(h:bE s=false):c9 s=false:=by
 have hl:=List.length_pos_iff.2 h0
 unfold c9
 obtain⟨n,hn⟩: ∃ n,s.length=n+1:=⟨s.length - 1,by omega⟩
 rw[hn]
 simp[scan,h0,h]
theorem jf (s:List UInt8): ∀ k,aT s (k+1)=aT (aE s) k
 | 0=>by simp only[aT]
 | k+1=>by rw[aT,jf s k];simp only[aT]
def Walk (s:List UInt8)(k:Nat):Prop:=∀ j,j<k->aT s j≠[]/\bE (aT s j)=true
theorem Walk.len {s:List UInt8}: ∀ {k:Nat},Walk s k->(aT s k).length+k<=s.length
 | 0,_=>by simp[aT]
 | k+1,h=>by
   have h1:=Walk.len (k:=k) (fun j hj=>h j (by omega))
   have h2:=yT (h k (by omega)).2
   simp only[aT];omega
theorem Walk.tail {s:List UInt8}{k:Nat}(h:Walk s (k+1)):Walk (aE s) k:=fun j hj=>by
 rw[← jf];exact h (j+1) (by omega)
theorem Walk.items {s:List UInt8}: ∀ {k:Nat},Walk s k->c9 s=c9 (aT s k)/\bB s=bB (aT s k)+k
 | 0,_=>⟨rfl,rfl⟩
 | k+1,h=>by
   obtain⟨h0,h1⟩:=h 0 (by omega)
   obtain⟨g1,g2⟩:=uJ (s:=s) h0 h1
   obtain⟨g3,g4⟩:=Walk.items h.tail
   rw[jf,g1,g2,g3,g4]
   exact⟨rfl,by omega⟩
theorem Walk.snoc {s:List UInt8}{k:Nat}(h:Walk s k)(h0:aT s k≠[])(h1:bE (aT s k)=true):Walk s (k+1):=fun j hj=>by
 by_cases e:j=k
 ·subst e;exact⟨h0,h1⟩
 ·exact h j (by omega)
theorem Sx.ah.A9 {z:Bool}{n n':Nat}{av cols':List au}{tot tot':Nat}{ty:TypeId}(hn:n=n')(ht:tot=tot')(hl:av.length=cols'.length)
  (h: ∀(i k:Nat) (c':au),i<n->cols'[k]?=some c'->∃ c,av[k]?=some c/\c.at i=c'.at i):ah (.rows z n av false tot ty) (.rows z n' cols' false tot' ty):=by
 subst hn;subst ht
 refine ah.of rfl rfl fun hno=> ?_
 refine⟨hno,fun E o ⟨c,fr,h1,h2,h3,h4,h5⟩=>⟨c,fr,h1,h2,by rw[← hl];exact h3,h4,fun i k col hi hk=> ?_⟩,fun _=>rfl⟩
 obtain⟨c0,hc0,he⟩:=h i k col hi hk
 rw[← he,← hl]
 exact h5 i k c0 hi hc0
theorem Sx.ah.tB {z:Bool}{n n':Nat}{f g:Nat->List UInt8}{tot tot':Nat}{ty:TypeId}(hn:n=n')(ht:tot=tot')(h: ∀ i,i<n->f i=g i):ah (.rows z n [.str f] false tot ty) (.rows z n' [.str g] false tot' ty):=by
 refine Sx.ah.A9 hn ht rfl fun i k c' hi hk=>⟨.str f,?_,?_⟩
 ·match k,hk with
  | 0,_=>rfl
 ·match k,hk with
  | 0,hk =>
    simp only[List.getElem?_cons_zero,Option.some.injEq] at hk
    subst hk
    simp only[au.at,h i hi]
theorem GR {s:List UInt8}(hs:s.length<1099511627776):aA (fW (UJ s) 165 Tryz.f165 [.str false s] (Il s)):=by
 refine aA.of_eq (RF s) ?_
 intro R
 refine⟨⟨⟨0,0⟩,⟨fun j hj=>absurd hj (Nat.not_lt_zero _),Nat.le_refl _⟩,rfl,rfl,rfl,rfl,ah.refl _,ah.refl _,ah.refl _,ah.refl _,trivial⟩,fun x hx=> ?_⟩
 have hw:Walk s x.k:=hx.walk
 have hl:=hw.len
 obtain⟨i1,i2⟩:=hw.items
 refine⟨fun a=> ?_,fun a=> ?_⟩
 ·have a:aT s x.k≠[]:=by simpa using a
  refine⟨by omega,fun b=> ?_,fun b y=> ?_⟩
  ·have hlt:=yT b
   refine⟨by omega,by omega,rfl,⟨by omega,trivial,by omega,by omega⟩,by omega,fun c hc=>⟨⟨x.k+1,c⟩,⟨⟨hw.snoc a b,hc⟩,?_⟩,?_,rfl,⟨rfl,rfl,rfl⟩,trivial,?_,ah.refl _,ah.refl _,ah.refl _,ah.refl _,trivial⟩⟩
   ·simp only[aT];exact hlt
   ·simp only[aT]
   ·refine Sx.ah.tB rfl (Nat.mul_one c) fun i hi=> ?_
    by_cases h:i<x.k
    ·rw[if_pos h]
    ·rw[if_neg h]
     have e:i=x.k:=by omega
     subst e
     simp only[Nat.sub_self,bq,bz,aj,ry]
     rw[show((↑(aT s x.k).length:Int) - (↑(aE (aT s x.k)).length:Int)).toNat=(aT s x.k).length - (aE (aT s x.k)).length by omega]
     simp only[List.getD_cons_zero]
  ·have hb:=B7 a b
   rw[← i1] at hb
   exact⟨by omega,rfl,(fun h=>by rw[hb] at h;cases h),fun _ _=>rfl⟩
 ·have a:aT s x.k=[]:=by simpa using a
  rw[a] at i1 i2
  have n0:bB s=x.k:=by rw[i2,iW.2];omega
  have b0:c9 s=true:=by rw[i1,iW.1]
  refine⟨fun _=>⟨x.c,by rw[n0];exact hx.cap,?_,?_⟩,fun h=>by rw[b0] at h;cases h⟩
  ·rw[n0];exact ah.refl _
  ·rw[n0];exact fun _=>rfl
def uV:List SV->Option (Prop×c6)
 | [.str false s]=>some (s.length<1099511627776,Il s)
 | _=>none
noncomputable def Sm:PT:=cE uV
theorem Nz:aB Tryz.prog 165 Sm:=by
 refine dA (n:=20) (fn:=Tryz.f165) Tryz.func165 (by kernel_rfl) (by kernel_rfl) ?_
 intro args p a h hp
 unfold uV at h
 split at h
 ·rename_i s
  injection h with h;injection h with h1 h2;subst h1;subst h2
  refine⟨_,WM s,rfl,fun b=> ?_,GR hp⟩
  cases b with
  | false=>exact rfl
  | true =>
    intro c
    refine⟨rfl,rfl,fun k=>by simp[SV.wf,SV.ep,Nat.blt_eq],fun E E' k k' h=> ?_⟩
    cases hn:bB s with
    | zero=>rfl
    | succ n =>
      rw[hn] at h
      have hk:E k=E' k':=h rfl
      simp[SV.val,SV.vals,hk]
 ·cases h
end Go.Proofs.YtoibaecagklkaaaGreatDoor
namespace Go.Proofs.YtoibaecagklkaaaGreatDoor.Sx
open Go
def VB:SV->SV
 | .int k _ n=>.int k true n
 | .bool _ b=>.bool true b
 | .str _ s=>.str true s
 | v=>v
def Ox:SV->SV
 | .agg cs=>.agg (cs.map VB)
 | v=>VB v
def lit:SV->SV
 | .aL vs=>.aL (vs.map Ox)
 | v=>Ox v
theorem lZ {f:SV->SV}{E:Nat->Nat}(hf: ∀ v,(f v).val E=v.val E): ∀ l:List SV,SV.vals E (l.map f)=SV.vals E l
 | []=>rfl
 | v::r=>by simp only[List.map_cons,SV.vals,hf,lZ hf r]
theorem GX (E:Nat->Nat)(v:SV):(VB v).val E=v.val E:=by cases v<;>rfl
theorem Oh (E:Nat->Nat)(v:SV):(Ox v).val E=v.val E:=by
 cases v<;>first | rfl | simp only[Ox,SV.val,lZ (GX E)]
theorem wU (E:Nat->Nat)(v:SV):(lit v).val E=v.val E:=by
 cases v<;>first | rfl | simp only[lit,Ox,SV.val,lZ (GX E),lZ (Oh E)]
def QW:SV->Bool
 | .int _ l _=>l
 | .bool l _=>l
 | .str l _=>l
 | _=>false
def isLit:SV->Bool
 | .agg cs=>cs.all QW
 | v=>QW v
def yJ:List SV->Bool
 | []=>true
 | v::r=>isLit v&&yJ r
def n9 (av:List au)(i:Nat):Nat->List SV
 | 0=>[]
 | n+1=>av.map (fun c=>lit (c.at i))++n9 av (i+1) n
theorem sy {av:List au}: ∀ {n i0 j:Nat} {v:SV},(n9 av i0 n)[j]?=some v->∃ i k col,j=i*av.length+k/\i<n/\av[k]?=some col/\v=lit (col.at (i0+i))
 | 0,_,_,_,h=>by simp[n9] at h
 | n+1,i0,j,v,h=>by
   simp only[n9] at h
   by_cases hj:j<av.length
   ·rw[List.getElem?_append_left (by simpa using hj),List.getElem?_map] at h
    cases hc:av[j]? with
    | none=>rw[hc] at h;cases h
    | some c=>rw[hc] at h;injection h with h;exact⟨0,j,c,by simp,by omega,hc,h.symm⟩
   ·rw[List.getElem?_append_right (by simpa using hj)] at h
    obtain⟨i,k,col,h1,h2,h3,h4⟩:=sy h
    simp only[List.length_map] at h1
    refine⟨i+1,k,col,by rw[Nat.add_mul];omega,by omega,h3,?_⟩
    rw[h4];congr 2;omega
def Wn:SB->SB
 | .rows true 0 av ro tot ty=>.rows true 0 av ro tot ty
 | .rows _z n av false tot ty=>.cells (n9 av 0 n) tot ty
 | B=>B
def Kt:SV->SV
 | .bw _ _ true _ 0 _=>.aO
 | .bw k _ _ 0 n c=>.slc k 0 n false c
 | v=>v
def Kf:SV->SV
 | .agg cs=>.agg (cs.map Kt)
 | v=>Kt v
def So:SV->SV
 | .aL vs=>.aL (vs.map Kf)
 | v=>Kf v
theorem RE (B:SB):ah B (Wn B):=by
 unfold Wn
 split
 ·exact ah.refl _
 ·rename_i z n av tot ty hne
  refine ah.of rfl rfl fun _=> ?_
  have hno:(SB.rows z n av false tot ty).no=false:=by
   cases z with
   | false=>rfl
   | true =>
     cases n with
     | zero=>exact(hne rfl rfl).elim
     | succ n=>rfl
  refine⟨hno,fun E o ⟨c,fr,h1,h2,h3,h4,h5⟩=>⟨c,fr,h1,h2 rfl,fun j v hv=> ?_,h4⟩,fun _=>rfl⟩
  obtain⟨i,k,col,g1,g2,g3,g4⟩:=sy hv
  rw[g4,wU,Nat.zero_add,g1]
  exact h5 i k col g2 g3
 ·exact ah.refl _
theorem AN (E:Nat->Nat)(v:SV):(Kt v).val E=v.val E:=by
 unfold Kt
 split
 ·rfl
 ·rename_i k w z n c hne
  have hz:(z&&Nat.beq n 0)=false:=by
   cases z with
   | false=>rfl
   | true =>
     cases n with
     | zero=>exact(hne rfl rfl).elim
     | succ n=>rfl
  simp[SV.val,hz]
 ·rfl
theorem Bj (E:Nat->Nat)(v:SV):(Kf v).val E=v.val E:=by
 unfold Kf
 split
 ·simp only[SV.val,lZ (AN E)]
 ·exact AN E _
theorem QA (E:Nat->Nat)(v:SV):(So v).val E=v.val E:=by
 unfold So
 split
 ·simp only[SV.val,lZ (Bj E)]
 ·exact Bj E _
def c6.RY (m:Mem)(nx:Nat)(K:SV->Mem->Nat->VC):c6->VC
 | .ret v=>K (lit v) m nx
 | .new v B=>K (lit (So (v nx))) ((nx,Wn B)::m) (nx+1)
 | .all α f=>.all α fun x=>(f x).RY m nx K
 | .req p a=>.imp p (a.RY m nx K)
 | .fork b f=>match b with
   | true=>(f true).RY m nx K
   | false=>(f false).RY m nx K
def U4 (Γ:aY)(E:Nat->Nat)(nx:Nat)(K:SV->Mem->Nat->VC):SV->Mem->Nat->VC:=fun v m' nx' =>
 .atom (∀(E':Nat->Nat) (w':World),(∀ k,k<nx->E' k=E k)->nx<=nx'->aJ Γ E' m' nx' w'->bg (lift K) Γ E nx (v.val E') w')
theorem c6.lA {Γ:aY}{E:Nat->Nat}{m:Mem}{nx:Nat}{K:SV->Mem->Nat->VC}: ∀ {a:c6},(a.RY m nx K).holds->(a.vc m nx (U4 Γ E nx K)).holds
 | .ret v,h=>fun E' w' h1 h2 hs=>⟨E',some (lit v),m,nx,h1,h2,fun x hx=>by injection hx with hx;subst hx;rw[wU],hs,h⟩
 | .new v B,h=>fun E' w' h1 h2 hs=>⟨E',some (lit (So (v nx))),_,nx+1,h1,h2,fun x hx=>by injection hx with hx;subst hx;rw[wU,QA],hs.FP (RE B),h⟩
 | .all _ f,h=>fun x=>c6.lA (a:=f x) (h x)
 | .req _ a,h=>fun x=>c6.lA (a:=a) (h x)
 | .fork b f,h=>dJ.2 (by
    cases b with
    | true=>exact c6.lA (a:=f true) h
    | false=>exact c6.lA (a:=f false) h)
theorem c6.mb {m:Mem}{nx:Nat}{K K':SV->Mem->Nat->VC}(hK: ∀ v m nx,(K v m nx).holds->(K' v m nx).holds): ∀ {a:c6},(a.RY m nx K).holds->(a.RY m nx K').holds
 | .ret _,h=>hK _ _ _ h
 | .new _ _,h=>hK _ _ _ h
 | .all _ f,h=>fun x=>c6.mb (a:=f x) hK (h x)
 | .req _ a,h=>fun x=>c6.mb (a:=a) hK (h x)
 | .fork b f,h=>by
   cases b with
   | true=>exact c6.mb (a:=f true) hK h
   | false=>exact c6.mb (a:=f false) hK h
noncomputable def iS (spec:List SV->Option (Prop×c6)):PT:=fun args m nx K=>match yJ args with
 | true=>(match spec (args.map yM)with
   | some (p,a)=>.and (.atom p) (a.RY m nx K)
   | none=>.fail "arguments that nothing is said of")
 | false=>cE spec args m nx K
theorem dY (spec:List SV->Option (Prop×c6)):aR (iS spec):=by
 intro args m nx K K' hK h
 unfold iS at h ⊢
 split at h
 ·split at h
  ·exact⟨h.1,c6.mb hK h.2⟩
  ·exact h
 ·exact cj spec _ _ _ _ _ hK h
theorem bg.TU {Γ:aY}{E:Nat->Nat}{nx:Nat}{r:Value}{w:World}{K:SV->Mem->Nat->VC}(h:bg (lift (fun v m nx=>K (lit v) m nx)) Γ E nx r w):bg (lift K) Γ E nx r w:=by
 obtain⟨E',sv,m',nx',h1,h2,h3,h4,h5⟩:=h
 cases sv with
 | none=>exact h5.elim
 | some v=>exact⟨E',some (lit v),m',nx',h1,h2,fun x hx=>by injection hx with hx;subst hx;rw[wU];exact h3 v rfl,h4,h5⟩
theorem jL {P:Program}{f:FuncId}{spec:List SV->Option (Prop×c6)}(h:aB P f (cE spec)):aB P f (iS spec):=by
 intro args m nx K hk hwf hargs Γ E w hs
 unfold iS at hk
 split at hk
 ·have:(cE spec args m nx (U4 Γ E nx K)).holds:=by
   unfold cE
   split at hk
   ·rename_i p a hsp
    first
     | exact⟨hk.1,c6.lA hk.2⟩
     | (rw[hsp];exact⟨hk.1,c6.lA hk.2⟩)
   ·exact hk.elim
  refine(h args m nx _ this hwf hargs Γ E w hs).mono (fun e w' hh=> ?_) (fun _ _ h=>h)
  obtain⟨E',sv,m',nx',h1,h2,h3,h4,h5⟩:=hh
  cases sv with
  | none=>exact h5.elim
  | some v=>rw[h3 v rfl];exact h5 E' w' h1 h2 h4
 ·exact h args m nx K hk hwf hargs Γ E w hs
noncomputable def k6 (spec:List SV->Option (Prop×SV)):PT:=fun args m nx K=>match yJ args with
 | true=>aU spec args m nx (fun v m nx=>K (lit v) m nx)
 | false=>aU spec args m nx K
theorem jG (spec:List SV->Option (Prop×SV)):aR (k6 spec):=by
 intro args m nx K K' hK h
 unfold k6 at h ⊢
 split at h
 ·exact aN spec _ _ _ _ _ (fun v m nx=>hK _ _ _) h
 ·exact aN spec _ _ _ _ _ hK h
theorem sR {P:Program}{f:FuncId}{spec:List SV->Option (Prop×SV)}(h:aB P f (aU spec)):aB P f (k6 spec):=by
 intro args m nx K hk hwf hargs Γ E w hs
 unfold k6 at hk
 split at hk
 ·exact(h args m nx _ hk hwf hargs Γ E w hs).mono (fun e w' hh=>bg.TU hh) (fun _ _ h=>h)
 ·exact h args m nx K hk hwf hargs Γ E w hs
def xH (t:List SV->Mem->Bool)(pt:PT):PT:=fun args m nx K=>match t args m with
 | true=>pt args m nx (fun v m nx=>K (lit v) m nx)
 | false=>pt args m nx K
theorem rW {t:List SV->Mem->Bool}{pt:PT}(h:aR pt):aR (xH t pt):=by
 intro args m nx K K' hK hh
 unfold xH at hh ⊢
 split at hh
 ·exact h _ _ _ _ _ (fun v m nx=>hK _ _ _) hh
 ·exact h _ _ _ _ _ hK hh
theorem xM {P:Program}{f:FuncId}{t:List SV->Mem->Bool}{pt:PT}(h:aB P f pt):aB P f (xH t pt):=by
 intro args m nx K hk hwf hargs Γ E w hs
 unfold xH at hk
 split at hk
 ·exact(h args m nx _ hk hwf hargs Γ E w hs).mono (fun e w' hh=>bg.TU hh) (fun _ _ h=>h)
 ·exact h args m nx K hk hwf hargs Γ E w hs
def GY (m:Mem):SV->Bool
 | .aO=>true
 | .slc key o n _ _=>(match m.get key with
   | some (.cells cs _ _)=>yJ ((cs.drop o).take n)
   | _=>false)
 | _=>false
end Go.Proofs.YtoibaecagklkaaaGreatDoor.Sx
namespace Go.Proofs.YtoibaecagklkaaaGreatDoor
open Go Sx
set_option maxRecDepth 20000
noncomputable def zR:List (FuncId×PT) :=
 (165,iS uV)::(116,xH (fun args m=>GY m (args.headD .bD)) ux)::(124,iS CJ)::(71,k6 Dr) ::
 (69,k6 xL)::(166,iS vo)::(198,iS Cq)::(115,k6 xF)::e8
theorem mK:bl Tryz.prog (fun f=>aG f zR) :=
 .cons (jL Nz) (dY _) (.cons (xM KH) (rW vU) (.cons (jL MW) (dY _) (.cons (sR QN) (jG _)
  (.cons (sR Kw) (jG _) (.cons (jL GA) (dY _) (.cons (jL Ot) (dY _) (.cons (sR KA) (jG _) di)))))))
noncomputable def Xa:ff:={cg with cI:=fun f=>aG f zR,rounds:=4}
theorem WL:Sx.Good Tryz.prog Xa:=.of bS mK bt
end Go.Proofs.YtoibaecagklkaaaGreatDoor
