/-
  Conditions that the executor computes, written out by a program (vcgen.py).
-/
import Derived.Test.YtoalfimkkibpdaaGreatDoorMk
import Derived.Test.YtoalfimkkibpdaaGreatDoorProg
import Derived.Shelf.Strings.OnBuilder
namespace Go.Proofs.YtoalfimkkibpdaaGreatDoor
open Go Sx
set_option maxRecDepth 20000
theorem vcHead (base n:Int)(R:SV→Prop):VC.holds (runP cfg2 58 Tryz.f58 [.int .u8 false base,.int .i64 false n] R)=(((decide (n≤55)=true→R (SV.str (false&&true) [UInt8.ofNat ((base+n% 256)% 256).toNat]))∧(decide (n≤55)=false→(0≤n% 18446744073709551616∧n% 18446744073709551616<(18446744073709551616:Int))∧(↑(1:Nat):Int)+(↑(digits (n% 18446744073709551616)).length:Int)≤9223372036854775807∧R (SV.str false (cat [UInt8.ofNat (((base+55)% 256+(↑(digits (n% 18446744073709551616)).length:Int)% 256)% 256).toNat] (digits (n% 18446744073709551616))))))):=by kernel_rfl
theorem vcCut (s:List UInt8):VC.holds (runA cfg2 158 Tryz.f158 [.str false s] (cutA s))=((fun P0:SV=>((fun P1:SV=>((fun P2:SV=>((fun P3:SV=>((fun P4:SV=>((fun P5:SB=>(((decide (s=[])=true→(cutB s=true→sameVal P0 P1)∧(cutB s=false→∃(u17:Int),SBle (SB.cells [SV.int .i64 true 0,SV.iface 27 (SV.int .i64 true 2)] 2 274) (SB.cells [SV.int .i64 false u17,SV.iface 27 (SV.int .i64 true 2)] 2 274)∧sameVal P0 P2))∧(decide (s=[])=false→((0:Int)≤(0:Int)∧0<(s.length:Int))∧(decide (byteAt s 0<128)=true→((0:Int)≤(0:Int)∧(0:Int)≤(1:Int)∧1≤(s.length:Int))∧((0:Int)≤(1:Int)∧1≤(s.length:Int)∧(s.length:Int)≤(s.length:Int))∧(cutB s=true→sameVal (SV.tup [SV.bool true false,SV.str (false&&true&&true) (subStr s none (some (Operand.const (Value.int IntKind.i64 1))) 0 1),SV.str (false&&true&&false) (subStr s (some (Operand.const (Value.int IntKind.i64 1))) none 1 (s.length:Int)),SV.niliface]) P1)∧(cutB s=false→∃(_u16:Int),False))∧(decide (byteAt s 0<128)=false→((0:Int)≤(0:Int)∧0<(s.length:Int))∧(decide (byteAt s 0<192)=true→((0:Int)≤(0:Int)∧0<(s.length:Int))∧((-9223372036854775808:Int)≤(byteAt s 0 - 128)% 256∧(byteAt s 0 - 128)% 256≤(9223372036854775807:Int)) ∧(decide (55<(byteAt s 0 - 128)% 256)=true→((-9223372036854775808:Int)≤1+(byteAt s 0 - 128)% 256∧1+(byteAt s 0 - 128)% 256≤(9223372036854775807:Int))∧((-9223372036854775808:Int)≤1+(byteAt s 0 - 128)% 256 - (55:Int)∧1+(byteAt s 0 - 128)% 256 - (55:Int)≤(9223372036854775807:Int))∧((2:Int)≤1+(byteAt s 0 - 128)% 256 - (55:Int)∧1+(byteAt s 0 - 128)% 256 - (55:Int)<(100:Int))∧(lenB s (1+(byteAt s 0 - 128)% 256 - (55:Int))=true→((-9223372036854775808:Int)≤(s.length:Int) - (1+(byteAt s 0 - 128)% 256 - (55:Int))∧(s.length:Int) - (1+(byteAt s 0 - 128)% 256 - (55:Int))≤9223372036854775807)∧(decide ((s.length:Int) - (1+(byteAt s 0 - 128)% 256 - (55:Int))<part s (1+(byteAt s 0 - 128)% 256 - (55:Int)))=true→(cutB s=true→sameVal P0 P1)∧(cutB s=false→∃(u15:Int),SBle P5 (SB.cells [SV.int .i64 false u15,SV.iface 27 (SV.int .i64 true 2)] 2 274)∧sameVal P0 P2))∧(decide ((s.length:Int) - (1+(byteAt s 0 - 128)% 256 - (55:Int))<part s (1+(byteAt s 0 - 128)% 256 - (55:Int)))=false →(decide (part s (1+(byteAt s 0 - 128)% 256 - (55:Int))=1)=true→((0:Int)≤(1:Int)∧1<(s.length:Int))∧(decide (byteAt s 1<128)=true→(cutB s=true→sameVal P0 P1)∧(cutB s=false→∃(u14:Int),SBle (SB.cells [SV.int .i64 true 1,SV.iface 27 (SV.int .i64 true 2)] 2 274) (SB.cells [SV.int .i64 false u14,SV.iface 27 (SV.int .i64 true 2)] 2 274)∧sameVal P0 P2))∧(decide (byteAt s 1<128)=false→((-9223372036854775808:Int)≤1+(byteAt s 0 - 128)% 256 - 55+part s (1+(byteAt s 0 - 128)% 256 - (55:Int))∧1+(byteAt s 0 - 128)% 256 - 55+part s (1+(byteAt s 0 - 128)% 256 - (55:Int))≤9223372036854775807)∧((0:Int)≤1+(byteAt s 0 - 128)% 256 - (55:Int)∧1+(byteAt s 0 - 128)% 256 - (55:Int)≤1+(byteAt s 0 - 128)% 256 - 55+part s (1+(byteAt s 0 - 128)% 256 - (55:Int))∧1+(byteAt s 0 - 128)% 256 - 55+part s (1+(byteAt s 0 - 128)% 256 - (55:Int))≤(s.length:Int))∧((-9223372036854775808:Int)≤1+(byteAt s 0 - 128)% 256 - 55+part s (1+(byteAt s 0 - 128)% 256 - (55:Int)) ∧1+(byteAt s 0 - 128)% 256 - 55+part s (1+(byteAt s 0 - 128)% 256 - (55:Int))≤9223372036854775807)∧((0:Int)≤1+(byteAt s 0 - 128)% 256 - 55+part s (1+(byteAt s 0 - 128)% 256 - (55:Int))∧1+(byteAt s 0 - 128)% 256 - 55+part s (1+(byteAt s 0 - 128)% 256 - (55:Int))≤(s.length:Int)∧(s.length:Int)≤(s.length:Int))∧(cutB s=true→sameVal P3 P1)∧(cutB s=false→∃(_u13:Int),False)))∧(decide (part s (1+(byteAt s 0 - 128)% 256 - (55:Int))=1)=false→((-9223372036854775808:Int)≤1+(byteAt s 0 - 128)% 256 - 55+part s (1+(byteAt s 0 - 128)% 256 - (55:Int))∧1+(byteAt s 0 - 128)% 256 - 55+part s (1+(byteAt s 0 - 128)% 256 - (55:Int))≤9223372036854775807)∧((0:Int)≤1+(byteAt s 0 - 128)% 256 - (55:Int)∧1+(byteAt s 0 - 128)% 256 - (55:Int)≤1+(byteAt s 0 - 128)% 256 - 55+part s (1+(byteAt s 0 - 128)% 256 - (55:Int))∧1+(byteAt s 0 - 128)% 256 - 55+part s (1+(byteAt s 0 - 128)% 256 - (55:Int))≤(s.length:Int))∧((-9223372036854775808:Int)≤1+(byteAt s 0 - 128)% 256 - 55+part s (1+(byteAt s 0 - 128)% 256 - (55:Int)) ∧1+(byteAt s 0 - 128)% 256 - 55+part s (1+(byteAt s 0 - 128)% 256 - (55:Int))≤9223372036854775807)∧((0:Int)≤1+(byteAt s 0 - 128)% 256 - 55+part s (1+(byteAt s 0 - 128)% 256 - (55:Int))∧1+(byteAt s 0 - 128)% 256 - 55+part s (1+(byteAt s 0 - 128)% 256 - (55:Int))≤(s.length:Int)∧(s.length:Int)≤(s.length:Int))∧(cutB s=true→sameVal P3 P1)∧(cutB s=false→∃(_u12:Int),False))))∧(lenB s (1+(byteAt s 0 - 128)% 256 - (55:Int))=false→∀(u11:Int),(cutB s=true→sameVal P0 P1)∧(cutB s=false→∃(u10:Int),SBle (SB.cells [SV.int .i64 false u11,SV.iface 27 (SV.int .i64 true 2)] 2 274) (SB.cells [SV.int .i64 false u10,SV.iface 27 (SV.int .i64 true 2)] 2 274)∧sameVal P0 P2)))∧(decide (55<(byteAt s 0 - 128)% 256)=false→((-9223372036854775808:Int)≤(s.length:Int) - 1∧(s.length:Int) - 1≤(9223372036854775807:Int))∧(decide ((s.length:Int) - 1<(byteAt s 0 - 128)% 256)=true→(cutB s=true→sameVal P0 P1)∧(cutB s=false→∃(u9:Int),SBle P5 (SB.cells [SV.int .i64 false u9,SV.iface 27 (SV.int .i64 true 2)] 2 274)∧sameVal P0 P2)) ∧(decide ((s.length:Int) - 1<(byteAt s 0 - 128)% 256)=false→(decide ((byteAt s 0 - 128)% 256=(1:Int))=true→((0:Int)≤(1:Int)∧1<(s.length:Int))∧(decide (byteAt s 1<128)=true→(cutB s=true→sameVal P0 P1)∧(cutB s=false→∃(u8:Int),SBle (SB.cells [SV.int .i64 true 1,SV.iface 27 (SV.int .i64 true 2)] 2 274) (SB.cells [SV.int .i64 false u8,SV.iface 27 (SV.int .i64 true 2)] 2 274)∧sameVal P0 P2))∧(decide (byteAt s 1<128)=false→((-9223372036854775808:Int)≤1+(byteAt s 0 - 128)% 256∧1+(byteAt s 0 - 128)% 256≤(9223372036854775807:Int))∧((0:Int)≤(1:Int)∧(1:Int)≤1+(byteAt s 0 - 128)% 256∧1+(byteAt s 0 - 128)% 256≤(s.length:Int))∧((-9223372036854775808:Int)≤1+(byteAt s 0 - 128)% 256∧1+(byteAt s 0 - 128)% 256≤(9223372036854775807:Int))∧((0:Int)≤1+(byteAt s 0 - 128)% 256∧1+(byteAt s 0 - 128)% 256≤(s.length:Int)∧(s.length:Int)≤(s.length:Int))∧(cutB s=true→sameVal P4 P1)∧(cutB s=false→∃(_u7:Int),False)))∧(decide ((byteAt s 0 - 128)% 256=(1:Int))=false→((-9223372036854775808:Int)≤1+(byteAt s 0 - 128)% 256 ∧1+(byteAt s 0 - 128)% 256≤(9223372036854775807:Int))∧((0:Int)≤(1:Int)∧(1:Int)≤1+(byteAt s 0 - 128)% 256∧1+(byteAt s 0 - 128)% 256≤(s.length:Int))∧((-9223372036854775808:Int)≤1+(byteAt s 0 - 128)% 256∧1+(byteAt s 0 - 128)% 256≤(9223372036854775807:Int))∧((0:Int)≤1+(byteAt s 0 - 128)% 256∧1+(byteAt s 0 - 128)% 256≤(s.length:Int)∧(s.length:Int)≤(s.length:Int))∧(cutB s=true→sameVal P4 P1)∧(cutB s=false→∃(_u6:Int),False)))))∧(decide (byteAt s 0<192)=false→((0:Int)≤(0:Int)∧0<(s.length:Int))∧((-9223372036854775808:Int)≤(byteAt s 0 - 192)% 256∧(byteAt s 0 - 192)% 256≤(9223372036854775807:Int))∧(decide (55<(byteAt s 0 - 192)% 256)=true→((-9223372036854775808:Int)≤1+(byteAt s 0 - 192)% 256∧1+(byteAt s 0 - 192)% 256≤(9223372036854775807:Int))∧((-9223372036854775808:Int)≤1+(byteAt s 0 - 192)% 256 - (55:Int)∧1+(byteAt s 0 - 192)% 256 - (55:Int)≤(9223372036854775807:Int))∧((2:Int)≤1+(byteAt s 0 - 192)% 256 - (55:Int)∧1+(byteAt s 0 - 192)% 256 - (55:Int)<(100:Int)) ∧(lenB s (1+(byteAt s 0 - 192)% 256 - (55:Int))=true→((-9223372036854775808:Int)≤(s.length:Int) - (1+(byteAt s 0 - 192)% 256 - (55:Int))∧(s.length:Int) - (1+(byteAt s 0 - 192)% 256 - (55:Int))≤9223372036854775807)∧(decide ((s.length:Int) - (1+(byteAt s 0 - 192)% 256 - (55:Int))<part s (1+(byteAt s 0 - 192)% 256 - (55:Int)))=true→(cutB s=true→sameVal P0 P1)∧(cutB s=false→∃(u5:Int),SBle P5 (SB.cells [SV.int .i64 false u5,SV.iface 27 (SV.int .i64 true 2)] 2 274)∧sameVal P0 P2))∧(decide ((s.length:Int) - (1+(byteAt s 0 - 192)% 256 - (55:Int))<part s (1+(byteAt s 0 - 192)% 256 - (55:Int)))=false→((-9223372036854775808:Int)≤1+(byteAt s 0 - 192)% 256 - 55+part s (1+(byteAt s 0 - 192)% 256 - (55:Int))∧1+(byteAt s 0 - 192)% 256 - 55+part s (1+(byteAt s 0 - 192)% 256 - (55:Int))≤9223372036854775807)∧((0:Int)≤1+(byteAt s 0 - 192)% 256 - (55:Int)∧1+(byteAt s 0 - 192)% 256 - (55:Int)≤1+(byteAt s 0 - 192)% 256 - 55+part s (1+(byteAt s 0 - 192)% 256 - (55:Int)) ∧1+(byteAt s 0 - 192)% 256 - 55+part s (1+(byteAt s 0 - 192)% 256 - (55:Int))≤(s.length:Int))∧((-9223372036854775808:Int)≤1+(byteAt s 0 - 192)% 256 - 55+part s (1+(byteAt s 0 - 192)% 256 - (55:Int))∧1+(byteAt s 0 - 192)% 256 - 55+part s (1+(byteAt s 0 - 192)% 256 - (55:Int))≤9223372036854775807)∧((0:Int)≤1+(byteAt s 0 - 192)% 256 - 55+part s (1+(byteAt s 0 - 192)% 256 - (55:Int))∧1+(byteAt s 0 - 192)% 256 - 55+part s (1+(byteAt s 0 - 192)% 256 - (55:Int))≤(s.length:Int)∧(s.length:Int)≤(s.length:Int))∧(cutB s=true→sameVal (SV.tup [SV.bool (true&&true) (decide ((192:Int)=(192:Int))),SV.str (false&&false&&false) (subStr s (some (Operand.tmp 70)) (some (Operand.tmp 73)) (1+(byteAt s 0 - 192)% 256 - (55:Int)) (1+(byteAt s 0 - 192)% 256 - 55+part s (1+(byteAt s 0 - 192)% 256 - (55:Int)))),SV.str (false&&false&&false) (subStr s (some (Operand.tmp 78)) none (1+(byteAt s 0 - 192)% 256 - 55+part s (1+(byteAt s 0 - 192)% 256 - (55:Int))) (s.length:Int)),SV.niliface]) P1)∧(cutB s=false→∃(_u4:Int),False))) ∧(lenB s (1+(byteAt s 0 - 192)% 256 - (55:Int))=false→∀(u3:Int),(cutB s=true→sameVal P0 P1)∧(cutB s=false→∃(u2:Int),SBle (SB.cells [SV.int .i64 false u3,SV.iface 27 (SV.int .i64 true 2)] 2 274) (SB.cells [SV.int .i64 false u2,SV.iface 27 (SV.int .i64 true 2)] 2 274)∧sameVal P0 P2)))∧(decide (55<(byteAt s 0 - 192)% 256)=false→((-9223372036854775808:Int)≤(s.length:Int) - 1∧(s.length:Int) - 1≤(9223372036854775807:Int))∧(decide ((s.length:Int) - 1<(byteAt s 0 - 192)% 256)=true→(cutB s=true→sameVal P0 P1)∧(cutB s=false→∃(u1:Int),SBle P5 (SB.cells [SV.int .i64 false u1,SV.iface 27 (SV.int .i64 true 2)] 2 274)∧sameVal P0 P2))∧(decide ((s.length:Int) - 1<(byteAt s 0 - 192)% 256)=false→((-9223372036854775808:Int)≤1+(byteAt s 0 - 192)% 256∧1+(byteAt s 0 - 192)% 256≤(9223372036854775807:Int))∧((0:Int)≤(1:Int)∧(1:Int)≤1+(byteAt s 0 - 192)% 256∧1+(byteAt s 0 - 192)% 256≤(s.length:Int))∧((-9223372036854775808:Int)≤1+(byteAt s 0 - 192)% 256∧1+(byteAt s 0 - 192)% 256≤(9223372036854775807:Int))∧((0:Int)≤1+(byteAt s 0 - 192)% 256 ∧1+(byteAt s 0 - 192)% 256≤(s.length:Int)∧(s.length:Int)≤(s.length:Int))∧(cutB s=true→sameVal (SV.tup [SV.bool (true&&true) (decide ((192:Int)=(192:Int))),SV.str (false&&true&&false) (subStr s (some (Operand.tmp 70)) (some (Operand.tmp 73)) 1 (1+(byteAt s 0 - 192)% 256)),SV.str (false&&false&&false) (subStr s (some (Operand.tmp 78)) none (1+(byteAt s 0 - 192)% 256) (s.length:Int)),SV.niliface]) P1)∧(cutB s=false→∃(_u0:Int),False))))))))) (SB.cells [SV.int .i64 false (s.length:Int),SV.iface 27 (SV.int .i64 true 2)] 2 274))) (SV.tup [SV.bool (true&&true) (decide ((128:Int)=(192:Int))),SV.str (false&&true&&false) (subStr s (some (Operand.tmp 70)) (some (Operand.tmp 73)) 1 (1+(byteAt s 0 - 128)% 256)),SV.str (false&&false&&false) (subStr s (some (Operand.tmp 78)) none (1+(byteAt s 0 - 128)% 256) (s.length:Int)),SV.niliface]))) (SV.tup [SV.bool (true&&true) (decide ((128:Int)=(192:Int))),SV.str (false&&false&&false) (subStr s (some (Operand.tmp 70)) (some (Operand.tmp 73)) (1+(byteAt s 0 - 128)% 256 - (55:Int)) (1+(byteAt s 0 - 128)% 256 - 55+part s (1+(byteAt s 0 - 128)% 256 - (55:Int)))),SV.str (false&&false&&false) (subStr s (some (Operand.tmp 78)) none (1+(byteAt s 0 - 128)% 256 - 55+part s (1+(byteAt s 0 - 128)% 256 - (55:Int))) (s.length:Int)),SV.niliface]))) (SV.tup ([SV.bool true false,SV.str true [],SV.str true []]++[SV.iface 272 (SV.ptr 0 true 0)])))) (SV.tup [SV.bool false (cutL s),SV.str false (cutIn s),SV.str false (cutRest s),SV.niliface]))) (SV.tup [SV.bool true false,SV.str true [],SV.str true [],SV.iface 272 (SV.ptr 0 true 0)])):=by kernel_rfl
end Go.Proofs.YtoalfimkkibpdaaGreatDoor
namespace Go.Proofs.YtoalfimkkibpdaaGreatDoor
open Go Sx
set_option maxRecDepth 20000
theorem lead_lt {s:List UInt8} (h:byteAt s 0<192):lead s=byteAt s 0 - 128:=if_pos h
theorem lead_ge {s:List UInt8} (h: ¬ byteAt s 0<192):lead s=byteAt s 0 - 192:=if_neg h
theorem cutB_iff {s:List UInt8}:cutB s=true↔s≠[]∧(byteAt s 0<128∨(¬ byteAt s 0<128∧55<lead s∧lenB s (lead s - 54)=true∧part s (lead s - 54)≤s.length - (lead s - 54))∨(¬ byteAt s 0<128∧¬ 55<lead s∧lead s≤s.length - 1∧¬ (byteAt s 0<192∧lead s=1∧byteAt s 1<128))):=by
 unfold cutB cutN cutFrom
 by_cases hA:byteAt s 0<128
 ·simp[hA]
 ·by_cases hL:55<lead s
  ·have:lead s≠1:=by omega
   simp[hA,hL,this]
  ·simp[hA,hL]
   intro _ _;omega
theorem same4 {a a':Bool} {b b' c c':List UInt8} {l1 l2 l3 l4 l5 l6:Bool} (h1:a=a')(h2:b=b')(h3:c=c'):sameVal (.tup [.bool l1 a,.str l2 b,.str l3 c,.niliface]) (.tup [.bool l4 a',.str l5 b',.str l6 c',.niliface]):=by
 subst h1;subst h2;subst h3;exact fun _=>rfl
theorem cut_short {s:List UInt8} (h:byteAt s 0<128):cutL s=false∧cutIn s=s.take 1∧cutRest s=s.drop 1:=by
 refine⟨by simp[cutL];omega,?_,?_⟩<;>simp[cutIn,cutRest,cutFrom,cutN,h]
theorem cut_mid {s:List UInt8} (h: ¬ byteAt s 0<128)(h2: ¬ 55<lead s):cutIn s=(s.drop (1:Int).toNat).take (lead s).toNat∧cutRest s=s.drop (1+lead s).toNat:=by
 constructor<;>simp[cutIn,cutRest,cutFrom,cutN,h,h2]
theorem cut_long {s:List UInt8} (h: ¬ byteAt s 0<128)(h2:55<lead s):cutIn s=(s.drop (lead s - 54).toNat).take (part s (lead s - 54)).toNat∧cutRest s=s.drop (lead s - 54+part s (lead s - 54)).toNat:=by
 constructor<;>simp[cutIn,cutRest,cutFrom,cutN,h,h2]
theorem cut_holds {s:List UInt8} (hs:s.length<9223372036854775808):Holds (runA cfg2 158 Tryz.f158 [.str false s] (cutA s)):=by
 refine Holds.of_eq (vcCut s) ?_
 have g0:=byteAt_lt s 0
 have g1:=byteAt_lt s 1
 have g2:=part_nn s (lead s - 54)
 by_cases h0:s=[]
 ·have hB:cutB s=false:=by rw[Bool.eq_false_iff,ne_eq,cutB_iff];simp[h0]
  simp only[h0,decide_true,forall_const,Bool.true_eq_false,false_imp_iff,and_true]
  rw[h0] at hB
  simp only[hB,Bool.false_eq_true,false_imp_iff,forall_const,true_and]
  (first | exact⟨_,SBle.cells (fun _=>rfl) rfl,fun _=>rfl⟩ | exact fun _=>rfl | trivial)
 have hl:0<s.length:=List.length_pos_iff.2 h0
 by_cases hA:byteAt s 0<128
 ·have hB:cutB s=true:=cutB_iff.2 ⟨h0,.inl hA⟩
  obtain⟨k1,k2,k3⟩:=cut_short hA
  simp only[h0,hA,hB,decide_true,decide_false,forall_const,Bool.true_eq_false,Bool.false_eq_true,false_imp_iff,and_true,true_and,subStr]
  refine⟨by omega,by omega,by omega,?_⟩
  exact same4 k1.symm (by rw[k2];rfl) (by rw[k3];rfl)
 ·have e2:1+lead s - 55=lead s - 54:=by omega
  by_cases hC:byteAt s 0<192
  ·have e3:cutL s=false:=by simp[cutL];omega
   have e1:(byteAt s 0 - 128)% 256=lead s:=by rw[lead_lt hC];omega
   have e4:=lead_lt hC
   by_cases hL:55<lead s
   ·obtain⟨k1,k2⟩:=cut_long hA hL
    have hB:cutB s=(lenB s (lead s - 54)&&decide (part s (lead s - 54)≤s.length - (lead s - 54))):=by rw[Bool.eq_iff_iff,cutB_iff];simp[h0,hA,hL]
    simp only[h0,hA,hC,hL,hB,e1,e2,decide_true,decide_false,forall_const,Bool.true_eq_false,Bool.false_eq_true,false_imp_iff,and_true,true_and,subStr]
    cases hb:lenB s (lead s - 54)with
    | false=>simp only[Bool.false_and,Bool.false_eq_true,false_imp_iff,forall_const,true_and];(repeat' first | apply And.intro | intro (_:_=true) | intro (_:_=false) | intro (_:Int))<;>first | omega | (first | exact⟨_,SBle.cells (fun _=>rfl) rfl,fun _=>rfl⟩ | exact fun _=>rfl | trivial)
    | true =>
      have hb':=lenB_iff.1 hb
      have hn: ¬ part s (lead s - 54)=1:=by omega
      simp only[hn,decide_false,Bool.true_and,Bool.true_eq_false,Bool.false_eq_true,false_imp_iff,forall_const,true_and,and_true]
      (repeat' first | apply And.intro | intro (_:_=true) | intro (_:_=false) | intro (_:Int))
      all_goals simp only[decide_eq_true_eq,decide_eq_false_iff_not,Int.not_lt,Int.not_le] at *
      all_goals first
       | omega
       | (refine same4 ?_ ?_ ?_
          ·simp[e3]
          ·rw[k1,show(lead s - 54+part s (lead s - 54)).toNat - (lead s - 54).toNat=(part s (lead s - 54)).toNat by omega]
          ·rw[k2])
       | (first | exact⟨_,SBle.cells (fun _=>rfl) rfl,fun _=>rfl⟩ | exact fun _=>rfl | trivial)
   ·obtain⟨k1,k2⟩:=cut_mid hA hL
    have hB:cutB s=(decide (lead s≤s.length - 1)&& !(decide (byteAt s 0<192)&&decide (lead s=1)&&decide (byteAt s 1<128))):=by
     rw[Bool.eq_iff_iff,cutB_iff]
     simp[h0,hA,hL,hC]
     try (intro _;omega)
    simp only[h0,hA,hC,hL,hB,e1,e2,decide_true,decide_false,forall_const,Bool.true_eq_false,Bool.false_eq_true,false_imp_iff,and_true,true_and,subStr]
    (repeat' first | apply And.intro | intro (_:_=true) | intro (_:_=false) | intro (_:Int))
    all_goals simp only[decide_eq_true_eq,decide_eq_false_iff_not,Int.not_lt,Int.not_le,Bool.and_eq_true,Bool.and_eq_false_iff,Bool.not_eq_true',Bool.not_eq_false',Bool.true_and,Bool.false_and] at *
    all_goals first
     | omega
     | (refine same4 ?_ ?_ ?_
        ·simp[e3]
        ·rw[k1,show(1+lead s).toNat - (1:Int).toNat=(lead s).toNat by omega]
        ·rw[k2])
     | (first | exact⟨_,SBle.cells (fun _=>rfl) rfl,fun _=>rfl⟩ | exact fun _=>rfl | trivial)
  ·have e3:cutL s=true:=by simp[cutL];omega
   have e1:(byteAt s 0 - 192)% 256=lead s:=by rw[lead_ge hC];omega
   have e4:=lead_ge hC
   by_cases hL:55<lead s
   ·obtain⟨k1,k2⟩:=cut_long hA hL
    have hB:cutB s=(lenB s (lead s - 54)&&decide (part s (lead s - 54)≤s.length - (lead s - 54))):=by rw[Bool.eq_iff_iff,cutB_iff];simp[h0,hA,hL]
    simp only[h0,hA,hC,hL,hB,e1,e2,decide_true,decide_false,forall_const,Bool.true_eq_false,Bool.false_eq_true,false_imp_iff,and_true,true_and,subStr]
    cases hb:lenB s (lead s - 54)with
    | false=>simp only[Bool.false_and,Bool.false_eq_true,false_imp_iff,forall_const,true_and];(repeat' first | apply And.intro | intro (_:_=true) | intro (_:_=false) | intro (_:Int))<;>first | omega | (first | exact⟨_,SBle.cells (fun _=>rfl) rfl,fun _=>rfl⟩ | exact fun _=>rfl | trivial)
    | true =>
      have hb':=lenB_iff.1 hb
      have hn: ¬ part s (lead s - 54)=1:=by omega
      simp only[Bool.true_and,Bool.true_eq_false,false_imp_iff,forall_const,and_true]
      (repeat' first | apply And.intro | intro (_:_=true) | intro (_:_=false) | intro (_:Int))
      all_goals simp only[decide_eq_true_eq,decide_eq_false_iff_not,Int.not_lt,Int.not_le] at *
      all_goals first
       | omega
       | (refine same4 ?_ ?_ ?_
          ·simp[e3]
          ·rw[k1,show(lead s - 54+part s (lead s - 54)).toNat - (lead s - 54).toNat=(part s (lead s - 54)).toNat by omega]
          ·rw[k2])
       | (first | exact⟨_,SBle.cells (fun _=>rfl) rfl,fun _=>rfl⟩ | exact fun _=>rfl | trivial)
   ·obtain⟨k1,k2⟩:=cut_mid hA hL
    have hB:cutB s=(decide (lead s≤s.length - 1)&& !(decide (byteAt s 0<192)&&decide (lead s=1)&&decide (byteAt s 1<128))):=by
     rw[Bool.eq_iff_iff,cutB_iff]
     simp[h0,hA,hL,hC]
     try (intro _;omega)
    simp only[h0,hA,hC,hL,hB,e1,e2,decide_true,decide_false,forall_const,Bool.false_eq_true,false_imp_iff,true_and,subStr]
    (repeat' first | apply And.intro | intro (_:_=true) | intro (_:_=false) | intro (_:Int))
    all_goals simp only[decide_eq_true_eq,decide_eq_false_iff_not,Int.not_lt,Int.not_le,Bool.and_eq_true,Bool.and_eq_false_iff,Bool.true_and,Bool.false_and,Bool.not_false,Bool.true_eq_false,or_false] at *
    all_goals first
     | omega
     | (refine same4 ?_ ?_ ?_
        ·simp[e3]
        ·rw[k1,show(1+lead s).toNat - (1:Int).toNat=(lead s).toNat by omega]
        ·rw[k2])
     | (first | exact⟨_,SBle.cells (fun _=>rfl) rfl,fun _=>rfl⟩ | exact fun _=>rfl | trivial)
end Go.Proofs.YtoalfimkkibpdaaGreatDoor
namespace Go.Proofs.YtoalfimkkibpdaaGreatDoor
open Go Sx
set_option maxRecDepth 20000
def cutSpec:List SV→Option (Prop×Ans)
 | [.str false s]=>some (s.length<9223372036854775808,cutA s)
 | _=>none
noncomputable def cutPT:PT:=ansPT cutSpec
theorem cut_ok:CallOk Tryz.prog 158 cutPT:=by
 refine ans_ok (n:=20) (fn:=Tryz.f158) Tryz.func158 (by kernel_rfl) (by kernel_rfl) ?_
 intro args p a h hp
 unfold cutSpec at h
 split at h
 ·rename_i s
  injection h with h;injection h with h1 h2;subst h1;subst h2
  refine⟨_,good2,rfl,fun b=> ?_,cut_holds hp⟩
  cases b
  ·exact faultA_ok rfl
  ·exact rfl
 ·cases h
def headOf (base:Int)(n:Nat):List UInt8:=if n≤55 then [UInt8.ofNat (base+n).toNat] else UInt8.ofNat (base+55+(digits n).length).toNat::digits n
def textOf (b:List UInt8):List UInt8:=if b.length=1∧byteAt b 0<128 then b else headOf 128 b.length++b
theorem dig_len (k:Nat)(n:Int):(dig k n).length≤k:=by
 induction k generalizing n with
 | zero=>simp[dig]
 | succ k ih =>
   unfold dig
   split
   ·have:=ih (n / 256)
    simp only[List.length_append,List.length_cons,List.length_nil];omega
   ·simp
theorem digits_len (n:Int):(digits n).length≤8:=dig_len 8 n
theorem head_holds {base n:Int} (h0:0≤base)(h1:base≤192)(h2:0≤n)(h3:n<1152921504606846976):Holds (runP cfg2 58 Tryz.f58 [.int .u8 false base,.int .i64 false n] (fun v=>sameVal v (.str false (headOf base n.toNat)))):=by
 refine Holds.of_eq (vcHead base n _) ?_
 have e:n% 18446744073709551616=n:=by omega
 have e1:((n.toNat:Nat):Int)=n:=by omega
 have hd:=digits_len n
 rw[e]
 refine⟨fun h=>str_same ?_,fun h=>⟨by omega,by omega,str_same ?_⟩⟩
 ·simp only[decide_eq_true_eq] at h
  unfold headOf
  rw[if_pos (by omega),e1]
  congr 3;omega
 ·simp only[decide_eq_false_iff_not] at h
  unfold headOf
  rw[if_neg (by omega),e1]
  simp only[cat,List.cons_append,List.nil_append]
  congr 3;omega
def headSpec:List SV→Option (Prop×SV)
 | [.int .u8 false base,.int .i64 false n]=>some ((0≤base∧base≤192)∧0≤n∧n<1152921504606846976,.str false (headOf base n.toNat))
 | _=>none
noncomputable def headPT:PT:=purePT headSpec
theorem head_ok:CallOk Tryz.prog 58 headPT:=by
 refine pure_ok good2 (n:=20) (fn:=Tryz.f58) Tryz.func58 (by kernel_rfl) (by kernel_rfl) ?_
 intro args p r h hp
 unfold headSpec at h
 split at h
 ·injection h with h;injection h with h1 h2;subst h1;subst h2
  exact⟨rfl,rfl,head_holds hp.1.1 hp.1.2 hp.2.1 hp.2.2⟩
 ·cases h
noncomputable def list3:List (FuncId×PT):=(158,cutPT)::(58,headPT)::list2
theorem list3_ok:SummOk Tryz.prog (fun f=>lookPT f list3):=.cons cut_ok (ansPT_mono _) (.cons head_ok (purePT_mono _) list2_ok)
noncomputable def cfg3:Cfg:={cfg0 with summ:=fun f=>lookPT f list3}
theorem good3:Sx.Good Tryz.prog cfg3:=⟨mixes,list3_ok,fns_ok⟩
end Go.Proofs.YtoalfimkkibpdaaGreatDoor
namespace Go.Proofs.YtoalfimkkibpdaaGreatDoor
open Go Sx
set_option maxRecDepth 20000
def splitA (s:List UInt8):Ans:=.fork (cutB s) fun b=>match b with
 | true=>.ret (.tup [.bool false (cutL s),.str false (cutIn s),.str false (cutRest s),.int .i64 true 0])
 | false=>.ret (.tup [.bool true false,.str true [],.str true [],.int .i64 true 2])
end Go.Proofs.YtoalfimkkibpdaaGreatDoor
namespace Go.Proofs.YtoalfimkkibpdaaGreatDoor
open Go Sx
set_option maxRecDepth 20000
theorem vcText (b:List UInt8)(R:SV→Prop):VC.holds (runP cfg3 29 Tryz.f29 [.str false b] R)=(((decide ((b.length:Int)=1)=true→((0:Int)≤(0:Int)∧0<(b.length:Int))∧(decide (byteAt b 0<128)=true→R (SV.str false b))∧(decide (byteAt b 0<128)=false→(((0:Int)≤(128:Int)∧(128:Int)≤(192:Int))∧0≤(b.length:Int)∧(b.length:Int)<1152921504606846976)∧(↑(headOf 128 (b.length:Int).toNat).length:Int)+(b.length:Int)≤9223372036854775807∧R (SV.str false (cat (headOf 128 (b.length:Int).toNat) b))))∧(decide ((b.length:Int)=1)=false→(((0:Int)≤(128:Int)∧(128:Int)≤(192:Int))∧0≤(b.length:Int)∧(b.length:Int)<1152921504606846976)∧(↑(headOf 128 (b.length:Int).toNat).length:Int)+(b.length:Int)≤9223372036854775807∧R (SV.str false (cat (headOf 128 (b.length:Int).toNat) b))))):=by kernel_rfl
theorem vcSplit (s:List UInt8):VC.holds (runA cfg3 119 Tryz.f119 [.str false s] (splitA s))=((fun P0:SV=>((s.length<9223372036854775808∧(cutB s=true→(cutB s=true→sameVal P0 P0)∧(cutB s=false→sameVal P0 (SV.tup [SV.bool true false,SV.str true [],SV.str true [],SV.int .i64 true 2])))∧(cutB s=false→∀(_u0:Int),(cutB s=true→sameVal (SV.tup [SV.bool true false,SV.str true [],SV.str true [],SV.int .i64 true 2]) P0)∧(cutB s=false→sameVal (SV.tup [SV.bool true false,SV.str true [],SV.str true [],SV.int .i64 true 2]) (SV.tup [SV.bool true false,SV.str true [],SV.str true [],SV.int .i64 true 2])))))) (SV.tup [SV.bool false (cutL s),SV.str false (cutIn s),SV.str false (cutRest s),SV.int .i64 true 0])):=by kernel_rfl
end Go.Proofs.YtoalfimkkibpdaaGreatDoor
namespace Go.Proofs.YtoalfimkkibpdaaGreatDoor
open Go Sx
set_option maxRecDepth 20000
theorem head_len (base:Int)(n:Nat):(headOf base n).length≤9:=by
 unfold headOf
 have:=digits_len n
 split<;>simp only[List.length_cons,List.length_nil]<;>omega
theorem text_long {b:List UInt8} (h: ¬ (b.length=1∧byteAt b 0<128)):textOf b=headOf 128 b.length++b:=if_neg h
theorem text_holds {b:List UInt8} (hb:b.length<1152921504606846976):Holds (runP cfg3 29 Tryz.f29 [.str false b] (fun v=>sameVal v (.str false (textOf b)))):=by
 refine Holds.of_eq (vcText b _) ?_
 have hl:=head_len 128 b.length
 simp only[Int.toNat_natCast]
 refine⟨fun h=>⟨by simp at h;omega,fun h2=>str_same ?_,fun h2=>⟨by omega,by omega,str_same ?_⟩⟩,fun h=>⟨by omega,by omega,str_same ?_⟩⟩
 ·simp at h h2;exact(if_pos ⟨by omega,h2⟩).symm
 ·simp only[decide_eq_false_iff_not] at h2
  exact(text_long fun x=>h2 x.2).symm
 ·simp only[decide_eq_false_iff_not] at h
  exact(text_long fun x=>h (by omega)).symm
def textSpec:List SV→Option (Prop×SV)
 | [.str false b]=>some (b.length<1152921504606846976,.str false (textOf b))
 | _=>none
noncomputable def textPT:PT:=purePT textSpec
theorem text_ok:CallOk Tryz.prog 29 textPT:=by
 refine pure_ok good3 (n:=20) (fn:=Tryz.f29) Tryz.func29 (by kernel_rfl) (by kernel_rfl) ?_
 intro args p r h hp
 unfold textSpec at h
 split at h
 ·injection h with h;injection h with h1 h2;subst h1;subst h2
  exact⟨rfl,rfl,text_holds hp⟩
 ·cases h
theorem split_holds {s:List UInt8} (hs:s.length<9223372036854775808):Holds (runA cfg3 119 Tryz.f119 [.str false s] (splitA s)):=by
 refine Holds.of_eq (vcSplit s) ?_
 cases cutB s with
 | true=>exact⟨hs,fun _=>⟨fun _ _=>rfl,(fun h=>by cases h)⟩,fun h=>by cases h⟩
 | false=>exact⟨hs,(fun h=>by cases h),fun _ _=>⟨(fun h=>by cases h),fun _ _=>rfl⟩⟩
def splitSpec:List SV→Option (Prop×Ans)
 | [.str false s]=>some (s.length<9223372036854775808,splitA s)
 | _=>none
noncomputable def splitPT:PT:=ansPT splitSpec
theorem split_ok:CallOk Tryz.prog 119 splitPT:=by
 refine ans_ok (n:=20) (fn:=Tryz.f119) Tryz.func119 (by kernel_rfl) (by kernel_rfl) ?_
 intro args p a h hp
 unfold splitSpec at h
 split at h
 ·rename_i s
  injection h with h;injection h with h1 h2;subst h1;subst h2
  refine⟨_,good3,rfl,fun b=> ?_,split_holds hp⟩
  cases b<;>exact rfl
 ·cases h
noncomputable def list4:List (FuncId×PT):=(29,textPT)::(119,splitPT)::list3
theorem list4_ok:SummOk Tryz.prog (fun f=>lookPT f list4):=.cons text_ok (purePT_mono _) (.cons split_ok (ansPT_mono _) list3_ok)
def getB (s:List UInt8):Bool:=cutB s&& !cutL s&&decide (cutRest s=[])&&decide ((cutIn s).length≤8)&& !(decide (cutIn s≠[])&&decide (byteAt (cutIn s) 0=0))
def getA (s:List UInt8):Ans:=.fork (getB s) fun b=>match b with
 | true=>.ret (.tup [.int .u64 false (num (cutIn s)),.int .i64 true 0])
 | false=>.ret (.tup [.int .u64 true 0,.int .i64 true 2])
noncomputable def annGet (l:List UInt8):LoopAnn :=
 {α:=Int,pre:=fun _ i=>0≤i∧i≤l.length,mea:=fun _ i=>(l.length - i).toNat,fresh:=0,slots:=fun _ i=>[(8,.int .u64 false (num (l.take i.toNat))),(42,.int .i64 false i)],mem:=fun _ _=>[]}
noncomputable def cfgG (l:List UInt8):Cfg:={cfg0 with summ:=fun f=>lookPT f list4,anns:=fun f=>if f=80 then [(10,always (annGet l))] else []}
theorem goodG (l:List UInt8):Sx.Good Tryz.prog (cfgG l):=⟨mixes,list4_ok,fns_ok⟩
end Go.Proofs.YtoalfimkkibpdaaGreatDoor
namespace Go.Proofs.YtoalfimkkibpdaaGreatDoor
open Go Sx
set_option maxRecDepth 20000
theorem vcGet (s:List UInt8):VC.holds (runA (cfgG (cutIn s)) 80 Tryz.f80 [.str false s] (getA s))=((fun P0:SV=>((fun P1:SV=>((s.length<9223372036854775808∧(cutB s=true→(cutL s=true→(getB s=true→sameVal P0 P1)∧(getB s=false→sameVal P0 P0))∧(cutL s=false→((!decide (cutRest s=[]))=true→(getB s=true→sameVal P0 P1)∧(getB s=false→sameVal P0 P0))∧((!decide (cutRest s=[]))=false→(decide (8<(↑(cutIn s).length:Int))=true→(getB s=true→sameVal P0 P1)∧(getB s=false→sameVal P0 P0))∧(decide (8<(↑(cutIn s).length:Int))=false→((!decide (cutIn s=[]))=true→((0:Int)≤(0:Int)∧0<(↑(cutIn s).length:Int))∧(decide (byteAt (cutIn s) 0=(0:Int))=true→(getB s=true→sameVal P0 P1)∧(getB s=false→sameVal P0 P0))∧(decide (byteAt (cutIn s) 0=(0:Int))=false→(∃(u5:Int),(0≤u5∧u5≤(↑(cutIn s).length:Int))∧0=num (List.take u5.toNat (cutIn s))∧0=u5∧True)∧∀(u4:Int),0≤u4∧u4≤(↑(cutIn s).length:Int)→(decide (u4<(↑(cutIn s).length:Int))=true→(0≤u4∧u4<(↑(cutIn s).length:Int))∧(0≤byteAt (cutIn s) u4∧byteAt (cutIn s) u4≤18446744073709551615)∧(0≤num (List.take u4.toNat (cutIn s))*256% (18446744073709551616:Int) ∧num (List.take u4.toNat (cutIn s))*256% (18446744073709551616:Int)≤(18446744073709551615:Int)∧0≤byteAt (cutIn s) u4∧byteAt (cutIn s) u4≤18446744073709551615)∧((-9223372036854775808:Int)≤u4+1∧u4+1≤(9223372036854775807:Int))∧∃(u3:Int),((0≤u3∧u3≤(↑(cutIn s).length:Int))∧((↑(cutIn s).length:Int) - u3).toNat<((↑(cutIn s).length:Int) - u4).toNat)∧bitsOf BinOp.or (num (List.take u4.toNat (cutIn s))*256% (18446744073709551616:Int)) (byteAt (cutIn s) u4)=num (List.take u3.toNat (cutIn s))∧u4+1=u3∧True)∧(decide (u4<(↑(cutIn s).length:Int))=false→(getB s=true→sameVal (SV.tup [SV.int .u64 false (num (List.take u4.toNat (cutIn s))),SV.int .i64 true 0]) P1)∧(getB s=false→sameVal (SV.tup [SV.int .u64 false (num (List.take u4.toNat (cutIn s))),SV.int .i64 true 0]) P0))))∧((!decide (cutIn s=[]))=false→(∃(u2:Int),(0≤u2∧u2≤(↑(cutIn s).length:Int))∧0=num (List.take u2.toNat (cutIn s))∧0=u2∧True)∧∀(u1:Int),0≤u1∧u1≤(↑(cutIn s).length:Int)→(decide (u1<(↑(cutIn s).length:Int))=true→(0≤u1∧u1<(↑(cutIn s).length:Int))∧(0≤byteAt (cutIn s) u1 ∧byteAt (cutIn s) u1≤18446744073709551615)∧(0≤num (List.take u1.toNat (cutIn s))*256% (18446744073709551616:Int)∧num (List.take u1.toNat (cutIn s))*256% (18446744073709551616:Int)≤(18446744073709551615:Int)∧0≤byteAt (cutIn s) u1∧byteAt (cutIn s) u1≤18446744073709551615)∧((-9223372036854775808:Int)≤u1+1∧u1+1≤(9223372036854775807:Int))∧∃(u0:Int),((0≤u0∧u0≤(↑(cutIn s).length:Int))∧((↑(cutIn s).length:Int) - u0).toNat<((↑(cutIn s).length:Int) - u1).toNat)∧bitsOf BinOp.or (num (List.take u1.toNat (cutIn s))*256% (18446744073709551616:Int)) (byteAt (cutIn s) u1)=num (List.take u0.toNat (cutIn s))∧u1+1=u0∧True)∧(decide (u1<(↑(cutIn s).length:Int))=false→(getB s=true→sameVal (SV.tup [SV.int .u64 false (num (List.take u1.toNat (cutIn s))),SV.int .i64 true 0]) P1)∧(getB s=false→sameVal (SV.tup [SV.int .u64 false (num (List.take u1.toNat (cutIn s))),SV.int .i64 true 0]) P0)))))))∧(cutB s=false→(getB s=true→sameVal P0 P1)∧(getB s=false→sameVal P0 P0))))) (SV.tup [SV.int .u64 false (num (cutIn s)),SV.int .i64 true 0]))) (SV.tup [SV.int .u64 true 0,SV.int .i64 true 2])):=by kernel_rfl
theorem vcNum (n:Int)(R:SV→Prop):VC.holds (runP (cfgG []) 31 Tryz.f31 [.int .u64 false n] R)=(((0≤n∧n<18446744073709551616)∧(digits n).length<1152921504606846976∧R (SV.str false (textOf (digits n))))):=by kernel_rfl
end Go.Proofs.YtoalfimkkibpdaaGreatDoor
namespace Go.Proofs.YtoalfimkkibpdaaGreatDoor
open Go Sx
set_option maxRecDepth 20000
theorem num_nn (l:List UInt8):0≤num l:=by
 unfold num
 suffices ∀(l:List UInt8) (a:Int),0≤a→0≤l.foldl (fun a b=>a*256+(b.toNat:Int)) a from this _ _ (Int.le_refl _)
 intro l
 induction l with
 | nil=>exact fun _ h=>h
 | cons b r ih=>intro a h;exact ih _ (show 0≤a*256+(b.toNat:Int)by omega)
theorem num_take {l:List UInt8} {x:Int} (h:0≤x)(h2:x<l.length):num (l.take (x+1).toNat)=num (l.take x.toNat)*256+byteAt l x:=by
 have e:(x+1).toNat=x.toNat+1:=by omega
 have hx:x.toNat<l.length:=by omega
 rw[e,List.take_add_one,List.getElem?_eq_getElem hx]
 simp only[Option.toList,num_snoc]
 congr 1
 unfold byteAt
 rw[List.getD_eq_getElem?_getD,List.getElem?_eq_getElem hx]
 rfl
theorem num_lt: ∀(n:Nat)(l:List UInt8),l.length≤n→num l<256^ n
 | 0,l,h=>by
   have:l=[]:=List.length_eq_zero_iff.1 (by omega)
   subst this;decide
 | n+1,l,h=>by
   rcases List.eq_nil_or_concat l with rfl | ⟨r,b,rfl⟩
   ·have:(0:Int)<256^ (n+1):=Int.pow_pos (by decide)
    exact this
   ·simp only[List.length_concat] at h
    have:=num_lt n r (by omega)
    have hb:=b.toNat_lt
    rw[List.concat_eq_append,num_snoc,Int.pow_succ]
    omega
theorem num_lt7 {l:List UInt8} {x:Int} (_h0:0≤x)(h:x<l.length)(h2:l.length≤8):num (l.take x.toNat)<72057594037927936:=by
 have:=num_lt 7 (l.take x.toNat) (by simp only[List.length_take];omega)
 exact this
theorem get_step {l:List UInt8} {x:Int} (h0:0≤x)(h:x<l.length)(h2:l.length≤8):bitsOf .or (num (l.take x.toNat)*256% 18446744073709551616) (byteAt l x)=num (l.take (x+1).toNat):=by
 have h3:=num_lt7 h0 h h2
 have h4:=num_nn (l.take x.toNat)
 have h5:=byteAt_lt l x
 rw[show num (l.take x.toNat)*256% 18446744073709551616=num (l.take x.toNat)*256 by omega,or_256 h4 h5.1 h5.2,num_take h0 h]
theorem getB_iff {s:List UInt8}:getB s=true↔cutB s=true∧cutL s=false∧cutRest s=[]∧(cutIn s).length≤8∧(cutIn s=[]∨byteAt (cutIn s) 0≠0):=by
 unfold getB
 by_cases h:cutIn s=[]<;>simp[and_assoc,h]
theorem get_loop {l:List UInt8} (hl:l.length≤8) {Q:Int→Prop} (hQ:Q l.length):(∃(y:Int),((0:Int)≤y∧y≤(↑l.length:Int))∧(0:Int)=num (List.take y.toNat l)∧(0:Int)=y∧True) ∧
            ∀(x:Int),
             (0:Int)≤x∧x≤(↑l.length:Int) →
               (decide (x<(↑l.length:Int))=true →
                 ((0:Int)≤x∧x<(↑l.length:Int)) ∧
                  ((0:Int)≤byteAt l x∧byteAt l x≤(18446744073709551615:Int)) ∧
                   ((0:Int)≤num (List.take x.toNat l)*(256:Int)% (18446744073709551616:Int) ∧
                      num (List.take x.toNat l)*(256:Int)% (18446744073709551616:Int)≤(18446744073709551615:Int) ∧
                       (0:Int)≤byteAt l x∧byteAt l x≤(18446744073709551615:Int)) ∧
                    ((-9223372036854775808:Int)≤x+(1:Int)∧x+(1:Int)≤(9223372036854775807:Int)) ∧
                     ∃(y:Int),
                      (((0:Int)≤y∧y≤(↑l.length:Int))∧((↑l.length:Int) - y).toNat<((↑l.length:Int) - x).toNat) ∧
                       bitsOf BinOp.or (num (List.take x.toNat l)*(256:Int)% (18446744073709551616:Int)) (byteAt l x)=num (List.take y.toNat l) ∧
                        x+(1:Int)=y∧True) ∧
                 (decide (x<(↑l.length:Int))=false→Q x):=by
 refine⟨⟨0,by omega,rfl,rfl,trivial⟩,fun x ⟨h1,h2⟩=>⟨fun h=> ?_,fun h=> ?_⟩⟩
 ·simp only[decide_eq_true_eq] at h
  have h5:=byteAt_lt l x
  exact⟨by omega,by omega,by omega,by omega,x+1,by omega,get_step h1 h hl,rfl,trivial⟩
 ·simp only[decide_eq_false_iff_not] at h
  obtain rfl:x=l.length:=by omega
  exact hQ
theorem get_holds {s:List UInt8} (hs:s.length<9223372036854775808):Holds (runA (cfgG (cutIn s)) 80 Tryz.f80 [.str false s] (getA s)):=by
 refine Holds.of_eq (vcGet s) ?_
 have F: ∀ {p q:Prop},¬ (cutB s=true∧cutL s=false∧cutRest s=[]∧(cutIn s).length≤8∧(cutIn s=[]∨byteAt (cutIn s) 0≠0))→q→(getB s=true→p)∧(getB s=false→q):=fun h hq=>⟨fun e=>absurd (getB_iff.1 e) h,fun _=>hq⟩
 refine⟨hs,fun a=>⟨fun b=>F (by simp[b]) fun _=>rfl,fun b=>⟨fun c=>F (by simp at c;simp[c]) fun _=>rfl,fun c=>⟨fun d=>F (by simp at d;omega) fun _=>rfl,fun d=> ?_⟩⟩⟩,fun a=>F (by simp[a]) fun _=>rfl⟩
 simp only[decide_eq_false_iff_not,Int.not_lt,Bool.not_eq_false',decide_eq_true_eq] at c d
 have T:(cutIn s=[]∨byteAt (cutIn s) 0≠0)→getB s=true:=fun e=>getB_iff.2 ⟨a,b,c,by omega,e⟩
 have G: ∀ {p:Prop},(cutIn s=[]∨byteAt (cutIn s) 0≠0)→(getB s=true→sameVal (SV.tup [SV.int IntKind.u64 false (num (List.take (((cutIn s).length:Int)).toNat (cutIn s))),SV.int IntKind.i64 true (0:Int)])
                      (SV.tup [SV.int IntKind.u64 false (num (cutIn s)),SV.int IntKind.i64 true (0:Int)]))∧(getB s=false→p):=fun e=>⟨fun _=>by rw[Int.toNat_natCast,List.take_length];exact fun _=>rfl,fun h=>by rw[T e] at h;cases h⟩
 refine⟨fun e=>⟨?_,fun f=>F (by simp at e f;simp[e,f]) fun _=>rfl,fun f=> ?_⟩,fun e=> ?_⟩
 ·simp only[Bool.not_eq_true',decide_eq_false_iff_not] at e
  have:=List.length_pos_iff.2 e
  omega
 ·exact get_loop (l:=cutIn s) (by omega) (Q:=fun x=>(getB s=true→sameVal (SV.tup [SV.int IntKind.u64 false (num (List.take x.toNat (cutIn s))),SV.int IntKind.i64 true (0:Int)]) _)∧(getB s=false→_)) (G (.inr (by simpa using f)))
 ·exact get_loop (l:=cutIn s) (by omega) (Q:=fun x=>(getB s=true→sameVal (SV.tup [SV.int IntKind.u64 false (num (List.take x.toNat (cutIn s))),SV.int IntKind.i64 true (0:Int)]) _)∧(getB s=false→_)) (G (.inl (by simpa using e)))
def getSpec:List SV→Option (Prop×Ans)
 | [.str false s]=>some (s.length<9223372036854775808,getA s)
 | _=>none
noncomputable def getPT:PT:=ansPT getSpec
theorem get_ok:CallOk Tryz.prog 80 getPT:=by
 refine ans_ok (n:=20) (fn:=Tryz.f80) Tryz.func80 (by kernel_rfl) (by kernel_rfl) ?_
 intro args p a h hp
 unfold getSpec at h
 split at h
 ·rename_i s
  injection h with h;injection h with h1 h2;subst h1;subst h2
  refine⟨_,goodG (cutIn s),rfl,fun b=> ?_,get_holds hp⟩
  cases b<;>exact rfl
 ·cases h
def numSpec:List SV→Option (Prop×SV)
 | [.int .u64 false n]=>some (0≤n∧n<18446744073709551616,.str false (textOf (digits n)))
 | _=>none
noncomputable def numPT:PT:=purePT numSpec
theorem num_ok:CallOk Tryz.prog 31 numPT:=by
 refine pure_ok (goodG []) (n:=20) (fn:=Tryz.f31) Tryz.func31 (by kernel_rfl) (by kernel_rfl) ?_
 intro args p r h hp
 unfold numSpec at h
 split at h
 ·rename_i n
  injection h with h;injection h with h1 h2;subst h1;subst h2
  have:=digits_len n
  exact⟨rfl,rfl,Holds.of_eq (vcNum n _) ⟨hp,by omega,fun _=>rfl⟩⟩
 ·cases h
noncomputable def list5:List (FuncId×PT):=(80,getPT)::(31,numPT)::list4
theorem list5_ok:SummOk Tryz.prog (fun f=>lookPT f list5):=.cons get_ok (ansPT_mono _) (.cons num_ok (purePT_mono _) list4_ok)
end Go.Proofs.YtoalfimkkibpdaaGreatDoor
namespace Go.Proofs
open Go.Shelf
def Tryz.laysJoin_ren:Go.Shelf.Ren:=⟨fun | 156=>59 | 165=>95 | 166=>96 | 169=>97 | 240=>140 | 241=>141 | 276=>170 | 277=>171 | n=>n,fun | 31=>22 | 9=>9 | 3=>3 | 4=>4 | 0=>0 | 20=>20 | 72=>167 | 76=>169 | 70=>165 | 37=>163 | 75=>80 | 127=>235 | 164=>121 | 5=>5 | 80=>171 | n=>n,fun | n=>n⟩
theorem Tryz.laysJoin:Go.Proofs.Lays.n156 Tryz.prog Tryz.laysJoin_ren:={
 mixed:=by kernel_rfl,
 f156:=Tryz.func59.trans (congrArg some (by kernel_rfl)),
 f165:=Tryz.func95.trans (congrArg some (by kernel_rfl)),
 f166:=Tryz.func96.trans (congrArg some (by kernel_rfl)),
 f169:=Tryz.func97.trans (congrArg some (by kernel_rfl)),
 f240:=Tryz.func140.trans (congrArg some (by kernel_rfl)),
 f241:=Tryz.func141.trans (congrArg some (by kernel_rfl)),
 f276:=Tryz.func170.trans (congrArg some (by kernel_rfl)),
 f277:=Tryz.func171.trans (congrArg some (by kernel_rfl)),
 t0:=Tryz.underlying0,
 a0:=Tryz.isAgg0,
 z0:=Tryz.sizeOf0,
 v0:=Tryz.zeroValue0,
 t3:=Tryz.underlying3,
 a3:=Tryz.isAgg3,
 z3:=Tryz.sizeOf3,
 v3:=Tryz.zeroValue3,
 t4:=Tryz.underlying4,
 a4:=Tryz.isAgg4,
 z4:=Tryz.sizeOf4,
 v4:=Tryz.zeroValue4,
 t9:=Tryz.underlying9,
 a9:=Tryz.isAgg9,
 z9:=Tryz.sizeOf9,
 v9:=Tryz.zeroValue9,
 t20:=Tryz.underlying20,
 a20:=Tryz.isAgg20,
 z20:=Tryz.sizeOf20,
 v20:=Tryz.zeroValue20,
 t31:=Tryz.underlying22,
 a31:=Tryz.isAgg22,
 z31:=Tryz.sizeOf22,
 v31:=Tryz.zeroValue22,
 t37:=Tryz.underlying163,
 a37:=Tryz.isAgg163,
 z37:=Tryz.sizeOf163,
 v37:=Tryz.zeroValue163,
 t70:=Tryz.underlying165,
 a70:=Tryz.isAgg165,
 z70:=Tryz.sizeOf165,
 v70:=Tryz.zeroValue165,
 t72:=Tryz.underlying167,
 a72:=Tryz.isAgg167,
 z72:=Tryz.sizeOf167,
 v72:=Tryz.zeroValue167,
 t75:=Tryz.underlying80,
 a75:=Tryz.isAgg80,
 z75:=Tryz.sizeOf80,
 v75:=Tryz.zeroValue80,
 t76:=Tryz.underlying169,
 a76:=Tryz.isAgg169,
 z76:=Tryz.sizeOf169,
 v76:=Tryz.zeroValue169,
 t127:=Tryz.underlying235,
 a127:=Tryz.isAgg235,
 z127:=Tryz.sizeOf235,
 v127:=Tryz.zeroValue235,
 t164:=Tryz.underlying121,
 a164:=Tryz.isAgg121,
 z164:=Tryz.sizeOf121,
 v164:=Tryz.zeroValue121}
end Go.Proofs
namespace Go.Proofs
open Go.Shelf Go.RowKit
theorem Tryz.extra:Builder.Extra Tryz.prog Tryz.laysJoin_ren:={
 sizeBuilder:=by kernel_rfl,
 liesBuilder:=by kernel_rfl,
 t5:=by kernel_rfl,
 a5:=by intro w;kernel_rfl,
 z5:=by intro w;kernel_rfl,
 v5:=by intro w;kernel_rfl,
 infoByte:=by kernel_rfl,
 cellsByte:=by kernel_rfl,
 sizeByte:=by kernel_rfl,
 neB5:=by decide}
end Go.Proofs
namespace Go.Proofs.YtoalfimkkibpdaaGreatDoor
open Go Sx
set_option maxRecDepth 20000
theorem joinNum:Tryz.laysJoin_ren.f 156=59:=by kernel_rfl
def flat (l:List (List UInt8)):List UInt8:=l.flatten
def rowL (f:Nat→List UInt8)(i n:Nat):List (List UInt8):=(List.range n).map fun j=>f (i+j)
theorem rowL_get {f:Nat→List UInt8} {i n j:Nat} {x:List UInt8} (h:(rowL f i n)[j]?=some x):j<n∧f (i+j)=x:=by
 unfold rowL at h
 rw[List.getElem?_map] at h
 by_cases hj:j<n
 ·rw[List.getElem?_range hj] at h
  injection h with h
  exact⟨hj,h⟩
 ·rw[List.getElem?_eq_none (by simpa using hj)] at h;cases h
theorem rowL_len (f:Nat→List UInt8)(i n:Nat):(rowL f i n).length=n:=by simp[rowL]
def strCells:List SV→Option (List (List UInt8))
 | []=>some []
 | .str _ s::r=>(match strCells r with
   | some l=>some (s::l)
   | none=>none)
 | _=>none
theorem strCells_get {cs:List SV} {l:List (List UInt8)} (h:strCells cs=some l):l.length=cs.length∧∀(j:Nat)(x:List UInt8),l[j]?=some x→∃ b,cs[j]?=some (.str b x):=by
 induction cs generalizing l with
 | nil=>injection h with h;subst h;exact⟨rfl,fun j x hx=>by simp at hx⟩
 | cons v r ih =>
   unfold strCells at h
   split at h
   ·cases ‹_::_=[]›
   ·rename_i b s r' e
    injection e with e1 e2;subst e1;subst e2
    split at h
    ·rename_i l' hl
     injection h with h;subst h
     obtain⟨g1,g2⟩:=ih hl
     refine⟨by simp[g1],fun j x hx=> ?_⟩
     cases j with
     | zero=>injection hx with hx;subst hx;exact⟨b,rfl⟩
     | succ j=>exact g2 j x (by simpa using hx)
    ·cases h
   ·cases h
def strsOf (m:Mem):SV→Option (Prop×List (List UInt8))
 | .nilslc=>some (True,[])
 | .slc key o n _ c=>(match m.get key with
   | some (.cells cs _ _)=>(match strCells ((cs.drop o).take n)with
     | some l=>some (l.length=n∧n≤c,l)
     | none=>none)
   | _=>none)
 | .rslc key 1 _ i n c=>(match m.get key with
   | some (.rows _ n' [.str f] _ _ _)=>some (i+n≤n'∧n≤c,rowL f i n)
   | _=>none)
 | .vslc key 1 _ o i n c=>(match m.get key with
   | some (.view _ o' n' [.str f])=>some (o'=o∧i+n≤n'∧n≤c,rowL f i n)
   | _=>none)
 | _=>none
theorem strsOf_ok {Γ E m nx w} (h:SatM Γ E m nx w) {v:SV} {p:Prop} {l:List (List UInt8)} (hv:strsOf m v=some (p,l))(hp:p) :
  (∃ a c,l=[]∧v.val E=.slice a 0 c)∨(∃ k o c,v.val E=.slice (some ⟨k,o,none⟩) l.length c∧l.length≤c∧k<w.heap.size∧∀(j:Nat) x,l[j]?=some x→w.cell? ⟨k,o+j,none⟩=some (.string ⟨x.toArray⟩)):=by
 unfold strsOf at hv
 split at hv
 ·injection hv with hv;injection hv with h1 h2;subst h2;exact .inl ⟨_,_,rfl,rfl⟩
 ·rename_i key o n cl c
  split at hv
  ·rename_i cs tot ty hk
   split at hv
   ·rename_i l' hl
    injection hv with hv;injection hv with h1 h2;subst h1;subst h2
    obtain⟨g1,g2⟩:=strCells_get hl
    obtain⟨ob,ho,ce,fr,rfl,_,h4,_⟩:=h.blk key _ hk rfl
    refine .inr ⟨E key,o,c,by rw[hp.1];rfl,by omega,(Array.getElem?_eq_some_iff.1 ho).1,fun j x hx=> ?_⟩
    obtain⟨b,hb⟩:=g2 j x hx
    rw[cell_of ho]
    have hj:j<n:=by
     have:=(List.getElem?_eq_some_iff.1 hx).1
     omega
    rw[List.getElem?_take_of_lt hj,List.getElem?_drop] at hb
    exact h4 _ _ hb
   ·cases hv
  ·cases hv
 ·rename_i key z i n c
  split at hv
  ·rename_i z' n' f ro tot ty hk
   injection hv with hv;injection hv with h1 h2;subst h1;subst h2
   cases n with
   | zero=>exact .inl ⟨_,_,rfl,rfl⟩
   | succ n =>
     obtain⟨ob,ho,ce,fr,rfl,_,_,_,h4⟩:=h.blk key _ hk (SB.no_rows (i:=0) (by omega))
     refine .inr ⟨E key,i,c,?_,by rw[rowL_len];exact hp.2,(Array.getElem?_eq_some_iff.1 ho).1,fun j x hx=> ?_⟩
     ·rw[rowL_len];cases z<;>simp[SV.val,show Nat.beq (n+1) 0=false from rfl]
     ·obtain⟨hj,hx⟩:=rowL_get hx
      rw[cell_of ho]
      have:=h4 (i+j) 0 (.str f) (by omega) rfl
      simpa [Col.at,SV.val,hx] using this
  ·cases hv
 ·rename_i key z o i n c
  split at hv
  ·rename_i z' o' n' f hk
   injection hv with hv;injection hv with h1 h2;subst h1;subst h2
   cases n with
   | zero=>exact .inl ⟨_,_,rfl,rfl⟩
   | succ n =>
     obtain⟨ob,ho,ce,ty,fr,rfl,h4⟩:=h.blk key _ hk (SB.no_view (i:=0) (by omega))
     refine .inr ⟨E key,o+i,c,?_,by rw[rowL_len];exact hp.2.2,(Array.getElem?_eq_some_iff.1 ho).1,fun j x hx=> ?_⟩
     ·rw[rowL_len];cases z<;>simp[SV.val,show Nat.beq (n+1) 0=false from rfl]
     ·obtain⟨hj,hx⟩:=rowL_get hx
      rw[cell_of ho]
      have:=h4 (i+j) 0 (.str f) (by omega) rfl
      obtain⟨rfl,_⟩:=hp
      simpa [Col.at,SV.val,hx,Nat.add_assoc] using this
  ·cases hv
 ·cases hv
noncomputable def joinPT:PT:=fun args m nx K=>match args with
 | [v,.str _ []]=>(match strsOf m v with
   | some (p,l)=>.and (.atom (p∧l.length≤140737488355328∧(flat l).length≤140737488355328)) (K (.str false (flat l)) m nx)
   | none=>.fail "texts that are not known")
 | _=>.fail "a separator"
theorem joinPT_mono:MonoPT joinPT:=by
 intro args m nx K K' hK h
 unfold joinPT at h ⊢
 split at h
 ·split at h
  ·rename_i p l hl
   exact⟨h.1,hK _ _ _ h.2⟩
  ·exact h.elim
 ·exact h.elim
theorem join_flat: ∀ l:List (List UInt8),Lib.join l []=flat l
 | []=>rfl
 | [x]=>by simp[Lib.join,flat,List.intercalate]
 | x::y::r=>by
   have:=join_flat (y::r)
   simp[Lib.join,flat,List.intercalate] at this ⊢;rw[this]
theorem join_ok:CallOk Tryz.prog 59 joinPT:=by
 intro args m nx K hk hwf hargs Γ E w hs
 unfold joinPT at hk
 split at hk
 ·rename_i v b
  split at hk
  ·rename_i p l hl
   obtain⟨⟨hp,h1,h2⟩,hk⟩:=hk
   have hc:Calls Tryz.prog 59 (SV.vals E [v,.str b []]).toArray w fun e w'=>e=.returned (.string ⟨(flat l).toArray⟩)∧RowKit.Below w.heap.size w w':=by
    rw[← joinNum]
    rcases strsOf_ok hs hl hp with ⟨a,c,rfl,hv⟩ | ⟨k,o,c,hv,g1,g2,g3⟩
    ·simp only[SV.vals,hv,SV.val]
     exact(Any.strings_Join_none Tryz.laysJoin Tryz.extra a c _ w).mono fun e w' ⟨he,hw⟩=>⟨he,hw▸ RowKit.Below.refl _ _⟩
    ·simp only[SV.vals,hv,SV.val]
     have:=Any.strings_Join Tryz.laysJoin Tryz.extra k o c (l.map fun x=>⟨x.toArray⟩) ⟨#[]⟩ w (fun j x hx=>by
      rw[List.getElem?_map] at hx
      cases hj:l[j]? with
      | none=>rw[hj] at hx;cases hx
      | some y=>rw[hj] at hx;injection hx with hx;subst hx;exact g3 j y hj) g2 (by simpa using h1) (by simpa using g1) (by
      simp only[List.map_map]
      have:(l.map ((fun x:ByteArray=>x.data.toList)∘ fun x=>(⟨x.toArray⟩:ByteArray)))=l:=by
       rw[show((fun x:ByteArray=>x.data.toList)∘ fun x:List UInt8=>(⟨x.toArray⟩:ByteArray))=id from by funext x;simp]
       simp
      rw[this]
      show(Lib.join l []).length≤_
      rw[join_flat];exact h2)
     rw[List.length_map] at this
     refine this.mono fun e w' ⟨he,hw⟩=>⟨?_,hw⟩
     rw[he,List.map_map]
     have:(l.map ((fun x:ByteArray=>x.data.toList)∘ fun x=>(⟨x.toArray⟩:ByteArray)))=l:=by
      rw[show((fun x:ByteArray=>x.data.toList)∘ fun x:List UInt8=>(⟨x.toArray⟩:ByteArray))=id from by funext x;simp]
      simp
     rw[this]
     rw[← join_flat]
   refine out_of_calls Tryz.func59 (by kernel_rfl) (by kernel_rfl) (hc.mono ?_)
   rintro e w' ⟨rfl,hb⟩
   exact⟨_,rfl,E,some (.str false (flat l)),m,nx,fun _ _=>rfl,Nat.le_refl _,fun x hx=>by injection hx with hx;subst hx;rfl,hs.still (Ext.of_below hb),hk⟩
  ·exact hk.elim
 ·exact hk.elim
end Go.Proofs.YtoalfimkkibpdaaGreatDoor
namespace Go.Proofs.YtoalfimkkibpdaaGreatDoor
open Go Sx
set_option maxRecDepth 20000
noncomputable def list6:List (FuncId×PT):=(59,joinPT)::list5
theorem list6_ok:SummOk Tryz.prog (fun f=>lookPT f list6):=.cons join_ok joinPT_mono list5_ok
def restAt (s:List UInt8):Nat→List UInt8
 | 0=>s
 | k+1=>cutRest (restAt s k)
def itemOf (s:List UInt8):List UInt8:=s.take (s.length - (cutRest s).length)
def itemAt (s:List UInt8)(k:Nat):List UInt8:=itemOf (restAt s k)
def scan:Nat→List UInt8→Nat×Bool
 | 0,s=>(0,decide (s=[]))
 | f+1,s=>if s=[] then(0,true)else if cutB s then((scan f (cutRest s)).1+1,(scan f (cutRest s)).2)else(0,false)
def itemsN (s:List UInt8):Nat:=(scan s.length s).1
def itemsB (s:List UInt8):Bool:=(scan s.length s).2
def itemsA (s:List UInt8):Ans:=.fork (itemsB s) fun b=>match b with
 | true=>.all Nat fun c=>.req (itemsN s≤c) (.new (fun k=>.tup [.rslc k 1 true 0 (itemsN s) c,.int .i64 true 0]) (.rows true (itemsN s) [.str (itemAt s)] false c 9))
 | false=>.ret (.tup [.nilslc,.int .i64 true 2])
structure ItemG where
 k:Nat
 c:Nat
structure ItemPre (s:List UInt8)(x:ItemG):Prop where
 walk: ∀ j,j<x.k→restAt s j≠[]∧cutB (restAt s j)=true
 cap:x.k≤x.c
noncomputable def annItems (s:List UInt8):LoopAnn :=
 {α:=ItemG,pre:=fun _ x=>ItemPre s x,mea:=fun _ x=>(restAt s x.k).length,fresh:=1,slots:=fun _ x=>[(3,.str false (restAt s x.k))],
  mem:=fun st x=>[(2,.cells [.rslc st.nx 1 true 0 x.k x.c] 1 22),(st.nx,.rows true x.k [.str (itemAt s)] false x.c 9)]}
noncomputable def cfgI (s:List UInt8):Cfg:={cfg0 with summ:=fun f=>lookPT f list6,anns:=fun f=>if f=179 then [(1,always (annItems s))] else []}
theorem goodI (s:List UInt8):Sx.Good Tryz.prog (cfgI s):=⟨mixes,list6_ok,fns_ok⟩
end Go.Proofs.YtoalfimkkibpdaaGreatDoor
namespace Go.Proofs.YtoalfimkkibpdaaGreatDoor
open Go Sx
set_option maxRecDepth 20000
theorem vcItems (s:List UInt8):VC.holds (runA (cfgI s) 118 Tryz.f118 [.str false s] (itemsA s))=((∀(u8:Loop),(∃(u7:ItemG),ItemPre s u7∧s=restAt s u7.k∧(1:Nat)=(1:Nat)∧u7.k=0∧(SB.rows true u7.k [Col.str (itemAt s)] false u7.c 9).no=true∧SBle (SB.loop LoopState.ready none u8) (SB.loop LoopState.ready none u8)∧SBle (SB.cells (SV.str false s).cells 1 9) (SB.cells (SV.str false s).cells 1 9)∧SBle (SB.cells (SV.int .i64 true 0).cells 1 27) (SB.cells (SV.int .i64 true 0).cells 1 27)∧SBle (SB.cells SV.nilslc.cells 1 22) (SB.cells SV.nilslc.cells 1 22)∧True)∧∀(u6:ItemG),ItemPre s u6→((!decide (restAt s u6.k=[]))=true→(restAt s u6.k).length<9223372036854775808∧(cutB (restAt s u6.k)=true→((-9223372036854775808:Int)≤(↑(restAt s u6.k).length:Int) - (↑(cutRest (restAt s u6.k)).length:Int)∧(↑(restAt s u6.k).length:Int) - (↑(cutRest (restAt s u6.k)).length:Int)≤9223372036854775807)∧((0:Int)≤(0:Int)∧0≤(↑(restAt s u6.k).length:Int) - (↑(cutRest (restAt s u6.k)).length:Int)∧(↑(restAt s u6.k).length:Int) - (↑(cutRest (restAt s u6.k)).length:Int)≤(↑(restAt s u6.k).length:Int))∧u8=u8∧(0+u6.k≤u6.k∧True∧2*(u6.k+1)*16≤(281474976710656:Nat) ∧u6.k+1<(9223372036854775808:Nat))∧u6.c=u6.c*1∧∀(u5:Nat),u6.k+1≤u5→∃(u4:ItemG),(ItemPre s u4∧(restAt s u4.k).length<(restAt s u6.k).length)∧cutRest (restAt s u6.k)=restAt s u4.k∧(1:Nat)=(1:Nat)∧((0:Nat)=(0:Nat)∧u6.k+1=u4.k∧u5=u4.c)∧True∧SBle (SB.rows true (u6.k+1) [Col.str fun(u3:Nat)=>if u3<u6.k then itemAt s u3 else selS [subStr (restAt s u6.k) none (some (Operand.tmp 37)) 0 ((↑(restAt s u6.k).length:Int) - (↑(cutRest (restAt s u6.k)).length:Int))] (u3 - u6.k)] false (u5*1) 9) (SB.rows true u4.k [Col.str (itemAt s)] false u4.c 9)∧SBle (SB.loop LoopState.ready none u8) (SB.loop LoopState.ready none u8)∧SBle (SB.cells (SV.str false s).cells 1 9) (SB.cells (SV.str false s).cells 1 9)∧SBle (SB.cells (SV.int .i64 true 0).cells 1 27) (SB.cells (SV.int .i64 true 0).cells 1 27)∧SBle (SB.cells SV.nilslc.cells 1 22) (SB.cells SV.nilslc.cells 1 22)∧True)∧(cutB (restAt s u6.k)=false→∀(_u2:Int),((-9223372036854775808:Int)≤(s.length:Int) - (↑(restAt s u6.k).length:Int)∧(s.length:Int) - (↑(restAt s u6.k).length:Int)≤9223372036854775807)∧u8=u8∧(itemsB s=true →∃(u1:Nat),itemsN s≤u1∧False)∧(itemsB s=false→sameVal (SV.tup [SV.nilslc,SV.int .i64 true 2]) (SV.tup [SV.nilslc,SV.int .i64 true 2]))))∧((!decide (restAt s u6.k=[]))=false→(itemsB s=true→∃(u0:Nat),itemsN s≤u0∧SBle (SB.rows true u6.k [Col.str (itemAt s)] false u6.c 9) (SB.rows true (itemsN s) [Col.str (itemAt s)] false u0 9)∧sameVal (SV.tup [SV.rslc ((0:Nat)+(1:Nat)+(1:Nat)+(1:Nat)+(1:Nat)+(1:Nat)) 1 true 0 u6.k u6.c,SV.int .i64 true 0]) (SV.tup [SV.rslc ((0:Nat)+(1:Nat)+(1:Nat)+(1:Nat)+(1:Nat)+(1:Nat)) 1 true 0 (itemsN s) u0,SV.int .i64 true 0]))∧(itemsB s=false→sameVal (SV.tup [SV.rslc ((0:Nat)+(1:Nat)+(1:Nat)+(1:Nat)+(1:Nat)+(1:Nat)) 1 true 0 u6.k u6.c,SV.int .i64 true 0]) (SV.tup [SV.nilslc,SV.int .i64 true 2]))))):=by kernel_rfl
end Go.Proofs.YtoalfimkkibpdaaGreatDoor
namespace Go.Proofs.YtoalfimkkibpdaaGreatDoor
open Go Sx
set_option maxRecDepth 20000
theorem lead_nn {s:List UInt8} (h: ¬ byteAt s 0<128):0≤lead s:=by
 unfold lead
 split<;>omega
theorem cut_lt {s:List UInt8} (h:cutB s=true):(cutRest s).length<s.length:=by
 obtain⟨h0,h⟩:=cutB_iff.1 h
 have hl:=List.length_pos_iff.2 h0
 by_cases hA:byteAt s 0<128
 ·rw[(cut_short hA).2.2,List.length_drop];omega
 ·have g:=lead_nn hA
  by_cases hL:55<lead s
  ·have:=part_nn s (lead s - 54)
   rw[(cut_long hA hL).2,List.length_drop];omega
  ·rw[(cut_mid hA hL).2,List.length_drop];omega
theorem scan_fuel: ∀(f f':Nat)(s:List UInt8),s.length≤f→s.length≤f'→scan f s=scan f' s
 | 0,0,_,_,_=>rfl
 | 0,f'+1,s,h,_=>by
   have:s=[]:=List.length_eq_zero_iff.1 (by omega)
   subst this;rfl
 | f+1,0,s,_,h=>by
   have:s=[]:=List.length_eq_zero_iff.1 (by omega)
   subst this;rfl
 | f+1,f'+1,s,h,h'=>by
   simp only[scan]
   split
   ·rfl
   ·split
    ·rename_i hc
     have:=cut_lt hc
     rw[scan_fuel f f' (cutRest s) (by omega) (by omega)]
    ·rfl
theorem items_nil:itemsB []=true∧itemsN []=0:=⟨rfl,rfl⟩
theorem items_cut {s:List UInt8} (h0:s≠[])(h:cutB s=true):itemsB s=itemsB (cutRest s)∧itemsN s=itemsN (cutRest s)+1:=by
 have hl:=cut_lt h
 unfold itemsB itemsN
 obtain⟨n,hn⟩: ∃ n,s.length=n+1:=⟨s.length - 1,by omega⟩
 rw[hn]
 simp only[scan,h0,h,if_true,if_false]
 rw[scan_fuel n (cutRest s).length (cutRest s) (by omega) (by omega)]
 exact⟨rfl,rfl⟩
theorem items_bad {s:List UInt8} (h0:s≠[])(h:cutB s=false):itemsB s=false:=by
 have hl:=List.length_pos_iff.2 h0
 unfold itemsB
 obtain⟨n,hn⟩: ∃ n,s.length=n+1:=⟨s.length - 1,by omega⟩
 rw[hn]
 simp[scan,h0,h]
theorem restAt_succ (s:List UInt8): ∀ k,restAt s (k+1)=restAt (cutRest s) k
 | 0=>by simp only[restAt]
 | k+1=>by rw[restAt,restAt_succ s k];simp only[restAt]
def Walk (s:List UInt8)(k:Nat):Prop:=∀ j,j<k→restAt s j≠[]∧cutB (restAt s j)=true
theorem Walk.len {s:List UInt8}: ∀ {k:Nat},Walk s k→(restAt s k).length+k≤s.length
 | 0,_=>by simp[restAt]
 | k+1,h=>by
   have h1:=Walk.len (k:=k) (fun j hj=>h j (by omega))
   have h2:=cut_lt (h k (by omega)).2
   simp only[restAt];omega
theorem Walk.tail {s:List UInt8} {k:Nat} (h:Walk s (k+1)):Walk (cutRest s) k:=fun j hj=>by
 rw[← restAt_succ];exact h (j+1) (by omega)
theorem Walk.items {s:List UInt8}: ∀ {k:Nat},Walk s k→itemsB s=itemsB (restAt s k)∧itemsN s=itemsN (restAt s k)+k
 | 0,_=>⟨rfl,rfl⟩
 | k+1,h=>by
   obtain⟨h0,h1⟩:=h 0 (by omega)
   obtain⟨g1,g2⟩:=items_cut (s:=s) h0 h1
   obtain⟨g3,g4⟩:=Walk.items h.tail
   rw[restAt_succ,g1,g2,g3,g4]
   exact⟨rfl,by omega⟩
theorem Walk.snoc {s:List UInt8} {k:Nat} (h:Walk s k)(h0:restAt s k≠[])(h1:cutB (restAt s k)=true):Walk s (k+1):=fun j hj=>by
 by_cases e:j=k
 ·subst e;exact⟨h0,h1⟩
 ·exact h j (by omega)
theorem Sx.SBle.rowsCongr {z:Bool} {n n':Nat} {cols cols':List Col} {tot tot':Nat} {ty:TypeId} (hn:n=n')(ht:tot=tot')(hl:cols.length=cols'.length)
  (h: ∀(i k:Nat) (c':Col),i<n→cols'[k]?=some c'→∃ c,cols[k]?=some c∧c.at i=c'.at i):SBle (.rows z n cols false tot ty) (.rows z n' cols' false tot' ty):=by
 subst hn;subst ht
 intro hno
 refine⟨hno,fun E o ⟨c,fr,h1,h2,h3,h4,h5⟩=>⟨c,fr,h1,h2,by rw[← hl];exact h3,h4,fun i k col hi hk=> ?_⟩,fun _=>rfl⟩
 obtain⟨c0,hc0,he⟩:=h i k col hi hk
 rw[← he,← hl]
 exact h5 i k c0 hi hc0
theorem Sx.SBle.strRows {z:Bool} {n n':Nat} {f g:Nat→List UInt8} {tot tot':Nat} {ty:TypeId} (hn:n=n')(ht:tot=tot')(h: ∀ i,i<n→f i=g i):SBle (.rows z n [.str f] false tot ty) (.rows z n' [.str g] false tot' ty):=by
 refine Sx.SBle.rowsCongr hn ht rfl fun i k c' hi hk=>⟨.str f,?_,?_⟩
 ·match k,hk with
  | 0,_=>rfl
 ·match k,hk with
  | 0,hk =>
    simp only[List.getElem?_cons_zero,Option.some.injEq] at hk
    subst hk
    simp only[Col.at,h i hi]
theorem items_holds {s:List UInt8} (hs:s.length<1099511627776):Holds (runA (cfgI s) 118 Tryz.f118 [.str false s] (itemsA s)):=by
 refine Holds.of_eq (vcItems s) ?_
 intro R
 refine⟨⟨⟨0,0⟩,⟨fun j hj=>absurd hj (Nat.not_lt_zero _),Nat.le_refl _⟩,rfl,rfl,rfl,rfl,SBle.refl _,SBle.refl _,SBle.refl _,SBle.refl _,trivial⟩,fun x hx=> ?_⟩
 have hw:Walk s x.k:=hx.walk
 have hl:=hw.len
 obtain⟨i1,i2⟩:=hw.items
 refine⟨fun a=> ?_,fun a=> ?_⟩
 ·have a:restAt s x.k≠[]:=by simpa using a
  refine⟨by omega,fun b=> ?_,fun b y=> ?_⟩
  ·have hlt:=cut_lt b
   refine⟨by omega,by omega,rfl,⟨by omega,trivial,by omega,by omega⟩,by omega,fun c hc=>⟨⟨x.k+1,c⟩,⟨⟨hw.snoc a b,hc⟩,?_⟩,?_,rfl,⟨rfl,rfl,rfl⟩,trivial,?_,SBle.refl _,SBle.refl _,SBle.refl _,SBle.refl _,trivial⟩⟩
   ·simp only[restAt];exact hlt
   ·simp only[restAt]
   ·refine Sx.SBle.strRows rfl (Nat.mul_one c) fun i hi=> ?_
    by_cases h:i<x.k
    ·rw[if_pos h]
    ·rw[if_neg h]
     have e:i=x.k:=by omega
     subst e
     simp only[Nat.sub_self,selS,subStr,itemAt,itemOf]
     rw[show((↑(restAt s x.k).length:Int) - (↑(cutRest (restAt s x.k)).length:Int)).toNat=(restAt s x.k).length - (cutRest (restAt s x.k)).length by omega]
     simp only[List.getD_cons_zero]
  ·have hb:=items_bad a b
   rw[← i1] at hb
   exact⟨by omega,rfl,(fun h=>by rw[hb] at h;cases h),fun _ _=>rfl⟩
 ·have a:restAt s x.k=[]:=by simpa using a
  rw[a] at i1 i2
  have n0:itemsN s=x.k:=by rw[i2,items_nil.2];omega
  have b0:itemsB s=true:=by rw[i1,items_nil.1]
  refine⟨fun _=>⟨x.c,by rw[n0];exact hx.cap,?_,?_⟩,fun h=>by rw[b0] at h;cases h⟩
  ·rw[n0];exact SBle.refl _
  ·rw[n0];exact fun _=>rfl
def itemsSpec:List SV→Option (Prop×Ans)
 | [.str false s]=>some (s.length<1099511627776,itemsA s)
 | _=>none
noncomputable def itemsPT:PT:=ansPT itemsSpec
theorem items_ok:CallOk Tryz.prog 118 itemsPT:=by
 refine ans_ok (n:=20) (fn:=Tryz.f118) Tryz.func118 (by kernel_rfl) (by kernel_rfl) ?_
 intro args p a h hp
 unfold itemsSpec at h
 split at h
 ·rename_i s
  injection h with h;injection h with h1 h2;subst h1;subst h2
  refine⟨_,goodI s,rfl,fun b=> ?_,items_holds hp⟩
  cases b with
  | false=>exact rfl
  | true =>
    intro c
    refine⟨rfl,rfl,fun k=>by simp[SV.wf,SV.wfs,Nat.blt_eq],fun E E' k k' h=> ?_⟩
    cases hn:itemsN s with
    | zero=>rfl
    | succ n =>
      rw[hn] at h
      have hk:E k=E' k':=h rfl
      simp[SV.val,SV.vals,hk]
 ·cases h
end Go.Proofs.YtoalfimkkibpdaaGreatDoor
