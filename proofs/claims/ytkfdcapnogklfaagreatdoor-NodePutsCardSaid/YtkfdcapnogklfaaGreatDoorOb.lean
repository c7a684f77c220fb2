/-
  Conditions that the executor computes, written out by a program (vcgen.py).
-/
import Derived.Test.YtkfdcapnogklfaaGreatDoorOa
namespace Go.Proofs.YtkfdcapnogklfaaGreatDoor
open Go Sx
set_option maxRecDepth 20000
theorem vcHead (base n : Int) (R : SV → Prop) : VC.holds (runP cfg2 60 Tryz.f60 [.int .u8 false base, .int .i64 false n] R) = (((decide (n ≤ 55) = true → R (SV.str (false && true) [UInt8.ofNat ((base + n % 256) % 256).toNat])) ∧ (decide (n ≤ 55) = false → (0 ≤ n % 18446744073709551616 ∧ n % 18446744073709551616 < (18446744073709551616 : Int)) ∧ (↑(1 : Nat) : Int) + (↑(digits (n % 18446744073709551616)).length : Int) ≤ 9223372036854775807 ∧ R (SV.str false (cat [UInt8.ofNat (((base + 55) % 256 + (↑(digits (n % 18446744073709551616)).length : Int) % 256) % 256).toNat] (digits (n % 18446744073709551616))))))) := by kernel_rfl
theorem vcCut (s : List UInt8) : VC.holds (runA cfg2 71 Tryz.f71 [.str false s] (cutA s)) = ((fun P0 : SV => ((fun P1 : SV => ((fun P2 : SV => ((fun P3 : SV => ((fun P4 : SV => ((fun P5 : SB => (((decide (s = []) = true → (cutB s = true → sameVal P0 P1) ∧ (cutB s = false → ∃ (u17 : Int), SBle (SB.cells [SV.int .i64 true 0, SV.iface 28 (SV.int .i64 true 2)] 2 114) (SB.cells [SV.int .i64 false u17, SV.iface 28 (SV.int .i64 true 2)] 2 114) ∧ sameVal P0 P2)) ∧ (decide (s = []) = false → ((0 : Int) ≤ (0 : Int) ∧ 0 < (s.length : Int)) ∧ (decide (byteAt s 0 < 128) = true → ((0 : Int) ≤ (0 : Int) ∧ (0 : Int) ≤ (1 : Int) ∧ 1 ≤ (s.length : Int)) ∧ ((0 : Int) ≤ (1 : Int) ∧ 1 ≤ (s.length : Int) ∧ (s.length : Int) ≤ (s.length : Int)) ∧ (cutB s = true → sameVal (SV.tup [SV.bool true false, SV.str (false && true && true) (subStr s none (some (Operand.const (Value.int IntKind.i64 1))) 0 1), SV.str (false && true && false) (subStr s (some (Operand.const (Value.int IntKind.i64 1))) none 1 (s.length : Int)), SV.niliface]) P1) ∧ (cutB s = false → ∃ (_u16 : Int), False)) ∧ (decide (byteAt s 0 < 128) = false → ((0 : Int) ≤ (0 : Int) ∧ 0 < (s.length : Int)) ∧ (decide (byteAt s 0 < 192) = true → ((0 : Int) ≤ (0 : Int) ∧ 0 < (s.length : Int)) ∧ ((-9223372036854775808 : Int) ≤ (byteAt s 0 - 128) % 256 ∧ (byteAt s 0 - 128) % 256 ≤ (9223372036854775807 : Int)) ∧
 (decide (55 < (byteAt s 0 - 128) % 256) = true → ((-9223372036854775808 : Int) ≤ 1 + (byteAt s 0 - 128) % 256 ∧ 1 + (byteAt s 0 - 128) % 256 ≤ (9223372036854775807 : Int)) ∧ ((-9223372036854775808 : Int) ≤ 1 + (byteAt s 0 - 128) % 256 - (55 : Int) ∧ 1 + (byteAt s 0 - 128) % 256 - (55 : Int) ≤ (9223372036854775807 : Int)) ∧ ((2 : Int) ≤ 1 + (byteAt s 0 - 128) % 256 - (55 : Int) ∧ 1 + (byteAt s 0 - 128) % 256 - (55 : Int) < (100 : Int)) ∧ (lenB s (1 + (byteAt s 0 - 128) % 256 - (55 : Int)) = true → ((-9223372036854775808 : Int) ≤ (s.length : Int) - (1 + (byteAt s 0 - 128) % 256 - (55 : Int)) ∧ (s.length : Int) - (1 + (byteAt s 0 - 128) % 256 - (55 : Int)) ≤ 9223372036854775807) ∧ (decide ((s.length : Int) - (1 + (byteAt s 0 - 128) % 256 - (55 : Int)) < part s (1 + (byteAt s 0 - 128) % 256 - (55 : Int))) = true → (cutB s = true → sameVal P0 P1) ∧ (cutB s = false → ∃ (u15 : Int), SBle P5 (SB.cells [SV.int .i64 false u15, SV.iface 28 (SV.int .i64 true 2)] 2 114) ∧ sameVal P0 P2)) ∧ (decide ((s.length : Int) - (1 + (byteAt s 0 - 128) % 256 - (55 : Int)) < part s (1 + (byteAt s 0 - 128) % 256 - (55 : Int))) = false →
 (decide (part s (1 + (byteAt s 0 - 128) % 256 - (55 : Int)) = 1) = true → ((0 : Int) ≤ (1 : Int) ∧ 1 < (s.length : Int)) ∧ (decide (byteAt s 1 < 128) = true → (cutB s = true → sameVal P0 P1) ∧ (cutB s = false → ∃ (u14 : Int), SBle (SB.cells [SV.int .i64 true 1, SV.iface 28 (SV.int .i64 true 2)] 2 114) (SB.cells [SV.int .i64 false u14, SV.iface 28 (SV.int .i64 true 2)] 2 114) ∧ sameVal P0 P2)) ∧ (decide (byteAt s 1 < 128) = false → ((-9223372036854775808 : Int) ≤ 1 + (byteAt s 0 - 128) % 256 - 55 + part s (1 + (byteAt s 0 - 128) % 256 - (55 : Int)) ∧ 1 + (byteAt s 0 - 128) % 256 - 55 + part s (1 + (byteAt s 0 - 128) % 256 - (55 : Int)) ≤ 9223372036854775807) ∧ ((0 : Int) ≤ 1 + (byteAt s 0 - 128) % 256 - (55 : Int) ∧ 1 + (byteAt s 0 - 128) % 256 - (55 : Int) ≤ 1 + (byteAt s 0 - 128) % 256 - 55 + part s (1 + (byteAt s 0 - 128) % 256 - (55 : Int)) ∧ 1 + (byteAt s 0 - 128) % 256 - 55 + part s (1 + (byteAt s 0 - 128) % 256 - (55 : Int)) ≤ (s.length : Int)) ∧ ((-9223372036854775808 : Int) ≤ 1 + (byteAt s 0 - 128) % 256 - 55 + part s (1 + (byteAt s 0 - 128) % 256 - (55 : Int)) ∧
 1 + (byteAt s 0 - 128) % 256 - 55 + part s (1 + (byteAt s 0 - 128) % 256 - (55 : Int)) ≤ 9223372036854775807) ∧ ((0 : Int) ≤ 1 + (byteAt s 0 - 128) % 256 - 55 + part s (1 + (byteAt s 0 - 128) % 256 - (55 : Int)) ∧ 1 + (byteAt s 0 - 128) % 256 - 55 + part s (1 + (byteAt s 0 - 128) % 256 - (55 : Int)) ≤ (s.length : Int) ∧ (s.length : Int) ≤ (s.length : Int)) ∧ (cutB s = true → sameVal P3 P1) ∧ (cutB s = false → ∃ (_u13 : Int), False))) ∧ (decide (part s (1 + (byteAt s 0 - 128) % 256 - (55 : Int)) = 1) = false → ((-9223372036854775808 : Int) ≤ 1 + (byteAt s 0 - 128) % 256 - 55 + part s (1 + (byteAt s 0 - 128) % 256 - (55 : Int)) ∧ 1 + (byteAt s 0 - 128) % 256 - 55 + part s (1 + (byteAt s 0 - 128) % 256 - (55 : Int)) ≤ 9223372036854775807) ∧ ((0 : Int) ≤ 1 + (byteAt s 0 - 128) % 256 - (55 : Int) ∧ 1 + (byteAt s 0 - 128) % 256 - (55 : Int) ≤ 1 + (byteAt s 0 - 128) % 256 - 55 + part s (1 + (byteAt s 0 - 128) % 256 - (55 : Int)) ∧ 1 + (byteAt s 0 - 128) % 256 - 55 + part s (1 + (byteAt s 0 - 128) % 256 - (55 : Int)) ≤ (s.length : Int)) ∧ ((-9223372036854775808 : Int) ≤ 1 + (byteAt s 0 - 128) % 256 - 55 + part s (1 + (byteAt s 0 - 128) % 256 - (55 : Int)) ∧
 1 + (byteAt s 0 - 128) % 256 - 55 + part s (1 + (byteAt s 0 - 128) % 256 - (55 : Int)) ≤ 9223372036854775807) ∧ ((0 : Int) ≤ 1 + (byteAt s 0 - 128) % 256 - 55 + part s (1 + (byteAt s 0 - 128) % 256 - (55 : Int)) ∧ 1 + (byteAt s 0 - 128) % 256 - 55 + part s (1 + (byteAt s 0 - 128) % 256 - (55 : Int)) ≤ (s.length : Int) ∧ (s.length : Int) ≤ (s.length : Int)) ∧ (cutB s = true → sameVal P3 P1) ∧ (cutB s = false → ∃ (_u12 : Int), False)))) ∧ (lenB s (1 + (byteAt s 0 - 128) % 256 - (55 : Int)) = false → ∀ (u11 : Int), (cutB s = true → sameVal P0 P1) ∧ (cutB s = false → ∃ (u10 : Int), SBle (SB.cells [SV.int .i64 false u11, SV.iface 28 (SV.int .i64 true 2)] 2 114) (SB.cells [SV.int .i64 false u10, SV.iface 28 (SV.int .i64 true 2)] 2 114) ∧ sameVal P0 P2))) ∧ (decide (55 < (byteAt s 0 - 128) % 256) = false → ((-9223372036854775808 : Int) ≤ (s.length : Int) - 1 ∧ (s.length : Int) - 1 ≤ (9223372036854775807 : Int)) ∧ (decide ((s.length : Int) - 1 < (byteAt s 0 - 128) % 256) = true → (cutB s = true → sameVal P0 P1) ∧ (cutB s = false → ∃ (u9 : Int), SBle P5 (SB.cells [SV.int .i64 false u9, SV.iface 28 (SV.int .i64 true 2)] 2 114) ∧ sameVal P0 P2)) ∧
 (decide ((s.length : Int) - 1 < (byteAt s 0 - 128) % 256) = false → (decide ((byteAt s 0 - 128) % 256 = (1 : Int)) = true → ((0 : Int) ≤ (1 : Int) ∧ 1 < (s.length : Int)) ∧ (decide (byteAt s 1 < 128) = true → (cutB s = true → sameVal P0 P1) ∧ (cutB s = false → ∃ (u8 : Int), SBle (SB.cells [SV.int .i64 true 1, SV.iface 28 (SV.int .i64 true 2)] 2 114) (SB.cells [SV.int .i64 false u8, SV.iface 28 (SV.int .i64 true 2)] 2 114) ∧ sameVal P0 P2)) ∧ (decide (byteAt s 1 < 128) = false → ((-9223372036854775808 : Int) ≤ 1 + (byteAt s 0 - 128) % 256 ∧ 1 + (byteAt s 0 - 128) % 256 ≤ (9223372036854775807 : Int)) ∧ ((0 : Int) ≤ (1 : Int) ∧ (1 : Int) ≤ 1 + (byteAt s 0 - 128) % 256 ∧ 1 + (byteAt s 0 - 128) % 256 ≤ (s.length : Int)) ∧ ((-9223372036854775808 : Int) ≤ 1 + (byteAt s 0 - 128) % 256 ∧ 1 + (byteAt s 0 - 128) % 256 ≤ (9223372036854775807 : Int)) ∧ ((0 : Int) ≤ 1 + (byteAt s 0 - 128) % 256 ∧ 1 + (byteAt s 0 - 128) % 256 ≤ (s.length : Int) ∧ (s.length : Int) ≤ (s.length : Int)) ∧ (cutB s = true → sameVal P4 P1) ∧ (cutB s = false → ∃ (_u7 : Int), False))) ∧ (decide ((byteAt s 0 - 128) % 256 = (1 : Int)) = false → ((-9223372036854775808 : Int) ≤ 1 + (byteAt s 0 - 128) % 256 ∧
 1 + (byteAt s 0 - 128) % 256 ≤ (9223372036854775807 : Int)) ∧ ((0 : Int) ≤ (1 : Int) ∧ (1 : Int) ≤ 1 + (byteAt s 0 - 128) % 256 ∧ 1 + (byteAt s 0 - 128) % 256 ≤ (s.length : Int)) ∧ ((-9223372036854775808 : Int) ≤ 1 + (byteAt s 0 - 128) % 256 ∧ 1 + (byteAt s 0 - 128) % 256 ≤ (9223372036854775807 : Int)) ∧ ((0 : Int) ≤ 1 + (byteAt s 0 - 128) % 256 ∧ 1 + (byteAt s 0 - 128) % 256 ≤ (s.length : Int) ∧ (s.length : Int) ≤ (s.length : Int)) ∧ (cutB s = true → sameVal P4 P1) ∧ (cutB s = false → ∃ (_u6 : Int), False))))) ∧ (decide (byteAt s 0 < 192) = false → ((0 : Int) ≤ (0 : Int) ∧ 0 < (s.length : Int)) ∧ ((-9223372036854775808 : Int) ≤ (byteAt s 0 - 192) % 256 ∧ (byteAt s 0 - 192) % 256 ≤ (9223372036854775807 : Int)) ∧ (decide (55 < (byteAt s 0 - 192) % 256) = true → ((-9223372036854775808 : Int) ≤ 1 + (byteAt s 0 - 192) % 256 ∧ 1 + (byteAt s 0 - 192) % 256 ≤ (9223372036854775807 : Int)) ∧ ((-9223372036854775808 : Int) ≤ 1 + (byteAt s 0 - 192) % 256 - (55 : Int) ∧ 1 + (byteAt s 0 - 192) % 256 - (55 : Int) ≤ (9223372036854775807 : Int)) ∧ ((2 : Int) ≤ 1 + (byteAt s 0 - 192) % 256 - (55 : Int) ∧ 1 + (byteAt s 0 - 192) % 256 - (55 : Int) < (100 : Int)) ∧
 (lenB s (1 + (byteAt s 0 - 192) % 256 - (55 : Int)) = true → ((-9223372036854775808 : Int) ≤ (s.length : Int) - (1 + (byteAt s 0 - 192) % 256 - (55 : Int)) ∧ (s.length : Int) - (1 + (byteAt s 0 - 192) % 256 - (55 : Int)) ≤ 9223372036854775807) ∧ (decide ((s.length : Int) - (1 + (byteAt s 0 - 192) % 256 - (55 : Int)) < part s (1 + (byteAt s 0 - 192) % 256 - (55 : Int))) = true → (cutB s = true → sameVal P0 P1) ∧ (cutB s = false → ∃ (u5 : Int), SBle P5 (SB.cells [SV.int .i64 false u5, SV.iface 28 (SV.int .i64 true 2)] 2 114) ∧ sameVal P0 P2)) ∧ (decide ((s.length : Int) - (1 + (byteAt s 0 - 192) % 256 - (55 : Int)) < part s (1 + (byteAt s 0 - 192) % 256 - (55 : Int))) = false → ((-9223372036854775808 : Int) ≤ 1 + (byteAt s 0 - 192) % 256 - 55 + part s (1 + (byteAt s 0 - 192) % 256 - (55 : Int)) ∧ 1 + (byteAt s 0 - 192) % 256 - 55 + part s (1 + (byteAt s 0 - 192) % 256 - (55 : Int)) ≤ 9223372036854775807) ∧ ((0 : Int) ≤ 1 + (byteAt s 0 - 192) % 256 - (55 : Int) ∧ 1 + (byteAt s 0 - 192) % 256 - (55 : Int) ≤ 1 + (byteAt s 0 - 192) % 256 - 55 + part s (1 + (byteAt s 0 - 192) % 256 - (55 : Int)) ∧
 1 + (byteAt s 0 - 192) % 256 - 55 + part s (1 + (byteAt s 0 - 192) % 256 - (55 : Int)) ≤ (s.length : Int)) ∧ ((-9223372036854775808 : Int) ≤ 1 + (byteAt s 0 - 192) % 256 - 55 + part s (1 + (byteAt s 0 - 192) % 256 - (55 : Int)) ∧ 1 + (byteAt s 0 - 192) % 256 - 55 + part s (1 + (byteAt s 0 - 192) % 256 - (55 : Int)) ≤ 9223372036854775807) ∧ ((0 : Int) ≤ 1 + (byteAt s 0 - 192) % 256 - 55 + part s (1 + (byteAt s 0 - 192) % 256 - (55 : Int)) ∧ 1 + (byteAt s 0 - 192) % 256 - 55 + part s (1 + (byteAt s 0 - 192) % 256 - (55 : Int)) ≤ (s.length : Int) ∧ (s.length : Int) ≤ (s.length : Int)) ∧ (cutB s = true → sameVal (SV.tup [SV.bool (true && true) (decide ((192 : Int) = (192 : Int))), SV.str (false && false && false) (subStr s (some (Operand.tmp 70)) (some (Operand.tmp 73)) (1 + (byteAt s 0 - 192) % 256 - (55 : Int)) (1 + (byteAt s 0 - 192) % 256 - 55 + part s (1 + (byteAt s 0 - 192) % 256 - (55 : Int)))), SV.str (false && false && false) (subStr s (some (Operand.tmp 78)) none (1 + (byteAt s 0 - 192) % 256 - 55 + part s (1 + (byteAt s 0 - 192) % 256 - (55 : Int))) (s.length : Int)), SV.niliface]) P1) ∧ (cutB s = false → ∃ (_u4 : Int), False))) ∧
 (lenB s (1 + (byteAt s 0 - 192) % 256 - (55 : Int)) = false → ∀ (u3 : Int), (cutB s = true → sameVal P0 P1) ∧ (cutB s = false → ∃ (u2 : Int), SBle (SB.cells [SV.int .i64 false u3, SV.iface 28 (SV.int .i64 true 2)] 2 114) (SB.cells [SV.int .i64 false u2, SV.iface 28 (SV.int .i64 true 2)] 2 114) ∧ sameVal P0 P2))) ∧ (decide (55 < (byteAt s 0 - 192) % 256) = false → ((-9223372036854775808 : Int) ≤ (s.length : Int) - 1 ∧ (s.length : Int) - 1 ≤ (9223372036854775807 : Int)) ∧ (decide ((s.length : Int) - 1 < (byteAt s 0 - 192) % 256) = true → (cutB s = true → sameVal P0 P1) ∧ (cutB s = false → ∃ (u1 : Int), SBle P5 (SB.cells [SV.int .i64 false u1, SV.iface 28 (SV.int .i64 true 2)] 2 114) ∧ sameVal P0 P2)) ∧ (decide ((s.length : Int) - 1 < (byteAt s 0 - 192) % 256) = false → ((-9223372036854775808 : Int) ≤ 1 + (byteAt s 0 - 192) % 256 ∧ 1 + (byteAt s 0 - 192) % 256 ≤ (9223372036854775807 : Int)) ∧ ((0 : Int) ≤ (1 : Int) ∧ (1 : Int) ≤ 1 + (byteAt s 0 - 192) % 256 ∧ 1 + (byteAt s 0 - 192) % 256 ≤ (s.length : Int)) ∧ ((-9223372036854775808 : Int) ≤ 1 + (byteAt s 0 - 192) % 256 ∧ 1 + (byteAt s 0 - 192) % 256 ≤ (9223372036854775807 : Int)) ∧ ((0 : Int) ≤ 1 + (byteAt s 0 - 192) % 256 ∧
 1 + (byteAt s 0 - 192) % 256 ≤ (s.length : Int) ∧ (s.length : Int) ≤ (s.length : Int)) ∧ (cutB s = true → sameVal (SV.tup [SV.bool (true && true) (decide ((192 : Int) = (192 : Int))), SV.str (false && true && false) (subStr s (some (Operand.tmp 70)) (some (Operand.tmp 73)) 1 (1 + (byteAt s 0 - 192) % 256)), SV.str (false && false && false) (subStr s (some (Operand.tmp 78)) none (1 + (byteAt s 0 - 192) % 256) (s.length : Int)), SV.niliface]) P1) ∧ (cutB s = false → ∃ (_u0 : Int), False))))))))) (SB.cells [SV.int .i64 false (s.length : Int), SV.iface 28 (SV.int .i64 true 2)] 2 114))) (SV.tup [SV.bool (true && true) (decide ((128 : Int) = (192 : Int))), SV.str (false && true && false) (subStr s (some (Operand.tmp 70)) (some (Operand.tmp 73)) 1 (1 + (byteAt s 0 - 128) % 256)), SV.str (false && false && false) (subStr s (some (Operand.tmp 78)) none (1 + (byteAt s 0 - 128) % 256) (s.length : Int)), SV.niliface]))) (SV.tup [SV.bool (true && true) (decide ((128 : Int) = (192 : Int))), SV.str (false && false && false) (subStr s (some (Operand.tmp 70)) (some (Operand.tmp 73)) (1 + (byteAt s 0 - 128) % 256 - (55 : Int)) (1 + (byteAt s 0 - 128) % 256 - 55 + part s (1 + (byteAt s 0 - 128) % 256 - (55 : Int)))), SV.str (false && false && false) (subStr s (some (Operand.tmp 78)) none (1 + (byteAt s 0 - 128) % 256 - 55 + part s (1 + (byteAt s 0 - 128) % 256 - (55 : Int))) (s.length : Int)), SV.niliface]))) (SV.tup ([SV.bool true false, SV.str true [], SV.str true []] ++ [SV.iface 112 (SV.ptr 0 true 0)])))) (SV.tup [SV.bool false (cutL s), SV.str false (cutIn s), SV.str false (cutRest s), SV.niliface]))) (SV.tup [SV.bool true false, SV.str true [], SV.str true [], SV.iface 112 (SV.ptr 0 true 0)])) := by kernel_rfl
end Go.Proofs.YtkfdcapnogklfaaGreatDoor
/-
  Rlp: the first item: the contract.
-/
namespace Go.Proofs.YtkfdcapnogklfaaGreatDoor
open Go Sx
set_option maxRecDepth 20000
theorem lead_lt {s : List UInt8} (h : byteAt s 0 < 192) : lead s = byteAt s 0 - 128 := if_pos h
theorem lead_ge {s : List UInt8} (h : ¬ byteAt s 0 < 192) : lead s = byteAt s 0 - 192 := if_neg h
theorem cutB_iff {s : List UInt8} : cutB s = true ↔ s ≠ [] ∧ (byteAt s 0 < 128 ∨ (¬ byteAt s 0 < 128 ∧ 55 < lead s ∧ lenB s (lead s - 54) = true ∧ part s (lead s - 54) ≤ s.length - (lead s - 54)) ∨ (¬ byteAt s 0 < 128 ∧ ¬ 55 < lead s ∧ lead s ≤ s.length - 1 ∧ ¬ (byteAt s 0 < 192 ∧ lead s = 1 ∧ byteAt s 1 < 128))) := by
  unfold cutB cutN cutFrom
  by_cases hA : byteAt s 0 < 128
  · simp [hA]
  · by_cases hL : 55 < lead s
    · have : lead s ≠ 1 := by omega
      simp [hA, hL, this]
    · simp [hA, hL]
      intro _ _; omega
theorem same4 {a a' : Bool} {b b' c c' : List UInt8} {l1 l2 l3 l4 l5 l6 : Bool} (h1 : a = a') (h2 : b = b') (h3 : c = c') : sameVal (.tup [.bool l1 a, .str l2 b, .str l3 c, .niliface]) (.tup [.bool l4 a', .str l5 b', .str l6 c', .niliface]) := by
  subst h1; subst h2; subst h3; exact fun _ => rfl
theorem cut_short {s : List UInt8} (h : byteAt s 0 < 128) : cutL s = false ∧ cutIn s = s.take 1 ∧ cutRest s = s.drop 1 := by
  refine ⟨by simp [cutL]; omega, ?_, ?_⟩ <;> simp [cutIn, cutRest, cutFrom, cutN, h]
theorem cut_mid {s : List UInt8} (h : ¬ byteAt s 0 < 128) (h2 : ¬ 55 < lead s) : cutIn s = (s.drop (1 : Int).toNat).take (lead s).toNat ∧ cutRest s = s.drop (1 + lead s).toNat := by
  constructor <;> simp [cutIn, cutRest, cutFrom, cutN, h, h2]
theorem cut_long {s : List UInt8} (h : ¬ byteAt s 0 < 128) (h2 : 55 < lead s) : cutIn s = (s.drop (lead s - 54).toNat).take (part s (lead s - 54)).toNat ∧ cutRest s = s.drop (lead s - 54 + part s (lead s - 54)).toNat := by
  constructor <;> simp [cutIn, cutRest, cutFrom, cutN, h, h2]
theorem cut_holds {s : List UInt8} (hs : s.length < 9223372036854775808) : Holds (runA cfg2 71 Tryz.f71 [.str false s] (cutA s)) := by
  refine Holds.of_eq (vcCut s) ?_
  have g0 := byteAt_lt s 0
  have g1 := byteAt_lt s 1
  have g2 := part_nn s (lead s - 54)
  by_cases h0 : s = []
  · have hB : cutB s = false := by rw [Bool.eq_false_iff, ne_eq, cutB_iff]; simp [h0]
    simp only [h0, decide_true, forall_const, Bool.true_eq_false, false_imp_iff, and_true]
    rw [h0] at hB
    simp only [hB, Bool.false_eq_true, false_imp_iff, forall_const, true_and]
    (first | exact ⟨_, SBle.cells (fun _ => rfl) rfl, fun _ => rfl⟩ | exact fun _ => rfl | trivial)
  have hl : 0 < s.length := List.length_pos_iff.2 h0
  by_cases hA : byteAt s 0 < 128
  · have hB : cutB s = true := cutB_iff.2 ⟨h0, .inl hA⟩
    obtain ⟨k1, k2, k3⟩ := cut_short hA
    simp only [h0, hA, hB, decide_true, decide_false, forall_const, Bool.true_eq_false, Bool.false_eq_true, false_imp_iff, and_true, true_and, subStr]
    refine ⟨by omega, by omega, by omega, ?_⟩
    exact same4 k1.symm (by rw [k2]; rfl) (by rw [k3]; rfl)
  · have e2 : 1 + lead s - 55 = lead s - 54 := by omega
    by_cases hC : byteAt s 0 < 192
    · have e3 : cutL s = false := by simp [cutL]; omega
      have e1 : (byteAt s 0 - 128) % 256 = lead s := by rw [lead_lt hC]; omega
      have e4 := lead_lt hC
      by_cases hL : 55 < lead s
      · obtain ⟨k1, k2⟩ := cut_long hA hL
        have hB : cutB s = (lenB s (lead s - 54) && decide (part s (lead s - 54) ≤ s.length - (lead s - 54))) := by rw [Bool.eq_iff_iff, cutB_iff]; simp [h0, hA, hL]
        simp only [h0, hA, hC, hL, hB, e1, e2, decide_true, decide_false, forall_const, Bool.true_eq_false, Bool.false_eq_true, false_imp_iff, and_true, true_and, subStr]
        cases hb : lenB s (lead s - 54) with
        | false => simp only [Bool.false_and, Bool.false_eq_true, false_imp_iff, forall_const, true_and]; (repeat' first | apply And.intro | intro (_ : _ = true) | intro (_ : _ = false) | intro (_ : Int)) <;> first | omega | (first | exact ⟨_, SBle.cells (fun _ => rfl) rfl, fun _ => rfl⟩ | exact fun _ => rfl | trivial)
        | true =>
          have hb' := lenB_iff.1 hb
          have hn : ¬ part s (lead s - 54) = 1 := by omega
          simp only [hn, decide_false, Bool.true_and, Bool.true_eq_false, Bool.false_eq_true, false_imp_iff, forall_const, true_and, and_true]
          (repeat' first | apply And.intro | intro (_ : _ = true) | intro (_ : _ = false) | intro (_ : Int))
          all_goals simp only [decide_eq_true_eq, decide_eq_false_iff_not, Int.not_lt, Int.not_le] at *
          all_goals first
            | omega
            | (refine same4 ?_ ?_ ?_
               · simp [e3]
               · rw [k1, show (lead s - 54 + part s (lead s - 54)).toNat - (lead s - 54).toNat = (part s (lead s - 54)).toNat by omega]
               · rw [k2])
            | (first | exact ⟨_, SBle.cells (fun _ => rfl) rfl, fun _ => rfl⟩ | exact fun _ => rfl | trivial)
      · obtain ⟨k1, k2⟩ := cut_mid hA hL
        have hB : cutB s = (decide (lead s ≤ s.length - 1) && !(decide (byteAt s 0 < 192) && decide (lead s = 1) && decide (byteAt s 1 < 128))) := by
          rw [Bool.eq_iff_iff, cutB_iff]
          simp [h0, hA, hL, hC]
          try (intro _; omega)
        simp only [h0, hA, hC, hL, hB, e1, e2, decide_true, decide_false, forall_const, Bool.true_eq_false, Bool.false_eq_true, false_imp_iff, and_true, true_and, subStr]
        (repeat' first | apply And.intro | intro (_ : _ = true) | intro (_ : _ = false) | intro (_ : Int))
        all_goals simp only [decide_eq_true_eq, decide_eq_false_iff_not, Int.not_lt, Int.not_le, Bool.and_eq_true, Bool.and_eq_false_iff, Bool.not_eq_true', Bool.not_eq_false', Bool.true_and, Bool.false_and] at *
        all_goals first
          | omega
          | (refine same4 ?_ ?_ ?_
             · simp [e3]
             · rw [k1, show (1 + lead s).toNat - (1 : Int).toNat = (lead s).toNat by omega]
             · rw [k2])
          | (first | exact ⟨_, SBle.cells (fun _ => rfl) rfl, fun _ => rfl⟩ | exact fun _ => rfl | trivial)
    · have e3 : cutL s = true := by simp [cutL]; omega
      have e1 : (byteAt s 0 - 192) % 256 = lead s := by rw [lead_ge hC]; omega
      have e4 := lead_ge hC
      by_cases hL : 55 < lead s
      · obtain ⟨k1, k2⟩ := cut_long hA hL
        have hB : cutB s = (lenB s (lead s - 54) && decide (part s (lead s - 54) ≤ s.length - (lead s - 54))) := by rw [Bool.eq_iff_iff, cutB_iff]; simp [h0, hA, hL]
        simp only [h0, hA, hC, hL, hB, e1, e2, decide_true, decide_false, forall_const, Bool.true_eq_false, Bool.false_eq_true, false_imp_iff, and_true, true_and, subStr]
        cases hb : lenB s (lead s - 54) with
        | false => simp only [Bool.false_and, Bool.false_eq_true, false_imp_iff, forall_const, true_and]; (repeat' first | apply And.intro | intro (_ : _ = true) | intro (_ : _ = false) | intro (_ : Int)) <;> first | omega | (first | exact ⟨_, SBle.cells (fun _ => rfl) rfl, fun _ => rfl⟩ | exact fun _ => rfl | trivial)
        | true =>
          have hb' := lenB_iff.1 hb
          have hn : ¬ part s (lead s - 54) = 1 := by omega
          simp only [Bool.true_and, Bool.true_eq_false, false_imp_iff, forall_const, and_true]
          (repeat' first | apply And.intro | intro (_ : _ = true) | intro (_ : _ = false) | intro (_ : Int))
          all_goals simp only [decide_eq_true_eq, decide_eq_false_iff_not, Int.not_lt, Int.not_le] at *
          all_goals first
            | omega
            | (refine same4 ?_ ?_ ?_
               · simp [e3]
               · rw [k1, show (lead s - 54 + part s (lead s - 54)).toNat - (lead s - 54).toNat = (part s (lead s - 54)).toNat by omega]
               · rw [k2])
            | (first | exact ⟨_, SBle.cells (fun _ => rfl) rfl, fun _ => rfl⟩ | exact fun _ => rfl | trivial)
      · obtain ⟨k1, k2⟩ := cut_mid hA hL
        have hB : cutB s = (decide (lead s ≤ s.length - 1) && !(decide (byteAt s 0 < 192) && decide (lead s = 1) && decide (byteAt s 1 < 128))) := by
          rw [Bool.eq_iff_iff, cutB_iff]
          simp [h0, hA, hL, hC]
          try (intro _; omega)
        simp only [h0, hA, hC, hL, hB, e1, e2, decide_true, decide_false, forall_const, Bool.false_eq_true, false_imp_iff, true_and, subStr]
        (repeat' first | apply And.intro | intro (_ : _ = true) | intro (_ : _ = false) | intro (_ : Int))
        all_goals simp only [decide_eq_true_eq, decide_eq_false_iff_not, Int.not_lt, Int.not_le, Bool.and_eq_true, Bool.and_eq_false_iff, Bool.true_and, Bool.false_and, Bool.not_false, Bool.true_eq_false, or_false] at *
        all_goals first
          | omega
          | (refine same4 ?_ ?_ ?_
             · simp [e3]
             · rw [k1, show (1 + lead s).toNat - (1 : Int).toNat = (lead s).toNat by omega]
             · rw [k2])
          | (first | exact ⟨_, SBle.cells (fun _ => rfl) rfl, fun _ => rfl⟩ | exact fun _ => rfl | trivial)
end Go.Proofs.YtkfdcapnogklfaaGreatDoor
/-
  Rlp: texts as items; what is cut: the contracts.
-/
namespace Go.Proofs.YtkfdcapnogklfaaGreatDoor
open Go Sx
set_option maxRecDepth 20000
def big : Nat := 1152921504606846976
def cutSpec : List SV → Option (Prop × Ans)
  | [.str false s] => some (s.length < 9223372036854775808, cutA s)
  | _ => none
noncomputable def cutPT : PT := ansPT cutSpec
theorem cut_ok : CallOk Tryz.prog 71 cutPT := by
  refine ans_ok (n := 20) (fn := Tryz.f71) Tryz.func71 (by kernel_rfl) (by kernel_rfl) ?_
  intro args p a h hp
  unfold cutSpec at h
  split at h
  · rename_i s
    injection h with h; injection h with h1 h2; subst h1; subst h2
    refine ⟨_, good2, rfl, fun b => ?_, cut_holds hp⟩
    cases b
    · exact faultA_ok rfl
    · exact rfl
  · cases h
def headOf (base : Int) (n : Nat) : List UInt8 := if n ≤ 55 then [UInt8.ofNat (base + n).toNat] else UInt8.ofNat (base + 55 + (digits n).length).toNat :: digits n
def textOf (b : List UInt8) : List UInt8 := if b.length = 1 ∧ byteAt b 0 < 128 then b else headOf 128 b.length ++ b
theorem dig_len (k : Nat) (n : Int) : (dig k n).length ≤ k := by
  induction k generalizing n with
  | zero => simp [dig]
  | succ k ih =>
    unfold dig
    split
    · have := ih (n / 256)
      simp only [List.length_append, List.length_cons, List.length_nil]; omega
    · simp
theorem digits_len (n : Int) : (digits n).length ≤ 8 := dig_len 8 n
theorem head_holds {base n : Int} (h0 : 0 ≤ base) (h1 : base ≤ 192) (h2 : 0 ≤ n) (h3 : n < 1152921504606846976) : Holds (runP cfg2 60 Tryz.f60 [.int .u8 false base, .int .i64 false n] (fun v => sameVal v (.str false (headOf base n.toNat)))) := by
  refine Holds.of_eq (vcHead base n _) ?_
  have e : n % 18446744073709551616 = n := by omega
  have e1 : ((n.toNat : Nat) : Int) = n := by omega
  have hd := digits_len n
  rw [e]
  refine ⟨fun h => str_same ?_, fun h => ⟨by omega, by omega, str_same ?_⟩⟩
  · simp only [decide_eq_true_eq] at h
    unfold headOf
    rw [if_pos (by omega), e1]
    congr 3; omega
  · simp only [decide_eq_false_iff_not] at h
    unfold headOf
    rw [if_neg (by omega), e1]
    simp only [cat, List.cons_append, List.nil_append]
    congr 3; omega
def headSpec : List SV → Option (Prop × SV)
  | [.int .u8 false base, .int .i64 false n] => some ((0 ≤ base ∧ base ≤ 192) ∧ 0 ≤ n ∧ n < 1152921504606846976, .str false (headOf base n.toNat))
  | _ => none
noncomputable def headPT : PT := purePT headSpec
theorem head_ok : CallOk Tryz.prog 60 headPT := by
  refine pure_ok good2 (n := 20) (fn := Tryz.f60) Tryz.func60 (by kernel_rfl) (by kernel_rfl) ?_
  intro args p r h hp
  unfold headSpec at h
  split at h
  · injection h with h; injection h with h1 h2; subst h1; subst h2
    exact ⟨rfl, rfl, head_holds hp.1.1 hp.1.2 hp.2.1 hp.2.2⟩
  · cases h
noncomputable def list3 : List (FuncId × PT) := (71, cutPT) :: (60, headPT) :: list2
theorem list3_ok : SummOk Tryz.prog (fun f => lookPT f list3) := .cons cut_ok (ansPT_mono _) (.cons head_ok (purePT_mono _) list2_ok)
noncomputable def cfg3 : Cfg := { cfg0 with summ := fun f => lookPT f list3 }
theorem good3 : Sx.Good Tryz.prog cfg3 := ⟨mixes, list3_ok, fns_ok⟩
end Go.Proofs.YtkfdcapnogklfaaGreatDoor
/-
  Rlp: what Text, Split and GetNum answer: the set-up.
-/
namespace Go.Proofs.YtkfdcapnogklfaaGreatDoor
open Go Sx
set_option maxRecDepth 20000
def splitA (s : List UInt8) : Ans := .fork (cutB s) fun b => match b with
  | true => .ret (.tup [.bool false (cutL s), .str false (cutIn s), .str false (cutRest s), .int .i64 true 0])
  | false => .ret (.tup [.bool true false, .str true [], .str true [], .int .i64 true 2])
end Go.Proofs.YtkfdcapnogklfaaGreatDoor
/-
  Conditions that the executor computes, written out by a program (vcgen.py).
-/
namespace Go.Proofs.YtkfdcapnogklfaaGreatDoor
open Go Sx
set_option maxRecDepth 20000
theorem vcText (b : List UInt8) (R : SV → Prop) : VC.holds (runP cfg3 35 Tryz.f35 [.str false b] R) = ((decide ((↑b.length : Int) = (1 : Int)) = true →
 ((0 : Int) ≤ (0 : Int) ∧
 (0 : Int) < (↑b.length : Int)) ∧
 (decide (byteAt b (0 : Int) < (128 : Int)) = true →
 R (SV.str false b)) ∧
 (decide (byteAt b (0 : Int) < (128 : Int)) = false →
 (((0 : Int) ≤ (128 : Int) ∧
 (128 : Int) ≤ (192 : Int)) ∧
 (0 : Int) ≤ (↑b.length : Int) ∧
 (↑b.length : Int) < (1152921504606846976 : Int)) ∧
 (↑(headOf (128 : Int) (↑b.length : Int).toNat).length : Int) + (↑b.length : Int) ≤ (9223372036854775807 : Int) ∧
 R (SV.str false (cat (headOf (128 : Int) (↑b.length : Int).toNat) b)))) ∧
 (decide ((↑b.length : Int) = (1 : Int)) = false →
 (((0 : Int) ≤ (128 : Int) ∧
 (128 : Int) ≤ (192 : Int)) ∧
 (0 : Int) ≤ (↑b.length : Int) ∧
 (↑b.length : Int) < (1152921504606846976 : Int)) ∧
 (↑(headOf (128 : Int) (↑b.length : Int).toNat).length : Int) + (↑b.length : Int) ≤ (9223372036854775807 : Int) ∧
 R (SV.str false (cat (headOf (128 : Int) (↑b.length : Int).toNat) b)))) := by kernel_rfl
theorem vcSplit (s : List UInt8) : VC.holds (runA cfg3 52 Tryz.f52 [.str false s] (splitA s)) = (s.length < (9223372036854775808 : Nat) ∧
 (cutB s = true →
 (cutB s = true →
 sameVal (SV.tup [SV.bool false (cutL s), SV.str false (cutIn s), SV.str false (cutRest s), SV.int IntKind.i64 true (0 : Int)]) (SV.tup [SV.bool false (cutL s), SV.str false (cutIn s), SV.str false (cutRest s), SV.int IntKind.i64 true (0 : Int)])) ∧
 (cutB s = false →
 sameVal (SV.tup [SV.bool false (cutL s), SV.str false (cutIn s), SV.str false (cutRest s), SV.int IntKind.i64 true (0 : Int)]) (SV.tup [SV.bool true false, SV.str true [], SV.str true [], SV.int IntKind.i64 true (2 : Int)]))) ∧
 (cutB s = false →
 ∀ (_x : Int), (cutB s = true →
 sameVal (SV.tup [SV.bool true false, SV.str true [], SV.str true [], SV.int IntKind.i64 true (2 : Int)]) (SV.tup [SV.bool false (cutL s), SV.str false (cutIn s), SV.str false (cutRest s), SV.int IntKind.i64 true (0 : Int)])) ∧
 (cutB s = false →
 sameVal (SV.tup [SV.bool true false, SV.str true [], SV.str true [], SV.int IntKind.i64 true (2 : Int)]) (SV.tup [SV.bool true false, SV.str true [], SV.str true [], SV.int IntKind.i64 true (2 : Int)])))) := by kernel_rfl
end Go.Proofs.YtkfdcapnogklfaaGreatDoor
/-
  Rlp: Text, Split: the contracts; GetNum: the set-up.
-/
namespace Go.Proofs.YtkfdcapnogklfaaGreatDoor
open Go Sx
set_option maxRecDepth 20000
theorem head_len (base : Int) (n : Nat) : (headOf base n).length ≤ 9 := by
  unfold headOf
  have := digits_len n
  split <;> simp only [List.length_cons, List.length_nil] <;> omega
theorem text_long {b : List UInt8} (h : ¬ (b.length = 1 ∧ byteAt b 0 < 128)) : textOf b = headOf 128 b.length ++ b := if_neg h
theorem text_holds {b : List UInt8} (hb : b.length < 1152921504606846976) : Holds (runP cfg3 35 Tryz.f35 [.str false b] (fun v => sameVal v (.str false (textOf b)))) := by
  refine Holds.of_eq (vcText b _) ?_
  have hl := head_len 128 b.length
  simp only [Int.toNat_natCast]
  refine ⟨fun h => ⟨by simp at h; omega, fun h2 => str_same ?_, fun h2 => ⟨by omega, by omega, str_same ?_⟩⟩, fun h => ⟨by omega, by omega, str_same ?_⟩⟩
  · simp at h h2; exact (if_pos ⟨by omega, h2⟩).symm
  · simp only [decide_eq_false_iff_not] at h2
    exact (text_long fun x => h2 x.2).symm
  · simp only [decide_eq_false_iff_not] at h
    exact (text_long fun x => h (by omega)).symm
def textSpec : List SV → Option (Prop × SV)
  | [.str false b] => some (b.length < 1152921504606846976, .str false (textOf b))
  | _ => none
noncomputable def textPT : PT := purePT textSpec
theorem text_ok : CallOk Tryz.prog 35 textPT := by
  refine pure_ok good3 (n := 20) (fn := Tryz.f35) Tryz.func35 (by kernel_rfl) (by kernel_rfl) ?_
  intro args p r h hp
  unfold textSpec at h
  split at h
  · injection h with h; injection h with h1 h2; subst h1; subst h2
    exact ⟨rfl, rfl, text_holds hp⟩
  · cases h
theorem split_holds {s : List UInt8} (hs : s.length < 9223372036854775808) : Holds (runA cfg3 52 Tryz.f52 [.str false s] (splitA s)) := by
  refine Holds.of_eq (vcSplit s) ?_
  cases cutB s with
  | true => exact ⟨hs, fun _ => ⟨fun _ _ => rfl, (fun h => by cases h)⟩, fun h => by cases h⟩
  | false => exact ⟨hs, (fun h => by cases h), fun _ _ => ⟨(fun h => by cases h), fun _ _ => rfl⟩⟩
def splitSpec : List SV → Option (Prop × Ans)
  | [.str false s] => some (s.length < 9223372036854775808, splitA s)
  | _ => none
noncomputable def splitPT : PT := ansPT splitSpec
theorem split_ok : CallOk Tryz.prog 52 splitPT := by
  refine ans_ok (n := 20) (fn := Tryz.f52) Tryz.func52 (by kernel_rfl) (by kernel_rfl) ?_
  intro args p a h hp
  unfold splitSpec at h
  split at h
  · rename_i s
    injection h with h; injection h with h1 h2; subst h1; subst h2
    refine ⟨_, good3, rfl, fun b => ?_, split_holds hp⟩
    cases b <;> exact rfl
  · cases h
noncomputable def list4 : List (FuncId × PT) := (35, textPT) :: (52, splitPT) :: list3
theorem list4_ok : SummOk Tryz.prog (fun f => lookPT f list4) := .cons text_ok (purePT_mono _) (.cons split_ok (ansPT_mono _) list3_ok)
end Go.Proofs.YtkfdcapnogklfaaGreatDoor
/-
  Conditions that the executor computes, written out by a program (vcgen.py).
-/
namespace Go.Proofs.YtkfdcapnogklfaaGreatDoor
open Go Sx
set_option maxRecDepth 20000
end Go.Proofs.YtkfdcapnogklfaaGreatDoor
/-
  Rlp: numbers as items: the contracts.
-/
namespace Go.Proofs.YtkfdcapnogklfaaGreatDoor
open Go Sx
set_option maxRecDepth 20000
theorem num_nn (l : List UInt8) : 0 ≤ num l := by
  unfold num
  suffices ∀ (l : List UInt8) (a : Int), 0 ≤ a → 0 ≤ l.foldl (fun a b => a * 256 + (b.toNat : Int)) a from this _ _ (Int.le_refl _)
  intro l
  induction l with
  | nil => exact fun _ h => h
  | cons b r ih => intro a h; exact ih _ (show 0 ≤ a * 256 + (b.toNat : Int) by omega)
theorem num_take {l : List UInt8} {x : Int} (h : 0 ≤ x) (h2 : x < l.length) : num (l.take (x + 1).toNat) = num (l.take x.toNat) * 256 + byteAt l x := by
  have e : (x + 1).toNat = x.toNat + 1 := by omega
  have hx : x.toNat < l.length := by omega
  rw [e, List.take_add_one, List.getElem?_eq_getElem hx]
  simp only [Option.toList, num_snoc]
  congr 1
  unfold byteAt
  rw [List.getD_eq_getElem?_getD, List.getElem?_eq_getElem hx]
  rfl
theorem num_lt : ∀ (n : Nat) (l : List UInt8), l.length ≤ n → num l < 256 ^ n
  | 0, l, h => by
    have : l = [] := List.length_eq_zero_iff.1 (by omega)
    subst this; decide
  | n + 1, l, h => by
    rcases List.eq_nil_or_concat l with rfl | ⟨r, b, rfl⟩
    · have : (0 : Int) < 256 ^ (n + 1) := Int.pow_pos (by decide)
      exact this
    · simp only [List.length_concat] at h
      have := num_lt n r (by omega)
      have hb := b.toNat_lt
      rw [List.concat_eq_append, num_snoc, Int.pow_succ]
      omega
theorem num_lt7 {l : List UInt8} {x : Int} (_h0 : 0 ≤ x) (h : x < l.length) (h2 : l.length ≤ 8) : num (l.take x.toNat) < 72057594037927936 := by
  have := num_lt 7 (l.take x.toNat) (by simp only [List.length_take]; omega)
  exact this
noncomputable def list5 : List (FuncId × PT) := list4
theorem list5_ok : SummOk Tryz.prog (fun f => lookPT f list5) := list4_ok
end Go.Proofs.YtkfdcapnogklfaaGreatDoor
