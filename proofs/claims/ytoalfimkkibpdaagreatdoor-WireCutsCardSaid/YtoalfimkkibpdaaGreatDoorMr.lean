/-
  Conditions that the executor computes, written out by a program (vcgen.py).
-/
import Derived.Test.YtoalfimkkibpdaaGreatDoorMq
namespace Go.Proofs.YtoalfimkkibpdaaGreatDoor
open Go Sx
set_option maxRecDepth 20000
theorem vcRead (s : List UInt8) : VC.holds (runA (cfgRd s) 162 Tryz.f162 [.str false s] (readA s)) = ((fun R0 : Nat → (Nat) → SV => ((fun R1 : Nat → (Nat) → SV => ((fun R2 : Nat → (Nat) → SV => ((fun R3 : Nat → (Nat) → SV => ((fun R4 : Nat → (Nat) → SV => ((fun P0 : SV => ((fun P1 : SB => ((fun P2 : SV => ((fun P3 : SV => ((fun P4 : SV => ((fun P5 : SV => ((fun P6 : Nat → SV => ((fun P7 : Nat → SV => ((fun P8 : SV => ((fun P9 : SV => ((fun P10 : SV => ((fun P11 : Nat → SB => ((fun P12 : SV => (((0 : Nat) < (1152921504606846976 : Nat) ∧ (decide (s = textOf []) = true → (decide (shapeK s = 0) = true → sameVal P5 P12) ∧ (decide (shapeK s = 0) = false → (decide (shapeK s = 1) = true → sameVal P5 P9) ∧ (decide (shapeK s = 1) = false → (decide (shapeK s = 2) = true → sameVal P5 P10) ∧ (decide (shapeK s = 2) = false → (decide (shapeK s = 3) = true → sameVal P5 P8) ∧ (decide (shapeK s = 3) = false → ∃ (u17 : Nd), sameVal P5 (SV.tup [u17.sv, SV.bool true false])))))) ∧ (decide (s = textOf []) = false → s.length < 9223372036854775808 ∧ (cutB s = true → ((!cutL s) = true → (decide (shapeK s = 0) = true → sameVal P0 P12) ∧ (decide (shapeK s = 0) = false → (decide (shapeK s = 1) = true → sameVal P0 P9) ∧ (decide (shapeK s = 1) = false → (decide (shapeK s = 2) = true → sameVal P0 P10) ∧ (decide (shapeK s = 2) = false → (decide (shapeK s = 3) = true → sameVal P0 P8) ∧ (decide (shapeK s = 3) = false → ∃ (u16 : Nd), sameVal P0 (SV.tup [u16.sv, SV.bool true false])))))) ∧ ((!cutL s) = false → ((!decide (cutRest s = [])) = true → (decide (shapeK s = 0) = true → sameVal P0 P12) ∧ (decide (shapeK s = 0) = false → (decide (shapeK s = 1) = true → sameVal P0 P9) ∧
 (decide (shapeK s = 1) = false → (decide (shapeK s = 2) = true → sameVal P0 P10) ∧ (decide (shapeK s = 2) = false → (decide (shapeK s = 3) = true → sameVal P0 P8) ∧ (decide (shapeK s = 3) = false → ∃ (u15 : Nd), sameVal P0 (SV.tup [u15.sv, SV.bool true false])))))) ∧ ((!decide (cutRest s = [])) = false → (cutIn s).length < 1099511627776 ∧ (itemsB (cutIn s) = true → ∀ (u14 : Nat), itemsN (cutIn s) ≤ u14 → (decide ((↑(itemsN (cutIn s)) : Int) = 2) = true → ((0 : Int) ≤ (0 : Int) ∧ 0 < (↑(itemsN (cutIn s)) : Int)) ∧ 0 < itemsN (cutIn s) ∧ ((0 : Int) ≤ (1 : Int) ∧ 1 < (↑(itemsN (cutIn s)) : Int)) ∧ 1 < itemsN (cutIn s) ∧ (itemAt (cutIn s) 0).length < 9223372036854775808 ∧ (plainB (itemAt (cutIn s) 0) = true → (cutIn (itemAt (cutIn s) 0)).length < 1099511627776 ∧ (ngetB (cutIn (itemAt (cutIn s) 0)) = true → ((!ngetLeaf (cutIn (itemAt (cutIn s) 0))) = true → (decide (shapeK s = 0) = true → sameVal P3 P12) ∧ (decide (shapeK s = 0) = false → (decide (shapeK s = 1) = true → sameVal P3 P9) ∧ (decide (shapeK s = 1) = false → (decide (shapeK s = 2) = true → sameVal P3 P10) ∧ (decide (shapeK s = 2) = false → (decide (shapeK s = 3) = true → sameVal P3 P8) ∧ (decide (shapeK s = 3) = false →
 ∃ (u13 : Nd), sameVal P3 (SV.tup [u13.sv, SV.bool true false])))))) ∧ ((!ngetLeaf (cutIn (itemAt (cutIn s) 0))) = false → (itemAt (cutIn s) 1).length < 9223372036854775808 ∧ (plainB (itemAt (cutIn s) 1) = true → (decide (shapeK s = 0) = true → sameVal P2 P12) ∧ (decide (shapeK s = 0) = false → (decide (shapeK s = 1) = true → sameVal P2 P9) ∧ (decide (shapeK s = 1) = false → (decide (shapeK s = 2) = true → sameVal P2 P10) ∧ (decide (shapeK s = 2) = false → (decide (shapeK s = 3) = true → sameVal P2 P8) ∧ (decide (shapeK s = 3) = false → ∃ (u12 : Nd), sameVal P2 (SV.tup [u12.sv, SV.bool true false])))))) ∧ (plainB (itemAt (cutIn s) 1) = false → (decide (shapeK s = 0) = true → sameVal P4 P12) ∧ (decide (shapeK s = 0) = false → (decide (shapeK s = 1) = true → sameVal P4 P9) ∧ (decide (shapeK s = 1) = false → (decide (shapeK s = 2) = true → sameVal P4 P10) ∧ (decide (shapeK s = 2) = false → (decide (shapeK s = 3) = true → sameVal P4 P8) ∧ (decide (shapeK s = 3) = false → ∃ (u11 : Nd), sameVal P4 (SV.tup [u11.sv, SV.bool true false])))))))) ∧ (ngetB (cutIn (itemAt (cutIn s) 0)) = false → (decide (shapeK s = 0) = true → sameVal P0 P12) ∧ (decide (shapeK s = 0) = false →
 (decide (shapeK s = 1) = true → sameVal P0 P9) ∧ (decide (shapeK s = 1) = false → (decide (shapeK s = 2) = true → sameVal P0 P10) ∧ (decide (shapeK s = 2) = false → (decide (shapeK s = 3) = true → sameVal P0 P8) ∧ (decide (shapeK s = 3) = false → ∃ (u10 : Nd), sameVal P0 (SV.tup [u10.sv, SV.bool true false]))))))) ∧ (plainB (itemAt (cutIn s) 0) = false → (decide (shapeK s = 0) = true → sameVal P0 P12) ∧ (decide (shapeK s = 0) = false → (decide (shapeK s = 1) = true → sameVal P0 P9) ∧ (decide (shapeK s = 1) = false → (decide (shapeK s = 2) = true → sameVal P0 P10) ∧ (decide (shapeK s = 2) = false → (decide (shapeK s = 3) = true → sameVal P0 P8) ∧ (decide (shapeK s = 3) = false → ∃ (u9 : Nd), sameVal P0 (SV.tup [u9.sv, SV.bool true false]))))))) ∧ (decide ((↑(itemsN (cutIn s)) : Int) = 2) = false → (decide ((↑(itemsN (cutIn s)) : Int) = 17) = true → (∃ (u8 : Nat), u8 ≤ 16 ∧ 0 = (u8 : Int) ∧
 SBle (SB.cells [SV.int .i64 true 3, SV.str true [], SV.str true [], SV.str true [], SV.str true [], SV.str true [], SV.str true [], SV.str true [], SV.str true [], SV.str true [], SV.str true [], SV.str true [], SV.str true [], SV.str true [], SV.str true [], SV.str true [], SV.str true [], SV.str true [], SV.str true []] 19 116) (SB.cells [SV.int .i64 false 3, SV.str false [], SV.str false [], R0 0 u8, R0 1 u8, R0 2 u8, R0 3 u8, R0 4 u8, R0 5 u8, R0 6 u8, R0 7 u8, R0 8 u8, R0 9 u8, R0 10 u8, R0 11 u8, R0 12 u8, R0 13 u8, R0 14 u8, R0 15 u8] 19 116) ∧ SBle P1 P1 ∧ SBle (P11 u14) (P11 u14) ∧ SBle P1 P1 ∧ True) ∧ ∀ (u7 : Nat), u7 ≤ 16 → (decide ((u7 : Int) < 16) = true → (0 ≤ (u7 : Int) ∧ (u7 : Int) < (↑(itemsN (cutIn s)) : Int)) ∧ 0 + (u7 : Int).toNat < itemsN (cutIn s) ∧ (0 : Nat) < (1152921504606846976 : Nat) ∧ some (P11 u14) = some (P11 u14) ∧ ((!decide (itemAt (cutIn s) (0 + (u7 : Int).toNat) = textOf [])) = true → (0 ≤ (u7 : Int) ∧ (u7 : Int) < (↑(itemsN (cutIn s)) : Int)) ∧ 0 + (u7 : Int).toNat < itemsN (cutIn s) ∧ (0 ≤ (u7 : Int) ∧ (u7 : Int) < 16) ∧ (u7 : Int).toNat < 16 ∧ ((-9223372036854775808 : Int) ≤ (u7 : Int) + 1 ∧ (u7 : Int) + 1 ≤ (9223372036854775807 : Int)) ∧
 ∃ (u6 : Nat), (u6 ≤ 16 ∧ 16 - u6 < 16 - u7) ∧ (u7 : Int) + 1 = (u6 : Int) ∧ SBle (SB.cells [SV.int .i64 false 3, SV.str false [], SV.str false [], R1 0 u7, R1 1 u7, R1 2 u7, R1 3 u7, R1 4 u7, R1 5 u7, R1 6 u7, R1 7 u7, R1 8 u7, R1 9 u7, R1 10 u7, R1 11 u7, R1 12 u7, R1 13 u7, R1 14 u7, R1 15 u7] 19 116) (SB.cells [SV.int .i64 false 3, SV.str false [], SV.str false [], R2 0 u6, R2 1 u6, R2 2 u6, R2 3 u6, R2 4 u6, R2 5 u6, R2 6 u6, R2 7 u6, R2 8 u6, R2 9 u6, R2 10 u6, R2 11 u6, R2 12 u6, R2 13 u6, R2 14 u6, R2 15 u6] 19 116) ∧ SBle P1 P1 ∧ SBle (P11 u14) (P11 u14) ∧ SBle P1 P1 ∧ True) ∧ ((!decide (itemAt (cutIn s) (0 + (u7 : Int).toNat) = textOf [])) = false → ((-9223372036854775808 : Int) ≤ (u7 : Int) + 1 ∧ (u7 : Int) + 1 ≤ (9223372036854775807 : Int)) ∧ ∃ (u5 : Nat), (u5 ≤ 16 ∧ 16 - u5 < 16 - u7) ∧ (u7 : Int) + 1 = (u5 : Int) ∧
 SBle (SB.cells [SV.int .i64 false 3, SV.str false [], SV.str false [], R3 0 u7, R3 1 u7, R3 2 u7, R3 3 u7, R3 4 u7, R3 5 u7, R3 6 u7, R3 7 u7, R3 8 u7, R3 9 u7, R3 10 u7, R3 11 u7, R3 12 u7, R3 13 u7, R3 14 u7, R3 15 u7] 19 116) (SB.cells [SV.int .i64 false 3, SV.str false [], SV.str false [], R4 0 u5, R4 1 u5, R4 2 u5, R4 3 u5, R4 4 u5, R4 5 u5, R4 6 u5, R4 7 u5, R4 8 u5, R4 9 u5, R4 10 u5, R4 11 u5, R4 12 u5, R4 13 u5, R4 14 u5, R4 15 u5] 19 116) ∧ SBle P1 P1 ∧ SBle (P11 u14) (P11 u14) ∧ SBle P1 P1 ∧ True)) ∧ (decide ((u7 : Int) < 16) = false → ((0 : Int) ≤ (16 : Int) ∧ 16 < (↑(itemsN (cutIn s)) : Int)) ∧ 16 < itemsN (cutIn s) ∧ (itemAt (cutIn s) 16).length < 9223372036854775808 ∧ (plainB (itemAt (cutIn s) 16) = true → (decide (shapeK s = 0) = true → sameVal (P6 u7) P12) ∧ (decide (shapeK s = 0) = false → (decide (shapeK s = 1) = true → sameVal (P6 u7) P9) ∧ (decide (shapeK s = 1) = false → (decide (shapeK s = 2) = true → sameVal (P6 u7) P10) ∧ (decide (shapeK s = 2) = false → (decide (shapeK s = 3) = true → sameVal (P6 u7) P8) ∧ (decide (shapeK s = 3) = false → ∃ (u4 : Nd), sameVal (P6 u7) (SV.tup [u4.sv, SV.bool true false])))))) ∧ (plainB (itemAt (cutIn s) 16) = false →
 (decide (shapeK s = 0) = true → sameVal (P7 u7) P12) ∧ (decide (shapeK s = 0) = false → (decide (shapeK s = 1) = true → sameVal (P7 u7) P9) ∧ (decide (shapeK s = 1) = false → (decide (shapeK s = 2) = true → sameVal (P7 u7) P10) ∧ (decide (shapeK s = 2) = false → (decide (shapeK s = 3) = true → sameVal (P7 u7) P8) ∧ (decide (shapeK s = 3) = false → ∃ (u3 : Nd), sameVal (P7 u7) (SV.tup [u3.sv, SV.bool true false])))))))) ∧ (decide ((↑(itemsN (cutIn s)) : Int) = 17) = false → (decide (shapeK s = 0) = true → sameVal P0 P12) ∧ (decide (shapeK s = 0) = false → (decide (shapeK s = 1) = true → sameVal P0 P9) ∧ (decide (shapeK s = 1) = false → (decide (shapeK s = 2) = true → sameVal P0 P10) ∧ (decide (shapeK s = 2) = false → (decide (shapeK s = 3) = true → sameVal P0 P8) ∧ (decide (shapeK s = 3) = false → ∃ (u2 : Nd), sameVal P0 (SV.tup [u2.sv, SV.bool true false])))))))) ∧ (itemsB (cutIn s) = false → (decide (shapeK s = 0) = true → sameVal P0 P12) ∧ (decide (shapeK s = 0) = false → (decide (shapeK s = 1) = true → sameVal P0 P9) ∧ (decide (shapeK s = 1) = false → (decide (shapeK s = 2) = true → sameVal P0 P10) ∧ (decide (shapeK s = 2) = false → (decide (shapeK s = 3) = true →
 sameVal P0 P8) ∧ (decide (shapeK s = 3) = false → ∃ (u1 : Nd), sameVal P0 (SV.tup [u1.sv, SV.bool true false]))))))))) ∧ (cutB s = false → (decide (shapeK s = 0) = true → sameVal P0 P12) ∧ (decide (shapeK s = 0) = false → (decide (shapeK s = 1) = true → sameVal P0 P9) ∧ (decide (shapeK s = 1) = false → (decide (shapeK s = 2) = true → sameVal P0 P10) ∧ (decide (shapeK s = 2) = false → (decide (shapeK s = 3) = true → sameVal P0 P8) ∧ (decide (shapeK s = 3) = false → ∃ (u0 : Nd), sameVal P0 (SV.tup [u0.sv, SV.bool true false])))))))))) (SV.tup [zeroN, SV.bool true true]))) (fun (u14 : Nat) => (SB.rows true (itemsN (cutIn s)) [Col.str (itemAt (cutIn s))] false u14 9)))) (SV.tup [(rdExt s).svL true 2, SV.bool true true]))) (SV.tup [(rdLeaf s).svL true 1, SV.bool true true]))) (SV.tup [(rdBranch s).svL true 3, SV.bool true true]))) (fun (u7 : Nat) => (SV.tup [SV.agg [SV.int .i64 false 3, SV.str false [], SV.str true [], R3 0 u7, R3 1 u7, R3 2 u7, R3 3 u7, R3 4 u7, R3 5 u7, R3 6 u7, R3 7 u7, R3 8 u7, R3 9 u7, R3 10 u7, R3 11 u7, R3 12 u7, R3 13 u7, R3 14 u7, R3 15 u7], SV.bool true false])))) (fun (u7 : Nat) => (SV.tup [SV.agg [SV.int .i64 false 3, SV.str false [], SV.str false (cutIn (itemAt (cutIn s) 16)), R3 0 u7, R3 1 u7, R3 2 u7, R3 3 u7, R3 4 u7, R3 5 u7, R3 6 u7, R3 7 u7, R3 8 u7, R3 9 u7, R3 10 u7, R3 11 u7, R3 12 u7, R3 13 u7, R3 14 u7, R3 15 u7], SV.bool true true])))) (SV.tup [SV.agg [SV.int .i64 true 0, SV.str true [], SV.str true [], SV.str true [], SV.str true [], SV.str true [], SV.str true [], SV.str true [], SV.str true [], SV.str true [], SV.str true [], SV.str true [], SV.str true [], SV.str true [], SV.str true [], SV.str true [], SV.str true [], SV.str true [], SV.str true []], SV.bool true true]))) (SV.tup [SV.agg [SV.int .i64 true 1, SV.str false (ngetP (cutIn (itemAt (cutIn s) 0))), SV.str true [], SV.str true [], SV.str true [], SV.str true [], SV.str true [], SV.str true [], SV.str true [], SV.str true [], SV.str true [], SV.str true [], SV.str true [], SV.str true [], SV.str true [], SV.str true [], SV.str true [], SV.str true [], SV.str true []], SV.bool true false]))) (SV.tup [SV.agg [SV.int .i64 true 2, SV.str false (ngetP (cutIn (itemAt (cutIn s) 0))), SV.str true [], Col.at 1 (Col.str (itemAt (cutIn s))), SV.str true [], SV.str true [], SV.str true [], SV.str true [], SV.str true [], SV.str true [], SV.str true [], SV.str true [], SV.str true [], SV.str true [], SV.str true [], SV.str true [], SV.str true [], SV.str true [], SV.str true []], SV.bool true true]))) (SV.tup [SV.agg [SV.int .i64 true 1, SV.str false (ngetP (cutIn (itemAt (cutIn s) 0))), SV.str false (cutIn (itemAt (cutIn s) 1)), SV.str true [], SV.str true [], SV.str true [], SV.str true [], SV.str true [], SV.str true [], SV.str true [], SV.str true [], SV.str true [], SV.str true [], SV.str true [], SV.str true [], SV.str true [], SV.str true [], SV.str true [], SV.str true []], SV.bool true true]))) (SB.cells (SV.agg [SV.int .i64 true 0, SV.str true [], SV.str true [], SV.str true [], SV.str true [], SV.str true [], SV.str true [], SV.str true [], SV.str true [], SV.str true [], SV.str true [], SV.str true [], SV.str true [], SV.str true [], SV.str true [], SV.str true [], SV.str true [], SV.str true [], SV.str true []]).cells 19 116))) (SV.tup [SV.agg [SV.int .i64 true 0, SV.str true [], SV.str true [], SV.str true [], SV.str true [], SV.str true [], SV.str true [], SV.str true [], SV.str true [], SV.str true [], SV.str true [], SV.str true [], SV.str true [], SV.str true [], SV.str true [], SV.str true [], SV.str true [], SV.str true [], SV.str true []], SV.bool true false]))) (fun (n0 : Nat) (u5 : Nat) => SV.str false (rdI (cutIn s) u5 n0)))) (fun (n0 : Nat) (u7 : Nat) => SV.str false (rdI (cutIn s) u7 n0)))) (fun (n0 : Nat) (u6 : Nat) => SV.str false (rdI (cutIn s) u6 n0)))) (fun (n0 : Nat) (u7 : Nat) => SV.str false (if (u7 : Int).toNat = n0 then itemAt (cutIn s) (0 + (u7 : Int).toNat) else rdI (cutIn s) u7 n0)))) (fun (n0 : Nat) (u8 : Nat) => SV.str false (rdI (cutIn s) u8 n0))) := by kernel_rfl
end Go.Proofs.YtoalfimkkibpdaaGreatDoor
/-
  Node: the node that bytes look like: the contract.
-/
namespace Go.Proofs.YtoalfimkkibpdaaGreatDoor
open Go Sx
set_option maxRecDepth 20000
def Fit5 (k : Int) (A B C D E : Prop) : Prop := (decide (k = 0) = true → A) ∧ (decide (k = 0) = false → (decide (k = 1) = true → B) ∧ (decide (k = 1) = false → (decide (k = 2) = true → C) ∧ (decide (k = 2) = false → (decide (k = 3) = true → D) ∧ (decide (k = 3) = false → E))))
theorem fit0 {k : Int} {A B C D E : Prop} (h : k = 0) (a : A) : Fit5 k A B C D E := by subst h; exact ⟨fun _ => a, fun h => absurd h (by decide)⟩
theorem fit1 {k : Int} {A B C D E : Prop} (h : k = 1) (a : B) : Fit5 k A B C D E := by subst h; exact ⟨fun h => absurd h (by decide), fun _ => ⟨fun _ => a, fun h => absurd h (by decide)⟩⟩
theorem fit2 {k : Int} {A B C D E : Prop} (h : k = 2) (a : C) : Fit5 k A B C D E := by subst h; exact ⟨fun h => absurd h (by decide), fun _ => ⟨fun h => absurd h (by decide), fun _ => ⟨fun _ => a, fun h => absurd h (by decide)⟩⟩⟩
theorem fit3 {k : Int} {A B C D E : Prop} (h : k = 3) (a : D) : Fit5 k A B C D E := by subst h; exact ⟨fun h => absurd h (by decide), fun _ => ⟨fun h => absurd h (by decide), fun _ => ⟨fun h => absurd h (by decide), fun _ => ⟨fun _ => a, fun h => absurd h (by decide)⟩⟩⟩⟩
theorem fitN {k : Int} {A B C D E : Prop} (h : k = -1) (a : E) : Fit5 k A B C D E := by subst h; exact ⟨fun h => absurd h (by decide), fun _ => ⟨fun h => absurd h (by decide), fun _ => ⟨fun h => absurd h (by decide), fun _ => ⟨fun h => absurd h (by decide), fun _ => a⟩⟩⟩⟩
theorem rdC_le {f g : Nat → List UInt8} {tot : Nat} {ty : TypeId} (h : ∀ j, j < 16 → f j = g j) : SBle (.cells [.int .i64 false 3, .str false [], .str false [], .str false (f 0), .str false (f 1), .str false (f 2), .str false (f 3), .str false (f 4), .str false (f 5), .str false (f 6), .str false (f 7), .str false (f 8), .str false (f 9), .str false (f 10), .str false (f 11), .str false (f 12), .str false (f 13), .str false (f 14), .str false (f 15)] tot ty) (.cells [.int .i64 false 3, .str false [], .str false [], .str false (g 0), .str false (g 1), .str false (g 2), .str false (g 3), .str false (g 4), .str false (g 5), .str false (g 6), .str false (g 7), .str false (g 8), .str false (g 9), .str false (g 10), .str false (g 11), .str false (g 12), .str false (g 13), .str false (g 14), .str false (g 15)] tot ty) := by
  rw [h 0 (by decide), h 1 (by decide), h 2 (by decide), h 3 (by decide), h 4 (by decide), h 5 (by decide), h 6 (by decide), h 7 (by decide), h 8 (by decide), h 9 (by decide), h 10 (by decide), h 11 (by decide), h 12 (by decide), h 13 (by decide), h 14 (by decide), h 15 (by decide)]
  exact SBle.refl _
theorem rdI_step {t : List UInt8} {i : Nat} (h : itemAt t i ≠ [128]) (j : Nat) : (if i = j then itemAt t i else rdI t i j) = rdI t (i + 1) j := by
  unfold rdI
  by_cases e : i = j
  · subst e
    rw [if_pos rfl, if_pos (show i < i + 1 by omega), rdRef, if_neg h]
  · rw [if_neg e]
    by_cases e1 : j < i
    · rw [if_pos e1, if_pos (show j < i + 1 by omega)]
    · rw [if_neg e1, if_neg (show ¬ j < i + 1 by omega)]
theorem rdI_skip {t : List UInt8} {i : Nat} (h : itemAt t i = [128]) (j : Nat) : rdI t i j = rdI t (i + 1) j := by
  unfold rdI
  by_cases e : i = j
  · subst e
    rw [if_neg (show ¬ i < i by omega), if_pos (show i < i + 1 by omega), rdRef, if_pos h]
  · by_cases e1 : j < i
    · rw [if_pos e1, if_pos (show j < i + 1 by omega)]
    · rw [if_neg e1, if_neg (show ¬ j < i + 1 by omega)]
attribute [local irreducible] itemAt itemsN itemsB cutIn cutB cutRest cutL plainB ngetB ngetLeaf ngetP
theorem read_holds {s : List UInt8} (hs : s.length < 1099511627776) : Holds (runA (cfgRd s) 162 Tryz.f162 [.str false s] (readA s)) := by
  refine Holds.of_eq (vcRead s) ?_
  try dsimp only
  have hin := cutIn_le s
  have hit := itemAt_le (cutIn s)
  have hin2 := fun k => cutIn_le (itemAt (cutIn s) k)
  refine ⟨by omega, fun a => fit0 ?_ (fun _ => rfl), fun a => ⟨by omega, fun b => ⟨fun c => fitN ?_ ⟨zeroNd, fun _ => rfl⟩, fun c => ⟨fun d => fitN ?_ ⟨zeroNd, fun _ => rfl⟩, fun d => ⟨by omega, fun e => fun cap hcap => ⟨fun f => ?_, fun f => ⟨fun g => ?_, fun g => fitN ?_ ⟨zeroNd, fun _ => rfl⟩⟩⟩, fun e => fitN ?_ ⟨zeroNd, fun _ => rfl⟩⟩⟩⟩, fun b => fitN ?_ ⟨zeroNd, fun _ => rfl⟩⟩⟩
  · have a : s = [128] := of_decide_eq_true a
    rw [shapeK, if_pos a]
  · have a : ¬ s = [128] := of_decide_eq_false a
    have c : cutL s = false := by simpa using c
    rw [shapeK, if_neg a, b, c]; rfl
  · have a : ¬ s = [128] := of_decide_eq_false a
    have c : cutL s = true := by simpa using c
    have d : decide (cutRest s = []) = false := by simpa using d
    rw [shapeK, if_neg a, b, c, d]; rfl
  · have a : ¬ s = [128] := of_decide_eq_false a
    have c : cutL s = true := by simpa using c
    have d : decide (cutRest s = []) = true := by simpa using d
    have f := of_decide_eq_true f
    have f : itemsN (cutIn s) = 2 := by omega
    have hk : shapeK s = pairK (cutIn s) := by rw [shapeK, if_neg a, b, c, d, listK, e, if_pos f]; rfl
    have i0 := hit 0
    have i1 := hit 1
    have i2 := hin2 0
    refine ⟨by omega, by omega, by omega, by omega, by omega, fun g => ⟨by omega, fun h => ⟨fun k => fit2 ?_ (fun _ => rfl), fun k => ⟨by omega, fun l => fit1 ?_ (fun _ => rfl), fun l => fitN ?_ ⟨⟨1, ngetP (cutIn (itemAt (cutIn s) 0)), [], noRefs⟩, fun _ => rfl⟩⟩⟩, fun h => fitN ?_ ⟨zeroNd, fun _ => rfl⟩⟩, fun g => fitN ?_ ⟨zeroNd, fun _ => rfl⟩⟩
    · have k : ngetLeaf (cutIn (itemAt (cutIn s) 0)) = false := by simpa using k
      rw [hk, pairK, g, h, k]; rfl
    · have k : ngetLeaf (cutIn (itemAt (cutIn s) 0)) = true := by simpa using k
      rw [hk, pairK, g, h, k, l]; rfl
    · have k : ngetLeaf (cutIn (itemAt (cutIn s) 0)) = true := by simpa using k
      rw [hk, pairK, g, h, k, l]; rfl
    · rw [hk, pairK, g, h]; rfl
    · rw [hk, pairK, g]; rfl
  · have a : ¬ s = [128] := of_decide_eq_false a
    have c : cutL s = true := by simpa using c
    have d : decide (cutRest s = []) = true := by simpa using d
    have f := of_decide_eq_false f
    have f : ¬ itemsN (cutIn s) = 2 := by omega
    have g := of_decide_eq_true g
    have g : itemsN (cutIn s) = 17 := by omega
    have hk : shapeK s = bif plainB (itemAt (cutIn s) 16) then 3 else -1 := by rw [shapeK, if_neg a, b, c, d, listK, e, if_neg f, if_pos g]; rfl
    have i16 := hit 16
    refine ⟨⟨0, by omega, rfl, Sx.SBle.cells (fun E => rfl) rfl, SBle.refl _, SBle.refl _, SBle.refl _, trivial⟩, fun i hi => ⟨fun h => ?_, fun h => ?_⟩⟩
    · have h := of_decide_eq_true h
      rw [Int.toNat_natCast, Nat.zero_add]
      refine ⟨by omega, by omega, by omega, rfl, fun k => ⟨by omega, by omega, by omega, by omega, by omega, i + 1, by omega, by omega, ?_, SBle.refl _, SBle.refl _, SBle.refl _, trivial⟩, fun k => ⟨by omega, i + 1, by omega, by omega, ?_, SBle.refl _, SBle.refl _, SBle.refl _, trivial⟩⟩
      · have k : ¬ itemAt (cutIn s) i = [128] := by
          have : decide (itemAt (cutIn s) i = textOf []) = false := by simpa using k
          exact of_decide_eq_false this
        exact rdC_le (f := fun j => if i = j then itemAt (cutIn s) i else rdI (cutIn s) i j) fun j _ => rdI_step k j
      · have k : itemAt (cutIn s) i = [128] := by
          have : decide (itemAt (cutIn s) i = textOf []) = true := by simpa using k
          exact of_decide_eq_true this
        exact rdC_le fun j _ => rdI_skip k j
    · have h := of_decide_eq_false h
      have ei : i = 16 := by omega
      subst ei
      refine ⟨by omega, by omega, by omega, fun k => fit3 ?_ (fun _ => rfl), fun k => fitN ?_ ⟨⟨3, [], [], mk16 (rdRef (cutIn s))⟩, fun _ => rfl⟩⟩
      · rw [hk, k]; rfl
      · rw [hk, k]; rfl
  · have a : ¬ s = [128] := of_decide_eq_false a
    have c : cutL s = true := by simpa using c
    have d : decide (cutRest s = []) = true := by simpa using d
    have f := of_decide_eq_false f
    have f : ¬ itemsN (cutIn s) = 2 := by omega
    have g := of_decide_eq_false g
    have g : ¬ itemsN (cutIn s) = 17 := by omega
    rw [shapeK, if_neg a, b, c, d, listK, e, if_neg f, if_neg g]; rfl
  · have a : ¬ s = [128] := of_decide_eq_false a
    have c : cutL s = true := by simpa using c
    have d : decide (cutRest s = []) = true := by simpa using d
    rw [shapeK, if_neg a, b, c, d, listK, e]; rfl
  · have a : ¬ s = [128] := of_decide_eq_false a
    rw [shapeK, if_neg a, b]; rfl
def readSpec : List SV → Option (Prop × Ans)
  | [.str false s] => some (s.length < 1099511627776, readA s)
  | _ => none
theorem read_ok : CallOk Tryz.prog 162 (ansPT readSpec) := by
  refine ans_ok (n := 20) (fn := Tryz.f162) Tryz.func162 (by kernel_rfl) (by kernel_rfl) ?_
  intro args p a h hp
  unfold readSpec at h
  split at h
  · rename_i s
    injection h with h; injection h with h1 h2; subst h1; subst h2
    refine ⟨_, goodRd s, rfl, fun b => ?_, read_holds hp⟩
    cases b with
    | true => exact rfl
    | false =>
      intro b
      cases b with
      | true => exact rfl
      | false =>
        intro b
        cases b with
        | true => exact rfl
        | false =>
          intro b
          cases b with
          | true => exact rfl
          | false => exact fun x => rfl
  · cases h
end Go.Proofs.YtoalfimkkibpdaaGreatDoor
/-
  Node: which nodes may be: the set-up.
-/
namespace Go.Proofs.YtoalfimkkibpdaaGreatDoor
open Go Sx
set_option maxRecDepth 20000
noncomputable def listN5 : List (FuncId × PT) := (162, ansPT readSpec) :: listN4
theorem listN5_ok : SummOk Tryz.prog (fun f => lookPT f listN5) := .cons read_ok (ansPT_mono _) listN4_ok
def Rel (L : Nat) (t : List UInt8) : Prop := (t.length < L ∨ 32 ≤ t.length) ∧ t.length < 9223372036854775808
def inlA (t : List UInt8) : Ans := .fork (inlB t) fun b => match b with
  | true => .ret (.tup [(getD t).sv, .bool true true])
  | false => .ret (.tup [zeroN, .bool true false])
def inlSpec (L : Nat) : List SV → Option (Prop × Ans)
  | [.str false t] => some (Rel L t, inlA t)
  | _ => none
noncomputable def listN6 (L : Nat) : List (FuncId × PT) := (136, ansPT (inlSpec L)) :: listN5
noncomputable def cfgN6 (L : Nat) : Cfg := { cfg0 with summ := fun f => lookPT f (listN6 L) }
noncomputable def annBr (x : Nd) : LoopAnn :=
  { α := Nat, pre := fun _ i => i ≤ 16 ∧ mays inlB x.r i = true, mea := fun _ i => 16 - i, fresh := 0, slots := fun _ i => [(7, .int .i64 false i)],
    mem := fun _ i => [(2, .cells [.int .i64 false (min (x.v.length : Int) 1 + fullN x.r i)] 1 3)] }
noncomputable def cfgBr (L : Nat) (x : Nd) : Cfg := { cfg0 with summ := fun f => lookPT f (listN6 L), anns := fun f => if f = 192 then [(1, always (annBr x))] else [] }
def RelR (L : Nat) (r : Nat → List UInt8) : Prop := ∀ j, j < 16 → Rel L (r j)
noncomputable def listN7 (L : Nat) : List (FuncId × PT) := (184, purePT (ndSpec fun x => some (Rel L (x.r 0), .bool false (extW inlB x)))) :: (185, purePT (ndSpec fun x => some (RelR L x.r, .bool false (branchW inlB x)))) :: listN5
noncomputable def cfgN7 (L : Nat) : Cfg := { cfg0 with summ := fun f => lookPT f (listN7 L) }
noncomputable def listN8 (L : Nat) : List (FuncId × PT) := (160, purePT (ndSpec fun x => some (RelR L x.r, .bool false (validB x)))) :: (161, purePT (ndSpec fun x => some ((0 ≤ x.k ∧ x.k ≤ 3) ∧ x.Few, .str false (putT x)))) :: listN5
noncomputable def cfgN8 (L : Nat) : Cfg := { cfg0 with summ := fun f => lookPT f (listN8 L) }
def getA' (s : List UInt8) : Ans := .fork (getB' s) fun b => match b with
  | true => .ret (.tup [(getD s).sv, .int .i64 true 0])
  | false => .ret (.tup [zeroN, .int .i64 true 2])
def getSpec' (L : Nat) : List SV → Option (Prop × Ans)
  | [.str false s] => some (s.length ≤ L ∧ s.length < 1099511627776, getA' s)
  | _ => none
noncomputable def cfgN9 (L : Nat) : Cfg := { cfg0 with summ := fun f => lookPT f ((130, ansPT (getSpec' L)) :: listN5) }
noncomputable def cfgNo : Cfg := { cfg0 with summ := fun f => lookPT f ((130, fun _ _ _ _ => .fail "not to be called") :: listN5) }
theorem goodNo : Sx.Good Tryz.prog cfgNo := ⟨mixes, SummOk.cons (fun _ _ _ _ h => h.elim) (fun _ _ _ _ _ _ h => h) listN5_ok, fns_ok⟩
end Go.Proofs.YtoalfimkkibpdaaGreatDoor
/-
  Conditions that the executor computes, written out by a program (vcgen.py).
-/
namespace Go.Proofs.YtoalfimkkibpdaaGreatDoor
open Go Sx
set_option maxRecDepth 20000
theorem vcText0 (x : Nd) (R : SV → Prop) : VC.holds (runP cfgN4 161 Tryz.f161 [x.svL true 0] R) = ((True ∧ R (SV.str false [(128 : UInt8)]))) := by kernel_rfl
theorem vcText1 (x : Nd) (R : SV → Prop) : VC.holds (runP cfgN4 161 Tryz.f161 [x.svL true 1] R) = (({ k := (1 : Int), p := x.p, v := x.v, r := fun (u1 : Nat) => [x.r 0, x.r 1, x.r 2, x.r 3, x.r 4, x.r 5, x.r 6, x.r 7, x.r 8, x.r 9, x.r 10, x.r 11, x.r 12, x.r 13, x.r 14, x.r 15].getD u1 [] : Nd }.Few ∧ R (SV.str false (leafT { k := (1 : Int), p := x.p, v := x.v, r := fun (u0 : Nat) => [x.r 0, x.r 1, x.r 2, x.r 3, x.r 4, x.r 5, x.r 6, x.r 7, x.r 8, x.r 9, x.r 10, x.r 11, x.r 12, x.r 13, x.r 14, x.r 15].getD u0 [] : Nd })))) := by kernel_rfl
theorem vcText2 (x : Nd) (R : SV → Prop) : VC.holds (runP cfgN4 161 Tryz.f161 [x.svL true 2] R) = (({ k := (2 : Int), p := x.p, v := x.v, r := fun (u1 : Nat) => [x.r 0, x.r 1, x.r 2, x.r 3, x.r 4, x.r 5, x.r 6, x.r 7, x.r 8, x.r 9, x.r 10, x.r 11, x.r 12, x.r 13, x.r 14, x.r 15].getD u1 [] : Nd }.Few ∧ R (SV.str false (extT { k := (2 : Int), p := x.p, v := x.v, r := fun (u0 : Nat) => [x.r 0, x.r 1, x.r 2, x.r 3, x.r 4, x.r 5, x.r 6, x.r 7, x.r 8, x.r 9, x.r 10, x.r 11, x.r 12, x.r 13, x.r 14, x.r 15].getD u0 [] : Nd })))) := by kernel_rfl
theorem vcText3 (x : Nd) (R : SV → Prop) : VC.holds (runP cfgN4 161 Tryz.f161 [x.svL true 3] R) = (({ k := (3 : Int), p := x.p, v := x.v, r := fun (u1 : Nat) => [x.r 0, x.r 1, x.r 2, x.r 3, x.r 4, x.r 5, x.r 6, x.r 7, x.r 8, x.r 9, x.r 10, x.r 11, x.r 12, x.r 13, x.r 14, x.r 15].getD u1 [] : Nd }.Few ∧ R (SV.str false (branchT { k := (3 : Int), p := x.p, v := x.v, r := fun (u0 : Nat) => [x.r 0, x.r 1, x.r 2, x.r 3, x.r 4, x.r 5, x.r 6, x.r 7, x.r 8, x.r 9, x.r 10, x.r 11, x.r 12, x.r 13, x.r 14, x.r 15].getD u0 [] : Nd })))) := by kernel_rfl
theorem vcExt (L : Nat) (x : Nd) (R : SV → Prop) : VC.holds (runP (cfgN6 L) 184 Tryz.f184 [x.sv] R) = ((True ∧ ((!pathB { k := x.k, p := x.p, v := x.v, r := fun (u3 : Nat) => [x.r 0, x.r 1, x.r 2, x.r 3, x.r 4, x.r 5, x.r 6, x.r 7, x.r 8, x.r 9, x.r 10, x.r 11, x.r 12, x.r 13, x.r 14, x.r 15].getD u3 [] : Nd } (1 : Int)) = true → R (SV.bool true false)) ∧ ((!pathB { k := x.k, p := x.p, v := x.v, r := fun (u2 : Nat) => [x.r 0, x.r 1, x.r 2, x.r 3, x.r 4, x.r 5, x.r 6, x.r 7, x.r 8, x.r 9, x.r 10, x.r 11, x.r 12, x.r 13, x.r 14, x.r 15].getD u2 [] : Nd } (1 : Int)) = false → ((!decide (x.v = [])) = true → R (SV.bool true false)) ∧ ((!decide (x.v = [])) = false → True ∧ ((!decide (behindI (fun (u1 : Nat) => [x.r 0, x.r 1, x.r 2, x.r 3, x.r 4, x.r 5, x.r 6, x.r 7, x.r 8, x.r 9, x.r 10, x.r 11, x.r 12, x.r 13, x.r 14, x.r 15].getD u1 []) 16 = (1 : Int))) = true → R (SV.bool true false)) ∧ ((!decide (behindI (fun (u0 : Nat) => [x.r 0, x.r 1, x.r 2, x.r 3, x.r 4, x.r 5, x.r 6, x.r 7, x.r 8, x.r 9, x.r 10, x.r 11, x.r 12, x.r 13, x.r 14, x.r 15].getD u0 []) 16 = (1 : Int))) = false → (x.r 0).length < 9223372036854775808 ∧ (hashB (x.r 0) = true → R (SV.bool true true)) ∧ (hashB (x.r 0) = false → Rel L (x.r 0) ∧ (inlB (x.r 0) = true →
 R (SV.bool (false && true) (decide ((getD (x.r 0)).k = 3)))) ∧ (inlB (x.r 0) = false → R (SV.bool true false)))))))) := by kernel_rfl
theorem vcBranch (L : Nat) (x : Nd) (R : SV → Prop) : VC.holds (runP (cfgBr L x) 185 Tryz.f185 [x.sv] R) = ((fun R0 : Nat → SV => ((fun P0 : SB => ((fun P1 : SB => ((((!decide (x.p = [])) = true → R (SV.bool true false)) ∧ ((!decide (x.p = [])) = false → (decide (80 < (x.v.length : Int)) = true → R (SV.bool true false)) ∧ (decide (80 < (x.v.length : Int)) = false → ∀ (u5 : Loop), (∃ (u4 : Nat), (u4 ≤ 16 ∧ mays inlB x.r u4 = true) ∧ 0 = (u4 : Int) ∧ SBle (SB.cells [SV.int .i64 (false && true) (min (x.v.length : Int) 1)] 1 3) (SB.cells [SV.int .i64 false (min (x.v.length : Int) 1 + fullN x.r u4)] 1 3) ∧ SBle (SB.loop LoopState.ready none u5) (SB.loop LoopState.ready none u5) ∧ SBle P0 P0 ∧ SBle P1 P1 ∧ SBle (SB.cells x.sv.cells 19 259) (SB.cells x.sv.cells 19 259) ∧ True) ∧ ∀ (u3 : Nat), u3 ≤ 16 ∧ mays inlB x.r u3 = true → (decide ((u3 : Int) < 16) = true → (0 ≤ (u3 : Int) ∧ (u3 : Int) < 16 ∧ (u3 : Int) < (↑(16 : Nat) : Int)) ∧ ((!decide (selS [x.r 0, x.r 1, x.r 2, x.r 3, x.r 4, x.r 5, x.r 6, x.r 7, x.r 8, x.r 9, x.r 10, x.r 11, x.r 12, x.r 13, x.r 14, x.r 15] (u3 : Int).toNat = [])) = true → u5 = u5 ∧ (selS [x.r 0, x.r 1, x.r 2, x.r 3, x.r 4, x.r 5, x.r 6, x.r 7, x.r 8, x.r 9, x.r 10, x.r 11, x.r 12, x.r 13, x.r 14, x.r 15] (u3 : Int).toNat).length < 9223372036854775808 ∧
 (hashB (selS [x.r 0, x.r 1, x.r 2, x.r 3, x.r 4, x.r 5, x.r 6, x.r 7, x.r 8, x.r 9, x.r 10, x.r 11, x.r 12, x.r 13, x.r 14, x.r 15] (u3 : Int).toNat) = true → ((-9223372036854775808 : Int) ≤ min (x.v.length : Int) 1 + fullN x.r u3 + 1 ∧ min (x.v.length : Int) 1 + fullN x.r u3 + 1 ≤ (9223372036854775807 : Int)) ∧ ((-9223372036854775808 : Int) ≤ (u3 : Int) + 1 ∧ (u3 : Int) + 1 ≤ (9223372036854775807 : Int)) ∧ ∃ (u2 : Nat), ((u2 ≤ 16 ∧ mays inlB x.r u2 = true) ∧ 16 - u2 < 16 - u3) ∧ (u3 : Int) + 1 = (u2 : Int) ∧ SBle (SB.cells [SV.int .i64 false (min (x.v.length : Int) 1 + fullN x.r u3 + 1)] 1 3) (SB.cells [SV.int .i64 false (min (x.v.length : Int) 1 + fullN x.r u2)] 1 3) ∧ SBle (SB.loop LoopState.ready none u5) (SB.loop LoopState.ready none u5) ∧ SBle P0 P0 ∧ SBle P1 P1 ∧ SBle (SB.cells x.sv.cells 19 259) (SB.cells x.sv.cells 19 259) ∧ True) ∧ (hashB (selS [x.r 0, x.r 1, x.r 2, x.r 3, x.r 4, x.r 5, x.r 6, x.r 7, x.r 8, x.r 9, x.r 10, x.r 11, x.r 12, x.r 13, x.r 14, x.r 15] (u3 : Int).toNat) = false → Rel L (selS [x.r 0, x.r 1, x.r 2, x.r 3, x.r 4, x.r 5, x.r 6, x.r 7, x.r 8, x.r 9, x.r 10, x.r 11, x.r 12, x.r 13, x.r 14, x.r 15] (u3 : Int).toNat) ∧
 (inlB (selS [x.r 0, x.r 1, x.r 2, x.r 3, x.r 4, x.r 5, x.r 6, x.r 7, x.r 8, x.r 9, x.r 10, x.r 11, x.r 12, x.r 13, x.r 14, x.r 15] (u3 : Int).toNat) = true → ((-9223372036854775808 : Int) ≤ min (x.v.length : Int) 1 + fullN x.r u3 + 1 ∧ min (x.v.length : Int) 1 + fullN x.r u3 + 1 ≤ (9223372036854775807 : Int)) ∧ ((-9223372036854775808 : Int) ≤ (u3 : Int) + 1 ∧ (u3 : Int) + 1 ≤ (9223372036854775807 : Int)) ∧ ∃ (u1 : Nat), ((u1 ≤ 16 ∧ mays inlB x.r u1 = true) ∧ 16 - u1 < 16 - u3) ∧ (u3 : Int) + 1 = (u1 : Int) ∧ SBle (SB.cells [SV.int .i64 false (min (x.v.length : Int) 1 + fullN x.r u3 + 1)] 1 3) (SB.cells [SV.int .i64 false (min (x.v.length : Int) 1 + fullN x.r u1)] 1 3) ∧ SBle (SB.loop LoopState.ready none u5) (SB.loop LoopState.ready none u5) ∧ SBle P0 P0 ∧ SBle P1 P1 ∧ SBle (SB.cells x.sv.cells 19 259) (SB.cells x.sv.cells 19 259) ∧ True) ∧ (inlB (selS [x.r 0, x.r 1, x.r 2, x.r 3, x.r 4, x.r 5, x.r 6, x.r 7, x.r 8, x.r 9, x.r 10, x.r 11, x.r 12, x.r 13, x.r 14, x.r 15] (u3 : Int).toNat) = false → R (SV.bool true false)))) ∧
 ((!decide (selS [x.r 0, x.r 1, x.r 2, x.r 3, x.r 4, x.r 5, x.r 6, x.r 7, x.r 8, x.r 9, x.r 10, x.r 11, x.r 12, x.r 13, x.r 14, x.r 15] (u3 : Int).toNat = [])) = false → ((-9223372036854775808 : Int) ≤ (u3 : Int) + 1 ∧ (u3 : Int) + 1 ≤ (9223372036854775807 : Int)) ∧ ∃ (u0 : Nat), ((u0 ≤ 16 ∧ mays inlB x.r u0 = true) ∧ 16 - u0 < 16 - u3) ∧ (u3 : Int) + 1 = (u0 : Int) ∧ SBle (SB.cells [SV.int .i64 false (min (x.v.length : Int) 1 + fullN x.r u3)] 1 3) (SB.cells [SV.int .i64 false (min (x.v.length : Int) 1 + fullN x.r u0)] 1 3) ∧ SBle (SB.loop LoopState.ready none u5) (SB.loop LoopState.ready none u5) ∧ SBle P0 P0 ∧ SBle P1 P1 ∧ SBle (SB.cells x.sv.cells 19 259) (SB.cells x.sv.cells 19 259) ∧ True)) ∧ (decide ((u3 : Int) < 16) = false → R (SV.bool (false && true) (decide (2 ≤ min (x.v.length : Int) 1 + fullN x.r u3))))))))) (SB.cells (SV.bool true false).cells 1 4))) (SB.cells (SV.agg [SV.int .i64 false x.k, SV.str false x.p, SV.str false x.v, R0 0, R0 1, R0 2, R0 3, R0 4, R0 5, R0 6, R0 7, R0 8, R0 9, R0 10, R0 11, R0 12, R0 13, R0 14, R0 15]).cells 19 259))) (fun (n0 : Nat)  => SV.str false (x.r n0))) := by kernel_rfl
theorem vcValid0 (L : Nat) (x : Nd) (R : SV → Prop) : VC.holds (runP (cfgN7 L) 160 Tryz.f160 [x.svL true 0] R) = ((True ∧ R (SV.bool false (noneB { k := (0 : Int), p := x.p, v := x.v, r := fun (u0 : Nat) => [x.r 0, x.r 1, x.r 2, x.r 3, x.r 4, x.r 5, x.r 6, x.r 7, x.r 8, x.r 9, x.r 10, x.r 11, x.r 12, x.r 13, x.r 14, x.r 15].getD u0 [] : Nd })))) := by kernel_rfl
theorem vcValid1 (L : Nat) (x : Nd) (R : SV → Prop) : VC.holds (runP (cfgN7 L) 160 Tryz.f160 [x.svL true 1] R) = ((True ∧ R (SV.bool false (leafB { k := (1 : Int), p := x.p, v := x.v, r := fun (u0 : Nat) => [x.r 0, x.r 1, x.r 2, x.r 3, x.r 4, x.r 5, x.r 6, x.r 7, x.r 8, x.r 9, x.r 10, x.r 11, x.r 12, x.r 13, x.r 14, x.r 15].getD u0 [] : Nd })))) := by kernel_rfl
theorem vcValid2 (L : Nat) (x : Nd) (R : SV → Prop) : VC.holds (runP (cfgN7 L) 160 Tryz.f160 [x.svL true 2] R) = ((Rel L ([x.r 0, x.r 1, x.r 2, x.r 3, x.r 4, x.r 5, x.r 6, x.r 7, x.r 8, x.r 9, x.r 10, x.r 11, x.r 12, x.r 13, x.r 14, x.r 15].getD 0 []) ∧ R (SV.bool false (extW inlB { k := (2 : Int), p := x.p, v := x.v, r := fun (u0 : Nat) => [x.r 0, x.r 1, x.r 2, x.r 3, x.r 4, x.r 5, x.r 6, x.r 7, x.r 8, x.r 9, x.r 10, x.r 11, x.r 12, x.r 13, x.r 14, x.r 15].getD u0 [] : Nd })))) := by kernel_rfl
theorem vcValid3 (L : Nat) (x : Nd) (R : SV → Prop) : VC.holds (runP (cfgN7 L) 160 Tryz.f160 [x.svL true 3] R) = (((RelR L fun (u1 : Nat) => [x.r 0, x.r 1, x.r 2, x.r 3, x.r 4, x.r 5, x.r 6, x.r 7, x.r 8, x.r 9, x.r 10, x.r 11, x.r 12, x.r 13, x.r 14, x.r 15].getD u1 []) ∧ R (SV.bool false (branchW inlB { k := (3 : Int), p := x.p, v := x.v, r := fun (u0 : Nat) => [x.r 0, x.r 1, x.r 2, x.r 3, x.r 4, x.r 5, x.r 6, x.r 7, x.r 8, x.r 9, x.r 10, x.r 11, x.r 12, x.r 13, x.r 14, x.r 15].getD u0 [] : Nd })))) := by kernel_rfl
theorem vcValidS (L : Nat) (x : Nd) (R : SV → Prop) : VC.holds (runP (cfgN7 L) 160 Tryz.f160 [x.sv] R) = (((decide (x.k < 0) = true → R (SV.bool true false)) ∧ (decide (x.k < 0) = false → (decide (3 < x.k) = true → R (SV.bool true false)) ∧ (decide (3 < x.k) = false → (0 ≤ x.k ∧ x.k < 4) ∧ False)))) := by kernel_rfl
theorem vcNodeGet (L : Nat) (s : List UInt8) : VC.holds (runA (cfgN8 L) 130 Tryz.f130 [.str false s] (getA' s)) = ((fun R0 : Nat → SV => ((fun R1 : Nat → SV => ((fun R2 : Nat → SV => ((fun P0 : SV => ((fun P1 : SV => ((fun P2 : SV => ((fun P3 : SV => ((fun P4 : List UInt8 => ((s.length < 1099511627776 ∧ (decide (shapeK s = 0) = true → (RelR L fun (u24 : Nat) => [[], [], [], [], [], [], [], [], [], [], [], [], [], [], [], []].getD u24 []) ∧ ((!validB { k := (0 : Int), p := [], v := [], r := fun (u23 : Nat) => [[], [], [], [], [], [], [], [], [], [], [], [], [], [], [], []].getD u23 [] : Nd }) = true → (getB' s = true → sameVal P0 P1) ∧ (getB' s = false → sameVal P0 P2)) ∧ ((!validB { k := (0 : Int), p := [], v := [], r := fun (u22 : Nat) => [[], [], [], [], [], [], [], [], [], [], [], [], [], [], [], []].getD u22 [] : Nd }) = false → (((0 : Int) ≤ (0 : Int) ∧ (0 : Int) ≤ (3 : Int)) ∧ { k := (0 : Int), p := [], v := [], r := fun (u21 : Nat) => [[], [], [], [], [], [], [], [], [], [], [], [], [], [], [], []].getD u21 [] : Nd }.Few) ∧ ((!decide (putT { k := (0 : Int), p := [], v := [], r := fun (u20 : Nat) => [[], [], [], [], [], [], [], [], [], [], [], [], [], [], [], []].getD u20 [] : Nd } = s)) = true → (getB' s = true → sameVal P0 P1) ∧ (getB' s = false → sameVal P0 P2)) ∧ ((!decide (putT { k := (0 : Int), p := [], v := [], r := fun (u19 : Nat) => [[], [], [], [], [], [], [], [], [], [], [], [], [], [], [], []].getD u19 [] : Nd } = s)) = false →
 (getB' s = true → sameVal P3 P1) ∧ (getB' s = false → sameVal P3 P2)))) ∧ (decide (shapeK s = 0) = false → (decide (shapeK s = 1) = true → (RelR L fun (u18 : Nat) => [noRefs 0, noRefs 1, noRefs 2, noRefs 3, noRefs 4, noRefs 5, noRefs 6, noRefs 7, noRefs 8, noRefs 9, noRefs 10, noRefs 11, noRefs 12, noRefs 13, noRefs 14, noRefs 15].getD u18 []) ∧ ((!validB { k := (1 : Int), p := ngetP P4, v := cutIn (itemAt (cutIn s) 1), r := fun (u17 : Nat) => [noRefs 0, noRefs 1, noRefs 2, noRefs 3, noRefs 4, noRefs 5, noRefs 6, noRefs 7, noRefs 8, noRefs 9, noRefs 10, noRefs 11, noRefs 12, noRefs 13, noRefs 14, noRefs 15].getD u17 [] : Nd }) = true → (getB' s = true → sameVal P0 P1) ∧ (getB' s = false → sameVal P0 P2)) ∧ ((!validB { k := (1 : Int), p := ngetP P4, v := cutIn (itemAt (cutIn s) 1), r := fun (u16 : Nat) => [noRefs 0, noRefs 1, noRefs 2, noRefs 3, noRefs 4, noRefs 5, noRefs 6, noRefs 7, noRefs 8, noRefs 9, noRefs 10, noRefs 11, noRefs 12, noRefs 13, noRefs 14, noRefs 15].getD u16 [] : Nd }) = false → (((0 : Int) ≤ (1 : Int) ∧ (1 : Int) ≤ (3 : Int)) ∧
 { k := (1 : Int), p := ngetP P4, v := cutIn (itemAt (cutIn s) 1), r := fun (u15 : Nat) => [noRefs 0, noRefs 1, noRefs 2, noRefs 3, noRefs 4, noRefs 5, noRefs 6, noRefs 7, noRefs 8, noRefs 9, noRefs 10, noRefs 11, noRefs 12, noRefs 13, noRefs 14, noRefs 15].getD u15 [] : Nd }.Few) ∧ ((!decide (putT { k := (1 : Int), p := ngetP P4, v := cutIn (itemAt (cutIn s) 1), r := fun (u14 : Nat) => [noRefs 0, noRefs 1, noRefs 2, noRefs 3, noRefs 4, noRefs 5, noRefs 6, noRefs 7, noRefs 8, noRefs 9, noRefs 10, noRefs 11, noRefs 12, noRefs 13, noRefs 14, noRefs 15].getD u14 [] : Nd } = s)) = true → (getB' s = true → sameVal P0 P1) ∧ (getB' s = false → sameVal P0 P2)) ∧ ((!decide (putT { k := (1 : Int), p := ngetP P4, v := cutIn (itemAt (cutIn s) 1), r := fun (u13 : Nat) => [noRefs 0, noRefs 1, noRefs 2, noRefs 3, noRefs 4, noRefs 5, noRefs 6, noRefs 7, noRefs 8, noRefs 9, noRefs 10, noRefs 11, noRefs 12, noRefs 13, noRefs 14, noRefs 15].getD u13 [] : Nd } = s)) = false → (getB' s = true →
 sameVal (SV.tup [SV.agg [SV.int .i64 true 1, SV.str false (ngetP P4), SV.str false (cutIn (itemAt (cutIn s) 1)), R0 0, R0 1, R0 2, R0 3, R0 4, R0 5, R0 6, R0 7, R0 8, R0 9, R0 10, R0 11, R0 12, R0 13, R0 14, R0 15], SV.int .i64 true 0]) P1) ∧ (getB' s = false → sameVal (SV.tup [SV.agg [SV.int .i64 true 1, SV.str false (ngetP P4), SV.str false (cutIn (itemAt (cutIn s) 1)), R0 0, R0 1, R0 2, R0 3, R0 4, R0 5, R0 6, R0 7, R0 8, R0 9, R0 10, R0 11, R0 12, R0 13, R0 14, R0 15], SV.int .i64 true 0]) P2)))) ∧ (decide (shapeK s = 1) = false → (decide (shapeK s = 2) = true → (RelR L fun (u12 : Nat) => [oneRef (itemAt (cutIn s) 1) 0, oneRef (itemAt (cutIn s) 1) 1, oneRef (itemAt (cutIn s) 1) 2, oneRef (itemAt (cutIn s) 1) 3, oneRef (itemAt (cutIn s) 1) 4, oneRef (itemAt (cutIn s) 1) 5, oneRef (itemAt (cutIn s) 1) 6, oneRef (itemAt (cutIn s) 1) 7, oneRef (itemAt (cutIn s) 1) 8, oneRef (itemAt (cutIn s) 1) 9, oneRef (itemAt (cutIn s) 1) 10, oneRef (itemAt (cutIn s) 1) 11, oneRef (itemAt (cutIn s) 1) 12, oneRef (itemAt (cutIn s) 1) 13, oneRef (itemAt (cutIn s) 1) 14, oneRef (itemAt (cutIn s) 1) 15].getD u12 []) ∧
 ((!validB { k := (2 : Int), p := ngetP P4, v := [], r := fun (u11 : Nat) => [oneRef (itemAt (cutIn s) 1) 0, oneRef (itemAt (cutIn s) 1) 1, oneRef (itemAt (cutIn s) 1) 2, oneRef (itemAt (cutIn s) 1) 3, oneRef (itemAt (cutIn s) 1) 4, oneRef (itemAt (cutIn s) 1) 5, oneRef (itemAt (cutIn s) 1) 6, oneRef (itemAt (cutIn s) 1) 7, oneRef (itemAt (cutIn s) 1) 8, oneRef (itemAt (cutIn s) 1) 9, oneRef (itemAt (cutIn s) 1) 10, oneRef (itemAt (cutIn s) 1) 11, oneRef (itemAt (cutIn s) 1) 12, oneRef (itemAt (cutIn s) 1) 13, oneRef (itemAt (cutIn s) 1) 14, oneRef (itemAt (cutIn s) 1) 15].getD u11 [] : Nd }) = true → (getB' s = true → sameVal P0 P1) ∧ (getB' s = false → sameVal P0 P2)) ∧
 ((!validB { k := (2 : Int), p := ngetP P4, v := [], r := fun (u10 : Nat) => [oneRef (itemAt (cutIn s) 1) 0, oneRef (itemAt (cutIn s) 1) 1, oneRef (itemAt (cutIn s) 1) 2, oneRef (itemAt (cutIn s) 1) 3, oneRef (itemAt (cutIn s) 1) 4, oneRef (itemAt (cutIn s) 1) 5, oneRef (itemAt (cutIn s) 1) 6, oneRef (itemAt (cutIn s) 1) 7, oneRef (itemAt (cutIn s) 1) 8, oneRef (itemAt (cutIn s) 1) 9, oneRef (itemAt (cutIn s) 1) 10, oneRef (itemAt (cutIn s) 1) 11, oneRef (itemAt (cutIn s) 1) 12, oneRef (itemAt (cutIn s) 1) 13, oneRef (itemAt (cutIn s) 1) 14, oneRef (itemAt (cutIn s) 1) 15].getD u10 [] : Nd }) = false → (((0 : Int) ≤ (2 : Int) ∧ (2 : Int) ≤ (3 : Int)) ∧
 { k := (2 : Int), p := ngetP P4, v := [], r := fun (u9 : Nat) => [oneRef (itemAt (cutIn s) 1) 0, oneRef (itemAt (cutIn s) 1) 1, oneRef (itemAt (cutIn s) 1) 2, oneRef (itemAt (cutIn s) 1) 3, oneRef (itemAt (cutIn s) 1) 4, oneRef (itemAt (cutIn s) 1) 5, oneRef (itemAt (cutIn s) 1) 6, oneRef (itemAt (cutIn s) 1) 7, oneRef (itemAt (cutIn s) 1) 8, oneRef (itemAt (cutIn s) 1) 9, oneRef (itemAt (cutIn s) 1) 10, oneRef (itemAt (cutIn s) 1) 11, oneRef (itemAt (cutIn s) 1) 12, oneRef (itemAt (cutIn s) 1) 13, oneRef (itemAt (cutIn s) 1) 14, oneRef (itemAt (cutIn s) 1) 15].getD u9 [] : Nd }.Few) ∧
 ((!decide (putT { k := (2 : Int), p := ngetP P4, v := [], r := fun (u8 : Nat) => [oneRef (itemAt (cutIn s) 1) 0, oneRef (itemAt (cutIn s) 1) 1, oneRef (itemAt (cutIn s) 1) 2, oneRef (itemAt (cutIn s) 1) 3, oneRef (itemAt (cutIn s) 1) 4, oneRef (itemAt (cutIn s) 1) 5, oneRef (itemAt (cutIn s) 1) 6, oneRef (itemAt (cutIn s) 1) 7, oneRef (itemAt (cutIn s) 1) 8, oneRef (itemAt (cutIn s) 1) 9, oneRef (itemAt (cutIn s) 1) 10, oneRef (itemAt (cutIn s) 1) 11, oneRef (itemAt (cutIn s) 1) 12, oneRef (itemAt (cutIn s) 1) 13, oneRef (itemAt (cutIn s) 1) 14, oneRef (itemAt (cutIn s) 1) 15].getD u8 [] : Nd } = s)) = true → (getB' s = true → sameVal P0 P1) ∧ (getB' s = false → sameVal P0 P2)) ∧
 ((!decide (putT { k := (2 : Int), p := ngetP P4, v := [], r := fun (u7 : Nat) => [oneRef (itemAt (cutIn s) 1) 0, oneRef (itemAt (cutIn s) 1) 1, oneRef (itemAt (cutIn s) 1) 2, oneRef (itemAt (cutIn s) 1) 3, oneRef (itemAt (cutIn s) 1) 4, oneRef (itemAt (cutIn s) 1) 5, oneRef (itemAt (cutIn s) 1) 6, oneRef (itemAt (cutIn s) 1) 7, oneRef (itemAt (cutIn s) 1) 8, oneRef (itemAt (cutIn s) 1) 9, oneRef (itemAt (cutIn s) 1) 10, oneRef (itemAt (cutIn s) 1) 11, oneRef (itemAt (cutIn s) 1) 12, oneRef (itemAt (cutIn s) 1) 13, oneRef (itemAt (cutIn s) 1) 14, oneRef (itemAt (cutIn s) 1) 15].getD u7 [] : Nd } = s)) = false → (getB' s = true → sameVal (SV.tup [SV.agg [SV.int .i64 true 2, SV.str false (ngetP P4), SV.str false [], R1 0, R1 1, R1 2, R1 3, R1 4, R1 5, R1 6, R1 7, R1 8, R1 9, R1 10, R1 11, R1 12, R1 13, R1 14, R1 15], SV.int .i64 true 0]) P1) ∧ (getB' s = false → sameVal (SV.tup [SV.agg [SV.int .i64 true 2, SV.str false (ngetP P4), SV.str false [], R1 0, R1 1, R1 2, R1 3, R1 4, R1 5, R1 6, R1 7, R1 8, R1 9, R1 10, R1 11, R1 12, R1 13, R1 14, R1 15], SV.int .i64 true 0]) P2)))) ∧ (decide (shapeK s = 2) = false → (decide (shapeK s = 3) = true →
 (RelR L fun (u6 : Nat) => [mk16 (rdRef (cutIn s)) 0, mk16 (rdRef (cutIn s)) 1, mk16 (rdRef (cutIn s)) 2, mk16 (rdRef (cutIn s)) 3, mk16 (rdRef (cutIn s)) 4, mk16 (rdRef (cutIn s)) 5, mk16 (rdRef (cutIn s)) 6, mk16 (rdRef (cutIn s)) 7, mk16 (rdRef (cutIn s)) 8, mk16 (rdRef (cutIn s)) 9, mk16 (rdRef (cutIn s)) 10, mk16 (rdRef (cutIn s)) 11, mk16 (rdRef (cutIn s)) 12, mk16 (rdRef (cutIn s)) 13, mk16 (rdRef (cutIn s)) 14, mk16 (rdRef (cutIn s)) 15].getD u6 []) ∧ ((!validB { k := (3 : Int), p := [], v := cutIn (itemAt (cutIn s) 16), r := fun (u5 : Nat) => [mk16 (rdRef (cutIn s)) 0, mk16 (rdRef (cutIn s)) 1, mk16 (rdRef (cutIn s)) 2, mk16 (rdRef (cutIn s)) 3, mk16 (rdRef (cutIn s)) 4, mk16 (rdRef (cutIn s)) 5, mk16 (rdRef (cutIn s)) 6, mk16 (rdRef (cutIn s)) 7, mk16 (rdRef (cutIn s)) 8, mk16 (rdRef (cutIn s)) 9, mk16 (rdRef (cutIn s)) 10, mk16 (rdRef (cutIn s)) 11, mk16 (rdRef (cutIn s)) 12, mk16 (rdRef (cutIn s)) 13, mk16 (rdRef (cutIn s)) 14, mk16 (rdRef (cutIn s)) 15].getD u5 [] : Nd }) = true → (getB' s = true → sameVal P0 P1) ∧ (getB' s = false → sameVal P0 P2)) ∧
 ((!validB { k := (3 : Int), p := [], v := cutIn (itemAt (cutIn s) 16), r := fun (u4 : Nat) => [mk16 (rdRef (cutIn s)) 0, mk16 (rdRef (cutIn s)) 1, mk16 (rdRef (cutIn s)) 2, mk16 (rdRef (cutIn s)) 3, mk16 (rdRef (cutIn s)) 4, mk16 (rdRef (cutIn s)) 5, mk16 (rdRef (cutIn s)) 6, mk16 (rdRef (cutIn s)) 7, mk16 (rdRef (cutIn s)) 8, mk16 (rdRef (cutIn s)) 9, mk16 (rdRef (cutIn s)) 10, mk16 (rdRef (cutIn s)) 11, mk16 (rdRef (cutIn s)) 12, mk16 (rdRef (cutIn s)) 13, mk16 (rdRef (cutIn s)) 14, mk16 (rdRef (cutIn s)) 15].getD u4 [] : Nd }) = false → (((0 : Int) ≤ (3 : Int) ∧ (3 : Int) ≤ (3 : Int)) ∧ { k := (3 : Int), p := [], v := cutIn (itemAt (cutIn s) 16), r := fun (u3 : Nat) => [mk16 (rdRef (cutIn s)) 0, mk16 (rdRef (cutIn s)) 1, mk16 (rdRef (cutIn s)) 2, mk16 (rdRef (cutIn s)) 3, mk16 (rdRef (cutIn s)) 4, mk16 (rdRef (cutIn s)) 5, mk16 (rdRef (cutIn s)) 6, mk16 (rdRef (cutIn s)) 7, mk16 (rdRef (cutIn s)) 8, mk16 (rdRef (cutIn s)) 9, mk16 (rdRef (cutIn s)) 10, mk16 (rdRef (cutIn s)) 11, mk16 (rdRef (cutIn s)) 12, mk16 (rdRef (cutIn s)) 13, mk16 (rdRef (cutIn s)) 14, mk16 (rdRef (cutIn s)) 15].getD u3 [] : Nd }.Few) ∧
 ((!decide (putT { k := (3 : Int), p := [], v := cutIn (itemAt (cutIn s) 16), r := fun (u2 : Nat) => [mk16 (rdRef (cutIn s)) 0, mk16 (rdRef (cutIn s)) 1, mk16 (rdRef (cutIn s)) 2, mk16 (rdRef (cutIn s)) 3, mk16 (rdRef (cutIn s)) 4, mk16 (rdRef (cutIn s)) 5, mk16 (rdRef (cutIn s)) 6, mk16 (rdRef (cutIn s)) 7, mk16 (rdRef (cutIn s)) 8, mk16 (rdRef (cutIn s)) 9, mk16 (rdRef (cutIn s)) 10, mk16 (rdRef (cutIn s)) 11, mk16 (rdRef (cutIn s)) 12, mk16 (rdRef (cutIn s)) 13, mk16 (rdRef (cutIn s)) 14, mk16 (rdRef (cutIn s)) 15].getD u2 [] : Nd } = s)) = true → (getB' s = true → sameVal P0 P1) ∧ (getB' s = false → sameVal P0 P2)) ∧ ((!decide (putT { k := (3 : Int), p := [], v := cutIn (itemAt (cutIn s) 16), r := fun (u1 : Nat) => [mk16 (rdRef (cutIn s)) 0, mk16 (rdRef (cutIn s)) 1, mk16 (rdRef (cutIn s)) 2, mk16 (rdRef (cutIn s)) 3, mk16 (rdRef (cutIn s)) 4, mk16 (rdRef (cutIn s)) 5, mk16 (rdRef (cutIn s)) 6, mk16 (rdRef (cutIn s)) 7, mk16 (rdRef (cutIn s)) 8, mk16 (rdRef (cutIn s)) 9, mk16 (rdRef (cutIn s)) 10, mk16 (rdRef (cutIn s)) 11, mk16 (rdRef (cutIn s)) 12, mk16 (rdRef (cutIn s)) 13, mk16 (rdRef (cutIn s)) 14, mk16 (rdRef (cutIn s)) 15].getD u1 [] : Nd } = s)) = false →
 (getB' s = true → sameVal (SV.tup [SV.agg [SV.int .i64 true 3, SV.str false [], SV.str false (cutIn (itemAt (cutIn s) 16)), R2 0, R2 1, R2 2, R2 3, R2 4, R2 5, R2 6, R2 7, R2 8, R2 9, R2 10, R2 11, R2 12, R2 13, R2 14, R2 15], SV.int .i64 true 0]) P1) ∧ (getB' s = false → sameVal (SV.tup [SV.agg [SV.int .i64 true 3, SV.str false [], SV.str false (cutIn (itemAt (cutIn s) 16)), R2 0, R2 1, R2 2, R2 3, R2 4, R2 5, R2 6, R2 7, R2 8, R2 9, R2 10, R2 11, R2 12, R2 13, R2 14, R2 15], SV.int .i64 true 0]) P2)))) ∧ (decide (shapeK s = 3) = false → ∀ (_u0 : Nd), (getB' s = true → sameVal P0 P1) ∧ (getB' s = false → sameVal P0 P2)))))))) (cutIn (itemAt (cutIn s) 0)))) (SV.tup [SV.agg [SV.int .i64 true 0, SV.str true [], SV.str true [], SV.str true [], SV.str true [], SV.str true [], SV.str true [], SV.str true [], SV.str true [], SV.str true [], SV.str true [], SV.str true [], SV.str true [], SV.str true [], SV.str true [], SV.str true [], SV.str true [], SV.str true [], SV.str true []], SV.int .i64 true 0]))) (SV.tup [zeroN, SV.int .i64 true 2]))) (SV.tup [(getD s).sv, SV.int .i64 true 0]))) (SV.tup [SV.agg [SV.int .i64 true 0, SV.str true [], SV.str true [], SV.str true [], SV.str true [], SV.str true [], SV.str true [], SV.str true [], SV.str true [], SV.str true [], SV.str true [], SV.str true [], SV.str true [], SV.str true [], SV.str true [], SV.str true [], SV.str true [], SV.str true [], SV.str true []], SV.int .i64 true 2]))) (fun (n0 : Nat)  => SV.str false (mk16 (rdRef (cutIn s)) n0)))) (fun (n0 : Nat)  => SV.str false (oneRef (itemAt (cutIn s) 1) n0)))) (fun (n0 : Nat)  => SV.str false (noRefs n0))) := by kernel_rfl
theorem vcInline (L : Nat) (t : List UInt8) : VC.holds (runA (cfgN9 L) 136 Tryz.f136 [.str false t] (inlA t)) = ((fun R0 : Nat → SV => ((fun P0 : SV => (((decide (32 ≤ (t.length : Int)) = true → (inlB t = true → sameVal P0 (SV.tup [(getD t).sv, SV.bool true true])) ∧ (inlB t = false → sameVal P0 (SV.tup [zeroN, SV.bool true false]))) ∧ (decide (32 ≤ (t.length : Int)) = false → (t.length ≤ L ∧ t.length < 1099511627776) ∧ (getB' t = true → (decide ((getD t).k = 0) = true → (inlB t = true → sameVal P0 (SV.tup [(getD t).sv, SV.bool true true])) ∧ (inlB t = false → sameVal P0 (SV.tup [zeroN, SV.bool true false]))) ∧ (decide ((getD t).k = 0) = false → (inlB t = true → sameVal (SV.tup [SV.agg [SV.int .i64 false (getD t).k, SV.str false (getD t).p, SV.str false (getD t).v, R0 0, R0 1, R0 2, R0 3, R0 4, R0 5, R0 6, R0 7, R0 8, R0 9, R0 10, R0 11, R0 12, R0 13, R0 14, R0 15], SV.bool true true]) (SV.tup [(getD t).sv, SV.bool true true])) ∧ (inlB t = false → sameVal (SV.tup [SV.agg [SV.int .i64 false (getD t).k, SV.str false (getD t).p, SV.str false (getD t).v, R0 0, R0 1, R0 2, R0 3, R0 4, R0 5, R0 6, R0 7, R0 8, R0 9, R0 10, R0 11, R0 12, R0 13, R0 14, R0 15], SV.bool true true]) (SV.tup [zeroN, SV.bool true false])))) ∧ (getB' t = false → (inlB t = true → sameVal P0 (SV.tup [(getD t).sv, SV.bool true true])) ∧ (inlB t = false →
 sameVal P0 (SV.tup [zeroN, SV.bool true false]))))))) (SV.tup [SV.agg [SV.int .i64 true 0, SV.str true [], SV.str true [], SV.str true [], SV.str true [], SV.str true [], SV.str true [], SV.str true [], SV.str true [], SV.str true [], SV.str true [], SV.str true [], SV.str true [], SV.str true [], SV.str true [], SV.str true [], SV.str true [], SV.str true [], SV.str true []], SV.bool true false]))) (fun (n0 : Nat)  => SV.str false ((getD t).r n0))) := by kernel_rfl
theorem vcInline0 (t : List UInt8) : VC.holds (runA cfgNo 136 Tryz.f136 [.str false t] (inlA t)) = ((fun P0 : SV => (((decide (32 ≤ (t.length : Int)) = true → (inlB t = true → sameVal P0 (SV.tup [(getD t).sv, SV.bool true true])) ∧ (inlB t = false → sameVal P0 (SV.tup [zeroN, SV.bool true false]))) ∧ (decide (32 ≤ (t.length : Int)) = false → False)))) (SV.tup [SV.agg [SV.int .i64 true 0, SV.str true [], SV.str true [], SV.str true [], SV.str true [], SV.str true [], SV.str true [], SV.str true [], SV.str true [], SV.str true [], SV.str true [], SV.str true [], SV.str true [], SV.str true [], SV.str true [], SV.str true [], SV.str true [], SV.str true [], SV.str true []], SV.bool true false])) := by kernel_rfl
end Go.Proofs.YtoalfimkkibpdaaGreatDoor
/-
  Node: which nodes may be: plain laws: a ref is shorter than what it is in; no text is long.
-/
namespace Go.Proofs.YtoalfimkkibpdaaGreatDoor
open Go Sx
set_option maxRecDepth 20000
theorem headOf_pos (b : Int) (n : Nat) : 1 ≤ (headOf b n).length := by
  unfold headOf
  split <;> simp
theorem list_lt {s : List UInt8} (h : cutB s = true) (hl : cutL s = true) : (cutIn s).length < s.length := by
  have := congrArg List.length (cut_only h)
  rw [hl] at this
  unfold againOf at this
  have hp := headOf_pos 192 (cutIn s).length
  simp only [cond_true, List.length_append] at this
  omega
theorem hash_len {t : List UInt8} (h : hashB t = true) : t.length = 33 := by
  obtain ⟨⟨h1, h2, h3⟩, h4⟩ := hash_iff.1 h
  have := congrArg List.length (cut_only h1)
  rw [h2, h3] at this
  unfold againOf textOf headOf at this
  simp only [cond_false, List.append_nil, h4] at this
  simp only [show ¬ ((32 : Nat) = 1 ∧ byteAt (cutIn t) 0 < 128) from by omega, if_false, List.length_append, h4] at this
  simpa using this.symm
theorem inlF_len {n : Nat} {t : List UInt8} (h : inlF n t = true) : t.length < 32 := by
  cases n with
  | zero => simp [inlF] at h
  | succ n =>
    simp only [inlF, Bool.and_eq_true, decide_eq_true_eq] at h
    exact h.1
theorem inl_len {t : List UInt8} (h : inlB t = true) : t.length < 32 := inlF_len h
theorem behindI_over {r : Nat → List UInt8} : ∀ {n j : Nat}, behindI r n ≤ (j : Int) → j < n → r j = []
  | 0, _, _, h => absurd h (Nat.not_lt_zero _)
  | n + 1, j, h, hj => by
    unfold behindI at h
    by_cases e : r n = []
    · rw [if_pos e] at h
      by_cases ej : j = n
      · subst ej; exact e
      · exact behindI_over h (by omega)
    · rw [if_neg e] at h; omega
theorem mays_get {inl : List UInt8 → Bool} {r : Nat → List UInt8} : ∀ {n j : Nat}, mays inl r n = true → j < n → r j = [] ∨ mayW inl (r j) = true
  | 0, _, _, h => absurd h (Nat.not_lt_zero _)
  | n + 1, j, h, hj => by
    simp only [mays, Bool.and_eq_true, Bool.or_eq_true, decide_eq_true_eq] at h
    by_cases ej : j = n
    · subst ej; exact h.2
    · exact mays_get h.1 (by omega)
theorem mays_not {inl : List UInt8 → Bool} {r : Nat → List UInt8} : ∀ {n j : Nat}, j < n → r j ≠ [] → mayW inl (r j) = false → mays inl r n = false
  | 0, _, h, _, _ => absurd h (Nat.not_lt_zero _)
  | n + 1, j, hj, h0, h1 => by
    simp only [mays]
    by_cases ej : j = n
    · subst ej
      rw [h1, show decide (r j = []) = false from decide_eq_false h0]; simp
    · rw [mays_not (n := n) (by omega) h0 h1]; rfl
theorem may_len {t : List UInt8} (h : mayW inlB t = true) : t.length ≤ 33 := by
  simp only [mayW, Bool.or_eq_true] at h
  rcases h with h | h
  · have := hash_len h; omega
  · have := inl_len h; omega
theorem path_len {x : Nd} {l : Int} (h : pathB x l = true) : x.p.length ≤ 12 := by
  simp only [pathB, Bool.and_eq_true, decide_eq_true_eq] at h
  omega
theorem leaf_parts {x : Nd} (h : leafB x = true) : x.p.length ≤ 12 ∧ x.v ≠ [] ∧ x.v.length ≤ 80 ∧ ∀ j, j < 16 → x.r j = [] := by
  simp only [leafB, Bool.and_eq_true, Bool.not_eq_true', decide_eq_true_eq, decide_eq_false_iff_not] at h
  obtain ⟨h1, h2, h3, h4⟩ := h
  exact ⟨path_len h1, h2, by omega, fun j hj => behindI_over (n := 16) (by omega) hj⟩
theorem ext_parts {x : Nd} {inl : List UInt8 → Bool} (h : extW inl x = true) : x.p.length ≤ 12 ∧ x.v = [] ∧ (∀ j, 1 ≤ j → j < 16 → x.r j = []) ∧ behindI x.r 16 = 1 ∧ (hashB (x.r 0) = true ∨ (inl (x.r 0) = true ∧ (getD (x.r 0)).k = 3)) := by
  simp only [extW, Bool.and_eq_true, Bool.or_eq_true, decide_eq_true_eq] at h
  obtain ⟨h1, h2, h3, h4⟩ := h
  exact ⟨path_len h1, h2, fun j h1 hj => behindI_over (n := 16) (by omega) hj, h3, h4⟩
theorem branch_parts {x : Nd} {inl : List UInt8 → Bool} (h : branchW inl x = true) : x.p = [] ∧ x.v.length ≤ 80 ∧ mays inl x.r 16 = true ∧ 2 ≤ min (x.v.length : Int) 1 + fullN x.r 16 := by
  simp only [branchW, Bool.and_eq_true, decide_eq_true_eq] at h
  obtain ⟨h1, h2, h3, h4⟩ := h
  exact ⟨h1, by omega, h3, h4⟩
theorem none_parts {x : Nd} (h : noneB x = true) : x.k = 0 ∧ x.p = [] ∧ x.v = [] ∧ ∀ j, j < 16 → x.r j = [] := by
  simp only [noneB, Bool.and_eq_true, decide_eq_true_eq, List.all_eq_true] at h
  exact ⟨h.1, h.2.1, h.2.2.1, fun j hj => h.2.2.2 j (List.mem_range.2 hj)⟩
theorem valid_cases {x : Nd} {inl : List UInt8 → Bool} (h : validW inl x = true) : (x.k = 0 ∧ noneB x = true) ∨ (x.k = 1 ∧ leafB x = true) ∨ (x.k = 2 ∧ extW inl x = true) ∨ (x.k = 3 ∧ branchW inl x = true) := by
  unfold validW at h
  split at h
  · exact .inl ⟨by assumption, h⟩
  · split at h
    · exact .inr (.inl ⟨by assumption, h⟩)
    · split at h
      · exact .inr (.inr (.inl ⟨by assumption, h⟩))
      · split at h
        · exact .inr (.inr (.inr ⟨by assumption, h⟩))
        · cases h
structure Nd.Short (x : Nd) : Prop where
  k : 0 ≤ x.k ∧ x.k ≤ 3
  p : x.p.length ≤ 12
  v : x.v.length ≤ 80
  r : ∀ j, j < 16 → x.r j = [] ∨ mayW inlB (x.r j) = true
theorem valid_short {x : Nd} (h : validB x = true) : x.Short := by
  rcases valid_cases h with ⟨hk, h⟩ | ⟨hk, h⟩ | ⟨hk, h⟩ | ⟨hk, h⟩
  · obtain ⟨_, h1, h2, h3⟩ := none_parts h
    exact ⟨by omega, by rw [h1]; simp, by rw [h2]; simp, fun j hj => .inl (h3 j hj)⟩
  · obtain ⟨h1, _, h2, h3⟩ := leaf_parts h
    exact ⟨by omega, h1, h2, fun j hj => .inl (h3 j hj)⟩
  · obtain ⟨h1, h2, h3, _, h4⟩ := ext_parts h
    refine ⟨by omega, h1, by rw [h2]; simp, fun j hj => ?_⟩
    by_cases e : j = 0
    · subst e
      refine .inr ?_
      simp only [mayW, Bool.or_eq_true]
      exact h4.imp id fun h => h.1
    · exact .inl (h3 j (by omega) hj)
  · obtain ⟨h1, h2, h3, _⟩ := branch_parts h
    exact ⟨by omega, by rw [h1]; simp, h2, fun j hj => mays_get h3 hj⟩
theorem Nd.Short.ref {x : Nd} (h : x.Short) (j : Nat) (hj : j < 16) : (x.r j).length ≤ 33 := by
  rcases h.r j hj with h | h
  · rw [h]; simp
  · exact may_len h
theorem Nd.Short.few {x : Nd} (h : x.Short) : x.Few := ⟨by have := h.p; omega, by have := h.v; omega, fun j hj => by have := h.ref j hj; omega⟩
/-! ### Fuel -/
theorem mays_congr {f g : List UInt8 → Bool} {r : Nat → List UInt8} : ∀ {n : Nat}, (∀ j, j < n → r j ≠ [] → f (r j) = g (r j)) → mays f r n = mays g r n
  | 0, _ => rfl
  | n + 1, h => by
    simp only [mays]
    rw [mays_congr fun j hj => h j (by omega)]
    by_cases e : r n = []
    · simp [e]
    · simp only [mayW, h n (by omega) e]
theorem valid_congr {f g : List UInt8 → Bool} {x : Nd} (h : ∀ j, j < 16 → x.r j ≠ [] → f (x.r j) = g (x.r j)) : validW f x = validW g x := by
  have e3 : branchW f x = branchW g x := by simp only [branchW, mays_congr h]
  have e2 : extW f x = extW g x := by
    by_cases e : x.r 0 = []
    · have hb : decide (behindI x.r 16 = 1) = false ∨ ∃ j, 1 ≤ j ∧ j < 16 ∧ x.r j ≠ [] := by
        by_cases hb : behindI x.r 16 = 1
        · exfalso
          have hz : ∀ n, n ≤ 16 → (∀ j, j < n → x.r j = []) → behindI x.r n = 0 := by
            intro n
            induction n with
            | zero => intro _ _; rfl
            | succ n ih => intro hn hj; rw [behindI, if_pos (hj n (by omega)), ih (by omega) fun j hj' => hj j (by omega)]
          have := hz 16 (by omega) fun j hj => by
            by_cases e0 : j = 0
            · subst e0; exact e
            · exact behindI_over (n := 16) (by omega) hj
          omega
        · exact .inl (decide_eq_false hb)
      by_cases hb : behindI x.r 16 = 1
      · rcases ‹_ ∨ _› with h1 | ⟨j, h1, h2, h3⟩
        · exact absurd hb (of_decide_eq_false h1)
        · exact absurd (behindI_over (n := 16) (by omega) h2) h3
      · simp only [extW, hb, decide_false, Bool.false_and, Bool.and_false]
    · simp only [extW, h 0 (by decide) e]
  simp only [validW, e2, e3]
theorem shape_list {s : List UInt8} (h : 1 ≤ shapeK s) : cutB s = true ∧ cutL s = true ∧ cutRest s = [] ∧ shapeK s = listK (cutIn s) := by
  unfold shapeK at h ⊢
  split at h
  · omega
  · rename_i hs
    cases h1 : cutB s <;> cases h2 : cutL s <;> cases h3 : decide (cutRest s = []) <;> simp only [h1, h2, h3, Bool.and_true, Bool.and_false, cond_false] at h <;> first
      | omega
      | exact ⟨rfl, rfl, of_decide_eq_true h3, by rw [if_neg hs]; rfl⟩
theorem refs_lt {s : List UInt8} (h : 0 ≤ shapeK s) (j : Nat) (hj : (getD s).r j ≠ []) : ((getD s).r j).length < s.length := by
  by_cases h1 : 1 ≤ shapeK s
  · obtain ⟨g1, g2, _, _⟩ := shape_list h1
    have hl := list_lt g1 g2
    have hit := itemAt_le (cutIn s)
    have key : ∀ (r : Nat → List UInt8), (∀ i, i < 16 → (r i).length ≤ (cutIn s).length) → (mk16 r j).length ≤ (cutIn s).length := by
      intro r hr
      by_cases h16 : j < 16
      · have : mk16 r j = r j := getD16 r j h16
        rw [this]; exact hr j h16
      · have : mk16 r j = [] := by
          unfold mk16 refs16
          rw [List.getD_eq_getElem?_getD, List.getElem?_eq_none (by simp; omega)]; rfl
        rw [this]; simp
    have e : ((getD s).r j).length ≤ (cutIn s).length := by
      unfold getD
      split
      · exact key noRefs fun i hi => by rw [show noRefs i = (fun _ => []) i from getD16 (fun _ => []) i hi]; simp
      · split
        · refine key (oneRef (itemAt (cutIn s) 1)) fun i hi => ?_
          have : oneRef (itemAt (cutIn s) 1) i = (fun i => if i = 0 then itemAt (cutIn s) 1 else []) i := getD16 (fun i => if i = 0 then itemAt (cutIn s) 1 else []) i hi
          rw [this]
          show (if i = 0 then itemAt (cutIn s) 1 else []).length ≤ _
          split
          · exact hit 1
          · simp
        · split
          · refine key (rdRef (cutIn s)) fun i _ => ?_
            unfold rdRef
            split
            · simp
            · exact hit i
          · exact key noRefs fun i hi => by rw [show noRefs i = (fun _ => []) i from getD16 (fun _ => []) i hi]; simp
    omega
  · exfalso
    apply hj
    have h0 : shapeK s = 0 := by omega
    unfold getD
    rw [if_neg (by omega), if_neg (by omega), if_neg (by omega)]
    show noRefs j = []
    by_cases h16 : j < 16
    · exact getD16 (fun _ => []) j h16
    · unfold noRefs refs16
      rw [List.getD_eq_getElem?_getD, List.getElem?_eq_none (by simp; omega)]; rfl
theorem getW_congr {f g : List UInt8 → Bool} {t : List UInt8} (h : ∀ r : List UInt8, r.length < t.length → f r = g r) : getW f t = getW g t := by
  unfold getW
  by_cases h0 : 0 ≤ shapeK t
  · rw [valid_congr (f := f) (g := g) fun j _ hr => h _ (refs_lt h0 j hr)]
  · rw [decide_eq_false h0]; rfl
theorem inlF_fuel : ∀ (n m : Nat) (t : List UInt8), t.length < n → t.length < m → inlF n t = inlF m t
  | 0, _, _, h, _ => absurd h (Nat.not_lt_zero _)
  | _, 0, _, _, h => absurd h (Nat.not_lt_zero _)
  | n + 1, m + 1, t, hn, hm => by
    simp only [inlF]
    rw [getW_congr (t := t) fun r hr => inlF_fuel n m r (by omega) (by omega)]
theorem inl_eq (t : List UInt8) : inlB t = (decide (t.length < 32) && (getB' t && !decide ((getD t).k = 0))) := by
  by_cases h : t.length < 32
  · unfold inlB getB'
    rw [show inlF 32 t = (decide (t.length < 32) && (getW (inlF 31) t && !decide ((getD t).k = 0))) from rfl]
    rw [getW_congr (t := t) (f := inlF 31) (g := inlB) fun r hr => inlF_fuel 31 32 r (by omega) (by omega)]
  · rw [decide_eq_false h, Bool.false_and]
    exact Bool.eq_false_iff.2 fun h' => h (inl_len h')
end Go.Proofs.YtoalfimkkibpdaaGreatDoor
