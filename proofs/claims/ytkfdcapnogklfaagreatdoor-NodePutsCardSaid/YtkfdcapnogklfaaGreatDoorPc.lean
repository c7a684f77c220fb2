/-
  Node: the node that bytes look like: the set-up.
-/
import Derived.Test.YtkfdcapnogklfaaGreatDoorPb
namespace Go.Proofs.YtkfdcapnogklfaaGreatDoor
open Go Sx
set_option maxRecDepth 20000
def rdCells (s : List UInt8) (i : Nat) : List SV := [.int .i64 false 3, .str false [], .str false [], .str false (rdI s i 0), .str false (rdI s i 1), .str false (rdI s i 2), .str false (rdI s i 3), .str false (rdI s i 4), .str false (rdI s i 5), .str false (rdI s i 6), .str false (rdI s i 7), .str false (rdI s i 8), .str false (rdI s i 9), .str false (rdI s i 10), .str false (rdI s i 11), .str false (rdI s i 12), .str false (rdI s i 13), .str false (rdI s i 14), .str false (rdI s i 15)]
noncomputable def annRd (s : List UInt8) : LoopAnn :=
  { α := Nat, pre := fun _ i => i ≤ 16, mea := fun _ i => 16 - i, fresh := 0, slots := fun _ i => [(9, .int .i64 false i)],
    mem := fun st i => match slot st.tmps 4 with
      | some (.ptr k _ _) => [(k, .cells (rdCells (cutIn s) i) 19 25)]
      | _ => [] }
noncomputable def cfgRd (s : List UInt8) : Cfg := { cfg0 with summ := fun f => lookPT f listN4, anns := fun f => if f = 55 then [(3, always (annRd s))] else [] }
theorem goodRd (s : List UInt8) : Sx.Good Tryz.prog (cfgRd s) := ⟨mixes, listN4_ok, fns_ok⟩
end Go.Proofs.YtkfdcapnogklfaaGreatDoor
/-
  Conditions that the executor computes, written out by a program (vcgen.py).
-/
namespace Go.Proofs.YtkfdcapnogklfaaGreatDoor
open Go Sx
set_option maxRecDepth 20000
theorem vcRead (s : List UInt8) : VC.holds (runA (cfgRd s) 32 Tryz.f32 [.str false s] (readA s)) = ((fun R0 : Nat → (Nat) → SV => ((fun R1 : Nat → (Nat) → SV => ((fun R2 : Nat → (Nat) → SV => ((fun R3 : Nat → (Nat) → SV => ((fun R4 : Nat → (Nat) → SV => ((fun P0 : SV => ((fun P1 : SB => ((fun P2 : SV => ((fun P3 : SV => ((fun P4 : SV => ((fun P5 : SV => ((fun P6 : Nat → SV => ((fun P7 : Nat → SV => ((fun P8 : SV => ((fun P9 : SV => ((fun P10 : SV => ((fun P11 : Nat → SB => ((fun P12 : SV => (((0 : Nat) < (1152921504606846976 : Nat) ∧ (decide (s = textOf []) = true → (decide (shapeK s = 0) = true → sameVal P5 P12) ∧ (decide (shapeK s = 0) = false → (decide (shapeK s = 1) = true → sameVal P5 P9) ∧ (decide (shapeK s = 1) = false → (decide (shapeK s = 2) = true → sameVal P5 P10) ∧ (decide (shapeK s = 2) = false → (decide (shapeK s = 3) = true → sameVal P5 P8) ∧ (decide (shapeK s = 3) = false → ∃ (u17 : Nd), sameVal P5 (SV.tup [u17.sv, SV.bool true false])))))) ∧ (decide (s = textOf []) = false → s.length < 9223372036854775808 ∧ (cutB s = true → ((!cutL s) = true → (decide (shapeK s = 0) = true → sameVal P0 P12) ∧ (decide (shapeK s = 0) = false → (decide (shapeK s = 1) = true → sameVal P0 P9) ∧ (decide (shapeK s = 1) = false → (decide (shapeK s = 2) = true → sameVal P0 P10) ∧ (decide (shapeK s = 2) = false → (decide (shapeK s = 3) = true → sameVal P0 P8) ∧ (decide (shapeK s = 3) = false → ∃ (u16 : Nd), sameVal P0 (SV.tup [u16.sv, SV.bool true false])))))) ∧ ((!cutL s) = false → ((!decide (cutRest s = [])) = true → (decide (shapeK s = 0) = true → sameVal P0 P12) ∧ (decide (shapeK s = 0) = false → (decide (shapeK s = 1) = true → sameVal P0 P9) ∧
 (decide (shapeK s = 1) = false → (decide (shapeK s = 2) = true → sameVal P0 P10) ∧ (decide (shapeK s = 2) = false → (decide (shapeK s = 3) = true → sameVal P0 P8) ∧ (decide (shapeK s = 3) = false → ∃ (u15 : Nd), sameVal P0 (SV.tup [u15.sv, SV.bool true false])))))) ∧ ((!decide (cutRest s = [])) = false → (cutIn s).length < 1099511627776 ∧ (itemsB (cutIn s) = true → ∀ (u14 : Nat), itemsN (cutIn s) ≤ u14 → (decide ((↑(itemsN (cutIn s)) : Int) = 2) = true → ((0 : Int) ≤ (0 : Int) ∧ 0 < (↑(itemsN (cutIn s)) : Int)) ∧ 0 < itemsN (cutIn s) ∧ ((0 : Int) ≤ (1 : Int) ∧ 1 < (↑(itemsN (cutIn s)) : Int)) ∧ 1 < itemsN (cutIn s) ∧ (itemAt (cutIn s) 0).length < 9223372036854775808 ∧ (plainB (itemAt (cutIn s) 0) = true → (cutIn (itemAt (cutIn s) 0)).length < 1099511627776 ∧ (ngetB (cutIn (itemAt (cutIn s) 0)) = true → ((!ngetLeaf (cutIn (itemAt (cutIn s) 0))) = true → (decide (shapeK s = 0) = true → sameVal P3 P12) ∧ (decide (shapeK s = 0) = false → (decide (shapeK s = 1) = true → sameVal P3 P9) ∧ (decide (shapeK s = 1) = false → (decide (shapeK s = 2) = true → sameVal P3 P10) ∧ (decide (shapeK s = 2) = false → (decide (shapeK s = 3) = true → sameVal P3 P8) ∧ (decide (shapeK s = 3) = false →
 ∃ (u13 : Nd), sameVal P3 (SV.tup [u13.sv, SV.bool true false])))))) ∧ ((!ngetLeaf (cutIn (itemAt (cutIn s) 0))) = false → (itemAt (cutIn s) 1).length < 9223372036854775808 ∧ (plainB (itemAt (cutIn s) 1) = true → (decide (shapeK s = 0) = true → sameVal P2 P12) ∧ (decide (shapeK s = 0) = false → (decide (shapeK s = 1) = true → sameVal P2 P9) ∧ (decide (shapeK s = 1) = false → (decide (shapeK s = 2) = true → sameVal P2 P10) ∧ (decide (shapeK s = 2) = false → (decide (shapeK s = 3) = true → sameVal P2 P8) ∧ (decide (shapeK s = 3) = false → ∃ (u12 : Nd), sameVal P2 (SV.tup [u12.sv, SV.bool true false])))))) ∧ (plainB (itemAt (cutIn s) 1) = false → (decide (shapeK s = 0) = true → sameVal P4 P12) ∧ (decide (shapeK s = 0) = false → (decide (shapeK s = 1) = true → sameVal P4 P9) ∧ (decide (shapeK s = 1) = false → (decide (shapeK s = 2) = true → sameVal P4 P10) ∧ (decide (shapeK s = 2) = false → (decide (shapeK s = 3) = true → sameVal P4 P8) ∧ (decide (shapeK s = 3) = false → ∃ (u11 : Nd), sameVal P4 (SV.tup [u11.sv, SV.bool true false])))))))) ∧ (ngetB (cutIn (itemAt (cutIn s) 0)) = false → (decide (shapeK s = 0) = true → sameVal P0 P12) ∧ (decide (shapeK s = 0) = false →
 (decide (shapeK s = 1) = true → sameVal P0 P9) ∧ (decide (shapeK s = 1) = false → (decide (shapeK s = 2) = true → sameVal P0 P10) ∧ (decide (shapeK s = 2) = false → (decide (shapeK s = 3) = true → sameVal P0 P8) ∧ (decide (shapeK s = 3) = false → ∃ (u10 : Nd), sameVal P0 (SV.tup [u10.sv, SV.bool true false]))))))) ∧ (plainB (itemAt (cutIn s) 0) = false → (decide (shapeK s = 0) = true → sameVal P0 P12) ∧ (decide (shapeK s = 0) = false → (decide (shapeK s = 1) = true → sameVal P0 P9) ∧ (decide (shapeK s = 1) = false → (decide (shapeK s = 2) = true → sameVal P0 P10) ∧ (decide (shapeK s = 2) = false → (decide (shapeK s = 3) = true → sameVal P0 P8) ∧ (decide (shapeK s = 3) = false → ∃ (u9 : Nd), sameVal P0 (SV.tup [u9.sv, SV.bool true false]))))))) ∧ (decide ((↑(itemsN (cutIn s)) : Int) = 2) = false → (decide ((↑(itemsN (cutIn s)) : Int) = 17) = true → (∃ (u8 : Nat), u8 ≤ 16 ∧ 0 = (u8 : Int) ∧
 SBle (SB.cells [SV.int .i64 true 3, SV.str true [], SV.str true [], SV.str true [], SV.str true [], SV.str true [], SV.str true [], SV.str true [], SV.str true [], SV.str true [], SV.str true [], SV.str true [], SV.str true [], SV.str true [], SV.str true [], SV.str true [], SV.str true [], SV.str true [], SV.str true []] 19 25) (SB.cells [SV.int .i64 false 3, SV.str false [], SV.str false [], R0 0 u8, R0 1 u8, R0 2 u8, R0 3 u8, R0 4 u8, R0 5 u8, R0 6 u8, R0 7 u8, R0 8 u8, R0 9 u8, R0 10 u8, R0 11 u8, R0 12 u8, R0 13 u8, R0 14 u8, R0 15 u8] 19 25) ∧ SBle P1 P1 ∧ SBle (P11 u14) (P11 u14) ∧ SBle P1 P1 ∧ True) ∧ ∀ (u7 : Nat), u7 ≤ 16 → (decide ((u7 : Int) < 16) = true → (0 ≤ (u7 : Int) ∧ (u7 : Int) < (↑(itemsN (cutIn s)) : Int)) ∧ 0 + (u7 : Int).toNat < itemsN (cutIn s) ∧ (0 : Nat) < (1152921504606846976 : Nat) ∧ some (P11 u14) = some (P11 u14) ∧ ((!decide (itemAt (cutIn s) (0 + (u7 : Int).toNat) = textOf [])) = true → (0 ≤ (u7 : Int) ∧ (u7 : Int) < (↑(itemsN (cutIn s)) : Int)) ∧ 0 + (u7 : Int).toNat < itemsN (cutIn s) ∧ (0 ≤ (u7 : Int) ∧ (u7 : Int) < 16) ∧ (u7 : Int).toNat < 16 ∧ ((-9223372036854775808 : Int) ≤ (u7 : Int) + 1 ∧ (u7 : Int) + 1 ≤ (9223372036854775807 : Int)) ∧
 ∃ (u6 : Nat), (u6 ≤ 16 ∧ 16 - u6 < 16 - u7) ∧ (u7 : Int) + 1 = (u6 : Int) ∧ SBle (SB.cells [SV.int .i64 false 3, SV.str false [], SV.str false [], R1 0 u7, R1 1 u7, R1 2 u7, R1 3 u7, R1 4 u7, R1 5 u7, R1 6 u7, R1 7 u7, R1 8 u7, R1 9 u7, R1 10 u7, R1 11 u7, R1 12 u7, R1 13 u7, R1 14 u7, R1 15 u7] 19 25) (SB.cells [SV.int .i64 false 3, SV.str false [], SV.str false [], R2 0 u6, R2 1 u6, R2 2 u6, R2 3 u6, R2 4 u6, R2 5 u6, R2 6 u6, R2 7 u6, R2 8 u6, R2 9 u6, R2 10 u6, R2 11 u6, R2 12 u6, R2 13 u6, R2 14 u6, R2 15 u6] 19 25) ∧ SBle P1 P1 ∧ SBle (P11 u14) (P11 u14) ∧ SBle P1 P1 ∧ True) ∧ ((!decide (itemAt (cutIn s) (0 + (u7 : Int).toNat) = textOf [])) = false → ((-9223372036854775808 : Int) ≤ (u7 : Int) + 1 ∧ (u7 : Int) + 1 ≤ (9223372036854775807 : Int)) ∧ ∃ (u5 : Nat), (u5 ≤ 16 ∧ 16 - u5 < 16 - u7) ∧ (u7 : Int) + 1 = (u5 : Int) ∧
 SBle (SB.cells [SV.int .i64 false 3, SV.str false [], SV.str false [], R3 0 u7, R3 1 u7, R3 2 u7, R3 3 u7, R3 4 u7, R3 5 u7, R3 6 u7, R3 7 u7, R3 8 u7, R3 9 u7, R3 10 u7, R3 11 u7, R3 12 u7, R3 13 u7, R3 14 u7, R3 15 u7] 19 25) (SB.cells [SV.int .i64 false 3, SV.str false [], SV.str false [], R4 0 u5, R4 1 u5, R4 2 u5, R4 3 u5, R4 4 u5, R4 5 u5, R4 6 u5, R4 7 u5, R4 8 u5, R4 9 u5, R4 10 u5, R4 11 u5, R4 12 u5, R4 13 u5, R4 14 u5, R4 15 u5] 19 25) ∧ SBle P1 P1 ∧ SBle (P11 u14) (P11 u14) ∧ SBle P1 P1 ∧ True)) ∧ (decide ((u7 : Int) < 16) = false → ((0 : Int) ≤ (16 : Int) ∧ 16 < (↑(itemsN (cutIn s)) : Int)) ∧ 16 < itemsN (cutIn s) ∧ (itemAt (cutIn s) 16).length < 9223372036854775808 ∧ (plainB (itemAt (cutIn s) 16) = true → (decide (shapeK s = 0) = true → sameVal (P6 u7) P12) ∧ (decide (shapeK s = 0) = false → (decide (shapeK s = 1) = true → sameVal (P6 u7) P9) ∧ (decide (shapeK s = 1) = false → (decide (shapeK s = 2) = true → sameVal (P6 u7) P10) ∧ (decide (shapeK s = 2) = false → (decide (shapeK s = 3) = true → sameVal (P6 u7) P8) ∧ (decide (shapeK s = 3) = false → ∃ (u4 : Nd), sameVal (P6 u7) (SV.tup [u4.sv, SV.bool true false])))))) ∧ (plainB (itemAt (cutIn s) 16) = false →
 (decide (shapeK s = 0) = true → sameVal (P7 u7) P12) ∧ (decide (shapeK s = 0) = false → (decide (shapeK s = 1) = true → sameVal (P7 u7) P9) ∧ (decide (shapeK s = 1) = false → (decide (shapeK s = 2) = true → sameVal (P7 u7) P10) ∧ (decide (shapeK s = 2) = false → (decide (shapeK s = 3) = true → sameVal (P7 u7) P8) ∧ (decide (shapeK s = 3) = false → ∃ (u3 : Nd), sameVal (P7 u7) (SV.tup [u3.sv, SV.bool true false])))))))) ∧ (decide ((↑(itemsN (cutIn s)) : Int) = 17) = false → (decide (shapeK s = 0) = true → sameVal P0 P12) ∧ (decide (shapeK s = 0) = false → (decide (shapeK s = 1) = true → sameVal P0 P9) ∧ (decide (shapeK s = 1) = false → (decide (shapeK s = 2) = true → sameVal P0 P10) ∧ (decide (shapeK s = 2) = false → (decide (shapeK s = 3) = true → sameVal P0 P8) ∧ (decide (shapeK s = 3) = false → ∃ (u2 : Nd), sameVal P0 (SV.tup [u2.sv, SV.bool true false])))))))) ∧ (itemsB (cutIn s) = false → (decide (shapeK s = 0) = true → sameVal P0 P12) ∧ (decide (shapeK s = 0) = false → (decide (shapeK s = 1) = true → sameVal P0 P9) ∧ (decide (shapeK s = 1) = false → (decide (shapeK s = 2) = true → sameVal P0 P10) ∧ (decide (shapeK s = 2) = false → (decide (shapeK s = 3) = true →
 sameVal P0 P8) ∧ (decide (shapeK s = 3) = false → ∃ (u1 : Nd), sameVal P0 (SV.tup [u1.sv, SV.bool true false]))))))))) ∧ (cutB s = false → (decide (shapeK s = 0) = true → sameVal P0 P12) ∧ (decide (shapeK s = 0) = false → (decide (shapeK s = 1) = true → sameVal P0 P9) ∧ (decide (shapeK s = 1) = false → (decide (shapeK s = 2) = true → sameVal P0 P10) ∧ (decide (shapeK s = 2) = false → (decide (shapeK s = 3) = true → sameVal P0 P8) ∧ (decide (shapeK s = 3) = false → ∃ (u0 : Nd), sameVal P0 (SV.tup [u0.sv, SV.bool true false])))))))))) (SV.tup [zeroN, SV.bool true true]))) (fun (u14 : Nat) => (SB.rows true (itemsN (cutIn s)) [Col.str (itemAt (cutIn s))] false u14 9)))) (SV.tup [(rdExt s).svL true 2, SV.bool true true]))) (SV.tup [(rdLeaf s).svL true 1, SV.bool true true]))) (SV.tup [(rdBranch s).svL true 3, SV.bool true true]))) (fun (u7 : Nat) => (SV.tup [SV.agg [SV.int .i64 false 3, SV.str false [], SV.str true [], R3 0 u7, R3 1 u7, R3 2 u7, R3 3 u7, R3 4 u7, R3 5 u7, R3 6 u7, R3 7 u7, R3 8 u7, R3 9 u7, R3 10 u7, R3 11 u7, R3 12 u7, R3 13 u7, R3 14 u7, R3 15 u7], SV.bool true false])))) (fun (u7 : Nat) => (SV.tup [SV.agg [SV.int .i64 false 3, SV.str false [], SV.str false (cutIn (itemAt (cutIn s) 16)), R3 0 u7, R3 1 u7, R3 2 u7, R3 3 u7, R3 4 u7, R3 5 u7, R3 6 u7, R3 7 u7, R3 8 u7, R3 9 u7, R3 10 u7, R3 11 u7, R3 12 u7, R3 13 u7, R3 14 u7, R3 15 u7], SV.bool true true])))) (SV.tup [SV.agg [SV.int .i64 true 0, SV.str true [], SV.str true [], SV.str true [], SV.str true [], SV.str true [], SV.str true [], SV.str true [], SV.str true [], SV.str true [], SV.str true [], SV.str true [], SV.str true [], SV.str true [], SV.str true [], SV.str true [], SV.str true [], SV.str true [], SV.str true []], SV.bool true true]))) (SV.tup [SV.agg [SV.int .i64 true 1, SV.str false (ngetP (cutIn (itemAt (cutIn s) 0))), SV.str true [], SV.str true [], SV.str true [], SV.str true [], SV.str true [], SV.str true [], SV.str true [], SV.str true [], SV.str true [], SV.str true [], SV.str true [], SV.str true [], SV.str true [], SV.str true [], SV.str true [], SV.str true [], SV.str true []], SV.bool true false]))) (SV.tup [SV.agg [SV.int .i64 true 2, SV.str false (ngetP (cutIn (itemAt (cutIn s) 0))), SV.str true [], Col.at 1 (Col.str (itemAt (cutIn s))), SV.str true [], SV.str true [], SV.str true [], SV.str true [], SV.str true [], SV.str true [], SV.str true [], SV.str true [], SV.str true [], SV.str true [], SV.str true [], SV.str true [], SV.str true [], SV.str true [], SV.str true []], SV.bool true true]))) (SV.tup [SV.agg [SV.int .i64 true 1, SV.str false (ngetP (cutIn (itemAt (cutIn s) 0))), SV.str false (cutIn (itemAt (cutIn s) 1)), SV.str true [], SV.str true [], SV.str true [], SV.str true [], SV.str true [], SV.str true [], SV.str true [], SV.str true [], SV.str true [], SV.str true [], SV.str true [], SV.str true [], SV.str true [], SV.str true [], SV.str true [], SV.str true []], SV.bool true true]))) (SB.cells (SV.agg [SV.int .i64 true 0, SV.str true [], SV.str true [], SV.str true [], SV.str true [], SV.str true [], SV.str true [], SV.str true [], SV.str true [], SV.str true [], SV.str true [], SV.str true [], SV.str true [], SV.str true [], SV.str true [], SV.str true [], SV.str true [], SV.str true [], SV.str true []]).cells 19 25))) (SV.tup [SV.agg [SV.int .i64 true 0, SV.str true [], SV.str true [], SV.str true [], SV.str true [], SV.str true [], SV.str true [], SV.str true [], SV.str true [], SV.str true [], SV.str true [], SV.str true [], SV.str true [], SV.str true [], SV.str true [], SV.str true [], SV.str true [], SV.str true [], SV.str true []], SV.bool true false]))) (fun (n0 : Nat) (u5 : Nat) => SV.str false (rdI (cutIn s) u5 n0)))) (fun (n0 : Nat) (u7 : Nat) => SV.str false (rdI (cutIn s) u7 n0)))) (fun (n0 : Nat) (u6 : Nat) => SV.str false (rdI (cutIn s) u6 n0)))) (fun (n0 : Nat) (u7 : Nat) => SV.str false (if (u7 : Int).toNat = n0 then itemAt (cutIn s) (0 + (u7 : Int).toNat) else rdI (cutIn s) u7 n0)))) (fun (n0 : Nat) (u8 : Nat) => SV.str false (rdI (cutIn s) u8 n0))) := by kernel_rfl
end Go.Proofs.YtkfdcapnogklfaaGreatDoor
/-
  Node: the node that bytes look like: the contract.
-/
namespace Go.Proofs.YtkfdcapnogklfaaGreatDoor
open Go Sx
set_option maxRecDepth 20000
def Fit5 (k : Int) (A B C D E : Prop) : Prop := (decide (k = 0) = true → A) ∧ (decide (k = 0) = false → (decide (k = 1) = true → B) ∧ (decide (k = 1) = false → (decide (k = 2) = true → C) ∧ (decide (k = 2) = false → (decide (k = 3) = true → D) ∧ (decide (k = 3) = false → E))))
theorem fit0 {k : Int} {A B C D E : Prop} (h : k = 0) (a : A) : Fit5 k A B C D E := by subst h; exact ⟨fun _ => a, fun h => absurd h (by decide)⟩
theorem fit1 {k : Int} {A B C D E : Prop} (h : k = 1) (a : B) : Fit5 k A B C D E := by subst h; exact ⟨fun h => absurd h (by decide), fun _ => ⟨fun _ => a, fun h => absurd h (by decide)⟩⟩
theorem fit2 {k : Int} {A B C D E : Prop} (h : k = 2) (a : C) : Fit5 k A B C D E := by subst h; exact ⟨fun h => absurd h (by decide), fun _ => ⟨fun h => absurd h (by decide), fun _ => ⟨fun _ => a, fun h => absurd h (by decide)⟩⟩⟩
theorem fit3 {k : Int} {A B C D E : Prop} (h : k = 3) (a : D) : Fit5 k A B C D E := by subst h; exact ⟨fun h => absurd h (by decide), fun _ => ⟨fun h => absurd h (by decide), fun _ => ⟨fun h => absurd h (by decide), fun _ => ⟨fun _ => a, fun h => absurd h (by decide)⟩⟩⟩⟩
theorem fitN {k : Int} {A B C D E : Prop} (h : k = -1) (a : E) : Fit5 k A B C D E := by subst h; exact ⟨fun h => absurd h (by decide), fun _ => ⟨fun h => absurd h (by decide), fun _ => ⟨fun h => absurd h (by decide), fun _ => ⟨fun h => absurd h (by decide), fun _ => a⟩⟩⟩⟩
theorem rdC_le {f g : Nat → List UInt8} {tot : Nat} {ty : TypeId} (h : ∀ j, j < 16 → f j = g j) : SBle (.cells [.int .i64 false 3, .str false [], .str false [], .str false (f 0), .str false (f 1), .str false (f 2), .str false (f 3), .str false (f 4), .str false (f 5), .str false (f 6), .str false (f 7), .str false (f 8), .str false (f 9), .str false (f 10), .str false (f 11), .str false (f 12), .str false (f 13), .str false (f 14), .str false (f 15)] tot ty) (.cells [.int .i64 false 3, .str false [], .str false [], .str false (g 0), .str false (g 1), .str false (g 2), .str false (g 3), .str false (g 4), .str false (g 5), .str false (g 6), .str false (g 7), .str false (g 8), .str false (g 9), .str false (g 10), .str false (g 11), .str false (g 12), .str false (g 13), .str false (g 14), .str false (g 15)] tot ty) := by
  rw [h 0 (by decide), h 1 (by decide), h 2 (by decide), h 3 (by decide), h 4 (by decide), h 5 (by decide), h 6 (by decide), h 7 (by decide), h 8 (by decide), h 9 (by decide), h 10 (by decide), h 11 (by decide), h 12 (by decide), h 13 (by decide), h 14 (by decide), h 15 (by decide)]
  exact SBle.refl _
theorem rdI_step {t : List UInt8} {i : Nat} (h : itemAt t i ≠ [128]) (j : Nat) : (if i = j then itemAt t i else rdI t i j) = rdI t (i + 1) j := by
  unfold rdI
  by_cases e : i = j
  · subst e
    rw [if_pos rfl, if_pos (show i < i + 1 by omega), rdRef, if_neg h]
  · rw [if_neg e]
    by_cases e1 : j < i
    · rw [if_pos e1, if_pos (show j < i + 1 by omega)]
    · rw [if_neg e1, if_neg (show ¬ j < i + 1 by omega)]
theorem rdI_skip {t : List UInt8} {i : Nat} (h : itemAt t i = [128]) (j : Nat) : rdI t i j = rdI t (i + 1) j := by
  unfold rdI
  by_cases e : i = j
  · subst e
    rw [if_neg (show ¬ i < i by omega), if_pos (show i < i + 1 by omega), rdRef, if_pos h]
  · by_cases e1 : j < i
    · rw [if_pos e1, if_pos (show j < i + 1 by omega)]
    · rw [if_neg e1, if_neg (show ¬ j < i + 1 by omega)]
attribute [local irreducible] itemAt itemsN itemsB cutIn cutB cutRest cutL plainB ngetB ngetLeaf ngetP
theorem read_holds {s : List UInt8} (hs : s.length < 1099511627776) : Holds (runA (cfgRd s) 32 Tryz.f32 [.str false s] (readA s)) := by
  refine Holds.of_eq (vcRead s) ?_
  try dsimp only
  have hin := cutIn_le s
  have hit := itemAt_le (cutIn s)
  have hin2 := fun k => cutIn_le (itemAt (cutIn s) k)
  refine ⟨by omega, fun a => fit0 ?_ (fun _ => rfl), fun a => ⟨by omega, fun b => ⟨fun c => fitN ?_ ⟨zeroNd, fun _ => rfl⟩, fun c => ⟨fun d => fitN ?_ ⟨zeroNd, fun _ => rfl⟩, fun d => ⟨by omega, fun e => fun cap hcap => ⟨fun f => ?_, fun f => ⟨fun g => ?_, fun g => fitN ?_ ⟨zeroNd, fun _ => rfl⟩⟩⟩, fun e => fitN ?_ ⟨zeroNd, fun _ => rfl⟩⟩⟩⟩, fun b => fitN ?_ ⟨zeroNd, fun _ => rfl⟩⟩⟩
  · have a : s = [128] := of_decide_eq_true a
    rw [shapeK, if_pos a]
  · have a : ¬ s = [128] := of_decide_eq_false a
    have c : cutL s = false := by simpa using c
    rw [shapeK, if_neg a, b, c]; rfl
  · have a : ¬ s = [128] := of_decide_eq_false a
    have c : cutL s = true := by simpa using c
    have d : decide (cutRest s = []) = false := by simpa using d
    rw [shapeK, if_neg a, b, c, d]; rfl
  · have a : ¬ s = [128] := of_decide_eq_false a
    have c : cutL s = true := by simpa using c
    have d : decide (cutRest s = []) = true := by simpa using d
    have f := of_decide_eq_true f
    have f : itemsN (cutIn s) = 2 := by omega
    have hk : shapeK s = pairK (cutIn s) := by rw [shapeK, if_neg a, b, c, d, listK, e, if_pos f]; rfl
    have i0 := hit 0
    have i1 := hit 1
    have i2 := hin2 0
    refine ⟨by omega, by omega, by omega, by omega, by omega, fun g => ⟨by omega, fun h => ⟨fun k => fit2 ?_ (fun _ => rfl), fun k => ⟨by omega, fun l => fit1 ?_ (fun _ => rfl), fun l => fitN ?_ ⟨⟨1, ngetP (cutIn (itemAt (cutIn s) 0)), [], noRefs⟩, fun _ => rfl⟩⟩⟩, fun h => fitN ?_ ⟨zeroNd, fun _ => rfl⟩⟩, fun g => fitN ?_ ⟨zeroNd, fun _ => rfl⟩⟩
    · have k : ngetLeaf (cutIn (itemAt (cutIn s) 0)) = false := by simpa using k
      rw [hk, pairK, g, h, k]; rfl
    · have k : ngetLeaf (cutIn (itemAt (cutIn s) 0)) = true := by simpa using k
      rw [hk, pairK, g, h, k, l]; rfl
    · have k : ngetLeaf (cutIn (itemAt (cutIn s) 0)) = true := by simpa using k
      rw [hk, pairK, g, h, k, l]; rfl
    · rw [hk, pairK, g, h]; rfl
    · rw [hk, pairK, g]; rfl
  · have a : ¬ s = [128] := of_decide_eq_false a
    have c : cutL s = true := by simpa using c
    have d : decide (cutRest s = []) = true := by simpa using d
    have f := of_decide_eq_false f
    have f : ¬ itemsN (cutIn s) = 2 := by omega
    have g := of_decide_eq_true g
    have g : itemsN (cutIn s) = 17 := by omega
    have hk : shapeK s = bif plainB (itemAt (cutIn s) 16) then 3 else -1 := by rw [shapeK, if_neg a, b, c, d, listK, e, if_neg f, if_pos g]; rfl
    have i16 := hit 16
    refine ⟨⟨0, by omega, rfl, Sx.SBle.cells (fun E => rfl) rfl, SBle.refl _, SBle.refl _, SBle.refl _, trivial⟩, fun i hi => ⟨fun h => ?_, fun h => ?_⟩⟩
    · have h := of_decide_eq_true h
      rw [Int.toNat_natCast, Nat.zero_add]
      refine ⟨by omega, by omega, by omega, rfl, fun k => ⟨by omega, by omega, by omega, by omega, by omega, i + 1, by omega, by omega, ?_, SBle.refl _, SBle.refl _, SBle.refl _, trivial⟩, fun k => ⟨by omega, i + 1, by omega, by omega, ?_, SBle.refl _, SBle.refl _, SBle.refl _, trivial⟩⟩
      · have k : ¬ itemAt (cutIn s) i = [128] := by
          have : decide (itemAt (cutIn s) i = textOf []) = false := by simpa using k
          exact of_decide_eq_false this
        exact rdC_le (f := fun j => if i = j then itemAt (cutIn s) i else rdI (cutIn s) i j) fun j _ => rdI_step k j
      · have k : itemAt (cutIn s) i = [128] := by
          have : decide (itemAt (cutIn s) i = textOf []) = true := by simpa using k
          exact of_decide_eq_true this
        exact rdC_le fun j _ => rdI_skip k j
    · have h := of_decide_eq_false h
      have ei : i = 16 := by omega
      subst ei
      refine ⟨by omega, by omega, by omega, fun k => fit3 ?_ (fun _ => rfl), fun k => fitN ?_ ⟨⟨3, [], [], mk16 (rdRef (cutIn s))⟩, fun _ => rfl⟩⟩
      · rw [hk, k]; rfl
      · rw [hk, k]; rfl
  · have a : ¬ s = [128] := of_decide_eq_false a
    have c : cutL s = true := by simpa using c
    have d : decide (cutRest s = []) = true := by simpa using d
    have f := of_decide_eq_false f
    have f : ¬ itemsN (cutIn s) = 2 := by omega
    have g := of_decide_eq_false g
    have g : ¬ itemsN (cutIn s) = 17 := by omega
    rw [shapeK, if_neg a, b, c, d, listK, e, if_neg f, if_neg g]; rfl
  · have a : ¬ s = [128] := of_decide_eq_false a
    have c : cutL s = true := by simpa using c
    have d : decide (cutRest s = []) = true := by simpa using d
    rw [shapeK, if_neg a, b, c, d, listK, e]; rfl
  · have a : ¬ s = [128] := of_decide_eq_false a
    rw [shapeK, if_neg a, b]; rfl
def readSpec : List SV → Option (Prop × Ans)
  | [.str false s] => some (s.length < 1099511627776, readA s)
  | _ => none
theorem read_ok : CallOk Tryz.prog 32 (ansPT readSpec) := by
  refine ans_ok (n := 20) (fn := Tryz.f32) Tryz.func32 (by kernel_rfl) (by kernel_rfl) ?_
  intro args p a h hp
  unfold readSpec at h
  split at h
  · rename_i s
    injection h with h; injection h with h1 h2; subst h1; subst h2
    refine ⟨_, goodRd s, rfl, fun b => ?_, read_holds hp⟩
    cases b with
    | true => exact rfl
    | false =>
      intro b
      cases b with
      | true => exact rfl
      | false =>
        intro b
        cases b with
        | true => exact rfl
        | false =>
          intro b
          cases b with
          | true => exact rfl
          | false => exact fun x => rfl
  · cases h
end Go.Proofs.YtkfdcapnogklfaaGreatDoor
