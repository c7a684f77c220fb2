/-
  Conditions that the executor computes, written out by a program (vcgen.py).
-/
import Derived.Test.YtkfdcapnogklfaaGreatDoorTc
namespace Go.Proofs.YtkfdcapnogklfaaGreatDoor
open Go Sx
set_option maxRecDepth 20000
theorem vcDRead (L : Nat) (s : List UInt8) : VC.holds (runA (cfgDR L s) 33 Tryz.f33 [.str false s] (readR s)) = ((fun R0 : Nat → (Nat) → SV => ((fun R1 : Nat → (Nat) → SV => ((fun R2 : Nat → (Nat) → SV => ((fun R3 : Nat → (Nat) → SV => ((fun R4 : Nat → (Nat) → SV => ((fun R5 : Nat → (Nat) → SV => ((fun R6 : Nat → (Nat) → SV => ((fun R7 : Nat → (Nat) → SV => ((fun R8 : Nat → (Nat) → SV => ((fun R9 : Nat → (Nat) → SV => ((fun R10 : Nat → (Nat) → SV => ((fun R11 : Nat → (Nat) → SV => ((fun R12 : Nat → (Nat) → SV => ((fun R13 : Nat → (Nat) → SV => ((fun R14 : Nat → (Nat) → SV => ((fun R15 : Nat → (Nat) → SV => ((fun R16 : Nat → (Nat) → SV => ((fun R17 : Nat → (Nat) → SV => ((fun R18 : Nat → (Nat) → SV => ((fun R19 : Nat → (Nat) → SV => ((fun P0 : SV => ((fun P1 : SB => ((fun P2 : SV => ((fun P3 : Nat → SB => ((fun P4 : SV => ((fun P5 : SV => ((fun P6 : SV => ((fun P7 : SV => ((fun P8 : SB => ((fun P9 : Nat → SV => ((fun P10 : Nat → SV => ((fun P11 : Nat → SV => ((fun P12 : Nat → SV => (((decide (1000 < (s.length : Int)) = true → (getB' s = true → sameVal P0 P4) ∧ (getB' s = false → sameVal P0 P5)) ∧ (decide (1000 < (s.length : Int)) = false → s.length < 9223372036854775808 ∧ (cutB s = true → (cutIn s).length < 1099511627776 ∧ (itemsB (cutIn s) = true → ∀ (u97 : Nat), itemsN (cutIn s) ≤ u97 → (cutL s = true → (decide ((↑(itemsN (cutIn s)) : Int) = 2) = true → ((0 : Int) ≤ (0 : Int) ∧ 0 < (↑(itemsN (cutIn s)) : Int)) ∧ 0 < itemsN (cutIn s) ∧ (itemAt (cutIn s) 0).length < 9223372036854775808 ∧ (inItem (itemAt (cutIn s) 0)).length < 536870912 ∧ (ngetB (inItem (itemAt (cutIn s) 0)) = true → (ngetLeaf (inItem (itemAt (cutIn s) 0)) = true → ((0 : Int) ≤ (1 : Int) ∧ 1 < (↑(itemsN (cutIn s)) : Int)) ∧ 1 < itemsN (cutIn s) ∧ (itemAt (cutIn s) 1).length < 9223372036854775808 ∧ (cutL s = true → (decide ((↑(itemsN (cutIn s)) : Int) = 17) = true → (∃ (u96 : Nat), u96 ≤ 16 ∧ 0 = (u96 : Int) ∧
 SBle (SB.cells [SV.int .i64 true 3, SV.str false (ngetP (inItem (itemAt (cutIn s) 0))), SV.str false (inItem (itemAt (cutIn s) 1)), SV.str true [], SV.str true [], SV.str true [], SV.str true [], SV.str true [], SV.str true [], SV.str true [], SV.str true [], SV.str true [], SV.str true [], SV.str true [], SV.str true [], SV.str true [], SV.str true [], SV.str true [], SV.str true []] 19 25) (SB.cells [SV.int .i64 false 3, SV.str false [], SV.str false [], R0 0 u96, R0 1 u96, R0 2 u96, R0 3 u96, R0 4 u96, R0 5 u96, R0 6 u96, R0 7 u96, R0 8 u96, R0 9 u96, R0 10 u96, R0 11 u96, R0 12 u96, R0 13 u96, R0 14 u96, R0 15 u96] 19 25) ∧ SBle (P3 u97) (P3 u97) ∧ SBle P1 P1 ∧ True) ∧ ∀ (u95 : Nat), u95 ≤ 16 → (decide ((u95 : Int) < 16) = true → (0 ≤ (u95 : Int) ∧ (u95 : Int) < (↑(itemsN (cutIn s)) : Int)) ∧ 0 + (u95 : Int).toNat < itemsN (cutIn s) ∧ (0 : Nat) < (1152921504606846976 : Nat) ∧ some (P3 u97) = some (P3 u97) ∧ ((!decide (itemAt (cutIn s) (0 + (u95 : Int).toNat) = textOf [])) = true → (0 ≤ (u95 : Int) ∧ (u95 : Int) < (↑(itemsN (cutIn s)) : Int)) ∧ 0 + (u95 : Int).toNat < itemsN (cutIn s) ∧ (0 ≤ (u95 : Int) ∧ (u95 : Int) < 16) ∧ (u95 : Int).toNat < 16 ∧
 ((-9223372036854775808 : Int) ≤ (u95 : Int) + 1 ∧ (u95 : Int) + 1 ≤ (9223372036854775807 : Int)) ∧ ∃ (u94 : Nat), (u94 ≤ 16 ∧ 16 - u94 < 16 - u95) ∧ (u95 : Int) + 1 = (u94 : Int) ∧ SBle (SB.cells [SV.int .i64 false 3, SV.str false [], SV.str false [], R1 0 u95, R1 1 u95, R1 2 u95, R1 3 u95, R1 4 u95, R1 5 u95, R1 6 u95, R1 7 u95, R1 8 u95, R1 9 u95, R1 10 u95, R1 11 u95, R1 12 u95, R1 13 u95, R1 14 u95, R1 15 u95] 19 25) (SB.cells [SV.int .i64 false 3, SV.str false [], SV.str false [], R2 0 u94, R2 1 u94, R2 2 u94, R2 3 u94, R2 4 u94, R2 5 u94, R2 6 u94, R2 7 u94, R2 8 u94, R2 9 u94, R2 10 u94, R2 11 u94, R2 12 u94, R2 13 u94, R2 14 u94, R2 15 u94] 19 25) ∧ SBle (P3 u97) (P3 u97) ∧ SBle P1 P1 ∧ True) ∧ ((!decide (itemAt (cutIn s) (0 + (u95 : Int).toNat) = textOf [])) = false → ((-9223372036854775808 : Int) ≤ (u95 : Int) + 1 ∧ (u95 : Int) + 1 ≤ (9223372036854775807 : Int)) ∧ ∃ (u93 : Nat), (u93 ≤ 16 ∧ 16 - u93 < 16 - u95) ∧ (u95 : Int) + 1 = (u93 : Int) ∧
 SBle (SB.cells [SV.int .i64 false 3, SV.str false [], SV.str false [], R3 0 u95, R3 1 u95, R3 2 u95, R3 3 u95, R3 4 u95, R3 5 u95, R3 6 u95, R3 7 u95, R3 8 u95, R3 9 u95, R3 10 u95, R3 11 u95, R3 12 u95, R3 13 u95, R3 14 u95, R3 15 u95] 19 25) (SB.cells [SV.int .i64 false 3, SV.str false [], SV.str false [], R4 0 u93, R4 1 u93, R4 2 u93, R4 3 u93, R4 4 u93, R4 5 u93, R4 6 u93, R4 7 u93, R4 8 u93, R4 9 u93, R4 10 u93, R4 11 u93, R4 12 u93, R4 13 u93, R4 14 u93, R4 15 u93] 19 25) ∧ SBle (P3 u97) (P3 u97) ∧ SBle P1 P1 ∧ True)) ∧ (decide ((u95 : Int) < 16) = false → ((0 : Int) ≤ (16 : Int) ∧ 16 < (↑(itemsN (cutIn s)) : Int)) ∧ 16 < itemsN (cutIn s) ∧ (itemAt (cutIn s) 16).length < 9223372036854775808 ∧ ((RelR L fun (u92 : Nat) => [rdI (cutIn s) u95 0, rdI (cutIn s) u95 1, rdI (cutIn s) u95 2, rdI (cutIn s) u95 3, rdI (cutIn s) u95 4, rdI (cutIn s) u95 5, rdI (cutIn s) u95 6, rdI (cutIn s) u95 7, rdI (cutIn s) u95 8, rdI (cutIn s) u95 9, rdI (cutIn s) u95 10, rdI (cutIn s) u95 11, rdI (cutIn s) u95 12, rdI (cutIn s) u95 13, rdI (cutIn s) u95 14, rdI (cutIn s) u95 15].getD u92 []) ∧ (0 : Nat) < (1152921504606846976 : Nat)) ∧
 (validB { k := (3 : Int), p := [], v := inItem (itemAt (cutIn s) 16), r := fun (u91 : Nat) => [rdI (cutIn s) u95 0, rdI (cutIn s) u95 1, rdI (cutIn s) u95 2, rdI (cutIn s) u95 3, rdI (cutIn s) u95 4, rdI (cutIn s) u95 5, rdI (cutIn s) u95 6, rdI (cutIn s) u95 7, rdI (cutIn s) u95 8, rdI (cutIn s) u95 9, rdI (cutIn s) u95 10, rdI (cutIn s) u95 11, rdI (cutIn s) u95 12, rdI (cutIn s) u95 13, rdI (cutIn s) u95 14, rdI (cutIn s) u95 15].getD u91 [] : Nd } = true → ((!decide (putT { k := (3 : Int), p := [], v := inItem (itemAt (cutIn s) 16), r := fun (u90 : Nat) => [rdI (cutIn s) u95 0, rdI (cutIn s) u95 1, rdI (cutIn s) u95 2, rdI (cutIn s) u95 3, rdI (cutIn s) u95 4, rdI (cutIn s) u95 5, rdI (cutIn s) u95 6, rdI (cutIn s) u95 7, rdI (cutIn s) u95 8, rdI (cutIn s) u95 9, rdI (cutIn s) u95 10, rdI (cutIn s) u95 11, rdI (cutIn s) u95 12, rdI (cutIn s) u95 13, rdI (cutIn s) u95 14, rdI (cutIn s) u95 15].getD u90 [] : Nd } = s)) = true → (getB' s = true → sameVal P0 P4) ∧ (getB' s = false → sameVal P0 P5)) ∧
 ((!decide (putT { k := (3 : Int), p := [], v := inItem (itemAt (cutIn s) 16), r := fun (u89 : Nat) => [rdI (cutIn s) u95 0, rdI (cutIn s) u95 1, rdI (cutIn s) u95 2, rdI (cutIn s) u95 3, rdI (cutIn s) u95 4, rdI (cutIn s) u95 5, rdI (cutIn s) u95 6, rdI (cutIn s) u95 7, rdI (cutIn s) u95 8, rdI (cutIn s) u95 9, rdI (cutIn s) u95 10, rdI (cutIn s) u95 11, rdI (cutIn s) u95 12, rdI (cutIn s) u95 13, rdI (cutIn s) u95 14, rdI (cutIn s) u95 15].getD u89 [] : Nd } = s)) = false → (getB' s = true → sameVal (P11 u95) P4) ∧ (getB' s = false → sameVal (P11 u95) P5))) ∧ (validB { k := (3 : Int), p := [], v := inItem (itemAt (cutIn s) 16), r := fun (u88 : Nat) => [rdI (cutIn s) u95 0, rdI (cutIn s) u95 1, rdI (cutIn s) u95 2, rdI (cutIn s) u95 3, rdI (cutIn s) u95 4, rdI (cutIn s) u95 5, rdI (cutIn s) u95 6, rdI (cutIn s) u95 7, rdI (cutIn s) u95 8, rdI (cutIn s) u95 9, rdI (cutIn s) u95 10, rdI (cutIn s) u95 11, rdI (cutIn s) u95 12, rdI (cutIn s) u95 13, rdI (cutIn s) u95 14, rdI (cutIn s) u95 15].getD u88 [] : Nd } = false → (getB' s = true → sameVal P0 P4) ∧ (getB' s = false → sameVal P0 P5)))) ∧ (decide ((↑(itemsN (cutIn s)) : Int) = 17) = false →
 ((RelR L fun (u87 : Nat) => [[], [], [], [], [], [], [], [], [], [], [], [], [], [], [], []].getD u87 []) ∧ (ngetP (inItem (itemAt (cutIn s) 0))).length < 1152921504606846976) ∧ (validB { k := (1 : Int), p := ngetP (inItem (itemAt (cutIn s) 0)), v := inItem (itemAt (cutIn s) 1), r := fun (u86 : Nat) => [[], [], [], [], [], [], [], [], [], [], [], [], [], [], [], []].getD u86 [] : Nd } = true → ((!decide (putT { k := (1 : Int), p := ngetP (inItem (itemAt (cutIn s) 0)), v := inItem (itemAt (cutIn s) 1), r := fun (u85 : Nat) => [[], [], [], [], [], [], [], [], [], [], [], [], [], [], [], []].getD u85 [] : Nd } = s)) = true → (getB' s = true → sameVal P0 P4) ∧ (getB' s = false → sameVal P0 P5)) ∧ ((!decide (putT { k := (1 : Int), p := ngetP (inItem (itemAt (cutIn s) 0)), v := inItem (itemAt (cutIn s) 1), r := fun (u84 : Nat) => [[], [], [], [], [], [], [], [], [], [], [], [], [], [], [], []].getD u84 [] : Nd } = s)) = false → (getB' s = true → sameVal P6 P4) ∧ (getB' s = false → sameVal P6 P5))) ∧
 (validB { k := (1 : Int), p := ngetP (inItem (itemAt (cutIn s) 0)), v := inItem (itemAt (cutIn s) 1), r := fun (u83 : Nat) => [[], [], [], [], [], [], [], [], [], [], [], [], [], [], [], []].getD u83 [] : Nd } = false → (getB' s = true → sameVal P0 P4) ∧ (getB' s = false → sameVal P0 P5)))) ∧ (cutL s = false → ((RelR L fun (u82 : Nat) => [[], [], [], [], [], [], [], [], [], [], [], [], [], [], [], []].getD u82 []) ∧ (ngetP (inItem (itemAt (cutIn s) 0))).length < 1152921504606846976) ∧ (validB { k := (1 : Int), p := ngetP (inItem (itemAt (cutIn s) 0)), v := inItem (itemAt (cutIn s) 1), r := fun (u81 : Nat) => [[], [], [], [], [], [], [], [], [], [], [], [], [], [], [], []].getD u81 [] : Nd } = true → ((!decide (putT { k := (1 : Int), p := ngetP (inItem (itemAt (cutIn s) 0)), v := inItem (itemAt (cutIn s) 1), r := fun (u80 : Nat) => [[], [], [], [], [], [], [], [], [], [], [], [], [], [], [], []].getD u80 [] : Nd } = s)) = true → (getB' s = true → sameVal P0 P4) ∧ (getB' s = false → sameVal P0 P5)) ∧
 ((!decide (putT { k := (1 : Int), p := ngetP (inItem (itemAt (cutIn s) 0)), v := inItem (itemAt (cutIn s) 1), r := fun (u79 : Nat) => [[], [], [], [], [], [], [], [], [], [], [], [], [], [], [], []].getD u79 [] : Nd } = s)) = false → (getB' s = true → sameVal P6 P4) ∧ (getB' s = false → sameVal P6 P5))) ∧ (validB { k := (1 : Int), p := ngetP (inItem (itemAt (cutIn s) 0)), v := inItem (itemAt (cutIn s) 1), r := fun (u78 : Nat) => [[], [], [], [], [], [], [], [], [], [], [], [], [], [], [], []].getD u78 [] : Nd } = false → (getB' s = true → sameVal P0 P4) ∧ (getB' s = false → sameVal P0 P5)))) ∧ (ngetLeaf (inItem (itemAt (cutIn s) 0)) = false → ((0 : Int) ≤ (1 : Int) ∧ 1 < (↑(itemsN (cutIn s)) : Int)) ∧ 1 < itemsN (cutIn s) ∧ (cutL s = true → (decide ((↑(itemsN (cutIn s)) : Int) = 17) = true → (∃ (u77 : Nat), u77 ≤ 16 ∧ 0 = (u77 : Int) ∧
 SBle (SB.cells [SV.int .i64 true 3, SV.str false (ngetP (inItem (itemAt (cutIn s) 0))), SV.str true [], SV.str false (itemAt (cutIn s) 1), SV.str true [], SV.str true [], SV.str true [], SV.str true [], SV.str true [], SV.str true [], SV.str true [], SV.str true [], SV.str true [], SV.str true [], SV.str true [], SV.str true [], SV.str true [], SV.str true [], SV.str true []] 19 25) (SB.cells [SV.int .i64 false 3, SV.str false [], SV.str false [], R5 0 u77, R5 1 u77, R5 2 u77, R5 3 u77, R5 4 u77, R5 5 u77, R5 6 u77, R5 7 u77, R5 8 u77, R5 9 u77, R5 10 u77, R5 11 u77, R5 12 u77, R5 13 u77, R5 14 u77, R5 15 u77] 19 25) ∧ SBle (P3 u97) (P3 u97) ∧ SBle P1 P1 ∧ True) ∧ ∀ (u76 : Nat), u76 ≤ 16 → (decide ((u76 : Int) < 16) = true → (0 ≤ (u76 : Int) ∧ (u76 : Int) < (↑(itemsN (cutIn s)) : Int)) ∧ 0 + (u76 : Int).toNat < itemsN (cutIn s) ∧ (0 : Nat) < (1152921504606846976 : Nat) ∧ some (P3 u97) = some (P3 u97) ∧ ((!decide (itemAt (cutIn s) (0 + (u76 : Int).toNat) = textOf [])) = true → (0 ≤ (u76 : Int) ∧ (u76 : Int) < (↑(itemsN (cutIn s)) : Int)) ∧ 0 + (u76 : Int).toNat < itemsN (cutIn s) ∧ (0 ≤ (u76 : Int) ∧ (u76 : Int) < 16) ∧ (u76 : Int).toNat < 16 ∧
 ((-9223372036854775808 : Int) ≤ (u76 : Int) + 1 ∧ (u76 : Int) + 1 ≤ (9223372036854775807 : Int)) ∧ ∃ (u75 : Nat), (u75 ≤ 16 ∧ 16 - u75 < 16 - u76) ∧ (u76 : Int) + 1 = (u75 : Int) ∧ SBle (SB.cells [SV.int .i64 false 3, SV.str false [], SV.str false [], R6 0 u76, R6 1 u76, R6 2 u76, R6 3 u76, R6 4 u76, R6 5 u76, R6 6 u76, R6 7 u76, R6 8 u76, R6 9 u76, R6 10 u76, R6 11 u76, R6 12 u76, R6 13 u76, R6 14 u76, R6 15 u76] 19 25) (SB.cells [SV.int .i64 false 3, SV.str false [], SV.str false [], R7 0 u75, R7 1 u75, R7 2 u75, R7 3 u75, R7 4 u75, R7 5 u75, R7 6 u75, R7 7 u75, R7 8 u75, R7 9 u75, R7 10 u75, R7 11 u75, R7 12 u75, R7 13 u75, R7 14 u75, R7 15 u75] 19 25) ∧ SBle (P3 u97) (P3 u97) ∧ SBle P1 P1 ∧ True) ∧ ((!decide (itemAt (cutIn s) (0 + (u76 : Int).toNat) = textOf [])) = false → ((-9223372036854775808 : Int) ≤ (u76 : Int) + 1 ∧ (u76 : Int) + 1 ≤ (9223372036854775807 : Int)) ∧ ∃ (u74 : Nat), (u74 ≤ 16 ∧ 16 - u74 < 16 - u76) ∧ (u76 : Int) + 1 = (u74 : Int) ∧
 SBle (SB.cells [SV.int .i64 false 3, SV.str false [], SV.str false [], R8 0 u76, R8 1 u76, R8 2 u76, R8 3 u76, R8 4 u76, R8 5 u76, R8 6 u76, R8 7 u76, R8 8 u76, R8 9 u76, R8 10 u76, R8 11 u76, R8 12 u76, R8 13 u76, R8 14 u76, R8 15 u76] 19 25) (SB.cells [SV.int .i64 false 3, SV.str false [], SV.str false [], R9 0 u74, R9 1 u74, R9 2 u74, R9 3 u74, R9 4 u74, R9 5 u74, R9 6 u74, R9 7 u74, R9 8 u74, R9 9 u74, R9 10 u74, R9 11 u74, R9 12 u74, R9 13 u74, R9 14 u74, R9 15 u74] 19 25) ∧ SBle (P3 u97) (P3 u97) ∧ SBle P1 P1 ∧ True)) ∧ (decide ((u76 : Int) < 16) = false → ((0 : Int) ≤ (16 : Int) ∧ 16 < (↑(itemsN (cutIn s)) : Int)) ∧ 16 < itemsN (cutIn s) ∧ (itemAt (cutIn s) 16).length < 9223372036854775808 ∧ ((RelR L fun (u73 : Nat) => [rdI (cutIn s) u76 0, rdI (cutIn s) u76 1, rdI (cutIn s) u76 2, rdI (cutIn s) u76 3, rdI (cutIn s) u76 4, rdI (cutIn s) u76 5, rdI (cutIn s) u76 6, rdI (cutIn s) u76 7, rdI (cutIn s) u76 8, rdI (cutIn s) u76 9, rdI (cutIn s) u76 10, rdI (cutIn s) u76 11, rdI (cutIn s) u76 12, rdI (cutIn s) u76 13, rdI (cutIn s) u76 14, rdI (cutIn s) u76 15].getD u73 []) ∧ (0 : Nat) < (1152921504606846976 : Nat)) ∧
 (validB { k := (3 : Int), p := [], v := inItem (itemAt (cutIn s) 16), r := fun (u72 : Nat) => [rdI (cutIn s) u76 0, rdI (cutIn s) u76 1, rdI (cutIn s) u76 2, rdI (cutIn s) u76 3, rdI (cutIn s) u76 4, rdI (cutIn s) u76 5, rdI (cutIn s) u76 6, rdI (cutIn s) u76 7, rdI (cutIn s) u76 8, rdI (cutIn s) u76 9, rdI (cutIn s) u76 10, rdI (cutIn s) u76 11, rdI (cutIn s) u76 12, rdI (cutIn s) u76 13, rdI (cutIn s) u76 14, rdI (cutIn s) u76 15].getD u72 [] : Nd } = true → ((!decide (putT { k := (3 : Int), p := [], v := inItem (itemAt (cutIn s) 16), r := fun (u71 : Nat) => [rdI (cutIn s) u76 0, rdI (cutIn s) u76 1, rdI (cutIn s) u76 2, rdI (cutIn s) u76 3, rdI (cutIn s) u76 4, rdI (cutIn s) u76 5, rdI (cutIn s) u76 6, rdI (cutIn s) u76 7, rdI (cutIn s) u76 8, rdI (cutIn s) u76 9, rdI (cutIn s) u76 10, rdI (cutIn s) u76 11, rdI (cutIn s) u76 12, rdI (cutIn s) u76 13, rdI (cutIn s) u76 14, rdI (cutIn s) u76 15].getD u71 [] : Nd } = s)) = true → (getB' s = true → sameVal P0 P4) ∧ (getB' s = false → sameVal P0 P5)) ∧
 ((!decide (putT { k := (3 : Int), p := [], v := inItem (itemAt (cutIn s) 16), r := fun (u70 : Nat) => [rdI (cutIn s) u76 0, rdI (cutIn s) u76 1, rdI (cutIn s) u76 2, rdI (cutIn s) u76 3, rdI (cutIn s) u76 4, rdI (cutIn s) u76 5, rdI (cutIn s) u76 6, rdI (cutIn s) u76 7, rdI (cutIn s) u76 8, rdI (cutIn s) u76 9, rdI (cutIn s) u76 10, rdI (cutIn s) u76 11, rdI (cutIn s) u76 12, rdI (cutIn s) u76 13, rdI (cutIn s) u76 14, rdI (cutIn s) u76 15].getD u70 [] : Nd } = s)) = false → (getB' s = true → sameVal (P12 u76) P4) ∧ (getB' s = false → sameVal (P12 u76) P5))) ∧ (validB { k := (3 : Int), p := [], v := inItem (itemAt (cutIn s) 16), r := fun (u69 : Nat) => [rdI (cutIn s) u76 0, rdI (cutIn s) u76 1, rdI (cutIn s) u76 2, rdI (cutIn s) u76 3, rdI (cutIn s) u76 4, rdI (cutIn s) u76 5, rdI (cutIn s) u76 6, rdI (cutIn s) u76 7, rdI (cutIn s) u76 8, rdI (cutIn s) u76 9, rdI (cutIn s) u76 10, rdI (cutIn s) u76 11, rdI (cutIn s) u76 12, rdI (cutIn s) u76 13, rdI (cutIn s) u76 14, rdI (cutIn s) u76 15].getD u69 [] : Nd } = false → (getB' s = true → sameVal P0 P4) ∧ (getB' s = false → sameVal P0 P5)))) ∧ (decide ((↑(itemsN (cutIn s)) : Int) = 17) = false →
 ((RelR L fun (u68 : Nat) => [itemAt (cutIn s) 1, [], [], [], [], [], [], [], [], [], [], [], [], [], [], []].getD u68 []) ∧ (ngetP (inItem (itemAt (cutIn s) 0))).length < 1152921504606846976) ∧ (validB { k := (2 : Int), p := ngetP (inItem (itemAt (cutIn s) 0)), v := [], r := fun (u67 : Nat) => [itemAt (cutIn s) 1, [], [], [], [], [], [], [], [], [], [], [], [], [], [], []].getD u67 [] : Nd } = true → ((!decide (putT { k := (2 : Int), p := ngetP (inItem (itemAt (cutIn s) 0)), v := [], r := fun (u66 : Nat) => [itemAt (cutIn s) 1, [], [], [], [], [], [], [], [], [], [], [], [], [], [], []].getD u66 [] : Nd } = s)) = true → (getB' s = true → sameVal P0 P4) ∧ (getB' s = false → sameVal P0 P5)) ∧ ((!decide (putT { k := (2 : Int), p := ngetP (inItem (itemAt (cutIn s) 0)), v := [], r := fun (u65 : Nat) => [itemAt (cutIn s) 1, [], [], [], [], [], [], [], [], [], [], [], [], [], [], []].getD u65 [] : Nd } = s)) = false → (getB' s = true → sameVal P7 P4) ∧ (getB' s = false → sameVal P7 P5))) ∧
 (validB { k := (2 : Int), p := ngetP (inItem (itemAt (cutIn s) 0)), v := [], r := fun (u64 : Nat) => [itemAt (cutIn s) 1, [], [], [], [], [], [], [], [], [], [], [], [], [], [], []].getD u64 [] : Nd } = false → (getB' s = true → sameVal P0 P4) ∧ (getB' s = false → sameVal P0 P5)))) ∧ (cutL s = false → ((RelR L fun (u63 : Nat) => [itemAt (cutIn s) 1, [], [], [], [], [], [], [], [], [], [], [], [], [], [], []].getD u63 []) ∧ (ngetP (inItem (itemAt (cutIn s) 0))).length < 1152921504606846976) ∧ (validB { k := (2 : Int), p := ngetP (inItem (itemAt (cutIn s) 0)), v := [], r := fun (u62 : Nat) => [itemAt (cutIn s) 1, [], [], [], [], [], [], [], [], [], [], [], [], [], [], []].getD u62 [] : Nd } = true → ((!decide (putT { k := (2 : Int), p := ngetP (inItem (itemAt (cutIn s) 0)), v := [], r := fun (u61 : Nat) => [itemAt (cutIn s) 1, [], [], [], [], [], [], [], [], [], [], [], [], [], [], []].getD u61 [] : Nd } = s)) = true → (getB' s = true → sameVal P0 P4) ∧ (getB' s = false → sameVal P0 P5)) ∧
 ((!decide (putT { k := (2 : Int), p := ngetP (inItem (itemAt (cutIn s) 0)), v := [], r := fun (u60 : Nat) => [itemAt (cutIn s) 1, [], [], [], [], [], [], [], [], [], [], [], [], [], [], []].getD u60 [] : Nd } = s)) = false → (getB' s = true → sameVal P7 P4) ∧ (getB' s = false → sameVal P7 P5))) ∧ (validB { k := (2 : Int), p := ngetP (inItem (itemAt (cutIn s) 0)), v := [], r := fun (u59 : Nat) => [itemAt (cutIn s) 1, [], [], [], [], [], [], [], [], [], [], [], [], [], [], []].getD u59 [] : Nd } = false → (getB' s = true → sameVal P0 P4) ∧ (getB' s = false → sameVal P0 P5))))) ∧ (ngetB (inItem (itemAt (cutIn s) 0)) = false → (getB' s = true → sameVal P0 P4) ∧ (getB' s = false → sameVal P0 P5))) ∧ (decide ((↑(itemsN (cutIn s)) : Int) = 2) = false → (cutL s = true → (decide ((↑(itemsN (cutIn s)) : Int) = 17) = true → (∃ (u58 : Nat), u58 ≤ 16 ∧ 0 = (u58 : Int) ∧ SBle P8 (SB.cells [SV.int .i64 false 3, SV.str false [], SV.str false [], R10 0 u58, R10 1 u58, R10 2 u58, R10 3 u58, R10 4 u58, R10 5 u58, R10 6 u58, R10 7 u58, R10 8 u58, R10 9 u58, R10 10 u58, R10 11 u58, R10 12 u58, R10 13 u58, R10 14 u58, R10 15 u58] 19 25) ∧ SBle (P3 u97) (P3 u97) ∧ SBle P1 P1 ∧ True) ∧
 ∀ (u57 : Nat), u57 ≤ 16 → (decide ((u57 : Int) < 16) = true → (0 ≤ (u57 : Int) ∧ (u57 : Int) < (↑(itemsN (cutIn s)) : Int)) ∧ 0 + (u57 : Int).toNat < itemsN (cutIn s) ∧ (0 : Nat) < (1152921504606846976 : Nat) ∧ some (P3 u97) = some (P3 u97) ∧ ((!decide (itemAt (cutIn s) (0 + (u57 : Int).toNat) = textOf [])) = true → (0 ≤ (u57 : Int) ∧ (u57 : Int) < (↑(itemsN (cutIn s)) : Int)) ∧ 0 + (u57 : Int).toNat < itemsN (cutIn s) ∧ (0 ≤ (u57 : Int) ∧ (u57 : Int) < 16) ∧ (u57 : Int).toNat < 16 ∧ ((-9223372036854775808 : Int) ≤ (u57 : Int) + 1 ∧ (u57 : Int) + 1 ≤ (9223372036854775807 : Int)) ∧ ∃ (u56 : Nat), (u56 ≤ 16 ∧ 16 - u56 < 16 - u57) ∧ (u57 : Int) + 1 = (u56 : Int) ∧ SBle (SB.cells [SV.int .i64 false 3, SV.str false [], SV.str false [], R11 0 u57, R11 1 u57, R11 2 u57, R11 3 u57, R11 4 u57, R11 5 u57, R11 6 u57, R11 7 u57, R11 8 u57, R11 9 u57, R11 10 u57, R11 11 u57, R11 12 u57, R11 13 u57, R11 14 u57, R11 15 u57] 19 25) (SB.cells [SV.int .i64 false 3, SV.str false [], SV.str false [], R12 0 u56, R12 1 u56, R12 2 u56, R12 3 u56, R12 4 u56, R12 5 u56, R12 6 u56, R12 7 u56, R12 8 u56, R12 9 u56, R12 10 u56, R12 11 u56, R12 12 u56, R12 13 u56, R12 14 u56, R12 15 u56] 19 25) ∧
 SBle (P3 u97) (P3 u97) ∧ SBle P1 P1 ∧ True) ∧ ((!decide (itemAt (cutIn s) (0 + (u57 : Int).toNat) = textOf [])) = false → ((-9223372036854775808 : Int) ≤ (u57 : Int) + 1 ∧ (u57 : Int) + 1 ≤ (9223372036854775807 : Int)) ∧ ∃ (u55 : Nat), (u55 ≤ 16 ∧ 16 - u55 < 16 - u57) ∧ (u57 : Int) + 1 = (u55 : Int) ∧ SBle (SB.cells [SV.int .i64 false 3, SV.str false [], SV.str false [], R13 0 u57, R13 1 u57, R13 2 u57, R13 3 u57, R13 4 u57, R13 5 u57, R13 6 u57, R13 7 u57, R13 8 u57, R13 9 u57, R13 10 u57, R13 11 u57, R13 12 u57, R13 13 u57, R13 14 u57, R13 15 u57] 19 25) (SB.cells [SV.int .i64 false 3, SV.str false [], SV.str false [], R14 0 u55, R14 1 u55, R14 2 u55, R14 3 u55, R14 4 u55, R14 5 u55, R14 6 u55, R14 7 u55, R14 8 u55, R14 9 u55, R14 10 u55, R14 11 u55, R14 12 u55, R14 13 u55, R14 14 u55, R14 15 u55] 19 25) ∧ SBle (P3 u97) (P3 u97) ∧ SBle P1 P1 ∧ True)) ∧ (decide ((u57 : Int) < 16) = false → ((0 : Int) ≤ (16 : Int) ∧ 16 < (↑(itemsN (cutIn s)) : Int)) ∧ 16 < itemsN (cutIn s) ∧ (itemAt (cutIn s) 16).length < 9223372036854775808 ∧
 ((RelR L fun (u54 : Nat) => [rdI (cutIn s) u57 0, rdI (cutIn s) u57 1, rdI (cutIn s) u57 2, rdI (cutIn s) u57 3, rdI (cutIn s) u57 4, rdI (cutIn s) u57 5, rdI (cutIn s) u57 6, rdI (cutIn s) u57 7, rdI (cutIn s) u57 8, rdI (cutIn s) u57 9, rdI (cutIn s) u57 10, rdI (cutIn s) u57 11, rdI (cutIn s) u57 12, rdI (cutIn s) u57 13, rdI (cutIn s) u57 14, rdI (cutIn s) u57 15].getD u54 []) ∧ (0 : Nat) < (1152921504606846976 : Nat)) ∧ (validB { k := (3 : Int), p := [], v := inItem (itemAt (cutIn s) 16), r := fun (u53 : Nat) => [rdI (cutIn s) u57 0, rdI (cutIn s) u57 1, rdI (cutIn s) u57 2, rdI (cutIn s) u57 3, rdI (cutIn s) u57 4, rdI (cutIn s) u57 5, rdI (cutIn s) u57 6, rdI (cutIn s) u57 7, rdI (cutIn s) u57 8, rdI (cutIn s) u57 9, rdI (cutIn s) u57 10, rdI (cutIn s) u57 11, rdI (cutIn s) u57 12, rdI (cutIn s) u57 13, rdI (cutIn s) u57 14, rdI (cutIn s) u57 15].getD u53 [] : Nd } = true →
 ((!decide (putT { k := (3 : Int), p := [], v := inItem (itemAt (cutIn s) 16), r := fun (u52 : Nat) => [rdI (cutIn s) u57 0, rdI (cutIn s) u57 1, rdI (cutIn s) u57 2, rdI (cutIn s) u57 3, rdI (cutIn s) u57 4, rdI (cutIn s) u57 5, rdI (cutIn s) u57 6, rdI (cutIn s) u57 7, rdI (cutIn s) u57 8, rdI (cutIn s) u57 9, rdI (cutIn s) u57 10, rdI (cutIn s) u57 11, rdI (cutIn s) u57 12, rdI (cutIn s) u57 13, rdI (cutIn s) u57 14, rdI (cutIn s) u57 15].getD u52 [] : Nd } = s)) = true → (getB' s = true → sameVal P0 P4) ∧ (getB' s = false → sameVal P0 P5)) ∧ ((!decide (putT { k := (3 : Int), p := [], v := inItem (itemAt (cutIn s) 16), r := fun (u51 : Nat) => [rdI (cutIn s) u57 0, rdI (cutIn s) u57 1, rdI (cutIn s) u57 2, rdI (cutIn s) u57 3, rdI (cutIn s) u57 4, rdI (cutIn s) u57 5, rdI (cutIn s) u57 6, rdI (cutIn s) u57 7, rdI (cutIn s) u57 8, rdI (cutIn s) u57 9, rdI (cutIn s) u57 10, rdI (cutIn s) u57 11, rdI (cutIn s) u57 12, rdI (cutIn s) u57 13, rdI (cutIn s) u57 14, rdI (cutIn s) u57 15].getD u51 [] : Nd } = s)) = false → (getB' s = true → sameVal (P9 u57) P4) ∧ (getB' s = false → sameVal (P9 u57) P5))) ∧
 (validB { k := (3 : Int), p := [], v := inItem (itemAt (cutIn s) 16), r := fun (u50 : Nat) => [rdI (cutIn s) u57 0, rdI (cutIn s) u57 1, rdI (cutIn s) u57 2, rdI (cutIn s) u57 3, rdI (cutIn s) u57 4, rdI (cutIn s) u57 5, rdI (cutIn s) u57 6, rdI (cutIn s) u57 7, rdI (cutIn s) u57 8, rdI (cutIn s) u57 9, rdI (cutIn s) u57 10, rdI (cutIn s) u57 11, rdI (cutIn s) u57 12, rdI (cutIn s) u57 13, rdI (cutIn s) u57 14, rdI (cutIn s) u57 15].getD u50 [] : Nd } = false → (getB' s = true → sameVal P0 P4) ∧ (getB' s = false → sameVal P0 P5)))) ∧ (decide ((↑(itemsN (cutIn s)) : Int) = 17) = false → ((RelR L fun (u49 : Nat) => [[], [], [], [], [], [], [], [], [], [], [], [], [], [], [], []].getD u49 []) ∧ (0 : Nat) < (1152921504606846976 : Nat)) ∧ (validB { k := (0 : Int), p := [], v := [], r := fun (u48 : Nat) => [[], [], [], [], [], [], [], [], [], [], [], [], [], [], [], []].getD u48 [] : Nd } = true → ((!decide (putT { k := (0 : Int), p := [], v := [], r := fun (u47 : Nat) => [[], [], [], [], [], [], [], [], [], [], [], [], [], [], [], []].getD u47 [] : Nd } = s)) = true → (getB' s = true → sameVal P0 P4) ∧ (getB' s = false → sameVal P0 P5)) ∧
 ((!decide (putT { k := (0 : Int), p := [], v := [], r := fun (u46 : Nat) => [[], [], [], [], [], [], [], [], [], [], [], [], [], [], [], []].getD u46 [] : Nd } = s)) = false → (getB' s = true → sameVal P2 P4) ∧ (getB' s = false → sameVal P2 P5))) ∧ (validB { k := (0 : Int), p := [], v := [], r := fun (u45 : Nat) => [[], [], [], [], [], [], [], [], [], [], [], [], [], [], [], []].getD u45 [] : Nd } = false → (getB' s = true → sameVal P0 P4) ∧ (getB' s = false → sameVal P0 P5)))) ∧ (cutL s = false → ((RelR L fun (u44 : Nat) => [[], [], [], [], [], [], [], [], [], [], [], [], [], [], [], []].getD u44 []) ∧ (0 : Nat) < (1152921504606846976 : Nat)) ∧ (validB { k := (0 : Int), p := [], v := [], r := fun (u43 : Nat) => [[], [], [], [], [], [], [], [], [], [], [], [], [], [], [], []].getD u43 [] : Nd } = true → ((!decide (putT { k := (0 : Int), p := [], v := [], r := fun (u42 : Nat) => [[], [], [], [], [], [], [], [], [], [], [], [], [], [], [], []].getD u42 [] : Nd } = s)) = true → (getB' s = true → sameVal P0 P4) ∧ (getB' s = false → sameVal P0 P5)) ∧
 ((!decide (putT { k := (0 : Int), p := [], v := [], r := fun (u41 : Nat) => [[], [], [], [], [], [], [], [], [], [], [], [], [], [], [], []].getD u41 [] : Nd } = s)) = false → (getB' s = true → sameVal P2 P4) ∧ (getB' s = false → sameVal P2 P5))) ∧ (validB { k := (0 : Int), p := [], v := [], r := fun (u40 : Nat) => [[], [], [], [], [], [], [], [], [], [], [], [], [], [], [], []].getD u40 [] : Nd } = false → (getB' s = true → sameVal P0 P4) ∧ (getB' s = false → sameVal P0 P5))))) ∧ (cutL s = false → (cutL s = true → (decide ((↑(itemsN (cutIn s)) : Int) = 17) = true → (∃ (u39 : Nat), u39 ≤ 16 ∧ 0 = (u39 : Int) ∧ SBle P8 (SB.cells [SV.int .i64 false 3, SV.str false [], SV.str false [], R15 0 u39, R15 1 u39, R15 2 u39, R15 3 u39, R15 4 u39, R15 5 u39, R15 6 u39, R15 7 u39, R15 8 u39, R15 9 u39, R15 10 u39, R15 11 u39, R15 12 u39, R15 13 u39, R15 14 u39, R15 15 u39] 19 25) ∧ SBle (P3 u97) (P3 u97) ∧ SBle P1 P1 ∧ True) ∧ ∀ (u38 : Nat), u38 ≤ 16 → (decide ((u38 : Int) < 16) = true → (0 ≤ (u38 : Int) ∧ (u38 : Int) < (↑(itemsN (cutIn s)) : Int)) ∧ 0 + (u38 : Int).toNat < itemsN (cutIn s) ∧ (0 : Nat) < (1152921504606846976 : Nat) ∧ some (P3 u97) = some (P3 u97) ∧
 ((!decide (itemAt (cutIn s) (0 + (u38 : Int).toNat) = textOf [])) = true → (0 ≤ (u38 : Int) ∧ (u38 : Int) < (↑(itemsN (cutIn s)) : Int)) ∧ 0 + (u38 : Int).toNat < itemsN (cutIn s) ∧ (0 ≤ (u38 : Int) ∧ (u38 : Int) < 16) ∧ (u38 : Int).toNat < 16 ∧ ((-9223372036854775808 : Int) ≤ (u38 : Int) + 1 ∧ (u38 : Int) + 1 ≤ (9223372036854775807 : Int)) ∧ ∃ (u37 : Nat), (u37 ≤ 16 ∧ 16 - u37 < 16 - u38) ∧ (u38 : Int) + 1 = (u37 : Int) ∧ SBle (SB.cells [SV.int .i64 false 3, SV.str false [], SV.str false [], R16 0 u38, R16 1 u38, R16 2 u38, R16 3 u38, R16 4 u38, R16 5 u38, R16 6 u38, R16 7 u38, R16 8 u38, R16 9 u38, R16 10 u38, R16 11 u38, R16 12 u38, R16 13 u38, R16 14 u38, R16 15 u38] 19 25) (SB.cells [SV.int .i64 false 3, SV.str false [], SV.str false [], R17 0 u37, R17 1 u37, R17 2 u37, R17 3 u37, R17 4 u37, R17 5 u37, R17 6 u37, R17 7 u37, R17 8 u37, R17 9 u37, R17 10 u37, R17 11 u37, R17 12 u37, R17 13 u37, R17 14 u37, R17 15 u37] 19 25) ∧ SBle (P3 u97) (P3 u97) ∧ SBle P1 P1 ∧ True) ∧ ((!decide (itemAt (cutIn s) (0 + (u38 : Int).toNat) = textOf [])) = false → ((-9223372036854775808 : Int) ≤ (u38 : Int) + 1 ∧ (u38 : Int) + 1 ≤ (9223372036854775807 : Int)) ∧ ∃ (u36 : Nat), (u36 ≤ 16 ∧
 16 - u36 < 16 - u38) ∧ (u38 : Int) + 1 = (u36 : Int) ∧ SBle (SB.cells [SV.int .i64 false 3, SV.str false [], SV.str false [], R18 0 u38, R18 1 u38, R18 2 u38, R18 3 u38, R18 4 u38, R18 5 u38, R18 6 u38, R18 7 u38, R18 8 u38, R18 9 u38, R18 10 u38, R18 11 u38, R18 12 u38, R18 13 u38, R18 14 u38, R18 15 u38] 19 25) (SB.cells [SV.int .i64 false 3, SV.str false [], SV.str false [], R19 0 u36, R19 1 u36, R19 2 u36, R19 3 u36, R19 4 u36, R19 5 u36, R19 6 u36, R19 7 u36, R19 8 u36, R19 9 u36, R19 10 u36, R19 11 u36, R19 12 u36, R19 13 u36, R19 14 u36, R19 15 u36] 19 25) ∧ SBle (P3 u97) (P3 u97) ∧ SBle P1 P1 ∧ True)) ∧ (decide ((u38 : Int) < 16) = false → ((0 : Int) ≤ (16 : Int) ∧ 16 < (↑(itemsN (cutIn s)) : Int)) ∧ 16 < itemsN (cutIn s) ∧ (itemAt (cutIn s) 16).length < 9223372036854775808 ∧ ((RelR L fun (u35 : Nat) => [rdI (cutIn s) u38 0, rdI (cutIn s) u38 1, rdI (cutIn s) u38 2, rdI (cutIn s) u38 3, rdI (cutIn s) u38 4, rdI (cutIn s) u38 5, rdI (cutIn s) u38 6, rdI (cutIn s) u38 7, rdI (cutIn s) u38 8, rdI (cutIn s) u38 9, rdI (cutIn s) u38 10, rdI (cutIn s) u38 11, rdI (cutIn s) u38 12, rdI (cutIn s) u38 13, rdI (cutIn s) u38 14, rdI (cutIn s) u38 15].getD u35 []) ∧
 (0 : Nat) < (1152921504606846976 : Nat)) ∧ (validB { k := (3 : Int), p := [], v := inItem (itemAt (cutIn s) 16), r := fun (u34 : Nat) => [rdI (cutIn s) u38 0, rdI (cutIn s) u38 1, rdI (cutIn s) u38 2, rdI (cutIn s) u38 3, rdI (cutIn s) u38 4, rdI (cutIn s) u38 5, rdI (cutIn s) u38 6, rdI (cutIn s) u38 7, rdI (cutIn s) u38 8, rdI (cutIn s) u38 9, rdI (cutIn s) u38 10, rdI (cutIn s) u38 11, rdI (cutIn s) u38 12, rdI (cutIn s) u38 13, rdI (cutIn s) u38 14, rdI (cutIn s) u38 15].getD u34 [] : Nd } = true → ((!decide (putT { k := (3 : Int), p := [], v := inItem (itemAt (cutIn s) 16), r := fun (u33 : Nat) => [rdI (cutIn s) u38 0, rdI (cutIn s) u38 1, rdI (cutIn s) u38 2, rdI (cutIn s) u38 3, rdI (cutIn s) u38 4, rdI (cutIn s) u38 5, rdI (cutIn s) u38 6, rdI (cutIn s) u38 7, rdI (cutIn s) u38 8, rdI (cutIn s) u38 9, rdI (cutIn s) u38 10, rdI (cutIn s) u38 11, rdI (cutIn s) u38 12, rdI (cutIn s) u38 13, rdI (cutIn s) u38 14, rdI (cutIn s) u38 15].getD u33 [] : Nd } = s)) = true → (getB' s = true → sameVal P0 P4) ∧ (getB' s = false → sameVal P0 P5)) ∧
 ((!decide (putT { k := (3 : Int), p := [], v := inItem (itemAt (cutIn s) 16), r := fun (u32 : Nat) => [rdI (cutIn s) u38 0, rdI (cutIn s) u38 1, rdI (cutIn s) u38 2, rdI (cutIn s) u38 3, rdI (cutIn s) u38 4, rdI (cutIn s) u38 5, rdI (cutIn s) u38 6, rdI (cutIn s) u38 7, rdI (cutIn s) u38 8, rdI (cutIn s) u38 9, rdI (cutIn s) u38 10, rdI (cutIn s) u38 11, rdI (cutIn s) u38 12, rdI (cutIn s) u38 13, rdI (cutIn s) u38 14, rdI (cutIn s) u38 15].getD u32 [] : Nd } = s)) = false → (getB' s = true → sameVal (P10 u38) P4) ∧ (getB' s = false → sameVal (P10 u38) P5))) ∧ (validB { k := (3 : Int), p := [], v := inItem (itemAt (cutIn s) 16), r := fun (u31 : Nat) => [rdI (cutIn s) u38 0, rdI (cutIn s) u38 1, rdI (cutIn s) u38 2, rdI (cutIn s) u38 3, rdI (cutIn s) u38 4, rdI (cutIn s) u38 5, rdI (cutIn s) u38 6, rdI (cutIn s) u38 7, rdI (cutIn s) u38 8, rdI (cutIn s) u38 9, rdI (cutIn s) u38 10, rdI (cutIn s) u38 11, rdI (cutIn s) u38 12, rdI (cutIn s) u38 13, rdI (cutIn s) u38 14, rdI (cutIn s) u38 15].getD u31 [] : Nd } = false → (getB' s = true → sameVal P0 P4) ∧ (getB' s = false → sameVal P0 P5)))) ∧ (decide ((↑(itemsN (cutIn s)) : Int) = 17) = false →
 ((RelR L fun (u30 : Nat) => [[], [], [], [], [], [], [], [], [], [], [], [], [], [], [], []].getD u30 []) ∧ (0 : Nat) < (1152921504606846976 : Nat)) ∧ (validB { k := (0 : Int), p := [], v := [], r := fun (u29 : Nat) => [[], [], [], [], [], [], [], [], [], [], [], [], [], [], [], []].getD u29 [] : Nd } = true → ((!decide (putT { k := (0 : Int), p := [], v := [], r := fun (u28 : Nat) => [[], [], [], [], [], [], [], [], [], [], [], [], [], [], [], []].getD u28 [] : Nd } = s)) = true → (getB' s = true → sameVal P0 P4) ∧ (getB' s = false → sameVal P0 P5)) ∧ ((!decide (putT { k := (0 : Int), p := [], v := [], r := fun (u27 : Nat) => [[], [], [], [], [], [], [], [], [], [], [], [], [], [], [], []].getD u27 [] : Nd } = s)) = false → (getB' s = true → sameVal P2 P4) ∧ (getB' s = false → sameVal P2 P5))) ∧ (validB { k := (0 : Int), p := [], v := [], r := fun (u26 : Nat) => [[], [], [], [], [], [], [], [], [], [], [], [], [], [], [], []].getD u26 [] : Nd } = false → (getB' s = true → sameVal P0 P4) ∧ (getB' s = false → sameVal P0 P5)))) ∧ (cutL s = false → ((RelR L fun (u25 : Nat) => [[], [], [], [], [], [], [], [], [], [], [], [], [], [], [], []].getD u25 []) ∧
 (0 : Nat) < (1152921504606846976 : Nat)) ∧ (validB { k := (0 : Int), p := [], v := [], r := fun (u24 : Nat) => [[], [], [], [], [], [], [], [], [], [], [], [], [], [], [], []].getD u24 [] : Nd } = true → ((!decide (putT { k := (0 : Int), p := [], v := [], r := fun (u23 : Nat) => [[], [], [], [], [], [], [], [], [], [], [], [], [], [], [], []].getD u23 [] : Nd } = s)) = true → (getB' s = true → sameVal P0 P4) ∧ (getB' s = false → sameVal P0 P5)) ∧ ((!decide (putT { k := (0 : Int), p := [], v := [], r := fun (u22 : Nat) => [[], [], [], [], [], [], [], [], [], [], [], [], [], [], [], []].getD u22 [] : Nd } = s)) = false → (getB' s = true → sameVal P2 P4) ∧ (getB' s = false → sameVal P2 P5))) ∧ (validB { k := (0 : Int), p := [], v := [], r := fun (u21 : Nat) => [[], [], [], [], [], [], [], [], [], [], [], [], [], [], [], []].getD u21 [] : Nd } = false → (getB' s = true → sameVal P0 P4) ∧ (getB' s = false → sameVal P0 P5))))) ∧ (itemsB (cutIn s) = false → (cutL s = true → (cutL s = true → ((RelR L fun (u20 : Nat) => [[], [], [], [], [], [], [], [], [], [], [], [], [], [], [], []].getD u20 []) ∧ (0 : Nat) < (1152921504606846976 : Nat)) ∧
 (validB { k := (0 : Int), p := [], v := [], r := fun (u19 : Nat) => [[], [], [], [], [], [], [], [], [], [], [], [], [], [], [], []].getD u19 [] : Nd } = true → ((!decide (putT { k := (0 : Int), p := [], v := [], r := fun (u18 : Nat) => [[], [], [], [], [], [], [], [], [], [], [], [], [], [], [], []].getD u18 [] : Nd } = s)) = true → (getB' s = true → sameVal P0 P4) ∧ (getB' s = false → sameVal P0 P5)) ∧ ((!decide (putT { k := (0 : Int), p := [], v := [], r := fun (u17 : Nat) => [[], [], [], [], [], [], [], [], [], [], [], [], [], [], [], []].getD u17 [] : Nd } = s)) = false → (getB' s = true → sameVal P2 P4) ∧ (getB' s = false → sameVal P2 P5))) ∧ (validB { k := (0 : Int), p := [], v := [], r := fun (u16 : Nat) => [[], [], [], [], [], [], [], [], [], [], [], [], [], [], [], []].getD u16 [] : Nd } = false → (getB' s = true → sameVal P0 P4) ∧ (getB' s = false → sameVal P0 P5))) ∧ (cutL s = false → ((RelR L fun (u15 : Nat) => [[], [], [], [], [], [], [], [], [], [], [], [], [], [], [], []].getD u15 []) ∧ (0 : Nat) < (1152921504606846976 : Nat)) ∧
 (validB { k := (0 : Int), p := [], v := [], r := fun (u14 : Nat) => [[], [], [], [], [], [], [], [], [], [], [], [], [], [], [], []].getD u14 [] : Nd } = true → ((!decide (putT { k := (0 : Int), p := [], v := [], r := fun (u13 : Nat) => [[], [], [], [], [], [], [], [], [], [], [], [], [], [], [], []].getD u13 [] : Nd } = s)) = true → (getB' s = true → sameVal P0 P4) ∧ (getB' s = false → sameVal P0 P5)) ∧ ((!decide (putT { k := (0 : Int), p := [], v := [], r := fun (u12 : Nat) => [[], [], [], [], [], [], [], [], [], [], [], [], [], [], [], []].getD u12 [] : Nd } = s)) = false → (getB' s = true → sameVal P2 P4) ∧ (getB' s = false → sameVal P2 P5))) ∧ (validB { k := (0 : Int), p := [], v := [], r := fun (u11 : Nat) => [[], [], [], [], [], [], [], [], [], [], [], [], [], [], [], []].getD u11 [] : Nd } = false → (getB' s = true → sameVal P0 P4) ∧ (getB' s = false → sameVal P0 P5)))) ∧ (cutL s = false → (cutL s = true → ((RelR L fun (u10 : Nat) => [[], [], [], [], [], [], [], [], [], [], [], [], [], [], [], []].getD u10 []) ∧ (0 : Nat) < (1152921504606846976 : Nat)) ∧
 (validB { k := (0 : Int), p := [], v := [], r := fun (u9 : Nat) => [[], [], [], [], [], [], [], [], [], [], [], [], [], [], [], []].getD u9 [] : Nd } = true → ((!decide (putT { k := (0 : Int), p := [], v := [], r := fun (u8 : Nat) => [[], [], [], [], [], [], [], [], [], [], [], [], [], [], [], []].getD u8 [] : Nd } = s)) = true → (getB' s = true → sameVal P0 P4) ∧ (getB' s = false → sameVal P0 P5)) ∧ ((!decide (putT { k := (0 : Int), p := [], v := [], r := fun (u7 : Nat) => [[], [], [], [], [], [], [], [], [], [], [], [], [], [], [], []].getD u7 [] : Nd } = s)) = false → (getB' s = true → sameVal P2 P4) ∧ (getB' s = false → sameVal P2 P5))) ∧ (validB { k := (0 : Int), p := [], v := [], r := fun (u6 : Nat) => [[], [], [], [], [], [], [], [], [], [], [], [], [], [], [], []].getD u6 [] : Nd } = false → (getB' s = true → sameVal P0 P4) ∧ (getB' s = false → sameVal P0 P5))) ∧ (cutL s = false → ((RelR L fun (u5 : Nat) => [[], [], [], [], [], [], [], [], [], [], [], [], [], [], [], []].getD u5 []) ∧ (0 : Nat) < (1152921504606846976 : Nat)) ∧
 (validB { k := (0 : Int), p := [], v := [], r := fun (u4 : Nat) => [[], [], [], [], [], [], [], [], [], [], [], [], [], [], [], []].getD u4 [] : Nd } = true → ((!decide (putT { k := (0 : Int), p := [], v := [], r := fun (u3 : Nat) => [[], [], [], [], [], [], [], [], [], [], [], [], [], [], [], []].getD u3 [] : Nd } = s)) = true → (getB' s = true → sameVal P0 P4) ∧ (getB' s = false → sameVal P0 P5)) ∧ ((!decide (putT { k := (0 : Int), p := [], v := [], r := fun (u2 : Nat) => [[], [], [], [], [], [], [], [], [], [], [], [], [], [], [], []].getD u2 [] : Nd } = s)) = false → (getB' s = true → sameVal P2 P4) ∧ (getB' s = false → sameVal P2 P5))) ∧ (validB { k := (0 : Int), p := [], v := [], r := fun (u1 : Nat) => [[], [], [], [], [], [], [], [], [], [], [], [], [], [], [], []].getD u1 [] : Nd } = false → (getB' s = true → sameVal P0 P4) ∧ (getB' s = false → sameVal P0 P5)))))) ∧ (cutB s = false → (0 : Nat) < (1099511627776 : Nat) ∧ (itemsB [] = true → ∀ (u0 : Nat), 0 ≤ u0 → (getB' s = true → sameVal P0 P4) ∧ (getB' s = false → sameVal P0 P5)) ∧ (itemsB [] = false → (getB' s = true → sameVal P0 P4) ∧ (getB' s = false → sameVal P0 P5))))))) (fun (u76 : Nat) => (SV.tup [SV.agg [SV.int .i64 false 3, SV.str false [], SV.str false (inItem (itemAt (cutIn s) 16)), R8 0 u76, R8 1 u76, R8 2 u76, R8 3 u76, R8 4 u76, R8 5 u76, R8 6 u76, R8 7 u76, R8 8 u76, R8 9 u76, R8 10 u76, R8 11 u76, R8 12 u76, R8 13 u76, R8 14 u76, R8 15 u76], SV.bool true true])))) (fun (u95 : Nat) => (SV.tup [SV.agg [SV.int .i64 false 3, SV.str false [], SV.str false (inItem (itemAt (cutIn s) 16)), R3 0 u95, R3 1 u95, R3 2 u95, R3 3 u95, R3 4 u95, R3 5 u95, R3 6 u95, R3 7 u95, R3 8 u95, R3 9 u95, R3 10 u95, R3 11 u95, R3 12 u95, R3 13 u95, R3 14 u95, R3 15 u95], SV.bool true true])))) (fun (u38 : Nat) => (SV.tup [SV.agg [SV.int .i64 false 3, SV.str false [], SV.str false (inItem (itemAt (cutIn s) 16)), R18 0 u38, R18 1 u38, R18 2 u38, R18 3 u38, R18 4 u38, R18 5 u38, R18 6 u38, R18 7 u38, R18 8 u38, R18 9 u38, R18 10 u38, R18 11 u38, R18 12 u38, R18 13 u38, R18 14 u38, R18 15 u38], SV.bool true true])))) (fun (u57 : Nat) => (SV.tup [SV.agg [SV.int .i64 false 3, SV.str false [], SV.str false (inItem (itemAt (cutIn s) 16)), R13 0 u57, R13 1 u57, R13 2 u57, R13 3 u57, R13 4 u57, R13 5 u57, R13 6 u57, R13 7 u57, R13 8 u57, R13 9 u57, R13 10 u57, R13 11 u57, R13 12 u57, R13 13 u57, R13 14 u57, R13 15 u57], SV.bool true true])))) (SB.cells [SV.int .i64 true 3, SV.str true [], SV.str true [], SV.str true [], SV.str true [], SV.str true [], SV.str true [], SV.str true [], SV.str true [], SV.str true [], SV.str true [], SV.str true [], SV.str true [], SV.str true [], SV.str true [], SV.str true [], SV.str true [], SV.str true [], SV.str true []] 19 25))) (SV.tup [SV.agg [SV.int .i64 true 2, SV.str false (ngetP (inItem (itemAt (cutIn s) 0))), SV.str true [], Col.at 1 (Col.str (itemAt (cutIn s))), SV.str true [], SV.str true [], SV.str true [], SV.str true [], SV.str true [], SV.str true [], SV.str true [], SV.str true [], SV.str true [], SV.str true [], SV.str true [], SV.str true [], SV.str true [], SV.str true [], SV.str true []], SV.bool true true]))) (SV.tup [SV.agg [SV.int .i64 true 1, SV.str false (ngetP (inItem (itemAt (cutIn s) 0))), SV.str false (inItem (itemAt (cutIn s) 1)), SV.str true [], SV.str true [], SV.str true [], SV.str true [], SV.str true [], SV.str true [], SV.str true [], SV.str true [], SV.str true [], SV.str true [], SV.str true [], SV.str true [], SV.str true [], SV.str true [], SV.str true [], SV.str true []], SV.bool true true]))) (SV.tup [zeroN, SV.bool true false]))) (SV.tup [(getD s).sv, SV.bool true true]))) (fun (u97 : Nat) => (SB.rows true (itemsN (cutIn s)) [Col.str (itemAt (cutIn s))] false u97 9)))) (SV.tup [SV.agg [SV.int .i64 true 0, SV.str true [], SV.str true [], SV.str true [], SV.str true [], SV.str true [], SV.str true [], SV.str true [], SV.str true [], SV.str true [], SV.str true [], SV.str true [], SV.str true [], SV.str true [], SV.str true [], SV.str true [], SV.str true [], SV.str true [], SV.str true []], SV.bool true true]))) (SB.cells (SV.agg [SV.int .i64 true 0, SV.str true [], SV.str true [], SV.str true [], SV.str true [], SV.str true [], SV.str true [], SV.str true [], SV.str true [], SV.str true [], SV.str true [], SV.str true [], SV.str true [], SV.str true [], SV.str true [], SV.str true [], SV.str true [], SV.str true [], SV.str true []]).cells 19 25))) (SV.tup [SV.agg [SV.int .i64 true 0, SV.str true [], SV.str true [], SV.str true [], SV.str true [], SV.str true [], SV.str true [], SV.str true [], SV.str true [], SV.str true [], SV.str true [], SV.str true [], SV.str true [], SV.str true [], SV.str true [], SV.str true [], SV.str true [], SV.str true [], SV.str true []], SV.bool true false]))) (fun (n0 : Nat) (u36 : Nat) => SV.str false (rdI (cutIn s) u36 n0)))) (fun (n0 : Nat) (u38 : Nat) => SV.str false (rdI (cutIn s) u38 n0)))) (fun (n0 : Nat) (u37 : Nat) => SV.str false (rdI (cutIn s) u37 n0)))) (fun (n0 : Nat) (u38 : Nat) => SV.str false (if (u38 : Int).toNat = n0 then itemAt (cutIn s) (0 + (u38 : Int).toNat) else rdI (cutIn s) u38 n0)))) (fun (n0 : Nat) (u39 : Nat) => SV.str false (rdI (cutIn s) u39 n0)))) (fun (n0 : Nat) (u55 : Nat) => SV.str false (rdI (cutIn s) u55 n0)))) (fun (n0 : Nat) (u57 : Nat) => SV.str false (rdI (cutIn s) u57 n0)))) (fun (n0 : Nat) (u56 : Nat) => SV.str false (rdI (cutIn s) u56 n0)))) (fun (n0 : Nat) (u57 : Nat) => SV.str false (if (u57 : Int).toNat = n0 then itemAt (cutIn s) (0 + (u57 : Int).toNat) else rdI (cutIn s) u57 n0)))) (fun (n0 : Nat) (u58 : Nat) => SV.str false (rdI (cutIn s) u58 n0)))) (fun (n0 : Nat) (u74 : Nat) => SV.str false (rdI (cutIn s) u74 n0)))) (fun (n0 : Nat) (u76 : Nat) => SV.str false (rdI (cutIn s) u76 n0)))) (fun (n0 : Nat) (u75 : Nat) => SV.str false (rdI (cutIn s) u75 n0)))) (fun (n0 : Nat) (u76 : Nat) => SV.str false (if (u76 : Int).toNat = n0 then itemAt (cutIn s) (0 + (u76 : Int).toNat) else rdI (cutIn s) u76 n0)))) (fun (n0 : Nat) (u77 : Nat) => SV.str false (rdI (cutIn s) u77 n0)))) (fun (n0 : Nat) (u93 : Nat) => SV.str false (rdI (cutIn s) u93 n0)))) (fun (n0 : Nat) (u95 : Nat) => SV.str false (rdI (cutIn s) u95 n0)))) (fun (n0 : Nat) (u94 : Nat) => SV.str false (rdI (cutIn s) u94 n0)))) (fun (n0 : Nat) (u95 : Nat) => SV.str false (if (u95 : Int).toNat = n0 then itemAt (cutIn s) (0 + (u95 : Int).toNat) else rdI (cutIn s) u95 n0)))) (fun (n0 : Nat) (u96 : Nat) => SV.str false (rdI (cutIn s) u96 n0))) := by kernel_rfl
end Go.Proofs.YtkfdcapnogklfaaGreatDoor
/-
  The reference's nodes: the node that bytes are: the contract, for bytes that are few enough.
-/
namespace Go.Proofs.YtkfdcapnogklfaaGreatDoor
open Go Sx
set_option maxRecDepth 20000
theorem sv_same {x y : Nd} (h : x.Same y) : x.sv = y.sv := by
  unfold Nd.sv Nd.svL refCells
  rw [h.k, h.p, h.v, h.r 0 (by decide), h.r 1 (by decide), h.r 2 (by decide), h.r 3 (by decide), h.r 4 (by decide), h.r 5 (by decide), h.r 6 (by decide), h.r 7 (by decide), h.r 8 (by decide), h.r 9 (by decide), h.r 10 (by decide), h.r 11 (by decide), h.r 12 (by decide), h.r 13 (by decide), h.r 14 (by decide), h.r 15 (by decide)]
def noQ : SV := .tup [zeroN, .bool true false]
def yesQ (x : Nd) : SV := .tup [x.sv, .bool true true]
theorem no_fit {s : List UInt8} (h : getB' s = false) : (getB' s = true → sameVal noQ (yesQ (getD s))) ∧ (getB' s = false → sameVal noQ noQ) :=
  ⟨fun h' => (by rw [h] at h'; cases h'), fun _ _ => rfl⟩
theorem read_fit {L : Nat} {s : List UInt8} {x : Nd} {V : SV} (hr : RelR L x.r) (hp : x.p.length < 1152921504606846976) (hV : sameVal V (yesQ x)) (hx : getB' s = true → (getD s).Same x) :
    (RelR L x.r ∧ x.p.length < 1152921504606846976) ∧
    (validB x = true → ((!decide (putT x = s)) = true → (getB' s = true → sameVal noQ (yesQ (getD s))) ∧ (getB' s = false → sameVal noQ noQ)) ∧
      ((!decide (putT x = s)) = false → (getB' s = true → sameVal V (yesQ (getD s))) ∧ (getB' s = false → sameVal V noQ))) ∧
    (validB x = false → (getB' s = true → sameVal noQ (yesQ (getD s))) ∧ (getB' s = false → sameVal noQ noQ)) := by
  refine ⟨⟨hr, hp⟩, fun a => ⟨fun b => ?_, fun b => ?_⟩, fun a => ?_⟩
  · have b : ¬ putT x = s := by simpa using b
    refine no_fit (Bool.eq_false_iff.2 fun h => b ?_)
    rw [← put_ext (hx h)]
    exact (get_parts h).2.2
  · have b : putT x = s := by simpa using b
    obtain ⟨g1, g2⟩ := get_only a b
    rw [g1]
    exact ⟨fun _ => by rw [yesQ, sv_same g2]; exact hV, fun h => by cases h⟩
  · refine no_fit (Bool.eq_false_iff.2 fun h => ?_)
    have := (get_parts h).2.1
    rw [valid_ext (hx h), a] at this
    cases this
theorem in_plain {t : List UInt8} (h : plainB t = true) : inItem t = cutIn t := by rw [inItem, (plain_iff.1 h).1]; rfl
theorem shape_zero {s : List UInt8} (h : shapeK s = 0) : getD s = zeroNd := by
  unfold getD
  rw [if_neg (by omega), if_neg (by omega), if_neg (by omega)]
theorem shape_facts {s : List UInt8} (h : getB' s = true) : (s = [128] ∧ getD s = zeroNd) ∨ (s ≠ [128] ∧ cutB s = true ∧ cutL s = true ∧ itemsB (cutIn s) = true ∧
    ((itemsN (cutIn s) = 2 ∧ plainB (itemAt (cutIn s) 0) = true ∧ ngetB (cutIn (itemAt (cutIn s) 0)) = true ∧ ((ngetLeaf (cutIn (itemAt (cutIn s) 0)) = true ∧ plainB (itemAt (cutIn s) 1) = true ∧ getD s = rdLeaf s) ∨ (ngetLeaf (cutIn (itemAt (cutIn s) 0)) = false ∧ getD s = rdExt s))) ∨
      (itemsN (cutIn s) = 17 ∧ plainB (itemAt (cutIn s) 16) = true ∧ getD s = rdBranch s))) := by
  have h0 := (get_parts h).1
  by_cases e : s = [128]
  · exact .inl ⟨e, shape_zero (by rw [shapeK, if_pos e])⟩
  · refine .inr ⟨e, ?_⟩
    have hk : shapeK s = bif cutB s && (cutL s && decide (cutRest s = [])) then listK (cutIn s) else -1 := by rw [shapeK, if_neg e]
    cases c1 : (cutB s && (cutL s && decide (cutRest s = []))) with
    | false => rw [c1] at hk; rw [hk] at h0; exact absurd h0 (show ¬ (0 : Int) ≤ -1 by decide)
    | true =>
      rw [c1] at hk
      simp only [Bool.and_eq_true] at c1
      have hk : shapeK s = listK (cutIn s) := hk
      refine ⟨c1.1, c1.2.1, ?_⟩
      cases c2 : itemsB (cutIn s) with
      | false => rw [hk, listK, c2] at h0; exact absurd h0 (show ¬ (0 : Int) ≤ -1 by decide)
      | true =>
        refine ⟨rfl, ?_⟩
        rw [listK, c2, cond_true] at hk
        by_cases n2 : itemsN (cutIn s) = 2
        · refine .inl ⟨n2, ?_⟩
          rw [if_pos n2, pairK] at hk
          cases c3 : plainB (itemAt (cutIn s) 0) with
          | false => rw [hk, c3] at h0; exact absurd h0 (show ¬ (0 : Int) ≤ -1 by decide)
          | true =>
            cases c4 : ngetB (cutIn (itemAt (cutIn s) 0)) with
            | false => rw [hk, c3, c4] at h0; exact absurd h0 (show ¬ (0 : Int) ≤ -1 by decide)
            | true =>
              refine ⟨rfl, rfl, ?_⟩
              rw [c3, c4] at hk
              cases c5 : ngetLeaf (cutIn (itemAt (cutIn s) 0)) with
              | false =>
                rw [c5] at hk
                have hk : shapeK s = 2 := hk
                exact .inr ⟨rfl, by unfold getD; rw [if_neg (by omega), if_pos hk]⟩
              | true =>
                rw [c5] at hk
                cases c6 : plainB (itemAt (cutIn s) 1) with
                | false => rw [c6] at hk; rw [hk] at h0; exact absurd h0 (show ¬ (0 : Int) ≤ -1 by decide)
                | true =>
                  rw [c6] at hk
                  have hk : shapeK s = 1 := hk
                  exact .inl ⟨rfl, rfl, by unfold getD; rw [if_pos hk]⟩
        · rw [if_neg n2] at hk
          by_cases n17 : itemsN (cutIn s) = 17
          · rw [if_pos n17] at hk
            cases c3 : plainB (itemAt (cutIn s) 16) with
            | false => rw [c3] at hk; rw [hk] at h0; exact absurd h0 (show ¬ (0 : Int) ≤ -1 by decide)
            | true =>
              rw [c3] at hk
              have hk : shapeK s = 3 := hk
              exact .inr ⟨n17, rfl, by unfold getD; rw [if_neg (by omega), if_neg (by omega), if_pos hk]⟩
          · rw [if_neg n17] at hk
            rw [hk] at h0; exact absurd h0 (show ¬ (0 : Int) ≤ -1 by decide)
theorem not128 {s : List UInt8} (h : cutL s = true) : s ≠ [128] := fun e => by subst e; revert h; decide
attribute [local irreducible] itemAt itemsN itemsB cutIn cutB cutRest cutL plainB ngetB ngetLeaf ngetP
theorem dread_holds {L : Nat} {s : List UInt8} (hs : s.length ≤ L ∧ s.length < 9223372036854775808) : Holds (runA (cfgDR L s) 33 Tryz.f33 [.str false s] (readR s)) := by
  refine Holds.of_eq (vcDRead L s) ?_
  dsimp only
  by_cases big : (1000 : Int) < (s.length : Int)
  · have g : getB' s = false := Bool.eq_false_iff.2 fun h => by have := get_len h; omega
    exact ⟨fun _ => no_fit g, fun h => absurd big (of_decide_eq_false h)⟩
  have hin := cutIn_le s
  have hit := itemAt_le (cutIn s)
  have hl2 := fun t => cutIn_le t
  have hii : ∀ j, (inItem (itemAt (cutIn s) j)).length ≤ 1000 := fun j => by
    have h1 := hit j
    have h2 := hl2 (itemAt (cutIn s) j)
    unfold inItem
    cases cutB (itemAt (cutIn s) j)
    · simp
    · simp only [cond_true]; omega
  have hng : (ngetP (inItem (itemAt (cutIn s) 0))).length < 1152921504606846976 := by
    have h1 := hii 0
    have h2 := pathL_len (inItem (itemAt (cutIn s) 0))
    have h3 : (ngetP (inItem (itemAt (cutIn s) 0))).length ≤ (pathL (inItem (itemAt (cutIn s) 0))).length := by
      unfold ngetP
      split <;> simp only [List.length_drop] <;> omega
    omega
  refine ⟨fun h => absurd (of_decide_eq_true h) big, fun _ => ⟨hs.2, fun cB => ?_, fun cB => ?_⟩⟩
  · have hpos : 0 < s.length := List.length_pos_iff.2 (cutB_iff.1 cB).1
    have R0 : Rel L [] := ⟨.inl (by simp only [List.length_nil]; omega), by simp⟩
    have RZ : RelR L zeroNd.r := fun j hj => by
      have e : zeroNd.r j = [] := noRefs_get j hj
      rw [e]; exact R0
    have Zx : (s ≠ [128] → ¬ getB' s = true) → getB' s = true → (getD s).Same zeroNd := fun hn h => by
      rcases shape_facts h with ⟨_, e⟩ | ⟨e, _⟩
      · rw [e]; exact ⟨rfl, rfl, rfl, fun _ _ => rfl⟩
      · exact absurd h (hn e)
    have Z := fun hn => read_fit (L := L) (s := s) (x := zeroNd) (V := yesQ zeroNd) RZ (by show 0 < 1152921504606846976; decide) (fun _ => rfl) (Zx hn)
    refine ⟨by omega, fun iB => fun cap hcap => ⟨fun cL => ⟨fun n2 => ?_, fun n2 => ⟨fun _ => ⟨fun n17 => ?_, fun n17 => Z ?_⟩, fun c => absurd (cL.symm.trans c) (by decide)⟩⟩, fun cL => ⟨fun c => absurd (c.symm.trans cL) (by decide), fun _ => Z ?_⟩⟩,
      fun iB => ⟨fun cL => ⟨fun _ => Z ?_, fun _ => Z ?_⟩, fun cL => ⟨fun _ => Z ?_, fun _ => Z ?_⟩⟩⟩
    · have n2 := of_decide_eq_true n2
      have n2 : itemsN (cutIn s) = 2 := by omega
      have i0 := hit 0
      have i1 := hit 1
      have j0 := hii 0
      have hlt := list_lt cB cL
      have RI : ∀ j, Rel L (itemAt (cutIn s) j) := fun j => ⟨.inl (by have := hit j; omega), by have := hit j; omega⟩
      have no17 : ∀ {P : Prop}, decide ((↑(itemsN (cutIn s)) : Int) = (17 : Int)) = true → P := fun h => by have := of_decide_eq_true h; omega
      have noL : ∀ {P : Prop}, cutL s = false → P := fun h => absurd (cL.symm.trans h) (by decide)
      refine ⟨by omega, by omega, by omega, by omega, fun gB => ⟨fun lf => ⟨by omega, by omega, by omega, fun _ => ⟨no17, fun _ => ?_⟩, noL⟩, fun lf => ⟨by omega, by omega, fun _ => ⟨no17, fun _ => ?_⟩, noL⟩⟩, fun gB => no_fit ?_⟩
      · refine read_fit (x := { k := 1, p := ngetP (inItem (itemAt (cutIn s) 0)), v := inItem (itemAt (cutIn s) 1), r := noRefs }) RZ hng (fun _ => rfl) fun h => ?_
        rcases shape_facts h with ⟨e, _⟩ | ⟨_, _, _, _, ⟨_, p0, _, ⟨_, p1, e⟩ | ⟨e, _⟩⟩ | ⟨n, _⟩⟩
        · exact absurd e (not128 cL)
        · rw [e]
          exact ⟨rfl, by rw [in_plain p0]; rfl, by rw [in_plain p1]; rfl, fun _ _ => rfl⟩
        · rw [in_plain p0, e] at lf; cases lf
        · omega
      · refine read_fit (x := { k := 2, p := ngetP (inItem (itemAt (cutIn s) 0)), v := [], r := oneRef (itemAt (cutIn s) 1) }) (fun j hj => ?_) hng (fun _ => rfl) fun h => ?_
        · have e : oneRef (itemAt (cutIn s) 1) j = if j = 0 then itemAt (cutIn s) 1 else [] := getD16 (fun i => if i = 0 then itemAt (cutIn s) 1 else []) j hj
          show Rel L (oneRef (itemAt (cutIn s) 1) j)
          rw [e]
          split
          · exact RI 1
          · exact R0
        · rcases shape_facts h with ⟨e, _⟩ | ⟨_, _, _, _, ⟨_, p0, _, ⟨e, _, _⟩ | ⟨_, e⟩⟩ | ⟨n, _⟩⟩
          · exact absurd e (not128 cL)
          · rw [in_plain p0, e] at lf; cases lf
          · rw [e]
            exact ⟨rfl, by rw [in_plain p0]; rfl, rfl, fun _ _ => rfl⟩
          · omega
      · refine Bool.eq_false_iff.2 fun h => ?_
        rcases shape_facts h with ⟨e, _⟩ | ⟨_, _, _, _, ⟨_, p0, g, _⟩ | ⟨n, _⟩⟩
        · exact absurd e (not128 cL)
        · rw [in_plain p0, g] at gB; cases gB
        · omega
    · have n17 := of_decide_eq_true n17
      have n17 : itemsN (cutIn s) = 17 := by omega
      have i16 := hit 16
      have hlt := list_lt cB cL
      have RI : ∀ j, Rel L (itemAt (cutIn s) j) := fun j => ⟨.inl (by have := hit j; omega), by have := hit j; omega⟩
      refine ⟨⟨0, by omega, rfl, Sx.SBle.cells (fun E => rfl) rfl, SBle.refl _, SBle.refl _, trivial⟩, fun i hi => ⟨fun h => ?_, fun h => ?_⟩⟩
      · have h := of_decide_eq_true h
        rw [Int.toNat_natCast, Nat.zero_add]
        refine ⟨by omega, by omega, by omega, rfl, fun k => ⟨by omega, by omega, by omega, by omega, by omega, i + 1, ⟨by omega, by omega⟩, by omega, ?_, SBle.refl _, SBle.refl _, trivial⟩, fun k => ⟨by omega, i + 1, ⟨by omega, by omega⟩, by omega, ?_, SBle.refl _, SBle.refl _, trivial⟩⟩
        · have k : ¬ itemAt (cutIn s) i = [128] := by
            have : decide (itemAt (cutIn s) i = textOf []) = false := by simpa using k
            exact of_decide_eq_false this
          exact rdC_le (f := fun j => if i = j then itemAt (cutIn s) i else rdI (cutIn s) i j) fun j _ => rdI_step k j
        · have k : itemAt (cutIn s) i = [128] := by
            have : decide (itemAt (cutIn s) i = textOf []) = true := by simpa using k
            exact of_decide_eq_true this
          exact rdC_le fun j _ => rdI_skip k j
      · have h := of_decide_eq_false h
        have ei : i = 16 := by omega
        subst ei
        refine ⟨by omega, by omega, by omega, read_fit (x := { k := 3, p := [], v := inItem (itemAt (cutIn s) 16), r := mk16 (rdI (cutIn s) 16) }) (fun j hj => ?_) (by show 0 < 1152921504606846976; decide) (fun _ => rfl) fun h => ?_⟩
        · have e : mk16 (rdI (cutIn s) 16) j = rdI (cutIn s) 16 j := getD16 (rdI (cutIn s) 16) j hj
          show Rel L (mk16 (rdI (cutIn s) 16) j)
          rw [e, rdI, if_pos hj, rdRef]
          split
          · exact R0
          · exact RI j
        · rcases shape_facts h with ⟨e, _⟩ | ⟨_, _, _, _, ⟨n, _⟩ | ⟨_, p16, e⟩⟩
          · exact absurd e (not128 cL)
          · omega
          · rw [e]
            refine ⟨rfl, rfl, by rw [in_plain p16]; rfl, fun j hj => ?_⟩
            show mk16 (rdRef (cutIn s)) j = mk16 (rdI (cutIn s) 16) j
            have e1 : mk16 (rdI (cutIn s) 16) j = rdI (cutIn s) 16 j := getD16 (rdI (cutIn s) 16) j hj
            have e2 : mk16 (rdRef (cutIn s)) j = rdRef (cutIn s) j := getD16 (rdRef (cutIn s)) j hj
            rw [e1, e2, rdI, if_pos hj]
    · intro e h
      have n2 := of_decide_eq_false n2
      have n17 := of_decide_eq_false n17
      rcases shape_facts h with ⟨e', _⟩ | ⟨_, _, _, _, ⟨n, _⟩ | ⟨n, _⟩⟩
      · exact e e'
      · omega
      · omega
    all_goals
      intro e h
      rcases shape_facts h with ⟨e', _⟩ | ⟨_, _, l, i, _⟩
      · exact e e'
      · first
        | exact absurd (l.symm.trans cL) (by decide)
        | exact absurd (i.symm.trans iB) (by decide)
  · have g : getB' s = false := shape_bad cB
    exact ⟨by omega, fun _ _ _ => no_fit g, fun _ => no_fit g⟩
theorem dread_ok {L : Nat} (hI : CallOk Tryz.prog 19 (ansPT (inlSpec L))) : CallOk Tryz.prog 33 (ansPT (readRSpec L)) := by
  refine ans_ok (n := 20) (fn := Tryz.f33) Tryz.func33 (by kernel_rfl) (by kernel_rfl) ?_
  intro args p a h hp
  unfold readRSpec at h
  split at h
  · injection h with h; injection h with h1 h2; subst h1; subst h2
    exact ⟨cfgDR L _, ⟨mixes, listD4_ok hI, fns_ok⟩, rfl, fun b => by cases b <;> exact rfl, dread_holds hp⟩
  · cases h
theorem listD5_ok {L : Nat} (hI : CallOk Tryz.prog 19 (ansPT (inlSpec L))) : SummOk Tryz.prog (fun f => lookPT f (listD5 L)) := .cons (dread_ok hI) (ansPT_mono _) (listD4_ok hI)
end Go.Proofs.YtkfdcapnogklfaaGreatDoor
/-
  The reference's nodes: the node in a ref: the contract; the node that bytes are.
-/
namespace Go.Proofs.YtkfdcapnogklfaaGreatDoor
open Go Sx
set_option maxRecDepth 20000
theorem dinline_step {L : Nat} (hI : CallOk Tryz.prog 19 (ansPT (inlSpec L))) : CallOk Tryz.prog 19 (ansPT (inlSpec (L + 1))) := by
  refine ans_ok (n := 20) (fn := Tryz.f19) Tryz.func19 (by kernel_rfl) (by kernel_rfl) ?_
  intro args p a h hp
  unfold inlSpec at h
  split at h
  · rename_i t
    injection h with h; injection h with h1 h2; subst h1; subst h2
    refine ⟨cfgD5 L, ⟨mixes, listD5_ok hI, fns_ok⟩, rfl, fun b => by cases b <;> exact rfl, Holds.of_eq (vcDInline L t) ?_⟩
    have hp : Rel (L + 1) t := hp
    have hN : sameVal (SV.tup [zeroN, .bool true false]) (.tup [zeroN, .bool true false]) := fun _ => rfl
    refine ⟨fun a => ⟨fun b => ?_, fun _ => hN⟩, fun a => ⟨⟨?_, hp.2⟩, fun b => ⟨fun c => ⟨fun d => ?_, fun _ => hN⟩, fun c => ⟨fun d => fun _ => rfl, fun d => ?_⟩⟩, fun b => ⟨fun d => ?_, fun _ => hN⟩⟩⟩
    · have a := of_decide_eq_true a
      have := inl_len b
      omega
    · have a := of_decide_eq_false a
      rcases hp.1 with h | h <;> omega
    · rw [inl_eq, c] at d
      simp at d
    · have a := of_decide_eq_false a
      rw [inl_eq, b, c, decide_eq_true (show t.length < 32 by omega)] at d
      simp at d
    · rw [inl_eq, b] at d
      simp at d
  · cases h
theorem goodDNo : Sx.Good Tryz.prog cfgDNo := ⟨mixes, SummOk.cons (fun _ _ _ _ h => h.elim) (fun _ _ _ _ _ _ h => h) listD0_ok, fns_ok⟩
theorem dinline_0 : CallOk Tryz.prog 19 (ansPT (inlSpec 0)) := by
  refine ans_ok (n := 20) (fn := Tryz.f19) Tryz.func19 (by kernel_rfl) (by kernel_rfl) ?_
  intro args p a h hp
  unfold inlSpec at h
  split at h
  · rename_i t
    injection h with h; injection h with h1 h2; subst h1; subst h2
    have hp : Rel 0 t := hp
    have h32 : 32 ≤ t.length := by rcases hp.1 with h | h; exact absurd h (Nat.not_lt_zero _); exact h
    refine ⟨cfgDNo, goodDNo, rfl, fun b => by cases b <;> exact rfl, Holds.of_eq (vcDInline0 t) ?_⟩
    have hN : sameVal (SV.tup [zeroN, .bool true false]) (.tup [zeroN, .bool true false]) := fun _ => rfl
    refine ⟨fun a => ⟨fun b => ?_, fun _ => hN⟩, fun a => ?_⟩
    · have := inl_len b
      omega
    · have a := of_decide_eq_false a
      omega
  · cases h
theorem dinline_all : ∀ L, CallOk Tryz.prog 19 (ansPT (inlSpec L))
  | 0 => dinline_0
  | L + 1 => dinline_step (dinline_all L)
theorem dget_ok : CallOk Tryz.prog 15 (ansPT (getSpec' 9223372036854775808)) := by
  refine ans_ok (n := 20) (fn := Tryz.f15) Tryz.func15 (by kernel_rfl) (by kernel_rfl) ?_
  intro args p a h hp
  unfold getSpec' at h
  split at h
  · rename_i s
    injection h with h; injection h with h1 h2; subst h1; subst h2
    have hp : s.length ≤ 9223372036854775808 ∧ s.length < 1099511627776 := hp
    refine ⟨cfgD5 9223372036854775808, ⟨mixes, listD5_ok (dinline_all _), fns_ok⟩, rfl, fun b => by cases b <;> exact rfl, Holds.of_eq (vcDGet 9223372036854775808 s) ?_⟩
    exact ⟨⟨hp.1, by omega⟩, fun a => ⟨fun _ _ => rfl, fun b => absurd (a.symm.trans b) (by decide)⟩, fun a => ⟨fun b => absurd (b.symm.trans a) (by decide), fun _ _ => rfl⟩⟩
  · cases h
noncomputable def listD6 : List (FuncId × PT) := (15, ansPT (getSpec' 9223372036854775808)) :: listD5 9223372036854775808
theorem listD6_ok : SummOk Tryz.prog (fun f => lookPT f listD6) := .cons dget_ok (ansPT_mono _) (listD5_ok (dinline_all _))
end Go.Proofs.YtkfdcapnogklfaaGreatDoor
