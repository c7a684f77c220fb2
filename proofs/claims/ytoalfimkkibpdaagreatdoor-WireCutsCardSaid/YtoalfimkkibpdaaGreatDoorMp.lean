/-
  Conditions that the executor computes, written out by a program (vcgen.py).
-/
import Derived.Test.YtoalfimkkibpdaaGreatDoorMo
import Derived.Test.YtoalfimkkibpdaaGreatDoorMl
import Derived.Test.YtoalfimkkibpdaaGreatDoorMm
namespace Go.Proofs.YtoalfimkkibpdaaGreatDoor
open Go Sx
set_option maxRecDepth 20000
theorem vcPRead (s : List UInt8) : VC.holds (runPan callP4 (annsRead s) Tryz.f43 [.str false s] (getPB s) (preadA s) brokenA) = ((fun P0 : Nat → SB => ((fun P1 : SB => ((fun P2 : SV => ((fun P3 : (Nat × Nat) → SB => ((fun P4 : SV => ((fun P5 : SV => ((fun P6 : SB => ((fun P7 : SB => ((fun P8 : List UInt8 => ((fun P9 : SB => ((((!decide ((s.length : Int) ≤ 65536)) = true → getPB s = false ∧ ∃ (u53 : Int), SBle P9 (SB.cells [SV.int .i64 false u53, SV.iface 27 (SV.int .i64 true 2)] 2 215) ∧ sameVal (SV.iface 213 (SV.ptr ((0 : Nat) + (1 : Nat)) true 0)) (SV.iface 213 (SV.ptr ((0 : Nat) + (1 : Nat)) true 0))) ∧ ((!decide ((s.length : Int) ≤ 65536)) = false → s.length < 1099511627776 ∧ (pitemsB s = true → ∀ (u52 : Nat), itemsN (cutIn s) ≤ u52 → ((!decide ((↑(itemsN (cutIn s)) : Int) = 5)) = true → getPB s = false ∧ ∃ (u51 : Int), SBle P9 (SB.cells [SV.int .i64 false u51, SV.iface 27 (SV.int .i64 true 2)] 2 215) ∧ sameVal P5 P5) ∧ ((!decide ((↑(itemsN (cutIn s)) : Int) = 5)) = false → ((0 : Int) ≤ (0 : Int) ∧ 0 < (↑(itemsN (cutIn s)) : Int)) ∧ 0 < itemsN (cutIn s) ∧ (itemAt (cutIn s) 0).length < 9223372036854775808 ∧ (getB (itemAt (cutIn s) 0) = true → ((!decide (num (cutIn (itemAt (cutIn s) 0)) ≤ 1)) = true → getPB s = false ∧ ∃ (u50 : Int), SBle (SB.cells [SV.int .i64 true 0, SV.iface 27 (SV.int .i64 true 2)] 2 215) (SB.cells [SV.int .i64 false u50, SV.iface 27 (SV.int .i64 true 2)] 2 215) ∧ sameVal P5 P5) ∧ ((!decide (num (cutIn (itemAt (cutIn s) 0)) ≤ 1)) = false →
 (((-9223372036854775808 : Int) ≤ num (cutIn (itemAt (cutIn s) 0)) ∧ num (cutIn (itemAt (cutIn s) 0)) ≤ 9223372036854775807) ∧ ((0 : Int) ≤ (1 : Int) ∧ 1 < (↑(itemsN (cutIn s)) : Int)) ∧ 1 < itemsN (cutIn s) ∧ ((0 : Int) ≤ (2 : Int) ∧ 2 < (↑(itemsN (cutIn s)) : Int)) ∧ 2 < itemsN (cutIn s) ∧ ((0 : Int) ≤ (3 : Int) ∧ 3 < (↑(itemsN (cutIn s)) : Int)) ∧ 3 < itemsN (cutIn s) ∧ ((itemAt (cutIn s) 1).length < 9223372036854775808 ∧ (insideB (itemAt (cutIn s) 1) false = true → some (P0 u52) = some (P0 u52) ∧ some (P0 u52) = some (P0 u52) ∧ ((itemAt (cutIn s) 2).length < 9223372036854775808 ∧ (insideB (itemAt (cutIn s) 2) false = true → some (P0 u52) = some (P0 u52) ∧ ((itemAt (cutIn s) 3).length < 9223372036854775808 ∧ (insideB (itemAt (cutIn s) 3) false = true → some (P0 u52) = some (P0 u52) ∧ some (P0 u52) = some (P0 u52) ∧ some (P0 u52) = some (P0 u52) ∧ ∃ (_u49 : Unit), True ∧ (0 : Nat) = (0 : Nat) ∧ SBle P6 P7 ∧ SBle (P0 u52) (P0 u52) ∧ SBle P1 P1 ∧ True) ∧ (insideB (itemAt (cutIn s) 3) false = false → ∀ (u48 : Int), getPB s = false ∧
 ∃ (u47 : Int), SBle (SB.cells [SV.int .i64 false u48, SV.iface 27 (SV.int .i64 true 2)] 2 215) (SB.cells [SV.int .i64 false u47, SV.iface 27 (SV.int .i64 true 2)] 2 215) ∧ sameVal P5 P5)) ∧ some (P0 u52) = some (P0 u52) ∧ some (P0 u52) = some (P0 u52) ∧ some (P0 u52) = some (P0 u52) ∧ (itemAt (cutIn s) 3).length < 9223372036854775808 ∧ (insideB (itemAt (cutIn s) 3) false = true → ∃ (_u46 : Unit), True ∧ (0 : Nat) = (0 : Nat) ∧ SBle P6 P7 ∧ SBle (P0 u52) (P0 u52) ∧ SBle P1 P1 ∧ True) ∧ (insideB (itemAt (cutIn s) 3) false = false → ∀ (u45 : Int), getPB s = false ∧ ∃ (u44 : Int), SBle (SB.cells [SV.int .i64 false u45, SV.iface 27 (SV.int .i64 true 2)] 2 215) (SB.cells [SV.int .i64 false u44, SV.iface 27 (SV.int .i64 true 2)] 2 215) ∧ sameVal P2 P2)) ∧ (insideB (itemAt (cutIn s) 2) false = false → ∀ (u43 : Int), getPB s = false ∧ ∃ (u42 : Int), SBle (SB.cells [SV.int .i64 false u43, SV.iface 27 (SV.int .i64 true 2)] 2 215) (SB.cells [SV.int .i64 false u42, SV.iface 27 (SV.int .i64 true 2)] 2 215) ∧ sameVal P5 P5)) ∧ some (P0 u52) = some (P0 u52) ∧ some (P0 u52) = some (P0 u52) ∧ some (P0 u52) = some (P0 u52) ∧ (itemAt (cutIn s) 2).length < 9223372036854775808 ∧
 (insideB (itemAt (cutIn s) 2) false = true → some (P0 u52) = some (P0 u52) ∧ (itemAt (cutIn s) 3).length < 9223372036854775808 ∧ (insideB (itemAt (cutIn s) 3) false = true → ∃ (_u41 : Unit), True ∧ (0 : Nat) = (0 : Nat) ∧ SBle P6 P7 ∧ SBle (P0 u52) (P0 u52) ∧ SBle P1 P1 ∧ True) ∧ (insideB (itemAt (cutIn s) 3) false = false → ∀ (u40 : Int), getPB s = false ∧ ∃ (u39 : Int), SBle (SB.cells [SV.int .i64 false u40, SV.iface 27 (SV.int .i64 true 2)] 2 215) (SB.cells [SV.int .i64 false u39, SV.iface 27 (SV.int .i64 true 2)] 2 215) ∧ sameVal P2 P2)) ∧ (insideB (itemAt (cutIn s) 2) false = false → ∀ (u38 : Int), getPB s = false ∧ ∃ (u37 : Int), SBle (SB.cells [SV.int .i64 false u38, SV.iface 27 (SV.int .i64 true 2)] 2 215) (SB.cells [SV.int .i64 false u37, SV.iface 27 (SV.int .i64 true 2)] 2 215) ∧ sameVal P2 P2)) ∧ (insideB (itemAt (cutIn s) 1) false = false → ∀ (u36 : Int), getPB s = false ∧ ∃ (u35 : Int), SBle (SB.cells [SV.int .i64 false u36, SV.iface 27 (SV.int .i64 true 2)] 2 215) (SB.cells [SV.int .i64 false u35, SV.iface 27 (SV.int .i64 true 2)] 2 215) ∧ sameVal P5 P5)) ∧ some (P0 u52) = some (P0 u52) ∧ some (P0 u52) = some (P0 u52) ∧ some (P0 u52) = some (P0 u52) ∧
 (itemAt (cutIn s) 1).length < 9223372036854775808 ∧ (insideB (itemAt (cutIn s) 1) false = true → some (P0 u52) = some (P0 u52) ∧ some (P0 u52) = some (P0 u52) ∧ (itemAt (cutIn s) 2).length < 9223372036854775808 ∧ (insideB (itemAt (cutIn s) 2) false = true → some (P0 u52) = some (P0 u52) ∧ (itemAt (cutIn s) 3).length < 9223372036854775808 ∧ (insideB (itemAt (cutIn s) 3) false = true → ∃ (_u34 : Unit), True ∧ (0 : Nat) = (0 : Nat) ∧ SBle P6 P7 ∧ SBle (P0 u52) (P0 u52) ∧ SBle P1 P1 ∧ True) ∧ (insideB (itemAt (cutIn s) 3) false = false → ∀ (u33 : Int), getPB s = false ∧ ∃ (u32 : Int), SBle (SB.cells [SV.int .i64 false u33, SV.iface 27 (SV.int .i64 true 2)] 2 215) (SB.cells [SV.int .i64 false u32, SV.iface 27 (SV.int .i64 true 2)] 2 215) ∧ sameVal P2 P2)) ∧ (insideB (itemAt (cutIn s) 2) false = false → ∀ (u31 : Int), getPB s = false ∧ ∃ (u30 : Int), SBle (SB.cells [SV.int .i64 false u31, SV.iface 27 (SV.int .i64 true 2)] 2 215) (SB.cells [SV.int .i64 false u30, SV.iface 27 (SV.int .i64 true 2)] 2 215) ∧ sameVal P2 P2)) ∧ (insideB (itemAt (cutIn s) 1) false = false → ∀ (u29 : Int), getPB s = false ∧
 ∃ (u28 : Int), SBle (SB.cells [SV.int .i64 false u29, SV.iface 27 (SV.int .i64 true 2)] 2 215) (SB.cells [SV.int .i64 false u28, SV.iface 27 (SV.int .i64 true 2)] 2 215) ∧ sameVal P2 P2)) ∧ ∀ (_u27 : Unit), True → ((0 : Int) ≤ (4 : Int) ∧ 4 < (↑(itemsN (cutIn s)) : Int)) ∧ 4 < itemsN (cutIn s) ∧ (itemAt (cutIn s) 4).length < 1099511627776 ∧ (pitemsB (itemAt (cutIn s) 4) = true → ∀ (u26 : Nat), itemsN P8 ≤ u26 → (∃ (u25 : Nat × Nat), Grow (itemsN (cutIn (itOf s 4))) u25 ∧ 0 = (u25.fst : Int) ∧ (5 : Nat) = (5 : Nat) ∧ numI (itOf s 0) = numI (itOf s 0) ∧ cutIn (itOf s 1) = cutIn (itOf s 1) ∧ cutIn (itOf s 2) = cutIn (itOf s 2) ∧ cutIn (itOf s 3) = cutIn (itOf s 3) ∧ u25.fst = 0 ∧ (SB.rows true u25.fst [Col.str fun (u24 : Nat) => cutIn (itemAt (cutIn (itOf s 4)) u24)] false u25.snd 9).no = true ∧ SBle (SB.rows true (itemsN P8) [Col.str (itemAt P8)] false u26 9) (SB.rows true (itemsN P8) [Col.str (itemAt P8)] false u26 9) ∧ SBle (P0 u52) (P0 u52) ∧ SBle P1 P1 ∧ True) ∧ ∀ (u23 : Nat × Nat), Grow (itemsN (cutIn (itOf s 4))) u23 → (decide ((u23.fst : Int) < (↑(itemsN P8) : Int)) = true → (0 ≤ (u23.fst : Int) ∧ (u23.fst : Int) < (↑(itemsN P8) : Int)) ∧
 0 + (u23.fst : Int).toNat < itemsN P8 ∧ (itemAt P8 (0 + (u23.fst : Int).toNat)).length < 9223372036854775808 ∧ (insideB (itemAt P8 (0 + (u23.fst : Int).toNat)) false = true → some (P3 u23) = some (P3 u23) ∧ some (P3 u23) = some (P3 u23) ∧ (0 + u23.fst ≤ u23.fst ∧ True ∧ 2 * (u23.fst + 1) * 16 ≤ (281474976710656 : Nat) ∧ u23.fst + 1 < (9223372036854775808 : Nat)) ∧ u23.snd = u23.snd * 1 ∧ ∀ (u22 : Nat), u23.fst + 1 ≤ u22 → ((-9223372036854775808 : Int) ≤ (u23.fst : Int) + 1 ∧ (u23.fst : Int) + 1 ≤ (9223372036854775807 : Int)) ∧ ∃ (u21 : Nat × Nat), (Grow (itemsN (cutIn (itOf s 4))) u21 ∧ itemsN (cutIn (itOf s 4)) - u21.fst < itemsN (cutIn (itOf s 4)) - u23.fst) ∧ (u23.fst : Int) + 1 = (u21.fst : Int) ∧ (5 : Nat) = (5 : Nat) ∧ numI (itOf s 0) = numI (itOf s 0) ∧ cutIn (itOf s 1) = cutIn (itOf s 1) ∧ cutIn (itOf s 2) = cutIn (itOf s 2) ∧ cutIn (itOf s 3) = cutIn (itOf s 3) ∧ ((0 : Nat) = (0 : Nat) ∧ u23.fst + 1 = u21.fst ∧ u22 = u21.snd) ∧ True ∧
 SBle (SB.rows true (u23.fst + 1) [Col.str fun (u20 : Nat) => if u20 < u23.fst then cutIn (itemAt (cutIn (itOf s 4)) u20) else selS [cutIn (itemAt P8 (0 + (u23.fst : Int).toNat))] (u20 - u23.fst)] false (u22 * 1) 9) (SB.rows true u21.fst [Col.str fun (u19 : Nat) => cutIn (itemAt (cutIn (itOf s 4)) u19)] false u21.snd 9) ∧ SBle (SB.rows true (itemsN P8) [Col.str (itemAt P8)] false u26 9) (SB.rows true (itemsN P8) [Col.str (itemAt P8)] false u26 9) ∧ SBle (P0 u52) (P0 u52) ∧ SBle P1 P1 ∧ True) ∧ (insideB (itemAt P8 (0 + (u23.fst : Int).toNat)) false = false → ∀ (u18 : Int), getPB s = false ∧ ∃ (u17 : Int), SBle (SB.cells [SV.int .i64 false u18, SV.iface 27 (SV.int .i64 true 2)] 2 215) (SB.cells [SV.int .i64 false u17, SV.iface 27 (SV.int .i64 true 2)] 2 215) ∧ sameVal P4 P4)) ∧ (decide ((u23.fst : Int) < (↑(itemsN P8) : Int)) = false → (((True ∧ True ∧ True ∧ True ∧ (true = true ∧ 0 + u23.fst ≤ u23.fst) ∧ True) ∧ True) ∧ True) ∧ ({ k := numI (itOf s 0), root := cutIn (itOf s 1), key := cutIn (itOf s 2), to := cutIn (itOf s 3), n := u23.fst, f := fun (u16 : Nat) => cutIn (itemAt (cutIn (itOf s 4)) u16) : Pp }.ok = true →
 (decide (65536 < (↑{ k := numI (itOf s 0), root := cutIn (itOf s 1), key := cutIn (itOf s 2), to := cutIn (itOf s 3), n := u23.fst, f := fun (u15 : Nat) => cutIn (itemAt (cutIn (itOf s 4)) u15) : Pp }.put.length : Int)) = true → getPB s = false ∧ ∃ (u14 : Int), SBle P9 (SB.cells [SV.int .i64 false u14, SV.iface 27 (SV.int .i64 true 2)] 2 215) ∧ sameVal P4 P4) ∧ (decide (65536 < (↑{ k := numI (itOf s 0), root := cutIn (itOf s 1), key := cutIn (itOf s 2), to := cutIn (itOf s 3), n := u23.fst, f := fun (u13 : Nat) => cutIn (itemAt (cutIn (itOf s 4)) u13) : Pp }.put.length : Int)) = false → ((!decide ({ k := numI (itOf s 0), root := cutIn (itOf s 1), key := cutIn (itOf s 2), to := cutIn (itOf s 3), n := u23.fst, f := fun (u12 : Nat) => cutIn (itemAt (cutIn (itOf s 4)) u12) : Pp }.put = s)) = true → getPB s = false ∧ ∃ (u11 : Int), SBle P9 (SB.cells [SV.int .i64 false u11, SV.iface 27 (SV.int .i64 true 2)] 2 215) ∧ sameVal P4 P4) ∧ ((!decide ({ k := numI (itOf s 0), root := cutIn (itOf s 1), key := cutIn (itOf s 2), to := cutIn (itOf s 3), n := u23.fst, f := fun (u10 : Nat) => cutIn (itemAt (cutIn (itOf s 4)) u10) : Pp }.put = s)) = false → getPB s = true ∧
 ∃ (u9 : Nat), itemsN (cutIn (itOf s 4)) ≤ u9 ∧ SBle (SB.rows true u23.fst [Col.str fun (u8 : Nat) => cutIn (itemAt (cutIn (itOf s 4)) u8)] false u23.snd 9) (SB.rows true (itemsN (cutIn (itOf s 4))) [Col.str fun (u7 : Nat) => cutIn (itemAt (cutIn (itOf s 4)) u7)] false u9 9) ∧ sameVal (SV.agg [SV.int .i64 false (numI (itOf s 0)), SV.str false (cutIn (itOf s 1)), SV.str false (cutIn (itOf s 2)), SV.str false (cutIn (itOf s 3)), SV.rslc ((0 : Nat) + (1 : Nat) + (1 : Nat) + (1 : Nat) + (1 : Nat)) 1 true 0 u23.fst u23.snd]) ((paperD s).sv (SV.rslc ((0 : Nat) + (1 : Nat) + (1 : Nat) + (1 : Nat) + (1 : Nat)) 1 true 0 (itemsN (cutIn (itOf s 4))) u9))))) ∧ ({ k := numI (itOf s 0), root := cutIn (itOf s 1), key := cutIn (itOf s 2), to := cutIn (itOf s 3), n := u23.fst, f := fun (u6 : Nat) => cutIn (itemAt (cutIn (itOf s 4)) u6) : Pp }.ok = false → getPB s = false ∧ ∃ (u5 : Int), SBle P9 (SB.cells [SV.int .i64 false u5, SV.iface 27 (SV.int .i64 true 2)] 2 215) ∧ sameVal P4 P4))) ∧ (pitemsB (itemAt (cutIn s) 4) = false → ∀ (u4 : Int), getPB s = false ∧
 ∃ (u3 : Int), SBle (SB.cells [SV.int .i64 false u4, SV.iface 27 (SV.int .i64 true 2)] 2 215) (SB.cells [SV.int .i64 false u3, SV.iface 27 (SV.int .i64 true 2)] 2 215) ∧ sameVal P2 P2))) ∧ (getB (itemAt (cutIn s) 0) = false → getPB s = false ∧ ∃ (u2 : Int), SBle (SB.cells [SV.int .i64 true 0, SV.iface 27 (SV.int .i64 true 2)] 2 215) (SB.cells [SV.int .i64 false u2, SV.iface 27 (SV.int .i64 true 2)] 2 215) ∧ sameVal P5 P5))) ∧ (pitemsB s = false → ∀ (u1 : Int), getPB s = false ∧ ∃ (u0 : Int), SBle (SB.cells [SV.int .i64 false u1, SV.iface 27 (SV.int .i64 true 2)] 2 215) (SB.cells [SV.int .i64 false u0, SV.iface 27 (SV.int .i64 true 2)] 2 215) ∧ sameVal (SV.iface 213 (SV.ptr ((0 : Nat) + (1 : Nat)) true 0)) (SV.iface 213 (SV.ptr ((0 : Nat) + (1 : Nat)) true 0))))))) (SB.cells [SV.int .i64 true (-1 : Int), SV.iface 27 (SV.int .i64 true 2)] 2 215))) (cutIn (itemAt (cutIn s) 4)))) (SB.cells [SV.int .i64 false (numI (itOf s 0)), SV.str false (cutIn (itOf s 1)), SV.str false (cutIn (itOf s 2)), SV.str false (cutIn (itOf s 3)), SV.nilslc] 5 24))) (SB.cells [SV.int .i64 false (num (cutIn (itemAt (cutIn s) 0))), SV.str false (cutIn (itemAt (cutIn s) 1)), SV.str false (cutIn (itemAt (cutIn s) 2)), SV.str false (cutIn (itemAt (cutIn s) 3)), SV.nilslc] 5 24))) (SV.iface 213 (SV.ptr ((0 : Nat) + (1 : Nat) + (1 : Nat)) true 0)))) (SV.iface 213 (SV.ptr ((0 : Nat) + (1 : Nat) + (1 : Nat) + (1 : Nat) + (1 : Nat) + (1 : Nat)) true 0)))) (fun (u23 : Nat × Nat) => (SB.cells [SV.int .i64 false (numI (itOf s 0)), SV.str false (cutIn (itOf s 1)), SV.str false (cutIn (itOf s 2)), SV.str false (cutIn (itOf s 3)), SV.rslc ((0 : Nat) + (1 : Nat) + (1 : Nat) + (1 : Nat) + (1 : Nat)) 1 true 0 u23.fst u23.snd] 5 24)))) (SV.iface 213 (SV.ptr ((0 : Nat) + (1 : Nat) + (1 : Nat) + (1 : Nat)) true 0)))) (SB.cells (SV.agg [SV.int .i64 true 0, SV.str true [], SV.str true [], SV.str true [], SV.nilslc]).cells 5 24))) (fun (u52 : Nat) => (SB.rows true (itemsN (cutIn s)) [Col.str (itemAt (cutIn s))] false u52 9))) := by kernel_rfl
end Go.Proofs.YtoalfimkkibpdaaGreatDoor
/-
  Wire: plain laws: a paper's bytes tell the paper.
-/
namespace Go.Proofs.YtoalfimkkibpdaaGreatDoor
open Go Sx
set_option maxRecDepth 20000
theorem rowT_whole {x : Pp} (h : x.Small) : ∀ y ∈ x.rows, Whole y := fun y hy => by
  obtain ⟨i, hi, rfl⟩ := rowL_mem hy
  have := h.row i hi
  exact textOf_whole (by omega)
theorem Pp.rows_cut {x : Pp} (h : x.Small) : ListCut (listOf x.rows) x.rows := listOf_cut (rowT_whole h) (by have := Pp.rows_len h; omega)
theorem Pp.put_cut {x : Pp} (h : x.Small) : ListCut x.put x.items := by
  refine listOf_cut (fun y hy => ?_) (by have := Pp.items_len h; omega)
  have := h.k
  have := h.root
  have := h.key
  have := h.to
  simp only [Pp.items, List.mem_cons, List.not_mem_nil, or_false] at hy
  rcases hy with rfl | rfl | rfl | rfl | rfl
  · exact numOf_whole (by omega) (by omega)
  · exact textOf_whole (by omega)
  · exact textOf_whole (by omega)
  · exact textOf_whole (by omega)
  · exact (Pp.rows_cut h).whole
theorem inside_text {b : List UInt8} (h : b.length ≤ 1048576) : insideB (textOf b) false = true := by
  obtain ⟨h1, h2, h3, _⟩ := textOf_get h
  simp [insideB, h1, h2, h3]
theorem ListCut.inside {t : List UInt8} {l : List (List UInt8)} (h : ListCut t l) : insideB t true = true ∧ pitemsB t = true := by
  have : insideB t true = true := by simp [insideB, h.b, h.li, h.r]
  exact ⟨this, by simp [pitemsB, this, h.ib]⟩
structure PaperRead (s : List UInt8) : Prop where
  len : (s.length : Int) ≤ 65536
  whole : pitemsB s = true
  n5 : itemsN (cutIn s) = 5
  g0 : getB (itemAt (cutIn s) 0) = true
  k0 : 0 ≤ num (cutIn (itemAt (cutIn s) 0)) ∧ num (cutIn (itemAt (cutIn s) 0)) ≤ 1
  i1 : insideB (itemAt (cutIn s) 1) false = true
  i2 : insideB (itemAt (cutIn s) 2) false = true
  i3 : insideB (itemAt (cutIn s) 3) false = true
  w4 : pitemsB (itemAt (cutIn s) 4) = true
  n4 : itemsN (cutIn (itemAt (cutIn s) 4)) ≤ 200
  r4 : ∀ i, i < itemsN (cutIn (itemAt (cutIn s) 4)) → insideB (itemAt (cutIn (itemAt (cutIn s) 4)) i) false = true
theorem paper_read {x : Pp} (h : x.fits = true) : PaperRead x.put := by
  unfold Pp.fits at h
  simp only [Bool.and_eq_true, Bool.not_eq_true', decide_eq_false_iff_not] at h
  have hs := Pp.ok_small h.1
  have hc := Pp.put_cut hs
  have hr := Pp.rows_cut hs
  obtain ⟨h1, h2, h3, h4, h5, h6⟩ := hs
  have e0 := hc.at' 0 _ rfl
  have e1 := hc.at' 1 _ rfl
  have e2 := hc.at' 2 _ rfl
  have e3 := hc.at' 3 _ rfl
  have e4 := hc.at' 4 _ rfl
  have hn := numOf_get (n := x.k) (by omega) (by omega)
  have hrow : x.rows.length = x.n := rowL_len _ _ _
  refine ⟨by omega, hc.inside.2, hc.n, ?_, ?_, ?_, ?_, ?_, ?_, ?_, fun i hi => ?_⟩
  · rw [e0]; exact hn.1
  · rw [e0]
    have : num (cutIn (numOf x.k)) = x.k := hn.2.2.2.2
    rw [this]; omega
  · rw [e1]; exact inside_text (by omega)
  · rw [e2]; exact inside_text (by omega)
  · rw [e3]; exact inside_text (by omega)
  · rw [e4]; exact hr.inside.2
  · rw [e4, hr.n, hrow]; exact h5
  · rw [e4] at hi ⊢
    rw [hr.n, hrow] at hi
    obtain ⟨y, hy⟩ : ∃ y, x.rows[i]? = some y := ⟨_, List.getElem?_eq_getElem (by omega)⟩
    rw [hr.at' i y hy]
    obtain ⟨_, h8⟩ := rowL_get (f := rowT x.f) hy
    rw [← h8, Nat.zero_add]
    have := h6 i hi
    show insideB (textOf (x.f i)) false = true
    exact inside_text (by omega)
theorem getPB_read {s : List UInt8} (h : getPB s = true) : PaperRead s ∧ (paperD s).ok = true ∧ (paperD s).put = s := by
  unfold getPB at h
  simp only [Bool.and_eq_true, decide_eq_true_eq] at h
  have := paper_read h.1
  rw [h.2] at this
  have ho := h.1
  unfold Pp.fits at ho
  simp only [Bool.and_eq_true] at ho
  exact ⟨this, ho.1, h.2⟩
theorem getPB_iff {s : List UInt8} : getPB s = true ↔ (paperD s).ok = true ∧ ¬ (65536 : Int) < ((paperD s).put.length : Int) ∧ (paperD s).put = s := by
  unfold getPB Pp.fits
  simp [and_assoc]
end Go.Proofs.YtoalfimkkibpdaaGreatDoor
/-
  Wire: read: the contract; Get: the set-up.
-/
namespace Go.Proofs.YtoalfimkkibpdaaGreatDoor
open Go Sx
set_option maxRecDepth 20000
section
variable {s : List UInt8}
theorem wp_no_read (h : PaperRead s → False) : getPB s = false := Bool.eq_false_iff.2 fun hB => h (getPB_read hB).1
theorem wp_no_len (h : (!decide ((↑s.length : Int) ≤ (65536 : Int))) = true) : getPB s = false := wp_no_read fun F => by
  have := F.len; simp only [Bool.not_eq_true', decide_eq_false_iff_not] at h; exact h this
theorem wp_no_whole (h : pitemsB s = false) : getPB s = false := wp_no_read fun F => by have := F.whole; rw [h] at this; cases this
theorem wp_no_five (h : (!decide ((↑(itemsN (cutIn s)) : Int) = (5 : Int))) = true) : getPB s = false := wp_no_read fun F => by
  have := F.n5; simp only [Bool.not_eq_true', decide_eq_false_iff_not] at h; omega
theorem wp_no_g0 (h : getB (itemAt (cutIn s) 0) = false) : getPB s = false := wp_no_read fun F => by have := F.g0; rw [h] at this; cases this
theorem wp_no_k0 (h : (!decide (num (cutIn (itemAt (cutIn s) 0)) ≤ (1 : Int))) = true) : getPB s = false := wp_no_read fun F => by
  have := F.k0; simp only [Bool.not_eq_true', decide_eq_false_iff_not] at h; omega
theorem wp_no_i1 (h : insideB (itemAt (cutIn s) 1) false = false) : getPB s = false := wp_no_read fun F => by have := F.i1; rw [h] at this; cases this
theorem wp_no_i2 (h : insideB (itemAt (cutIn s) 2) false = false) : getPB s = false := wp_no_read fun F => by have := F.i2; rw [h] at this; cases this
theorem wp_no_i3 (h : insideB (itemAt (cutIn s) 3) false = false) : getPB s = false := wp_no_read fun F => by have := F.i3; rw [h] at this; cases this
theorem wp_no_w4 (h : pitemsB (itemAt (cutIn s) 4) = false) : getPB s = false := wp_no_read fun F => by have := F.w4; rw [h] at this; cases this
theorem wp_no_row {i : Nat} (h : insideB (itemAt (cutIn (itemAt (cutIn s) 4)) i) false = false) (hi : decide ((i : Int) < (itemsN (cutIn (itemAt (cutIn s) 4)) : Int)) = true) : getPB s = false := wp_no_read fun F => by
  simp only [decide_eq_true_eq] at hi
  have := F.r4 i (by omega); rw [h] at this; cases this
def wp_dOf (s : List UInt8) (n : Nat) : Pp := { k := numI (itOf s 0), root := cutIn (itOf s 1), key := cutIn (itOf s 2), to := cutIn (itOf s 3), n := n, f := fun (i : Nat) => cutIn (itemAt (cutIn (itOf s 4)) i) }
theorem wp_dOf_eq {x : Nat × Nat} (hg : Grow (itemsN (cutIn (itOf s 4))) x) (hi : decide ((x.1 : Int) < (itemsN (cutIn (itemAt (cutIn s) 4)) : Int)) = false) : x.1 = itemsN (cutIn (itOf s 4)) := by
  simp only [decide_eq_false_iff_not] at hi
  have h1 : x.1 ≤ itemsN (cutIn (itemAt (cutIn s) 4)) := hg.le
  have h2 : x.1 = itemsN (cutIn (itemAt (cutIn s) 4)) := by omega
  exact h2
theorem wp_dOf_paper {n : Nat} (h : n = itemsN (cutIn (itOf s 4))) : wp_dOf s n = paperD s := by rw [h, wp_dOf, paperD]
theorem wp_no_ok {n : Nat} (e : n = itemsN (cutIn (itOf s 4))) (h : (wp_dOf s n).ok = false) : getPB s = false := by
  rw [wp_dOf_paper e] at h
  exact Bool.eq_false_iff.2 fun hB => by rw [(getPB_iff.1 hB).1] at h; cases h
theorem wp_no_large {n : Nat} (e : n = itemsN (cutIn (itOf s 4))) (h : decide ((65536 : Int) < ((wp_dOf s n).put.length : Int)) = true) : getPB s = false := by
  rw [wp_dOf_paper e] at h
  simp only [decide_eq_true_eq] at h
  exact Bool.eq_false_iff.2 fun hB => (getPB_iff.1 hB).2.1 h
theorem wp_no_same {n : Nat} (e : n = itemsN (cutIn (itOf s 4))) (h : (!decide ((wp_dOf s n).put = s)) = true) : getPB s = false := by
  rw [wp_dOf_paper e] at h
  simp only [Bool.not_eq_true', decide_eq_false_iff_not] at h
  exact Bool.eq_false_iff.2 fun hB => h (getPB_iff.1 hB).2.2
theorem wp_yes_paper {n : Nat} (e : n = itemsN (cutIn (itOf s 4))) (h1 : (wp_dOf s n).ok = true) (h2 : decide ((65536 : Int) < ((wp_dOf s n).put.length : Int)) = false) (h3 : (!decide ((wp_dOf s n).put = s)) = false) : getPB s = true := by
  rw [wp_dOf_paper e] at h1 h2 h3
  simp only [Bool.not_eq_false', decide_eq_true_eq] at h3
  simp only [decide_eq_false_iff_not] at h2
  exact getPB_iff.2 ⟨h1, h2, h3⟩
theorem wp_item_fits (h : (!decide ((↑s.length : Int) ≤ (65536 : Int))) = false) (k : Nat) : (itemAt (cutIn s) k).length ≤ 65536 := by
  simp only [Bool.not_eq_false', decide_eq_true_eq] at h
  have h1 := itemAt_le (cutIn s) k
  have h2 := cutIn_le s
  omega
theorem wp_sub_fits (h : (!decide ((↑s.length : Int) ≤ (65536 : Int))) = false) (k i : Nat) : (itemAt (cutIn (itemAt (cutIn s) k)) i).length ≤ 65536 := by
  have h1 := wp_item_fits h k
  have h2 := itemAt_le (cutIn (itemAt (cutIn s) k)) i
  have h3 := cutIn_le (itemAt (cutIn s) k)
  omega
theorem wp_n_fits (h : (!decide ((↑s.length : Int) ≤ (65536 : Int))) = false) (hw : pitemsB (itemAt (cutIn s) 4) = true) : itemsN (cutIn (itemAt (cutIn s) 4)) ≤ 65536 := by
  have h1 := wp_item_fits h 4
  have h3 := cutIn_le (itemAt (cutIn s) 4)
  unfold pitemsB at hw
  simp only [Bool.and_eq_true] at hw
  have := itemsN_le hw.2
  omega
theorem wp_s_fits (h : (!decide ((↑s.length : Int) ≤ (65536 : Int))) = false) : s.length ≤ 65536 := by
  simp only [Bool.not_eq_false', decide_eq_true_eq] at h; omega
theorem wp_five_of (h : (!decide ((↑(itemsN (cutIn s)) : Int) = (5 : Int))) = false) : itemsN (cutIn s) = 5 := by
  simp only [Bool.not_eq_false', decide_eq_true_eq] at h; omega
theorem wp_k_fits (h : (!decide (num (cutIn (itemAt (cutIn s) 0)) ≤ (1 : Int))) = false) : 0 ≤ num (cutIn (itemAt (cutIn s) 0)) ∧ num (cutIn (itemAt (cutIn s) 0)) ≤ 1 := by
  simp only [Bool.not_eq_false', decide_eq_true_eq] at h
  exact ⟨num_nn _, h⟩
theorem wp_join_sble : SBle (SB.cells [SV.int IntKind.i64 false (num (cutIn (itemAt (cutIn s) (0 : Nat)))), SV.str false (cutIn (itemAt (cutIn s) (1 : Nat))), SV.str false (cutIn (itemAt (cutIn s) (2 : Nat))), SV.str false (cutIn (itemAt (cutIn s) (3 : Nat))), SV.nilslc] (5 : Nat) 24)
    (SB.cells [SV.int IntKind.i64 false (numI (itOf s (0 : Nat))), SV.str false (cutIn (itOf s (1 : Nat))), SV.str false (cutIn (itOf s (2 : Nat))), SV.str false (cutIn (itOf s (3 : Nat))), SV.nilslc] (5 : Nat) 24) := SBle.refl _
end
theorem wp_row_lt {s : List UInt8} {x : Nat × Nat} (h : decide ((x.1 : Int) < (itemsN (cutIn (itemAt (cutIn s) 4)) : Int)) = true) : x.1 < itemsN (cutIn (itemAt (cutIn s) 4)) := by
  simp only [decide_eq_true_eq] at h; omega
theorem wp_row_step {s : List UInt8} {x : Nat × Nat} {c : Nat} (_hg : Grow (itemsN (cutIn (itOf s 4))) x) (h : decide ((x.1 : Int) < (itemsN (cutIn (itemAt (cutIn s) 4)) : Int)) = true) (hc : x.1 + 1 ≤ c) :
    Grow (itemsN (cutIn (itOf s 4))) (x.1 + 1, c) ∧ itemsN (cutIn (itOf s 4)) - (x.1 + 1) < itemsN (cutIn (itOf s 4)) - x.1 := by
  have h1 : x.1 < itemsN (cutIn (itOf s 4)) := wp_row_lt h
  exact ⟨⟨h1, hc⟩, by omega⟩
theorem wp_row_sble {s : List UInt8} {k c : Nat} : SBle (SB.rows true (k + 1) [Col.str fun j => if j < k then cutIn (itemAt (cutIn (itOf s 4)) j) else selS [cutIn (itemAt (cutIn (itemAt (cutIn s) 4)) k)] (j - k)] false (c * 1) 9)
    (SB.rows true (k + 1) [Col.str fun i => cutIn (itemAt (cutIn (itOf s 4)) i)] false c 9) := by
  refine Sx.SBle.strRows rfl (by omega) fun i hi => ?_
  by_cases h : i < k
  · rw [if_pos h]
  · have e : i = k := by omega
    subst e
    rw [if_neg h, Nat.sub_self]
    rfl
theorem wp_broken_lit {l : Bool} {k k' : Nat} {n : Int} : ∃ (x : Int), SBle (SB.cells [SV.int IntKind.i64 l n, SV.iface 27 (SV.int IntKind.i64 true (2 : Int))] (2 : Nat) 215) (SB.cells [SV.int IntKind.i64 false x, SV.iface 27 (SV.int IntKind.i64 true (2 : Int))] (2 : Nat) 215) ∧
    sameVal (SV.iface 213 (SV.ptr k true k')) (SV.iface 213 (SV.ptr k true k')) := ⟨n, SBle.cells (fun _E => rfl) rfl, fun _ => rfl⟩
end Go.Proofs.YtoalfimkkibpdaaGreatDoor
/-
  Wire: read: the contract.
-/
namespace Go.Proofs.YtoalfimkkibpdaaGreatDoor
open Go Sx
set_option maxRecDepth 20000
attribute [local irreducible] itemAt itemsN itemsB cutIn cutB cutRest cutL pitemsB insideB getB num numI getPB Pp.put Pp.ok itOf
theorem wp_last_row {s : List UInt8} {x : Nat × Nat} {k : Nat} (hg : Grow (itemsN (cutIn (itOf s 4))) x) (hi : decide ((x.1 : Int) < (itemsN (cutIn (itemAt (cutIn s) 4)) : Int)) = false) :
    ∃ c, itemsN (cutIn (itOf s 4)) ≤ c ∧ SBle (SB.rows true x.1 [Col.str fun i => cutIn (itemAt (cutIn (itOf s 4)) i)] false x.2 9) (SB.rows true (itemsN (cutIn (itOf s 4))) [Col.str fun i => cutIn (itemAt (cutIn (itOf s 4)) i)] false c 9) ∧
      sameVal (SV.agg [SV.int IntKind.i64 false (numI (itOf s (0 : Nat))), SV.str false (cutIn (itOf s (1 : Nat))), SV.str false (cutIn (itOf s (2 : Nat))), SV.str false (cutIn (itOf s (3 : Nat))), SV.rslc k (1 : Nat) true (0 : Nat) x.1 x.2]) ((paperD s).sv (SV.rslc k (1 : Nat) true (0 : Nat) (itemsN (cutIn (itOf s 4))) c)) := by
  have e := wp_dOf_eq hg hi
  have hc := hg.cap
  rw [e] at hc ⊢
  exact ⟨x.2, hc, SBle.refl _, by simp only [paperD, Pp.sv]; exact fun _ => rfl⟩
set_option maxHeartbeats 4000000 in
theorem pread_holds (s : List UInt8) : Holds (runPan callP4 (annsRead s) Tryz.f43 [.str false s] (getPB s) (preadA s) brokenA) := by
  refine Holds.of_eq (vcPRead s) ?_
  simp only [Int.toNat_natCast, Nat.zero_add]
  repeat' first
    | exact trivial
    | exact SBle.refl _
    | exact wp_broken_lit
    | exact wp_no_len (by assumption)
    | exact wp_no_whole (by assumption)
    | exact wp_no_five (by assumption)
    | exact wp_no_g0 (by assumption)
    | exact wp_no_k0 (by assumption)
    | exact wp_no_i1 (by assumption)
    | exact wp_no_i2 (by assumption)
    | exact wp_no_i3 (by assumption)
    | exact wp_no_w4 (by assumption)
    | refine And.intro ?_ ?_
    | (have := wp_row_lt (x := y) (by assumption); have := wp_n_fits (by assumption) (by assumption); omega)
    | intro (c : Nat) (hc : y.1 + 1 ≤ c)
    | refine ⟨(y.1 + 1, c), wp_row_step hy (by assumption) hc, by simp, trivial, trivial, trivial, trivial, trivial, ⟨trivial, rfl, rfl⟩, trivial, wp_row_sble, SBle.refl _, SBle.refl _, SBle.refl _, trivial⟩
    | exact wp_last_row hy (by assumption)
    | intro (_ : _ = true)
    | intro (_ : _ = false)
    | intro (_ : Int)
    | intro (_ : Nat)
    | intro (_ : _ ≤ _)
    | (have := wp_s_fits (by assumption); omega)
    | exact Nat.lt_of_le_of_lt (wp_item_fits (by assumption) _) (by omega)
    | (have := wp_five_of (by assumption); omega)
    | exact Int.le_trans (by omega) (wp_k_fits (by assumption)).1
    | exact Int.le_trans (wp_k_fits (by assumption)).2 (by omega)
    | refine ⟨(), trivial, trivial, wp_join_sble, SBle.refl _, SBle.refl _, trivial⟩
    | intro (_ : Unit)
    | intro (_ : True)
    | refine ⟨(0, 0), ⟨Nat.zero_le _, Nat.zero_le _⟩, rfl, trivial, trivial, trivial, trivial, trivial, rfl, rfl, SBle.refl _, SBle.refl _, SBle.refl _, trivial⟩
    | exact wp_no_row (by assumption) (by assumption)
    | exact wp_no_ok (wp_dOf_eq hy (by assumption)) (by assumption)
    | exact wp_no_large (wp_dOf_eq hy (by assumption)) (by assumption)
    | exact wp_no_same (wp_dOf_eq hy (by assumption)) (by assumption)
    | exact wp_yes_paper (wp_dOf_eq hy (by assumption)) (by assumption) (by assumption) (by assumption)
    | exact Nat.lt_of_le_of_lt (wp_sub_fits (by assumption) _ _) (by omega)
    | intro (y : Nat × Nat) (hy : Grow _ _)
    | fail
def preadSpec : List SV → Option (Prop × Bool × Ans × Ans)
  | [.str false s] => some (True, getPB s, preadA s, brokenA)
  | _ => none
theorem pread_ok : PanOk Tryz.prog 43 (panPT preadSpec) := by
  refine pan_ok (fn := Tryz.f43) Tryz.func43 (by kernel_rfl) (by kernel_rfl) ?_
  intro args p b a q h hp
  unfold preadSpec at h
  split at h
  · rename_i s
    injection h with h; injection h with h1 h; injection h with h2 h; injection h with h3 h4
    subst h1; subst h2; subst h3; subst h4
    refine ⟨callP4, annsRead s, 100, callP4_ok, mixes, rfl, (fun c => ⟨rfl, rfl, fun k => by simp [Pp.sv, SV.wf, SV.wfs, Nat.blt_eq], fun E E' k k' h => ?_⟩), brokenA_ok, pread_holds s⟩
    simp only [Pp.sv, SV.val, SV.vals, SB.no] at h ⊢
    cases hz : Nat.beq (itemsN (cutIn (itOf s 4))) 0 with
    | true => simp
    | false => rw [hz] at h; rw [h rfl]
  · cases h
noncomputable def exP3 : List (FuncId × (PK → PT)) := (43, panPT preadSpec) :: exP2
theorem exP3_ok : ∀ e ∈ exP3, PanOk Tryz.prog e.1 e.2 := fun e he => by
  rcases List.mem_cons.1 he with rfl | he
  · exact pread_ok
  · exact exP2_ok e he
noncomputable def callP5 : Calling := withP callP2 exP3
theorem callP5_ok : CallingOk Tryz.prog callP5 := withP_ok (callOf_ok goodP2 20) exP3_ok
noncomputable def runDA (cfg : Cfg) (C : Calling) (f : Nat) (fn : Func) (args : List SV) (a : Ans) : VC := runD Tryz.prog cfg C [] (cfg.anns f) cfg.rounds fn args [] 0 (fun v m _ => a.fit v m)
end Go.Proofs.YtoalfimkkibpdaaGreatDoor
/-
  Conditions that the executor computes, written out by a program (vcgen.py).
-/
namespace Go.Proofs.YtoalfimkkibpdaaGreatDoor
open Go Sx
set_option maxRecDepth 20000
theorem vcPGet (s : List UInt8) : VC.holds (runDA cfgP2 callP5 21 Tryz.f21 [.str false s] (getPA s)) = ((fun P0 : Nat → SV => ((True ∧ (getPB s = true → ∀ (u5 : Nat), itemsN (cutIn (itOf s 4)) ≤ u5 → (getPB s = true → ∃ (u4 : Nat), itemsN (cutIn (itOf s 4)) ≤ u4 ∧ SBle (SB.rows true (itemsN (cutIn (itOf s 4))) [Col.str fun (u3 : Nat) => cutIn (itemAt (cutIn (itOf s 4)) u3)] false u5 9) (SB.rows true (itemsN (cutIn (itOf s 4))) [Col.str fun (u2 : Nat) => cutIn (itemAt (cutIn (itOf s 4)) u2)] false u4 9) ∧ sameVal (P0 u5) (SV.tup [(paperD s).sv (SV.rslc ((0 : Nat) + (1 : Nat) + (1 : Nat)) 1 true 0 (itemsN (cutIn (itOf s 4))) u4), SV.int .i64 true 0])) ∧ (getPB s = false → sameVal (P0 u5) (SV.tup [noPaper, SV.int .i64 true 2]))) ∧ (getPB s = false → ∀ (_u1 : Int), (getPB s = true → ∃ (u0 : Nat), itemsN (cutIn (itOf s 4)) ≤ u0 ∧ False) ∧ (getPB s = false → sameVal (SV.tup [SV.agg [SV.int .i64 true 0, SV.str true [], SV.str true [], SV.str true [], SV.nilslc], SV.int .i64 true 2]) (SV.tup [noPaper, SV.int .i64 true 2])))))) (fun (u5 : Nat) => (SV.tup [SV.agg [SV.int .i64 false (numI (itOf s 0)), SV.str false (cutIn (itOf s 1)), SV.str false (cutIn (itOf s 2)), SV.str false (cutIn (itOf s 3)), SV.rslc ((0 : Nat) + (1 : Nat) + (1 : Nat)) 1 true 0 (itemsN (cutIn (itOf s 4))) u5], SV.int .i64 true 0]))) := by kernel_rfl
end Go.Proofs.YtoalfimkkibpdaaGreatDoor
/-
  Wire: Get: the contract.
-/
namespace Go.Proofs.YtoalfimkkibpdaaGreatDoor
open Go Sx
set_option maxRecDepth 20000
theorem getPA_ok (s : List UInt8) : (getPA s).Ok := fun b => by
  cases b with
  | false => exact rfl
  | true =>
    refine fun c => ⟨rfl, rfl, fun k => by simp [Pp.sv, SV.wf, SV.wfs, Nat.blt_eq], fun E E' k k' h => ?_⟩
    simp only [Pp.sv, SV.val, SV.vals, SB.no] at h ⊢
    cases hz : Nat.beq (itemsN (cutIn (itOf s 4))) 0 with
    | true => simp
    | false => rw [hz] at h; rw [h rfl]
attribute [local irreducible] itemAt itemsN itemsB cutIn cutB cutRest cutL numI getPB itOf
theorem pget_holds (s : List UInt8) : Holds (runDA cfgP2 callP5 21 Tryz.f21 [.str false s] (getPA s)) := by
  refine Holds.of_eq (vcPGet s) ?_
  cases h : getPB s with
  | true => exact ⟨trivial, fun _ x hx => ⟨fun _ => ⟨x, hx, by first | exact SBle.refl _ | (simp only [paperD]; exact SBle.refl _), by simp only [paperD, Pp.sv]; exact fun _ => rfl⟩, (fun h => by cases h)⟩, (fun h => by cases h)⟩
  | false => exact ⟨trivial, (fun h => by cases h), fun _ _ => ⟨(fun h => by cases h), fun _ _ => rfl⟩⟩
def pgetSpec : List SV → Option (Prop × Ans)
  | [.str false s] => some (True, getPA s)
  | _ => none
theorem pget_ok : CallOk Tryz.prog 21 (ansPT pgetSpec) := by
  refine ansD_ok (fn := Tryz.f21) Tryz.func21 (by kernel_rfl) (by kernel_rfl) ?_
  intro args p a h hp
  unfold pgetSpec at h
  split at h
  · rename_i s
    injection h with h; injection h with h1 h2; subst h1; subst h2
    exact ⟨cfgP2, callP5, goodP2, callP5_ok, rfl, getPA_ok s, pget_holds s⟩
  · cases h
noncomputable def listP3 : List (FuncId × PT) := (21, ansPT pgetSpec) :: listP2
theorem listP3_ok : SummOk Tryz.prog (fun f => lookPT f listP3) := .cons pget_ok (ansPT_mono _) listP2_ok
end Go.Proofs.YtoalfimkkibpdaaGreatDoor
/-
  Wire: which papers are looked at: the set-up.
-/
namespace Go.Proofs.YtoalfimkkibpdaaGreatDoor
open Go Sx
set_option maxRecDepth 20000
def node7 (f : Nat → List UInt8) (i : Nat) : Bool := !decide ((700 : Int) < ((f i).length : Int))
def fewN (n : Nat) (f : Nat → List UInt8) : Bool := decide ((n : Int) ≤ 45) && (List.range n).all (node7 f)
def Pp.few (x : Pp) : Bool := fewN x.n x.f && decide ((x.root.length : Int) ≤ 50) && decide ((x.key.length : Int) ≤ 50) && decide ((x.to.length : Int) ≤ 50)
structure Upto45 (n : Nat) (t : Nat → Bool) (i : Nat) : Prop where
  up : Upto n t i
  le : i ≤ 46
noncomputable def ann45 (tmp : Nat) (n : Nat) (t : Nat → Bool) : LoopAnn :=
  { α := Nat, pre := fun _ i => Upto45 n t i, mea := fun _ i => n - i, fresh := 0, slots := fun _ i => [(tmp, .int .i64 false i)], mem := fun _ _ => [] }
def seenT (z : Bool) (o c n : Nat) (f : Nat → List UInt8) (key : Option Nat) : Seen := ⟨key, z, o, n, c, [.str f]⟩
def shT : List Sh2 := [.of (.slice dP)]
noncomputable def cfgFewN (n : Nat) (f : Nat → List UInt8) : Cfg := { cfg0 with summ := fun f => lookPT f listP3, anns := fun g => if g = 28 then [(2, always (ann45 3 n (node7 f)))] else [] }
theorem goodFewN (n : Nat) (f : Nat → List UInt8) : Sx.Good Tryz.prog (cfgFewN n f) := ⟨mixes, listP3_ok, fns_ok⟩
end Go.Proofs.YtoalfimkkibpdaaGreatDoor
/-
  Conditions that the executor computes, written out by a program (vcgen.py).
-/
namespace Go.Proofs.YtoalfimkkibpdaaGreatDoor
open Go Sx
set_option maxRecDepth 20000
theorem vcFewN (n : Nat) (f : Nat → List UInt8) (z : Bool) (o c : Nat) (key : Option Nat) : VC.holds (runS (cfgFewN n f) 28 Tryz.f28 [.vslc 0 1 z o 0 n c] [seenT z o c n f key] (.ret (.bool false (fewN n f)))) = (((∃ (u2 : Nat), Upto45 n (node7 f) u2 ∧ 0 = (u2 : Int) ∧ SBle (seenT z o c n f key).B (seenT z o c n f key).B ∧ True) ∧ ∀ (u1 : Nat), Upto45 n (node7 f) u1 → (decide ((u1 : Int) < (n : Int)) = true → (decide ((u1 : Int) ≤ 45) = true → (0 ≤ (u1 : Int) ∧ (u1 : Int) < (n : Int)) ∧ (o = o ∧ 0 + (u1 : Int).toNat < n) ∧ (decide (700 < (↑(f (0 + (u1 : Int).toNat)).length : Int)) = true → sameVal (SV.bool true false) (SV.bool false (fewN n f))) ∧ (decide (700 < (↑(f (0 + (u1 : Int).toNat)).length : Int)) = false → ((-9223372036854775808 : Int) ≤ (u1 : Int) + 1 ∧ (u1 : Int) + 1 ≤ (9223372036854775807 : Int)) ∧ ∃ (u0 : Nat), (Upto45 n (node7 f) u0 ∧ n - u0 < n - u1) ∧ (u1 : Int) + 1 = (u0 : Int) ∧ SBle (seenT z o c n f key).B (seenT z o c n f key).B ∧ True)) ∧ (decide ((u1 : Int) ≤ 45) = false → sameVal (SV.bool (false && true) (decide ((n : Int) ≤ 45))) (SV.bool false (fewN n f)))) ∧ (decide ((u1 : Int) < (n : Int)) = false → sameVal (SV.bool (false && true) (decide ((n : Int) ≤ 45))) (SV.bool false (fewN n f))))) := by kernel_rfl
end Go.Proofs.YtoalfimkkibpdaaGreatDoor
/-
  Wire: which nodes are looked at: the contract; papers: the set-up.
-/
namespace Go.Proofs.YtoalfimkkibpdaaGreatDoor
open Go Sx
set_option maxRecDepth 20000
theorem node7_true {f : Nat → List UInt8} {i : Nat} (h : ¬ (700 : Int) < ((f i).length : Int)) : node7 f i = true := by
  rw [node7, decide_eq_false h]; rfl
theorem node7_f {f : Nat → List UInt8} {i : Nat} (h : (700 : Int) < ((f i).length : Int)) : node7 f i = false := by
  rw [node7, decide_eq_true h]; rfl
theorem fewN_holds (n : Nat) (f : Nat → List UInt8) (z : Bool) (o c : Nat) (key : Option Nat) : Holds (runS (cfgFewN n f) 28 Tryz.f28 [.vslc 0 1 z o 0 n c] [seenT z o c n f key] (.ret (.bool false (fewN n f)))) := by
  refine Holds.of_eq (vcFewN n f z o c key) ?_
  simp only [Int.toNat_natCast, Nat.zero_add, decide_eq_true_eq, decide_eq_false_iff_not]
  refine ⟨⟨0, ⟨⟨Nat.zero_le _, fun j hj => absurd hj (Nat.not_lt_zero _)⟩, Nat.zero_le _⟩, rfl, SBle.refl _, trivial⟩, fun i hi => ⟨fun h1 => ⟨fun h2 => ⟨by omega, ⟨trivial, by omega⟩, fun h3 => ?_, fun h3 => ⟨by omega, i + 1, ⟨⟨upto_next hi.up h1 (node7_true h3), by omega⟩, by omega⟩, by omega, SBle.refl _, trivial⟩⟩, fun h2 => ?_⟩, fun h1 => ?_⟩⟩
  · exact bool_same (by rw [fewN, upto_none h1 (node7_f h3), Bool.and_false])
  · refine bool_same ?_
    have : ¬ (n : Int) ≤ 45 := by omega
    rw [fewN, decide_eq_false this]; rfl
  · exact bool_same (by rw [fewN, upto_all hi.up h1, Bool.and_true])
def fewNSpec (vs : List SV) (l : List Seen) : Option (Prop × Ans) := match vs, l with
  | [_], [⟨_, _, _, n, _, [.str f]⟩] => some (True, .ret (.bool false (fewN n f)))
  | _, _ => none
theorem fewN_ok : CallOk Tryz.prog 28 (ansVPT shT fewNSpec) := by
  refine ansV_ok (n := 20) (fn := Tryz.f28) Tryz.func28 (by kernel_rfl) (by kernel_rfl) ?_
  intro vs l q a h hq
  unfold fewNSpec at h
  split at h
  · rename_i v key z o n c f
    injection h with h; injection h with h1 h2; subst h1; subst h2
    exact ⟨_, goodFewN n f, rfl, rfl, fewN_holds n f z o c key⟩
  · cases h
noncomputable def listW1 : List (FuncId × PT) := (28, ansVPT shT fewNSpec) :: listP3
theorem listW1_ok : SummOk Tryz.prog (fun f => lookPT f listW1) := .cons fewN_ok (ansVPT_mono _ _) listP3_ok
noncomputable def cfgW1 : Cfg := { cfg0 with summ := fun f => lookPT f listW1 }
theorem goodW1 : Sx.Good Tryz.prog cfgW1 := ⟨mixes, listW1_ok, fns_ok⟩
end Go.Proofs.YtoalfimkkibpdaaGreatDoor
/-
  Conditions that the executor computes, written out by a program (vcgen.py).
-/
namespace Go.Proofs.YtoalfimkkibpdaaGreatDoor
open Go Sx
set_option maxRecDepth 20000
theorem vcPFew (x : Pp) (z : Bool) (o c : Nat) (key : Option Nat) : VC.holds (runS cfgW1 10 Tryz.f10 [x.sv (.vslc 0 1 z o 0 x.n c)] [seenP z o c x key] (.ret (.bool false x.few))) = (((((z = z ∧ o = o ∧ 0 + x.n ≤ x.n) ∧ True) ∧ True) ∧ (fewN x.n x.f = true → (decide ((x.root.length : Int) ≤ 50) = true → (decide ((x.key.length : Int) ≤ 50) = true → sameVal (SV.bool (false && true) (decide ((x.to.length : Int) ≤ 50))) (SV.bool false x.few)) ∧ (decide ((x.key.length : Int) ≤ 50) = false → sameVal (SV.bool true false) (SV.bool false x.few))) ∧ (decide ((x.root.length : Int) ≤ 50) = false → sameVal (SV.bool true false) (SV.bool false x.few))) ∧ (fewN x.n x.f = false → sameVal (SV.bool true false) (SV.bool false x.few)))) := by kernel_rfl
end Go.Proofs.YtoalfimkkibpdaaGreatDoor
/-
  Wire: which papers are looked at: the contract; the laws' set-up.
-/
namespace Go.Proofs.YtoalfimkkibpdaaGreatDoor
open Go Sx
set_option maxRecDepth 20000
theorem pfew_holds (x : Pp) (z : Bool) (o c : Nat) (key : Option Nat) : Holds (runS cfgW1 10 Tryz.f10 [x.sv (.vslc 0 1 z o 0 x.n c)] [seenP z o c x key] (.ret (.bool false x.few))) := by
  refine Holds.of_eq (vcPFew x z o c key) ?_
  unfold Pp.few
  generalize fewN x.n x.f = b1
  generalize decide ((x.root.length : Int) ≤ 50) = b2
  generalize decide ((x.key.length : Int) ≤ 50) = b3
  generalize decide ((x.to.length : Int) ≤ 50) = b4
  refine ⟨⟨⟨⟨rfl, rfl, by omega⟩, trivial⟩, trivial⟩, fun h1 => ⟨fun h2 => ⟨fun h3 => ?_, fun h3 => ?_⟩, fun h2 => ?_⟩, fun h1 => ?_⟩
  all_goals (apply bool_same; simp_all)
def pfewSpec (vs : List SV) (l : List Seen) : Option (Prop × Ans) := match paperOf vs l with
  | some (x, _) => some (True, .ret (.bool false x.few))
  | none => none
theorem pfew_ok : CallOk Tryz.prog 10 (ansVPT shP pfewSpec) := by
  refine ansV_ok (n := 20) (fn := Tryz.f10) Tryz.func10 (by kernel_rfl) (by kernel_rfl) ?_
  intro vs l q a h hq
  unfold pfewSpec at h
  split at h
  · rename_i x r hx
    obtain ⟨z, o, c, key⟩ := r
    injection h with h; injection h with h1 h2; subst h1; subst h2
    obtain ⟨e1, e2⟩ := paperOf_eq hx
    rw [e1, e2]
    exact ⟨_, goodW1, rfl, rfl, pfew_holds x z o c key⟩
  · cases h
def wworksSpec : List SV → Option (Prop × Ans)
  | [] => some (True, .ret (.bool true true))
  | _ => none
abbrev WorksOk : Prop := CallOk Tryz.prog 9 (ansPT wworksSpec)
noncomputable def listW2 : List (FuncId × PT) := (9, ansPT wworksSpec) :: (10, ansVPT shP pfewSpec) :: listW1
theorem listW2_ok (hw : WorksOk) : SummOk Tryz.prog (fun f => lookPT f listW2) := .cons hw (ansPT_mono _) (.cons pfew_ok (ansVPT_mono _ _) listW1_ok)
noncomputable def cfgW2 : Cfg := { cfg0 with summ := fun f => lookPT f listW2 }
theorem goodW2 (hw : WorksOk) : Sx.Good Tryz.prog cfgW2 := ⟨mixes, listW2_ok hw, fns_ok⟩
end Go.Proofs.YtoalfimkkibpdaaGreatDoor
/-
  The framework's part 28: contracts shown at arguments that say the same in other words.
-/
namespace Go.Proofs.YtoalfimkkibpdaaGreatDoor.Sx
open Go
theorem ansW_ok {P : Program} {f : FuncId} {fn : Func} (hf : P.funcs[f]? = some fn) (hn : (fn.name == "runtime.NumGoroutine") = false) (hb : fn.body.isSome = true) {n : Nat} {spec : List SV → Option (Prop × Ans)}
    (h : ∀ args p a, spec args = some (p, a) → p → ∃ cfg args', Good P cfg ∧ (∀ E, SV.vals E args' = SV.vals E args) ∧ SV.wfs 0 args' = true ∧ a.Ok ∧ Holds (runFn P (calling P cfg n) [] noP (cfg.anns f) cfg.rounds fn args' [] 0 (fun v m _ => a.fit v m))) : CallOk P f (ansPT spec) := by
  intro args m nx K hk hwf hargs Γ E w hs
  unfold ansPT at hk
  split at hk
  · rename_i p a hr
    obtain ⟨hp, hk⟩ := hk
    obtain ⟨cfg, args', hg, e, h1, h2, h3⟩ := h _ _ _ hr hp
    have hc := calls_of_holds hg hf hn hb h3 rfl h1 (SatM.none w hs.glob)
    rw [SV.vals_pure h1 (fun _ => 0) E, e, unlit_vals] at hc
    refine out_of_calls hf hn hb (hc.mono ?_)
    rintro e w' ⟨v, rfl, E', sv, m', nx', _, _, g3, g4, g5⟩
    refine ⟨v, rfl, ?_⟩
    cases sv with
    | none => exact g5.elim
    | some u => rw [g3 u rfl]; exact Ans.told hs hwf g4 h2 g5 hk
  · exact hk.elim
theorem pure_of_ans {P : Program} {f : FuncId} {spec : List SV → Option (Prop × SV)} (h : CallOk P f (ansPT fun args => (spec args).map fun p => (p.1, .ret p.2))) : CallOk P f (purePT spec) := by
  intro args m nx K hk
  refine h args m nx K ?_
  unfold purePT at hk
  unfold ansPT
  split at hk
  · rename_i p r hr
    simp only [hr, Option.map_some]
    exact hk
  · exact hk.elim
end Go.Proofs.YtoalfimkkibpdaaGreatDoor.Sx
/-
  Node: nibbles: the set-up.
-/
namespace Go.Proofs.YtoalfimkkibpdaaGreatDoor
open Go Sx
set_option maxRecDepth 20000
structure AllTo (n : Nat) (t : Nat → Bool) (i : Nat) : Prop where
  le : i ≤ n
  all : ∀ j, j < i → t j = true
noncomputable def annAll (tmp n : Nat) (t : Nat → Bool) : LoopAnn :=
  { α := Nat, pre := fun _ i => AllTo n t i, mea := fun _ i => n - i, fresh := 0, slots := fun _ i => [(tmp, .int .i64 false i)], mem := fun _ _ => [] }
def nibT (p : List UInt8) (i : Nat) : Bool := !decide (15 < byteAt p i)
def nibB (p : List UInt8) : Bool := (List.range p.length).all (nibT p)
noncomputable def cfgNV (p : List UInt8) : Cfg := { cfg0 with summ := fun f => lookPT f list7, anns := fun f => if f = 166 then [(2, always (annAll 6 p.length (nibT p)))] else [] }
theorem goodNV (p : List UInt8) : Sx.Good Tryz.prog (cfgNV p) := ⟨mixes, list7_ok, fns_ok⟩
def nibAt (k : List UInt8) (j : Nat) : Int := if j % 2 = 0 then byteAt k (j / 2) / 16 else byteAt k (j / 2) % 16
def pathL (k : List UInt8) : List UInt8 := bytesFrom (nibAt k) 0 (2 * k.length)
noncomputable def annPath (k : List UInt8) : LoopAnn :=
  { α := Nat × Nat, pre := fun _ x => x.1 ≤ k.length ∧ 2 * x.1 ≤ x.2, mea := fun _ x => k.length - x.1, fresh := 1, slots := fun st x => [(11, .int .i64 false x.1), (3, .rslc st.nx 1 false 0 (2 * x.1) x.2)],
    mem := fun st x => [(st.nx, .rows false (2 * x.1) [.int .u8 (nibAt k)] false x.2 5)] }
noncomputable def cfgNP (k : List UInt8) : Cfg := { cfg0 with summ := fun f => lookPT f list7, anns := fun f => if f = 57 then [(3, always (annPath k))] else [] }
theorem goodNP (k : List UInt8) : Sx.Good Tryz.prog (cfgNP k) := ⟨mixes, list7_ok, fns_ok⟩
def pairAt (p : List UInt8) (j : Nat) : Int := bitsOf .or (byteAt p (2 * (j : Int)) * 16 % 256) (byteAt p (2 * (j : Int) + 1))
def pairsL (p : List UInt8) : List UInt8 := bytesFrom (pairAt p) 0 (p.length / 2)
noncomputable def annPairs (p : List UInt8) : LoopAnn :=
  { α := Nat × (Nat → Int), pre := fun _ x => x.1 ≤ p.length / 2 ∧ ∀ j, j < x.1 → x.2 j = pairAt p j, mea := fun _ x => p.length / 2 - x.1, fresh := 0, slots := fun _ x => [(11, .int .i64 false x.1)],
    mem := fun st x => match slot st.tmps 3 with
      | some (.rslc k _ _ _ _ _) => (match st.m.get k with
        | some (.rows z n _ ro tot ty) => [(k, .rows z n [.int .u8 x.2] ro tot ty)]
        | _ => [])
      | _ => [] }
noncomputable def cfgNQ (p : List UInt8) : Cfg := { cfg0 with summ := fun f => lookPT f list7, anns := fun f => if f = 167 then [(3, always (annPairs p))] else [] }
theorem goodNQ (p : List UInt8) : Sx.Good Tryz.prog (cfgNQ p) := ⟨mixes, list7_ok, fns_ok⟩
def flagN (leaf odd : Bool) : Int := (bif leaf then 2 else 0) + (bif odd then 1 else 0)
end Go.Proofs.YtoalfimkkibpdaaGreatDoor
/-
  Conditions that the executor computes, written out by a program (vcgen.py).
-/
namespace Go.Proofs.YtoalfimkkibpdaaGreatDoor
open Go Sx
set_option maxRecDepth 20000
theorem vcNValid (p : List UInt8) (R : SV → Prop) : VC.holds (runP (cfgNV p) 166 Tryz.f166 [.str false p] R) = (((∃ (u2 : Nat), AllTo p.length (nibT p) u2 ∧ 0 = (u2 : Int) ∧ True) ∧ ∀ (u1 : Nat), AllTo p.length (nibT p) u1 → (decide ((u1 : Int) < (p.length : Int)) = true → (0 ≤ (u1 : Int) ∧ (u1 : Int) < (p.length : Int)) ∧ (decide (15 < byteAt p (u1 : Int)) = true → R (SV.bool true false)) ∧ (decide (15 < byteAt p (u1 : Int)) = false → ((-9223372036854775808 : Int) ≤ (u1 : Int) + 1 ∧ (u1 : Int) + 1 ≤ (9223372036854775807 : Int)) ∧ ∃ (u0 : Nat), (AllTo p.length (nibT p) u0 ∧ p.length - u0 < p.length - u1) ∧ (u1 : Int) + 1 = (u0 : Int) ∧ True)) ∧ (decide ((u1 : Int) < (p.length : Int)) = false → R (SV.bool true true)))) := by kernel_rfl
theorem vcNPath (k : List UInt8) (R : SV → Prop) : VC.holds (runP (cfgNP k) 57 Tryz.f57 [.str false k] R) = ((((-9223372036854775808 : Int) ≤ 2 * (k.length : Int) ∧ 2 * (k.length : Int) ≤ 9223372036854775807) ∧ ((0 : Int) ≤ 2 * (k.length : Int) ∧ 1 * (2 * (k.length : Int)) ≤ 140737488355328 ∧ 2 * (k.length : Int) ≤ 9223372036854775807) ∧ (∃ (u4 : Nat × Nat), (u4.fst ≤ k.length ∧ 2 * u4.fst ≤ u4.snd) ∧ 0 = (u4.fst : Int) ∧ ((0 : Nat) = (0 : Nat) ∧ (0 : Nat) = 2 * u4.fst ∧ (2 * (k.length : Int)).toNat = u4.snd) ∧ True ∧ SBle (SB.cells [] ((2 * (k.length : Int)).toNat * 1) 5) (SB.rows false (2 * u4.fst) [Col.int IntKind.u8 (nibAt k)] false u4.snd 5) ∧ True) ∧ ∀ (u3 : Nat × Nat), u3.fst ≤ k.length ∧ 2 * u3.fst ≤ u3.snd → (decide ((u3.fst : Int) < (k.length : Int)) = true → (0 ≤ (u3.fst : Int) ∧ (u3.fst : Int) < (k.length : Int)) ∧ (0 ≤ (u3.fst : Int) ∧ (u3.fst : Int) < (k.length : Int)) ∧ (0 ≤ byteAt k (u3.fst : Int) ∧ byteAt k (u3.fst : Int) ≤ 255 ∧ (0 : Int) ≤ (15 : Int) ∧ (15 : Int) ≤ (255 : Int)) ∧ ((0 : Nat) + 2 * u3.fst ≤ 2 * u3.fst ∧ True ∧ 2 * (2 * u3.fst + 2) * 1 ≤ (281474976710656 : Nat) ∧ 2 * u3.fst + 2 < (9223372036854775808 : Nat)) ∧ u3.snd = u3.snd * 1 ∧ ∀ (u2 : Nat), 2 * u3.fst + 2 ≤ u2 → ((-9223372036854775808 : Int) ≤ (u3.fst : Int) + 1 ∧
 (u3.fst : Int) + 1 ≤ (9223372036854775807 : Int)) ∧ ∃ (u1 : Nat × Nat), ((u1.fst ≤ k.length ∧ 2 * u1.fst ≤ u1.snd) ∧ k.length - u1.fst < k.length - u3.fst) ∧ (u3.fst : Int) + 1 = (u1.fst : Int) ∧ ((0 : Nat) = (0 : Nat) ∧ 2 * u3.fst + 2 = 2 * u1.fst ∧ u2 = u1.snd) ∧ True ∧ SBle (SB.rows false (2 * u3.fst + 2) [Col.int IntKind.u8 fun (u0 : Nat) => if u0 < 2 * u3.fst then nibAt k u0 else sel [byteAt k (u3.fst : Int) / 16, bitsOf BinOp.and (byteAt k (u3.fst : Int)) 15] (u0 - 2 * u3.fst)] false (u2 * 1) 5) (SB.rows false (2 * u1.fst) [Col.int IntKind.u8 (nibAt k)] false u1.snd 5) ∧ True) ∧ (decide ((u3.fst : Int) < (k.length : Int)) = false → (0 : Nat) + 2 * u3.fst ≤ 2 * u3.fst ∧ R (SV.str false (bytesFrom (nibAt k) 0 (2 * u3.fst)))))) := by kernel_rfl
theorem vcNPairs (p : List UInt8) (R : SV → Prop) : VC.holds (runP (cfgNQ p) 167 Tryz.f167 [.str false p] R) = (((0 ≤ (p.length : Int) ∧ (p.length : Int) ≤ 9223372036854775807 ∧ (0 : Int) < (2 : Int)) ∧ ((p.length : Int) / 2 = (p.length : Int) / 2 ∧ 0 ≤ (p.length : Int) / 2 ∧ 1 * ((p.length : Int) / 2) ≤ 140737488355328 ∧ (p.length : Int) / 2 ≤ (9223372036854775807 : Int)) ∧ (∃ (u7 : Nat × (Nat → Int)), (u7.fst ≤ p.length / 2 ∧ ∀ (u6 : Nat), u6 < u7.fst → u7.snd u6 = pairAt p u6) ∧ 0 = (u7.fst : Int) ∧ SBle (SB.rows false ((p.length : Int) / 2).toNat [Col.int IntKind.u8 fun (_u5 : Nat) => (0 : Int)] false (((p.length : Int) / 2).toNat * 1) 5) (SB.rows false ((p.length : Int) / 2).toNat [Col.int IntKind.u8 u7.snd] false (((p.length : Int) / 2).toNat * 1) 5) ∧ True) ∧ ∀ (u4 : Nat × (Nat → Int)), (u4.fst ≤ p.length / 2 ∧ ∀ (u3 : Nat), u3 < u4.fst → u4.snd u3 = pairAt p u3) → (decide ((u4.fst : Int) < (↑((p.length : Int) / 2).toNat : Int)) = true → ((-9223372036854775808 : Int) ≤ 2 * (u4.fst : Int) ∧ 2 * (u4.fst : Int) ≤ 9223372036854775807) ∧ ((0 : Int) ≤ 2 * (u4.fst : Int) ∧ 2 * (u4.fst : Int) < (p.length : Int)) ∧ ((-9223372036854775808 : Int) ≤ 2 * (u4.fst : Int) ∧ 2 * (u4.fst : Int) ≤ 9223372036854775807) ∧ ((-9223372036854775808 : Int) ≤ 2 * (u4.fst : Int) + 1 ∧
 2 * (u4.fst : Int) + 1 ≤ (9223372036854775807 : Int)) ∧ ((0 : Int) ≤ 2 * (u4.fst : Int) + 1 ∧ 2 * (u4.fst : Int) + 1 < (p.length : Int)) ∧ (0 ≤ byteAt p (2 * (u4.fst : Int)) * 16 % (256 : Int) ∧ byteAt p (2 * (u4.fst : Int)) * 16 % (256 : Int) ≤ (255 : Int) ∧ 0 ≤ byteAt p (2 * (u4.fst : Int) + 1) ∧ byteAt p (2 * (u4.fst : Int) + 1) ≤ 255) ∧ (0 ≤ (u4.fst : Int) ∧ (u4.fst : Int) < (↑((p.length : Int) / 2).toNat : Int)) ∧ 0 + (u4.fst : Int).toNat < ((p.length : Int) / 2).toNat ∧ ((-9223372036854775808 : Int) ≤ (u4.fst : Int) + 1 ∧ (u4.fst : Int) + 1 ≤ (9223372036854775807 : Int)) ∧ ∃ (u2 : Nat × (Nat → Int)), ((u2.fst ≤ p.length / 2 ∧ ∀ (u1 : Nat), u1 < u2.fst → u2.snd u1 = pairAt p u1) ∧ p.length / 2 - u2.fst < p.length / 2 - u4.fst) ∧ (u4.fst : Int) + 1 = (u2.fst : Int) ∧ SBle (SB.rows false ((p.length : Int) / 2).toNat [Col.int IntKind.u8 fun (u0 : Nat) => if u0 = 0 + (u4.fst : Int).toNat then bitsOf BinOp.or (byteAt p (2 * (u4.fst : Int)) * 16 % (256 : Int)) (byteAt p (2 * (u4.fst : Int) + 1)) else u4.snd u0] false (((p.length : Int) / 2).toNat * 1) 5) (SB.rows false ((p.length : Int) / 2).toNat [Col.int IntKind.u8 u2.snd] false (((p.length : Int) / 2).toNat * 1) 5) ∧ True) ∧
 (decide ((u4.fst : Int) < (↑((p.length : Int) / 2).toNat : Int)) = false → 0 + ((p.length : Int) / 2).toNat ≤ ((p.length : Int) / 2).toNat ∧ R (SV.str false (bytesFrom u4.snd 0 ((p.length : Int) / 2).toNat))))) := by kernel_rfl
theorem vcNFlag (a b : Bool) (R : SV → Prop) : VC.holds (runP cfg7 203 Tryz.f203 [.bool false a, .bool false b] R) = (((a = true → (b = true → R (SV.int .u8 true 3)) ∧ (b = false → (a = true → R (SV.int .u8 true 2)) ∧ (a = false → (b = true → R (SV.int .u8 true 1)) ∧ (b = false → R (SV.int .u8 true 0))))) ∧ (a = false → (a = true → R (SV.int .u8 true 2)) ∧ (a = false → (b = true → R (SV.int .u8 true 1)) ∧ (b = false → R (SV.int .u8 true 0)))))) := by kernel_rfl
end Go.Proofs.YtoalfimkkibpdaaGreatDoor
/-
  Node: nibbles: the contracts of Valid, Path, pairs, flag; Put, Get: the set-up.
-/
namespace Go.Proofs.YtoalfimkkibpdaaGreatDoor
open Go Sx
set_option maxRecDepth 20000
theorem bool_eq {l : Bool} {a b : Bool} (h : a = b) : sameVal (.bool l a) (.bool false b) := fun E => by subst h; rfl
theorem AllTo.next {n : Nat} {t : Nat → Bool} {i : Nat} (h : AllTo n t i) (hi : (i : Int) < (n : Int)) (ht : t i = true) : AllTo n t (i + 1) :=
  ⟨by omega, fun j hj => by
    by_cases e : j = i
    · subst e; exact ht
    · exact h.all j (by omega)⟩
theorem AllTo.zero (n : Nat) (t : Nat → Bool) : AllTo n t 0 := ⟨Nat.zero_le _, fun _j hj => absurd hj (Nat.not_lt_zero _)⟩
theorem AllTo.done {n : Nat} {t : Nat → Bool} {i : Nat} (h : AllTo n t i) (hi : ¬ (i : Int) < (n : Int)) : (List.range n).all t = true := by
  rw [List.all_eq_true]
  intro j hj
  have := List.mem_range.1 hj
  exact h.all j (by omega)
theorem all_none {n i : Nat} {t : Nat → Bool} (hi : (i : Int) < (n : Int)) (ht : t i = false) : (List.range n).all t = false := by
  rw [List.all_eq_false]
  exact ⟨i, List.mem_range.2 (by omega), by rw [ht]; decide⟩
theorem nvalid_holds {p : List UInt8} (hp : p.length < 1152921504606846976) : Holds (runP (cfgNV p) 166 Tryz.f166 [.str false p] (fun v => sameVal v (.bool false (nibB p)))) := by
  refine Holds.of_eq (vcNValid p _) ?_
  refine ⟨⟨0, AllTo.zero _ _, rfl, trivial⟩, fun x hx => ⟨fun h => ?_, fun h => ?_⟩⟩
  · have h : (x : Int) < (p.length : Int) := of_decide_eq_true h
    refine ⟨by omega, fun g => bool_eq ?_, fun g => ⟨by omega, x + 1, ⟨hx.next h ?_, by omega⟩, by omega, trivial⟩⟩
    · exact (all_none h (by rw [nibT, g]; rfl)).symm
    · rw [nibT, g]; rfl
  · have h : ¬ (x : Int) < (p.length : Int) := of_decide_eq_false h
    exact bool_eq (hx.done h).symm
def nvalidSpec : List SV → Option (Prop × SV)
  | [.str false p] => some (p.length < 1152921504606846976, .bool false (nibB p))
  | _ => none
theorem nvalid_ok : CallOk Tryz.prog 166 (purePT nvalidSpec) := by
  refine pure_of_ans (ans_ok (n := 20) (fn := Tryz.f166) Tryz.func166 (by kernel_rfl) (by kernel_rfl) ?_)
  intro args p a h hp
  unfold nvalidSpec at h
  split at h
  · injection h with h; injection h with h1 h2; subst h1; subst h2
    exact ⟨_, goodNV _, rfl, rfl, nvalid_holds hp⟩
  · cases h
theorem and15 {b : Int} (h0 : 0 ≤ b) (h1 : b < 256) : bitsOf .and b 15 = b % 16 := by
  obtain ⟨n, rfl⟩ := Int.eq_ofNat_of_zero_le h0
  show (((n : Int).toNat &&& (15 : Int).toNat : Nat) : Int) = _
  have : n &&& 15 = n % 16 := Nat.and_two_pow_sub_one_eq_mod n 4
  simp only [Int.toNat_natCast]
  rw [show (15 : Int).toNat = 15 from rfl, this]; omega
theorem rows_int {z z' : Bool} {n n' : Nat} {f g : Nat → Int} {tot tot' : Nat} {ty : TypeId} (hz : z = z') (hn : n = n') (ht : tot = tot') (h : ∀ i, i < n → f i = g i) : SBle (.rows z n [.int .u8 f] false tot ty) (.rows z' n' [.int .u8 g] false tot' ty) := by
  subst hz
  refine Sx.SBle.rowsCongr hn ht rfl fun i k c' hi hk => ⟨.int .u8 f, ?_, ?_⟩
  · match k, hk with
    | 0, _ => rfl
  · match k, hk with
    | 0, hk =>
      simp only [List.getElem?_cons_zero, Option.some.injEq] at hk
      subst hk
      simp only [Col.at, h i hi]
theorem rows_none {tot tot' : Nat} {ty : TypeId} {cols : List Col} {z : Bool} (h : tot = tot') : SBle (.cells [] tot ty) (.rows z 0 cols false tot' ty) := by
  subst h
  intro _
  refine ⟨rfl, fun E o ⟨c, fr, h1, h2, _, h4⟩ => ⟨c, fr, h1, fun _ => h2, by omega, h4, fun i k col hi => absurd hi (Nat.not_lt_zero _)⟩, fun _ => rfl⟩
theorem nibAt_next (k : List UInt8) (x i : Nat) (hi : i < 2 * x + 2) (h1 : ¬ i < 2 * x) : sel [byteAt k (x : Int) / 16, bitsOf .and (byteAt k (x : Int)) 15] (i - 2 * x) = nibAt k i := by
  have hb := byteAt_lt k (x : Int)
  rw [and15 hb.1 hb.2]
  unfold nibAt
  by_cases e : i = 2 * x
  · subst e
    have e2 : 2 * x / 2 = x := by omega
    rw [if_pos (by omega), show ((2 * x : Nat) : Int) / 2 = (x : Int) by omega, Nat.sub_self]; rfl
  · have e : i = 2 * x + 1 := by omega
    subst e
    rw [if_neg (by omega), show ((2 * x + 1 : Nat) : Int) / 2 = (x : Int) by omega, show 2 * x + 1 - 2 * x = 1 by omega]; rfl
theorem npath_holds {k : List UInt8} (hk : k.length < 1099511627776) : Holds (runP (cfgNP k) 57 Tryz.f57 [.str false k] (fun v => sameVal v (.str false (pathL k)))) := by
  refine Holds.of_eq (vcNPath k _) ?_
  refine ⟨by omega, by omega, ⟨(0, 2 * k.length), ⟨Nat.zero_le _, Nat.zero_le _⟩, rfl, ⟨rfl, rfl, by omega⟩, trivial, rows_none (by omega), trivial⟩, fun x hx => ⟨fun h => ?_, fun h => ?_⟩⟩
  · have h : (x.1 : Int) < (k.length : Int) := of_decide_eq_true h
    have hb := byteAt_lt k (x.1 : Int)
    refine ⟨by omega, by omega, by omega, ⟨by omega, trivial, by omega, by omega⟩, by omega, fun c hc => ⟨by omega, (x.1 + 1, c), ⟨⟨by show x.1 + 1 ≤ _; omega, by show 2 * (x.1 + 1) ≤ c; omega⟩, by show _ - (x.1 + 1) < _; omega⟩, by show (x.1 : Int) + 1 = ((x.1 + 1 : Nat) : Int); omega, ⟨rfl, rfl, rfl⟩, trivial, rows_int rfl rfl (Nat.mul_one c) fun i hi => ?_, trivial⟩⟩
    by_cases h1 : i < 2 * x.1
    · rw [if_pos h1]
    · rw [if_neg h1]; exact nibAt_next k x.1 i hi h1
  · have h : ¬ (x.1 : Int) < (k.length : Int) := of_decide_eq_false h
    have e : x.1 = k.length := by have := hx.1; omega
    exact ⟨by omega, str_same (by rw [e]; rfl)⟩
def npathSpec : List SV → Option (Prop × SV)
  | [.str false k] => some (k.length < 1099511627776, .str false (pathL k))
  | _ => none
theorem npath_ok : CallOk Tryz.prog 57 (purePT npathSpec) := by
  refine pure_of_ans (ans_ok (n := 20) (fn := Tryz.f57) Tryz.func57 (by kernel_rfl) (by kernel_rfl) ?_)
  intro args p a h hp
  unfold npathSpec at h
  split at h
  · injection h with h; injection h with h1 h2; subst h1; subst h2
    exact ⟨_, goodNP _, rfl, rfl, npath_holds hp⟩
  · cases h
theorem npairs_holds {p : List UInt8} (hp : p.length < 1099511627776) : Holds (runP (cfgNQ p) 167 Tryz.f167 [.str false p] (fun v => sameVal v (.str false (pairsL p)))) := by
  refine Holds.of_eq (vcNPairs p _) ?_
  have e : ((p.length : Int) / 2).toNat = p.length / 2 := by omega
  rw [e]
  refine ⟨by omega, ⟨rfl, by omega, by omega, by omega⟩, ⟨(0, fun _ => 0), ⟨Nat.zero_le _, fun j hj => absurd hj (Nat.not_lt_zero _)⟩, rfl, SBle.refl _, trivial⟩, fun x hx => ⟨fun h => ?_, fun h => ?_⟩⟩
  · have h : (x.1 : Int) < ((p.length / 2 : Nat) : Int) := of_decide_eq_true h
    have b1 := byteAt_lt p (2 * (x.1 : Int))
    have b2 := byteAt_lt p (2 * (x.1 : Int) + 1)
    refine ⟨by omega, by omega, by omega, by omega, by omega, by omega, by omega, by omega, by omega, (x.1 + 1, fun j => if j = x.1 then pairAt p x.1 else x.2 j), ⟨⟨by show x.1 + 1 ≤ _; omega, fun j hj => ?_⟩, by show _ - (x.1 + 1) < _; omega⟩, by show (x.1 : Int) + 1 = ((x.1 + 1 : Nat) : Int); omega, ?_, trivial⟩
    · show (if j = x.1 then pairAt p x.1 else x.2 j) = pairAt p j
      by_cases ej : j = x.1
      · rw [if_pos ej, ej]
      · rw [if_neg ej]; exact hx.2 j (by have : j < x.1 + 1 := hj; omega)
    · refine rows_int rfl rfl rfl fun i hi => ?_
      simp only [Nat.zero_add, Int.toNat_natCast]
      rfl
  · have h : ¬ (x.1 : Int) < ((p.length / 2 : Nat) : Int) := of_decide_eq_false h
    have e1 : x.1 = p.length / 2 := by have := hx.1; omega
    refine ⟨by omega, str_same ?_⟩
    unfold pairsL bytesFrom
    apply List.map_congr_left
    intro j hj
    rw [List.mem_range] at hj
    rw [Nat.zero_add, hx.2 j (by omega)]
def npairsSpec : List SV → Option (Prop × SV)
  | [.str false p] => some (p.length < 1099511627776, .str false (pairsL p))
  | _ => none
theorem npairs_ok : CallOk Tryz.prog 167 (purePT npairsSpec) := by
  refine pure_of_ans (ans_ok (n := 20) (fn := Tryz.f167) Tryz.func167 (by kernel_rfl) (by kernel_rfl) ?_)
  intro args p a h hp
  unfold npairsSpec at h
  split at h
  · injection h with h; injection h with h1 h2; subst h1; subst h2
    exact ⟨_, goodNQ _, rfl, rfl, npairs_holds hp⟩
  · cases h
def nflagSpec : List SV → Option (Prop × SV)
  | [.bool false a, .bool false b] => some (True, .int .u8 false (flagN a b))
  | _ => none
theorem nflag_ok : CallOk Tryz.prog 203 (purePT nflagSpec) := by
  refine pure_ok good7 (n := 20) (fn := Tryz.f203) Tryz.func203 (by kernel_rfl) (by kernel_rfl) ?_
  intro args p r h hp
  unfold nflagSpec at h
  split at h
  · rename_i a b
    injection h with h; injection h with h1 h2; subst h1; subst h2
    refine ⟨rfl, rfl, Holds.of_eq (vcNFlag a b _) ?_⟩
    cases a <;> cases b <;> simp [sameVal, SV.val, flagN]
  · cases h
noncomputable def listN1 : List (FuncId × PT) := (166, purePT nvalidSpec) :: (57, purePT npathSpec) :: (167, purePT npairsSpec) :: (203, purePT nflagSpec) :: list7
theorem listN1_ok : SummOk Tryz.prog (fun f => lookPT f listN1) := .cons nvalid_ok (purePT_mono _) (.cons npath_ok (purePT_mono _) (.cons npairs_ok (purePT_mono _) (.cons nflag_ok (purePT_mono _) list7_ok)))
noncomputable def cfgN1 : Cfg := { cfg0 with summ := fun f => lookPT f listN1 }
theorem goodN1 : Sx.Good Tryz.prog cfgN1 := ⟨mixes, listN1_ok, fns_ok⟩
def nputL (p : List UInt8) (leaf : Bool) : List UInt8 := pairsL (UInt8.ofNat (flagN leaf (decide ((p.length : Int) % 2 = 1))).toNat :: (bif decide ((p.length : Int) % 2 = 1) then p else 0 :: p))
def nputA (p : List UInt8) (leaf : Bool) : Ans := .fork (nibB p) fun b => match b with
  | true => .ret (.tup [.str false (nputL p leaf), .bool true true])
  | false => .ret (.tup [.str true [], .bool true false])
def ngetB (s : List UInt8) : Bool := decide (pathL s ≠ []) && decide (byteAt (pathL s) 0 ≤ 3) && (decide (byteAt (pathL s) 0 % 2 = 1) || decide (byteAt (pathL s) 1 = 0))
def ngetLeaf (s : List UInt8) : Bool := decide (2 ≤ byteAt (pathL s) 0)
def ngetP (s : List UInt8) : List UInt8 := if byteAt (pathL s) 0 % 2 = 1 then (pathL s).drop 1 else (pathL s).drop 2
def ngetA (s : List UInt8) : Ans := .fork (ngetB s) fun b => match b with
  | true => .ret (.tup [.str false (ngetP s), .bool false (ngetLeaf s), .bool true true])
  | false => .ret (.tup [.str true [], .bool true false, .bool true false])
end Go.Proofs.YtoalfimkkibpdaaGreatDoor
