/-
  Conditions that the executor computes, written out by a program (vcgen.py).
-/
import Derived.Test.YtocikfhejpilaaaGreatDoorPa
namespace Go.Proofs.YtocikfhejpilaaaGreatDoor
open Go Sx
set_option maxRecDepth 20000

theorem vcFGet (s : List UInt8) : VC.holds (runA cfgF3 19 Tryz.f19 [.str false s] (getAskA s)) = ((fun Q0 : SV => ((fun Q1 : SV => (s.length < (1152921504606846976 : Nat) ∧
 (cutB s = true →
 ((!cutL s) = true →
 (0 : Nat) < (1152921504606846976 : Nat) ∧
 (0 : Nat) < (1152921504606846976 : Nat) ∧
 (0 : Nat) < (1152921504606846976 : Nat) ∧
 (0 : Nat) < (1152921504606846976 : Nat) ∧
 (0 : Nat) < (1152921504606846976 : Nat) ∧
 (0 : Nat) < (1152921504606846976 : Nat) ∧
 (0 : Nat) < (1152921504606846976 : Nat) ∧
 (0 : Nat) < (1152921504606846976 : Nat) ∧
 (getAskB s = true →
 sameVal Q0 Q1) ∧
 (getAskB s = false →
 sameVal Q0 Q0)) ∧
 ((!cutL s) = false →
 ((!decide (cutRest s = [])) = true →
 (0 : Nat) < (1152921504606846976 : Nat) ∧
 (0 : Nat) < (1152921504606846976 : Nat) ∧
 (0 : Nat) < (1152921504606846976 : Nat) ∧
 (0 : Nat) < (1152921504606846976 : Nat) ∧
 (0 : Nat) < (1152921504606846976 : Nat) ∧
 (0 : Nat) < (1152921504606846976 : Nat) ∧
 (0 : Nat) < (1152921504606846976 : Nat) ∧
 (0 : Nat) < (1152921504606846976 : Nat) ∧
 (getAskB s = true →
 sameVal Q0 Q1) ∧
 (getAskB s = false →
 sameVal Q0 Q0)) ∧
 ((!decide (cutRest s = [])) = false →
 (cutIn s).length < (1099511627776 : Nat) ∧
 (itemsB (cutIn s) = true →
 ∀ (x : Nat), itemsN (cutIn s) ≤ x →
 ((!decide ((↑(itemsN (cutIn s)) : Int) = (8 : Int))) = true →
 (0 : Nat) < (1152921504606846976 : Nat) ∧
 (0 : Nat) < (1152921504606846976 : Nat) ∧
 (0 : Nat) < (1152921504606846976 : Nat) ∧
 (0 : Nat) < (1152921504606846976 : Nat) ∧
 (0 : Nat) < (1152921504606846976 : Nat) ∧
 (0 : Nat) < (1152921504606846976 : Nat) ∧
 (0 : Nat) < (1152921504606846976 : Nat) ∧
 (0 : Nat) < (1152921504606846976 : Nat) ∧
 (getAskB s = true →
 sameVal Q0 Q1) ∧
 (getAskB s = false →
 sameVal Q0 Q0)) ∧
 ((!decide ((↑(itemsN (cutIn s)) : Int) = (8 : Int))) = false →
 (decide ((↑(itemsN (cutIn s)) : Int) ≤ (0 : Int)) = true →
 (0 : Nat) < (1152921504606846976 : Nat) ∧
 (0 : Nat) < (1152921504606846976 : Nat) ∧
 (0 : Nat) < (1152921504606846976 : Nat) ∧
 (0 : Nat) < (1152921504606846976 : Nat) ∧
 (0 : Nat) < (1152921504606846976 : Nat) ∧
 (0 : Nat) < (1152921504606846976 : Nat) ∧
 (0 : Nat) < (1152921504606846976 : Nat) ∧
 (0 : Nat) < (1152921504606846976 : Nat) ∧
 (getAskB s = true →
 sameVal Q0 Q1) ∧
 (getAskB s = false →
 sameVal Q0 Q0)) ∧
 (decide ((↑(itemsN (cutIn s)) : Int) ≤ (0 : Int)) = false →
 ((0 : Int) ≤ (0 : Int) ∧
 (0 : Int) < (↑(itemsN (cutIn s)) : Int)) ∧
 (0 : Nat) < itemsN (cutIn s) ∧
 (itemAt (cutIn s) 0).length < (1152921504606846976 : Nat) ∧
 (getB (itemAt (cutIn s) 0) = true →
 (decide ((1048577 : Int) < num (cutIn (itemAt (cutIn s) 0))) = true →
 (0 : Nat) < (1152921504606846976 : Nat) ∧
 (0 : Nat) < (1152921504606846976 : Nat) ∧
 (0 : Nat) < (1152921504606846976 : Nat) ∧
 (0 : Nat) < (1152921504606846976 : Nat) ∧
 (0 : Nat) < (1152921504606846976 : Nat) ∧
 (0 : Nat) < (1152921504606846976 : Nat) ∧
 (0 : Nat) < (1152921504606846976 : Nat) ∧
 (getAskB s = true →
 sameVal Q0 Q1) ∧
 (getAskB s = false →
 sameVal Q0 Q0)) ∧
 (decide ((1048577 : Int) < num (cutIn (itemAt (cutIn s) 0))) = false →
 ((-9223372036854775808 : Int) ≤ num (cutIn (itemAt (cutIn s) 0)) ∧
 num (cutIn (itemAt (cutIn s) 0)) ≤ (9223372036854775807 : Int)) ∧
 (decide ((↑(itemsN (cutIn s)) : Int) ≤ (1 : Int)) = true →
 (0 : Nat) < (1152921504606846976 : Nat) ∧
 (0 : Nat) < (1152921504606846976 : Nat) ∧
 (0 : Nat) < (1152921504606846976 : Nat) ∧
 (0 : Nat) < (1152921504606846976 : Nat) ∧
 (0 : Nat) < (1152921504606846976 : Nat) ∧
 (0 : Nat) < (1152921504606846976 : Nat) ∧
 (0 : Nat) < (1152921504606846976 : Nat) ∧
 (getAskB s = true →
 sameVal Q0 Q1) ∧
 (getAskB s = false →
 sameVal Q0 Q0)) ∧
 (decide ((↑(itemsN (cutIn s)) : Int) ≤ (1 : Int)) = false →
 ((0 : Int) ≤ (1 : Int) ∧
 (1 : Int) < (↑(itemsN (cutIn s)) : Int)) ∧
 (1 : Nat) < itemsN (cutIn s) ∧
 (itemAt (cutIn s) 1).length < (1152921504606846976 : Nat) ∧
 (getB (itemAt (cutIn s) 1) = true →
 (decide ((1048577 : Int) < num (cutIn (itemAt (cutIn s) 1))) = true →
 (0 : Nat) < (1152921504606846976 : Nat) ∧
 (0 : Nat) < (1152921504606846976 : Nat) ∧
 (0 : Nat) < (1152921504606846976 : Nat) ∧
 (0 : Nat) < (1152921504606846976 : Nat) ∧
 (0 : Nat) < (1152921504606846976 : Nat) ∧
 (0 : Nat) < (1152921504606846976 : Nat) ∧
 (getAskB s = true →
 sameVal Q0 Q1) ∧
 (getAskB s = false →
 sameVal Q0 Q0)) ∧
 (decide ((1048577 : Int) < num (cutIn (itemAt (cutIn s) 1))) = false →
 ((-9223372036854775808 : Int) ≤ num (cutIn (itemAt (cutIn s) 1)) ∧
 num (cutIn (itemAt (cutIn s) 1)) ≤ (9223372036854775807 : Int)) ∧
 (decide ((↑(itemsN (cutIn s)) : Int) ≤ (2 : Int)) = true →
 (0 : Nat) < (1152921504606846976 : Nat) ∧
 (0 : Nat) < (1152921504606846976 : Nat) ∧
 (0 : Nat) < (1152921504606846976 : Nat) ∧
 (0 : Nat) < (1152921504606846976 : Nat) ∧
 (0 : Nat) < (1152921504606846976 : Nat) ∧
 (0 : Nat) < (1152921504606846976 : Nat) ∧
 (getAskB s = true →
 sameVal Q0 Q1) ∧
 (getAskB s = false →
 sameVal Q0 Q0)) ∧
 (decide ((↑(itemsN (cutIn s)) : Int) ≤ (2 : Int)) = false →
 ((0 : Int) ≤ (2 : Int) ∧
 (2 : Int) < (↑(itemsN (cutIn s)) : Int)) ∧
 (2 : Nat) < itemsN (cutIn s) ∧
 (itemAt (cutIn s) 2).length < (1152921504606846976 : Nat) ∧
 (getB (itemAt (cutIn s) 2) = true →
 (decide ((1048577 : Int) < num (cutIn (itemAt (cutIn s) 2))) = true →
 (0 : Nat) < (1152921504606846976 : Nat) ∧
 (0 : Nat) < (1152921504606846976 : Nat) ∧
 (0 : Nat) < (1152921504606846976 : Nat) ∧
 (0 : Nat) < (1152921504606846976 : Nat) ∧
 (0 : Nat) < (1152921504606846976 : Nat) ∧
 (getAskB s = true →
 sameVal Q0 Q1) ∧
 (getAskB s = false →
 sameVal Q0 Q0)) ∧
 (decide ((1048577 : Int) < num (cutIn (itemAt (cutIn s) 2))) = false →
 ((-9223372036854775808 : Int) ≤ num (cutIn (itemAt (cutIn s) 2)) ∧
 num (cutIn (itemAt (cutIn s) 2)) ≤ (9223372036854775807 : Int)) ∧
 (decide ((↑(itemsN (cutIn s)) : Int) ≤ (3 : Int)) = true →
 (0 : Nat) < (1152921504606846976 : Nat) ∧
 (0 : Nat) < (1152921504606846976 : Nat) ∧
 (0 : Nat) < (1152921504606846976 : Nat) ∧
 (0 : Nat) < (1152921504606846976 : Nat) ∧
 (0 : Nat) < (1152921504606846976 : Nat) ∧
 (getAskB s = true →
 sameVal Q0 Q1) ∧
 (getAskB s = false →
 sameVal Q0 Q0)) ∧
 (decide ((↑(itemsN (cutIn s)) : Int) ≤ (3 : Int)) = false →
 ((0 : Int) ≤ (3 : Int) ∧
 (3 : Int) < (↑(itemsN (cutIn s)) : Int)) ∧
 (3 : Nat) < itemsN (cutIn s) ∧
 (itemAt (cutIn s) 3).length < (1152921504606846976 : Nat) ∧
 (getB (itemAt (cutIn s) 3) = true →
 (decide ((1048577 : Int) < num (cutIn (itemAt (cutIn s) 3))) = true →
 (0 : Nat) < (1152921504606846976 : Nat) ∧
 (0 : Nat) < (1152921504606846976 : Nat) ∧
 (0 : Nat) < (1152921504606846976 : Nat) ∧
 (0 : Nat) < (1152921504606846976 : Nat) ∧
 (getAskB s = true →
 sameVal Q0 Q1) ∧
 (getAskB s = false →
 sameVal Q0 Q0)) ∧
 (decide ((1048577 : Int) < num (cutIn (itemAt (cutIn s) 3))) = false →
 ((-9223372036854775808 : Int) ≤ num (cutIn (itemAt (cutIn s) 3)) ∧
 num (cutIn (itemAt (cutIn s) 3)) ≤ (9223372036854775807 : Int)) ∧
 (decide ((↑(itemsN (cutIn s)) : Int) ≤ (4 : Int)) = true →
 (0 : Nat) < (1152921504606846976 : Nat) ∧
 (0 : Nat) < (1152921504606846976 : Nat) ∧
 (0 : Nat) < (1152921504606846976 : Nat) ∧
 (0 : Nat) < (1152921504606846976 : Nat) ∧
 (getAskB s = true →
 sameVal Q0 Q1) ∧
 (getAskB s = false →
 sameVal Q0 Q0)) ∧
 (decide ((↑(itemsN (cutIn s)) : Int) ≤ (4 : Int)) = false →
 ((0 : Int) ≤ (4 : Int) ∧
 (4 : Int) < (↑(itemsN (cutIn s)) : Int)) ∧
 (4 : Nat) < itemsN (cutIn s) ∧
 (itemAt (cutIn s) 4).length < (1152921504606846976 : Nat) ∧
 (getB (itemAt (cutIn s) 4) = true →
 (decide ((1048577 : Int) < num (cutIn (itemAt (cutIn s) 4))) = true →
 (0 : Nat) < (1152921504606846976 : Nat) ∧
 (0 : Nat) < (1152921504606846976 : Nat) ∧
 (0 : Nat) < (1152921504606846976 : Nat) ∧
 (getAskB s = true →
 sameVal Q0 Q1) ∧
 (getAskB s = false →
 sameVal Q0 Q0)) ∧
 (decide ((1048577 : Int) < num (cutIn (itemAt (cutIn s) 4))) = false →
 ((-9223372036854775808 : Int) ≤ num (cutIn (itemAt (cutIn s) 4)) ∧
 num (cutIn (itemAt (cutIn s) 4)) ≤ (9223372036854775807 : Int)) ∧
 (decide ((↑(itemsN (cutIn s)) : Int) ≤ (5 : Int)) = true →
 (0 : Nat) < (1152921504606846976 : Nat) ∧
 (0 : Nat) < (1152921504606846976 : Nat) ∧
 (0 : Nat) < (1152921504606846976 : Nat) ∧
 ((-9223372036854775808 : Int) ≤ num (cutIn (itemAt (cutIn s) 4)) - (1 : Int) ∧
 num (cutIn (itemAt (cutIn s) 4)) - (1 : Int) ≤ (9223372036854775807 : Int)) ∧
 (getAskB s = true →
 sameVal Q0 Q1) ∧
 (getAskB s = false →
 sameVal Q0 Q0)) ∧
 (decide ((↑(itemsN (cutIn s)) : Int) ≤ (5 : Int)) = false →
 ((0 : Int) ≤ (5 : Int) ∧
 (5 : Int) < (↑(itemsN (cutIn s)) : Int)) ∧
 (5 : Nat) < itemsN (cutIn s) ∧
 (itemAt (cutIn s) 5).length < (1152921504606846976 : Nat) ∧
 (cutB (itemAt (cutIn s) 5) = true →
 (cutL (itemAt (cutIn s) 5) = true →
 (0 : Nat) < (1152921504606846976 : Nat) ∧
 (0 : Nat) < (1152921504606846976 : Nat) ∧
 ((-9223372036854775808 : Int) ≤ num (cutIn (itemAt (cutIn s) 4)) - (1 : Int) ∧
 num (cutIn (itemAt (cutIn s) 4)) - (1 : Int) ≤ (9223372036854775807 : Int)) ∧
 (getAskB s = true →
 sameVal Q0 Q1) ∧
 (getAskB s = false →
 sameVal Q0 Q0)) ∧
 (cutL (itemAt (cutIn s) 5) = false →
 ((!decide (cutRest (itemAt (cutIn s) 5) = [])) = true →
 (0 : Nat) < (1152921504606846976 : Nat) ∧
 (0 : Nat) < (1152921504606846976 : Nat) ∧
 ((-9223372036854775808 : Int) ≤ num (cutIn (itemAt (cutIn s) 4)) - (1 : Int) ∧
 num (cutIn (itemAt (cutIn s) 4)) - (1 : Int) ≤ (9223372036854775807 : Int)) ∧
 (getAskB s = true →
 sameVal Q0 Q1) ∧
 (getAskB s = false →
 sameVal Q0 Q0)) ∧
 ((!decide (cutRest (itemAt (cutIn s) 5) = [])) = false →
 (decide ((↑(itemsN (cutIn s)) : Int) ≤ (6 : Int)) = true →
 (0 : Nat) < (1152921504606846976 : Nat) ∧
 (0 : Nat) < (1152921504606846976 : Nat) ∧
 ((-9223372036854775808 : Int) ≤ num (cutIn (itemAt (cutIn s) 4)) - (1 : Int) ∧
 num (cutIn (itemAt (cutIn s) 4)) - (1 : Int) ≤ (9223372036854775807 : Int)) ∧
 (getAskB s = true →
 sameVal Q0 Q1) ∧
 (getAskB s = false →
 sameVal Q0 Q0)) ∧
 (decide ((↑(itemsN (cutIn s)) : Int) ≤ (6 : Int)) = false →
 ((0 : Int) ≤ (6 : Int) ∧
 (6 : Int) < (↑(itemsN (cutIn s)) : Int)) ∧
 (6 : Nat) < itemsN (cutIn s) ∧
 (itemAt (cutIn s) 6).length < (1152921504606846976 : Nat) ∧
 (cutB (itemAt (cutIn s) 6) = true →
 (cutL (itemAt (cutIn s) 6) = true →
 (0 : Nat) < (1152921504606846976 : Nat) ∧
 ((-9223372036854775808 : Int) ≤ num (cutIn (itemAt (cutIn s) 4)) - (1 : Int) ∧
 num (cutIn (itemAt (cutIn s) 4)) - (1 : Int) ≤ (9223372036854775807 : Int)) ∧
 (getAskB s = true →
 sameVal Q0 Q1) ∧
 (getAskB s = false →
 sameVal Q0 Q0)) ∧
 (cutL (itemAt (cutIn s) 6) = false →
 ((!decide (cutRest (itemAt (cutIn s) 6) = [])) = true →
 (0 : Nat) < (1152921504606846976 : Nat) ∧
 ((-9223372036854775808 : Int) ≤ num (cutIn (itemAt (cutIn s) 4)) - (1 : Int) ∧
 num (cutIn (itemAt (cutIn s) 4)) - (1 : Int) ≤ (9223372036854775807 : Int)) ∧
 (getAskB s = true →
 sameVal Q0 Q1) ∧
 (getAskB s = false →
 sameVal Q0 Q0)) ∧
 ((!decide (cutRest (itemAt (cutIn s) 6) = [])) = false →
 (decide ((↑(itemsN (cutIn s)) : Int) ≤ (7 : Int)) = true →
 (0 : Nat) < (1152921504606846976 : Nat) ∧
 ((-9223372036854775808 : Int) ≤ num (cutIn (itemAt (cutIn s) 4)) - (1 : Int) ∧
 num (cutIn (itemAt (cutIn s) 4)) - (1 : Int) ≤ (9223372036854775807 : Int)) ∧
 (getAskB s = true →
 sameVal Q0 Q1) ∧
 (getAskB s = false →
 sameVal Q0 Q0)) ∧
 (decide ((↑(itemsN (cutIn s)) : Int) ≤ (7 : Int)) = false →
 ((0 : Int) ≤ (7 : Int) ∧
 (7 : Int) < (↑(itemsN (cutIn s)) : Int)) ∧
 (7 : Nat) < itemsN (cutIn s) ∧
 (itemAt (cutIn s) 7).length < (1152921504606846976 : Nat) ∧
 (getB (itemAt (cutIn s) 7) = true →
 (decide ((1048577 : Int) < num (cutIn (itemAt (cutIn s) 7))) = true →
 ((-9223372036854775808 : Int) ≤ num (cutIn (itemAt (cutIn s) 4)) - (1 : Int) ∧
 num (cutIn (itemAt (cutIn s) 4)) - (1 : Int) ≤ (9223372036854775807 : Int)) ∧
 (getAskB s = true →
 sameVal Q0 Q1) ∧
 (getAskB s = false →
 sameVal Q0 Q0)) ∧
 (decide ((1048577 : Int) < num (cutIn (itemAt (cutIn s) 7))) = false →
 ((-9223372036854775808 : Int) ≤ num (cutIn (itemAt (cutIn s) 7)) ∧
 num (cutIn (itemAt (cutIn s) 7)) ≤ (9223372036854775807 : Int)) ∧
 ((-9223372036854775808 : Int) ≤ num (cutIn (itemAt (cutIn s) 4)) - (1 : Int) ∧
 num (cutIn (itemAt (cutIn s) 4)) - (1 : Int) ≤ (9223372036854775807 : Int)) ∧
 True ∧
 ({ k := num (cutIn (itemAt (cutIn s) 1)), s := num (cutIn (itemAt (cutIn s) 2)), q := num (cutIn (itemAt (cutIn s) 3)), a := num (cutIn (itemAt (cutIn s) 4)) - (1 : Int), key := cutIn (itemAt (cutIn s) 5), to := cutIn (itemAt (cutIn s) 6), lim := num (cutIn (itemAt (cutIn s) 7)) : Ak }.ok = true →
 ((!decide (num (cutIn (itemAt (cutIn s) 0)) = (0 : Int))) = true →
 (getAskB s = true →
 sameVal Q0 Q1) ∧
 (getAskB s = false →
 sameVal Q0 Q0)) ∧
 ((!decide (num (cutIn (itemAt (cutIn s) 0)) = (0 : Int))) = false →
 ((!decide ({ k := num (cutIn (itemAt (cutIn s) 1)), s := num (cutIn (itemAt (cutIn s) 2)), q := num (cutIn (itemAt (cutIn s) 3)), a := num (cutIn (itemAt (cutIn s) 4)) - (1 : Int), key := cutIn (itemAt (cutIn s) 5), to := cutIn (itemAt (cutIn s) 6), lim := num (cutIn (itemAt (cutIn s) 7)) : Ak }.put = s)) = true →
 (getAskB s = true →
 sameVal Q0 Q1) ∧
 (getAskB s = false →
 sameVal Q0 Q0)) ∧
 ((!decide ({ k := num (cutIn (itemAt (cutIn s) 1)), s := num (cutIn (itemAt (cutIn s) 2)), q := num (cutIn (itemAt (cutIn s) 3)), a := num (cutIn (itemAt (cutIn s) 4)) - (1 : Int), key := cutIn (itemAt (cutIn s) 5), to := cutIn (itemAt (cutIn s) 6), lim := num (cutIn (itemAt (cutIn s) 7)) : Ak }.put = s)) = false →
 (getAskB s = true →
 sameVal (SV.tup [SV.agg [SV.int .i64 false (num (cutIn (itemAt (cutIn s) 1))), SV.int .i64 false (num (cutIn (itemAt (cutIn s) 2))), SV.int .i64 false (num (cutIn (itemAt (cutIn s) 3))), SV.int .i64 false (num (cutIn (itemAt (cutIn s) 4)) - (1 : Int)), SV.str false (cutIn (itemAt (cutIn s) 5)), SV.str false (cutIn (itemAt (cutIn s) 6)), SV.int .i64 false (num (cutIn (itemAt (cutIn s) 7)))], SV.int .i64 true 0]) Q1) ∧
 (getAskB s = false →
 sameVal (SV.tup [SV.agg [SV.int .i64 false (num (cutIn (itemAt (cutIn s) 1))), SV.int .i64 false (num (cutIn (itemAt (cutIn s) 2))), SV.int .i64 false (num (cutIn (itemAt (cutIn s) 3))), SV.int .i64 false (num (cutIn (itemAt (cutIn s) 4)) - (1 : Int)), SV.str false (cutIn (itemAt (cutIn s) 5)), SV.str false (cutIn (itemAt (cutIn s) 6)), SV.int .i64 false (num (cutIn (itemAt (cutIn s) 7)))], SV.int .i64 true 0]) Q0)))) ∧
 ({ k := num (cutIn (itemAt (cutIn s) 1)), s := num (cutIn (itemAt (cutIn s) 2)), q := num (cutIn (itemAt (cutIn s) 3)), a := num (cutIn (itemAt (cutIn s) 4)) - (1 : Int), key := cutIn (itemAt (cutIn s) 5), to := cutIn (itemAt (cutIn s) 6), lim := num (cutIn (itemAt (cutIn s) 7)) : Ak }.ok = false →
 (getAskB s = true →
 sameVal Q0 Q1) ∧
 (getAskB s = false →
 sameVal Q0 Q0)))) ∧
 (getB (itemAt (cutIn s) 7) = false →
 ((-9223372036854775808 : Int) ≤ num (cutIn (itemAt (cutIn s) 4)) - (1 : Int) ∧
 num (cutIn (itemAt (cutIn s) 4)) - (1 : Int) ≤ (9223372036854775807 : Int)) ∧
 (getAskB s = true →
 sameVal Q0 Q1) ∧
 (getAskB s = false →
 sameVal Q0 Q0)))))) ∧
 (cutB (itemAt (cutIn s) 6) = false →
 (0 : Nat) < (1152921504606846976 : Nat) ∧
 ((-9223372036854775808 : Int) ≤ num (cutIn (itemAt (cutIn s) 4)) - (1 : Int) ∧
 num (cutIn (itemAt (cutIn s) 4)) - (1 : Int) ≤ (9223372036854775807 : Int)) ∧
 (getAskB s = true →
 sameVal Q0 Q1) ∧
 (getAskB s = false →
 sameVal Q0 Q0)))))) ∧
 (cutB (itemAt (cutIn s) 5) = false →
 (0 : Nat) < (1152921504606846976 : Nat) ∧
 (0 : Nat) < (1152921504606846976 : Nat) ∧
 ((-9223372036854775808 : Int) ≤ num (cutIn (itemAt (cutIn s) 4)) - (1 : Int) ∧
 num (cutIn (itemAt (cutIn s) 4)) - (1 : Int) ≤ (9223372036854775807 : Int)) ∧
 (getAskB s = true →
 sameVal Q0 Q1) ∧
 (getAskB s = false →
 sameVal Q0 Q0))))) ∧
 (getB (itemAt (cutIn s) 4) = false →
 (0 : Nat) < (1152921504606846976 : Nat) ∧
 (0 : Nat) < (1152921504606846976 : Nat) ∧
 (0 : Nat) < (1152921504606846976 : Nat) ∧
 (getAskB s = true →
 sameVal Q0 Q1) ∧
 (getAskB s = false →
 sameVal Q0 Q0))))) ∧
 (getB (itemAt (cutIn s) 3) = false →
 (0 : Nat) < (1152921504606846976 : Nat) ∧
 (0 : Nat) < (1152921504606846976 : Nat) ∧
 (0 : Nat) < (1152921504606846976 : Nat) ∧
 (0 : Nat) < (1152921504606846976 : Nat) ∧
 (getAskB s = true →
 sameVal Q0 Q1) ∧
 (getAskB s = false →
 sameVal Q0 Q0))))) ∧
 (getB (itemAt (cutIn s) 2) = false →
 (0 : Nat) < (1152921504606846976 : Nat) ∧
 (0 : Nat) < (1152921504606846976 : Nat) ∧
 (0 : Nat) < (1152921504606846976 : Nat) ∧
 (0 : Nat) < (1152921504606846976 : Nat) ∧
 (0 : Nat) < (1152921504606846976 : Nat) ∧
 (getAskB s = true →
 sameVal Q0 Q1) ∧
 (getAskB s = false →
 sameVal Q0 Q0))))) ∧
 (getB (itemAt (cutIn s) 1) = false →
 (0 : Nat) < (1152921504606846976 : Nat) ∧
 (0 : Nat) < (1152921504606846976 : Nat) ∧
 (0 : Nat) < (1152921504606846976 : Nat) ∧
 (0 : Nat) < (1152921504606846976 : Nat) ∧
 (0 : Nat) < (1152921504606846976 : Nat) ∧
 (0 : Nat) < (1152921504606846976 : Nat) ∧
 (getAskB s = true →
 sameVal Q0 Q1) ∧
 (getAskB s = false →
 sameVal Q0 Q0))))) ∧
 (getB (itemAt (cutIn s) 0) = false →
 (0 : Nat) < (1152921504606846976 : Nat) ∧
 (0 : Nat) < (1152921504606846976 : Nat) ∧
 (0 : Nat) < (1152921504606846976 : Nat) ∧
 (0 : Nat) < (1152921504606846976 : Nat) ∧
 (0 : Nat) < (1152921504606846976 : Nat) ∧
 (0 : Nat) < (1152921504606846976 : Nat) ∧
 (0 : Nat) < (1152921504606846976 : Nat) ∧
 (getAskB s = true →
 sameVal Q0 Q1) ∧
 (getAskB s = false →
 sameVal Q0 Q0))))) ∧
 (itemsB (cutIn s) = false →
 (0 : Nat) < (1152921504606846976 : Nat) ∧
 (0 : Nat) < (1152921504606846976 : Nat) ∧
 (0 : Nat) < (1152921504606846976 : Nat) ∧
 (0 : Nat) < (1152921504606846976 : Nat) ∧
 (0 : Nat) < (1152921504606846976 : Nat) ∧
 (0 : Nat) < (1152921504606846976 : Nat) ∧
 (0 : Nat) < (1152921504606846976 : Nat) ∧
 (0 : Nat) < (1152921504606846976 : Nat) ∧
 (getAskB s = true →
 sameVal Q0 Q1) ∧
 (getAskB s = false →
 sameVal Q0 Q0))))) ∧
 (cutB s = false →
 (0 : Nat) < (1152921504606846976 : Nat) ∧
 (0 : Nat) < (1152921504606846976 : Nat) ∧
 (0 : Nat) < (1152921504606846976 : Nat) ∧
 (0 : Nat) < (1152921504606846976 : Nat) ∧
 (0 : Nat) < (1152921504606846976 : Nat) ∧
 (0 : Nat) < (1152921504606846976 : Nat) ∧
 (0 : Nat) < (1152921504606846976 : Nat) ∧
 (0 : Nat) < (1152921504606846976 : Nat) ∧
 (getAskB s = true →
 sameVal Q0 Q1) ∧
 (getAskB s = false →
 sameVal Q0 Q0)))) (SV.tup [(askD s).sv, SV.int .i64 true 0]))) (SV.tup [SV.agg [SV.int .i64 true 0, SV.int .i64 true 0, SV.int .i64 true 0, SV.int .i64 true 0, SV.str true [], SV.str true [], SV.int .i64 true 0], SV.int .i64 true 2])) := by kernel_rfl
end Go.Proofs.YtocikfhejpilaaaGreatDoor
