/-
  Conditions that the executor computes, written out by a program (vcgen.py).
-/
import Derived.Test.YtocikfhejpilaaaGreatDoorPa
namespace Go.Proofs.YtocikfhejpilaaaGreatDoor
open Go Sx
set_option maxRecDepth 20000

theorem vcFGet (s : List UInt8) : VC.holds (runA cfgF3 19 Tryz.f19 [.str false s] (getAskA s)) = (s.length < (1152921504606846976 : Nat) ∧
 (cutB s = true →
 ((!cutL s) = true →
 (0 : Nat) < (1152921504606846976 : Nat) ∧
 (0 : Nat) < (1152921504606846976 : Nat) ∧
 (0 : Nat) < (1152921504606846976 : Nat) ∧
 (0 : Nat) < (1152921504606846976 : Nat) ∧
 (0 : Nat) < (1152921504606846976 : Nat) ∧
 (0 : Nat) < (1152921504606846976 : Nat) ∧
 (0 : Nat) < (1152921504606846976 : Nat) ∧
 (0 : Nat) < (1152921504606846976 : Nat) ∧
 (getAskB s = true →
 sameVal (SV.tup [SV.agg [SV.int IntKind.i64 true (0 : Int), SV.int IntKind.i64 true (0 : Int), SV.int IntKind.i64 true (0 : Int), SV.int IntKind.i64 true (0 : Int), SV.str true [], SV.str true [], SV.int IntKind.i64 true (0 : Int)], SV.int IntKind.i64 true (2 : Int)]) (SV.tup [(askD s).sv, SV.int IntKind.i64 true (0 : Int)])) ∧
 (getAskB s = false →
 sameVal (SV.tup [SV.agg [SV.int IntKind.i64 true (0 : Int), SV.int IntKind.i64 true (0 : Int), SV.int IntKind.i64 true (0 : Int), SV.int IntKind.i64 true (0 : Int), SV.str true [], SV.str true [], SV.int IntKind.i64 true (0 : Int)], SV.int IntKind.i64 true (2 : Int)]) (SV.tup [SV.agg [SV.int IntKind.i64 true (0 : Int), SV.int IntKind.i64 true (0 : Int), SV.int IntKind.i64 true (0 : Int), SV.int IntKind.i64 true (0 : Int), SV.str true [], SV.str true [], SV.int IntKind.i64 true (0 : Int)], SV.int IntKind.i64 true (2 : Int)]))) ∧
 ((!cutL s) = false →
 ((!decide (cutRest s = [])) = true →
 (0 : Nat) < (1152921504606846976 : Nat) ∧
 (0 : Nat) < (1152921504606846976 : Nat) ∧
 (0 : Nat) < (1152921504606846976 : Nat) ∧
 (0 : Nat) < (1152921504606846976 : Nat) ∧
 (0 : Nat) < (1152921504606846976 : Nat) ∧
 (0 : Nat) < (1152921504606846976 : Nat) ∧
 (0 : Nat) < (1152921504606846976 : Nat) ∧
 (0 : Nat) < (1152921504606846976 : Nat) ∧
 (getAskB s = true →
 sameVal (SV.tup [SV.agg [SV.int IntKind.i64 true (0 : Int), SV.int IntKind.i64 true (0 : Int), SV.int IntKind.i64 true (0 : Int), SV.int IntKind.i64 true (0 : Int), SV.str true [], SV.str true [], SV.int IntKind.i64 true (0 : Int)], SV.int IntKind.i64 true (2 : Int)]) (SV.tup [(askD s).sv, SV.int IntKind.i64 true (0 : Int)])) ∧
 (getAskB s = false →
 sameVal (SV.tup [SV.agg [SV.int IntKind.i64 true (0 : Int), SV.int IntKind.i64 true (0 : Int), SV.int IntKind.i64 true (0 : Int), SV.int IntKind.i64 true (0 : Int), SV.str true [], SV.str true [], SV.int IntKind.i64 true (0 : Int)], SV.int IntKind.i64 true (2 : Int)]) (SV.tup [SV.agg [SV.int IntKind.i64 true (0 : Int), SV.int IntKind.i64 true (0 : Int), SV.int IntKind.i64 true (0 : Int), SV.int IntKind.i64 true (0 : Int), SV.str true [], SV.str true [], SV.int IntKind.i64 true (0 : Int)], SV.int IntKind.i64 true (2 : Int)]))) ∧
 ((!decide (cutRest s = [])) = false →
 (cutIn s).length < (1099511627776 : Nat) ∧
 (itemsB (cutIn s) = true →
 ∀ (x : Nat), itemsN (cutIn s) ≤ x →
 ((!decide ((↑(itemsN (cutIn s)) : Int) = (8 : Int))) = true →
 (0 : Nat) < (1152921504606846976 : Nat) ∧
 (0 : Nat) < (1152921504606846976 : Nat) ∧
 (0 : Nat) < (1152921504606846976 : Nat) ∧
 (0 : Nat) < (1152921504606846976 : Nat) ∧
 (0 : Nat) < (1152921504606846976 : Nat) ∧
 (0 : Nat) < (1152921504606846976 : Nat) ∧
 (0 : Nat) < (1152921504606846976 : Nat) ∧
 (0 : Nat) < (1152921504606846976 : Nat) ∧
 (getAskB s = true →
 sameVal (SV.tup [SV.agg [SV.int IntKind.i64 true (0 : Int), SV.int IntKind.i64 true (0 : Int), SV.int IntKind.i64 true (0 : Int), SV.int IntKind.i64 true (0 : Int), SV.str true [], SV.str true [], SV.int IntKind.i64 true (0 : Int)], SV.int IntKind.i64 true (2 : Int)]) (SV.tup [(askD s).sv, SV.int IntKind.i64 true (0 : Int)])) ∧
 (getAskB s = false →
 sameVal (SV.tup [SV.agg [SV.int IntKind.i64 true (0 : Int), SV.int IntKind.i64 true (0 : Int), SV.int IntKind.i64 true (0 : Int), SV.int IntKind.i64 true (0 : Int), SV.str true [], SV.str true [], SV.int IntKind.i64 true (0 : Int)], SV.int IntKind.i64 true (2 : Int)]) (SV.tup [SV.agg [SV.int IntKind.i64 true (0 : Int), SV.int IntKind.i64 true (0 : Int), SV.int IntKind.i64 true (0 : Int), SV.int IntKind.i64 true (0 : Int), SV.str true [], SV.str true [], SV.int IntKind.i64 true (0 : Int)], SV.int IntKind.i64 true (2 : Int)]))) ∧
 ((!decide ((↑(itemsN (cutIn s)) : Int) = (8 : Int))) = false →
 (decide ((↑(itemsN (cutIn s)) : Int) ≤ (0 : Int)) = true →
 (0 : Nat) < (1152921504606846976 : Nat) ∧
 (0 : Nat) < (1152921504606846976 : Nat) ∧
 (0 : Nat) < (1152921504606846976 : Nat) ∧
 (0 : Nat) < (1152921504606846976 : Nat) ∧
 (0 : Nat) < (1152921504606846976 : Nat) ∧
 (0 : Nat) < (1152921504606846976 : Nat) ∧
 (0 : Nat) < (1152921504606846976 : Nat) ∧
 (0 : Nat) < (1152921504606846976 : Nat) ∧
 (getAskB s = true →
 sameVal (SV.tup [SV.agg [SV.int IntKind.i64 true (0 : Int), SV.int IntKind.i64 true (0 : Int), SV.int IntKind.i64 true (0 : Int), SV.int IntKind.i64 true (0 : Int), SV.str true [], SV.str true [], SV.int IntKind.i64 true (0 : Int)], SV.int IntKind.i64 true (2 : Int)]) (SV.tup [(askD s).sv, SV.int IntKind.i64 true (0 : Int)])) ∧
 (getAskB s = false →
 sameVal (SV.tup [SV.agg [SV.int IntKind.i64 true (0 : Int), SV.int IntKind.i64 true (0 : Int), SV.int IntKind.i64 true (0 : Int), SV.int IntKind.i64 true (0 : Int), SV.str true [], SV.str true [], SV.int IntKind.i64 true (0 : Int)], SV.int IntKind.i64 true (2 : Int)]) (SV.tup [SV.agg [SV.int IntKind.i64 true (0 : Int), SV.int IntKind.i64 true (0 : Int), SV.int IntKind.i64 true (0 : Int), SV.int IntKind.i64 true (0 : Int), SV.str true [], SV.str true [], SV.int IntKind.i64 true (0 : Int)], SV.int IntKind.i64 true (2 : Int)]))) ∧
 (decide ((↑(itemsN (cutIn s)) : Int) ≤ (0 : Int)) = false →
 ((0 : Int) ≤ (0 : Int) ∧
 (0 : Int) < (↑(itemsN (cutIn s)) : Int)) ∧
 (0 : Nat) < itemsN (cutIn s) ∧
 (itemAt (cutIn s) (0 : Nat)).length < (1152921504606846976 : Nat) ∧
 (getB (itemAt (cutIn s) (0 : Nat)) = true →
 (decide ((1048577 : Int) < num (cutIn (itemAt (cutIn s) (0 : Nat)))) = true →
 (0 : Nat) < (1152921504606846976 : Nat) ∧
 (0 : Nat) < (1152921504606846976 : Nat) ∧
 (0 : Nat) < (1152921504606846976 : Nat) ∧
 (0 : Nat) < (1152921504606846976 : Nat) ∧
 (0 : Nat) < (1152921504606846976 : Nat) ∧
 (0 : Nat) < (1152921504606846976 : Nat) ∧
 (0 : Nat) < (1152921504606846976 : Nat) ∧
 (getAskB s = true →
 sameVal (SV.tup [SV.agg [SV.int IntKind.i64 true (0 : Int), SV.int IntKind.i64 true (0 : Int), SV.int IntKind.i64 true (0 : Int), SV.int IntKind.i64 true (0 : Int), SV.str true [], SV.str true [], SV.int IntKind.i64 true (0 : Int)], SV.int IntKind.i64 true (2 : Int)]) (SV.tup [(askD s).sv, SV.int IntKind.i64 true (0 : Int)])) ∧
 (getAskB s = false →
 sameVal (SV.tup [SV.agg [SV.int IntKind.i64 true (0 : Int), SV.int IntKind.i64 true (0 : Int), SV.int IntKind.i64 true (0 : Int), SV.int IntKind.i64 true (0 : Int), SV.str true [], SV.str true [], SV.int IntKind.i64 true (0 : Int)], SV.int IntKind.i64 true (2 : Int)]) (SV.tup [SV.agg [SV.int IntKind.i64 true (0 : Int), SV.int IntKind.i64 true (0 : Int), SV.int IntKind.i64 true (0 : Int), SV.int IntKind.i64 true (0 : Int), SV.str true [], SV.str true [], SV.int IntKind.i64 true (0 : Int)], SV.int IntKind.i64 true (2 : Int)]))) ∧
 (decide ((1048577 : Int) < num (cutIn (itemAt (cutIn s) (0 : Nat)))) = false →
 ((-9223372036854775808 : Int) ≤ num (cutIn (itemAt (cutIn s) (0 : Nat))) ∧
 num (cutIn (itemAt (cutIn s) (0 : Nat))) ≤ (9223372036854775807 : Int)) ∧
 (decide ((↑(itemsN (cutIn s)) : Int) ≤ (1 : Int)) = true →
 (0 : Nat) < (1152921504606846976 : Nat) ∧
 (0 : Nat) < (1152921504606846976 : Nat) ∧
 (0 : Nat) < (1152921504606846976 : Nat) ∧
 (0 : Nat) < (1152921504606846976 : Nat) ∧
 (0 : Nat) < (1152921504606846976 : Nat) ∧
 (0 : Nat) < (1152921504606846976 : Nat) ∧
 (0 : Nat) < (1152921504606846976 : Nat) ∧
 (getAskB s = true →
 sameVal (SV.tup [SV.agg [SV.int IntKind.i64 true (0 : Int), SV.int IntKind.i64 true (0 : Int), SV.int IntKind.i64 true (0 : Int), SV.int IntKind.i64 true (0 : Int), SV.str true [], SV.str true [], SV.int IntKind.i64 true (0 : Int)], SV.int IntKind.i64 true (2 : Int)]) (SV.tup [(askD s).sv, SV.int IntKind.i64 true (0 : Int)])) ∧
 (getAskB s = false →
 sameVal (SV.tup [SV.agg [SV.int IntKind.i64 true (0 : Int), SV.int IntKind.i64 true (0 : Int), SV.int IntKind.i64 true (0 : Int), SV.int IntKind.i64 true (0 : Int), SV.str true [], SV.str true [], SV.int IntKind.i64 true (0 : Int)], SV.int IntKind.i64 true (2 : Int)]) (SV.tup [SV.agg [SV.int IntKind.i64 true (0 : Int), SV.int IntKind.i64 true (0 : Int), SV.int IntKind.i64 true (0 : Int), SV.int IntKind.i64 true (0 : Int), SV.str true [], SV.str true [], SV.int IntKind.i64 true (0 : Int)], SV.int IntKind.i64 true (2 : Int)]))) ∧
 (decide ((↑(itemsN (cutIn s)) : Int) ≤ (1 : Int)) = false →
 ((0 : Int) ≤ (1 : Int) ∧
 (1 : Int) < (↑(itemsN (cutIn s)) : Int)) ∧
 (1 : Nat) < itemsN (cutIn s) ∧
 (itemAt (cutIn s) (1 : Nat)).length < (1152921504606846976 : Nat) ∧
 (getB (itemAt (cutIn s) (1 : Nat)) = true →
 (decide ((1048577 : Int) < num (cutIn (itemAt (cutIn s) (1 : Nat)))) = true →
 (0 : Nat) < (1152921504606846976 : Nat) ∧
 (0 : Nat) < (1152921504606846976 : Nat) ∧
 (0 : Nat) < (1152921504606846976 : Nat) ∧
 (0 : Nat) < (1152921504606846976 : Nat) ∧
 (0 : Nat) < (1152921504606846976 : Nat) ∧
 (0 : Nat) < (1152921504606846976 : Nat) ∧
 (getAskB s = true →
 sameVal (SV.tup [SV.agg [SV.int IntKind.i64 true (0 : Int), SV.int IntKind.i64 true (0 : Int), SV.int IntKind.i64 true (0 : Int), SV.int IntKind.i64 true (0 : Int), SV.str true [], SV.str true [], SV.int IntKind.i64 true (0 : Int)], SV.int IntKind.i64 true (2 : Int)]) (SV.tup [(askD s).sv, SV.int IntKind.i64 true (0 : Int)])) ∧
 (getAskB s = false →
 sameVal (SV.tup [SV.agg [SV.int IntKind.i64 true (0 : Int), SV.int IntKind.i64 true (0 : Int), SV.int IntKind.i64 true (0 : Int), SV.int IntKind.i64 true (0 : Int), SV.str true [], SV.str true [], SV.int IntKind.i64 true (0 : Int)], SV.int IntKind.i64 true (2 : Int)]) (SV.tup [SV.agg [SV.int IntKind.i64 true (0 : Int), SV.int IntKind.i64 true (0 : Int), SV.int IntKind.i64 true (0 : Int), SV.int IntKind.i64 true (0 : Int), SV.str true [], SV.str true [], SV.int IntKind.i64 true (0 : Int)], SV.int IntKind.i64 true (2 : Int)]))) ∧
 (decide ((1048577 : Int) < num (cutIn (itemAt (cutIn s) (1 : Nat)))) = false →
 ((-9223372036854775808 : Int) ≤ num (cutIn (itemAt (cutIn s) (1 : Nat))) ∧
 num (cutIn (itemAt (cutIn s) (1 : Nat))) ≤ (9223372036854775807 : Int)) ∧
 (decide ((↑(itemsN (cutIn s)) : Int) ≤ (2 : Int)) = true →
 (0 : Nat) < (1152921504606846976 : Nat) ∧
 (0 : Nat) < (1152921504606846976 : Nat) ∧
 (0 : Nat) < (1152921504606846976 : Nat) ∧
 (0 : Nat) < (1152921504606846976 : Nat) ∧
 (0 : Nat) < (1152921504606846976 : Nat) ∧
 (0 : Nat) < (1152921504606846976 : Nat) ∧
 (getAskB s = true →
 sameVal (SV.tup [SV.agg [SV.int IntKind.i64 true (0 : Int), SV.int IntKind.i64 true (0 : Int), SV.int IntKind.i64 true (0 : Int), SV.int IntKind.i64 true (0 : Int), SV.str true [], SV.str true [], SV.int IntKind.i64 true (0 : Int)], SV.int IntKind.i64 true (2 : Int)]) (SV.tup [(askD s).sv, SV.int IntKind.i64 true (0 : Int)])) ∧
 (getAskB s = false →
 sameVal (SV.tup [SV.agg [SV.int IntKind.i64 true (0 : Int), SV.int IntKind.i64 true (0 : Int), SV.int IntKind.i64 true (0 : Int), SV.int IntKind.i64 true (0 : Int), SV.str true [], SV.str true [], SV.int IntKind.i64 true (0 : Int)], SV.int IntKind.i64 true (2 : Int)]) (SV.tup [SV.agg [SV.int IntKind.i64 true (0 : Int), SV.int IntKind.i64 true (0 : Int), SV.int IntKind.i64 true (0 : Int), SV.int IntKind.i64 true (0 : Int), SV.str true [], SV.str true [], SV.int IntKind.i64 true (0 : Int)], SV.int IntKind.i64 true (2 : Int)]))) ∧
 (decide ((↑(itemsN (cutIn s)) : Int) ≤ (2 : Int)) = false →
 ((0 : Int) ≤ (2 : Int) ∧
 (2 : Int) < (↑(itemsN (cutIn s)) : Int)) ∧
 (2 : Nat) < itemsN (cutIn s) ∧
 (itemAt (cutIn s) (2 : Nat)).length < (1152921504606846976 : Nat) ∧
 (getB (itemAt (cutIn s) (2 : Nat)) = true →
 (decide ((1048577 : Int) < num (cutIn (itemAt (cutIn s) (2 : Nat)))) = true →
 (0 : Nat) < (1152921504606846976 : Nat) ∧
 (0 : Nat) < (1152921504606846976 : Nat) ∧
 (0 : Nat) < (1152921504606846976 : Nat) ∧
 (0 : Nat) < (1152921504606846976 : Nat) ∧
 (0 : Nat) < (1152921504606846976 : Nat) ∧
 (getAskB s = true →
 sameVal (SV.tup [SV.agg [SV.int IntKind.i64 true (0 : Int), SV.int IntKind.i64 true (0 : Int), SV.int IntKind.i64 true (0 : Int), SV.int IntKind.i64 true (0 : Int), SV.str true [], SV.str true [], SV.int IntKind.i64 true (0 : Int)], SV.int IntKind.i64 true (2 : Int)]) (SV.tup [(askD s).sv, SV.int IntKind.i64 true (0 : Int)])) ∧
 (getAskB s = false →
 sameVal (SV.tup [SV.agg [SV.int IntKind.i64 true (0 : Int), SV.int IntKind.i64 true (0 : Int), SV.int IntKind.i64 true (0 : Int), SV.int IntKind.i64 true (0 : Int), SV.str true [], SV.str true [], SV.int IntKind.i64 true (0 : Int)], SV.int IntKind.i64 true (2 : Int)]) (SV.tup [SV.agg [SV.int IntKind.i64 true (0 : Int), SV.int IntKind.i64 true (0 : Int), SV.int IntKind.i64 true (0 : Int), SV.int IntKind.i64 true (0 : Int), SV.str true [], SV.str true [], SV.int IntKind.i64 true (0 : Int)], SV.int IntKind.i64 true (2 : Int)]))) ∧
 (decide ((1048577 : Int) < num (cutIn (itemAt (cutIn s) (2 : Nat)))) = false →
 ((-9223372036854775808 : Int) ≤ num (cutIn (itemAt (cutIn s) (2 : Nat))) ∧
 num (cutIn (itemAt (cutIn s) (2 : Nat))) ≤ (9223372036854775807 : Int)) ∧
 (decide ((↑(itemsN (cutIn s)) : Int) ≤ (3 : Int)) = true →
 (0 : Nat) < (1152921504606846976 : Nat) ∧
 (0 : Nat) < (1152921504606846976 : Nat) ∧
 (0 : Nat) < (1152921504606846976 : Nat) ∧
 (0 : Nat) < (1152921504606846976 : Nat) ∧
 (0 : Nat) < (1152921504606846976 : Nat) ∧
 (getAskB s = true →
 sameVal (SV.tup [SV.agg [SV.int IntKind.i64 true (0 : Int), SV.int IntKind.i64 true (0 : Int), SV.int IntKind.i64 true (0 : Int), SV.int IntKind.i64 true (0 : Int), SV.str true [], SV.str true [], SV.int IntKind.i64 true (0 : Int)], SV.int IntKind.i64 true (2 : Int)]) (SV.tup [(askD s).sv, SV.int IntKind.i64 true (0 : Int)])) ∧
 (getAskB s = false →
 sameVal (SV.tup [SV.agg [SV.int IntKind.i64 true (0 : Int), SV.int IntKind.i64 true (0 : Int), SV.int IntKind.i64 true (0 : Int), SV.int IntKind.i64 true (0 : Int), SV.str true [], SV.str true [], SV.int IntKind.i64 true (0 : Int)], SV.int IntKind.i64 true (2 : Int)]) (SV.tup [SV.agg [SV.int IntKind.i64 true (0 : Int), SV.int IntKind.i64 true (0 : Int), SV.int IntKind.i64 true (0 : Int), SV.int IntKind.i64 true (0 : Int), SV.str true [], SV.str true [], SV.int IntKind.i64 true (0 : Int)], SV.int IntKind.i64 true (2 : Int)]))) ∧
 (decide ((↑(itemsN (cutIn s)) : Int) ≤ (3 : Int)) = false →
 ((0 : Int) ≤ (3 : Int) ∧
 (3 : Int) < (↑(itemsN (cutIn s)) : Int)) ∧
 (3 : Nat) < itemsN (cutIn s) ∧
 (itemAt (cutIn s) (3 : Nat)).length < (1152921504606846976 : Nat) ∧
 (getB (itemAt (cutIn s) (3 : Nat)) = true →
 (decide ((1048577 : Int) < num (cutIn (itemAt (cutIn s) (3 : Nat)))) = true →
 (0 : Nat) < (1152921504606846976 : Nat) ∧
 (0 : Nat) < (1152921504606846976 : Nat) ∧
 (0 : Nat) < (1152921504606846976 : Nat) ∧
 (0 : Nat) < (1152921504606846976 : Nat) ∧
 (getAskB s = true →
 sameVal (SV.tup [SV.agg [SV.int IntKind.i64 true (0 : Int), SV.int IntKind.i64 true (0 : Int), SV.int IntKind.i64 true (0 : Int), SV.int IntKind.i64 true (0 : Int), SV.str true [], SV.str true [], SV.int IntKind.i64 true (0 : Int)], SV.int IntKind.i64 true (2 : Int)]) (SV.tup [(askD s).sv, SV.int IntKind.i64 true (0 : Int)])) ∧
 (getAskB s = false →
 sameVal (SV.tup [SV.agg [SV.int IntKind.i64 true (0 : Int), SV.int IntKind.i64 true (0 : Int), SV.int IntKind.i64 true (0 : Int), SV.int IntKind.i64 true (0 : Int), SV.str true [], SV.str true [], SV.int IntKind.i64 true (0 : Int)], SV.int IntKind.i64 true (2 : Int)]) (SV.tup [SV.agg [SV.int IntKind.i64 true (0 : Int), SV.int IntKind.i64 true (0 : Int), SV.int IntKind.i64 true (0 : Int), SV.int IntKind.i64 true (0 : Int), SV.str true [], SV.str true [], SV.int IntKind.i64 true (0 : Int)], SV.int IntKind.i64 true (2 : Int)]))) ∧
 (decide ((1048577 : Int) < num (cutIn (itemAt (cutIn s) (3 : Nat)))) = false →
 ((-9223372036854775808 : Int) ≤ num (cutIn (itemAt (cutIn s) (3 : Nat))) ∧
 num (cutIn (itemAt (cutIn s) (3 : Nat))) ≤ (9223372036854775807 : Int)) ∧
 (decide ((↑(itemsN (cutIn s)) : Int) ≤ (4 : Int)) = true →
 (0 : Nat) < (1152921504606846976 : Nat) ∧
 (0 : Nat) < (1152921504606846976 : Nat) ∧
 (0 : Nat) < (1152921504606846976 : Nat) ∧
 (0 : Nat) < (1152921504606846976 : Nat) ∧
 (getAskB s = true →
 sameVal (SV.tup [SV.agg [SV.int IntKind.i64 true (0 : Int), SV.int IntKind.i64 true (0 : Int), SV.int IntKind.i64 true (0 : Int), SV.int IntKind.i64 true (0 : Int), SV.str true [], SV.str true [], SV.int IntKind.i64 true (0 : Int)], SV.int IntKind.i64 true (2 : Int)]) (SV.tup [(askD s).sv, SV.int IntKind.i64 true (0 : Int)])) ∧
 (getAskB s = false →
 sameVal (SV.tup [SV.agg [SV.int IntKind.i64 true (0 : Int), SV.int IntKind.i64 true (0 : Int), SV.int IntKind.i64 true (0 : Int), SV.int IntKind.i64 true (0 : Int), SV.str true [], SV.str true [], SV.int IntKind.i64 true (0 : Int)], SV.int IntKind.i64 true (2 : Int)]) (SV.tup [SV.agg [SV.int IntKind.i64 true (0 : Int), SV.int IntKind.i64 true (0 : Int), SV.int IntKind.i64 true (0 : Int), SV.int IntKind.i64 true (0 : Int), SV.str true [], SV.str true [], SV.int IntKind.i64 true (0 : Int)], SV.int IntKind.i64 true (2 : Int)]))) ∧
 (decide ((↑(itemsN (cutIn s)) : Int) ≤ (4 : Int)) = false →
 ((0 : Int) ≤ (4 : Int) ∧
 (4 : Int) < (↑(itemsN (cutIn s)) : Int)) ∧
 (4 : Nat) < itemsN (cutIn s) ∧
 (itemAt (cutIn s) (4 : Nat)).length < (1152921504606846976 : Nat) ∧
 (getB (itemAt (cutIn s) (4 : Nat)) = true →
 (decide ((1048577 : Int) < num (cutIn (itemAt (cutIn s) (4 : Nat)))) = true →
 (0 : Nat) < (1152921504606846976 : Nat) ∧
 (0 : Nat) < (1152921504606846976 : Nat) ∧
 (0 : Nat) < (1152921504606846976 : Nat) ∧
 (getAskB s = true →
 sameVal (SV.tup [SV.agg [SV.int IntKind.i64 true (0 : Int), SV.int IntKind.i64 true (0 : Int), SV.int IntKind.i64 true (0 : Int), SV.int IntKind.i64 true (0 : Int), SV.str true [], SV.str true [], SV.int IntKind.i64 true (0 : Int)], SV.int IntKind.i64 true (2 : Int)]) (SV.tup [(askD s).sv, SV.int IntKind.i64 true (0 : Int)])) ∧
 (getAskB s = false →
 sameVal (SV.tup [SV.agg [SV.int IntKind.i64 true (0 : Int), SV.int IntKind.i64 true (0 : Int), SV.int IntKind.i64 true (0 : Int), SV.int IntKind.i64 true (0 : Int), SV.str true [], SV.str true [], SV.int IntKind.i64 true (0 : Int)], SV.int IntKind.i64 true (2 : Int)]) (SV.tup [SV.agg [SV.int IntKind.i64 true (0 : Int), SV.int IntKind.i64 true (0 : Int), SV.int IntKind.i64 true (0 : Int), SV.int IntKind.i64 true (0 : Int), SV.str true [], SV.str true [], SV.int IntKind.i64 true (0 : Int)], SV.int IntKind.i64 true (2 : Int)]))) ∧
 (decide ((1048577 : Int) < num (cutIn (itemAt (cutIn s) (4 : Nat)))) = false →
 ((-9223372036854775808 : Int) ≤ num (cutIn (itemAt (cutIn s) (4 : Nat))) ∧
 num (cutIn (itemAt (cutIn s) (4 : Nat))) ≤ (9223372036854775807 : Int)) ∧
 (decide ((↑(itemsN (cutIn s)) : Int) ≤ (5 : Int)) = true →
 (0 : Nat) < (1152921504606846976 : Nat) ∧
 (0 : Nat) < (1152921504606846976 : Nat) ∧
 (0 : Nat) < (1152921504606846976 : Nat) ∧
 ((-9223372036854775808 : Int) ≤ num (cutIn (itemAt (cutIn s) (4 : Nat))) - (1 : Int) ∧
 num (cutIn (itemAt (cutIn s) (4 : Nat))) - (1 : Int) ≤ (9223372036854775807 : Int)) ∧
 (getAskB s = true →
 sameVal (SV.tup [SV.agg [SV.int IntKind.i64 true (0 : Int), SV.int IntKind.i64 true (0 : Int), SV.int IntKind.i64 true (0 : Int), SV.int IntKind.i64 true (0 : Int), SV.str true [], SV.str true [], SV.int IntKind.i64 true (0 : Int)], SV.int IntKind.i64 true (2 : Int)]) (SV.tup [(askD s).sv, SV.int IntKind.i64 true (0 : Int)])) ∧
 (getAskB s = false →
 sameVal (SV.tup [SV.agg [SV.int IntKind.i64 true (0 : Int), SV.int IntKind.i64 true (0 : Int), SV.int IntKind.i64 true (0 : Int), SV.int IntKind.i64 true (0 : Int), SV.str true [], SV.str true [], SV.int IntKind.i64 true (0 : Int)], SV.int IntKind.i64 true (2 : Int)]) (SV.tup [SV.agg [SV.int IntKind.i64 true (0 : Int), SV.int IntKind.i64 true (0 : Int), SV.int IntKind.i64 true (0 : Int), SV.int IntKind.i64 true (0 : Int), SV.str true [], SV.str true [], SV.int IntKind.i64 true (0 : Int)], SV.int IntKind.i64 true (2 : Int)]))) ∧
 (decide ((↑(itemsN (cutIn s)) : Int) ≤ (5 : Int)) = false →
 ((0 : Int) ≤ (5 : Int) ∧
 (5 : Int) < (↑(itemsN (cutIn s)) : Int)) ∧
 (5 : Nat) < itemsN (cutIn s) ∧
 (itemAt (cutIn s) (5 : Nat)).length < (1152921504606846976 : Nat) ∧
 (cutB (itemAt (cutIn s) (5 : Nat)) = true →
 (cutL (itemAt (cutIn s) (5 : Nat)) = true →
 (0 : Nat) < (1152921504606846976 : Nat) ∧
 (0 : Nat) < (1152921504606846976 : Nat) ∧
 ((-9223372036854775808 : Int) ≤ num (cutIn (itemAt (cutIn s) (4 : Nat))) - (1 : Int) ∧
 num (cutIn (itemAt (cutIn s) (4 : Nat))) - (1 : Int) ≤ (9223372036854775807 : Int)) ∧
 (getAskB s = true →
 sameVal (SV.tup [SV.agg [SV.int IntKind.i64 true (0 : Int), SV.int IntKind.i64 true (0 : Int), SV.int IntKind.i64 true (0 : Int), SV.int IntKind.i64 true (0 : Int), SV.str true [], SV.str true [], SV.int IntKind.i64 true (0 : Int)], SV.int IntKind.i64 true (2 : Int)]) (SV.tup [(askD s).sv, SV.int IntKind.i64 true (0 : Int)])) ∧
 (getAskB s = false →
 sameVal (SV.tup [SV.agg [SV.int IntKind.i64 true (0 : Int), SV.int IntKind.i64 true (0 : Int), SV.int IntKind.i64 true (0 : Int), SV.int IntKind.i64 true (0 : Int), SV.str true [], SV.str true [], SV.int IntKind.i64 true (0 : Int)], SV.int IntKind.i64 true (2 : Int)]) (SV.tup [SV.agg [SV.int IntKind.i64 true (0 : Int), SV.int IntKind.i64 true (0 : Int), SV.int IntKind.i64 true (0 : Int), SV.int IntKind.i64 true (0 : Int), SV.str true [], SV.str true [], SV.int IntKind.i64 true (0 : Int)], SV.int IntKind.i64 true (2 : Int)]))) ∧
 (cutL (itemAt (cutIn s) (5 : Nat)) = false →
 ((!decide (cutRest (itemAt (cutIn s) (5 : Nat)) = [])) = true →
 (0 : Nat) < (1152921504606846976 : Nat) ∧
 (0 : Nat) < (1152921504606846976 : Nat) ∧
 ((-9223372036854775808 : Int) ≤ num (cutIn (itemAt (cutIn s) (4 : Nat))) - (1 : Int) ∧
 num (cutIn (itemAt (cutIn s) (4 : Nat))) - (1 : Int) ≤ (9223372036854775807 : Int)) ∧
 (getAskB s = true →
 sameVal (SV.tup [SV.agg [SV.int IntKind.i64 true (0 : Int), SV.int IntKind.i64 true (0 : Int), SV.int IntKind.i64 true (0 : Int), SV.int IntKind.i64 true (0 : Int), SV.str true [], SV.str true [], SV.int IntKind.i64 true (0 : Int)], SV.int IntKind.i64 true (2 : Int)]) (SV.tup [(askD s).sv, SV.int IntKind.i64 true (0 : Int)])) ∧
 (getAskB s = false →
 sameVal (SV.tup [SV.agg [SV.int IntKind.i64 true (0 : Int), SV.int IntKind.i64 true (0 : Int), SV.int IntKind.i64 true (0 : Int), SV.int IntKind.i64 true (0 : Int), SV.str true [], SV.str true [], SV.int IntKind.i64 true (0 : Int)], SV.int IntKind.i64 true (2 : Int)]) (SV.tup [SV.agg [SV.int IntKind.i64 true (0 : Int), SV.int IntKind.i64 true (0 : Int), SV.int IntKind.i64 true (0 : Int), SV.int IntKind.i64 true (0 : Int), SV.str true [], SV.str true [], SV.int IntKind.i64 true (0 : Int)], SV.int IntKind.i64 true (2 : Int)]))) ∧
 ((!decide (cutRest (itemAt (cutIn s) (5 : Nat)) = [])) = false →
 (decide ((↑(itemsN (cutIn s)) : Int) ≤ (6 : Int)) = true →
 (0 : Nat) < (1152921504606846976 : Nat) ∧
 (0 : Nat) < (1152921504606846976 : Nat) ∧
 ((-9223372036854775808 : Int) ≤ num (cutIn (itemAt (cutIn s) (4 : Nat))) - (1 : Int) ∧
 num (cutIn (itemAt (cutIn s) (4 : Nat))) - (1 : Int) ≤ (9223372036854775807 : Int)) ∧
 (getAskB s = true →
 sameVal (SV.tup [SV.agg [SV.int IntKind.i64 true (0 : Int), SV.int IntKind.i64 true (0 : Int), SV.int IntKind.i64 true (0 : Int), SV.int IntKind.i64 true (0 : Int), SV.str true [], SV.str true [], SV.int IntKind.i64 true (0 : Int)], SV.int IntKind.i64 true (2 : Int)]) (SV.tup [(askD s).sv, SV.int IntKind.i64 true (0 : Int)])) ∧
 (getAskB s = false →
 sameVal (SV.tup [SV.agg [SV.int IntKind.i64 true (0 : Int), SV.int IntKind.i64 true (0 : Int), SV.int IntKind.i64 true (0 : Int), SV.int IntKind.i64 true (0 : Int), SV.str true [], SV.str true [], SV.int IntKind.i64 true (0 : Int)], SV.int IntKind.i64 true (2 : Int)]) (SV.tup [SV.agg [SV.int IntKind.i64 true (0 : Int), SV.int IntKind.i64 true (0 : Int), SV.int IntKind.i64 true (0 : Int), SV.int IntKind.i64 true (0 : Int), SV.str true [], SV.str true [], SV.int IntKind.i64 true (0 : Int)], SV.int IntKind.i64 true (2 : Int)]))) ∧
 (decide ((↑(itemsN (cutIn s)) : Int) ≤ (6 : Int)) = false →
 ((0 : Int) ≤ (6 : Int) ∧
 (6 : Int) < (↑(itemsN (cutIn s)) : Int)) ∧
 (6 : Nat) < itemsN (cutIn s) ∧
 (itemAt (cutIn s) (6 : Nat)).length < (1152921504606846976 : Nat) ∧
 (cutB (itemAt (cutIn s) (6 : Nat)) = true →
 (cutL (itemAt (cutIn s) (6 : Nat)) = true →
 (0 : Nat) < (1152921504606846976 : Nat) ∧
 ((-9223372036854775808 : Int) ≤ num (cutIn (itemAt (cutIn s) (4 : Nat))) - (1 : Int) ∧
 num (cutIn (itemAt (cutIn s) (4 : Nat))) - (1 : Int) ≤ (9223372036854775807 : Int)) ∧
 (getAskB s = true →
 sameVal (SV.tup [SV.agg [SV.int IntKind.i64 true (0 : Int), SV.int IntKind.i64 true (0 : Int), SV.int IntKind.i64 true (0 : Int), SV.int IntKind.i64 true (0 : Int), SV.str true [], SV.str true [], SV.int IntKind.i64 true (0 : Int)], SV.int IntKind.i64 true (2 : Int)]) (SV.tup [(askD s).sv, SV.int IntKind.i64 true (0 : Int)])) ∧
 (getAskB s = false →
 sameVal (SV.tup [SV.agg [SV.int IntKind.i64 true (0 : Int), SV.int IntKind.i64 true (0 : Int), SV.int IntKind.i64 true (0 : Int), SV.int IntKind.i64 true (0 : Int), SV.str true [], SV.str true [], SV.int IntKind.i64 true (0 : Int)], SV.int IntKind.i64 true (2 : Int)]) (SV.tup [SV.agg [SV.int IntKind.i64 true (0 : Int), SV.int IntKind.i64 true (0 : Int), SV.int IntKind.i64 true (0 : Int), SV.int IntKind.i64 true (0 : Int), SV.str true [], SV.str true [], SV.int IntKind.i64 true (0 : Int)], SV.int IntKind.i64 true (2 : Int)]))) ∧
 (cutL (itemAt (cutIn s) (6 : Nat)) = false →
 ((!decide (cutRest (itemAt (cutIn s) (6 : Nat)) = [])) = true →
 (0 : Nat) < (1152921504606846976 : Nat) ∧
 ((-9223372036854775808 : Int) ≤ num (cutIn (itemAt (cutIn s) (4 : Nat))) - (1 : Int) ∧
 num (cutIn (itemAt (cutIn s) (4 : Nat))) - (1 : Int) ≤ (9223372036854775807 : Int)) ∧
 (getAskB s = true →
 sameVal (SV.tup [SV.agg [SV.int IntKind.i64 true (0 : Int), SV.int IntKind.i64 true (0 : Int), SV.int IntKind.i64 true (0 : Int), SV.int IntKind.i64 true (0 : Int), SV.str true [], SV.str true [], SV.int IntKind.i64 true (0 : Int)], SV.int IntKind.i64 true (2 : Int)]) (SV.tup [(askD s).sv, SV.int IntKind.i64 true (0 : Int)])) ∧
 (getAskB s = false →
 sameVal (SV.tup [SV.agg [SV.int IntKind.i64 true (0 : Int), SV.int IntKind.i64 true (0 : Int), SV.int IntKind.i64 true (0 : Int), SV.int IntKind.i64 true (0 : Int), SV.str true [], SV.str true [], SV.int IntKind.i64 true (0 : Int)], SV.int IntKind.i64 true (2 : Int)]) (SV.tup [SV.agg [SV.int IntKind.i64 true (0 : Int), SV.int IntKind.i64 true (0 : Int), SV.int IntKind.i64 true (0 : Int), SV.int IntKind.i64 true (0 : Int), SV.str true [], SV.str true [], SV.int IntKind.i64 true (0 : Int)], SV.int IntKind.i64 true (2 : Int)]))) ∧
 ((!decide (cutRest (itemAt (cutIn s) (6 : Nat)) = [])) = false →
 (decide ((↑(itemsN (cutIn s)) : Int) ≤ (7 : Int)) = true →
 (0 : Nat) < (1152921504606846976 : Nat) ∧
 ((-9223372036854775808 : Int) ≤ num (cutIn (itemAt (cutIn s) (4 : Nat))) - (1 : Int) ∧
 num (cutIn (itemAt (cutIn s) (4 : Nat))) - (1 : Int) ≤ (9223372036854775807 : Int)) ∧
 (getAskB s = true →
 sameVal (SV.tup [SV.agg [SV.int IntKind.i64 true (0 : Int), SV.int IntKind.i64 true (0 : Int), SV.int IntKind.i64 true (0 : Int), SV.int IntKind.i64 true (0 : Int), SV.str true [], SV.str true [], SV.int IntKind.i64 true (0 : Int)], SV.int IntKind.i64 true (2 : Int)]) (SV.tup [(askD s).sv, SV.int IntKind.i64 true (0 : Int)])) ∧
 (getAskB s = false →
 sameVal (SV.tup [SV.agg [SV.int IntKind.i64 true (0 : Int), SV.int IntKind.i64 true (0 : Int), SV.int IntKind.i64 true (0 : Int), SV.int IntKind.i64 true (0 : Int), SV.str true [], SV.str true [], SV.int IntKind.i64 true (0 : Int)], SV.int IntKind.i64 true (2 : Int)]) (SV.tup [SV.agg [SV.int IntKind.i64 true (0 : Int), SV.int IntKind.i64 true (0 : Int), SV.int IntKind.i64 true (0 : Int), SV.int IntKind.i64 true (0 : Int), SV.str true [], SV.str true [], SV.int IntKind.i64 true (0 : Int)], SV.int IntKind.i64 true (2 : Int)]))) ∧
 (decide ((↑(itemsN (cutIn s)) : Int) ≤ (7 : Int)) = false →
 ((0 : Int) ≤ (7 : Int) ∧
 (7 : Int) < (↑(itemsN (cutIn s)) : Int)) ∧
 (7 : Nat) < itemsN (cutIn s) ∧
 (itemAt (cutIn s) (7 : Nat)).length < (1152921504606846976 : Nat) ∧
 (getB (itemAt (cutIn s) (7 : Nat)) = true →
 (decide ((1048577 : Int) < num (cutIn (itemAt (cutIn s) (7 : Nat)))) = true →
 ((-9223372036854775808 : Int) ≤ num (cutIn (itemAt (cutIn s) (4 : Nat))) - (1 : Int) ∧
 num (cutIn (itemAt (cutIn s) (4 : Nat))) - (1 : Int) ≤ (9223372036854775807 : Int)) ∧
 (getAskB s = true →
 sameVal (SV.tup [SV.agg [SV.int IntKind.i64 true (0 : Int), SV.int IntKind.i64 true (0 : Int), SV.int IntKind.i64 true (0 : Int), SV.int IntKind.i64 true (0 : Int), SV.str true [], SV.str true [], SV.int IntKind.i64 true (0 : Int)], SV.int IntKind.i64 true (2 : Int)]) (SV.tup [(askD s).sv, SV.int IntKind.i64 true (0 : Int)])) ∧
 (getAskB s = false →
 sameVal (SV.tup [SV.agg [SV.int IntKind.i64 true (0 : Int), SV.int IntKind.i64 true (0 : Int), SV.int IntKind.i64 true (0 : Int), SV.int IntKind.i64 true (0 : Int), SV.str true [], SV.str true [], SV.int IntKind.i64 true (0 : Int)], SV.int IntKind.i64 true (2 : Int)]) (SV.tup [SV.agg [SV.int IntKind.i64 true (0 : Int), SV.int IntKind.i64 true (0 : Int), SV.int IntKind.i64 true (0 : Int), SV.int IntKind.i64 true (0 : Int), SV.str true [], SV.str true [], SV.int IntKind.i64 true (0 : Int)], SV.int IntKind.i64 true (2 : Int)]))) ∧
 (decide ((1048577 : Int) < num (cutIn (itemAt (cutIn s) (7 : Nat)))) = false →
 ((-9223372036854775808 : Int) ≤ num (cutIn (itemAt (cutIn s) (7 : Nat))) ∧
 num (cutIn (itemAt (cutIn s) (7 : Nat))) ≤ (9223372036854775807 : Int)) ∧
 ((-9223372036854775808 : Int) ≤ num (cutIn (itemAt (cutIn s) (4 : Nat))) - (1 : Int) ∧
 num (cutIn (itemAt (cutIn s) (4 : Nat))) - (1 : Int) ≤ (9223372036854775807 : Int)) ∧
 True ∧
 ({ k := num (cutIn (itemAt (cutIn s) (1 : Nat))), s := num (cutIn (itemAt (cutIn s) (2 : Nat))), q := num (cutIn (itemAt (cutIn s) (3 : Nat))), a := num (cutIn (itemAt (cutIn s) (4 : Nat))) - (1 : Int), key := cutIn (itemAt (cutIn s) (5 : Nat)), to := cutIn (itemAt (cutIn s) (6 : Nat)), lim := num (cutIn (itemAt (cutIn s) (7 : Nat))) : Ak }.ok = true →
 ((!decide (num (cutIn (itemAt (cutIn s) (0 : Nat))) = (0 : Int))) = true →
 (getAskB s = true →
 sameVal (SV.tup [SV.agg [SV.int IntKind.i64 true (0 : Int), SV.int IntKind.i64 true (0 : Int), SV.int IntKind.i64 true (0 : Int), SV.int IntKind.i64 true (0 : Int), SV.str true [], SV.str true [], SV.int IntKind.i64 true (0 : Int)], SV.int IntKind.i64 true (2 : Int)]) (SV.tup [(askD s).sv, SV.int IntKind.i64 true (0 : Int)])) ∧
 (getAskB s = false →
 sameVal (SV.tup [SV.agg [SV.int IntKind.i64 true (0 : Int), SV.int IntKind.i64 true (0 : Int), SV.int IntKind.i64 true (0 : Int), SV.int IntKind.i64 true (0 : Int), SV.str true [], SV.str true [], SV.int IntKind.i64 true (0 : Int)], SV.int IntKind.i64 true (2 : Int)]) (SV.tup [SV.agg [SV.int IntKind.i64 true (0 : Int), SV.int IntKind.i64 true (0 : Int), SV.int IntKind.i64 true (0 : Int), SV.int IntKind.i64 true (0 : Int), SV.str true [], SV.str true [], SV.int IntKind.i64 true (0 : Int)], SV.int IntKind.i64 true (2 : Int)]))) ∧
 ((!decide (num (cutIn (itemAt (cutIn s) (0 : Nat))) = (0 : Int))) = false →
 ((!decide ({ k := num (cutIn (itemAt (cutIn s) (1 : Nat))), s := num (cutIn (itemAt (cutIn s) (2 : Nat))), q := num (cutIn (itemAt (cutIn s) (3 : Nat))), a := num (cutIn (itemAt (cutIn s) (4 : Nat))) - (1 : Int), key := cutIn (itemAt (cutIn s) (5 : Nat)), to := cutIn (itemAt (cutIn s) (6 : Nat)), lim := num (cutIn (itemAt (cutIn s) (7 : Nat))) : Ak }.put = s)) = true →
 (getAskB s = true →
 sameVal (SV.tup [SV.agg [SV.int IntKind.i64 true (0 : Int), SV.int IntKind.i64 true (0 : Int), SV.int IntKind.i64 true (0 : Int), SV.int IntKind.i64 true (0 : Int), SV.str true [], SV.str true [], SV.int IntKind.i64 true (0 : Int)], SV.int IntKind.i64 true (2 : Int)]) (SV.tup [(askD s).sv, SV.int IntKind.i64 true (0 : Int)])) ∧
 (getAskB s = false →
 sameVal (SV.tup [SV.agg [SV.int IntKind.i64 true (0 : Int), SV.int IntKind.i64 true (0 : Int), SV.int IntKind.i64 true (0 : Int), SV.int IntKind.i64 true (0 : Int), SV.str true [], SV.str true [], SV.int IntKind.i64 true (0 : Int)], SV.int IntKind.i64 true (2 : Int)]) (SV.tup [SV.agg [SV.int IntKind.i64 true (0 : Int), SV.int IntKind.i64 true (0 : Int), SV.int IntKind.i64 true (0 : Int), SV.int IntKind.i64 true (0 : Int), SV.str true [], SV.str true [], SV.int IntKind.i64 true (0 : Int)], SV.int IntKind.i64 true (2 : Int)]))) ∧
 ((!decide ({ k := num (cutIn (itemAt (cutIn s) (1 : Nat))), s := num (cutIn (itemAt (cutIn s) (2 : Nat))), q := num (cutIn (itemAt (cutIn s) (3 : Nat))), a := num (cutIn (itemAt (cutIn s) (4 : Nat))) - (1 : Int), key := cutIn (itemAt (cutIn s) (5 : Nat)), to := cutIn (itemAt (cutIn s) (6 : Nat)), lim := num (cutIn (itemAt (cutIn s) (7 : Nat))) : Ak }.put = s)) = false →
 (getAskB s = true →
 sameVal (SV.tup [SV.agg [SV.int IntKind.i64 false (num (cutIn (itemAt (cutIn s) (1 : Nat)))), SV.int IntKind.i64 false (num (cutIn (itemAt (cutIn s) (2 : Nat)))), SV.int IntKind.i64 false (num (cutIn (itemAt (cutIn s) (3 : Nat)))), SV.int IntKind.i64 false (num (cutIn (itemAt (cutIn s) (4 : Nat))) - (1 : Int)), SV.str false (cutIn (itemAt (cutIn s) (5 : Nat))), SV.str false (cutIn (itemAt (cutIn s) (6 : Nat))), SV.int IntKind.i64 false (num (cutIn (itemAt (cutIn s) (7 : Nat))))], SV.int IntKind.i64 true (0 : Int)]) (SV.tup [(askD s).sv, SV.int IntKind.i64 true (0 : Int)])) ∧
 (getAskB s = false →
 sameVal (SV.tup [SV.agg [SV.int IntKind.i64 false (num (cutIn (itemAt (cutIn s) (1 : Nat)))), SV.int IntKind.i64 false (num (cutIn (itemAt (cutIn s) (2 : Nat)))), SV.int IntKind.i64 false (num (cutIn (itemAt (cutIn s) (3 : Nat)))), SV.int IntKind.i64 false (num (cutIn (itemAt (cutIn s) (4 : Nat))) - (1 : Int)), SV.str false (cutIn (itemAt (cutIn s) (5 : Nat))), SV.str false (cutIn (itemAt (cutIn s) (6 : Nat))), SV.int IntKind.i64 false (num (cutIn (itemAt (cutIn s) (7 : Nat))))], SV.int IntKind.i64 true (0 : Int)]) (SV.tup [SV.agg [SV.int IntKind.i64 true (0 : Int), SV.int IntKind.i64 true (0 : Int), SV.int IntKind.i64 true (0 : Int), SV.int IntKind.i64 true (0 : Int), SV.str true [], SV.str true [], SV.int IntKind.i64 true (0 : Int)], SV.int IntKind.i64 true (2 : Int)]))))) ∧
 ({ k := num (cutIn (itemAt (cutIn s) (1 : Nat))), s := num (cutIn (itemAt (cutIn s) (2 : Nat))), q := num (cutIn (itemAt (cutIn s) (3 : Nat))), a := num (cutIn (itemAt (cutIn s) (4 : Nat))) - (1 : Int), key := cutIn (itemAt (cutIn s) (5 : Nat)), to := cutIn (itemAt (cutIn s) (6 : Nat)), lim := num (cutIn (itemAt (cutIn s) (7 : Nat))) : Ak }.ok = false →
 (getAskB s = true →
 sameVal (SV.tup [SV.agg [SV.int IntKind.i64 true (0 : Int), SV.int IntKind.i64 true (0 : Int), SV.int IntKind.i64 true (0 : Int), SV.int IntKind.i64 true (0 : Int), SV.str true [], SV.str true [], SV.int IntKind.i64 true (0 : Int)], SV.int IntKind.i64 true (2 : Int)]) (SV.tup [(askD s).sv, SV.int IntKind.i64 true (0 : Int)])) ∧
 (getAskB s = false →
 sameVal (SV.tup [SV.agg [SV.int IntKind.i64 true (0 : Int), SV.int IntKind.i64 true (0 : Int), SV.int IntKind.i64 true (0 : Int), SV.int IntKind.i64 true (0 : Int), SV.str true [], SV.str true [], SV.int IntKind.i64 true (0 : Int)], SV.int IntKind.i64 true (2 : Int)]) (SV.tup [SV.agg [SV.int IntKind.i64 true (0 : Int), SV.int IntKind.i64 true (0 : Int), SV.int IntKind.i64 true (0 : Int), SV.int IntKind.i64 true (0 : Int), SV.str true [], SV.str true [], SV.int IntKind.i64 true (0 : Int)], SV.int IntKind.i64 true (2 : Int)]))))) ∧
 (getB (itemAt (cutIn s) (7 : Nat)) = false →
 ((-9223372036854775808 : Int) ≤ num (cutIn (itemAt (cutIn s) (4 : Nat))) - (1 : Int) ∧
 num (cutIn (itemAt (cutIn s) (4 : Nat))) - (1 : Int) ≤ (9223372036854775807 : Int)) ∧
 (getAskB s = true →
 sameVal (SV.tup [SV.agg [SV.int IntKind.i64 true (0 : Int), SV.int IntKind.i64 true (0 : Int), SV.int IntKind.i64 true (0 : Int), SV.int IntKind.i64 true (0 : Int), SV.str true [], SV.str true [], SV.int IntKind.i64 true (0 : Int)], SV.int IntKind.i64 true (2 : Int)]) (SV.tup [(askD s).sv, SV.int IntKind.i64 true (0 : Int)])) ∧
 (getAskB s = false →
 sameVal (SV.tup [SV.agg [SV.int IntKind.i64 true (0 : Int), SV.int IntKind.i64 true (0 : Int), SV.int IntKind.i64 true (0 : Int), SV.int IntKind.i64 true (0 : Int), SV.str true [], SV.str true [], SV.int IntKind.i64 true (0 : Int)], SV.int IntKind.i64 true (2 : Int)]) (SV.tup [SV.agg [SV.int IntKind.i64 true (0 : Int), SV.int IntKind.i64 true (0 : Int), SV.int IntKind.i64 true (0 : Int), SV.int IntKind.i64 true (0 : Int), SV.str true [], SV.str true [], SV.int IntKind.i64 true (0 : Int)], SV.int IntKind.i64 true (2 : Int)]))))))) ∧
 (cutB (itemAt (cutIn s) (6 : Nat)) = false →
 (0 : Nat) < (1152921504606846976 : Nat) ∧
 ((-9223372036854775808 : Int) ≤ num (cutIn (itemAt (cutIn s) (4 : Nat))) - (1 : Int) ∧
 num (cutIn (itemAt (cutIn s) (4 : Nat))) - (1 : Int) ≤ (9223372036854775807 : Int)) ∧
 (getAskB s = true →
 sameVal (SV.tup [SV.agg [SV.int IntKind.i64 true (0 : Int), SV.int IntKind.i64 true (0 : Int), SV.int IntKind.i64 true (0 : Int), SV.int IntKind.i64 true (0 : Int), SV.str true [], SV.str true [], SV.int IntKind.i64 true (0 : Int)], SV.int IntKind.i64 true (2 : Int)]) (SV.tup [(askD s).sv, SV.int IntKind.i64 true (0 : Int)])) ∧
 (getAskB s = false →
 sameVal (SV.tup [SV.agg [SV.int IntKind.i64 true (0 : Int), SV.int IntKind.i64 true (0 : Int), SV.int IntKind.i64 true (0 : Int), SV.int IntKind.i64 true (0 : Int), SV.str true [], SV.str true [], SV.int IntKind.i64 true (0 : Int)], SV.int IntKind.i64 true (2 : Int)]) (SV.tup [SV.agg [SV.int IntKind.i64 true (0 : Int), SV.int IntKind.i64 true (0 : Int), SV.int IntKind.i64 true (0 : Int), SV.int IntKind.i64 true (0 : Int), SV.str true [], SV.str true [], SV.int IntKind.i64 true (0 : Int)], SV.int IntKind.i64 true (2 : Int)]))))))) ∧
 (cutB (itemAt (cutIn s) (5 : Nat)) = false →
 (0 : Nat) < (1152921504606846976 : Nat) ∧
 (0 : Nat) < (1152921504606846976 : Nat) ∧
 ((-9223372036854775808 : Int) ≤ num (cutIn (itemAt (cutIn s) (4 : Nat))) - (1 : Int) ∧
 num (cutIn (itemAt (cutIn s) (4 : Nat))) - (1 : Int) ≤ (9223372036854775807 : Int)) ∧
 (getAskB s = true →
 sameVal (SV.tup [SV.agg [SV.int IntKind.i64 true (0 : Int), SV.int IntKind.i64 true (0 : Int), SV.int IntKind.i64 true (0 : Int), SV.int IntKind.i64 true (0 : Int), SV.str true [], SV.str true [], SV.int IntKind.i64 true (0 : Int)], SV.int IntKind.i64 true (2 : Int)]) (SV.tup [(askD s).sv, SV.int IntKind.i64 true (0 : Int)])) ∧
 (getAskB s = false →
 sameVal (SV.tup [SV.agg [SV.int IntKind.i64 true (0 : Int), SV.int IntKind.i64 true (0 : Int), SV.int IntKind.i64 true (0 : Int), SV.int IntKind.i64 true (0 : Int), SV.str true [], SV.str true [], SV.int IntKind.i64 true (0 : Int)], SV.int IntKind.i64 true (2 : Int)]) (SV.tup [SV.agg [SV.int IntKind.i64 true (0 : Int), SV.int IntKind.i64 true (0 : Int), SV.int IntKind.i64 true (0 : Int), SV.int IntKind.i64 true (0 : Int), SV.str true [], SV.str true [], SV.int IntKind.i64 true (0 : Int)], SV.int IntKind.i64 true (2 : Int)])))))) ∧
 (getB (itemAt (cutIn s) (4 : Nat)) = false →
 (0 : Nat) < (1152921504606846976 : Nat) ∧
 (0 : Nat) < (1152921504606846976 : Nat) ∧
 (0 : Nat) < (1152921504606846976 : Nat) ∧
 (getAskB s = true →
 sameVal (SV.tup [SV.agg [SV.int IntKind.i64 true (0 : Int), SV.int IntKind.i64 true (0 : Int), SV.int IntKind.i64 true (0 : Int), SV.int IntKind.i64 true (0 : Int), SV.str true [], SV.str true [], SV.int IntKind.i64 true (0 : Int)], SV.int IntKind.i64 true (2 : Int)]) (SV.tup [(askD s).sv, SV.int IntKind.i64 true (0 : Int)])) ∧
 (getAskB s = false →
 sameVal (SV.tup [SV.agg [SV.int IntKind.i64 true (0 : Int), SV.int IntKind.i64 true (0 : Int), SV.int IntKind.i64 true (0 : Int), SV.int IntKind.i64 true (0 : Int), SV.str true [], SV.str true [], SV.int IntKind.i64 true (0 : Int)], SV.int IntKind.i64 true (2 : Int)]) (SV.tup [SV.agg [SV.int IntKind.i64 true (0 : Int), SV.int IntKind.i64 true (0 : Int), SV.int IntKind.i64 true (0 : Int), SV.int IntKind.i64 true (0 : Int), SV.str true [], SV.str true [], SV.int IntKind.i64 true (0 : Int)], SV.int IntKind.i64 true (2 : Int)])))))) ∧
 (getB (itemAt (cutIn s) (3 : Nat)) = false →
 (0 : Nat) < (1152921504606846976 : Nat) ∧
 (0 : Nat) < (1152921504606846976 : Nat) ∧
 (0 : Nat) < (1152921504606846976 : Nat) ∧
 (0 : Nat) < (1152921504606846976 : Nat) ∧
 (getAskB s = true →
 sameVal (SV.tup [SV.agg [SV.int IntKind.i64 true (0 : Int), SV.int IntKind.i64 true (0 : Int), SV.int IntKind.i64 true (0 : Int), SV.int IntKind.i64 true (0 : Int), SV.str true [], SV.str true [], SV.int IntKind.i64 true (0 : Int)], SV.int IntKind.i64 true (2 : Int)]) (SV.tup [(askD s).sv, SV.int IntKind.i64 true (0 : Int)])) ∧
 (getAskB s = false →
 sameVal (SV.tup [SV.agg [SV.int IntKind.i64 true (0 : Int), SV.int IntKind.i64 true (0 : Int), SV.int IntKind.i64 true (0 : Int), SV.int IntKind.i64 true (0 : Int), SV.str true [], SV.str true [], SV.int IntKind.i64 true (0 : Int)], SV.int IntKind.i64 true (2 : Int)]) (SV.tup [SV.agg [SV.int IntKind.i64 true (0 : Int), SV.int IntKind.i64 true (0 : Int), SV.int IntKind.i64 true (0 : Int), SV.int IntKind.i64 true (0 : Int), SV.str true [], SV.str true [], SV.int IntKind.i64 true (0 : Int)], SV.int IntKind.i64 true (2 : Int)])))))) ∧
 (getB (itemAt (cutIn s) (2 : Nat)) = false →
 (0 : Nat) < (1152921504606846976 : Nat) ∧
 (0 : Nat) < (1152921504606846976 : Nat) ∧
 (0 : Nat) < (1152921504606846976 : Nat) ∧
 (0 : Nat) < (1152921504606846976 : Nat) ∧
 (0 : Nat) < (1152921504606846976 : Nat) ∧
 (getAskB s = true →
 sameVal (SV.tup [SV.agg [SV.int IntKind.i64 true (0 : Int), SV.int IntKind.i64 true (0 : Int), SV.int IntKind.i64 true (0 : Int), SV.int IntKind.i64 true (0 : Int), SV.str true [], SV.str true [], SV.int IntKind.i64 true (0 : Int)], SV.int IntKind.i64 true (2 : Int)]) (SV.tup [(askD s).sv, SV.int IntKind.i64 true (0 : Int)])) ∧
 (getAskB s = false →
 sameVal (SV.tup [SV.agg [SV.int IntKind.i64 true (0 : Int), SV.int IntKind.i64 true (0 : Int), SV.int IntKind.i64 true (0 : Int), SV.int IntKind.i64 true (0 : Int), SV.str true [], SV.str true [], SV.int IntKind.i64 true (0 : Int)], SV.int IntKind.i64 true (2 : Int)]) (SV.tup [SV.agg [SV.int IntKind.i64 true (0 : Int), SV.int IntKind.i64 true (0 : Int), SV.int IntKind.i64 true (0 : Int), SV.int IntKind.i64 true (0 : Int), SV.str true [], SV.str true [], SV.int IntKind.i64 true (0 : Int)], SV.int IntKind.i64 true (2 : Int)])))))) ∧
 (getB (itemAt (cutIn s) (1 : Nat)) = false →
 (0 : Nat) < (1152921504606846976 : Nat) ∧
 (0 : Nat) < (1152921504606846976 : Nat) ∧
 (0 : Nat) < (1152921504606846976 : Nat) ∧
 (0 : Nat) < (1152921504606846976 : Nat) ∧
 (0 : Nat) < (1152921504606846976 : Nat) ∧
 (0 : Nat) < (1152921504606846976 : Nat) ∧
 (getAskB s = true →
 sameVal (SV.tup [SV.agg [SV.int IntKind.i64 true (0 : Int), SV.int IntKind.i64 true (0 : Int), SV.int IntKind.i64 true (0 : Int), SV.int IntKind.i64 true (0 : Int), SV.str true [], SV.str true [], SV.int IntKind.i64 true (0 : Int)], SV.int IntKind.i64 true (2 : Int)]) (SV.tup [(askD s).sv, SV.int IntKind.i64 true (0 : Int)])) ∧
 (getAskB s = false →
 sameVal (SV.tup [SV.agg [SV.int IntKind.i64 true (0 : Int), SV.int IntKind.i64 true (0 : Int), SV.int IntKind.i64 true (0 : Int), SV.int IntKind.i64 true (0 : Int), SV.str true [], SV.str true [], SV.int IntKind.i64 true (0 : Int)], SV.int IntKind.i64 true (2 : Int)]) (SV.tup [SV.agg [SV.int IntKind.i64 true (0 : Int), SV.int IntKind.i64 true (0 : Int), SV.int IntKind.i64 true (0 : Int), SV.int IntKind.i64 true (0 : Int), SV.str true [], SV.str true [], SV.int IntKind.i64 true (0 : Int)], SV.int IntKind.i64 true (2 : Int)])))))) ∧
 (getB (itemAt (cutIn s) (0 : Nat)) = false →
 (0 : Nat) < (1152921504606846976 : Nat) ∧
 (0 : Nat) < (1152921504606846976 : Nat) ∧
 (0 : Nat) < (1152921504606846976 : Nat) ∧
 (0 : Nat) < (1152921504606846976 : Nat) ∧
 (0 : Nat) < (1152921504606846976 : Nat) ∧
 (0 : Nat) < (1152921504606846976 : Nat) ∧
 (0 : Nat) < (1152921504606846976 : Nat) ∧
 (getAskB s = true →
 sameVal (SV.tup [SV.agg [SV.int IntKind.i64 true (0 : Int), SV.int IntKind.i64 true (0 : Int), SV.int IntKind.i64 true (0 : Int), SV.int IntKind.i64 true (0 : Int), SV.str true [], SV.str true [], SV.int IntKind.i64 true (0 : Int)], SV.int IntKind.i64 true (2 : Int)]) (SV.tup [(askD s).sv, SV.int IntKind.i64 true (0 : Int)])) ∧
 (getAskB s = false →
 sameVal (SV.tup [SV.agg [SV.int IntKind.i64 true (0 : Int), SV.int IntKind.i64 true (0 : Int), SV.int IntKind.i64 true (0 : Int), SV.int IntKind.i64 true (0 : Int), SV.str true [], SV.str true [], SV.int IntKind.i64 true (0 : Int)], SV.int IntKind.i64 true (2 : Int)]) (SV.tup [SV.agg [SV.int IntKind.i64 true (0 : Int), SV.int IntKind.i64 true (0 : Int), SV.int IntKind.i64 true (0 : Int), SV.int IntKind.i64 true (0 : Int), SV.str true [], SV.str true [], SV.int IntKind.i64 true (0 : Int)], SV.int IntKind.i64 true (2 : Int)])))))) ∧
 (itemsB (cutIn s) = false →
 (0 : Nat) < (1152921504606846976 : Nat) ∧
 (0 : Nat) < (1152921504606846976 : Nat) ∧
 (0 : Nat) < (1152921504606846976 : Nat) ∧
 (0 : Nat) < (1152921504606846976 : Nat) ∧
 (0 : Nat) < (1152921504606846976 : Nat) ∧
 (0 : Nat) < (1152921504606846976 : Nat) ∧
 (0 : Nat) < (1152921504606846976 : Nat) ∧
 (0 : Nat) < (1152921504606846976 : Nat) ∧
 (getAskB s = true →
 sameVal (SV.tup [SV.agg [SV.int IntKind.i64 true (0 : Int), SV.int IntKind.i64 true (0 : Int), SV.int IntKind.i64 true (0 : Int), SV.int IntKind.i64 true (0 : Int), SV.str true [], SV.str true [], SV.int IntKind.i64 true (0 : Int)], SV.int IntKind.i64 true (2 : Int)]) (SV.tup [(askD s).sv, SV.int IntKind.i64 true (0 : Int)])) ∧
 (getAskB s = false →
 sameVal (SV.tup [SV.agg [SV.int IntKind.i64 true (0 : Int), SV.int IntKind.i64 true (0 : Int), SV.int IntKind.i64 true (0 : Int), SV.int IntKind.i64 true (0 : Int), SV.str true [], SV.str true [], SV.int IntKind.i64 true (0 : Int)], SV.int IntKind.i64 true (2 : Int)]) (SV.tup [SV.agg [SV.int IntKind.i64 true (0 : Int), SV.int IntKind.i64 true (0 : Int), SV.int IntKind.i64 true (0 : Int), SV.int IntKind.i64 true (0 : Int), SV.str true [], SV.str true [], SV.int IntKind.i64 true (0 : Int)], SV.int IntKind.i64 true (2 : Int)])))))) ∧
 (cutB s = false →
 (0 : Nat) < (1152921504606846976 : Nat) ∧
 (0 : Nat) < (1152921504606846976 : Nat) ∧
 (0 : Nat) < (1152921504606846976 : Nat) ∧
 (0 : Nat) < (1152921504606846976 : Nat) ∧
 (0 : Nat) < (1152921504606846976 : Nat) ∧
 (0 : Nat) < (1152921504606846976 : Nat) ∧
 (0 : Nat) < (1152921504606846976 : Nat) ∧
 (0 : Nat) < (1152921504606846976 : Nat) ∧
 (getAskB s = true →
 sameVal (SV.tup [SV.agg [SV.int IntKind.i64 true (0 : Int), SV.int IntKind.i64 true (0 : Int), SV.int IntKind.i64 true (0 : Int), SV.int IntKind.i64 true (0 : Int), SV.str true [], SV.str true [], SV.int IntKind.i64 true (0 : Int)], SV.int IntKind.i64 true (2 : Int)]) (SV.tup [(askD s).sv, SV.int IntKind.i64 true (0 : Int)])) ∧
 (getAskB s = false →
 sameVal (SV.tup [SV.agg [SV.int IntKind.i64 true (0 : Int), SV.int IntKind.i64 true (0 : Int), SV.int IntKind.i64 true (0 : Int), SV.int IntKind.i64 true (0 : Int), SV.str true [], SV.str true [], SV.int IntKind.i64 true (0 : Int)], SV.int IntKind.i64 true (2 : Int)]) (SV.tup [SV.agg [SV.int IntKind.i64 true (0 : Int), SV.int IntKind.i64 true (0 : Int), SV.int IntKind.i64 true (0 : Int), SV.int IntKind.i64 true (0 : Int), SV.str true [], SV.str true [], SV.int IntKind.i64 true (0 : Int)], SV.int IntKind.i64 true (2 : Int)])))) := by kernel_rfl
end Go.Proofs.YtocikfhejpilaaaGreatDoor
