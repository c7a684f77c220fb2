/-
  Conditions that the executor computes, written out by a program (vcgen.py).
-/
import Derived.Test.YtocikfhejpilaaaGreatDoorUa
namespace Go.Proofs.YtocikfhejpilaaaGreatDoor
open Go Sx
set_option maxRecDepth 20000

theorem vcGA2 (s : List UInt8) : VC.holds (runA (cfgGA2 s) 20 Tryz.f20 [.str false s] (getAskA s)) = ((fun Q0 : SB => ((fun Q1 : SB => ((fun Q2 : SV => ((s.length < (1099511627776 : Nat) ∧
 (1 : Int) ≤ (8 : Int) ∧
 (8 : Int) < (100 : Int)) ∧
 ∀ (x : Nat), (8 : Nat) ≤ x →
 (((0 : Int) ≤ (1 : Int) ∧
 (1 : Int) < (8 : Int)) ∧
 (1 : Nat) < (8 : Nat) ∧
 ((0 : Int) ≤ (2 : Int) ∧
 (2 : Int) < (8 : Int)) ∧
 (2 : Nat) < (8 : Nat) ∧
 ((0 : Int) ≤ (3 : Int) ∧
 (3 : Int) < (8 : Int)) ∧
 (3 : Nat) < (8 : Nat) ∧
 ((0 : Int) ≤ (4 : Int) ∧
 (4 : Int) < (8 : Int)) ∧
 (4 : Nat) < (8 : Nat) ∧
 ((0 : Int) ≤ (5 : Int) ∧
 (5 : Int) < (8 : Int)) ∧
 (5 : Nat) < (8 : Nat) ∧
 ((0 : Int) ≤ (6 : Int) ∧
 (6 : Int) < (8 : Int)) ∧
 (6 : Nat) < (8 : Nat) ∧
 ((0 : Int) ≤ (7 : Int) ∧
 (7 : Int) < (8 : Int)) ∧
 (7 : Nat) < (8 : Nat) ∧
 ((partC 8 s 1).length < (1152921504606846976 : Nat) ∧
 some (SB.rows true 8 [Col.str (partC 8 s)] false x 9) = some (SB.rows true 8 [Col.str (partC 8 s)] false x 9) ∧
 some (SB.rows true 8 [Col.str (partC 8 s)] false x 9) = some (SB.rows true 8 [Col.str (partC 8 s)] false x 9) ∧
 some (SB.rows true 8 [Col.str (partC 8 s)] false x 9) = some (SB.rows true 8 [Col.str (partC 8 s)] false x 9) ∧
 some (SB.rows true 8 [Col.str (partC 8 s)] false x 9) = some (SB.rows true 8 [Col.str (partC 8 s)] false x 9) ∧
 some (SB.rows true 8 [Col.str (partC 8 s)] false x 9) = some (SB.rows true 8 [Col.str (partC 8 s)] false x 9) ∧
 some (SB.rows true 8 [Col.str (partC 8 s)] false x 9) = some (SB.rows true 8 [Col.str (partC 8 s)] false x 9) ∧
 ((partC 8 s 2).length < (1152921504606846976 : Nat) ∧
 some (SB.rows true 8 [Col.str (partC 8 s)] false x 9) = some (SB.rows true 8 [Col.str (partC 8 s)] false x 9) ∧
 some (SB.rows true 8 [Col.str (partC 8 s)] false x 9) = some (SB.rows true 8 [Col.str (partC 8 s)] false x 9) ∧
 some (SB.rows true 8 [Col.str (partC 8 s)] false x 9) = some (SB.rows true 8 [Col.str (partC 8 s)] false x 9) ∧
 some (SB.rows true 8 [Col.str (partC 8 s)] false x 9) = some (SB.rows true 8 [Col.str (partC 8 s)] false x 9) ∧
 some (SB.rows true 8 [Col.str (partC 8 s)] false x 9) = some (SB.rows true 8 [Col.str (partC 8 s)] false x 9) ∧
 ((partC 8 s 3).length < (1152921504606846976 : Nat) ∧
 some (SB.rows true 8 [Col.str (partC 8 s)] false x 9) = some (SB.rows true 8 [Col.str (partC 8 s)] false x 9) ∧
 some (SB.rows true 8 [Col.str (partC 8 s)] false x 9) = some (SB.rows true 8 [Col.str (partC 8 s)] false x 9) ∧
 some (SB.rows true 8 [Col.str (partC 8 s)] false x 9) = some (SB.rows true 8 [Col.str (partC 8 s)] false x 9) ∧
 some (SB.rows true 8 [Col.str (partC 8 s)] false x 9) = some (SB.rows true 8 [Col.str (partC 8 s)] false x 9) ∧
 ((partC 8 s 4).length < (1152921504606846976 : Nat) ∧
 some (SB.rows true 8 [Col.str (partC 8 s)] false x 9) = some (SB.rows true 8 [Col.str (partC 8 s)] false x 9) ∧
 some (SB.rows true 8 [Col.str (partC 8 s)] false x 9) = some (SB.rows true 8 [Col.str (partC 8 s)] false x 9) ∧
 some (SB.rows true 8 [Col.str (partC 8 s)] false x 9) = some (SB.rows true 8 [Col.str (partC 8 s)] false x 9) ∧
 ((-9223372036854775808 : Int) ≤ numC (partC 8 s 4) - (1 : Int) ∧
 numC (partC 8 s 4) - (1 : Int) ≤ (9223372036854775807 : Int)) ∧
 ((partC 8 s 5).length < (1152921504606846976 : Nat) ∧
 some (SB.rows true 8 [Col.str (partC 8 s)] false x 9) = some (SB.rows true 8 [Col.str (partC 8 s)] false x 9) ∧
 some (SB.rows true 8 [Col.str (partC 8 s)] false x 9) = some (SB.rows true 8 [Col.str (partC 8 s)] false x 9) ∧
 ((partC 8 s 6).length < (1152921504606846976 : Nat) ∧
 some (SB.rows true 8 [Col.str (partC 8 s)] false x 9) = some (SB.rows true 8 [Col.str (partC 8 s)] false x 9) ∧
 ((partC 8 s 7).length < (1152921504606846976 : Nat) ∧
 some (SB.rows true 8 [Col.str (partC 8 s)] false x 9) = some (SB.rows true 8 [Col.str (partC 8 s)] false x 9) ∧
 some (SB.rows true 8 [Col.str (partC 8 s)] false x 9) = some (SB.rows true 8 [Col.str (partC 8 s)] false x 9) ∧
 some (SB.rows true 8 [Col.str (partC 8 s)] false x 9) = some (SB.rows true 8 [Col.str (partC 8 s)] false x 9) ∧
 some (SB.rows true 8 [Col.str (partC 8 s)] false x 9) = some (SB.rows true 8 [Col.str (partC 8 s)] false x 9) ∧
 some (SB.rows true 8 [Col.str (partC 8 s)] false x 9) = some (SB.rows true 8 [Col.str (partC 8 s)] false x 9) ∧
 some (SB.rows true 8 [Col.str (partC 8 s)] false x 9) = some (SB.rows true 8 [Col.str (partC 8 s)] false x 9) ∧
 some (SB.rows true 8 [Col.str (partC 8 s)] false x 9) = some (SB.rows true 8 [Col.str (partC 8 s)] false x 9) ∧
 ∃ (_y : Unit), True ∧
 (0 : Nat) = (0 : Nat) ∧
 SBle Q1 (SB.cells (headA (askC s)) 7 23) ∧
 SBle (SB.rows true 8 [Col.str (partC 8 s)] false x 9) (SB.rows true 8 [Col.str (partC 8 s)] false x 9) ∧
 SBle Q0 Q0 ∧
 True) ∧
 some (SB.rows true 8 [Col.str (partC 8 s)] false x 9) = some (SB.rows true 8 [Col.str (partC 8 s)] false x 9) ∧
 some (SB.rows true 8 [Col.str (partC 8 s)] false x 9) = some (SB.rows true 8 [Col.str (partC 8 s)] false x 9) ∧
 some (SB.rows true 8 [Col.str (partC 8 s)] false x 9) = some (SB.rows true 8 [Col.str (partC 8 s)] false x 9) ∧
 some (SB.rows true 8 [Col.str (partC 8 s)] false x 9) = some (SB.rows true 8 [Col.str (partC 8 s)] false x 9) ∧
 some (SB.rows true 8 [Col.str (partC 8 s)] false x 9) = some (SB.rows true 8 [Col.str (partC 8 s)] false x 9) ∧
 some (SB.rows true 8 [Col.str (partC 8 s)] false x 9) = some (SB.rows true 8 [Col.str (partC 8 s)] false x 9) ∧
 some (SB.rows true 8 [Col.str (partC 8 s)] false x 9) = some (SB.rows true 8 [Col.str (partC 8 s)] false x 9) ∧
 (partC 8 s 7).length < (1152921504606846976 : Nat) ∧
 ∃ (_y : Unit), True ∧
 (0 : Nat) = (0 : Nat) ∧
 SBle Q1 (SB.cells (headA (askC s)) 7 23) ∧
 SBle (SB.rows true 8 [Col.str (partC 8 s)] false x 9) (SB.rows true 8 [Col.str (partC 8 s)] false x 9) ∧
 SBle Q0 Q0 ∧
 True) ∧
 some (SB.rows true 8 [Col.str (partC 8 s)] false x 9) = some (SB.rows true 8 [Col.str (partC 8 s)] false x 9) ∧
 some (SB.rows true 8 [Col.str (partC 8 s)] false x 9) = some (SB.rows true 8 [Col.str (partC 8 s)] false x 9) ∧
 some (SB.rows true 8 [Col.str (partC 8 s)] false x 9) = some (SB.rows true 8 [Col.str (partC 8 s)] false x 9) ∧
 some (SB.rows true 8 [Col.str (partC 8 s)] false x 9) = some (SB.rows true 8 [Col.str (partC 8 s)] false x 9) ∧
 some (SB.rows true 8 [Col.str (partC 8 s)] false x 9) = some (SB.rows true 8 [Col.str (partC 8 s)] false x 9) ∧
 some (SB.rows true 8 [Col.str (partC 8 s)] false x 9) = some (SB.rows true 8 [Col.str (partC 8 s)] false x 9) ∧
 some (SB.rows true 8 [Col.str (partC 8 s)] false x 9) = some (SB.rows true 8 [Col.str (partC 8 s)] false x 9) ∧
 (partC 8 s 6).length < (1152921504606846976 : Nat) ∧
 some (SB.rows true 8 [Col.str (partC 8 s)] false x 9) = some (SB.rows true 8 [Col.str (partC 8 s)] false x 9) ∧
 (partC 8 s 7).length < (1152921504606846976 : Nat) ∧
 ∃ (_y : Unit), True ∧
 (0 : Nat) = (0 : Nat) ∧
 SBle Q1 (SB.cells (headA (askC s)) 7 23) ∧
 SBle (SB.rows true 8 [Col.str (partC 8 s)] false x 9) (SB.rows true 8 [Col.str (partC 8 s)] false x 9) ∧
 SBle Q0 Q0 ∧
 True) ∧
 some (SB.rows true 8 [Col.str (partC 8 s)] false x 9) = some (SB.rows true 8 [Col.str (partC 8 s)] false x 9) ∧
 some (SB.rows true 8 [Col.str (partC 8 s)] false x 9) = some (SB.rows true 8 [Col.str (partC 8 s)] false x 9) ∧
 some (SB.rows true 8 [Col.str (partC 8 s)] false x 9) = some (SB.rows true 8 [Col.str (partC 8 s)] false x 9) ∧
 some (SB.rows true 8 [Col.str (partC 8 s)] false x 9) = some (SB.rows true 8 [Col.str (partC 8 s)] false x 9) ∧
 some (SB.rows true 8 [Col.str (partC 8 s)] false x 9) = some (SB.rows true 8 [Col.str (partC 8 s)] false x 9) ∧
 some (SB.rows true 8 [Col.str (partC 8 s)] false x 9) = some (SB.rows true 8 [Col.str (partC 8 s)] false x 9) ∧
 some (SB.rows true 8 [Col.str (partC 8 s)] false x 9) = some (SB.rows true 8 [Col.str (partC 8 s)] false x 9) ∧
 (partC 8 s 5).length < (1152921504606846976 : Nat) ∧
 some (SB.rows true 8 [Col.str (partC 8 s)] false x 9) = some (SB.rows true 8 [Col.str (partC 8 s)] false x 9) ∧
 some (SB.rows true 8 [Col.str (partC 8 s)] false x 9) = some (SB.rows true 8 [Col.str (partC 8 s)] false x 9) ∧
 (partC 8 s 6).length < (1152921504606846976 : Nat) ∧
 some (SB.rows true 8 [Col.str (partC 8 s)] false x 9) = some (SB.rows true 8 [Col.str (partC 8 s)] false x 9) ∧
 (partC 8 s 7).length < (1152921504606846976 : Nat) ∧
 ∃ (_y : Unit), True ∧
 (0 : Nat) = (0 : Nat) ∧
 SBle Q1 (SB.cells (headA (askC s)) 7 23) ∧
 SBle (SB.rows true 8 [Col.str (partC 8 s)] false x 9) (SB.rows true 8 [Col.str (partC 8 s)] false x 9) ∧
 SBle Q0 Q0 ∧
 True) ∧
 some (SB.rows true 8 [Col.str (partC 8 s)] false x 9) = some (SB.rows true 8 [Col.str (partC 8 s)] false x 9) ∧
 some (SB.rows true 8 [Col.str (partC 8 s)] false x 9) = some (SB.rows true 8 [Col.str (partC 8 s)] false x 9) ∧
 some (SB.rows true 8 [Col.str (partC 8 s)] false x 9) = some (SB.rows true 8 [Col.str (partC 8 s)] false x 9) ∧
 some (SB.rows true 8 [Col.str (partC 8 s)] false x 9) = some (SB.rows true 8 [Col.str (partC 8 s)] false x 9) ∧
 some (SB.rows true 8 [Col.str (partC 8 s)] false x 9) = some (SB.rows true 8 [Col.str (partC 8 s)] false x 9) ∧
 some (SB.rows true 8 [Col.str (partC 8 s)] false x 9) = some (SB.rows true 8 [Col.str (partC 8 s)] false x 9) ∧
 some (SB.rows true 8 [Col.str (partC 8 s)] false x 9) = some (SB.rows true 8 [Col.str (partC 8 s)] false x 9) ∧
 (partC 8 s 4).length < (1152921504606846976 : Nat) ∧
 some (SB.rows true 8 [Col.str (partC 8 s)] false x 9) = some (SB.rows true 8 [Col.str (partC 8 s)] false x 9) ∧
 some (SB.rows true 8 [Col.str (partC 8 s)] false x 9) = some (SB.rows true 8 [Col.str (partC 8 s)] false x 9) ∧
 some (SB.rows true 8 [Col.str (partC 8 s)] false x 9) = some (SB.rows true 8 [Col.str (partC 8 s)] false x 9) ∧
 ((-9223372036854775808 : Int) ≤ numC (partC 8 s 4) - (1 : Int) ∧
 numC (partC 8 s 4) - (1 : Int) ≤ (9223372036854775807 : Int)) ∧
 (partC 8 s 5).length < (1152921504606846976 : Nat) ∧
 some (SB.rows true 8 [Col.str (partC 8 s)] false x 9) = some (SB.rows true 8 [Col.str (partC 8 s)] false x 9) ∧
 some (SB.rows true 8 [Col.str (partC 8 s)] false x 9) = some (SB.rows true 8 [Col.str (partC 8 s)] false x 9) ∧
 (partC 8 s 6).length < (1152921504606846976 : Nat) ∧
 some (SB.rows true 8 [Col.str (partC 8 s)] false x 9) = some (SB.rows true 8 [Col.str (partC 8 s)] false x 9) ∧
 (partC 8 s 7).length < (1152921504606846976 : Nat) ∧
 ∃ (_y : Unit), True ∧
 (0 : Nat) = (0 : Nat) ∧
 SBle Q1 (SB.cells (headA (askC s)) 7 23) ∧
 SBle (SB.rows true 8 [Col.str (partC 8 s)] false x 9) (SB.rows true 8 [Col.str (partC 8 s)] false x 9) ∧
 SBle Q0 Q0 ∧
 True) ∧
 some (SB.rows true 8 [Col.str (partC 8 s)] false x 9) = some (SB.rows true 8 [Col.str (partC 8 s)] false x 9) ∧
 some (SB.rows true 8 [Col.str (partC 8 s)] false x 9) = some (SB.rows true 8 [Col.str (partC 8 s)] false x 9) ∧
 some (SB.rows true 8 [Col.str (partC 8 s)] false x 9) = some (SB.rows true 8 [Col.str (partC 8 s)] false x 9) ∧
 some (SB.rows true 8 [Col.str (partC 8 s)] false x 9) = some (SB.rows true 8 [Col.str (partC 8 s)] false x 9) ∧
 some (SB.rows true 8 [Col.str (partC 8 s)] false x 9) = some (SB.rows true 8 [Col.str (partC 8 s)] false x 9) ∧
 some (SB.rows true 8 [Col.str (partC 8 s)] false x 9) = some (SB.rows true 8 [Col.str (partC 8 s)] false x 9) ∧
 some (SB.rows true 8 [Col.str (partC 8 s)] false x 9) = some (SB.rows true 8 [Col.str (partC 8 s)] false x 9) ∧
 (partC 8 s 3).length < (1152921504606846976 : Nat) ∧
 some (SB.rows true 8 [Col.str (partC 8 s)] false x 9) = some (SB.rows true 8 [Col.str (partC 8 s)] false x 9) ∧
 some (SB.rows true 8 [Col.str (partC 8 s)] false x 9) = some (SB.rows true 8 [Col.str (partC 8 s)] false x 9) ∧
 some (SB.rows true 8 [Col.str (partC 8 s)] false x 9) = some (SB.rows true 8 [Col.str (partC 8 s)] false x 9) ∧
 some (SB.rows true 8 [Col.str (partC 8 s)] false x 9) = some (SB.rows true 8 [Col.str (partC 8 s)] false x 9) ∧
 (partC 8 s 4).length < (1152921504606846976 : Nat) ∧
 some (SB.rows true 8 [Col.str (partC 8 s)] false x 9) = some (SB.rows true 8 [Col.str (partC 8 s)] false x 9) ∧
 some (SB.rows true 8 [Col.str (partC 8 s)] false x 9) = some (SB.rows true 8 [Col.str (partC 8 s)] false x 9) ∧
 some (SB.rows true 8 [Col.str (partC 8 s)] false x 9) = some (SB.rows true 8 [Col.str (partC 8 s)] false x 9) ∧
 ((-9223372036854775808 : Int) ≤ numC (partC 8 s 4) - (1 : Int) ∧
 numC (partC 8 s 4) - (1 : Int) ≤ (9223372036854775807 : Int)) ∧
 (partC 8 s 5).length < (1152921504606846976 : Nat) ∧
 some (SB.rows true 8 [Col.str (partC 8 s)] false x 9) = some (SB.rows true 8 [Col.str (partC 8 s)] false x 9) ∧
 some (SB.rows true 8 [Col.str (partC 8 s)] false x 9) = some (SB.rows true 8 [Col.str (partC 8 s)] false x 9) ∧
 (partC 8 s 6).length < (1152921504606846976 : Nat) ∧
 some (SB.rows true 8 [Col.str (partC 8 s)] false x 9) = some (SB.rows true 8 [Col.str (partC 8 s)] false x 9) ∧
 (partC 8 s 7).length < (1152921504606846976 : Nat) ∧
 ∃ (_y : Unit), True ∧
 (0 : Nat) = (0 : Nat) ∧
 SBle Q1 (SB.cells (headA (askC s)) 7 23) ∧
 SBle (SB.rows true 8 [Col.str (partC 8 s)] false x 9) (SB.rows true 8 [Col.str (partC 8 s)] false x 9) ∧
 SBle Q0 Q0 ∧
 True) ∧
 some (SB.rows true 8 [Col.str (partC 8 s)] false x 9) = some (SB.rows true 8 [Col.str (partC 8 s)] false x 9) ∧
 some (SB.rows true 8 [Col.str (partC 8 s)] false x 9) = some (SB.rows true 8 [Col.str (partC 8 s)] false x 9) ∧
 some (SB.rows true 8 [Col.str (partC 8 s)] false x 9) = some (SB.rows true 8 [Col.str (partC 8 s)] false x 9) ∧
 some (SB.rows true 8 [Col.str (partC 8 s)] false x 9) = some (SB.rows true 8 [Col.str (partC 8 s)] false x 9) ∧
 some (SB.rows true 8 [Col.str (partC 8 s)] false x 9) = some (SB.rows true 8 [Col.str (partC 8 s)] false x 9) ∧
 some (SB.rows true 8 [Col.str (partC 8 s)] false x 9) = some (SB.rows true 8 [Col.str (partC 8 s)] false x 9) ∧
 some (SB.rows true 8 [Col.str (partC 8 s)] false x 9) = some (SB.rows true 8 [Col.str (partC 8 s)] false x 9) ∧
 (partC 8 s 2).length < (1152921504606846976 : Nat) ∧
 some (SB.rows true 8 [Col.str (partC 8 s)] false x 9) = some (SB.rows true 8 [Col.str (partC 8 s)] false x 9) ∧
 some (SB.rows true 8 [Col.str (partC 8 s)] false x 9) = some (SB.rows true 8 [Col.str (partC 8 s)] false x 9) ∧
 some (SB.rows true 8 [Col.str (partC 8 s)] false x 9) = some (SB.rows true 8 [Col.str (partC 8 s)] false x 9) ∧
 some (SB.rows true 8 [Col.str (partC 8 s)] false x 9) = some (SB.rows true 8 [Col.str (partC 8 s)] false x 9) ∧
 some (SB.rows true 8 [Col.str (partC 8 s)] false x 9) = some (SB.rows true 8 [Col.str (partC 8 s)] false x 9) ∧
 (partC 8 s 3).length < (1152921504606846976 : Nat) ∧
 some (SB.rows true 8 [Col.str (partC 8 s)] false x 9) = some (SB.rows true 8 [Col.str (partC 8 s)] false x 9) ∧
 some (SB.rows true 8 [Col.str (partC 8 s)] false x 9) = some (SB.rows true 8 [Col.str (partC 8 s)] false x 9) ∧
 some (SB.rows true 8 [Col.str (partC 8 s)] false x 9) = some (SB.rows true 8 [Col.str (partC 8 s)] false x 9) ∧
 some (SB.rows true 8 [Col.str (partC 8 s)] false x 9) = some (SB.rows true 8 [Col.str (partC 8 s)] false x 9) ∧
 (partC 8 s 4).length < (1152921504606846976 : Nat) ∧
 some (SB.rows true 8 [Col.str (partC 8 s)] false x 9) = some (SB.rows true 8 [Col.str (partC 8 s)] false x 9) ∧
 some (SB.rows true 8 [Col.str (partC 8 s)] false x 9) = some (SB.rows true 8 [Col.str (partC 8 s)] false x 9) ∧
 some (SB.rows true 8 [Col.str (partC 8 s)] false x 9) = some (SB.rows true 8 [Col.str (partC 8 s)] false x 9) ∧
 ((-9223372036854775808 : Int) ≤ numC (partC 8 s 4) - (1 : Int) ∧
 numC (partC 8 s 4) - (1 : Int) ≤ (9223372036854775807 : Int)) ∧
 (partC 8 s 5).length < (1152921504606846976 : Nat) ∧
 some (SB.rows true 8 [Col.str (partC 8 s)] false x 9) = some (SB.rows true 8 [Col.str (partC 8 s)] false x 9) ∧
 some (SB.rows true 8 [Col.str (partC 8 s)] false x 9) = some (SB.rows true 8 [Col.str (partC 8 s)] false x 9) ∧
 (partC 8 s 6).length < (1152921504606846976 : Nat) ∧
 some (SB.rows true 8 [Col.str (partC 8 s)] false x 9) = some (SB.rows true 8 [Col.str (partC 8 s)] false x 9) ∧
 (partC 8 s 7).length < (1152921504606846976 : Nat) ∧
 ∃ (_y : Unit), True ∧
 (0 : Nat) = (0 : Nat) ∧
 SBle Q1 (SB.cells (headA (askC s)) 7 23) ∧
 SBle (SB.rows true 8 [Col.str (partC 8 s)] false x 9) (SB.rows true 8 [Col.str (partC 8 s)] false x 9) ∧
 SBle Q0 Q0 ∧
 True) ∧
 some (SB.rows true 8 [Col.str (partC 8 s)] false x 9) = some (SB.rows true 8 [Col.str (partC 8 s)] false x 9) ∧
 some (SB.rows true 8 [Col.str (partC 8 s)] false x 9) = some (SB.rows true 8 [Col.str (partC 8 s)] false x 9) ∧
 some (SB.rows true 8 [Col.str (partC 8 s)] false x 9) = some (SB.rows true 8 [Col.str (partC 8 s)] false x 9) ∧
 some (SB.rows true 8 [Col.str (partC 8 s)] false x 9) = some (SB.rows true 8 [Col.str (partC 8 s)] false x 9) ∧
 some (SB.rows true 8 [Col.str (partC 8 s)] false x 9) = some (SB.rows true 8 [Col.str (partC 8 s)] false x 9) ∧
 some (SB.rows true 8 [Col.str (partC 8 s)] false x 9) = some (SB.rows true 8 [Col.str (partC 8 s)] false x 9) ∧
 some (SB.rows true 8 [Col.str (partC 8 s)] false x 9) = some (SB.rows true 8 [Col.str (partC 8 s)] false x 9) ∧
 (partC 8 s 1).length < (1152921504606846976 : Nat) ∧
 some (SB.rows true 8 [Col.str (partC 8 s)] false x 9) = some (SB.rows true 8 [Col.str (partC 8 s)] false x 9) ∧
 some (SB.rows true 8 [Col.str (partC 8 s)] false x 9) = some (SB.rows true 8 [Col.str (partC 8 s)] false x 9) ∧
 some (SB.rows true 8 [Col.str (partC 8 s)] false x 9) = some (SB.rows true 8 [Col.str (partC 8 s)] false x 9) ∧
 some (SB.rows true 8 [Col.str (partC 8 s)] false x 9) = some (SB.rows true 8 [Col.str (partC 8 s)] false x 9) ∧
 some (SB.rows true 8 [Col.str (partC 8 s)] false x 9) = some (SB.rows true 8 [Col.str (partC 8 s)] false x 9) ∧
 some (SB.rows true 8 [Col.str (partC 8 s)] false x 9) = some (SB.rows true 8 [Col.str (partC 8 s)] false x 9) ∧
 (partC 8 s 2).length < (1152921504606846976 : Nat) ∧
 some (SB.rows true 8 [Col.str (partC 8 s)] false x 9) = some (SB.rows true 8 [Col.str (partC 8 s)] false x 9) ∧
 some (SB.rows true 8 [Col.str (partC 8 s)] false x 9) = some (SB.rows true 8 [Col.str (partC 8 s)] false x 9) ∧
 some (SB.rows true 8 [Col.str (partC 8 s)] false x 9) = some (SB.rows true 8 [Col.str (partC 8 s)] false x 9) ∧
 some (SB.rows true 8 [Col.str (partC 8 s)] false x 9) = some (SB.rows true 8 [Col.str (partC 8 s)] false x 9) ∧
 some (SB.rows true 8 [Col.str (partC 8 s)] false x 9) = some (SB.rows true 8 [Col.str (partC 8 s)] false x 9) ∧
 (partC 8 s 3).length < (1152921504606846976 : Nat) ∧
 some (SB.rows true 8 [Col.str (partC 8 s)] false x 9) = some (SB.rows true 8 [Col.str (partC 8 s)] false x 9) ∧
 some (SB.rows true 8 [Col.str (partC 8 s)] false x 9) = some (SB.rows true 8 [Col.str (partC 8 s)] false x 9) ∧
 some (SB.rows true 8 [Col.str (partC 8 s)] false x 9) = some (SB.rows true 8 [Col.str (partC 8 s)] false x 9) ∧
 some (SB.rows true 8 [Col.str (partC 8 s)] false x 9) = some (SB.rows true 8 [Col.str (partC 8 s)] false x 9) ∧
 (partC 8 s 4).length < (1152921504606846976 : Nat) ∧
 some (SB.rows true 8 [Col.str (partC 8 s)] false x 9) = some (SB.rows true 8 [Col.str (partC 8 s)] false x 9) ∧
 some (SB.rows true 8 [Col.str (partC 8 s)] false x 9) = some (SB.rows true 8 [Col.str (partC 8 s)] false x 9) ∧
 some (SB.rows true 8 [Col.str (partC 8 s)] false x 9) = some (SB.rows true 8 [Col.str (partC 8 s)] false x 9) ∧
 ((-9223372036854775808 : Int) ≤ numC (partC 8 s 4) - (1 : Int) ∧
 numC (partC 8 s 4) - (1 : Int) ≤ (9223372036854775807 : Int)) ∧
 (partC 8 s 5).length < (1152921504606846976 : Nat) ∧
 some (SB.rows true 8 [Col.str (partC 8 s)] false x 9) = some (SB.rows true 8 [Col.str (partC 8 s)] false x 9) ∧
 some (SB.rows true 8 [Col.str (partC 8 s)] false x 9) = some (SB.rows true 8 [Col.str (partC 8 s)] false x 9) ∧
 (partC 8 s 6).length < (1152921504606846976 : Nat) ∧
 some (SB.rows true 8 [Col.str (partC 8 s)] false x 9) = some (SB.rows true 8 [Col.str (partC 8 s)] false x 9) ∧
 (partC 8 s 7).length < (1152921504606846976 : Nat) ∧
 ∃ (_y : Unit), True ∧
 (0 : Nat) = (0 : Nat) ∧
 SBle Q1 (SB.cells (headA (askC s)) 7 23) ∧
 SBle (SB.rows true 8 [Col.str (partC 8 s)] false x 9) (SB.rows true 8 [Col.str (partC 8 s)] false x 9) ∧
 SBle Q0 Q0 ∧
 True) ∧
 ∀ (_x : Unit), True →
 True ∧
 ({ k := numC (partC 8 s 1), s := numC (partC 8 s 2), q := numC (partC 8 s 3), a := numC (partC 8 s 4) - (1 : Int), key := txtC (partC 8 s 5), to := txtC (partC 8 s 6), lim := numC (partC 8 s 7) : Ak }.ok = true →
 ((!decide ({ k := numC (partC 8 s 1), s := numC (partC 8 s 2), q := numC (partC 8 s 3), a := numC (partC 8 s 4) - (1 : Int), key := txtC (partC 8 s 5), to := txtC (partC 8 s 6), lim := numC (partC 8 s 7) : Ak }.put = s)) = true →
 (getAskB s = true →
 sameVal Q2 (SV.tup [(askD s).sv, SV.int .i64 true 0])) ∧
 (getAskB s = false →
 sameVal Q2 Q2)) ∧
 ((!decide ({ k := numC (partC 8 s 1), s := numC (partC 8 s 2), q := numC (partC 8 s 3), a := numC (partC 8 s 4) - (1 : Int), key := txtC (partC 8 s 5), to := txtC (partC 8 s 6), lim := numC (partC 8 s 7) : Ak }.put = s)) = false →
 (getAskB s = true →
 sameVal (SV.tup [SV.agg [SV.int .i64 false (numC (partC 8 s 1)), SV.int .i64 false (numC (partC 8 s 2)), SV.int .i64 false (numC (partC 8 s 3)), SV.int .i64 false (numC (partC 8 s 4) - (1 : Int)), SV.str false (txtC (partC 8 s 5)), SV.str false (txtC (partC 8 s 6)), SV.int .i64 false (numC (partC 8 s 7))], SV.int .i64 true 0]) (SV.tup [(askD s).sv, SV.int .i64 true 0])) ∧
 (getAskB s = false →
 sameVal (SV.tup [SV.agg [SV.int .i64 false (numC (partC 8 s 1)), SV.int .i64 false (numC (partC 8 s 2)), SV.int .i64 false (numC (partC 8 s 3)), SV.int .i64 false (numC (partC 8 s 4) - (1 : Int)), SV.str false (txtC (partC 8 s 5)), SV.str false (txtC (partC 8 s 6)), SV.int .i64 false (numC (partC 8 s 7))], SV.int .i64 true 0]) Q2))) ∧
 ({ k := numC (partC 8 s 1), s := numC (partC 8 s 2), q := numC (partC 8 s 3), a := numC (partC 8 s 4) - (1 : Int), key := txtC (partC 8 s 5), to := txtC (partC 8 s 6), lim := numC (partC 8 s 7) : Ak }.ok = false →
 (getAskB s = true →
 sameVal Q2 (SV.tup [(askD s).sv, SV.int .i64 true 0])) ∧
 (getAskB s = false →
 sameVal Q2 Q2)))) (SV.tup [SV.agg [SV.int .i64 true 0, SV.int .i64 true 0, SV.int .i64 true 0, SV.int .i64 true 0, SV.str true [], SV.str true [], SV.int .i64 true 0], SV.int .i64 true 2]))) (SB.cells [SV.int .i64 false (numC (partC 8 s 1)), SV.int .i64 false (numC (partC 8 s 2)), SV.int .i64 false (numC (partC 8 s 3)), SV.int .i64 false (numC (partC 8 s 4) - (1 : Int)), SV.str false (txtC (partC 8 s 5)), SV.str false (txtC (partC 8 s 6)), SV.int .i64 false (numC (partC 8 s 7))] 7 23))) (SB.cells (SV.agg [SV.int .i64 true 0, SV.int .i64 true 0, SV.int .i64 true 0, SV.int .i64 true 0, SV.str true [], SV.str true [], SV.int .i64 true 0]).cells 7 23)) := by kernel_rfl
theorem vcGR2 (s : List UInt8) : VC.holds (runA (cfgGR2 s) 22 Tryz.f22 [.str false s] (getReply2A s)) = ((fun Q0 : SB => ((fun Q1 : SB => ((fun Q2 : SB => ((s.length < (1099511627776 : Nat) ∧
 (1 : Int) ≤ (9 : Int) ∧
 (9 : Int) < (100 : Int)) ∧
 ∀ (x : Nat), (9 : Nat) ≤ x →
 (((0 : Int) ≤ (1 : Int) ∧
 (1 : Int) < (9 : Int)) ∧
 (1 : Nat) < (9 : Nat) ∧
 ((0 : Int) ≤ (2 : Int) ∧
 (2 : Int) < (9 : Int)) ∧
 (2 : Nat) < (9 : Nat) ∧
 ((0 : Int) ≤ (3 : Int) ∧
 (3 : Int) < (9 : Int)) ∧
 (3 : Nat) < (9 : Nat) ∧
 ((0 : Int) ≤ (4 : Int) ∧
 (4 : Int) < (9 : Int)) ∧
 (4 : Nat) < (9 : Nat) ∧
 ((0 : Int) ≤ (5 : Int) ∧
 (5 : Int) < (9 : Int)) ∧
 (5 : Nat) < (9 : Nat) ∧
 ((0 : Int) ≤ (7 : Int) ∧
 (7 : Int) < (9 : Int)) ∧
 (7 : Nat) < (9 : Nat) ∧
 ((0 : Int) ≤ (8 : Int) ∧
 (8 : Int) < (9 : Int)) ∧
 (8 : Nat) < (9 : Nat) ∧
 ((partC 9 s 1).length < (1152921504606846976 : Nat) ∧
 some (SB.rows true 9 [Col.str (partC 9 s)] false x 9) = some (SB.rows true 9 [Col.str (partC 9 s)] false x 9) ∧
 some (SB.rows true 9 [Col.str (partC 9 s)] false x 9) = some (SB.rows true 9 [Col.str (partC 9 s)] false x 9) ∧
 some (SB.rows true 9 [Col.str (partC 9 s)] false x 9) = some (SB.rows true 9 [Col.str (partC 9 s)] false x 9) ∧
 some (SB.rows true 9 [Col.str (partC 9 s)] false x 9) = some (SB.rows true 9 [Col.str (partC 9 s)] false x 9) ∧
 some (SB.rows true 9 [Col.str (partC 9 s)] false x 9) = some (SB.rows true 9 [Col.str (partC 9 s)] false x 9) ∧
 some (SB.rows true 9 [Col.str (partC 9 s)] false x 9) = some (SB.rows true 9 [Col.str (partC 9 s)] false x 9) ∧
 ((partC 9 s 2).length < (1152921504606846976 : Nat) ∧
 some (SB.rows true 9 [Col.str (partC 9 s)] false x 9) = some (SB.rows true 9 [Col.str (partC 9 s)] false x 9) ∧
 some (SB.rows true 9 [Col.str (partC 9 s)] false x 9) = some (SB.rows true 9 [Col.str (partC 9 s)] false x 9) ∧
 some (SB.rows true 9 [Col.str (partC 9 s)] false x 9) = some (SB.rows true 9 [Col.str (partC 9 s)] false x 9) ∧
 some (SB.rows true 9 [Col.str (partC 9 s)] false x 9) = some (SB.rows true 9 [Col.str (partC 9 s)] false x 9) ∧
 some (SB.rows true 9 [Col.str (partC 9 s)] false x 9) = some (SB.rows true 9 [Col.str (partC 9 s)] false x 9) ∧
 ((partC 9 s 3).length < (1152921504606846976 : Nat) ∧
 some (SB.rows true 9 [Col.str (partC 9 s)] false x 9) = some (SB.rows true 9 [Col.str (partC 9 s)] false x 9) ∧
 some (SB.rows true 9 [Col.str (partC 9 s)] false x 9) = some (SB.rows true 9 [Col.str (partC 9 s)] false x 9) ∧
 some (SB.rows true 9 [Col.str (partC 9 s)] false x 9) = some (SB.rows true 9 [Col.str (partC 9 s)] false x 9) ∧
 some (SB.rows true 9 [Col.str (partC 9 s)] false x 9) = some (SB.rows true 9 [Col.str (partC 9 s)] false x 9) ∧
 ((partC 9 s 4).length < (1152921504606846976 : Nat) ∧
 some (SB.rows true 9 [Col.str (partC 9 s)] false x 9) = some (SB.rows true 9 [Col.str (partC 9 s)] false x 9) ∧
 some (SB.rows true 9 [Col.str (partC 9 s)] false x 9) = some (SB.rows true 9 [Col.str (partC 9 s)] false x 9) ∧
 some (SB.rows true 9 [Col.str (partC 9 s)] false x 9) = some (SB.rows true 9 [Col.str (partC 9 s)] false x 9) ∧
 ((partC 9 s 5).length < (1152921504606846976 : Nat) ∧
 some (SB.rows true 9 [Col.str (partC 9 s)] false x 9) = some (SB.rows true 9 [Col.str (partC 9 s)] false x 9) ∧
 some (SB.rows true 9 [Col.str (partC 9 s)] false x 9) = some (SB.rows true 9 [Col.str (partC 9 s)] false x 9) ∧
 ((partC 9 s 7).length < (1152921504606846976 : Nat) ∧
 some (SB.rows true 9 [Col.str (partC 9 s)] false x 9) = some (SB.rows true 9 [Col.str (partC 9 s)] false x 9) ∧
 ((partC 9 s 8).length < (1152921504606846976 : Nat) ∧
 some (SB.rows true 9 [Col.str (partC 9 s)] false x 9) = some (SB.rows true 9 [Col.str (partC 9 s)] false x 9) ∧
 some (SB.rows true 9 [Col.str (partC 9 s)] false x 9) = some (SB.rows true 9 [Col.str (partC 9 s)] false x 9) ∧
 some (SB.rows true 9 [Col.str (partC 9 s)] false x 9) = some (SB.rows true 9 [Col.str (partC 9 s)] false x 9) ∧
 some (SB.rows true 9 [Col.str (partC 9 s)] false x 9) = some (SB.rows true 9 [Col.str (partC 9 s)] false x 9) ∧
 some (SB.rows true 9 [Col.str (partC 9 s)] false x 9) = some (SB.rows true 9 [Col.str (partC 9 s)] false x 9) ∧
 some (SB.rows true 9 [Col.str (partC 9 s)] false x 9) = some (SB.rows true 9 [Col.str (partC 9 s)] false x 9) ∧
 some (SB.rows true 9 [Col.str (partC 9 s)] false x 9) = some (SB.rows true 9 [Col.str (partC 9 s)] false x 9) ∧
 ∃ (_y : Unit), True ∧
 (0 : Nat) = (0 : Nat) ∧
 SBle Q1 Q2 ∧
 SBle (SB.rows true 9 [Col.str (partC 9 s)] false x 9) (SB.rows true 9 [Col.str (partC 9 s)] false x 9) ∧
 SBle Q0 Q0 ∧
 True) ∧
 some (SB.rows true 9 [Col.str (partC 9 s)] false x 9) = some (SB.rows true 9 [Col.str (partC 9 s)] false x 9) ∧
 some (SB.rows true 9 [Col.str (partC 9 s)] false x 9) = some (SB.rows true 9 [Col.str (partC 9 s)] false x 9) ∧
 some (SB.rows true 9 [Col.str (partC 9 s)] false x 9) = some (SB.rows true 9 [Col.str (partC 9 s)] false x 9) ∧
 some (SB.rows true 9 [Col.str (partC 9 s)] false x 9) = some (SB.rows true 9 [Col.str (partC 9 s)] false x 9) ∧
 some (SB.rows true 9 [Col.str (partC 9 s)] false x 9) = some (SB.rows true 9 [Col.str (partC 9 s)] false x 9) ∧
 some (SB.rows true 9 [Col.str (partC 9 s)] false x 9) = some (SB.rows true 9 [Col.str (partC 9 s)] false x 9) ∧
 some (SB.rows true 9 [Col.str (partC 9 s)] false x 9) = some (SB.rows true 9 [Col.str (partC 9 s)] false x 9) ∧
 (partC 9 s 8).length < (1152921504606846976 : Nat) ∧
 ∃ (_y : Unit), True ∧
 (0 : Nat) = (0 : Nat) ∧
 SBle Q1 Q2 ∧
 SBle (SB.rows true 9 [Col.str (partC 9 s)] false x 9) (SB.rows true 9 [Col.str (partC 9 s)] false x 9) ∧
 SBle Q0 Q0 ∧
 True) ∧
 some (SB.rows true 9 [Col.str (partC 9 s)] false x 9) = some (SB.rows true 9 [Col.str (partC 9 s)] false x 9) ∧
 some (SB.rows true 9 [Col.str (partC 9 s)] false x 9) = some (SB.rows true 9 [Col.str (partC 9 s)] false x 9) ∧
 some (SB.rows true 9 [Col.str (partC 9 s)] false x 9) = some (SB.rows true 9 [Col.str (partC 9 s)] false x 9) ∧
 some (SB.rows true 9 [Col.str (partC 9 s)] false x 9) = some (SB.rows true 9 [Col.str (partC 9 s)] false x 9) ∧
 some (SB.rows true 9 [Col.str (partC 9 s)] false x 9) = some (SB.rows true 9 [Col.str (partC 9 s)] false x 9) ∧
 some (SB.rows true 9 [Col.str (partC 9 s)] false x 9) = some (SB.rows true 9 [Col.str (partC 9 s)] false x 9) ∧
 some (SB.rows true 9 [Col.str (partC 9 s)] false x 9) = some (SB.rows true 9 [Col.str (partC 9 s)] false x 9) ∧
 (partC 9 s 7).length < (1152921504606846976 : Nat) ∧
 some (SB.rows true 9 [Col.str (partC 9 s)] false x 9) = some (SB.rows true 9 [Col.str (partC 9 s)] false x 9) ∧
 (partC 9 s 8).length < (1152921504606846976 : Nat) ∧
 ∃ (_y : Unit), True ∧
 (0 : Nat) = (0 : Nat) ∧
 SBle Q1 Q2 ∧
 SBle (SB.rows true 9 [Col.str (partC 9 s)] false x 9) (SB.rows true 9 [Col.str (partC 9 s)] false x 9) ∧
 SBle Q0 Q0 ∧
 True) ∧
 some (SB.rows true 9 [Col.str (partC 9 s)] false x 9) = some (SB.rows true 9 [Col.str (partC 9 s)] false x 9) ∧
 some (SB.rows true 9 [Col.str (partC 9 s)] false x 9) = some (SB.rows true 9 [Col.str (partC 9 s)] false x 9) ∧
 some (SB.rows true 9 [Col.str (partC 9 s)] false x 9) = some (SB.rows true 9 [Col.str (partC 9 s)] false x 9) ∧
 some (SB.rows true 9 [Col.str (partC 9 s)] false x 9) = some (SB.rows true 9 [Col.str (partC 9 s)] false x 9) ∧
 some (SB.rows true 9 [Col.str (partC 9 s)] false x 9) = some (SB.rows true 9 [Col.str (partC 9 s)] false x 9) ∧
 some (SB.rows true 9 [Col.str (partC 9 s)] false x 9) = some (SB.rows true 9 [Col.str (partC 9 s)] false x 9) ∧
 some (SB.rows true 9 [Col.str (partC 9 s)] false x 9) = some (SB.rows true 9 [Col.str (partC 9 s)] false x 9) ∧
 (partC 9 s 5).length < (1152921504606846976 : Nat) ∧
 some (SB.rows true 9 [Col.str (partC 9 s)] false x 9) = some (SB.rows true 9 [Col.str (partC 9 s)] false x 9) ∧
 some (SB.rows true 9 [Col.str (partC 9 s)] false x 9) = some (SB.rows true 9 [Col.str (partC 9 s)] false x 9) ∧
 (partC 9 s 7).length < (1152921504606846976 : Nat) ∧
 some (SB.rows true 9 [Col.str (partC 9 s)] false x 9) = some (SB.rows true 9 [Col.str (partC 9 s)] false x 9) ∧
 (partC 9 s 8).length < (1152921504606846976 : Nat) ∧
 ∃ (_y : Unit), True ∧
 (0 : Nat) = (0 : Nat) ∧
 SBle Q1 Q2 ∧
 SBle (SB.rows true 9 [Col.str (partC 9 s)] false x 9) (SB.rows true 9 [Col.str (partC 9 s)] false x 9) ∧
 SBle Q0 Q0 ∧
 True) ∧
 some (SB.rows true 9 [Col.str (partC 9 s)] false x 9) = some (SB.rows true 9 [Col.str (partC 9 s)] false x 9) ∧
 some (SB.rows true 9 [Col.str (partC 9 s)] false x 9) = some (SB.rows true 9 [Col.str (partC 9 s)] false x 9) ∧
 some (SB.rows true 9 [Col.str (partC 9 s)] false x 9) = some (SB.rows true 9 [Col.str (partC 9 s)] false x 9) ∧
 some (SB.rows true 9 [Col.str (partC 9 s)] false x 9) = some (SB.rows true 9 [Col.str (partC 9 s)] false x 9) ∧
 some (SB.rows true 9 [Col.str (partC 9 s)] false x 9) = some (SB.rows true 9 [Col.str (partC 9 s)] false x 9) ∧
 some (SB.rows true 9 [Col.str (partC 9 s)] false x 9) = some (SB.rows true 9 [Col.str (partC 9 s)] false x 9) ∧
 some (SB.rows true 9 [Col.str (partC 9 s)] false x 9) = some (SB.rows true 9 [Col.str (partC 9 s)] false x 9) ∧
 (partC 9 s 4).length < (1152921504606846976 : Nat) ∧
 some (SB.rows true 9 [Col.str (partC 9 s)] false x 9) = some (SB.rows true 9 [Col.str (partC 9 s)] false x 9) ∧
 some (SB.rows true 9 [Col.str (partC 9 s)] false x 9) = some (SB.rows true 9 [Col.str (partC 9 s)] false x 9) ∧
 some (SB.rows true 9 [Col.str (partC 9 s)] false x 9) = some (SB.rows true 9 [Col.str (partC 9 s)] false x 9) ∧
 (partC 9 s 5).length < (1152921504606846976 : Nat) ∧
 some (SB.rows true 9 [Col.str (partC 9 s)] false x 9) = some (SB.rows true 9 [Col.str (partC 9 s)] false x 9) ∧
 some (SB.rows true 9 [Col.str (partC 9 s)] false x 9) = some (SB.rows true 9 [Col.str (partC 9 s)] false x 9) ∧
 (partC 9 s 7).length < (1152921504606846976 : Nat) ∧
 some (SB.rows true 9 [Col.str (partC 9 s)] false x 9) = some (SB.rows true 9 [Col.str (partC 9 s)] false x 9) ∧
 (partC 9 s 8).length < (1152921504606846976 : Nat) ∧
 ∃ (_y : Unit), True ∧
 (0 : Nat) = (0 : Nat) ∧
 SBle Q1 Q2 ∧
 SBle (SB.rows true 9 [Col.str (partC 9 s)] false x 9) (SB.rows true 9 [Col.str (partC 9 s)] false x 9) ∧
 SBle Q0 Q0 ∧
 True) ∧
 some (SB.rows true 9 [Col.str (partC 9 s)] false x 9) = some (SB.rows true 9 [Col.str (partC 9 s)] false x 9) ∧
 some (SB.rows true 9 [Col.str (partC 9 s)] false x 9) = some (SB.rows true 9 [Col.str (partC 9 s)] false x 9) ∧
 some (SB.rows true 9 [Col.str (partC 9 s)] false x 9) = some (SB.rows true 9 [Col.str (partC 9 s)] false x 9) ∧
 some (SB.rows true 9 [Col.str (partC 9 s)] false x 9) = some (SB.rows true 9 [Col.str (partC 9 s)] false x 9) ∧
 some (SB.rows true 9 [Col.str (partC 9 s)] false x 9) = some (SB.rows true 9 [Col.str (partC 9 s)] false x 9) ∧
 some (SB.rows true 9 [Col.str (partC 9 s)] false x 9) = some (SB.rows true 9 [Col.str (partC 9 s)] false x 9) ∧
 some (SB.rows true 9 [Col.str (partC 9 s)] false x 9) = some (SB.rows true 9 [Col.str (partC 9 s)] false x 9) ∧
 (partC 9 s 3).length < (1152921504606846976 : Nat) ∧
 some (SB.rows true 9 [Col.str (partC 9 s)] false x 9) = some (SB.rows true 9 [Col.str (partC 9 s)] false x 9) ∧
 some (SB.rows true 9 [Col.str (partC 9 s)] false x 9) = some (SB.rows true 9 [Col.str (partC 9 s)] false x 9) ∧
 some (SB.rows true 9 [Col.str (partC 9 s)] false x 9) = some (SB.rows true 9 [Col.str (partC 9 s)] false x 9) ∧
 some (SB.rows true 9 [Col.str (partC 9 s)] false x 9) = some (SB.rows true 9 [Col.str (partC 9 s)] false x 9) ∧
 (partC 9 s 4).length < (1152921504606846976 : Nat) ∧
 some (SB.rows true 9 [Col.str (partC 9 s)] false x 9) = some (SB.rows true 9 [Col.str (partC 9 s)] false x 9) ∧
 some (SB.rows true 9 [Col.str (partC 9 s)] false x 9) = some (SB.rows true 9 [Col.str (partC 9 s)] false x 9) ∧
 some (SB.rows true 9 [Col.str (partC 9 s)] false x 9) = some (SB.rows true 9 [Col.str (partC 9 s)] false x 9) ∧
 (partC 9 s 5).length < (1152921504606846976 : Nat) ∧
 some (SB.rows true 9 [Col.str (partC 9 s)] false x 9) = some (SB.rows true 9 [Col.str (partC 9 s)] false x 9) ∧
 some (SB.rows true 9 [Col.str (partC 9 s)] false x 9) = some (SB.rows true 9 [Col.str (partC 9 s)] false x 9) ∧
 (partC 9 s 7).length < (1152921504606846976 : Nat) ∧
 some (SB.rows true 9 [Col.str (partC 9 s)] false x 9) = some (SB.rows true 9 [Col.str (partC 9 s)] false x 9) ∧
 (partC 9 s 8).length < (1152921504606846976 : Nat) ∧
 ∃ (_y : Unit), True ∧
 (0 : Nat) = (0 : Nat) ∧
 SBle Q1 Q2 ∧
 SBle (SB.rows true 9 [Col.str (partC 9 s)] false x 9) (SB.rows true 9 [Col.str (partC 9 s)] false x 9) ∧
 SBle Q0 Q0 ∧
 True) ∧
 some (SB.rows true 9 [Col.str (partC 9 s)] false x 9) = some (SB.rows true 9 [Col.str (partC 9 s)] false x 9) ∧
 some (SB.rows true 9 [Col.str (partC 9 s)] false x 9) = some (SB.rows true 9 [Col.str (partC 9 s)] false x 9) ∧
 some (SB.rows true 9 [Col.str (partC 9 s)] false x 9) = some (SB.rows true 9 [Col.str (partC 9 s)] false x 9) ∧
 some (SB.rows true 9 [Col.str (partC 9 s)] false x 9) = some (SB.rows true 9 [Col.str (partC 9 s)] false x 9) ∧
 some (SB.rows true 9 [Col.str (partC 9 s)] false x 9) = some (SB.rows true 9 [Col.str (partC 9 s)] false x 9) ∧
 some (SB.rows true 9 [Col.str (partC 9 s)] false x 9) = some (SB.rows true 9 [Col.str (partC 9 s)] false x 9) ∧
 some (SB.rows true 9 [Col.str (partC 9 s)] false x 9) = some (SB.rows true 9 [Col.str (partC 9 s)] false x 9) ∧
 (partC 9 s 2).length < (1152921504606846976 : Nat) ∧
 some (SB.rows true 9 [Col.str (partC 9 s)] false x 9) = some (SB.rows true 9 [Col.str (partC 9 s)] false x 9) ∧
 some (SB.rows true 9 [Col.str (partC 9 s)] false x 9) = some (SB.rows true 9 [Col.str (partC 9 s)] false x 9) ∧
 some (SB.rows true 9 [Col.str (partC 9 s)] false x 9) = some (SB.rows true 9 [Col.str (partC 9 s)] false x 9) ∧
 some (SB.rows true 9 [Col.str (partC 9 s)] false x 9) = some (SB.rows true 9 [Col.str (partC 9 s)] false x 9) ∧
 some (SB.rows true 9 [Col.str (partC 9 s)] false x 9) = some (SB.rows true 9 [Col.str (partC 9 s)] false x 9) ∧
 (partC 9 s 3).length < (1152921504606846976 : Nat) ∧
 some (SB.rows true 9 [Col.str (partC 9 s)] false x 9) = some (SB.rows true 9 [Col.str (partC 9 s)] false x 9) ∧
 some (SB.rows true 9 [Col.str (partC 9 s)] false x 9) = some (SB.rows true 9 [Col.str (partC 9 s)] false x 9) ∧
 some (SB.rows true 9 [Col.str (partC 9 s)] false x 9) = some (SB.rows true 9 [Col.str (partC 9 s)] false x 9) ∧
 some (SB.rows true 9 [Col.str (partC 9 s)] false x 9) = some (SB.rows true 9 [Col.str (partC 9 s)] false x 9) ∧
 (partC 9 s 4).length < (1152921504606846976 : Nat) ∧
 some (SB.rows true 9 [Col.str (partC 9 s)] false x 9) = some (SB.rows true 9 [Col.str (partC 9 s)] false x 9) ∧
 some (SB.rows true 9 [Col.str (partC 9 s)] false x 9) = some (SB.rows true 9 [Col.str (partC 9 s)] false x 9) ∧
 some (SB.rows true 9 [Col.str (partC 9 s)] false x 9) = some (SB.rows true 9 [Col.str (partC 9 s)] false x 9) ∧
 (partC 9 s 5).length < (1152921504606846976 : Nat) ∧
 some (SB.rows true 9 [Col.str (partC 9 s)] false x 9) = some (SB.rows true 9 [Col.str (partC 9 s)] false x 9) ∧
 some (SB.rows true 9 [Col.str (partC 9 s)] false x 9) = some (SB.rows true 9 [Col.str (partC 9 s)] false x 9) ∧
 (partC 9 s 7).length < (1152921504606846976 : Nat) ∧
 some (SB.rows true 9 [Col.str (partC 9 s)] false x 9) = some (SB.rows true 9 [Col.str (partC 9 s)] false x 9) ∧
 (partC 9 s 8).length < (1152921504606846976 : Nat) ∧
 ∃ (_y : Unit), True ∧
 (0 : Nat) = (0 : Nat) ∧
 SBle Q1 Q2 ∧
 SBle (SB.rows true 9 [Col.str (partC 9 s)] false x 9) (SB.rows true 9 [Col.str (partC 9 s)] false x 9) ∧
 SBle Q0 Q0 ∧
 True) ∧
 some (SB.rows true 9 [Col.str (partC 9 s)] false x 9) = some (SB.rows true 9 [Col.str (partC 9 s)] false x 9) ∧
 some (SB.rows true 9 [Col.str (partC 9 s)] false x 9) = some (SB.rows true 9 [Col.str (partC 9 s)] false x 9) ∧
 some (SB.rows true 9 [Col.str (partC 9 s)] false x 9) = some (SB.rows true 9 [Col.str (partC 9 s)] false x 9) ∧
 some (SB.rows true 9 [Col.str (partC 9 s)] false x 9) = some (SB.rows true 9 [Col.str (partC 9 s)] false x 9) ∧
 some (SB.rows true 9 [Col.str (partC 9 s)] false x 9) = some (SB.rows true 9 [Col.str (partC 9 s)] false x 9) ∧
 some (SB.rows true 9 [Col.str (partC 9 s)] false x 9) = some (SB.rows true 9 [Col.str (partC 9 s)] false x 9) ∧
 some (SB.rows true 9 [Col.str (partC 9 s)] false x 9) = some (SB.rows true 9 [Col.str (partC 9 s)] false x 9) ∧
 (partC 9 s 1).length < (1152921504606846976 : Nat) ∧
 some (SB.rows true 9 [Col.str (partC 9 s)] false x 9) = some (SB.rows true 9 [Col.str (partC 9 s)] false x 9) ∧
 some (SB.rows true 9 [Col.str (partC 9 s)] false x 9) = some (SB.rows true 9 [Col.str (partC 9 s)] false x 9) ∧
 some (SB.rows true 9 [Col.str (partC 9 s)] false x 9) = some (SB.rows true 9 [Col.str (partC 9 s)] false x 9) ∧
 some (SB.rows true 9 [Col.str (partC 9 s)] false x 9) = some (SB.rows true 9 [Col.str (partC 9 s)] false x 9) ∧
 some (SB.rows true 9 [Col.str (partC 9 s)] false x 9) = some (SB.rows true 9 [Col.str (partC 9 s)] false x 9) ∧
 some (SB.rows true 9 [Col.str (partC 9 s)] false x 9) = some (SB.rows true 9 [Col.str (partC 9 s)] false x 9) ∧
 (partC 9 s 2).length < (1152921504606846976 : Nat) ∧
 some (SB.rows true 9 [Col.str (partC 9 s)] false x 9) = some (SB.rows true 9 [Col.str (partC 9 s)] false x 9) ∧
 some (SB.rows true 9 [Col.str (partC 9 s)] false x 9) = some (SB.rows true 9 [Col.str (partC 9 s)] false x 9) ∧
 some (SB.rows true 9 [Col.str (partC 9 s)] false x 9) = some (SB.rows true 9 [Col.str (partC 9 s)] false x 9) ∧
 some (SB.rows true 9 [Col.str (partC 9 s)] false x 9) = some (SB.rows true 9 [Col.str (partC 9 s)] false x 9) ∧
 some (SB.rows true 9 [Col.str (partC 9 s)] false x 9) = some (SB.rows true 9 [Col.str (partC 9 s)] false x 9) ∧
 (partC 9 s 3).length < (1152921504606846976 : Nat) ∧
 some (SB.rows true 9 [Col.str (partC 9 s)] false x 9) = some (SB.rows true 9 [Col.str (partC 9 s)] false x 9) ∧
 some (SB.rows true 9 [Col.str (partC 9 s)] false x 9) = some (SB.rows true 9 [Col.str (partC 9 s)] false x 9) ∧
 some (SB.rows true 9 [Col.str (partC 9 s)] false x 9) = some (SB.rows true 9 [Col.str (partC 9 s)] false x 9) ∧
 some (SB.rows true 9 [Col.str (partC 9 s)] false x 9) = some (SB.rows true 9 [Col.str (partC 9 s)] false x 9) ∧
 (partC 9 s 4).length < (1152921504606846976 : Nat) ∧
 some (SB.rows true 9 [Col.str (partC 9 s)] false x 9) = some (SB.rows true 9 [Col.str (partC 9 s)] false x 9) ∧
 some (SB.rows true 9 [Col.str (partC 9 s)] false x 9) = some (SB.rows true 9 [Col.str (partC 9 s)] false x 9) ∧
 some (SB.rows true 9 [Col.str (partC 9 s)] false x 9) = some (SB.rows true 9 [Col.str (partC 9 s)] false x 9) ∧
 (partC 9 s 5).length < (1152921504606846976 : Nat) ∧
 some (SB.rows true 9 [Col.str (partC 9 s)] false x 9) = some (SB.rows true 9 [Col.str (partC 9 s)] false x 9) ∧
 some (SB.rows true 9 [Col.str (partC 9 s)] false x 9) = some (SB.rows true 9 [Col.str (partC 9 s)] false x 9) ∧
 (partC 9 s 7).length < (1152921504606846976 : Nat) ∧
 some (SB.rows true 9 [Col.str (partC 9 s)] false x 9) = some (SB.rows true 9 [Col.str (partC 9 s)] false x 9) ∧
 (partC 9 s 8).length < (1152921504606846976 : Nat) ∧
 ∃ (_y : Unit), True ∧
 (0 : Nat) = (0 : Nat) ∧
 SBle Q1 Q2 ∧
 SBle (SB.rows true 9 [Col.str (partC 9 s)] false x 9) (SB.rows true 9 [Col.str (partC 9 s)] false x 9) ∧
 SBle Q0 Q0 ∧
 True) ∧
 ∀ (_x_2 : Unit), True →
 (((0 : Int) ≤ (6 : Int) ∧
 (6 : Int) < (9 : Int)) ∧
 (6 : Nat) < (9 : Nat) ∧
 (partC 9 s 6).length < (1152921504606846976 : Nat) ∧
 (txtC (partC 9 s 6)).length < (1099511627776 : Nat) ∧
 (itemsB (txtC (partC 9 s 6)) = true →
 ∀ (x_5 : Nat), itemsN (txtC (partC 9 s 6)) ≤ x_5 →
 ∃ (y : Nat), rowsX (txtC (partC 9 s 6)) ≤ y ∧
 ((0 : Nat) = (0 : Nat) ∧
 itemsN (txtC (partC 9 s 6)) = rowsX (txtC (partC 9 s 6)) ∧
 x_5 = y) ∧
 True ∧
 SBle (SB.rows true (itemsN (txtC (partC 9 s 6))) [Col.str (itemAt (txtC (partC 9 s 6)))] false x_5 9) (SB.rows true (rowsX (txtC (partC 9 s 6))) [Col.str (itemAt (txtC (partC 9 s 6)))] false y 9) ∧
 SBle (SB.cells (headR (replyC s)) 8 27) (SB.cells (headR (replyC s)) 8 27) ∧
 SBle (SB.rows true 9 [Col.str (partC 9 s)] false x 9) (SB.rows true 9 [Col.str (partC 9 s)] false x 9) ∧
 SBle Q0 Q0 ∧
 True) ∧
 (itemsB (txtC (partC 9 s 6)) = false →
 ∃ (y : Nat), rowsX (txtC (partC 9 s 6)) ≤ y ∧
 rowsX (txtC (partC 9 s 6)) = (0 : Nat) ∧
 (SB.rows true (rowsX (txtC (partC 9 s 6))) [Col.str (itemAt (txtC (partC 9 s 6)))] false y 9).no = true ∧
 SBle (SB.cells (headR (replyC s)) 8 27) (SB.cells (headR (replyC s)) 8 27) ∧
 SBle (SB.rows true 9 [Col.str (partC 9 s)] false x 9) (SB.rows true 9 [Col.str (partC 9 s)] false x 9) ∧
 SBle Q0 Q0 ∧
 True)) ∧
 ∀ (x_4 : Nat), rowsX (txtC (partC 9 s 6)) ≤ x_4 →
 (∃ (y : Nat × Nat), Grow (rowsX (txtC (partC 9 s 6))) y ∧
 (0 : Int) = (↑y.fst : Int) ∧
 (8 : Nat) = (8 : Nat) ∧
 numC (partC 9 s 1) = numC (partC 9 s 1) ∧
 numC (partC 9 s 2) = numC (partC 9 s 2) ∧
 numC (partC 9 s 3) = numC (partC 9 s 3) ∧
 numC (partC 9 s 4) = numC (partC 9 s 4) ∧
 txtC (partC 9 s 5) = txtC (partC 9 s 5) ∧
 y.fst = (0 : Nat) ∧
 txtC (partC 9 s 7) = txtC (partC 9 s 7) ∧
 decide (numC (partC 9 s 8) = (1 : Int)) = decide (numC (partC 9 s 8) = (1 : Int)) ∧
 (SB.rows true y.fst (colsE (fun (i : Nat) => txtC (partC 2 (itemAt (txtC (partC 9 s 6)) i) 0)) fun (i : Nat) => txtC (partC 2 (itemAt (txtC (partC 9 s 6)) i) 1)) false (y.snd * (2 : Nat)) 52).no = true ∧
 SBle (SB.rows true (rowsX (txtC (partC 9 s 6))) [Col.str (itemAt (txtC (partC 9 s 6)))] false x_4 9) (SB.rows true (rowsX (txtC (partC 9 s 6))) [Col.str (itemAt (txtC (partC 9 s 6)))] false x_4 9) ∧
 SBle (SB.rows true 9 [Col.str (partC 9 s)] false x 9) (SB.rows true 9 [Col.str (partC 9 s)] false x 9) ∧
 SBle Q0 Q0 ∧
 True) ∧
 ∀ (x_6 : Nat × Nat), Grow (rowsX (txtC (partC 9 s 6))) x_6 →
 (decide ((↑x_6.fst : Int) < (↑(rowsX (txtC (partC 9 s 6))) : Int)) = true →
 ((0 : Int) ≤ (↑x_6.fst : Int) ∧
 (↑x_6.fst : Int) < (↑(rowsX (txtC (partC 9 s 6))) : Int)) ∧
 (0 : Nat) + (↑x_6.fst : Int).toNat < rowsX (txtC (partC 9 s 6)) ∧
 ((itemAt (txtC (partC 9 s 6)) ((0 : Nat) + (↑x_6.fst : Int).toNat)).length < (1099511627776 : Nat) ∧
 (1 : Int) ≤ (2 : Int) ∧
 (2 : Int) < (100 : Int)) ∧
 ∀ (x_9 : Nat), (2 : Nat) ≤ x_9 →
 ((0 : Int) ≤ (0 : Int) ∧
 (0 : Int) < (2 : Int)) ∧
 (0 : Nat) < (2 : Nat) ∧
 ((0 : Int) ≤ (1 : Int) ∧
 (1 : Int) < (2 : Int)) ∧
 (1 : Nat) < (2 : Nat) ∧
 (partC 2 (itemAt (txtC (partC 9 s 6)) ((0 : Nat) + (↑x_6.fst : Int).toNat)) 0).length < (1152921504606846976 : Nat) ∧
 some (SB.rows true 2 [Col.str (partC 2 (itemAt (txtC (partC 9 s 6)) ((0 : Nat) + (↑x_6.fst : Int).toNat)))] false x_9 9) = some (SB.rows true 2 [Col.str (partC 2 (itemAt (txtC (partC 9 s 6)) ((0 : Nat) + (↑x_6.fst : Int).toNat)))] false x_9 9) ∧
 some (SB.cells (headRv (replyC s) (SV.rslc ((0 : Nat) + (1 : Nat) + (1 : Nat) + (1 : Nat) + (1 : Nat)) 2 true 0 x_6.fst x_6.snd)) 8 27) = some (SB.cells (headRv (replyC s) (SV.rslc ((0 : Nat) + (1 : Nat) + (1 : Nat) + (1 : Nat) + (1 : Nat)) 2 true 0 x_6.fst x_6.snd)) 8 27) ∧
 (partC 2 (itemAt (txtC (partC 9 s 6)) ((0 : Nat) + (↑x_6.fst : Int).toNat)) 1).length < (1152921504606846976 : Nat) ∧
 some (SB.cells (headRv (replyC s) (SV.rslc ((0 : Nat) + (1 : Nat) + (1 : Nat) + (1 : Nat) + (1 : Nat)) 2 true 0 x_6.fst x_6.snd)) 8 27) = some (SB.cells (headRv (replyC s) (SV.rslc ((0 : Nat) + (1 : Nat) + (1 : Nat) + (1 : Nat) + (1 : Nat)) 2 true 0 x_6.fst x_6.snd)) 8 27) ∧
 some (SB.cells (headRv (replyC s) (SV.rslc ((0 : Nat) + (1 : Nat) + (1 : Nat) + (1 : Nat) + (1 : Nat)) 2 true 0 x_6.fst x_6.snd)) 8 27) = some (SB.cells (headRv (replyC s) (SV.rslc ((0 : Nat) + (1 : Nat) + (1 : Nat) + (1 : Nat) + (1 : Nat)) 2 true 0 x_6.fst x_6.snd)) 8 27) ∧
 ((0 : Nat) + x_6.fst ≤ x_6.fst ∧
 True ∧
 (2 : Nat) * (x_6.fst + (1 : Nat)) * (32 : Nat) ≤ (281474976710656 : Nat) ∧
 x_6.fst + (1 : Nat) < (9223372036854775808 : Nat)) ∧
 x_6.snd * (2 : Nat) = x_6.snd * (2 : Nat) ∧
 ∀ (c : Nat), x_6.fst + (1 : Nat) ≤ c →
 ((-9223372036854775808 : Int) ≤ (↑x_6.fst : Int) + (1 : Int) ∧
 (↑x_6.fst : Int) + (1 : Int) ≤ (9223372036854775807 : Int)) ∧
 ∃ (y : Nat × Nat), (Grow (rowsX (txtC (partC 9 s 6))) y ∧
 rowsX (txtC (partC 9 s 6)) - y.fst < rowsX (txtC (partC 9 s 6)) - x_6.fst) ∧
 (↑x_6.fst : Int) + (1 : Int) = (↑y.fst : Int) ∧
 (8 : Nat) = (8 : Nat) ∧
 numC (partC 9 s 1) = numC (partC 9 s 1) ∧
 numC (partC 9 s 2) = numC (partC 9 s 2) ∧
 numC (partC 9 s 3) = numC (partC 9 s 3) ∧
 numC (partC 9 s 4) = numC (partC 9 s 4) ∧
 txtC (partC 9 s 5) = txtC (partC 9 s 5) ∧
 ((0 : Nat) = (0 : Nat) ∧
 x_6.fst + (1 : Nat) = y.fst ∧
 c = y.snd) ∧
 True ∧
 txtC (partC 9 s 7) = txtC (partC 9 s 7) ∧
 decide (numC (partC 9 s 8) = (1 : Int)) = decide (numC (partC 9 s 8) = (1 : Int)) ∧
 SBle (SB.rows true (x_6.fst + (1 : Nat)) [Col.str fun (j : Nat) => if j < x_6.fst then txtC (partC 2 (itemAt (txtC (partC 9 s 6)) j) 0) else selS [txtC (partC 2 (itemAt (txtC (partC 9 s 6)) ((0 : Nat) + (↑x_6.fst : Int).toNat)) 0)] (j - x_6.fst), Col.str fun (j : Nat) => if j < x_6.fst then txtC (partC 2 (itemAt (txtC (partC 9 s 6)) j) 1) else selS [txtC (partC 2 (itemAt (txtC (partC 9 s 6)) ((0 : Nat) + (↑x_6.fst : Int).toNat)) 1)] (j - x_6.fst)] false (c * (2 : Nat)) 52) (SB.rows true y.fst (colsE (fun (i : Nat) => txtC (partC 2 (itemAt (txtC (partC 9 s 6)) i) 0)) fun (i : Nat) => txtC (partC 2 (itemAt (txtC (partC 9 s 6)) i) 1)) false (y.snd * (2 : Nat)) 52) ∧
 SBle (SB.rows true (rowsX (txtC (partC 9 s 6))) [Col.str (itemAt (txtC (partC 9 s 6)))] false x_4 9) (SB.rows true (rowsX (txtC (partC 9 s 6))) [Col.str (itemAt (txtC (partC 9 s 6)))] false x_4 9) ∧
 SBle (SB.rows true 9 [Col.str (partC 9 s)] false x 9) (SB.rows true 9 [Col.str (partC 9 s)] false x 9) ∧
 SBle Q0 Q0 ∧
 True) ∧
 (decide ((↑x_6.fst : Int) < (↑(rowsX (txtC (partC 9 s 6))) : Int)) = false →
 (((True ∧
 True ∧
 True ∧
 True ∧
 True ∧
 (true = true ∧
 (0 : Nat) + x_6.fst ≤ x_6.fst) ∧
 True ∧
 True ∧
 True) ∧
 True) ∧
 x_6.fst < (9223372036854775808 : Nat)) ∧
 ({ s := numC (partC 9 s 1), q := numC (partC 9 s 2), e := numC (partC 9 s 3), v := numC (partC 9 s 4), root := txtC (partC 9 s 5), n := x_6.fst, f := fun (i : Nat) => txtC (partC 2 (itemAt (txtC (partC 9 s 6)) i) 0), g := fun (i : Nat) => txtC (partC 2 (itemAt (txtC (partC 9 s 6)) i) 1), proof := txtC (partC 9 s 7), more := decide (numC (partC 9 s 8) = (1 : Int)) : Rp }.ok = true →
 ((!decide ({ s := numC (partC 9 s 1), q := numC (partC 9 s 2), e := numC (partC 9 s 3), v := numC (partC 9 s 4), root := txtC (partC 9 s 5), n := x_6.fst, f := fun (i : Nat) => txtC (partC 2 (itemAt (txtC (partC 9 s 6)) i) 0), g := fun (i : Nat) => txtC (partC 2 (itemAt (txtC (partC 9 s 6)) i) 1), proof := txtC (partC 9 s 7), more := decide (numC (partC 9 s 8) = (1 : Int)) : Rp }.put = s)) = true →
 (getReplyB s = true →
 ∃ (x : Nat), itemsN (cutIn (itOf s 6)) ≤ x ∧
 False) ∧
 (getReplyB s = false →
 sameVal (SV.tup [SV.agg [SV.int .i64 true 0, SV.int .i64 true 0, SV.int .i64 true 0, SV.int .i64 true 0, SV.str true [], SV.nilslc, SV.str true [], SV.bool true false], SV.int .i64 true 2]) (SV.tup [noReply, SV.int .i64 true 2]))) ∧
 ((!decide ({ s := numC (partC 9 s 1), q := numC (partC 9 s 2), e := numC (partC 9 s 3), v := numC (partC 9 s 4), root := txtC (partC 9 s 5), n := x_6.fst, f := fun (i : Nat) => txtC (partC 2 (itemAt (txtC (partC 9 s 6)) i) 0), g := fun (i : Nat) => txtC (partC 2 (itemAt (txtC (partC 9 s 6)) i) 1), proof := txtC (partC 9 s 7), more := decide (numC (partC 9 s 8) = (1 : Int)) : Rp }.put = s)) = false →
 (getReplyB s = true →
 ∃ (x : Nat), itemsN (cutIn (itOf s 6)) ≤ x ∧
 SBle (SB.rows true x_6.fst (colsE (fun (i : Nat) => txtC (partC 2 (itemAt (txtC (partC 9 s 6)) i) 0)) fun (i : Nat) => txtC (partC 2 (itemAt (txtC (partC 9 s 6)) i) 1)) false (x_6.snd * (2 : Nat)) 52) (SB.rows true (itemsN (cutIn (itOf s 6))) (colsE (fun (i : Nat) => cutIn (subOf (itOf s 6) i 0)) fun (i : Nat) => cutIn (subOf (itOf s 6) i 1)) false (x * (2 : Nat)) 52) ∧
 sameVal (SV.tup [SV.agg [SV.int .i64 false (numC (partC 9 s 1)), SV.int .i64 false (numC (partC 9 s 2)), SV.int .i64 false (numC (partC 9 s 3)), SV.int .i64 false (numC (partC 9 s 4)), SV.str false (txtC (partC 9 s 5)), SV.rslc ((0 : Nat) + (1 : Nat) + (1 : Nat) + (1 : Nat) + (1 : Nat)) 2 true 0 x_6.fst x_6.snd, SV.str false (txtC (partC 9 s 7)), SV.bool false (decide (numC (partC 9 s 8) = (1 : Int)))], SV.int .i64 true 0]) (SV.tup [(replyD s).sv (SV.rslc ((0 : Nat) + (1 : Nat) + (1 : Nat) + (1 : Nat) + (1 : Nat)) 2 true 0 (itemsN (cutIn (itOf s 6))) x), SV.int .i64 true 0])) ∧
 (getReplyB s = false →
 sameVal (SV.tup [SV.agg [SV.int .i64 false (numC (partC 9 s 1)), SV.int .i64 false (numC (partC 9 s 2)), SV.int .i64 false (numC (partC 9 s 3)), SV.int .i64 false (numC (partC 9 s 4)), SV.str false (txtC (partC 9 s 5)), SV.rslc ((0 : Nat) + (1 : Nat) + (1 : Nat) + (1 : Nat) + (1 : Nat)) 2 true 0 x_6.fst x_6.snd, SV.str false (txtC (partC 9 s 7)), SV.bool false (decide (numC (partC 9 s 8) = (1 : Int)))], SV.int .i64 true 0]) (SV.tup [noReply, SV.int .i64 true 2])))) ∧
 ({ s := numC (partC 9 s 1), q := numC (partC 9 s 2), e := numC (partC 9 s 3), v := numC (partC 9 s 4), root := txtC (partC 9 s 5), n := x_6.fst, f := fun (i : Nat) => txtC (partC 2 (itemAt (txtC (partC 9 s 6)) i) 0), g := fun (i : Nat) => txtC (partC 2 (itemAt (txtC (partC 9 s 6)) i) 1), proof := txtC (partC 9 s 7), more := decide (numC (partC 9 s 8) = (1 : Int)) : Rp }.ok = false →
 (getReplyB s = true →
 ∃ (x : Nat), itemsN (cutIn (itOf s 6)) ≤ x ∧
 False) ∧
 (getReplyB s = false →
 sameVal (SV.tup [SV.agg [SV.int .i64 true 0, SV.int .i64 true 0, SV.int .i64 true 0, SV.int .i64 true 0, SV.str true [], SV.nilslc, SV.str true [], SV.bool true false], SV.int .i64 true 2]) (SV.tup [noReply, SV.int .i64 true 2])))))) (SB.cells [SV.int .i64 false (numC (partC 9 s 1)), SV.int .i64 false (numC (partC 9 s 2)), SV.int .i64 false (numC (partC 9 s 3)), SV.int .i64 false (numC (partC 9 s 4)), SV.str false (txtC (partC 9 s 5)), SV.nilslc, SV.str false (txtC (partC 9 s 7)), SV.bool false (decide (numC (partC 9 s 8) = (1 : Int)))] 8 27))) (SB.cells [SV.int .i64 false (numC (partC 9 s 1)), SV.int .i64 false (numC (partC 9 s 2)), SV.int .i64 false (numC (partC 9 s 3)), SV.int .i64 false (numC (partC 9 s 4)), SV.str false (txtC (partC 9 s 5)), SV.nilslc, SV.str false (txtC (partC 9 s 7)), SV.bool (false && true) (decide (numC (partC 9 s 8) = (1 : Int)))] 8 27))) (SB.cells (SV.agg [SV.int .i64 true 0, SV.int .i64 true 0, SV.int .i64 true 0, SV.int .i64 true 0, SV.str true [], SV.nilslc, SV.str true [], SV.bool true false]).cells 8 27)) := by kernel_rfl
theorem vcGN2 (s : List UInt8) : VC.holds (runA (cfgGN2 s) 24 Tryz.f24 [.str false s] (getNotice2A s)) = ((fun Q0 : SB => ((fun Q1 : SB => ((s.length < (1099511627776 : Nat) ∧
 (1 : Int) ≤ (6 : Int) ∧
 (6 : Int) < (100 : Int)) ∧
 ∀ (x : Nat), (6 : Nat) ≤ x →
 (((0 : Int) ≤ (1 : Int) ∧
 (1 : Int) < (6 : Int)) ∧
 (1 : Nat) < (6 : Nat) ∧
 ((0 : Int) ≤ (2 : Int) ∧
 (2 : Int) < (6 : Int)) ∧
 (2 : Nat) < (6 : Nat) ∧
 ((0 : Int) ≤ (3 : Int) ∧
 (3 : Int) < (6 : Int)) ∧
 (3 : Nat) < (6 : Nat) ∧
 ((0 : Int) ≤ (4 : Int) ∧
 (4 : Int) < (6 : Int)) ∧
 (4 : Nat) < (6 : Nat) ∧
 ((partC 6 s 1).length < (1152921504606846976 : Nat) ∧
 some (SB.rows true 6 [Col.str (partC 6 s)] false x 9) = some (SB.rows true 6 [Col.str (partC 6 s)] false x 9) ∧
 some (SB.rows true 6 [Col.str (partC 6 s)] false x 9) = some (SB.rows true 6 [Col.str (partC 6 s)] false x 9) ∧
 some (SB.rows true 6 [Col.str (partC 6 s)] false x 9) = some (SB.rows true 6 [Col.str (partC 6 s)] false x 9) ∧
 ((partC 6 s 2).length < (1152921504606846976 : Nat) ∧
 some (SB.rows true 6 [Col.str (partC 6 s)] false x 9) = some (SB.rows true 6 [Col.str (partC 6 s)] false x 9) ∧
 some (SB.rows true 6 [Col.str (partC 6 s)] false x 9) = some (SB.rows true 6 [Col.str (partC 6 s)] false x 9) ∧
 ((partC 6 s 3).length < (1152921504606846976 : Nat) ∧
 some (SB.rows true 6 [Col.str (partC 6 s)] false x 9) = some (SB.rows true 6 [Col.str (partC 6 s)] false x 9) ∧
 ((partC 6 s 4).length < (1152921504606846976 : Nat) ∧
 some (SB.rows true 6 [Col.str (partC 6 s)] false x 9) = some (SB.rows true 6 [Col.str (partC 6 s)] false x 9) ∧
 some (SB.rows true 6 [Col.str (partC 6 s)] false x 9) = some (SB.rows true 6 [Col.str (partC 6 s)] false x 9) ∧
 some (SB.rows true 6 [Col.str (partC 6 s)] false x 9) = some (SB.rows true 6 [Col.str (partC 6 s)] false x 9) ∧
 some (SB.rows true 6 [Col.str (partC 6 s)] false x 9) = some (SB.rows true 6 [Col.str (partC 6 s)] false x 9) ∧
 ∃ (_y : Unit), True ∧
 (0 : Nat) = (0 : Nat) ∧
 SBle Q1 Q1 ∧
 SBle (SB.rows true 6 [Col.str (partC 6 s)] false x 9) (SB.rows true 6 [Col.str (partC 6 s)] false x 9) ∧
 SBle Q0 Q0 ∧
 True) ∧
 some (SB.rows true 6 [Col.str (partC 6 s)] false x 9) = some (SB.rows true 6 [Col.str (partC 6 s)] false x 9) ∧
 some (SB.rows true 6 [Col.str (partC 6 s)] false x 9) = some (SB.rows true 6 [Col.str (partC 6 s)] false x 9) ∧
 some (SB.rows true 6 [Col.str (partC 6 s)] false x 9) = some (SB.rows true 6 [Col.str (partC 6 s)] false x 9) ∧
 some (SB.rows true 6 [Col.str (partC 6 s)] false x 9) = some (SB.rows true 6 [Col.str (partC 6 s)] false x 9) ∧
 (partC 6 s 4).length < (1152921504606846976 : Nat) ∧
 ∃ (_y : Unit), True ∧
 (0 : Nat) = (0 : Nat) ∧
 SBle Q1 Q1 ∧
 SBle (SB.rows true 6 [Col.str (partC 6 s)] false x 9) (SB.rows true 6 [Col.str (partC 6 s)] false x 9) ∧
 SBle Q0 Q0 ∧
 True) ∧
 some (SB.rows true 6 [Col.str (partC 6 s)] false x 9) = some (SB.rows true 6 [Col.str (partC 6 s)] false x 9) ∧
 some (SB.rows true 6 [Col.str (partC 6 s)] false x 9) = some (SB.rows true 6 [Col.str (partC 6 s)] false x 9) ∧
 some (SB.rows true 6 [Col.str (partC 6 s)] false x 9) = some (SB.rows true 6 [Col.str (partC 6 s)] false x 9) ∧
 some (SB.rows true 6 [Col.str (partC 6 s)] false x 9) = some (SB.rows true 6 [Col.str (partC 6 s)] false x 9) ∧
 (partC 6 s 3).length < (1152921504606846976 : Nat) ∧
 some (SB.rows true 6 [Col.str (partC 6 s)] false x 9) = some (SB.rows true 6 [Col.str (partC 6 s)] false x 9) ∧
 (partC 6 s 4).length < (1152921504606846976 : Nat) ∧
 ∃ (_y : Unit), True ∧
 (0 : Nat) = (0 : Nat) ∧
 SBle Q1 Q1 ∧
 SBle (SB.rows true 6 [Col.str (partC 6 s)] false x 9) (SB.rows true 6 [Col.str (partC 6 s)] false x 9) ∧
 SBle Q0 Q0 ∧
 True) ∧
 some (SB.rows true 6 [Col.str (partC 6 s)] false x 9) = some (SB.rows true 6 [Col.str (partC 6 s)] false x 9) ∧
 some (SB.rows true 6 [Col.str (partC 6 s)] false x 9) = some (SB.rows true 6 [Col.str (partC 6 s)] false x 9) ∧
 some (SB.rows true 6 [Col.str (partC 6 s)] false x 9) = some (SB.rows true 6 [Col.str (partC 6 s)] false x 9) ∧
 some (SB.rows true 6 [Col.str (partC 6 s)] false x 9) = some (SB.rows true 6 [Col.str (partC 6 s)] false x 9) ∧
 (partC 6 s 2).length < (1152921504606846976 : Nat) ∧
 some (SB.rows true 6 [Col.str (partC 6 s)] false x 9) = some (SB.rows true 6 [Col.str (partC 6 s)] false x 9) ∧
 some (SB.rows true 6 [Col.str (partC 6 s)] false x 9) = some (SB.rows true 6 [Col.str (partC 6 s)] false x 9) ∧
 (partC 6 s 3).length < (1152921504606846976 : Nat) ∧
 some (SB.rows true 6 [Col.str (partC 6 s)] false x 9) = some (SB.rows true 6 [Col.str (partC 6 s)] false x 9) ∧
 (partC 6 s 4).length < (1152921504606846976 : Nat) ∧
 ∃ (_y : Unit), True ∧
 (0 : Nat) = (0 : Nat) ∧
 SBle Q1 Q1 ∧
 SBle (SB.rows true 6 [Col.str (partC 6 s)] false x 9) (SB.rows true 6 [Col.str (partC 6 s)] false x 9) ∧
 SBle Q0 Q0 ∧
 True) ∧
 some (SB.rows true 6 [Col.str (partC 6 s)] false x 9) = some (SB.rows true 6 [Col.str (partC 6 s)] false x 9) ∧
 some (SB.rows true 6 [Col.str (partC 6 s)] false x 9) = some (SB.rows true 6 [Col.str (partC 6 s)] false x 9) ∧
 some (SB.rows true 6 [Col.str (partC 6 s)] false x 9) = some (SB.rows true 6 [Col.str (partC 6 s)] false x 9) ∧
 some (SB.rows true 6 [Col.str (partC 6 s)] false x 9) = some (SB.rows true 6 [Col.str (partC 6 s)] false x 9) ∧
 (partC 6 s 1).length < (1152921504606846976 : Nat) ∧
 some (SB.rows true 6 [Col.str (partC 6 s)] false x 9) = some (SB.rows true 6 [Col.str (partC 6 s)] false x 9) ∧
 some (SB.rows true 6 [Col.str (partC 6 s)] false x 9) = some (SB.rows true 6 [Col.str (partC 6 s)] false x 9) ∧
 some (SB.rows true 6 [Col.str (partC 6 s)] false x 9) = some (SB.rows true 6 [Col.str (partC 6 s)] false x 9) ∧
 (partC 6 s 2).length < (1152921504606846976 : Nat) ∧
 some (SB.rows true 6 [Col.str (partC 6 s)] false x 9) = some (SB.rows true 6 [Col.str (partC 6 s)] false x 9) ∧
 some (SB.rows true 6 [Col.str (partC 6 s)] false x 9) = some (SB.rows true 6 [Col.str (partC 6 s)] false x 9) ∧
 (partC 6 s 3).length < (1152921504606846976 : Nat) ∧
 some (SB.rows true 6 [Col.str (partC 6 s)] false x 9) = some (SB.rows true 6 [Col.str (partC 6 s)] false x 9) ∧
 (partC 6 s 4).length < (1152921504606846976 : Nat) ∧
 ∃ (_y : Unit), True ∧
 (0 : Nat) = (0 : Nat) ∧
 SBle Q1 Q1 ∧
 SBle (SB.rows true 6 [Col.str (partC 6 s)] false x 9) (SB.rows true 6 [Col.str (partC 6 s)] false x 9) ∧
 SBle Q0 Q0 ∧
 True) ∧
 ∀ (_x_2 : Unit), True →
 (((0 : Int) ≤ (5 : Int) ∧
 (5 : Int) < (6 : Int)) ∧
 (5 : Nat) < (6 : Nat) ∧
 (partC 6 s 5).length < (1152921504606846976 : Nat) ∧
 (txtC (partC 6 s 5)).length < (1099511627776 : Nat) ∧
 (itemsB (txtC (partC 6 s 5)) = true →
 ∀ (x_5 : Nat), itemsN (txtC (partC 6 s 5)) ≤ x_5 →
 ∃ (y : Nat), rowsX (txtC (partC 6 s 5)) ≤ y ∧
 ((0 : Nat) = (0 : Nat) ∧
 itemsN (txtC (partC 6 s 5)) = rowsX (txtC (partC 6 s 5)) ∧
 x_5 = y) ∧
 True ∧
 SBle (SB.rows true (itemsN (txtC (partC 6 s 5))) [Col.str (itemAt (txtC (partC 6 s 5)))] false x_5 9) (SB.rows true (rowsX (txtC (partC 6 s 5))) [Col.str (itemAt (txtC (partC 6 s 5)))] false y 9) ∧
 SBle (SB.cells (headN (noticeC s)) 5 30) (SB.cells (headN (noticeC s)) 5 30) ∧
 SBle (SB.rows true 6 [Col.str (partC 6 s)] false x 9) (SB.rows true 6 [Col.str (partC 6 s)] false x 9) ∧
 SBle Q0 Q0 ∧
 True) ∧
 (itemsB (txtC (partC 6 s 5)) = false →
 ∃ (y : Nat), rowsX (txtC (partC 6 s 5)) ≤ y ∧
 rowsX (txtC (partC 6 s 5)) = (0 : Nat) ∧
 (SB.rows true (rowsX (txtC (partC 6 s 5))) [Col.str (itemAt (txtC (partC 6 s 5)))] false y 9).no = true ∧
 SBle (SB.cells (headN (noticeC s)) 5 30) (SB.cells (headN (noticeC s)) 5 30) ∧
 SBle (SB.rows true 6 [Col.str (partC 6 s)] false x 9) (SB.rows true 6 [Col.str (partC 6 s)] false x 9) ∧
 SBle Q0 Q0 ∧
 True)) ∧
 ∀ (x_4 : Nat), rowsX (txtC (partC 6 s 5)) ≤ x_4 →
 (∃ (y : Nat × Nat), Grow (rowsX (txtC (partC 6 s 5))) y ∧
 (0 : Int) = (↑y.fst : Int) ∧
 (5 : Nat) = (5 : Nat) ∧
 numC (partC 6 s 1) = numC (partC 6 s 1) ∧
 numC (partC 6 s 2) = numC (partC 6 s 2) ∧
 numC (partC 6 s 3) = numC (partC 6 s 3) ∧
 txtC (partC 6 s 4) = txtC (partC 6 s 4) ∧
 y.fst = (0 : Nat) ∧
 (SB.rows true y.fst (colsC (fun (i : Nat) => txtC (partC 3 (itemAt (txtC (partC 6 s 5)) i) 0)) (fun (i : Nat) => txtC (partC 3 (itemAt (txtC (partC 6 s 5)) i) 1)) fun (i : Nat) => decide (numC (partC 3 (itemAt (txtC (partC 6 s 5)) i) 2) = (1 : Int))) false (y.snd * (3 : Nat)) 54).no = true ∧
 SBle (SB.rows true (rowsX (txtC (partC 6 s 5))) [Col.str (itemAt (txtC (partC 6 s 5)))] false x_4 9) (SB.rows true (rowsX (txtC (partC 6 s 5))) [Col.str (itemAt (txtC (partC 6 s 5)))] false x_4 9) ∧
 SBle (SB.rows true 6 [Col.str (partC 6 s)] false x 9) (SB.rows true 6 [Col.str (partC 6 s)] false x 9) ∧
 SBle Q0 Q0 ∧
 True) ∧
 ∀ (x_6 : Nat × Nat), Grow (rowsX (txtC (partC 6 s 5))) x_6 →
 (decide ((↑x_6.fst : Int) < (↑(rowsX (txtC (partC 6 s 5))) : Int)) = true →
 ((0 : Int) ≤ (↑x_6.fst : Int) ∧
 (↑x_6.fst : Int) < (↑(rowsX (txtC (partC 6 s 5))) : Int)) ∧
 (0 : Nat) + (↑x_6.fst : Int).toNat < rowsX (txtC (partC 6 s 5)) ∧
 ((itemAt (txtC (partC 6 s 5)) ((0 : Nat) + (↑x_6.fst : Int).toNat)).length < (1099511627776 : Nat) ∧
 (1 : Int) ≤ (3 : Int) ∧
 (3 : Int) < (100 : Int)) ∧
 ∀ (x_9 : Nat), (3 : Nat) ≤ x_9 →
 ((0 : Int) ≤ (0 : Int) ∧
 (0 : Int) < (3 : Int)) ∧
 (0 : Nat) < (3 : Nat) ∧
 ((0 : Int) ≤ (1 : Int) ∧
 (1 : Int) < (3 : Int)) ∧
 (1 : Nat) < (3 : Nat) ∧
 ((0 : Int) ≤ (2 : Int) ∧
 (2 : Int) < (3 : Int)) ∧
 (2 : Nat) < (3 : Nat) ∧
 (partC 3 (itemAt (txtC (partC 6 s 5)) ((0 : Nat) + (↑x_6.fst : Int).toNat)) 0).length < (1152921504606846976 : Nat) ∧
 some (SB.rows true 3 [Col.str (partC 3 (itemAt (txtC (partC 6 s 5)) ((0 : Nat) + (↑x_6.fst : Int).toNat)))] false x_9 9) = some (SB.rows true 3 [Col.str (partC 3 (itemAt (txtC (partC 6 s 5)) ((0 : Nat) + (↑x_6.fst : Int).toNat)))] false x_9 9) ∧
 some (SB.rows true 3 [Col.str (partC 3 (itemAt (txtC (partC 6 s 5)) ((0 : Nat) + (↑x_6.fst : Int).toNat)))] false x_9 9) = some (SB.rows true 3 [Col.str (partC 3 (itemAt (txtC (partC 6 s 5)) ((0 : Nat) + (↑x_6.fst : Int).toNat)))] false x_9 9) ∧
 some (SB.cells (headNv (noticeC s) (SV.rslc ((0 : Nat) + (1 : Nat) + (1 : Nat) + (1 : Nat) + (1 : Nat)) 3 true 0 x_6.fst x_6.snd)) 5 30) = some (SB.cells (headNv (noticeC s) (SV.rslc ((0 : Nat) + (1 : Nat) + (1 : Nat) + (1 : Nat) + (1 : Nat)) 3 true 0 x_6.fst x_6.snd)) 5 30) ∧
 (partC 3 (itemAt (txtC (partC 6 s 5)) ((0 : Nat) + (↑x_6.fst : Int).toNat)) 1).length < (1152921504606846976 : Nat) ∧
 some (SB.rows true 3 [Col.str (partC 3 (itemAt (txtC (partC 6 s 5)) ((0 : Nat) + (↑x_6.fst : Int).toNat)))] false x_9 9) = some (SB.rows true 3 [Col.str (partC 3 (itemAt (txtC (partC 6 s 5)) ((0 : Nat) + (↑x_6.fst : Int).toNat)))] false x_9 9) ∧
 some (SB.cells (headNv (noticeC s) (SV.rslc ((0 : Nat) + (1 : Nat) + (1 : Nat) + (1 : Nat) + (1 : Nat)) 3 true 0 x_6.fst x_6.snd)) 5 30) = some (SB.cells (headNv (noticeC s) (SV.rslc ((0 : Nat) + (1 : Nat) + (1 : Nat) + (1 : Nat) + (1 : Nat)) 3 true 0 x_6.fst x_6.snd)) 5 30) ∧
 (partC 3 (itemAt (txtC (partC 6 s 5)) ((0 : Nat) + (↑x_6.fst : Int).toNat)) 2).length < (1152921504606846976 : Nat) ∧
 some (SB.cells (headNv (noticeC s) (SV.rslc ((0 : Nat) + (1 : Nat) + (1 : Nat) + (1 : Nat) + (1 : Nat)) 3 true 0 x_6.fst x_6.snd)) 5 30) = some (SB.cells (headNv (noticeC s) (SV.rslc ((0 : Nat) + (1 : Nat) + (1 : Nat) + (1 : Nat) + (1 : Nat)) 3 true 0 x_6.fst x_6.snd)) 5 30) ∧
 some (SB.cells (headNv (noticeC s) (SV.rslc ((0 : Nat) + (1 : Nat) + (1 : Nat) + (1 : Nat) + (1 : Nat)) 3 true 0 x_6.fst x_6.snd)) 5 30) = some (SB.cells (headNv (noticeC s) (SV.rslc ((0 : Nat) + (1 : Nat) + (1 : Nat) + (1 : Nat) + (1 : Nat)) 3 true 0 x_6.fst x_6.snd)) 5 30) ∧
 ((0 : Nat) + x_6.fst ≤ x_6.fst ∧
 True ∧
 (2 : Nat) * (x_6.fst + (1 : Nat)) * (40 : Nat) ≤ (281474976710656 : Nat) ∧
 x_6.fst + (1 : Nat) < (9223372036854775808 : Nat)) ∧
 x_6.snd * (3 : Nat) = x_6.snd * (3 : Nat) ∧
 ∀ (c : Nat), x_6.fst + (1 : Nat) ≤ c →
 ((-9223372036854775808 : Int) ≤ (↑x_6.fst : Int) + (1 : Int) ∧
 (↑x_6.fst : Int) + (1 : Int) ≤ (9223372036854775807 : Int)) ∧
 ∃ (y : Nat × Nat), (Grow (rowsX (txtC (partC 6 s 5))) y ∧
 rowsX (txtC (partC 6 s 5)) - y.fst < rowsX (txtC (partC 6 s 5)) - x_6.fst) ∧
 (↑x_6.fst : Int) + (1 : Int) = (↑y.fst : Int) ∧
 (5 : Nat) = (5 : Nat) ∧
 numC (partC 6 s 1) = numC (partC 6 s 1) ∧
 numC (partC 6 s 2) = numC (partC 6 s 2) ∧
 numC (partC 6 s 3) = numC (partC 6 s 3) ∧
 txtC (partC 6 s 4) = txtC (partC 6 s 4) ∧
 ((0 : Nat) = (0 : Nat) ∧
 x_6.fst + (1 : Nat) = y.fst ∧
 c = y.snd) ∧
 True ∧
 SBle (SB.rows true (x_6.fst + (1 : Nat)) [Col.str fun (j : Nat) => if j < x_6.fst then txtC (partC 3 (itemAt (txtC (partC 6 s 5)) j) 0) else selS [txtC (partC 3 (itemAt (txtC (partC 6 s 5)) ((0 : Nat) + (↑x_6.fst : Int).toNat)) 0)] (j - x_6.fst), Col.str fun (j : Nat) => if j < x_6.fst then txtC (partC 3 (itemAt (txtC (partC 6 s 5)) j) 1) else selS [txtC (partC 3 (itemAt (txtC (partC 6 s 5)) ((0 : Nat) + (↑x_6.fst : Int).toNat)) 1)] (j - x_6.fst), Col.bool fun (j : Nat) => if j < x_6.fst then decide (numC (partC 3 (itemAt (txtC (partC 6 s 5)) j) 2) = (1 : Int)) else selB [decide (numC (partC 3 (itemAt (txtC (partC 6 s 5)) ((0 : Nat) + (↑x_6.fst : Int).toNat)) 2) = (1 : Int))] (j - x_6.fst)] false (c * (3 : Nat)) 54) (SB.rows true y.fst (colsC (fun (i : Nat) => txtC (partC 3 (itemAt (txtC (partC 6 s 5)) i) 0)) (fun (i : Nat) => txtC (partC 3 (itemAt (txtC (partC 6 s 5)) i) 1)) fun (i : Nat) => decide (numC (partC 3 (itemAt (txtC (partC 6 s 5)) i) 2) = (1 : Int))) false (y.snd * (3 : Nat)) 54) ∧
 SBle (SB.rows true (rowsX (txtC (partC 6 s 5))) [Col.str (itemAt (txtC (partC 6 s 5)))] false x_4 9) (SB.rows true (rowsX (txtC (partC 6 s 5))) [Col.str (itemAt (txtC (partC 6 s 5)))] false x_4 9) ∧
 SBle (SB.rows true 6 [Col.str (partC 6 s)] false x 9) (SB.rows true 6 [Col.str (partC 6 s)] false x 9) ∧
 SBle Q0 Q0 ∧
 True) ∧
 (decide ((↑x_6.fst : Int) < (↑(rowsX (txtC (partC 6 s 5))) : Int)) = false →
 (((True ∧
 True ∧
 True ∧
 True ∧
 (true = true ∧
 (0 : Nat) + x_6.fst ≤ x_6.fst) ∧
 True) ∧
 True) ∧
 x_6.fst < (9223372036854775808 : Nat)) ∧
 ({ s := numC (partC 6 s 1), e := numC (partC 6 s 2), b := numC (partC 6 s 3), root := txtC (partC 6 s 4), n := x_6.fst, f := fun (i : Nat) => txtC (partC 3 (itemAt (txtC (partC 6 s 5)) i) 0), g := fun (i : Nat) => txtC (partC 3 (itemAt (txtC (partC 6 s 5)) i) 1), h := fun (i : Nat) => decide (numC (partC 3 (itemAt (txtC (partC 6 s 5)) i) 2) = (1 : Int)) : Nt }.ok = true →
 ((!decide ({ s := numC (partC 6 s 1), e := numC (partC 6 s 2), b := numC (partC 6 s 3), root := txtC (partC 6 s 4), n := x_6.fst, f := fun (i : Nat) => txtC (partC 3 (itemAt (txtC (partC 6 s 5)) i) 0), g := fun (i : Nat) => txtC (partC 3 (itemAt (txtC (partC 6 s 5)) i) 1), h := fun (i : Nat) => decide (numC (partC 3 (itemAt (txtC (partC 6 s 5)) i) 2) = (1 : Int)) : Nt }.put = s)) = true →
 (getNoticeB s = true →
 ∃ (x : Nat), itemsN (cutIn (itOf s 5)) ≤ x ∧
 False) ∧
 (getNoticeB s = false →
 sameVal (SV.tup [SV.agg [SV.int .i64 true 0, SV.int .i64 true 0, SV.int .i64 true 0, SV.str true [], SV.nilslc], SV.int .i64 true 2]) (SV.tup [noNotice, SV.int .i64 true 2]))) ∧
 ((!decide ({ s := numC (partC 6 s 1), e := numC (partC 6 s 2), b := numC (partC 6 s 3), root := txtC (partC 6 s 4), n := x_6.fst, f := fun (i : Nat) => txtC (partC 3 (itemAt (txtC (partC 6 s 5)) i) 0), g := fun (i : Nat) => txtC (partC 3 (itemAt (txtC (partC 6 s 5)) i) 1), h := fun (i : Nat) => decide (numC (partC 3 (itemAt (txtC (partC 6 s 5)) i) 2) = (1 : Int)) : Nt }.put = s)) = false →
 (getNoticeB s = true →
 ∃ (x : Nat), itemsN (cutIn (itOf s 5)) ≤ x ∧
 SBle (SB.rows true x_6.fst (colsC (fun (i : Nat) => txtC (partC 3 (itemAt (txtC (partC 6 s 5)) i) 0)) (fun (i : Nat) => txtC (partC 3 (itemAt (txtC (partC 6 s 5)) i) 1)) fun (i : Nat) => decide (numC (partC 3 (itemAt (txtC (partC 6 s 5)) i) 2) = (1 : Int))) false (x_6.snd * (3 : Nat)) 54) (SB.rows true (itemsN (cutIn (itOf s 5))) (colsC (fun (i : Nat) => cutIn (subOf (itOf s 5) i 0)) (fun (i : Nat) => cutIn (subOf (itOf s 5) i 1)) fun (i : Nat) => decide (numI (subOf (itOf s 5) i 2) = (1 : Int))) false (x * (3 : Nat)) 54) ∧
 sameVal (SV.tup [SV.agg [SV.int .i64 false (numC (partC 6 s 1)), SV.int .i64 false (numC (partC 6 s 2)), SV.int .i64 false (numC (partC 6 s 3)), SV.str false (txtC (partC 6 s 4)), SV.rslc ((0 : Nat) + (1 : Nat) + (1 : Nat) + (1 : Nat) + (1 : Nat)) 3 true 0 x_6.fst x_6.snd], SV.int .i64 true 0]) (SV.tup [(noticeD s).sv (SV.rslc ((0 : Nat) + (1 : Nat) + (1 : Nat) + (1 : Nat) + (1 : Nat)) 3 true 0 (itemsN (cutIn (itOf s 5))) x), SV.int .i64 true 0])) ∧
 (getNoticeB s = false →
 sameVal (SV.tup [SV.agg [SV.int .i64 false (numC (partC 6 s 1)), SV.int .i64 false (numC (partC 6 s 2)), SV.int .i64 false (numC (partC 6 s 3)), SV.str false (txtC (partC 6 s 4)), SV.rslc ((0 : Nat) + (1 : Nat) + (1 : Nat) + (1 : Nat) + (1 : Nat)) 3 true 0 x_6.fst x_6.snd], SV.int .i64 true 0]) (SV.tup [noNotice, SV.int .i64 true 2])))) ∧
 ({ s := numC (partC 6 s 1), e := numC (partC 6 s 2), b := numC (partC 6 s 3), root := txtC (partC 6 s 4), n := x_6.fst, f := fun (i : Nat) => txtC (partC 3 (itemAt (txtC (partC 6 s 5)) i) 0), g := fun (i : Nat) => txtC (partC 3 (itemAt (txtC (partC 6 s 5)) i) 1), h := fun (i : Nat) => decide (numC (partC 3 (itemAt (txtC (partC 6 s 5)) i) 2) = (1 : Int)) : Nt }.ok = false →
 (getNoticeB s = true →
 ∃ (x : Nat), itemsN (cutIn (itOf s 5)) ≤ x ∧
 False) ∧
 (getNoticeB s = false →
 sameVal (SV.tup [SV.agg [SV.int .i64 true 0, SV.int .i64 true 0, SV.int .i64 true 0, SV.str true [], SV.nilslc], SV.int .i64 true 2]) (SV.tup [noNotice, SV.int .i64 true 2])))))) (SB.cells [SV.int .i64 false (numC (partC 6 s 1)), SV.int .i64 false (numC (partC 6 s 2)), SV.int .i64 false (numC (partC 6 s 3)), SV.str false (txtC (partC 6 s 4)), SV.nilslc] 5 30))) (SB.cells (SV.agg [SV.int .i64 true 0, SV.int .i64 true 0, SV.int .i64 true 0, SV.str true [], SV.nilslc]).cells 5 30)) := by kernel_rfl
end Go.Proofs.YtocikfhejpilaaaGreatDoor
