/-
  Conditions that the executor computes, written out by a program (vcgen.py).
-/
import Derived.Test.YtocikfhejpilaaaDoorPh
import Derived.Test.YtocikfhejpilaaaDoorMh
import Derived.Test.YtocikfhejpilaaaDoorRows
import Derived.Stop.Joined
namespace Go.Proofs.YtocikfhejpilaaaDoor
open Go Sx
set_option maxRecDepth 20000

theorem vcFSizes (x : Ak) : VC.holds (runA cfgFL 6 Tryd.f6 [x.sv] (.ret (.bool false true))) = (True ∧
 (decide ((50 : Int) < (↑x.key.length : Int)) = true →
 sameVal (SV.bool true true) (SV.bool false true)) ∧
 (decide ((50 : Int) < (↑x.key.length : Int)) = false →
 (decide ((50 : Int) < (↑x.to.length : Int)) = true →
 sameVal (SV.bool true true) (SV.bool false true)) ∧
 (decide ((50 : Int) < (↑x.to.length : Int)) = false →
 True ∧
 (x.ok = true →
 (decide ((9 : Int) ≤ (↑x.put.length : Int)) = true →
 sameVal (SV.bool (false && true) (decide ((↑x.put.length : Int) ≤ (32 : Int)))) (SV.bool false true)) ∧
 (decide ((9 : Int) ≤ (↑x.put.length : Int)) = false →
 sameVal (SV.bool true false) (SV.bool false true))) ∧
 (x.ok = false →
 sameVal (SV.bool true true) (SV.bool false true))))) := by kernel_rfl
theorem vcFCuts (x : Ak) (at' : Int) (more : List UInt8) : VC.holds (runA cfgFL 5 Tryd.f5 [x.sv, .int .u16 false at', .str false more] (.ret (.bool false true))) = (True ∧
 (decide ((50 : Int) < (↑x.key.length : Int)) = true →
 sameVal (SV.bool true true) (SV.bool false true)) ∧
 (decide ((50 : Int) < (↑x.key.length : Int)) = false →
 (decide ((50 : Int) < (↑x.to.length : Int)) = true →
 sameVal (SV.bool true true) (SV.bool false true)) ∧
 (decide ((50 : Int) < (↑x.to.length : Int)) = false →
 (decide ((2000 : Int) < (↑more.length : Int)) = true →
 sameVal (SV.bool true true) (SV.bool false true)) ∧
 (decide ((2000 : Int) < (↑more.length : Int)) = false →
 True ∧
 (x.ok = true →
 ((-9223372036854775808 : Int) ≤ at' ∧
 at' ≤ (9223372036854775807 : Int)) ∧
 ((0 : Int) ≤ at' ∧
 at' ≤ (9223372036854775807 : Int) ∧
 (0 : Int) < (↑x.put.length : Int)) ∧
 ((0 : Int) ≤ (0 : Int) ∧
 (0 : Int) ≤ at' % (↑x.put.length : Int) ∧
 at' % (↑x.put.length : Int) ≤ (↑x.put.length : Int)) ∧
 (subStr x.put none (some (Operand.tmp (48 : Nat))) (0 : Int) (at' % (↑x.put.length : Int))).length < (1099511627776 : Nat) ∧
 (decide (kindI (subStr x.put none (some (Operand.tmp (48 : Nat))) (0 : Int) (at' % (↑x.put.length : Int))) = (-1 : Int)) = true →
 (decide (more = []) = true →
 sameVal (SV.bool true true) (SV.bool false true)) ∧
 (decide (more = []) = false →
 (↑x.put.length : Int) + (↑more.length : Int) ≤ (9223372036854775807 : Int) ∧
 (cat x.put more).length < (1099511627776 : Nat) ∧
 sameVal (SV.bool (false && true) (decide (kindI (cat x.put more) = (-1 : Int)))) (SV.bool false true))) ∧
 (decide (kindI (subStr x.put none (some (Operand.tmp (48 : Nat))) (0 : Int) (at' % (↑x.put.length : Int))) = (-1 : Int)) = false →
 sameVal (SV.bool true false) (SV.bool false true))) ∧
 (x.ok = false →
 sameVal (SV.bool (true && true) (decide ( ([] : List UInt8) = []))) (SV.bool false true)))))) := by kernel_rfl
theorem vcFOnly (s : List UInt8) : VC.holds (runA cfgFL 4 Tryd.f4 [.str false s] (.ret (.bool false true))) = (True ∧
 (decide ((2000 : Int) < (↑s.length : Int)) = true →
 sameVal (SV.bool true true) (SV.bool false true)) ∧
 (decide ((2000 : Int) < (↑s.length : Int)) = false →
 s.length < (1099511627776 : Nat) ∧
 (getAskB s = true →
 s.length < (1099511627776 : Nat) ∧
 (getReplyB s = true →
 ∀ (x : Nat), itemsN (cutIn (itOf s (6 : Nat))) ≤ x →
 s.length < (1099511627776 : Nat) ∧
 (getNoticeB s = true →
 ∀ (x : Nat), itemsN (cutIn (itOf s (5 : Nat))) ≤ x →
 True ∧
 ({ k := numI (itOf s (1 : Nat)), s := numI (itOf s (2 : Nat)), q := numI (itOf s (3 : Nat)), a := numI (itOf s (4 : Nat)) - (1 : Int), key := cutIn (itOf s (5 : Nat)), to := cutIn (itOf s (6 : Nat)), lim := numI (itOf s (7 : Nat)) : Ak }.ok = true →
 ((!decide ({ k := numI (itOf s (1 : Nat)), s := numI (itOf s (2 : Nat)), q := numI (itOf s (3 : Nat)), a := numI (itOf s (4 : Nat)) - (1 : Int), key := cutIn (itOf s (5 : Nat)), to := cutIn (itOf s (6 : Nat)), lim := numI (itOf s (7 : Nat)) : Ak }.put = s)) = true →
 sameVal (SV.bool true false) (SV.bool false true)) ∧
 ((!decide ({ k := numI (itOf s (1 : Nat)), s := numI (itOf s (2 : Nat)), q := numI (itOf s (3 : Nat)), a := numI (itOf s (4 : Nat)) - (1 : Int), key := cutIn (itOf s (5 : Nat)), to := cutIn (itOf s (6 : Nat)), lim := numI (itOf s (7 : Nat)) : Ak }.put = s)) = false →
 (((True ∧
 True ∧
 True ∧
 True ∧
 True ∧
 (false = false ∧
 (0 : Nat) + itemsN (cutIn (itOf s (6 : Nat))) ≤ itemsN (cutIn (itOf s (6 : Nat)))) ∧
 True ∧
 True ∧
 True) ∧
 True) ∧
 True) ∧
 ({ s := numI (itOf s (1 : Nat)), q := numI (itOf s (2 : Nat)), e := numI (itOf s (3 : Nat)), v := numI (itOf s (4 : Nat)), root := cutIn (itOf s (5 : Nat)), n := itemsN (cutIn (itOf s (6 : Nat))), f := fun (i : Nat) => cutIn (subOf (itOf s (6 : Nat)) i (0 : Nat)), g := fun (i : Nat) => cutIn (subOf (itOf s (6 : Nat)) i (1 : Nat)), proof := cutIn (itOf s (7 : Nat)), more := decide (numI (itOf s (8 : Nat)) = (1 : Int)) : Rp }.ok = true →
 ((!decide ({ s := numI (itOf s (1 : Nat)), q := numI (itOf s (2 : Nat)), e := numI (itOf s (3 : Nat)), v := numI (itOf s (4 : Nat)), root := cutIn (itOf s (5 : Nat)), n := itemsN (cutIn (itOf s (6 : Nat))), f := fun (i : Nat) => cutIn (subOf (itOf s (6 : Nat)) i (0 : Nat)), g := fun (i : Nat) => cutIn (subOf (itOf s (6 : Nat)) i (1 : Nat)), proof := cutIn (itOf s (7 : Nat)), more := decide (numI (itOf s (8 : Nat)) = (1 : Int)) : Rp }.put = s)) = true →
 sameVal (SV.bool true false) (SV.bool false true)) ∧
 ((!decide ({ s := numI (itOf s (1 : Nat)), q := numI (itOf s (2 : Nat)), e := numI (itOf s (3 : Nat)), v := numI (itOf s (4 : Nat)), root := cutIn (itOf s (5 : Nat)), n := itemsN (cutIn (itOf s (6 : Nat))), f := fun (i : Nat) => cutIn (subOf (itOf s (6 : Nat)) i (0 : Nat)), g := fun (i : Nat) => cutIn (subOf (itOf s (6 : Nat)) i (1 : Nat)), proof := cutIn (itOf s (7 : Nat)), more := decide (numI (itOf s (8 : Nat)) = (1 : Int)) : Rp }.put = s)) = false →
 (((True ∧
 True ∧
 True ∧
 True ∧
 (false = false ∧
 (0 : Nat) + itemsN (cutIn (itOf s (5 : Nat))) ≤ itemsN (cutIn (itOf s (5 : Nat)))) ∧
 True) ∧
 True) ∧
 True) ∧
 ({ s := numI (itOf s (1 : Nat)), e := numI (itOf s (2 : Nat)), b := numI (itOf s (3 : Nat)), root := cutIn (itOf s (4 : Nat)), n := itemsN (cutIn (itOf s (5 : Nat))), f := fun (i : Nat) => cutIn (subOf (itOf s (5 : Nat)) i (0 : Nat)), g := fun (i : Nat) => cutIn (subOf (itOf s (5 : Nat)) i (1 : Nat)), h := fun (i : Nat) => decide (numI (subOf (itOf s (5 : Nat)) i (2 : Nat)) = (1 : Int)) : Nt }.ok = true →
 ((!decide ({ s := numI (itOf s (1 : Nat)), e := numI (itOf s (2 : Nat)), b := numI (itOf s (3 : Nat)), root := cutIn (itOf s (4 : Nat)), n := itemsN (cutIn (itOf s (5 : Nat))), f := fun (i : Nat) => cutIn (subOf (itOf s (5 : Nat)) i (0 : Nat)), g := fun (i : Nat) => cutIn (subOf (itOf s (5 : Nat)) i (1 : Nat)), h := fun (i : Nat) => decide (numI (subOf (itOf s (5 : Nat)) i (2 : Nat)) = (1 : Int)) : Nt }.put = s)) = true →
 sameVal (SV.bool true false) (SV.bool false true)) ∧
 ((!decide ({ s := numI (itOf s (1 : Nat)), e := numI (itOf s (2 : Nat)), b := numI (itOf s (3 : Nat)), root := cutIn (itOf s (4 : Nat)), n := itemsN (cutIn (itOf s (5 : Nat))), f := fun (i : Nat) => cutIn (subOf (itOf s (5 : Nat)) i (0 : Nat)), g := fun (i : Nat) => cutIn (subOf (itOf s (5 : Nat)) i (1 : Nat)), h := fun (i : Nat) => decide (numI (subOf (itOf s (5 : Nat)) i (2 : Nat)) = (1 : Int)) : Nt }.put = s)) = false →
 sameVal (SV.bool true false) (SV.bool false true))) ∧
 ({ s := numI (itOf s (1 : Nat)), e := numI (itOf s (2 : Nat)), b := numI (itOf s (3 : Nat)), root := cutIn (itOf s (4 : Nat)), n := itemsN (cutIn (itOf s (5 : Nat))), f := fun (i : Nat) => cutIn (subOf (itOf s (5 : Nat)) i (0 : Nat)), g := fun (i : Nat) => cutIn (subOf (itOf s (5 : Nat)) i (1 : Nat)), h := fun (i : Nat) => decide (numI (subOf (itOf s (5 : Nat)) i (2 : Nat)) = (1 : Int)) : Nt }.ok = false →
 ((!decide ([] = s)) = true →
 sameVal (SV.bool true false) (SV.bool false true)) ∧
 ((!decide ([] = s)) = false →
 sameVal (SV.bool true false) (SV.bool false true))))) ∧
 ({ s := numI (itOf s (1 : Nat)), q := numI (itOf s (2 : Nat)), e := numI (itOf s (3 : Nat)), v := numI (itOf s (4 : Nat)), root := cutIn (itOf s (5 : Nat)), n := itemsN (cutIn (itOf s (6 : Nat))), f := fun (i : Nat) => cutIn (subOf (itOf s (6 : Nat)) i (0 : Nat)), g := fun (i : Nat) => cutIn (subOf (itOf s (6 : Nat)) i (1 : Nat)), proof := cutIn (itOf s (7 : Nat)), more := decide (numI (itOf s (8 : Nat)) = (1 : Int)) : Rp }.ok = false →
 ((!decide ([] = s)) = true →
 sameVal (SV.bool true false) (SV.bool false true)) ∧
 ((!decide ([] = s)) = false →
 sameVal (SV.bool true false) (SV.bool false true))))) ∧
 ({ k := numI (itOf s (1 : Nat)), s := numI (itOf s (2 : Nat)), q := numI (itOf s (3 : Nat)), a := numI (itOf s (4 : Nat)) - (1 : Int), key := cutIn (itOf s (5 : Nat)), to := cutIn (itOf s (6 : Nat)), lim := numI (itOf s (7 : Nat)) : Ak }.ok = false →
 ((!decide ([] = s)) = true →
 sameVal (SV.bool true false) (SV.bool false true)) ∧
 ((!decide ([] = s)) = false →
 sameVal (SV.bool true false) (SV.bool false true)))) ∧
 (getNoticeB s = false →
 True ∧
 ({ k := numI (itOf s (1 : Nat)), s := numI (itOf s (2 : Nat)), q := numI (itOf s (3 : Nat)), a := numI (itOf s (4 : Nat)) - (1 : Int), key := cutIn (itOf s (5 : Nat)), to := cutIn (itOf s (6 : Nat)), lim := numI (itOf s (7 : Nat)) : Ak }.ok = true →
 ((!decide ({ k := numI (itOf s (1 : Nat)), s := numI (itOf s (2 : Nat)), q := numI (itOf s (3 : Nat)), a := numI (itOf s (4 : Nat)) - (1 : Int), key := cutIn (itOf s (5 : Nat)), to := cutIn (itOf s (6 : Nat)), lim := numI (itOf s (7 : Nat)) : Ak }.put = s)) = true →
 sameVal (SV.bool true false) (SV.bool false true)) ∧
 ((!decide ({ k := numI (itOf s (1 : Nat)), s := numI (itOf s (2 : Nat)), q := numI (itOf s (3 : Nat)), a := numI (itOf s (4 : Nat)) - (1 : Int), key := cutIn (itOf s (5 : Nat)), to := cutIn (itOf s (6 : Nat)), lim := numI (itOf s (7 : Nat)) : Ak }.put = s)) = false →
 (((True ∧
 True ∧
 True ∧
 True ∧
 True ∧
 (false = false ∧
 (0 : Nat) + itemsN (cutIn (itOf s (6 : Nat))) ≤ itemsN (cutIn (itOf s (6 : Nat)))) ∧
 True ∧
 True ∧
 True) ∧
 True) ∧
 True) ∧
 ({ s := numI (itOf s (1 : Nat)), q := numI (itOf s (2 : Nat)), e := numI (itOf s (3 : Nat)), v := numI (itOf s (4 : Nat)), root := cutIn (itOf s (5 : Nat)), n := itemsN (cutIn (itOf s (6 : Nat))), f := fun (i : Nat) => cutIn (subOf (itOf s (6 : Nat)) i (0 : Nat)), g := fun (i : Nat) => cutIn (subOf (itOf s (6 : Nat)) i (1 : Nat)), proof := cutIn (itOf s (7 : Nat)), more := decide (numI (itOf s (8 : Nat)) = (1 : Int)) : Rp }.ok = true →
 ((!decide ({ s := numI (itOf s (1 : Nat)), q := numI (itOf s (2 : Nat)), e := numI (itOf s (3 : Nat)), v := numI (itOf s (4 : Nat)), root := cutIn (itOf s (5 : Nat)), n := itemsN (cutIn (itOf s (6 : Nat))), f := fun (i : Nat) => cutIn (subOf (itOf s (6 : Nat)) i (0 : Nat)), g := fun (i : Nat) => cutIn (subOf (itOf s (6 : Nat)) i (1 : Nat)), proof := cutIn (itOf s (7 : Nat)), more := decide (numI (itOf s (8 : Nat)) = (1 : Int)) : Rp }.put = s)) = true →
 sameVal (SV.bool true false) (SV.bool false true)) ∧
 ((!decide ({ s := numI (itOf s (1 : Nat)), q := numI (itOf s (2 : Nat)), e := numI (itOf s (3 : Nat)), v := numI (itOf s (4 : Nat)), root := cutIn (itOf s (5 : Nat)), n := itemsN (cutIn (itOf s (6 : Nat))), f := fun (i : Nat) => cutIn (subOf (itOf s (6 : Nat)) i (0 : Nat)), g := fun (i : Nat) => cutIn (subOf (itOf s (6 : Nat)) i (1 : Nat)), proof := cutIn (itOf s (7 : Nat)), more := decide (numI (itOf s (8 : Nat)) = (1 : Int)) : Rp }.put = s)) = false →
 sameVal (SV.bool true false) (SV.bool false true))) ∧
 ({ s := numI (itOf s (1 : Nat)), q := numI (itOf s (2 : Nat)), e := numI (itOf s (3 : Nat)), v := numI (itOf s (4 : Nat)), root := cutIn (itOf s (5 : Nat)), n := itemsN (cutIn (itOf s (6 : Nat))), f := fun (i : Nat) => cutIn (subOf (itOf s (6 : Nat)) i (0 : Nat)), g := fun (i : Nat) => cutIn (subOf (itOf s (6 : Nat)) i (1 : Nat)), proof := cutIn (itOf s (7 : Nat)), more := decide (numI (itOf s (8 : Nat)) = (1 : Int)) : Rp }.ok = false →
 ((!decide ([] = s)) = true →
 sameVal (SV.bool true false) (SV.bool false true)) ∧
 ((!decide ([] = s)) = false →
 sameVal (SV.bool true false) (SV.bool false true))))) ∧
 ({ k := numI (itOf s (1 : Nat)), s := numI (itOf s (2 : Nat)), q := numI (itOf s (3 : Nat)), a := numI (itOf s (4 : Nat)) - (1 : Int), key := cutIn (itOf s (5 : Nat)), to := cutIn (itOf s (6 : Nat)), lim := numI (itOf s (7 : Nat)) : Ak }.ok = false →
 ((!decide ([] = s)) = true →
 sameVal (SV.bool true false) (SV.bool false true)) ∧
 ((!decide ([] = s)) = false →
 sameVal (SV.bool true false) (SV.bool false true))))) ∧
 (getReplyB s = false →
 s.length < (1099511627776 : Nat) ∧
 (getNoticeB s = true →
 ∀ (x : Nat), itemsN (cutIn (itOf s (5 : Nat))) ≤ x →
 True ∧
 ({ k := numI (itOf s (1 : Nat)), s := numI (itOf s (2 : Nat)), q := numI (itOf s (3 : Nat)), a := numI (itOf s (4 : Nat)) - (1 : Int), key := cutIn (itOf s (5 : Nat)), to := cutIn (itOf s (6 : Nat)), lim := numI (itOf s (7 : Nat)) : Ak }.ok = true →
 ((!decide ({ k := numI (itOf s (1 : Nat)), s := numI (itOf s (2 : Nat)), q := numI (itOf s (3 : Nat)), a := numI (itOf s (4 : Nat)) - (1 : Int), key := cutIn (itOf s (5 : Nat)), to := cutIn (itOf s (6 : Nat)), lim := numI (itOf s (7 : Nat)) : Ak }.put = s)) = true →
 sameVal (SV.bool true false) (SV.bool false true)) ∧
 ((!decide ({ k := numI (itOf s (1 : Nat)), s := numI (itOf s (2 : Nat)), q := numI (itOf s (3 : Nat)), a := numI (itOf s (4 : Nat)) - (1 : Int), key := cutIn (itOf s (5 : Nat)), to := cutIn (itOf s (6 : Nat)), lim := numI (itOf s (7 : Nat)) : Ak }.put = s)) = false →
 (((True ∧
 True ∧
 True ∧
 True ∧
 (false = false ∧
 (0 : Nat) + itemsN (cutIn (itOf s (5 : Nat))) ≤ itemsN (cutIn (itOf s (5 : Nat)))) ∧
 True) ∧
 True) ∧
 True) ∧
 ({ s := numI (itOf s (1 : Nat)), e := numI (itOf s (2 : Nat)), b := numI (itOf s (3 : Nat)), root := cutIn (itOf s (4 : Nat)), n := itemsN (cutIn (itOf s (5 : Nat))), f := fun (i : Nat) => cutIn (subOf (itOf s (5 : Nat)) i (0 : Nat)), g := fun (i : Nat) => cutIn (subOf (itOf s (5 : Nat)) i (1 : Nat)), h := fun (i : Nat) => decide (numI (subOf (itOf s (5 : Nat)) i (2 : Nat)) = (1 : Int)) : Nt }.ok = true →
 ((!decide ({ s := numI (itOf s (1 : Nat)), e := numI (itOf s (2 : Nat)), b := numI (itOf s (3 : Nat)), root := cutIn (itOf s (4 : Nat)), n := itemsN (cutIn (itOf s (5 : Nat))), f := fun (i : Nat) => cutIn (subOf (itOf s (5 : Nat)) i (0 : Nat)), g := fun (i : Nat) => cutIn (subOf (itOf s (5 : Nat)) i (1 : Nat)), h := fun (i : Nat) => decide (numI (subOf (itOf s (5 : Nat)) i (2 : Nat)) = (1 : Int)) : Nt }.put = s)) = true →
 sameVal (SV.bool true false) (SV.bool false true)) ∧
 ((!decide ({ s := numI (itOf s (1 : Nat)), e := numI (itOf s (2 : Nat)), b := numI (itOf s (3 : Nat)), root := cutIn (itOf s (4 : Nat)), n := itemsN (cutIn (itOf s (5 : Nat))), f := fun (i : Nat) => cutIn (subOf (itOf s (5 : Nat)) i (0 : Nat)), g := fun (i : Nat) => cutIn (subOf (itOf s (5 : Nat)) i (1 : Nat)), h := fun (i : Nat) => decide (numI (subOf (itOf s (5 : Nat)) i (2 : Nat)) = (1 : Int)) : Nt }.put = s)) = false →
 sameVal (SV.bool true false) (SV.bool false true))) ∧
 ({ s := numI (itOf s (1 : Nat)), e := numI (itOf s (2 : Nat)), b := numI (itOf s (3 : Nat)), root := cutIn (itOf s (4 : Nat)), n := itemsN (cutIn (itOf s (5 : Nat))), f := fun (i : Nat) => cutIn (subOf (itOf s (5 : Nat)) i (0 : Nat)), g := fun (i : Nat) => cutIn (subOf (itOf s (5 : Nat)) i (1 : Nat)), h := fun (i : Nat) => decide (numI (subOf (itOf s (5 : Nat)) i (2 : Nat)) = (1 : Int)) : Nt }.ok = false →
 ((!decide ([] = s)) = true →
 sameVal (SV.bool true false) (SV.bool false true)) ∧
 ((!decide ([] = s)) = false →
 sameVal (SV.bool true false) (SV.bool false true))))) ∧
 ({ k := numI (itOf s (1 : Nat)), s := numI (itOf s (2 : Nat)), q := numI (itOf s (3 : Nat)), a := numI (itOf s (4 : Nat)) - (1 : Int), key := cutIn (itOf s (5 : Nat)), to := cutIn (itOf s (6 : Nat)), lim := numI (itOf s (7 : Nat)) : Ak }.ok = false →
 ((!decide ([] = s)) = true →
 sameVal (SV.bool true false) (SV.bool false true)) ∧
 ((!decide ([] = s)) = false →
 sameVal (SV.bool true false) (SV.bool false true)))) ∧
 (getNoticeB s = false →
 True ∧
 ({ k := numI (itOf s (1 : Nat)), s := numI (itOf s (2 : Nat)), q := numI (itOf s (3 : Nat)), a := numI (itOf s (4 : Nat)) - (1 : Int), key := cutIn (itOf s (5 : Nat)), to := cutIn (itOf s (6 : Nat)), lim := numI (itOf s (7 : Nat)) : Ak }.ok = true →
 ((!decide ({ k := numI (itOf s (1 : Nat)), s := numI (itOf s (2 : Nat)), q := numI (itOf s (3 : Nat)), a := numI (itOf s (4 : Nat)) - (1 : Int), key := cutIn (itOf s (5 : Nat)), to := cutIn (itOf s (6 : Nat)), lim := numI (itOf s (7 : Nat)) : Ak }.put = s)) = true →
 sameVal (SV.bool true false) (SV.bool false true)) ∧
 ((!decide ({ k := numI (itOf s (1 : Nat)), s := numI (itOf s (2 : Nat)), q := numI (itOf s (3 : Nat)), a := numI (itOf s (4 : Nat)) - (1 : Int), key := cutIn (itOf s (5 : Nat)), to := cutIn (itOf s (6 : Nat)), lim := numI (itOf s (7 : Nat)) : Ak }.put = s)) = false →
 s.length < (1099511627776 : Nat) ∧
 sameVal (SV.bool (true && true && (false && true)) (decide ((1 : Int) = (1 : Int)) == decide ((0 : Int) ≤ kindI s))) (SV.bool false true))) ∧
 ({ k := numI (itOf s (1 : Nat)), s := numI (itOf s (2 : Nat)), q := numI (itOf s (3 : Nat)), a := numI (itOf s (4 : Nat)) - (1 : Int), key := cutIn (itOf s (5 : Nat)), to := cutIn (itOf s (6 : Nat)), lim := numI (itOf s (7 : Nat)) : Ak }.ok = false →
 ((!decide ([] = s)) = true →
 sameVal (SV.bool true false) (SV.bool false true)) ∧
 ((!decide ([] = s)) = false →
 sameVal (SV.bool true false) (SV.bool false true)))))) ∧
 (getAskB s = false →
 s.length < (1099511627776 : Nat) ∧
 (getReplyB s = true →
 ∀ (x : Nat), itemsN (cutIn (itOf s (6 : Nat))) ≤ x →
 s.length < (1099511627776 : Nat) ∧
 (getNoticeB s = true →
 ∀ (x : Nat), itemsN (cutIn (itOf s (5 : Nat))) ≤ x →
 (((True ∧
 True ∧
 True ∧
 True ∧
 True ∧
 (false = false ∧
 (0 : Nat) + itemsN (cutIn (itOf s (6 : Nat))) ≤ itemsN (cutIn (itOf s (6 : Nat)))) ∧
 True ∧
 True ∧
 True) ∧
 True) ∧
 True) ∧
 ({ s := numI (itOf s (1 : Nat)), q := numI (itOf s (2 : Nat)), e := numI (itOf s (3 : Nat)), v := numI (itOf s (4 : Nat)), root := cutIn (itOf s (5 : Nat)), n := itemsN (cutIn (itOf s (6 : Nat))), f := fun (i : Nat) => cutIn (subOf (itOf s (6 : Nat)) i (0 : Nat)), g := fun (i : Nat) => cutIn (subOf (itOf s (6 : Nat)) i (1 : Nat)), proof := cutIn (itOf s (7 : Nat)), more := decide (numI (itOf s (8 : Nat)) = (1 : Int)) : Rp }.ok = true →
 ((!decide ({ s := numI (itOf s (1 : Nat)), q := numI (itOf s (2 : Nat)), e := numI (itOf s (3 : Nat)), v := numI (itOf s (4 : Nat)), root := cutIn (itOf s (5 : Nat)), n := itemsN (cutIn (itOf s (6 : Nat))), f := fun (i : Nat) => cutIn (subOf (itOf s (6 : Nat)) i (0 : Nat)), g := fun (i : Nat) => cutIn (subOf (itOf s (6 : Nat)) i (1 : Nat)), proof := cutIn (itOf s (7 : Nat)), more := decide (numI (itOf s (8 : Nat)) = (1 : Int)) : Rp }.put = s)) = true →
 sameVal (SV.bool true false) (SV.bool false true)) ∧
 ((!decide ({ s := numI (itOf s (1 : Nat)), q := numI (itOf s (2 : Nat)), e := numI (itOf s (3 : Nat)), v := numI (itOf s (4 : Nat)), root := cutIn (itOf s (5 : Nat)), n := itemsN (cutIn (itOf s (6 : Nat))), f := fun (i : Nat) => cutIn (subOf (itOf s (6 : Nat)) i (0 : Nat)), g := fun (i : Nat) => cutIn (subOf (itOf s (6 : Nat)) i (1 : Nat)), proof := cutIn (itOf s (7 : Nat)), more := decide (numI (itOf s (8 : Nat)) = (1 : Int)) : Rp }.put = s)) = false →
 (((True ∧
 True ∧
 True ∧
 True ∧
 (false = false ∧
 (0 : Nat) + itemsN (cutIn (itOf s (5 : Nat))) ≤ itemsN (cutIn (itOf s (5 : Nat)))) ∧
 True) ∧
 True) ∧
 True) ∧
 ({ s := numI (itOf s (1 : Nat)), e := numI (itOf s (2 : Nat)), b := numI (itOf s (3 : Nat)), root := cutIn (itOf s (4 : Nat)), n := itemsN (cutIn (itOf s (5 : Nat))), f := fun (i : Nat) => cutIn (subOf (itOf s (5 : Nat)) i (0 : Nat)), g := fun (i : Nat) => cutIn (subOf (itOf s (5 : Nat)) i (1 : Nat)), h := fun (i : Nat) => decide (numI (subOf (itOf s (5 : Nat)) i (2 : Nat)) = (1 : Int)) : Nt }.ok = true →
 ((!decide ({ s := numI (itOf s (1 : Nat)), e := numI (itOf s (2 : Nat)), b := numI (itOf s (3 : Nat)), root := cutIn (itOf s (4 : Nat)), n := itemsN (cutIn (itOf s (5 : Nat))), f := fun (i : Nat) => cutIn (subOf (itOf s (5 : Nat)) i (0 : Nat)), g := fun (i : Nat) => cutIn (subOf (itOf s (5 : Nat)) i (1 : Nat)), h := fun (i : Nat) => decide (numI (subOf (itOf s (5 : Nat)) i (2 : Nat)) = (1 : Int)) : Nt }.put = s)) = true →
 sameVal (SV.bool true false) (SV.bool false true)) ∧
 ((!decide ({ s := numI (itOf s (1 : Nat)), e := numI (itOf s (2 : Nat)), b := numI (itOf s (3 : Nat)), root := cutIn (itOf s (4 : Nat)), n := itemsN (cutIn (itOf s (5 : Nat))), f := fun (i : Nat) => cutIn (subOf (itOf s (5 : Nat)) i (0 : Nat)), g := fun (i : Nat) => cutIn (subOf (itOf s (5 : Nat)) i (1 : Nat)), h := fun (i : Nat) => decide (numI (subOf (itOf s (5 : Nat)) i (2 : Nat)) = (1 : Int)) : Nt }.put = s)) = false →
 sameVal (SV.bool true false) (SV.bool false true))) ∧
 ({ s := numI (itOf s (1 : Nat)), e := numI (itOf s (2 : Nat)), b := numI (itOf s (3 : Nat)), root := cutIn (itOf s (4 : Nat)), n := itemsN (cutIn (itOf s (5 : Nat))), f := fun (i : Nat) => cutIn (subOf (itOf s (5 : Nat)) i (0 : Nat)), g := fun (i : Nat) => cutIn (subOf (itOf s (5 : Nat)) i (1 : Nat)), h := fun (i : Nat) => decide (numI (subOf (itOf s (5 : Nat)) i (2 : Nat)) = (1 : Int)) : Nt }.ok = false →
 ((!decide ([] = s)) = true →
 sameVal (SV.bool true false) (SV.bool false true)) ∧
 ((!decide ([] = s)) = false →
 sameVal (SV.bool true false) (SV.bool false true))))) ∧
 ({ s := numI (itOf s (1 : Nat)), q := numI (itOf s (2 : Nat)), e := numI (itOf s (3 : Nat)), v := numI (itOf s (4 : Nat)), root := cutIn (itOf s (5 : Nat)), n := itemsN (cutIn (itOf s (6 : Nat))), f := fun (i : Nat) => cutIn (subOf (itOf s (6 : Nat)) i (0 : Nat)), g := fun (i : Nat) => cutIn (subOf (itOf s (6 : Nat)) i (1 : Nat)), proof := cutIn (itOf s (7 : Nat)), more := decide (numI (itOf s (8 : Nat)) = (1 : Int)) : Rp }.ok = false →
 ((!decide ([] = s)) = true →
 sameVal (SV.bool true false) (SV.bool false true)) ∧
 ((!decide ([] = s)) = false →
 sameVal (SV.bool true false) (SV.bool false true)))) ∧
 (getNoticeB s = false →
 (((True ∧
 True ∧
 True ∧
 True ∧
 True ∧
 (false = false ∧
 (0 : Nat) + itemsN (cutIn (itOf s (6 : Nat))) ≤ itemsN (cutIn (itOf s (6 : Nat)))) ∧
 True ∧
 True ∧
 True) ∧
 True) ∧
 True) ∧
 ({ s := numI (itOf s (1 : Nat)), q := numI (itOf s (2 : Nat)), e := numI (itOf s (3 : Nat)), v := numI (itOf s (4 : Nat)), root := cutIn (itOf s (5 : Nat)), n := itemsN (cutIn (itOf s (6 : Nat))), f := fun (i : Nat) => cutIn (subOf (itOf s (6 : Nat)) i (0 : Nat)), g := fun (i : Nat) => cutIn (subOf (itOf s (6 : Nat)) i (1 : Nat)), proof := cutIn (itOf s (7 : Nat)), more := decide (numI (itOf s (8 : Nat)) = (1 : Int)) : Rp }.ok = true →
 ((!decide ({ s := numI (itOf s (1 : Nat)), q := numI (itOf s (2 : Nat)), e := numI (itOf s (3 : Nat)), v := numI (itOf s (4 : Nat)), root := cutIn (itOf s (5 : Nat)), n := itemsN (cutIn (itOf s (6 : Nat))), f := fun (i : Nat) => cutIn (subOf (itOf s (6 : Nat)) i (0 : Nat)), g := fun (i : Nat) => cutIn (subOf (itOf s (6 : Nat)) i (1 : Nat)), proof := cutIn (itOf s (7 : Nat)), more := decide (numI (itOf s (8 : Nat)) = (1 : Int)) : Rp }.put = s)) = true →
 sameVal (SV.bool true false) (SV.bool false true)) ∧
 ((!decide ({ s := numI (itOf s (1 : Nat)), q := numI (itOf s (2 : Nat)), e := numI (itOf s (3 : Nat)), v := numI (itOf s (4 : Nat)), root := cutIn (itOf s (5 : Nat)), n := itemsN (cutIn (itOf s (6 : Nat))), f := fun (i : Nat) => cutIn (subOf (itOf s (6 : Nat)) i (0 : Nat)), g := fun (i : Nat) => cutIn (subOf (itOf s (6 : Nat)) i (1 : Nat)), proof := cutIn (itOf s (7 : Nat)), more := decide (numI (itOf s (8 : Nat)) = (1 : Int)) : Rp }.put = s)) = false →
 s.length < (1099511627776 : Nat) ∧
 sameVal (SV.bool (true && true && (false && true)) (decide ((1 : Int) = (1 : Int)) == decide ((0 : Int) ≤ kindI s))) (SV.bool false true))) ∧
 ({ s := numI (itOf s (1 : Nat)), q := numI (itOf s (2 : Nat)), e := numI (itOf s (3 : Nat)), v := numI (itOf s (4 : Nat)), root := cutIn (itOf s (5 : Nat)), n := itemsN (cutIn (itOf s (6 : Nat))), f := fun (i : Nat) => cutIn (subOf (itOf s (6 : Nat)) i (0 : Nat)), g := fun (i : Nat) => cutIn (subOf (itOf s (6 : Nat)) i (1 : Nat)), proof := cutIn (itOf s (7 : Nat)), more := decide (numI (itOf s (8 : Nat)) = (1 : Int)) : Rp }.ok = false →
 ((!decide ([] = s)) = true →
 sameVal (SV.bool true false) (SV.bool false true)) ∧
 ((!decide ([] = s)) = false →
 sameVal (SV.bool true false) (SV.bool false true))))) ∧
 (getReplyB s = false →
 s.length < (1099511627776 : Nat) ∧
 (getNoticeB s = true →
 ∀ (x : Nat), itemsN (cutIn (itOf s (5 : Nat))) ≤ x →
 (((True ∧
 True ∧
 True ∧
 True ∧
 (false = false ∧
 (0 : Nat) + itemsN (cutIn (itOf s (5 : Nat))) ≤ itemsN (cutIn (itOf s (5 : Nat)))) ∧
 True) ∧
 True) ∧
 True) ∧
 ({ s := numI (itOf s (1 : Nat)), e := numI (itOf s (2 : Nat)), b := numI (itOf s (3 : Nat)), root := cutIn (itOf s (4 : Nat)), n := itemsN (cutIn (itOf s (5 : Nat))), f := fun (i : Nat) => cutIn (subOf (itOf s (5 : Nat)) i (0 : Nat)), g := fun (i : Nat) => cutIn (subOf (itOf s (5 : Nat)) i (1 : Nat)), h := fun (i : Nat) => decide (numI (subOf (itOf s (5 : Nat)) i (2 : Nat)) = (1 : Int)) : Nt }.ok = true →
 ((!decide ({ s := numI (itOf s (1 : Nat)), e := numI (itOf s (2 : Nat)), b := numI (itOf s (3 : Nat)), root := cutIn (itOf s (4 : Nat)), n := itemsN (cutIn (itOf s (5 : Nat))), f := fun (i : Nat) => cutIn (subOf (itOf s (5 : Nat)) i (0 : Nat)), g := fun (i : Nat) => cutIn (subOf (itOf s (5 : Nat)) i (1 : Nat)), h := fun (i : Nat) => decide (numI (subOf (itOf s (5 : Nat)) i (2 : Nat)) = (1 : Int)) : Nt }.put = s)) = true →
 sameVal (SV.bool true false) (SV.bool false true)) ∧
 ((!decide ({ s := numI (itOf s (1 : Nat)), e := numI (itOf s (2 : Nat)), b := numI (itOf s (3 : Nat)), root := cutIn (itOf s (4 : Nat)), n := itemsN (cutIn (itOf s (5 : Nat))), f := fun (i : Nat) => cutIn (subOf (itOf s (5 : Nat)) i (0 : Nat)), g := fun (i : Nat) => cutIn (subOf (itOf s (5 : Nat)) i (1 : Nat)), h := fun (i : Nat) => decide (numI (subOf (itOf s (5 : Nat)) i (2 : Nat)) = (1 : Int)) : Nt }.put = s)) = false →
 s.length < (1099511627776 : Nat) ∧
 sameVal (SV.bool (true && true && (false && true)) (decide ((1 : Int) = (1 : Int)) == decide ((0 : Int) ≤ kindI s))) (SV.bool false true))) ∧
 ({ s := numI (itOf s (1 : Nat)), e := numI (itOf s (2 : Nat)), b := numI (itOf s (3 : Nat)), root := cutIn (itOf s (4 : Nat)), n := itemsN (cutIn (itOf s (5 : Nat))), f := fun (i : Nat) => cutIn (subOf (itOf s (5 : Nat)) i (0 : Nat)), g := fun (i : Nat) => cutIn (subOf (itOf s (5 : Nat)) i (1 : Nat)), h := fun (i : Nat) => decide (numI (subOf (itOf s (5 : Nat)) i (2 : Nat)) = (1 : Int)) : Nt }.ok = false →
 ((!decide ([] = s)) = true →
 sameVal (SV.bool true false) (SV.bool false true)) ∧
 ((!decide ([] = s)) = false →
 sameVal (SV.bool true false) (SV.bool false true)))) ∧
 (getNoticeB s = false →
 s.length < (1099511627776 : Nat) ∧
 sameVal (SV.bool (true && true && (false && true)) (decide ((0 : Int) = (1 : Int)) == decide ((0 : Int) ≤ kindI s))) (SV.bool false true)))))) := by kernel_rfl
end Go.Proofs.YtocikfhejpilaaaDoor
/-
  Frame: FrameSizes, FrameCuts, FrameOnly: the runs and the plain laws.
-/
namespace Go.Proofs.YtocikfhejpilaaaDoor
open Go Sx
set_option maxRecDepth 20000

theorem sure {l b : Bool} (h : b = true) : sameVal (.bool l b) (.bool false true) := fun E => by subst h; rfl
theorem fsizes_holds (x : Ak) : Holds (runA cfgFL 6 Tryd.f6 [x.sv] (.ret (.bool false true))) := by
  refine Holds.of_eq (vcFSizes x) ?_
  refine ⟨trivial, fun _ => sure rfl, fun _ => ⟨fun _ => sure rfl, fun _ => ⟨trivial, fun h => ?_, fun _ => sure rfl⟩⟩⟩
  obtain ⟨a, b⟩ := Ak.size h
  exact ⟨fun _ => sure (decide_eq_true (by omega)), fun c => absurd c (by rw [decide_eq_true (by omega)]; decide)⟩
theorem fcuts_holds (x : Ak) {a : Int} (h0 : 0 ≤ a) (h1 : a < 65536) (more : List UInt8) :
    Holds (runA cfgFL 5 Tryd.f5 [x.sv, .int .u16 false a, .str false more] (.ret (.bool false true))) := by
  refine Holds.of_eq (vcFCuts x a more) ?_
  refine ⟨trivial, fun _ => sure rfl, fun _ => ⟨fun _ => sure rfl, fun _ => ⟨fun _ => sure rfl, fun hm => ⟨trivial, fun h => ?_, fun _ => sure rfl⟩⟩⟩⟩
  obtain ⟨s1, s2⟩ := Ak.size h
  have hm : ¬ (2000 : Int) < (more.length : Int) := of_decide_eq_false hm
  generalize hL : x.put.length = L at *
  have e1 : 0 ≤ a % (L : Int) := Int.emod_nonneg _ (by omega)
  have e2 : a % (L : Int) < (L : Int) := Int.emod_lt_of_pos _ (by omega)
  generalize hk : a % (L : Int) = k at *
  have es : subStr x.put none (some (Operand.tmp 48)) 0 k = x.put.take k.toNat := rfl
  rw [es, kind_less (ask_whole h) (by omega)]
  refine ⟨by omega, by omega, by omega, by rw [List.length_take]; omega, fun _ => ⟨fun _ => sure rfl, fun hn => ⟨by omega, ?_, sure ?_⟩⟩, fun c => absurd c (by decide)⟩
  · show (x.put ++ more).length < _
    rw [List.length_append]; omega
  · show decide (kindI (x.put ++ more) = -1) = true
    rw [kind_more (ask_whole h) (of_decide_eq_false hn)]; decide
attribute [local irreducible] numI itOf subOf itemsN itemsB itemAt cutIn cutB cutL cutRest getB num getReplyB getAskB getNoticeB kindI askD replyD noticeD
set_option maxHeartbeats 800000 in
theorem fonly_holds (s : List UInt8) : Holds (runA cfgFL 4 Tryd.f4 [.str false s] (.ret (.bool false true))) := by
  refine Holds.of_eq (vcFOnly s) ?_
  refine ⟨trivial, fun _ => sure rfl, fun hl => ?_⟩
  have hl : ¬ (2000 : Int) < (s.length : Int) := of_decide_eq_false hl
  have hs : s.length < 1099511627776 := by omega
  have ea : ({ k := numI (itOf s 1), s := numI (itOf s 2), q := numI (itOf s 3), a := numI (itOf s 4) - 1, key := cutIn (itOf s 5), to := cutIn (itOf s 6), lim := numI (itOf s 7) } : Ak) = askD s := by with_unfolding_all rfl
  have er : ({ s := numI (itOf s 1), q := numI (itOf s 2), e := numI (itOf s 3), v := numI (itOf s 4), root := cutIn (itOf s 5), n := itemsN (cutIn (itOf s 6)), f := fun i => cutIn (subOf (itOf s 6) i 0), g := fun i => cutIn (subOf (itOf s 6) i 1), proof := cutIn (itOf s 7), more := decide (numI (itOf s 8) = 1) } : Rp) = replyD s := by with_unfolding_all rfl
  have en : ({ s := numI (itOf s 1), e := numI (itOf s 2), b := numI (itOf s 3), root := cutIn (itOf s 4), n := itemsN (cutIn (itOf s 5)), f := fun i => cutIn (subOf (itOf s 5) i 0), g := fun i => cutIn (subOf (itOf s 5) i 1), h := fun i => decide (numI (subOf (itOf s 5) i 2) = 1) } : Nt) = noticeD s := by with_unfolding_all rfl
  simp only [ea, er, en, hs, Nat.zero_add, true_and, and_true]
  have one : sameVal (.bool true true) (.bool false true) := sure rfl
  have d0 : decide ((0 : Int) ≤ 0) = true := rfl
  have d1 : decide ((0 : Int) ≤ 1) = true := rfl
  have d2 : decide ((0 : Int) ≤ 2) = true := rfl
  have d3 : decide ((0 : Int) ≤ -1) = false := rfl
  cases hA : getAskB s with
  | true =>
    obtain ⟨ok, put, _, _⟩ := getAskB_facts hA
    obtain ⟨hR, hN⟩ := one_kind.1 hA
    have hk := kindI_ask hA
    simp only [hR, hN, hk, ok, put, d0, decide_true, Bool.not_true, Bool.false_eq_true, Bool.true_eq_false, false_imp_iff, forall_const, true_and, and_true]
    exact sure rfl
  | false =>
    cases hR : getReplyB s with
    | true =>
      obtain ⟨ok, put, _, _⟩ := getReplyB_facts hR
      have hN := (one_kind.2.1 hR).2
      have hk := kindI_reply hR
      simp only [hN, hk, ok, put, d1, decide_true, Bool.not_true, Bool.false_eq_true, Bool.true_eq_false, false_imp_iff, forall_const, true_and, and_true]
      exact fun _ _ => ⟨Nat.le_refl _, sure rfl⟩
    | false =>
      cases hN : getNoticeB s with
      | true =>
        obtain ⟨ok, put, _, _⟩ := getNoticeB_facts hN
        have hk := kindI_notice hN
        simp only [hk, ok, put, d2, decide_true, Bool.not_true, Bool.false_eq_true, Bool.true_eq_false, false_imp_iff, forall_const, true_and, and_true]
        exact fun _ _ => ⟨Nat.le_refl _, sure rfl⟩
      | false =>
        have hk := kindI_none hA hR hN
        simp only [hk, d3, Bool.false_eq_true, Bool.true_eq_false, false_imp_iff, forall_const, true_and, and_true]
        exact sure (by decide)
end Go.Proofs.YtocikfhejpilaaaDoor
/-
  Frame: the rows' set-up: what is laid; a world where it is; calls.
-/
namespace Go.Proofs.YtocikfhejpilaaaDoor
open Go Sx Go.RowKit Go.WideShapes Go.ChangeShapes

set_option maxRecDepth 100000
theorem Tryd.own : ownKnob Tryd.prog.godebug = none := by kernel_rfl
theorem Tryd.laidOut : laidOutB Tryd.prog = true := by kernel_rfl
theorem Tryd.et : Tryd.prog.globalNamed "errors.errorType" = some 0 := by kernel_rfl
theorem Tryd.rt : (Tryd.prog.cutTypes.find? (·.1 == "internal/reflectlite.rtype")).map (·.2) = some 149 := by kernel_rfl
theorem Tryd.oneRow : ((List.range Tryd.prog.types.size).filter fun t => Tryd.prog.rowNamed t [101, 114, 114, 111, 114]) = [93] := by kernel_rfl
abbrev laidL : List (String × DataW Unit) := [("errors.errorType", Rows.laid_errors_errorType)]
/-- What the condition gives: the variable's cell. -/
theorem glob_of_laid {W : World} (h : laidMetH Tryd.prog laidL W) : GlobOk W := by
  have h' : laidMet Tryd.prog [] W ∧ handlesMet Tryd.prog laidL W := h
  obtain ⟨name, u, ty, e1, e2, e3, e4, e5⟩ := h'.2 _ (List.mem_singleton.2 rfl)
  have en : name = [101, 114, 114, 111, 114] := (Option.some.inj e1).symm
  subst en
  obtain rfl := Option.some.inj (Tryd.rt.symm.trans e2)
  have hm : ty ∈ (List.range Tryd.prog.types.size).filter fun t => Tryd.prog.rowNamed t [101, 114, 114, 111, 114] := List.mem_filter.2 ⟨List.mem_range.2 e3, e4⟩
  rw [Tryd.oneRow] at hm
  obtain rfl := List.mem_singleton.1 hm
  have hh : typeHandle Tryd.prog 93 = .pointer (some ⟨Tryd.prog.globals.size, 93, none⟩) := by kernel_rfl
  rw [hh] at e5
  have hc : W.cell? ⟨0, 0, none⟩ = some (.iface 149 (.agg #[.pointer (some ⟨Tryd.prog.globals.size, 93, none⟩)])) := by
    simpa using World.var?_cell Tryd.et e5 0
  obtain ⟨c, tyy, fr, g1, g2⟩ := Sx.cells_of_cell hc
  intro p hp
  have hp' : p = (0, #[.iface 149 (.agg #[.pointer (some ⟨Tryd.prog.globals.size, 93, none⟩)])]) := List.mem_singleton.1 hp
  rw [hp']
  refine ⟨c, tyy, fr, g1, fun i v hv => ?_⟩
  cases i with
  | zero => simp only [List.getElem?_toArray, List.getElem?_cons_zero, Option.some.injEq] at hv; rw [← hv]; exact g2
  | succ i => simp at hv
/-- A world that meets the condition. -/
noncomputable def laidWorld (os : Os) : World :=
  let w0 := World.holding Tryd.prog os ⟨#[], #[], []⟩
  { w0 with heap := w0.heap.modify 0 fun
      | .cells _ t frozen => .cells #[.iface 149 (.agg #[.pointer (some ⟨Tryd.prog.globals.size, 93, none⟩)])] t frozen
      | o => o }
theorem laidWorld_met (os : Os) (args : Array Value) : laidMetH Tryd.prog laidL ((laidWorld os).forCall (fun _ _ => 0) ⟨#[], args, []⟩).memory :=
  laidMetH_of_parts (laidMet_nil _ _) (by kernel_rfl)
theorem run_calls {cfg : Cfg} (hg : Sx.Good Tryd.prog cfg) {f : FuncId} {fn : Func} (hf : Tryd.prog.funcs[f]? = some fn) (hn : (fn.name == "runtime.NumGoroutine") = false) (hb : fn.body.isSome = true) {args : List SV}
    (h : Holds (runA cfg f fn args (.ret (.bool false true)))) (hw : SV.wfs 0 args = true) {W : World} (hW : GlobOk W) (E : Nat → Nat) :
    Calls Tryd.prog f (SV.vals E args).toArray W fun e W' => e = .returned (.bool true) ∧ Below W.heap.size W W' := by
  have hc := calls_of_holds hg hf hn hb h rfl hw (SatM.none W hW)
  rw [SV.vals_pure hw (fun _ => 0) E] at hc
  refine hc.mono ?_
  rintro e w' ⟨v, rfl, E', sv, m', nx', _, _, g3, g4, g5⟩
  cases sv with
  | none => exact g5.elim
  | some u =>
    have hu : sameVal u (.bool false true) := g5
    exact ⟨by rw [g3 u rfl, hu E']; rfl, g4.ext.below fun _ h => h⟩
theorem cells_ask : Tryd.prog.cellTypes Tryd.prog.depth 23 = some [3, 3, 3, 3, 9, 9, 3] := by kernel_rfl
theorem open_ask {W : World} {base : Nat} {v : Value} (h : Value.okWide Tryd.prog W .any base 23 v) : ∃ x : Ak, v = x.sv.val (fun _ => 0) := by
  obtain ⟨cs, rfl, hs, hc⟩ := arg_row Tryd.underlying23 cells_ask (by kernel_rfl) h
  obtain ⟨x0, g0, o0⟩ := hc 0 _ rfl
  obtain ⟨x1, g1, o1⟩ := hc 1 _ rfl
  obtain ⟨x2, g2, o2⟩ := hc 2 _ rfl
  obtain ⟨x3, g3, o3⟩ := hc 3 _ rfl
  obtain ⟨x4, g4, o4⟩ := hc 4 _ rfl
  obtain ⟨x5, g5, o5⟩ := hc 5 _ rfl
  obtain ⟨x6, g6, o6⟩ := hc 6 _ rfl
  obtain ⟨k, rfl, _⟩ := cell_int Tryd.underlying3 o0
  obtain ⟨s, rfl, _⟩ := cell_int Tryd.underlying3 o1
  obtain ⟨q, rfl, _⟩ := cell_int Tryd.underlying3 o2
  obtain ⟨a, rfl, _⟩ := cell_int Tryd.underlying3 o3
  obtain ⟨key, rfl⟩ := cell_str Tryd.underlying9 o4
  obtain ⟨to, rfl⟩ := cell_str Tryd.underlying9 o5
  obtain ⟨l, rfl, _⟩ := cell_int Tryd.underlying3 o6
  refine ⟨⟨k, s, q, a, key, to, l⟩, ?_⟩
  have e := agg_of (cs := cs) (l := [.int .i64 k, .int .i64 s, .int .i64 q, .int .i64 a, .string ⟨key.toArray⟩, .string ⟨to.toArray⟩, .int .i64 l]) hs (fun j v hj => by
    match j, hj with
    | 0, hj => injection hj with hj; subst hj; exact g0
    | 1, hj => injection hj with hj; subst hj; exact g1
    | 2, hj => injection hj with hj; subst hj; exact g2
    | 3, hj => injection hj with hj; subst hj; exact g3
    | 4, hj => injection hj with hj; subst hj; exact g4
    | 5, hj => injection hj with hj; subst hj; exact g5
    | 6, hj => injection hj with hj; subst hj; exact g6)
  rw [e]; rfl
end Go.Proofs.YtocikfhejpilaaaDoor
