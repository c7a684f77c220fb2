/-
  Conditions that the executor computes, written out by a program (vcgen.py).
-/
import Derived.Test.YtobbhdmbblhgaaaLsD
namespace Go.Proofs.Ytobbhdmbblhgaaa
open Go Sx

theorem vcFew (z : Bool) (o n c : Nat) (g : Nat → Ac) (post : SV → Prop) : VC.holds (fewVC z o n c g post) = ((∃ (y : Nat), (y ≤ n ∧ y ≤ (61 : Nat) ∧ ∀ (j : Nat), j < y → okClock (g j).clock) ∧ (0 : Int) = (↑y : Int) ∧ SBle (SB.view z o n (acCols g)) (SB.view z o n (acCols g)) ∧ True) ∧
  ∀ (x : Nat),
    (x ≤ n ∧ x ≤ (61 : Nat) ∧ ∀ (j : Nat), j < x → okClock (g j).clock) →
      (decide ((↑x : Int) < (↑n : Int)) = true →
          (decide ((↑x : Int) ≤ (60 : Int)) = true →
              ((0 : Int) ≤ (↑x : Int) ∧ (↑x : Int) < (↑n : Int)) ∧
                (o = o ∧ (0 : Nat) + (↑x : Int).toNat < n) ∧
                  (decide ((50 : Int) < (↑(g ((0 : Nat) + (↑x : Int).toNat)).text.length : Int)) = true → post (SV.bool true false)) ∧
                    (decide ((50 : Int) < (↑(g ((0 : Nat) + (↑x : Int).toNat)).text.length : Int)) = false →
                      ((0 : Int) ≤ (↑x : Int) ∧ (↑x : Int) < (↑n : Int)) ∧
                        (o = o ∧ (0 : Nat) + (↑x : Int).toNat < n) ∧
                          (decide ((g ((0 : Nat) + (↑x : Int).toNat)).clock < (0 : Int)) = true → post (SV.bool true false)) ∧
                            (decide ((g ((0 : Nat) + (↑x : Int).toNat)).clock < (0 : Int)) = false →
                              ((0 : Int) ≤ (↑x : Int) ∧ (↑x : Int) < (↑n : Int)) ∧
                                (o = o ∧ (0 : Nat) + (↑x : Int).toNat < n) ∧
                                  (decide ((1000000 : Int) < (g ((0 : Nat) + (↑x : Int).toNat)).clock) = true → post (SV.bool true false)) ∧
                                    (decide ((1000000 : Int) < (g ((0 : Nat) + (↑x : Int).toNat)).clock) = false →
                                      ((0 : Int) ≤ (↑x : Int) ∧ (↑x : Int) < (↑n : Int)) ∧
                                        (o = o ∧ (0 : Nat) + (↑x : Int).toNat < n) ∧
                                          (decide ((g ((0 : Nat) + (↑x : Int).toNat)).block < (0 : Int)) = true → post (SV.bool true false)) ∧
                                            (decide ((g ((0 : Nat) + (↑x : Int).toNat)).block < (0 : Int)) = false →
                                              ((0 : Int) ≤ (↑x : Int) ∧ (↑x : Int) < (↑n : Int)) ∧
                                                (o = o ∧ (0 : Nat) + (↑x : Int).toNat < n) ∧
                                                  (decide ((1000000 : Int) < (g ((0 : Nat) + (↑x : Int).toNat)).block) = true → post (SV.bool true false)) ∧
                                                    (decide ((1000000 : Int) < (g ((0 : Nat) + (↑x : Int).toNat)).block) = false →
                                                      ((-9223372036854775808 : Int) ≤ (↑x : Int) + (1 : Int) ∧ (↑x : Int) + (1 : Int) ≤ (9223372036854775807 : Int)) ∧
                                                        ∃ (y : Nat),
                                                          ((y ≤ n ∧ y ≤ (61 : Nat) ∧ ∀ (j : Nat), j < y → okClock (g j).clock) ∧ n - y < n - x) ∧
                                                            (↑x : Int) + (1 : Int) = (↑y : Int) ∧ SBle (SB.view z o n (acCols g)) (SB.view z o n (acCols g)) ∧ True)))))) ∧
            (decide ((↑x : Int) ≤ (60 : Int)) = false → post (SV.bool (false && true) (decide ((↑n : Int) ≤ (60 : Int)))))) ∧
        (decide ((↑x : Int) < (↑n : Int)) = false → post (SV.bool (false && true) (decide ((↑n : Int) ≤ (60 : Int)))))) := by kernel_rfl
theorem vcSame (z z' : Bool) (a b : List Sl) (c c' tot tot' : Nat) (post : SV → Prop) : VC.holds (sameVC z z' a b c c' tot tot' post) = (((!decide ((↑a.length : Int) = (↑b.length : Int))) = true → post (SV.bool true false)) ∧
  ((!decide ((↑a.length : Int) = (↑b.length : Int))) = false →
    (∃ (y : Nat),
        (y ≤ a.length ∧ ∀ (j : Nat), j < y → (a.getD j Sl.zero).bare = (b.getD j Sl.zero).bare) ∧
          (0 : Int) = (↑y : Int) ∧
            SBle (SB.rows z a.length (sessCols a) true tot sessT) (SB.rows z a.length (sessCols a) true tot sessT) ∧
              SBle (SB.rows z' b.length (sessCols b) true tot' sessT) (SB.rows z' b.length (sessCols b) true tot' sessT) ∧ True) ∧
      ∀ (x : Nat),
        (x ≤ a.length ∧ ∀ (j : Nat), j < x → (a.getD j Sl.zero).bare = (b.getD j Sl.zero).bare) →
          (decide ((↑x : Int) < (↑a.length : Int)) = true →
              ((0 : Int) ≤ (↑x : Int) ∧ (↑x : Int) < (↑a.length : Int)) ∧
                (0 : Nat) + (↑x : Int).toNat < a.length ∧
                  ((0 : Int) ≤ (↑x : Int) ∧ (↑x : Int) < (↑b.length : Int)) ∧
                    (0 : Nat) + (↑x : Int).toNat < b.length ∧
                      ((!(decide ((a.getD ((0 : Nat) + (↑x : Int).toNat) Sl.zero).id = (b.getD ((0 : Nat) + (↑x : Int).toNat) Sl.zero).id) &&
                                (decide ((a.getD ((0 : Nat) + (↑x : Int).toNat) Sl.zero).block = (b.getD ((0 : Nat) + (↑x : Int).toNat) Sl.zero).block) &&
                                  (decide ((a.getD ((0 : Nat) + (↑x : Int).toNat) Sl.zero).dl = (b.getD ((0 : Nat) + (↑x : Int).toNat) Sl.zero).dl) &&
                                    (decide ((a.getD ((0 : Nat) + (↑x : Int).toNat) Sl.zero).last = (b.getD ((0 : Nat) + (↑x : Int).toNat) Sl.zero).last) && true))))) =
                            true →
                          post (SV.bool true false)) ∧
                        ((!(decide ((a.getD ((0 : Nat) + (↑x : Int).toNat) Sl.zero).id = (b.getD ((0 : Nat) + (↑x : Int).toNat) Sl.zero).id) &&
                                (decide ((a.getD ((0 : Nat) + (↑x : Int).toNat) Sl.zero).block = (b.getD ((0 : Nat) + (↑x : Int).toNat) Sl.zero).block) &&
                                  (decide ((a.getD ((0 : Nat) + (↑x : Int).toNat) Sl.zero).dl = (b.getD ((0 : Nat) + (↑x : Int).toNat) Sl.zero).dl) &&
                                    (decide ((a.getD ((0 : Nat) + (↑x : Int).toNat) Sl.zero).last = (b.getD ((0 : Nat) + (↑x : Int).toNat) Sl.zero).last) && true))))) =
                            false →
                          ((-9223372036854775808 : Int) ≤ (↑x : Int) + (1 : Int) ∧ (↑x : Int) + (1 : Int) ≤ (9223372036854775807 : Int)) ∧
                            ∃ (y : Nat),
                              ((y ≤ a.length ∧ ∀ (j : Nat), j < y → (a.getD j Sl.zero).bare = (b.getD j Sl.zero).bare) ∧ a.length - y < a.length - x) ∧
                                (↑x : Int) + (1 : Int) = (↑y : Int) ∧
                                  SBle (SB.rows z a.length (sessCols a) true tot sessT) (SB.rows z a.length (sessCols a) true tot sessT) ∧
                                    SBle (SB.rows z' b.length (sessCols b) true tot' sessT) (SB.rows z' b.length (sessCols b) true tot' sessT) ∧ True)) ∧
            (decide ((↑x : Int) < (↑a.length : Int)) = false → post (SV.bool true true)))) := by kernel_rfl
end Go.Proofs.Ytobbhdmbblhgaaa
