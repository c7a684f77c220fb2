/-
  Conditions that the executor computes, written out by a program (vcgen.py).
-/
import Derived.Test.YtobbhdmbblhgaaaLsI
namespace Go.Proofs.Ytobbhdmbblhgaaa
open Go Sx

theorem vcClock (most term id a b : Int) (z : Bool) (o n c : Nat) (g : Nat → Ac) (post : SV → Prop) : VC.holds (clockVC most term id a b z o n c 1 g post) = (∃ (g_1 : Nat → Ac),
  SBle
      (SB.view z o n
        [Col.int IntKind.i64 fun (i : Nat) => (g i).k, Col.int IntKind.i64 fun (i : Nat) => (g i).id, Col.int IntKind.i64 fun (i : Nat) => (g i).block,
          Col.int IntKind.i64 fun (i : Nat) => (g i).clock, Col.int IntKind.i64 fun (i : Nat) => (g i).seq, Col.str fun (i : Nat) => (g i).text])
      (SB.view z o n (acCols g_1)) ∧
    ∀ (b_1 : Bool),
      (b_1 = true → Few n g_1) →
        ((!b_1) = true → post (SV.bool true !false)) ∧
          ((!b_1) = false →
            (decide (a < (0 : Int)) = true → post (SV.bool true !false)) ∧
              (decide (a < (0 : Int)) = false →
                (decide (b < a) = true → post (SV.bool true !false)) ∧
                  (decide (b < a) = false →
                    (decide ((1000000 : Int) < b) = true → post (SV.bool true !false)) ∧
                      (decide ((1000000 : Int) < b) = false →
                        (∃ (y : ActG),
                            (y.i ≤ n ∧ Inv (topM most) y.i y.T) ∧
                              (0 : Int) = (↑y.i : Int) ∧
                                SBle
                                    (SB.cells
                                      [SV.int IntKind.i64 (false && true && true) (min (max most (1 : Int)) (4 : Int)),
                                        SV.int IntKind.i64 (false && true && true) (min (max term (1 : Int)) (1000 : Int)), SV.int IntKind.i64 true (0 : Int), SV.int IntKind.i64 true (0 : Int),
                                        SV.int IntKind.i64 true (0 : Int), SV.int IntKind.i64 true (0 : Int), SV.int IntKind.i64 true (0 : Int), SV.str true [], SV.int IntKind.i64 true (0 : Int),
                                        SV.str true [], SV.int IntKind.i64 true (0 : Int), SV.int IntKind.i64 true (0 : Int), SV.int IntKind.i64 true (0 : Int), SV.int IntKind.i64 true (0 : Int),
                                        SV.int IntKind.i64 true (0 : Int), SV.int IntKind.i64 true (0 : Int), SV.str true [], SV.int IntKind.i64 true (0 : Int), SV.str true [],
                                        SV.int IntKind.i64 true (0 : Int), SV.int IntKind.i64 true (0 : Int), SV.int IntKind.i64 true (0 : Int), SV.int IntKind.i64 true (0 : Int),
                                        SV.int IntKind.i64 true (0 : Int), SV.int IntKind.i64 true (0 : Int), SV.str true [], SV.int IntKind.i64 true (0 : Int), SV.str true [],
                                        SV.int IntKind.i64 true (0 : Int), SV.int IntKind.i64 true (0 : Int), SV.int IntKind.i64 true (0 : Int), SV.int IntKind.i64 true (0 : Int),
                                        SV.int IntKind.i64 true (0 : Int), SV.int IntKind.i64 true (0 : Int), SV.str true [], SV.int IntKind.i64 true (0 : Int), SV.str true [],
                                        SV.int IntKind.i64 true (0 : Int), SV.int IntKind.i64 true (0 : Int), SV.int IntKind.i64 true (0 : Int), SV.int IntKind.i64 true (0 : Int),
                                        SV.int IntKind.i64 true (0 : Int), SV.int IntKind.i64 true (0 : Int), SV.int IntKind.i64 true (0 : Int), SV.int IntKind.i64 true (0 : Int),
                                        SV.int IntKind.i64 true (0 : Int), SV.int IntKind.i64 true (0 : Int), SV.int IntKind.i64 true (0 : Int), SV.int IntKind.i64 true (0 : Int)]
                                      (49 : Nat) (61 : Nat))
                                    y.T.sbO ∧
                                  SBle (SB.view z o n (acCols g)) (SB.view z o n (acCols g)) ∧ True) ∧
                          ∀ (x : ActG),
                            x.i ≤ n ∧ Inv (topM most) x.i x.T →
                              (decide ((↑x.i : Int) < (↑n : Int)) = true →
                                  ((0 : Int) ≤ (↑x.i : Int) ∧ (↑x.i : Int) < (↑n : Int)) ∧
                                    (o = o ∧ (0 : Nat) + (↑x.i : Int).toNat < n) ∧
                                      ∃ (T : Tb),
                                        SBle (SB.cells x.T.svO (49 : Nat) tableT) T.sbO ∧
                                          (T.Ok ∧ okClock (g ((0 : Nat) + (↑x.i : Int).toNat)).clock) ∧
                                            ∀ (c : Nat),
                                              (T.act (g ((0 : Nat) + (↑x.i : Int).toNat))).fst.all.length ≤ c →
                                                ((-9223372036854775808 : Int) ≤ (↑x.i : Int) + (1 : Int) ∧ (↑x.i : Int) + (1 : Int) ≤ (9223372036854775807 : Int)) ∧
                                                  ∃ (y : ActG),
                                                    ((y.i ≤ n ∧ Inv (topM most) y.i y.T) ∧ n - y.i < n - x.i) ∧
                                                      (↑x.i : Int) + (1 : Int) = (↑y.i : Int) ∧
                                                        SBle (SB.cells (T.act (g ((0 : Nat) + (↑x.i : Int).toNat))).snd.svO (49 : Nat) tableT) y.T.sbO ∧
                                                          SBle (SB.view z o n (acCols g)) (SB.view z o n (acCols g)) ∧ True) ∧
                                (decide ((↑x.i : Int) < (↑n : Int)) = false →
                                  ∃ (T : Tb),
                                    SBle (SB.cells x.T.svO (49 : Nat) tableT) T.sbO ∧
                                      (T.Ok ∧ True) ∧
                                        ∃ (T_1 : Tb),
                                          SBle (SB.cells T.svO (49 : Nat) tableT) T_1.sbO ∧
                                            (T_1.Ok ∧ True) ∧
                                              (decide (T.live id a = (5 : Int)) = true → post (SV.bool (false && false) (decide (T.live id a = T_1.live id b)))) ∧
                                                (decide (T.live id a = (5 : Int)) = false →
                                                  (decide (T_1.live id b = (5 : Int)) = true → post (SV.bool (false && false) (decide (T.live id a = T_1.live id b)))) ∧
                                                    (decide (T_1.live id b = (5 : Int)) = false →
                                                      ((!decide (T.live id a = (6 : Int))) = true →
                                                          ((!decide (T_1.live id b = (0 : Int))) = true →
                                                              (decide (T.live id a = (0 : Int)) = true → post (SV.bool true true)) ∧
                                                                (decide (T.live id a = (0 : Int)) = false → post (SV.bool (false && true) (decide (T.live id a = (6 : Int)))))) ∧
                                                            ((!decide (T_1.live id b = (0 : Int))) = false →
                                                              (decide (T.live id a = (0 : Int)) = true →
                                                                  (decide (T.live id a = (0 : Int)) = true → post (SV.bool true true)) ∧
                                                                    (decide (T.live id a = (0 : Int)) = false → post (SV.bool (false && true) (decide (T.live id a = (6 : Int)))))) ∧
                                                                (decide (T.live id a = (0 : Int)) = false → post (SV.bool true false)))) ∧
                                                        ((!decide (T.live id a = (6 : Int))) = false →
                                                          (decide (T_1.live id b = (6 : Int)) = true →
                                                              ((!decide (T_1.live id b = (0 : Int))) = true →
                                                                  (decide (T.live id a = (0 : Int)) = true → post (SV.bool true true)) ∧
                                                                    (decide (T.live id a = (0 : Int)) = false → post (SV.bool (false && true) (decide (T.live id a = (6 : Int)))))) ∧
                                                                ((!decide (T_1.live id b = (0 : Int))) = false →
                                                                  (decide (T.live id a = (0 : Int)) = true →
                                                                      (decide (T.live id a = (0 : Int)) = true → post (SV.bool true true)) ∧
                                                                        (decide (T.live id a = (0 : Int)) = false → post (SV.bool (false && true) (decide (T.live id a = (6 : Int)))))) ∧
                                                                    (decide (T.live id a = (0 : Int)) = false → post (SV.bool true false)))) ∧
                                                            (decide (T_1.live id b = (6 : Int)) = false → post (SV.bool true false))))))))))) := by kernel_rfl
end Go.Proofs.Ytobbhdmbblhgaaa
