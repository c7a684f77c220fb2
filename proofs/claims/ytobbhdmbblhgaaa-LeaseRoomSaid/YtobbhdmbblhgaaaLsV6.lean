/-
  Conditions that the executor computes, written out by a program (vcgen.py).
-/
import Derived.Test.YtobbhdmbblhgaaaLsH
namespace Go.Proofs.Ytobbhdmbblhgaaa
open Go Sx

theorem vcRoom (most term : Int) (z : Bool) (o n c : Nat) (g : Nat → Ac) (post : SV → Prop) : VC.holds (roomVC most term z o n c 1 g post) = (∃ (g_1 : Nat → Ac),
  SBle
      (SB.view z o n
        [Col.int IntKind.i64 fun (i : Nat) => (g i).k, Col.int IntKind.i64 fun (i : Nat) => (g i).id, Col.int IntKind.i64 fun (i : Nat) => (g i).block,
          Col.int IntKind.i64 fun (i : Nat) => (g i).clock, Col.int IntKind.i64 fun (i : Nat) => (g i).seq, Col.str fun (i : Nat) => (g i).text])
      (SB.view z o n (acCols g_1)) ∧
    ∀ (b : Bool),
      (b = true → Few n g_1) →
        ((!b) = true → post (SV.bool true !false)) ∧
          ((!b) = false →
            (∃ (y : ActG),
                (y.i ≤ n ∧ Inv (topM most) y.i y.T) ∧
                  (0 : Int) = (↑y.i : Int) ∧
                    (0 : Int) = y.T.opened ∧
                      SBle
                          (SB.cells
                            [SV.int IntKind.i64 (false && true && true) (min (max most (1 : Int)) (4 : Int)), SV.int IntKind.i64 (false && true && true) (min (max term (1 : Int)) (1000 : Int)),
                              SV.int IntKind.i64 true (0 : Int), SV.int IntKind.i64 true (0 : Int), SV.int IntKind.i64 true (0 : Int), SV.int IntKind.i64 true (0 : Int),
                              SV.int IntKind.i64 true (0 : Int), SV.str true [], SV.int IntKind.i64 true (0 : Int), SV.str true [], SV.int IntKind.i64 true (0 : Int),
                              SV.int IntKind.i64 true (0 : Int), SV.int IntKind.i64 true (0 : Int), SV.int IntKind.i64 true (0 : Int), SV.int IntKind.i64 true (0 : Int),
                              SV.int IntKind.i64 true (0 : Int), SV.str true [], SV.int IntKind.i64 true (0 : Int), SV.str true [], SV.int IntKind.i64 true (0 : Int),
                              SV.int IntKind.i64 true (0 : Int), SV.int IntKind.i64 true (0 : Int), SV.int IntKind.i64 true (0 : Int), SV.int IntKind.i64 true (0 : Int),
                              SV.int IntKind.i64 true (0 : Int), SV.str true [], SV.int IntKind.i64 true (0 : Int), SV.str true [], SV.int IntKind.i64 true (0 : Int),
                              SV.int IntKind.i64 true (0 : Int), SV.int IntKind.i64 true (0 : Int), SV.int IntKind.i64 true (0 : Int), SV.int IntKind.i64 true (0 : Int),
                              SV.int IntKind.i64 true (0 : Int), SV.str true [], SV.int IntKind.i64 true (0 : Int), SV.str true [], SV.int IntKind.i64 true (0 : Int),
                              SV.int IntKind.i64 true (0 : Int), SV.int IntKind.i64 true (0 : Int), SV.int IntKind.i64 true (0 : Int), SV.int IntKind.i64 true (0 : Int),
                              SV.int IntKind.i64 true (0 : Int), SV.int IntKind.i64 true (0 : Int), SV.int IntKind.i64 true (0 : Int), SV.int IntKind.i64 true (0 : Int),
                              SV.int IntKind.i64 true (0 : Int), SV.int IntKind.i64 true (0 : Int), SV.int IntKind.i64 true (0 : Int)]
                            (49 : Nat) (61 : Nat))
                          y.T.sbO ∧
                        SBle (SB.view z o n (acCols g)) (SB.view z o n (acCols g)) ∧ True) ∧
              ∀ (x : ActG),
                x.i ≤ n ∧ Inv (topM most) x.i x.T →
                  (decide ((↑x.i : Int) < (↑n : Int)) = true →
                      ((0 : Int) ≤ (↑x.i : Int) ∧ (↑x.i : Int) < (↑n : Int)) ∧
                        (o = o ∧ (0 : Nat) + (↑x.i : Int).toNat < n) ∧
                          ∃ (T : Tb),
                            SBle (SB.cells x.T.svO (49 : Nat) tableT) T.sbO ∧
                              (T.Ok ∧ okClock (g ((0 : Nat) + (↑x.i : Int).toNat)).clock) ∧
                                ∀ (c : Nat),
                                  (T.act (g ((0 : Nat) + (↑x.i : Int).toNat))).fst.all.length ≤ c →
                                    ((0 : Int) ≤ (↑x.i : Int) ∧ (↑x.i : Int) < (↑n : Int)) ∧
                                      (o = o ∧ (0 : Nat) + (↑x.i : Int).toNat < n) ∧
                                        (decide ((g ((0 : Nat) + (↑x.i : Int).toNat)).k = (0 : Int)) = true →
                                            (decide ((T.act (g ((0 : Nat) + (↑x.i : Int).toNat))).fst.e = (0 : Int)) = true →
                                                ((-9223372036854775808 : Int) ≤ x.T.opened + (1 : Int) ∧ x.T.opened + (1 : Int) ≤ (9223372036854775807 : Int)) ∧
                                                  ((!decide ((T.act (g ((0 : Nat) + (↑x.i : Int).toNat))).fst.n = x.T.opened + (1 : Int))) = true → post (SV.bool true false)) ∧
                                                    ((!decide ((T.act (g ((0 : Nat) + (↑x.i : Int).toNat))).fst.n = x.T.opened + (1 : Int))) = false →
                                                      ∃ (T_1 : Tb),
                                                        SBle (SB.cells (T.act (g ((0 : Nat) + (↑x.i : Int).toNat))).snd.svO (49 : Nat) tableT) T_1.sbO ∧
                                                          (T_1.Ok ∧ True) ∧
                                                            ∀ (c_1 : Nat),
                                                              T_1.ss.length ≤ c_1 →
                                                                (decide (min (max most (1 : Int)) (4 : Int) < (↑T_1.ss.length : Int)) = true → post (SV.bool true false)) ∧
                                                                  (decide (min (max most (1 : Int)) (4 : Int) < (↑T_1.ss.length : Int)) = false →
                                                                    ∃ (T_2 : Tb),
                                                                      SBle (SB.cells T_1.svO (49 : Nat) tableT) T_2.sbO ∧
                                                                        (T_2.Ok ∧ True) ∧
                                                                          ((-9223372036854775808 : Int) ≤ (2 : Int) * (↑T_1.ss.length : Int) ∧
                                                                              (2 : Int) * (↑T_1.ss.length : Int) ≤ (9223372036854775807 : Int)) ∧
                                                                            (decide ((2 : Int) * (↑T_1.ss.length : Int) < kept T_2.ss) = true → post (SV.bool true false)) ∧
                                                                              (decide ((2 : Int) * (↑T_1.ss.length : Int) < kept T_2.ss) = false →
                                                                                (∃ (y : Nat),
                                                                                    y ≤ (4 : Nat) ∧
                                                                                      (0 : Int) = (↑y : Int) ∧
                                                                                        SBle (SB.rows false T_1.ss.length (sessCols T_1.ss) false (c_1 * (4 : Nat)) sessT)
                                                                                            (SB.rows false T_1.ss.length (sessCols T_1.ss) false (c_1 * (4 : Nat)) sessT) ∧
                                                                                          SBle
                                                                                              (SB.cells
                                                                                                (setRange
                                                                                                  (SV.agg
                                                                                                      [SV.int IntKind.i64 true (0 : Int), SV.int IntKind.i64 true (0 : Int), SV.str true [],
                                                                                                        SV.int IntKind.i64 true (0 : Int), SV.int IntKind.i64 true (0 : Int),
                                                                                                        SV.int IntKind.i64 true (0 : Int), SV.int IntKind.i64 true (0 : Int), SV.nilslc]).cells
                                                                                                  (0 : Nat)
                                                                                                  ((T.act (g ((0 : Nat) + (↑x.i : Int).toNat))).fst.sv
                                                                                                      (SV.rslc ((1 : Nat) + (1 : Nat) + (0 : Nat)) (4 : Nat) true (0 : Nat)
                                                                                                        (T.act (g ((0 : Nat) + (↑x.i : Int).toNat))).fst.all.length c)).cells)
                                                                                                (8 : Nat) (32 : Nat))
                                                                                              (SB.cells
                                                                                                (setRange
                                                                                                  (SV.agg
                                                                                                      [SV.int IntKind.i64 true (0 : Int), SV.int IntKind.i64 true (0 : Int), SV.str true [],
                                                                                                        SV.int IntKind.i64 true (0 : Int), SV.int IntKind.i64 true (0 : Int),
                                                                                                        SV.int IntKind.i64 true (0 : Int), SV.int IntKind.i64 true (0 : Int), SV.nilslc]).cells
                                                                                                  (0 : Nat)
                                                                                                  ((T.act (g ((0 : Nat) + (↑x.i : Int).toNat))).fst.sv
                                                                                                      (SV.rslc ((1 : Nat) + (1 : Nat) + (0 : Nat)) (4 : Nat) true (0 : Nat)
                                                                                                        (T.act (g ((0 : Nat) + (↑x.i : Int).toNat))).fst.all.length c)).cells)
                                                                                                (8 : Nat) (32 : Nat)) ∧
                                                                                            SBle
                                                                                                (SB.rows true (T.act (g ((0 : Nat) + (↑x.i : Int).toNat))).fst.all.length
                                                                                                  (sessCols (T.act (g ((0 : Nat) + (↑x.i : Int).toNat))).fst.all) false (c * (4 : Nat)) sessT)
                                                                                                (SB.rows true (T.act (g ((0 : Nat) + (↑x.i : Int).toNat))).fst.all.length
                                                                                                  (sessCols (T.act (g ((0 : Nat) + (↑x.i : Int).toNat))).fst.all) false (c * (4 : Nat)) sessT) ∧
                                                                                              SBle T_2.sbO T_2.sbO ∧ SBle (SB.view z o n (acCols g)) (SB.view z o n (acCols g)) ∧ True) ∧
                                                                                  ∀ (x_10 : Nat),
                                                                                    x_10 ≤ (4 : Nat) →
                                                                                      (decide ((↑x_10 : Int) < (↑T_1.ss.length : Int)) = true →
                                                                                          ((0 : Int) ≤ (↑x_10 : Int) ∧ (↑x_10 : Int) < (↑T_1.ss.length : Int)) ∧
                                                                                            (0 : Nat) + (↑x_10 : Int).toNat < T_1.ss.length ∧
                                                                                              (decide
                                                                                                      ((T.act (g ((0 : Nat) + (↑x.i : Int).toNat))).fst.n <
                                                                                                        (T_1.ss.getD ((0 : Nat) + (↑x_10 : Int).toNat) Sl.zero).id) =
                                                                                                    true →
                                                                                                  post (SV.bool true false)) ∧
                                                                                                (decide
                                                                                                      ((T.act (g ((0 : Nat) + (↑x.i : Int).toNat))).fst.n <
                                                                                                        (T_1.ss.getD ((0 : Nat) + (↑x_10 : Int).toNat) Sl.zero).id) =
                                                                                                    false →
                                                                                                  (decide ((0 : Int) < (↑x_10 : Int)) = true →
                                                                                                      ((-9223372036854775808 : Int) ≤ (↑x_10 : Int) - (1 : Int) ∧
                                                                                                          (↑x_10 : Int) - (1 : Int) ≤ (9223372036854775807 : Int)) ∧
                                                                                                        ((0 : Int) ≤ (↑x_10 : Int) - (1 : Int) ∧ (↑x_10 : Int) - (1 : Int) < (↑T_1.ss.length : Int)) ∧
                                                                                                          (0 : Nat) + ((↑x_10 : Int) - (1 : Int)).toNat < T_1.ss.length ∧
                                                                                                            ((0 : Int) ≤ (↑x_10 : Int) ∧ (↑x_10 : Int) < (↑T_1.ss.length : Int)) ∧
                                                                                                              (0 : Nat) + (↑x_10 : Int).toNat < T_1.ss.length ∧
                                                                                                                (decide
                                                                                                                        ((T_1.ss.getD ((0 : Nat) + (↑x_10 : Int).toNat) Sl.zero).id ≤
                                                                                                                          (T_1.ss.getD ((0 : Nat) + ((↑x_10 : Int) - (1 : Int)).toNat) Sl.zero).id) =
                                                                                                                      true →
                                                                                                                    post (SV.bool true false)) ∧
                                                                                                                  (decide
                                                                                                                        ((T_1.ss.getD ((0 : Nat) + (↑x_10 : Int).toNat) Sl.zero).id ≤
                                                                                                                          (T_1.ss.getD ((0 : Nat) + ((↑x_10 : Int) - (1 : Int)).toNat) Sl.zero).id) =
                                                                                                                      false →
                                                                                                                    ((-9223372036854775808 : Int) ≤ (↑x_10 : Int) + (1 : Int) ∧
                                                                                                                        (↑x_10 : Int) + (1 : Int) ≤ (9223372036854775807 : Int)) ∧
                                                                                                                      ∃ (y : Nat),
                                                                                                                        (y ≤ (4 : Nat) ∧ (4 : Nat) - y < (4 : Nat) - x_10) ∧
                                                                                                                          (↑x_10 : Int) + (1 : Int) = (↑y : Int) ∧
                                                                                                                            SBle
                                                                                                                                (SB.rows false T_1.ss.length (sessCols T_1.ss) false (c_1 * (4 : Nat))
                                                                                                                                  sessT)
                                                                                                                                (SB.rows false T_1.ss.length (sessCols T_1.ss) false (c_1 * (4 : Nat))
                                                                                                                                  sessT) ∧
                                                                                                                              SBle
                                                                                                                                  (SB.cells
                                                                                                                                    (setRange
                                                                                                                                      (SV.agg
                                                                                                                                          [SV.int IntKind.i64 true (0 : Int),
                                                                                                                                            SV.int IntKind.i64 true (0 : Int), SV.str true [],
                                                                                                                                            SV.int IntKind.i64 true (0 : Int),
                                                                                                                                            SV.int IntKind.i64 true (0 : Int),
                                                                                                                                            SV.int IntKind.i64 true (0 : Int),
                                                                                                                                            SV.int IntKind.i64 true (0 : Int), SV.nilslc]).cells
                                                                                                                                      (0 : Nat)
                                                                                                                                      ((T.act (g ((0 : Nat) + (↑x.i : Int).toNat))).fst.sv
                                                                                                                                          (SV.rslc ((1 : Nat) + (1 : Nat) + (0 : Nat)) (4 : Nat) true
                                                                                                                                            (0 : Nat)
                                                                                                                                            (T.act (g ((0 : Nat) + (↑x.i : Int).toNat))).fst.all.length
                                                                                                                                            c)).cells)
                                                                                                                                    (8 : Nat) (32 : Nat))
                                                                                                                                  (SB.cells
                                                                                                                                    (setRange
                                                                                                                                      (SV.agg
                                                                                                                                          [SV.int IntKind.i64 true (0 : Int),
                                                                                                                                            SV.int IntKind.i64 true (0 : Int), SV.str true [],
                                                                                                                                            SV.int IntKind.i64 true (0 : Int),
                                                                                                                                            SV.int IntKind.i64 true (0 : Int),
                                                                                                                                            SV.int IntKind.i64 true (0 : Int),
                                                                                                                                            SV.int IntKind.i64 true (0 : Int), SV.nilslc]).cells
                                                                                                                                      (0 : Nat)
                                                                                                                                      ((T.act (g ((0 : Nat) + (↑x.i : Int).toNat))).fst.sv
                                                                                                                                          (SV.rslc ((1 : Nat) + (1 : Nat) + (0 : Nat)) (4 : Nat) true
                                                                                                                                            (0 : Nat)
                                                                                                                                            (T.act (g ((0 : Nat) + (↑x.i : Int).toNat))).fst.all.length
                                                                                                                                            c)).cells)
                                                                                                                                    (8 : Nat) (32 : Nat)) ∧
                                                                                                                                SBle
                                                                                                                                    (SB.rows true
                                                                                                                                      (T.act (g ((0 : Nat) + (↑x.i : Int).toNat))).fst.all.length
                                                                                                                                      (sessCols (T.act (g ((0 : Nat) + (↑x.i : Int).toNat))).fst.all)
                                                                                                                                      false (c * (4 : Nat)) sessT)
                                                                                                                                    (SB.rows true
                                                                                                                                      (T.act (g ((0 : Nat) + (↑x.i : Int).toNat))).fst.all.length
                                                                                                                                      (sessCols (T.act (g ((0 : Nat) + (↑x.i : Int).toNat))).fst.all)
                                                                                                                                      false (c * (4 : Nat)) sessT) ∧
                                                                                                                                  SBle T_2.sbO T_2.sbO ∧
                                                                                                                                    SBle (SB.view z o n (acCols g)) (SB.view z o n (acCols g)) ∧
                                                                                                                                      True)) ∧
                                                                                                    (decide ((0 : Int) < (↑x_10 : Int)) = false →
                                                                                                      ((-9223372036854775808 : Int) ≤ (↑x_10 : Int) + (1 : Int) ∧
                                                                                                          (↑x_10 : Int) + (1 : Int) ≤ (9223372036854775807 : Int)) ∧
                                                                                                        ∃ (y : Nat),
                                                                                                          (y ≤ (4 : Nat) ∧ (4 : Nat) - y < (4 : Nat) - x_10) ∧
                                                                                                            (↑x_10 : Int) + (1 : Int) = (↑y : Int) ∧
                                                                                                              SBle (SB.rows false T_1.ss.length (sessCols T_1.ss) false (c_1 * (4 : Nat)) sessT)
                                                                                                                  (SB.rows false T_1.ss.length (sessCols T_1.ss) false (c_1 * (4 : Nat)) sessT) ∧
                                                                                                                SBle
                                                                                                                    (SB.cells
                                                                                                                      (setRange
                                                                                                                        (SV.agg
                                                                                                                            [SV.int IntKind.i64 true (0 : Int), SV.int IntKind.i64 true (0 : Int),
                                                                                                                              SV.str true [], SV.int IntKind.i64 true (0 : Int),
                                                                                                                              SV.int IntKind.i64 true (0 : Int), SV.int IntKind.i64 true (0 : Int),
                                                                                                                              SV.int IntKind.i64 true (0 : Int), SV.nilslc]).cells
                                                                                                                        (0 : Nat)
                                                                                                                        ((T.act (g ((0 : Nat) + (↑x.i : Int).toNat))).fst.sv
                                                                                                                            (SV.rslc ((1 : Nat) + (1 : Nat) + (0 : Nat)) (4 : Nat) true (0 : Nat)
                                                                                                                              (T.act (g ((0 : Nat) + (↑x.i : Int).toNat))).fst.all.length c)).cells)
                                                                                                                      (8 : Nat) (32 : Nat))
                                                                                                                    (SB.cells
                                                                                                                      (setRange
                                                                                                                        (SV.agg
                                                                                                                            [SV.int IntKind.i64 true (0 : Int), SV.int IntKind.i64 true (0 : Int),
                                                                                                                              SV.str true [], SV.int IntKind.i64 true (0 : Int),
                                                                                                                              SV.int IntKind.i64 true (0 : Int), SV.int IntKind.i64 true (0 : Int),
                                                                                                                              SV.int IntKind.i64 true (0 : Int), SV.nilslc]).cells
                                                                                                                        (0 : Nat)
                                                                                                                        ((T.act (g ((0 : Nat) + (↑x.i : Int).toNat))).fst.sv
                                                                                                                            (SV.rslc ((1 : Nat) + (1 : Nat) + (0 : Nat)) (4 : Nat) true (0 : Nat)
                                                                                                                              (T.act (g ((0 : Nat) + (↑x.i : Int).toNat))).fst.all.length c)).cells)
                                                                                                                      (8 : Nat) (32 : Nat)) ∧
                                                                                                                  SBle
                                                                                                                      (SB.rows true (T.act (g ((0 : Nat) + (↑x.i : Int).toNat))).fst.all.length
                                                                                                                        (sessCols (T.act (g ((0 : Nat) + (↑x.i : Int).toNat))).fst.all) false
                                                                                                                        (c * (4 : Nat)) sessT)
                                                                                                                      (SB.rows true (T.act (g ((0 : Nat) + (↑x.i : Int).toNat))).fst.all.length
                                                                                                                        (sessCols (T.act (g ((0 : Nat) + (↑x.i : Int).toNat))).fst.all) false
                                                                                                                        (c * (4 : Nat)) sessT) ∧
                                                                                                                    SBle T_2.sbO T_2.sbO ∧
                                                                                                                      SBle (SB.view z o n (acCols g)) (SB.view z o n (acCols g)) ∧ True))) ∧
                                                                                        (decide ((↑x_10 : Int) < (↑T_1.ss.length : Int)) = false →
                                                                                          ((-9223372036854775808 : Int) ≤ (↑x.i : Int) + (1 : Int) ∧
                                                                                              (↑x.i : Int) + (1 : Int) ≤ (9223372036854775807 : Int)) ∧
                                                                                            ∃ (y : ActG),
                                                                                              ((y.i ≤ n ∧ Inv (topM most) y.i y.T) ∧ n - y.i < n - x.i) ∧
                                                                                                (↑x.i : Int) + (1 : Int) = (↑y.i : Int) ∧
                                                                                                  (T.act (g ((0 : Nat) + (↑x.i : Int).toNat))).fst.n = y.T.opened ∧
                                                                                                    SBle (SB.cells T_2.svO (49 : Nat) tableT) y.T.sbO ∧
                                                                                                      SBle (SB.view z o n (acCols g)) (SB.view z o n (acCols g)) ∧ True))))) ∧
                                              (decide ((T.act (g ((0 : Nat) + (↑x.i : Int).toNat))).fst.e = (0 : Int)) = false →
                                                ∃ (T_1 : Tb),
                                                  SBle (SB.cells (T.act (g ((0 : Nat) + (↑x.i : Int).toNat))).snd.svO (49 : Nat) tableT) T_1.sbO ∧
                                                    (T_1.Ok ∧ True) ∧
                                                      ∀ (c_1 : Nat),
                                                        T_1.ss.length ≤ c_1 →
                                                          (decide (min (max most (1 : Int)) (4 : Int) < (↑T_1.ss.length : Int)) = true → post (SV.bool true false)) ∧
                                                            (decide (min (max most (1 : Int)) (4 : Int) < (↑T_1.ss.length : Int)) = false →
                                                              ∃ (T_2 : Tb),
                                                                SBle (SB.cells T_1.svO (49 : Nat) tableT) T_2.sbO ∧
                                                                  (T_2.Ok ∧ True) ∧
                                                                    ((-9223372036854775808 : Int) ≤ (2 : Int) * (↑T_1.ss.length : Int) ∧
                                                                        (2 : Int) * (↑T_1.ss.length : Int) ≤ (9223372036854775807 : Int)) ∧
                                                                      (decide ((2 : Int) * (↑T_1.ss.length : Int) < kept T_2.ss) = true → post (SV.bool true false)) ∧
                                                                        (decide ((2 : Int) * (↑T_1.ss.length : Int) < kept T_2.ss) = false →
                                                                          (∃ (y : Nat),
                                                                              y ≤ (4 : Nat) ∧
                                                                                (0 : Int) = (↑y : Int) ∧
                                                                                  SBle (SB.rows false T_1.ss.length (sessCols T_1.ss) false (c_1 * (4 : Nat)) sessT)
                                                                                      (SB.rows false T_1.ss.length (sessCols T_1.ss) false (c_1 * (4 : Nat)) sessT) ∧
                                                                                    SBle
                                                                                        (SB.cells
                                                                                          (setRange
                                                                                            (SV.agg
                                                                                                [SV.int IntKind.i64 true (0 : Int), SV.int IntKind.i64 true (0 : Int), SV.str true [],
                                                                                                  SV.int IntKind.i64 true (0 : Int), SV.int IntKind.i64 true (0 : Int),
                                                                                                  SV.int IntKind.i64 true (0 : Int), SV.int IntKind.i64 true (0 : Int), SV.nilslc]).cells
                                                                                            (0 : Nat)
                                                                                            ((T.act (g ((0 : Nat) + (↑x.i : Int).toNat))).fst.sv
                                                                                                (SV.rslc ((1 : Nat) + (1 : Nat) + (0 : Nat)) (4 : Nat) true (0 : Nat)
                                                                                                  (T.act (g ((0 : Nat) + (↑x.i : Int).toNat))).fst.all.length c)).cells)
                                                                                          (8 : Nat) (32 : Nat))
                                                                                        (SB.cells
                                                                                          (setRange
                                                                                            (SV.agg
                                                                                                [SV.int IntKind.i64 true (0 : Int), SV.int IntKind.i64 true (0 : Int), SV.str true [],
                                                                                                  SV.int IntKind.i64 true (0 : Int), SV.int IntKind.i64 true (0 : Int),
                                                                                                  SV.int IntKind.i64 true (0 : Int), SV.int IntKind.i64 true (0 : Int), SV.nilslc]).cells
                                                                                            (0 : Nat)
                                                                                            ((T.act (g ((0 : Nat) + (↑x.i : Int).toNat))).fst.sv
                                                                                                (SV.rslc ((1 : Nat) + (1 : Nat) + (0 : Nat)) (4 : Nat) true (0 : Nat)
                                                                                                  (T.act (g ((0 : Nat) + (↑x.i : Int).toNat))).fst.all.length c)).cells)
                                                                                          (8 : Nat) (32 : Nat)) ∧
                                                                                      SBle
                                                                                          (SB.rows true (T.act (g ((0 : Nat) + (↑x.i : Int).toNat))).fst.all.length
                                                                                            (sessCols (T.act (g ((0 : Nat) + (↑x.i : Int).toNat))).fst.all) false (c * (4 : Nat)) sessT)
                                                                                          (SB.rows true (T.act (g ((0 : Nat) + (↑x.i : Int).toNat))).fst.all.length
                                                                                            (sessCols (T.act (g ((0 : Nat) + (↑x.i : Int).toNat))).fst.all) false (c * (4 : Nat)) sessT) ∧
                                                                                        SBle T_2.sbO T_2.sbO ∧ SBle (SB.view z o n (acCols g)) (SB.view z o n (acCols g)) ∧ True) ∧
                                                                            ∀ (x_9 : Nat),
                                                                              x_9 ≤ (4 : Nat) →
                                                                                (decide ((↑x_9 : Int) < (↑T_1.ss.length : Int)) = true →
                                                                                    ((0 : Int) ≤ (↑x_9 : Int) ∧ (↑x_9 : Int) < (↑T_1.ss.length : Int)) ∧
                                                                                      (0 : Nat) + (↑x_9 : Int).toNat < T_1.ss.length ∧
                                                                                        (decide (x.T.opened < (T_1.ss.getD ((0 : Nat) + (↑x_9 : Int).toNat) Sl.zero).id) = true →
                                                                                            post (SV.bool true false)) ∧
                                                                                          (decide (x.T.opened < (T_1.ss.getD ((0 : Nat) + (↑x_9 : Int).toNat) Sl.zero).id) = false →
                                                                                            (decide ((0 : Int) < (↑x_9 : Int)) = true →
                                                                                                ((-9223372036854775808 : Int) ≤ (↑x_9 : Int) - (1 : Int) ∧
                                                                                                    (↑x_9 : Int) - (1 : Int) ≤ (9223372036854775807 : Int)) ∧
                                                                                                  ((0 : Int) ≤ (↑x_9 : Int) - (1 : Int) ∧ (↑x_9 : Int) - (1 : Int) < (↑T_1.ss.length : Int)) ∧
                                                                                                    (0 : Nat) + ((↑x_9 : Int) - (1 : Int)).toNat < T_1.ss.length ∧
                                                                                                      ((0 : Int) ≤ (↑x_9 : Int) ∧ (↑x_9 : Int) < (↑T_1.ss.length : Int)) ∧
                                                                                                        (0 : Nat) + (↑x_9 : Int).toNat < T_1.ss.length ∧
                                                                                                          (decide
                                                                                                                  ((T_1.ss.getD ((0 : Nat) + (↑x_9 : Int).toNat) Sl.zero).id ≤
                                                                                                                    (T_1.ss.getD ((0 : Nat) + ((↑x_9 : Int) - (1 : Int)).toNat) Sl.zero).id) =
                                                                                                                true →
                                                                                                              post (SV.bool true false)) ∧
                                                                                                            (decide
                                                                                                                  ((T_1.ss.getD ((0 : Nat) + (↑x_9 : Int).toNat) Sl.zero).id ≤
                                                                                                                    (T_1.ss.getD ((0 : Nat) + ((↑x_9 : Int) - (1 : Int)).toNat) Sl.zero).id) =
                                                                                                                false →
                                                                                                              ((-9223372036854775808 : Int) ≤ (↑x_9 : Int) + (1 : Int) ∧
                                                                                                                  (↑x_9 : Int) + (1 : Int) ≤ (9223372036854775807 : Int)) ∧
                                                                                                                ∃ (y : Nat),
                                                                                                                  (y ≤ (4 : Nat) ∧ (4 : Nat) - y < (4 : Nat) - x_9) ∧
                                                                                                                    (↑x_9 : Int) + (1 : Int) = (↑y : Int) ∧
                                                                                                                      SBle (SB.rows false T_1.ss.length (sessCols T_1.ss) false (c_1 * (4 : Nat)) sessT)
                                                                                                                          (SB.rows false T_1.ss.length (sessCols T_1.ss) false (c_1 * (4 : Nat))
                                                                                                                            sessT) ∧
                                                                                                                        SBle
                                                                                                                            (SB.cells
                                                                                                                              (setRange
                                                                                                                                (SV.agg
                                                                                                                                    [SV.int IntKind.i64 true (0 : Int),
                                                                                                                                      SV.int IntKind.i64 true (0 : Int), SV.str true [],
                                                                                                                                      SV.int IntKind.i64 true (0 : Int),
                                                                                                                                      SV.int IntKind.i64 true (0 : Int),
                                                                                                                                      SV.int IntKind.i64 true (0 : Int),
                                                                                                                                      SV.int IntKind.i64 true (0 : Int), SV.nilslc]).cells
                                                                                                                                (0 : Nat)
                                                                                                                                ((T.act (g ((0 : Nat) + (↑x.i : Int).toNat))).fst.sv
                                                                                                                                    (SV.rslc ((1 : Nat) + (1 : Nat) + (0 : Nat)) (4 : Nat) true
                                                                                                                                      (0 : Nat)
                                                                                                                                      (T.act (g ((0 : Nat) + (↑x.i : Int).toNat))).fst.all.length
                                                                                                                                      c)).cells)
                                                                                                                              (8 : Nat) (32 : Nat))
                                                                                                                            (SB.cells
                                                                                                                              (setRange
                                                                                                                                (SV.agg
                                                                                                                                    [SV.int IntKind.i64 true (0 : Int),
                                                                                                                                      SV.int IntKind.i64 true (0 : Int), SV.str true [],
                                                                                                                                      SV.int IntKind.i64 true (0 : Int),
                                                                                                                                      SV.int IntKind.i64 true (0 : Int),
                                                                                                                                      SV.int IntKind.i64 true (0 : Int),
                                                                                                                                      SV.int IntKind.i64 true (0 : Int), SV.nilslc]).cells
                                                                                                                                (0 : Nat)
                                                                                                                                ((T.act (g ((0 : Nat) + (↑x.i : Int).toNat))).fst.sv
                                                                                                                                    (SV.rslc ((1 : Nat) + (1 : Nat) + (0 : Nat)) (4 : Nat) true
                                                                                                                                      (0 : Nat)
                                                                                                                                      (T.act (g ((0 : Nat) + (↑x.i : Int).toNat))).fst.all.length
                                                                                                                                      c)).cells)
                                                                                                                              (8 : Nat) (32 : Nat)) ∧
                                                                                                                          SBle
                                                                                                                              (SB.rows true (T.act (g ((0 : Nat) + (↑x.i : Int).toNat))).fst.all.length
                                                                                                                                (sessCols (T.act (g ((0 : Nat) + (↑x.i : Int).toNat))).fst.all) false
                                                                                                                                (c * (4 : Nat)) sessT)
                                                                                                                              (SB.rows true (T.act (g ((0 : Nat) + (↑x.i : Int).toNat))).fst.all.length
                                                                                                                                (sessCols (T.act (g ((0 : Nat) + (↑x.i : Int).toNat))).fst.all) false
                                                                                                                                (c * (4 : Nat)) sessT) ∧
                                                                                                                            SBle T_2.sbO T_2.sbO ∧
                                                                                                                              SBle (SB.view z o n (acCols g)) (SB.view z o n (acCols g)) ∧ True)) ∧
                                                                                              (decide ((0 : Int) < (↑x_9 : Int)) = false →
                                                                                                ((-9223372036854775808 : Int) ≤ (↑x_9 : Int) + (1 : Int) ∧
                                                                                                    (↑x_9 : Int) + (1 : Int) ≤ (9223372036854775807 : Int)) ∧
                                                                                                  ∃ (y : Nat),
                                                                                                    (y ≤ (4 : Nat) ∧ (4 : Nat) - y < (4 : Nat) - x_9) ∧
                                                                                                      (↑x_9 : Int) + (1 : Int) = (↑y : Int) ∧
                                                                                                        SBle (SB.rows false T_1.ss.length (sessCols T_1.ss) false (c_1 * (4 : Nat)) sessT)
                                                                                                            (SB.rows false T_1.ss.length (sessCols T_1.ss) false (c_1 * (4 : Nat)) sessT) ∧
                                                                                                          SBle
                                                                                                              (SB.cells
                                                                                                                (setRange
                                                                                                                  (SV.agg
                                                                                                                      [SV.int IntKind.i64 true (0 : Int), SV.int IntKind.i64 true (0 : Int),
                                                                                                                        SV.str true [], SV.int IntKind.i64 true (0 : Int),
                                                                                                                        SV.int IntKind.i64 true (0 : Int), SV.int IntKind.i64 true (0 : Int),
                                                                                                                        SV.int IntKind.i64 true (0 : Int), SV.nilslc]).cells
                                                                                                                  (0 : Nat)
                                                                                                                  ((T.act (g ((0 : Nat) + (↑x.i : Int).toNat))).fst.sv
                                                                                                                      (SV.rslc ((1 : Nat) + (1 : Nat) + (0 : Nat)) (4 : Nat) true (0 : Nat)
                                                                                                                        (T.act (g ((0 : Nat) + (↑x.i : Int).toNat))).fst.all.length c)).cells)
                                                                                                                (8 : Nat) (32 : Nat))
                                                                                                              (SB.cells
                                                                                                                (setRange
                                                                                                                  (SV.agg
                                                                                                                      [SV.int IntKind.i64 true (0 : Int), SV.int IntKind.i64 true (0 : Int),
                                                                                                                        SV.str true [], SV.int IntKind.i64 true (0 : Int),
                                                                                                                        SV.int IntKind.i64 true (0 : Int), SV.int IntKind.i64 true (0 : Int),
                                                                                                                        SV.int IntKind.i64 true (0 : Int), SV.nilslc]).cells
                                                                                                                  (0 : Nat)
                                                                                                                  ((T.act (g ((0 : Nat) + (↑x.i : Int).toNat))).fst.sv
                                                                                                                      (SV.rslc ((1 : Nat) + (1 : Nat) + (0 : Nat)) (4 : Nat) true (0 : Nat)
                                                                                                                        (T.act (g ((0 : Nat) + (↑x.i : Int).toNat))).fst.all.length c)).cells)
                                                                                                                (8 : Nat) (32 : Nat)) ∧
                                                                                                            SBle
                                                                                                                (SB.rows true (T.act (g ((0 : Nat) + (↑x.i : Int).toNat))).fst.all.length
                                                                                                                  (sessCols (T.act (g ((0 : Nat) + (↑x.i : Int).toNat))).fst.all) false (c * (4 : Nat))
                                                                                                                  sessT)
                                                                                                                (SB.rows true (T.act (g ((0 : Nat) + (↑x.i : Int).toNat))).fst.all.length
                                                                                                                  (sessCols (T.act (g ((0 : Nat) + (↑x.i : Int).toNat))).fst.all) false (c * (4 : Nat))
                                                                                                                  sessT) ∧
                                                                                                              SBle T_2.sbO T_2.sbO ∧
                                                                                                                SBle (SB.view z o n (acCols g)) (SB.view z o n (acCols g)) ∧ True))) ∧
                                                                                  (decide ((↑x_9 : Int) < (↑T_1.ss.length : Int)) = false →
                                                                                    ((-9223372036854775808 : Int) ≤ (↑x.i : Int) + (1 : Int) ∧ (↑x.i : Int) + (1 : Int) ≤ (9223372036854775807 : Int)) ∧
                                                                                      ∃ (y : ActG),
                                                                                        ((y.i ≤ n ∧ Inv (topM most) y.i y.T) ∧ n - y.i < n - x.i) ∧
                                                                                          (↑x.i : Int) + (1 : Int) = (↑y.i : Int) ∧
                                                                                            x.T.opened = y.T.opened ∧
                                                                                              SBle (SB.cells T_2.svO (49 : Nat) tableT) y.T.sbO ∧
                                                                                                SBle (SB.view z o n (acCols g)) (SB.view z o n (acCols g)) ∧ True))))) ∧
                                          (decide ((g ((0 : Nat) + (↑x.i : Int).toNat)).k = (0 : Int)) = false →
                                            ∃ (T_1 : Tb),
                                              SBle (SB.cells (T.act (g ((0 : Nat) + (↑x.i : Int).toNat))).snd.svO (49 : Nat) tableT) T_1.sbO ∧
                                                (T_1.Ok ∧ True) ∧
                                                  ∀ (c_1 : Nat),
                                                    T_1.ss.length ≤ c_1 →
                                                      (decide (min (max most (1 : Int)) (4 : Int) < (↑T_1.ss.length : Int)) = true → post (SV.bool true false)) ∧
                                                        (decide (min (max most (1 : Int)) (4 : Int) < (↑T_1.ss.length : Int)) = false →
                                                          ∃ (T_2 : Tb),
                                                            SBle (SB.cells T_1.svO (49 : Nat) tableT) T_2.sbO ∧
                                                              (T_2.Ok ∧ True) ∧
                                                                ((-9223372036854775808 : Int) ≤ (2 : Int) * (↑T_1.ss.length : Int) ∧ (2 : Int) * (↑T_1.ss.length : Int) ≤ (9223372036854775807 : Int)) ∧
                                                                  (decide ((2 : Int) * (↑T_1.ss.length : Int) < kept T_2.ss) = true → post (SV.bool true false)) ∧
                                                                    (decide ((2 : Int) * (↑T_1.ss.length : Int) < kept T_2.ss) = false →
                                                                      (∃ (y : Nat),
                                                                          y ≤ (4 : Nat) ∧
                                                                            (0 : Int) = (↑y : Int) ∧
                                                                              SBle (SB.rows false T_1.ss.length (sessCols T_1.ss) false (c_1 * (4 : Nat)) sessT)
                                                                                  (SB.rows false T_1.ss.length (sessCols T_1.ss) false (c_1 * (4 : Nat)) sessT) ∧
                                                                                SBle
                                                                                    (SB.cells
                                                                                      (setRange
                                                                                        (SV.agg
                                                                                            [SV.int IntKind.i64 true (0 : Int), SV.int IntKind.i64 true (0 : Int), SV.str true [],
                                                                                              SV.int IntKind.i64 true (0 : Int), SV.int IntKind.i64 true (0 : Int), SV.int IntKind.i64 true (0 : Int),
                                                                                              SV.int IntKind.i64 true (0 : Int), SV.nilslc]).cells
                                                                                        (0 : Nat)
                                                                                        ((T.act (g ((0 : Nat) + (↑x.i : Int).toNat))).fst.sv
                                                                                            (SV.rslc ((1 : Nat) + (1 : Nat) + (0 : Nat)) (4 : Nat) true (0 : Nat)
                                                                                              (T.act (g ((0 : Nat) + (↑x.i : Int).toNat))).fst.all.length c)).cells)
                                                                                      (8 : Nat) (32 : Nat))
                                                                                    (SB.cells
                                                                                      (setRange
                                                                                        (SV.agg
                                                                                            [SV.int IntKind.i64 true (0 : Int), SV.int IntKind.i64 true (0 : Int), SV.str true [],
                                                                                              SV.int IntKind.i64 true (0 : Int), SV.int IntKind.i64 true (0 : Int), SV.int IntKind.i64 true (0 : Int),
                                                                                              SV.int IntKind.i64 true (0 : Int), SV.nilslc]).cells
                                                                                        (0 : Nat)
                                                                                        ((T.act (g ((0 : Nat) + (↑x.i : Int).toNat))).fst.sv
                                                                                            (SV.rslc ((1 : Nat) + (1 : Nat) + (0 : Nat)) (4 : Nat) true (0 : Nat)
                                                                                              (T.act (g ((0 : Nat) + (↑x.i : Int).toNat))).fst.all.length c)).cells)
                                                                                      (8 : Nat) (32 : Nat)) ∧
                                                                                  SBle
                                                                                      (SB.rows true (T.act (g ((0 : Nat) + (↑x.i : Int).toNat))).fst.all.length
                                                                                        (sessCols (T.act (g ((0 : Nat) + (↑x.i : Int).toNat))).fst.all) false (c * (4 : Nat)) sessT)
                                                                                      (SB.rows true (T.act (g ((0 : Nat) + (↑x.i : Int).toNat))).fst.all.length
                                                                                        (sessCols (T.act (g ((0 : Nat) + (↑x.i : Int).toNat))).fst.all) false (c * (4 : Nat)) sessT) ∧
                                                                                    SBle T_2.sbO T_2.sbO ∧ SBle (SB.view z o n (acCols g)) (SB.view z o n (acCols g)) ∧ True) ∧
                                                                        ∀ (x_8 : Nat),
                                                                          x_8 ≤ (4 : Nat) →
                                                                            (decide ((↑x_8 : Int) < (↑T_1.ss.length : Int)) = true →
                                                                                ((0 : Int) ≤ (↑x_8 : Int) ∧ (↑x_8 : Int) < (↑T_1.ss.length : Int)) ∧
                                                                                  (0 : Nat) + (↑x_8 : Int).toNat < T_1.ss.length ∧
                                                                                    (decide (x.T.opened < (T_1.ss.getD ((0 : Nat) + (↑x_8 : Int).toNat) Sl.zero).id) = true →
                                                                                        post (SV.bool true false)) ∧
                                                                                      (decide (x.T.opened < (T_1.ss.getD ((0 : Nat) + (↑x_8 : Int).toNat) Sl.zero).id) = false →
                                                                                        (decide ((0 : Int) < (↑x_8 : Int)) = true →
                                                                                            ((-9223372036854775808 : Int) ≤ (↑x_8 : Int) - (1 : Int) ∧
                                                                                                (↑x_8 : Int) - (1 : Int) ≤ (9223372036854775807 : Int)) ∧
                                                                                              ((0 : Int) ≤ (↑x_8 : Int) - (1 : Int) ∧ (↑x_8 : Int) - (1 : Int) < (↑T_1.ss.length : Int)) ∧
                                                                                                (0 : Nat) + ((↑x_8 : Int) - (1 : Int)).toNat < T_1.ss.length ∧
                                                                                                  ((0 : Int) ≤ (↑x_8 : Int) ∧ (↑x_8 : Int) < (↑T_1.ss.length : Int)) ∧
                                                                                                    (0 : Nat) + (↑x_8 : Int).toNat < T_1.ss.length ∧
                                                                                                      (decide
                                                                                                              ((T_1.ss.getD ((0 : Nat) + (↑x_8 : Int).toNat) Sl.zero).id ≤
                                                                                                                (T_1.ss.getD ((0 : Nat) + ((↑x_8 : Int) - (1 : Int)).toNat) Sl.zero).id) =
                                                                                                            true →
                                                                                                          post (SV.bool true false)) ∧
                                                                                                        (decide
                                                                                                              ((T_1.ss.getD ((0 : Nat) + (↑x_8 : Int).toNat) Sl.zero).id ≤
                                                                                                                (T_1.ss.getD ((0 : Nat) + ((↑x_8 : Int) - (1 : Int)).toNat) Sl.zero).id) =
                                                                                                            false →
                                                                                                          ((-9223372036854775808 : Int) ≤ (↑x_8 : Int) + (1 : Int) ∧
                                                                                                              (↑x_8 : Int) + (1 : Int) ≤ (9223372036854775807 : Int)) ∧
                                                                                                            ∃ (y : Nat),
                                                                                                              (y ≤ (4 : Nat) ∧ (4 : Nat) - y < (4 : Nat) - x_8) ∧
                                                                                                                (↑x_8 : Int) + (1 : Int) = (↑y : Int) ∧
                                                                                                                  SBle (SB.rows false T_1.ss.length (sessCols T_1.ss) false (c_1 * (4 : Nat)) sessT)
                                                                                                                      (SB.rows false T_1.ss.length (sessCols T_1.ss) false (c_1 * (4 : Nat)) sessT) ∧
                                                                                                                    SBle
                                                                                                                        (SB.cells
                                                                                                                          (setRange
                                                                                                                            (SV.agg
                                                                                                                                [SV.int IntKind.i64 true (0 : Int), SV.int IntKind.i64 true (0 : Int),
                                                                                                                                  SV.str true [], SV.int IntKind.i64 true (0 : Int),
                                                                                                                                  SV.int IntKind.i64 true (0 : Int), SV.int IntKind.i64 true (0 : Int),
                                                                                                                                  SV.int IntKind.i64 true (0 : Int), SV.nilslc]).cells
                                                                                                                            (0 : Nat)
                                                                                                                            ((T.act (g ((0 : Nat) + (↑x.i : Int).toNat))).fst.sv
                                                                                                                                (SV.rslc ((1 : Nat) + (1 : Nat) + (0 : Nat)) (4 : Nat) true (0 : Nat)
                                                                                                                                  (T.act (g ((0 : Nat) + (↑x.i : Int).toNat))).fst.all.length c)).cells)
                                                                                                                          (8 : Nat) (32 : Nat))
                                                                                                                        (SB.cells
                                                                                                                          (setRange
                                                                                                                            (SV.agg
                                                                                                                                [SV.int IntKind.i64 true (0 : Int), SV.int IntKind.i64 true (0 : Int),
                                                                                                                                  SV.str true [], SV.int IntKind.i64 true (0 : Int),
                                                                                                                                  SV.int IntKind.i64 true (0 : Int), SV.int IntKind.i64 true (0 : Int),
                                                                                                                                  SV.int IntKind.i64 true (0 : Int), SV.nilslc]).cells
                                                                                                                            (0 : Nat)
                                                                                                                            ((T.act (g ((0 : Nat) + (↑x.i : Int).toNat))).fst.sv
                                                                                                                                (SV.rslc ((1 : Nat) + (1 : Nat) + (0 : Nat)) (4 : Nat) true (0 : Nat)
                                                                                                                                  (T.act (g ((0 : Nat) + (↑x.i : Int).toNat))).fst.all.length c)).cells)
                                                                                                                          (8 : Nat) (32 : Nat)) ∧
                                                                                                                      SBle
                                                                                                                          (SB.rows true (T.act (g ((0 : Nat) + (↑x.i : Int).toNat))).fst.all.length
                                                                                                                            (sessCols (T.act (g ((0 : Nat) + (↑x.i : Int).toNat))).fst.all) false
                                                                                                                            (c * (4 : Nat)) sessT)
                                                                                                                          (SB.rows true (T.act (g ((0 : Nat) + (↑x.i : Int).toNat))).fst.all.length
                                                                                                                            (sessCols (T.act (g ((0 : Nat) + (↑x.i : Int).toNat))).fst.all) false
                                                                                                                            (c * (4 : Nat)) sessT) ∧
                                                                                                                        SBle T_2.sbO T_2.sbO ∧
                                                                                                                          SBle (SB.view z o n (acCols g)) (SB.view z o n (acCols g)) ∧ True)) ∧
                                                                                          (decide ((0 : Int) < (↑x_8 : Int)) = false →
                                                                                            ((-9223372036854775808 : Int) ≤ (↑x_8 : Int) + (1 : Int) ∧
                                                                                                (↑x_8 : Int) + (1 : Int) ≤ (9223372036854775807 : Int)) ∧
                                                                                              ∃ (y : Nat),
                                                                                                (y ≤ (4 : Nat) ∧ (4 : Nat) - y < (4 : Nat) - x_8) ∧
                                                                                                  (↑x_8 : Int) + (1 : Int) = (↑y : Int) ∧
                                                                                                    SBle (SB.rows false T_1.ss.length (sessCols T_1.ss) false (c_1 * (4 : Nat)) sessT)
                                                                                                        (SB.rows false T_1.ss.length (sessCols T_1.ss) false (c_1 * (4 : Nat)) sessT) ∧
                                                                                                      SBle
                                                                                                          (SB.cells
                                                                                                            (setRange
                                                                                                              (SV.agg
                                                                                                                  [SV.int IntKind.i64 true (0 : Int), SV.int IntKind.i64 true (0 : Int), SV.str true [],
                                                                                                                    SV.int IntKind.i64 true (0 : Int), SV.int IntKind.i64 true (0 : Int),
                                                                                                                    SV.int IntKind.i64 true (0 : Int), SV.int IntKind.i64 true (0 : Int),
                                                                                                                    SV.nilslc]).cells
                                                                                                              (0 : Nat)
                                                                                                              ((T.act (g ((0 : Nat) + (↑x.i : Int).toNat))).fst.sv
                                                                                                                  (SV.rslc ((1 : Nat) + (1 : Nat) + (0 : Nat)) (4 : Nat) true (0 : Nat)
                                                                                                                    (T.act (g ((0 : Nat) + (↑x.i : Int).toNat))).fst.all.length c)).cells)
                                                                                                            (8 : Nat) (32 : Nat))
                                                                                                          (SB.cells
                                                                                                            (setRange
                                                                                                              (SV.agg
                                                                                                                  [SV.int IntKind.i64 true (0 : Int), SV.int IntKind.i64 true (0 : Int), SV.str true [],
                                                                                                                    SV.int IntKind.i64 true (0 : Int), SV.int IntKind.i64 true (0 : Int),
                                                                                                                    SV.int IntKind.i64 true (0 : Int), SV.int IntKind.i64 true (0 : Int),
                                                                                                                    SV.nilslc]).cells
                                                                                                              (0 : Nat)
                                                                                                              ((T.act (g ((0 : Nat) + (↑x.i : Int).toNat))).fst.sv
                                                                                                                  (SV.rslc ((1 : Nat) + (1 : Nat) + (0 : Nat)) (4 : Nat) true (0 : Nat)
                                                                                                                    (T.act (g ((0 : Nat) + (↑x.i : Int).toNat))).fst.all.length c)).cells)
                                                                                                            (8 : Nat) (32 : Nat)) ∧
                                                                                                        SBle
                                                                                                            (SB.rows true (T.act (g ((0 : Nat) + (↑x.i : Int).toNat))).fst.all.length
                                                                                                              (sessCols (T.act (g ((0 : Nat) + (↑x.i : Int).toNat))).fst.all) false (c * (4 : Nat))
                                                                                                              sessT)
                                                                                                            (SB.rows true (T.act (g ((0 : Nat) + (↑x.i : Int).toNat))).fst.all.length
                                                                                                              (sessCols (T.act (g ((0 : Nat) + (↑x.i : Int).toNat))).fst.all) false (c * (4 : Nat))
                                                                                                              sessT) ∧
                                                                                                          SBle T_2.sbO T_2.sbO ∧ SBle (SB.view z o n (acCols g)) (SB.view z o n (acCols g)) ∧ True))) ∧
                                                                              (decide ((↑x_8 : Int) < (↑T_1.ss.length : Int)) = false →
                                                                                ((-9223372036854775808 : Int) ≤ (↑x.i : Int) + (1 : Int) ∧ (↑x.i : Int) + (1 : Int) ≤ (9223372036854775807 : Int)) ∧
                                                                                  ∃ (y : ActG),
                                                                                    ((y.i ≤ n ∧ Inv (topM most) y.i y.T) ∧ n - y.i < n - x.i) ∧
                                                                                      (↑x.i : Int) + (1 : Int) = (↑y.i : Int) ∧
                                                                                        x.T.opened = y.T.opened ∧
                                                                                          SBle (SB.cells T_2.svO (49 : Nat) tableT) y.T.sbO ∧
                                                                                            SBle (SB.view z o n (acCols g)) (SB.view z o n (acCols g)) ∧ True))))) ∧
                    (decide ((↑x.i : Int) < (↑n : Int)) = false → post (SV.bool true true)))) := by kernel_rfl
end Go.Proofs.Ytobbhdmbblhgaaa
