/-
  Conditions that the executor computes, written out by a program (vcgen.py).
-/
import Derived.Test.YtobbhdmbblhgaaaLsI
namespace Go.Proofs.Ytobbhdmbblhgaaa
open Go Sx

theorem vcEnds (most term clock : Int) (z : Bool) (o n c : Nat) (g : Nat → Ac) (post : SV → Prop) : VC.holds (endsVC most term clock z o n c 1 g post) = (∃ (g_1 : Nat → Ac),
  SBle
      (SB.view z o n
        [Col.int IntKind.i64 fun (i : Nat) => (g i).k, Col.int IntKind.i64 fun (i : Nat) => (g i).id, Col.int IntKind.i64 fun (i : Nat) => (g i).block,
          Col.int IntKind.i64 fun (i : Nat) => (g i).clock, Col.int IntKind.i64 fun (i : Nat) => (g i).seq, Col.str fun (i : Nat) => (g i).text])
      (SB.view z o n (acCols g_1)) ∧
    ∀ (b : Bool),
      (b = true → Few n g_1) →
        ((!b) = true → post (SV.bool true !false)) ∧
          ((!b) = false →
            (decide (clock < (0 : Int)) = true → post (SV.bool true !false)) ∧
              (decide (clock < (0 : Int)) = false →
                (decide ((1000000 : Int) < clock) = true → post (SV.bool true !false)) ∧
                  (decide ((1000000 : Int) < clock) = false →
                    (∃ (y : ActG),
                        (y.i ≤ n ∧ Inv (topM most) y.i y.T) ∧
                          (0 : Int) = (↑y.i : Int) ∧
                            SBle
                                (SB.cells
                                  [SV.int IntKind.i64 (false && true && true) (min (max most (1 : Int)) (4 : Int)), SV.int IntKind.i64 (false && true && true) (min (max term (1 : Int)) (1000 : Int)),
                                    SV.int IntKind.i64 true (0 : Int), SV.int IntKind.i64 true (0 : Int), SV.int IntKind.i64 true (0 : Int), SV.int IntKind.i64 true (0 : Int),
                                    SV.int IntKind.i64 true (0 : Int), SV.str true [], SV.int IntKind.i64 true (0 : Int), SV.str true [], SV.int IntKind.i64 true (0 : Int),
                                    SV.int IntKind.i64 true (0 : Int), SV.int IntKind.i64 true (0 : Int), SV.int IntKind.i64 true (0 : Int), SV.int IntKind.i64 true (0 : Int),
                                    SV.int IntKind.i64 true (0 : Int), SV.str true [], SV.int IntKind.i64 true (0 : Int), SV.str true [], SV.int IntKind.i64 true (0 : Int),
                                    SV.int IntKind.i64 true (0 : Int), SV.int IntKind.i64 true (0 : Int), SV.int IntKind.i64 true (0 : Int), SV.int IntKind.i64 true (0 : Int),
                                    SV.int IntKind.i64 true (0 : Int), SV.str true [], SV.int IntKind.i64 true (0 : Int), SV.str true [], SV.int IntKind.i64 true (0 : Int),
                                    SV.int IntKind.i64 true (0 : Int), SV.int IntKind.i64 true (0 : Int), SV.int IntKind.i64 true (0 : Int), SV.int IntKind.i64 true (0 : Int),
                                    SV.int IntKind.i64 true (0 : Int), SV.str true [], SV.int IntKind.i64 true (0 : Int), SV.str true [], SV.int IntKind.i64 true (0 : Int),
                                    SV.int IntKind.i64 true (0 : Int), SV.int IntKind.i64 true (0 : Int), SV.int IntKind.i64 true (0 : Int), SV.int IntKind.i64 true (0 : Int),
                                    SV.int IntKind.i64 true (0 : Int), SV.int IntKind.i64 true (0 : Int), SV.int IntKind.i64 true (0 : Int), SV.int IntKind.i64 true (0 : Int),
                                    SV.int IntKind.i64 true (0 : Int), SV.int IntKind.i64 true (0 : Int), SV.int IntKind.i64 true (0 : Int)]
                                  (49 : Nat) (61 : Nat))
                                y.T.sbO ∧
                              SBle (SB.view z o n (acCols g)) (SB.view z o n (acCols g)) ∧ True) ∧
                      ∀ (x : ActG),
                        x.i ≤ n ∧ Inv (topM most) x.i x.T →
                          (decide ((↑x.i : Int) < (↑n : Int)) = true →
                              ((0 : Int) ≤ (↑x.i : Int) ∧ (↑x.i : Int) < (↑n : Int)) ∧
                                (o = o ∧ (0 : Nat) + (↑x.i : Int).toNat < n) ∧
                                  ∃ (T : Tb),
                                    SBle (SB.cells x.T.svO (49 : Nat) tableT) T.sbO ∧
                                      (T.Ok ∧ okClock (g ((0 : Nat) + (↑x.i : Int).toNat)).clock) ∧
                                        ∀ (c : Nat),
                                          (T.act (g ((0 : Nat) + (↑x.i : Int).toNat))).fst.all.length ≤ c →
                                            ((-9223372036854775808 : Int) ≤ (↑x.i : Int) + (1 : Int) ∧ (↑x.i : Int) + (1 : Int) ≤ (9223372036854775807 : Int)) ∧
                                              ∃ (y : ActG),
                                                ((y.i ≤ n ∧ Inv (topM most) y.i y.T) ∧ n - y.i < n - x.i) ∧
                                                  (↑x.i : Int) + (1 : Int) = (↑y.i : Int) ∧
                                                    SBle (SB.cells (T.act (g ((0 : Nat) + (↑x.i : Int).toNat))).snd.svO (49 : Nat) tableT) y.T.sbO ∧
                                                      SBle (SB.view z o n (acCols g)) (SB.view z o n (acCols g)) ∧ True) ∧
                            (decide ((↑x.i : Int) < (↑n : Int)) = false →
                              ∃ (T : Tb),
                                SBle (SB.cells x.T.svO (49 : Nat) tableT) T.sbO ∧
                                  (T.Ok ∧ True) ∧
                                    ∀ (c : Nat),
                                      T.ss.length ≤ c →
                                        ∃ (T_1 : Tb),
                                          SBle (SB.cells T.svO (49 : Nat) tableT) T_1.sbO ∧
                                            (T_1.Ok ∧ True) ∧
                                              ∀ (c_1 : Nat),
                                                (over clock T_1.ss).length ≤ c_1 →
                                                  ∃ (T_2 : Tb),
                                                    SBle (SB.cells (T_1.expire clock).svO (49 : Nat) tableT) T_2.sbO ∧
                                                      (T_2.Ok ∧ True) ∧
                                                        ∀ (c_2 : Nat),
                                                          (over clock T_2.ss).length ≤ c_2 →
                                                            (∃ (y : TwoG),
                                                                TwoPre T.ss.length clock
                                                                    (fun (i : Nat) =>
                                                                      { id := (T.ss.getD i Sl.zero).id, block := (T.ss.getD i Sl.zero).block, dl := (T.ss.getD i Sl.zero).dl,
                                                                        last := (T.ss.getD i Sl.zero).last, s0 := (0 : Int), r0 := [], s1 := (0 : Int), r1 := [], stored := (0 : Int) : Sl })
                                                                    y ∧
                                                                  (0 : Int) = (↑y.k : Int) ∧
                                                                    y.l.length = (0 : Nat) ∧
                                                                      y.l'.length = (0 : Nat) ∧
                                                                        (SB.rows true y.l.length (sessCols y.l) false (y.c * (4 : Nat)) sessT).no = true ∧
                                                                          (SB.rows true y.l'.length (sessCols y.l') false (y.c' * (4 : Nat)) sessT).no = true ∧
                                                                            SBle (SB.rows true (over clock T_2.ss).length (sessCols (over clock T_2.ss)) false (c_2 * (4 : Nat)) sessT)
                                                                                (SB.rows true (over clock T_2.ss).length (sessCols (over clock T_2.ss)) false (c_2 * (4 : Nat)) sessT) ∧
                                                                              SBle (SB.rows true (over clock T_1.ss).length (sessCols (over clock T_1.ss)) false (c_1 * (4 : Nat)) sessT)
                                                                                  (SB.rows true (over clock T_1.ss).length (sessCols (over clock T_1.ss)) false (c_1 * (4 : Nat)) sessT) ∧
                                                                                SBle (SB.rows false T.ss.length (sessCols T.ss) false (c * (4 : Nat)) sessT)
                                                                                    (SB.rows false T.ss.length (sessCols T.ss) false (c * (4 : Nat)) sessT) ∧
                                                                                  SBle (T_2.expire clock).sbO (T_2.expire clock).sbO ∧
                                                                                    SBle (SB.view z o n (acCols g)) (SB.view z o n (acCols g)) ∧ True) ∧
                                                              ∀ (x : TwoG),
                                                                TwoPre T.ss.length clock
                                                                    (fun (i : Nat) =>
                                                                      { id := (T.ss.getD i Sl.zero).id, block := (T.ss.getD i Sl.zero).block, dl := (T.ss.getD i Sl.zero).dl,
                                                                        last := (T.ss.getD i Sl.zero).last, s0 := (0 : Int), r0 := [], s1 := (0 : Int), r1 := [], stored := (0 : Int) : Sl })
                                                                    x →
                                                                  (decide ((↑x.k : Int) < (↑T.ss.length : Int)) = true →
                                                                      ((0 : Int) ≤ (↑x.k : Int) ∧ (↑x.k : Int) < (↑T.ss.length : Int)) ∧
                                                                        (0 : Nat) + (↑x.k : Int).toNat < T.ss.length ∧
                                                                          (decide ((T.ss.getD ((0 : Nat) + (↑x.k : Int).toNat) Sl.zero).dl ≤ clock) = true →
                                                                              ((0 : Int) ≤ (↑x.k : Int) ∧ (↑x.k : Int) < (↑T.ss.length : Int)) ∧
                                                                                (0 : Nat) + (↑x.k : Int).toNat < T.ss.length ∧
                                                                                  ((0 : Nat) + x.l.length ≤ x.l.length ∧
                                                                                      True ∧
                                                                                        (2 : Nat) * (x.l.length + (1 : Nat)) * (32 : Nat) ≤ (281474976710656 : Nat) ∧
                                                                                          x.l.length + (1 : Nat) < (9223372036854775808 : Nat)) ∧
                                                                                    x.c * (4 : Nat) = x.c * (4 : Nat) ∧
                                                                                      ∀ (c_3 : Nat),
                                                                                        x.l.length + (1 : Nat) ≤ c_3 →
                                                                                          ((0 : Int) ≤ (↑x.k : Int) ∧ (↑x.k : Int) < (↑T.ss.length : Int)) ∧
                                                                                            (0 : Nat) + (↑x.k : Int).toNat < T.ss.length ∧
                                                                                              ∃ (T_3 : Tb),
                                                                                                SBle (SB.cells (T_2.expire clock).svO (49 : Nat) tableT) T_3.sbO ∧
                                                                                                  (T_3.Ok ∧ True) ∧
                                                                                                    ((0 : Int) ≤ (↑x.k : Int) ∧ (↑x.k : Int) < (↑T.ss.length : Int)) ∧
                                                                                                      (0 : Nat) + (↑x.k : Int).toNat < T.ss.length ∧
                                                                                                        ∃ (T_4 : Tb),
                                                                                                          SBle (SB.cells T_3.svO (49 : Nat) tableT) T_4.sbO ∧
                                                                                                            (T_4.Ok ∧ okClock (0 : Int)) ∧
                                                                                                              ((!decide
                                                                                                                        (T_3.live (T.ss.getD ((0 : Nat) + (↑x.k : Int).toNat) Sl.zero).id (0 : Int) =
                                                                                                                          (6 : Int))) =
                                                                                                                    true →
                                                                                                                  post (SV.bool true false)) ∧
                                                                                                                ((!decide
                                                                                                                        (T_3.live (T.ss.getD ((0 : Nat) + (↑x.k : Int).toNat) Sl.zero).id (0 : Int) =
                                                                                                                          (6 : Int))) =
                                                                                                                    false →
                                                                                                                  ((!decide
                                                                                                                            (T_4.live (T.ss.getD ((0 : Nat) + (↑x.k : Int).toNat) Sl.zero).id
                                                                                                                                (0 : Int) =
                                                                                                                              (6 : Int))) =
                                                                                                                        true →
                                                                                                                      post (SV.bool true false)) ∧
                                                                                                                    ((!decide
                                                                                                                            (T_4.live (T.ss.getD ((0 : Nat) + (↑x.k : Int).toNat) Sl.zero).id
                                                                                                                                (0 : Int) =
                                                                                                                              (6 : Int))) =
                                                                                                                        false →
                                                                                                                      ((-9223372036854775808 : Int) ≤ (↑x.k : Int) + (1 : Int) ∧
                                                                                                                          (↑x.k : Int) + (1 : Int) ≤ (9223372036854775807 : Int)) ∧
                                                                                                                        ∃ (y : TwoG),
                                                                                                                          (TwoPre T.ss.length clock
                                                                                                                                (fun (i : Nat) =>
                                                                                                                                  { id := (T.ss.getD i Sl.zero).id,
                                                                                                                                    block := (T.ss.getD i Sl.zero).block,
                                                                                                                                    dl := (T.ss.getD i Sl.zero).dl, last := (T.ss.getD i Sl.zero).last,
                                                                                                                                    s0 := (0 : Int), r0 := [], s1 := (0 : Int), r1 := [],
                                                                                                                                    stored := (0 : Int) : Sl })
                                                                                                                                y ∧
                                                                                                                              T.ss.length - y.k < T.ss.length - x.k) ∧
                                                                                                                            (↑x.k : Int) + (1 : Int) = (↑y.k : Int) ∧
                                                                                                                              ((0 : Nat) = (0 : Nat) ∧
                                                                                                                                  x.l.length + (1 : Nat) = y.l.length ∧ c_3 = y.c) ∧
                                                                                                                                True ∧
                                                                                                                                  ((0 : Nat) = (0 : Nat) ∧ x.l'.length = y.l'.length ∧ x.c' = y.c') ∧
                                                                                                                                    True ∧
                                                                                                                                      SBle
                                                                                                                                          (SB.rows true (x.l.length + (1 : Nat))
                                                                                                                                            [Col.int IntKind.i64 fun (j : Nat) =>
                                                                                                                                                if j < x.l.length then (x.l.getD j Sl.zero).id
                                                                                                                                                else
                                                                                                                                                  sel
                                                                                                                                                    [(T.ss.getD ((0 : Nat) + (↑x.k : Int).toNat)
                                                                                                                                                          Sl.zero).id]
                                                                                                                                                    (j - x.l.length),
                                                                                                                                              Col.int IntKind.i64 fun (j : Nat) =>
                                                                                                                                                if j < x.l.length then (x.l.getD j Sl.zero).block
                                                                                                                                                else
                                                                                                                                                  sel
                                                                                                                                                    [(T.ss.getD ((0 : Nat) + (↑x.k : Int).toNat)
                                                                                                                                                          Sl.zero).block]
                                                                                                                                                    (j - x.l.length),
                                                                                                                                              Col.int IntKind.i64 fun (j : Nat) =>
                                                                                                                                                if j < x.l.length then (x.l.getD j Sl.zero).dl
                                                                                                                                                else
                                                                                                                                                  sel
                                                                                                                                                    [(T.ss.getD ((0 : Nat) + (↑x.k : Int).toNat)
                                                                                                                                                          Sl.zero).dl]
                                                                                                                                                    (j - x.l.length),
                                                                                                                                              Col.int IntKind.i64 fun (j : Nat) =>
                                                                                                                                                if j < x.l.length then (x.l.getD j Sl.zero).last
                                                                                                                                                else
                                                                                                                                                  sel
                                                                                                                                                    [(T.ss.getD ((0 : Nat) + (↑x.k : Int).toNat)
                                                                                                                                                          Sl.zero).last]
                                                                                                                                                    (j - x.l.length)]
                                                                                                                                            false (c_3 * (4 : Nat)) (29 : Nat))
                                                                                                                                          (SB.rows true y.l.length (sessCols y.l) false
                                                                                                                                            (y.c * (4 : Nat)) sessT) ∧
                                                                                                                                        SBle
                                                                                                                                            (SB.rows true x.l'.length
                                                                                                                                              [Col.int IntKind.i64 fun (i : Nat) =>
                                                                                                                                                  (x.l'.getD i Sl.zero).id,
                                                                                                                                                Col.int IntKind.i64 fun (i : Nat) =>
                                                                                                                                                  (x.l'.getD i Sl.zero).block,
                                                                                                                                                Col.int IntKind.i64 fun (i : Nat) =>
                                                                                                                                                  (x.l'.getD i Sl.zero).dl,
                                                                                                                                                Col.int IntKind.i64 fun (i : Nat) =>
                                                                                                                                                  (x.l'.getD i Sl.zero).last]
                                                                                                                                              false (x.c' * (4 : Nat)) sessT)
                                                                                                                                            (SB.rows true y.l'.length (sessCols y.l') false
                                                                                                                                              (y.c' * (4 : Nat)) sessT) ∧
                                                                                                                                          SBle
                                                                                                                                              (SB.rows true (over clock T_2.ss).length
                                                                                                                                                (sessCols (over clock T_2.ss)) false (c_2 * (4 : Nat))
                                                                                                                                                sessT)
                                                                                                                                              (SB.rows true (over clock T_2.ss).length
                                                                                                                                                (sessCols (over clock T_2.ss)) false (c_2 * (4 : Nat))
                                                                                                                                                sessT) ∧
                                                                                                                                            SBle
                                                                                                                                                (SB.rows true (over clock T_1.ss).length
                                                                                                                                                  (sessCols (over clock T_1.ss)) false (c_1 * (4 : Nat))
                                                                                                                                                  sessT)
                                                                                                                                                (SB.rows true (over clock T_1.ss).length
                                                                                                                                                  (sessCols (over clock T_1.ss)) false (c_1 * (4 : Nat))
                                                                                                                                                  sessT) ∧
                                                                                                                                              SBle
                                                                                                                                                  (SB.rows false T.ss.length (sessCols T.ss) false
                                                                                                                                                    (c * (4 : Nat)) sessT)
                                                                                                                                                  (SB.rows false T.ss.length (sessCols T.ss) false
                                                                                                                                                    (c * (4 : Nat)) sessT) ∧
                                                                                                                                                SBle
                                                                                                                                                    (SB.cells
                                                                                                                                                      (T_4.mod
                                                                                                                                                          (T.ss.getD ((0 : Nat) + (↑x.k : Int).toNat)
                                                                                                                                                              Sl.zero).id
                                                                                                                                                          (0 : Int) fun (s : Sl) =>
                                                                                                                                                          { id := s.id, block := s.block,
                                                                                                                                                            dl := (0 : Int) + T_4.term, last := s.last,
                                                                                                                                                            s0 := s.s0, r0 := s.r0, s1 := s.s1,
                                                                                                                                                            r1 := s.r1, stored := s.stored : Sl }).svO
                                                                                                                                                      (49 : Nat) tableT)
                                                                                                                                                    (T_2.expire clock).sbO ∧
                                                                                                                                                  SBle (SB.view z o n (acCols g))
                                                                                                                                                      (SB.view z o n (acCols g)) ∧
                                                                                                                                                    True))) ∧
                                                                            (decide ((T.ss.getD ((0 : Nat) + (↑x.k : Int).toNat) Sl.zero).dl ≤ clock) = false →
                                                                              ((0 : Int) ≤ (↑x.k : Int) ∧ (↑x.k : Int) < (↑T.ss.length : Int)) ∧
                                                                                (0 : Nat) + (↑x.k : Int).toNat < T.ss.length ∧
                                                                                  ((0 : Nat) + x.l'.length ≤ x.l'.length ∧
                                                                                      True ∧
                                                                                        (2 : Nat) * (x.l'.length + (1 : Nat)) * (32 : Nat) ≤ (281474976710656 : Nat) ∧
                                                                                          x.l'.length + (1 : Nat) < (9223372036854775808 : Nat)) ∧
                                                                                    x.c' * (4 : Nat) = x.c' * (4 : Nat) ∧
                                                                                      ∀ (c_3 : Nat),
                                                                                        x.l'.length + (1 : Nat) ≤ c_3 →
                                                                                          ((0 : Int) ≤ (↑x.k : Int) ∧ (↑x.k : Int) < (↑T.ss.length : Int)) ∧
                                                                                            (0 : Nat) + (↑x.k : Int).toNat < T.ss.length ∧
                                                                                              ∃ (T_3 : Tb),
                                                                                                SBle (SB.cells (T_2.expire clock).svO (49 : Nat) tableT) T_3.sbO ∧
                                                                                                  (T_3.Ok ∧ True) ∧
                                                                                                    ((!decide (T_3.live (T.ss.getD ((0 : Nat) + (↑x.k : Int).toNat) Sl.zero).id clock = (0 : Int))) =
                                                                                                          true →
                                                                                                        post (SV.bool true false)) ∧
                                                                                                      ((!decide (T_3.live (T.ss.getD ((0 : Nat) + (↑x.k : Int).toNat) Sl.zero).id clock = (0 : Int))) =
                                                                                                          false →
                                                                                                        ((0 : Int) ≤ (↑x.k : Int) ∧ (↑x.k : Int) < (↑T.ss.length : Int)) ∧
                                                                                                          (0 : Nat) + (↑x.k : Int).toNat < T.ss.length ∧
                                                                                                            ((!(decide
                                                                                                                        ((T_3.of (T.ss.getD ((0 : Nat) + (↑x.k : Int).toNat) Sl.zero).id clock).id =
                                                                                                                          (T.ss.getD ((0 : Nat) + (↑x.k : Int).toNat) Sl.zero).id) &&
                                                                                                                      (decide
                                                                                                                          ((T_3.of (T.ss.getD ((0 : Nat) + (↑x.k : Int).toNat) Sl.zero).id
                                                                                                                                clock).block =
                                                                                                                            (T.ss.getD ((0 : Nat) + (↑x.k : Int).toNat) Sl.zero).block) &&
                                                                                                                        (decide
                                                                                                                            ((T_3.of (T.ss.getD ((0 : Nat) + (↑x.k : Int).toNat) Sl.zero).id clock).dl =
                                                                                                                              (T.ss.getD ((0 : Nat) + (↑x.k : Int).toNat) Sl.zero).dl) &&
                                                                                                                          (decide
                                                                                                                              ((T_3.of (T.ss.getD ((0 : Nat) + (↑x.k : Int).toNat) Sl.zero).id
                                                                                                                                    clock).last =
                                                                                                                                (T.ss.getD ((0 : Nat) + (↑x.k : Int).toNat) Sl.zero).last) &&
                                                                                                                            true))))) =
                                                                                                                  true →
                                                                                                                post (SV.bool true false)) ∧
                                                                                                              ((!(decide
                                                                                                                        ((T_3.of (T.ss.getD ((0 : Nat) + (↑x.k : Int).toNat) Sl.zero).id clock).id =
                                                                                                                          (T.ss.getD ((0 : Nat) + (↑x.k : Int).toNat) Sl.zero).id) &&
                                                                                                                      (decide
                                                                                                                          ((T_3.of (T.ss.getD ((0 : Nat) + (↑x.k : Int).toNat) Sl.zero).id
                                                                                                                                clock).block =
                                                                                                                            (T.ss.getD ((0 : Nat) + (↑x.k : Int).toNat) Sl.zero).block) &&
                                                                                                                        (decide
                                                                                                                            ((T_3.of (T.ss.getD ((0 : Nat) + (↑x.k : Int).toNat) Sl.zero).id clock).dl =
                                                                                                                              (T.ss.getD ((0 : Nat) + (↑x.k : Int).toNat) Sl.zero).dl) &&
                                                                                                                          (decide
                                                                                                                              ((T_3.of (T.ss.getD ((0 : Nat) + (↑x.k : Int).toNat) Sl.zero).id
                                                                                                                                    clock).last =
                                                                                                                                (T.ss.getD ((0 : Nat) + (↑x.k : Int).toNat) Sl.zero).last) &&
                                                                                                                            true))))) =
                                                                                                                  false →
                                                                                                                ((-9223372036854775808 : Int) ≤ (↑x.k : Int) + (1 : Int) ∧
                                                                                                                    (↑x.k : Int) + (1 : Int) ≤ (9223372036854775807 : Int)) ∧
                                                                                                                  ∃ (y : TwoG),
                                                                                                                    (TwoPre T.ss.length clock
                                                                                                                          (fun (i : Nat) =>
                                                                                                                            { id := (T.ss.getD i Sl.zero).id, block := (T.ss.getD i Sl.zero).block,
                                                                                                                              dl := (T.ss.getD i Sl.zero).dl, last := (T.ss.getD i Sl.zero).last,
                                                                                                                              s0 := (0 : Int), r0 := [], s1 := (0 : Int), r1 := [],
                                                                                                                              stored := (0 : Int) : Sl })
                                                                                                                          y ∧
                                                                                                                        T.ss.length - y.k < T.ss.length - x.k) ∧
                                                                                                                      (↑x.k : Int) + (1 : Int) = (↑y.k : Int) ∧
                                                                                                                        ((0 : Nat) = (0 : Nat) ∧ x.l.length = y.l.length ∧ x.c = y.c) ∧
                                                                                                                          True ∧
                                                                                                                            ((0 : Nat) = (0 : Nat) ∧
                                                                                                                                x.l'.length + (1 : Nat) = y.l'.length ∧ c_3 = y.c') ∧
                                                                                                                              True ∧
                                                                                                                                SBle
                                                                                                                                    (SB.rows true x.l.length
                                                                                                                                      [Col.int IntKind.i64 fun (i : Nat) => (x.l.getD i Sl.zero).id,
                                                                                                                                        Col.int IntKind.i64 fun (i : Nat) => (x.l.getD i Sl.zero).block,
                                                                                                                                        Col.int IntKind.i64 fun (i : Nat) => (x.l.getD i Sl.zero).dl,
                                                                                                                                        Col.int IntKind.i64 fun (i : Nat) => (x.l.getD i Sl.zero).last]
                                                                                                                                      false (x.c * (4 : Nat)) sessT)
                                                                                                                                    (SB.rows true y.l.length (sessCols y.l) false (y.c * (4 : Nat))
                                                                                                                                      sessT) ∧
                                                                                                                                  SBle
                                                                                                                                      (SB.rows true (x.l'.length + (1 : Nat))
                                                                                                                                        [Col.int IntKind.i64 fun (j : Nat) =>
                                                                                                                                            if j < x.l'.length then (x.l'.getD j Sl.zero).id
                                                                                                                                            else
                                                                                                                                              sel
                                                                                                                                                [(T.ss.getD ((0 : Nat) + (↑x.k : Int).toNat)
                                                                                                                                                      Sl.zero).id]
                                                                                                                                                (j - x.l'.length),
                                                                                                                                          Col.int IntKind.i64 fun (j : Nat) =>
                                                                                                                                            if j < x.l'.length then (x.l'.getD j Sl.zero).block
                                                                                                                                            else
                                                                                                                                              sel
                                                                                                                                                [(T.ss.getD ((0 : Nat) + (↑x.k : Int).toNat)
                                                                                                                                                      Sl.zero).block]
                                                                                                                                                (j - x.l'.length),
                                                                                                                                          Col.int IntKind.i64 fun (j : Nat) =>
                                                                                                                                            if j < x.l'.length then (x.l'.getD j Sl.zero).dl
                                                                                                                                            else
                                                                                                                                              sel
                                                                                                                                                [(T.ss.getD ((0 : Nat) + (↑x.k : Int).toNat)
                                                                                                                                                      Sl.zero).dl]
                                                                                                                                                (j - x.l'.length),
                                                                                                                                          Col.int IntKind.i64 fun (j : Nat) =>
                                                                                                                                            if j < x.l'.length then (x.l'.getD j Sl.zero).last
                                                                                                                                            else
                                                                                                                                              sel
                                                                                                                                                [(T.ss.getD ((0 : Nat) + (↑x.k : Int).toNat)
                                                                                                                                                      Sl.zero).last]
                                                                                                                                                (j - x.l'.length)]
                                                                                                                                        false (c_3 * (4 : Nat)) (29 : Nat))
                                                                                                                                      (SB.rows true y.l'.length (sessCols y.l') false (y.c' * (4 : Nat))
                                                                                                                                        sessT) ∧
                                                                                                                                    SBle
                                                                                                                                        (SB.rows true (over clock T_2.ss).length
                                                                                                                                          (sessCols (over clock T_2.ss)) false (c_2 * (4 : Nat)) sessT)
                                                                                                                                        (SB.rows true (over clock T_2.ss).length
                                                                                                                                          (sessCols (over clock T_2.ss)) false (c_2 * (4 : Nat))
                                                                                                                                          sessT) ∧
                                                                                                                                      SBle
                                                                                                                                          (SB.rows true (over clock T_1.ss).length
                                                                                                                                            (sessCols (over clock T_1.ss)) false (c_1 * (4 : Nat))
                                                                                                                                            sessT)
                                                                                                                                          (SB.rows true (over clock T_1.ss).length
                                                                                                                                            (sessCols (over clock T_1.ss)) false (c_1 * (4 : Nat))
                                                                                                                                            sessT) ∧
                                                                                                                                        SBle
                                                                                                                                            (SB.rows false T.ss.length (sessCols T.ss) false
                                                                                                                                              (c * (4 : Nat)) sessT)
                                                                                                                                            (SB.rows false T.ss.length (sessCols T.ss) false
                                                                                                                                              (c * (4 : Nat)) sessT) ∧
                                                                                                                                          SBle (SB.cells T_3.svO (49 : Nat) tableT)
                                                                                                                                              (T_2.expire clock).sbO ∧
                                                                                                                                            SBle (SB.view z o n (acCols g)) (SB.view z o n (acCols g)) ∧
                                                                                                                                              True)))) ∧
                                                                    (decide ((↑x.k : Int) < (↑T.ss.length : Int)) = false →
                                                                      ∃ (x_5 : List Sl × List Sl × Nat × Nat),
                                                                        ((over clock T_1.ss).length = x_5.fst.length ∧
                                                                            x.l.length = x_5.snd.fst.length ∧
                                                                              (over clock T_1.ss).length < (1000000000000000 : Nat) ∧
                                                                                SBle (SB.rows true (over clock T_1.ss).length (sessCols (over clock T_1.ss)) false (c_1 * (4 : Nat)) sessT)
                                                                                    (SB.rows true x_5.fst.length (sessCols x_5.fst) true x_5.snd.snd.fst sessT) ∧
                                                                                  SBle (SB.rows true x.l.length (sessCols x.l) false (x.c * (4 : Nat)) sessT)
                                                                                    (SB.rows true x_5.snd.fst.length (sessCols x_5.snd.fst) true x_5.snd.snd.snd sessT)) ∧
                                                                          ∀ (r : Bool),
                                                                            (r = true ↔ List.map Sl.bare x_5.fst = List.map Sl.bare x_5.snd.fst) →
                                                                              (r = true →
                                                                                  ∃ (T : Tb),
                                                                                    SBle (SB.cells (T_2.expire clock).svO (49 : Nat) tableT) T.sbO ∧
                                                                                      (T.Ok ∧ True) ∧
                                                                                        ∀ (c : Nat),
                                                                                          T.ss.length ≤ c →
                                                                                            ∃ (x_9 : List Sl × List Sl × Nat × Nat),
                                                                                              (T.ss.length = x_9.fst.length ∧
                                                                                                  x.l'.length = x_9.snd.fst.length ∧
                                                                                                    T.ss.length < (1000000000000000 : Nat) ∧
                                                                                                      SBle (SB.rows false T.ss.length (sessCols T.ss) false (c * (4 : Nat)) sessT)
                                                                                                          (SB.rows false x_9.fst.length (sessCols x_9.fst) true x_9.snd.snd.fst sessT) ∧
                                                                                                        SBle (SB.rows true x.l'.length (sessCols x.l') false (x.c' * (4 : Nat)) sessT)
                                                                                                          (SB.rows true x_9.snd.fst.length (sessCols x_9.snd.fst) true x_9.snd.snd.snd sessT)) ∧
                                                                                                ∀ (r : Bool),
                                                                                                  (r = true ↔ List.map Sl.bare x_9.fst = List.map Sl.bare x_9.snd.fst) →
                                                                                                    (r = true →
                                                                                                        post (SV.bool (false && true) (decide ((↑(over clock T_2.ss).length : Int) = (0 : Int))))) ∧
                                                                                                      (r = false → post (SV.bool true false))) ∧
                                                                                (r = false → post (SV.bool true false)))))))) := by kernel_rfl
end Go.Proofs.Ytobbhdmbblhgaaa
