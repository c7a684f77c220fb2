/-
  Conditions that the executor computes, written out by a program (vcgen.py).
-/
import Derived.Test.YtobbhdmbblhgaaaLsI
namespace Go.Proofs.Ytobbhdmbblhgaaa
open Go Sx

theorem vcRel (most term id clock : Int) (z : Bool) (o n c : Nat) (g : Nat → Ac) (post : SV → Prop) : VC.holds (relVC most term id clock z o n c 1 g post) = (∃ (g_1 : Nat → Ac),
  SBle
      (SB.view z o n
        [Col.int IntKind.i64 fun (i : Nat) => (g i).k, Col.int IntKind.i64 fun (i : Nat) => (g i).id, Col.int IntKind.i64 fun (i : Nat) => (g i).block,
          Col.int IntKind.i64 fun (i : Nat) => (g i).clock, Col.int IntKind.i64 fun (i : Nat) => (g i).seq, Col.str fun (i : Nat) => (g i).text])
      (SB.view z o n (acCols g_1)) ∧
    ∀ (b : Bool),
      (b = true → Few n g_1) →
        ((!b) = true → post (SV.bool true !false)) ∧
          ((!b) = false →
            (decide (clock < (0 : Int)) = true → post (SV.bool true !false)) ∧
              (decide (clock < (0 : Int)) = false →
                (decide ((1000000 : Int) < clock) = true → post (SV.bool true !false)) ∧
                  (decide ((1000000 : Int) < clock) = false →
                    (∃ (y : ActG),
                        (y.i ≤ n ∧ Inv (topM most) y.i y.T) ∧
                          (0 : Int) = (↑y.i : Int) ∧
                            SBle
                                (SB.cells
                                  [SV.int IntKind.i64 (false && true && true) (min (max most (1 : Int)) (4 : Int)), SV.int IntKind.i64 (false && true && true) (min (max term (1 : Int)) (1000 : Int)),
                                    SV.int IntKind.i64 true (0 : Int), SV.int IntKind.i64 true (0 : Int), SV.int IntKind.i64 true (0 : Int), SV.int IntKind.i64 true (0 : Int),
                                    SV.int IntKind.i64 true (0 : Int), SV.str true [], SV.int IntKind.i64 true (0 : Int), SV.str true [], SV.int IntKind.i64 true (0 : Int),
                                    SV.int IntKind.i64 true (0 : Int), SV.int IntKind.i64 true (0 : Int), SV.int IntKind.i64 true (0 : Int), SV.int IntKind.i64 true (0 : Int),
                                    SV.int IntKind.i64 true (0 : Int), SV.str true [], SV.int IntKind.i64 true (0 : Int), SV.str true [], SV.int IntKind.i64 true (0 : Int),
                                    SV.int IntKind.i64 true (0 : Int), SV.int IntKind.i64 true (0 : Int), SV.int IntKind.i64 true (0 : Int), SV.int IntKind.i64 true (0 : Int),
                                    SV.int IntKind.i64 true (0 : Int), SV.str true [], SV.int IntKind.i64 true (0 : Int), SV.str true [], SV.int IntKind.i64 true (0 : Int),
                                    SV.int IntKind.i64 true (0 : Int), SV.int IntKind.i64 true (0 : Int), SV.int IntKind.i64 true (0 : Int), SV.int IntKind.i64 true (0 : Int),
                                    SV.int IntKind.i64 true (0 : Int), SV.str true [], SV.int IntKind.i64 true (0 : Int), SV.str true [], SV.int IntKind.i64 true (0 : Int),
                                    SV.int IntKind.i64 true (0 : Int), SV.int IntKind.i64 true (0 : Int), SV.int IntKind.i64 true (0 : Int), SV.int IntKind.i64 true (0 : Int),
                                    SV.int IntKind.i64 true (0 : Int), SV.int IntKind.i64 true (0 : Int), SV.int IntKind.i64 true (0 : Int), SV.int IntKind.i64 true (0 : Int),
                                    SV.int IntKind.i64 true (0 : Int), SV.int IntKind.i64 true (0 : Int), SV.int IntKind.i64 true (0 : Int)]
                                  (49 : Nat) (61 : Nat))
                                y.T.sbO ∧
                              SBle (SB.view z o n (acCols g)) (SB.view z o n (acCols g)) ∧ True) ∧
                      ∀ (x : ActG),
                        x.i ≤ n ∧ Inv (topM most) x.i x.T →
                          (decide ((↑x.i : Int) < (↑n : Int)) = true →
                              ((0 : Int) ≤ (↑x.i : Int) ∧ (↑x.i : Int) < (↑n : Int)) ∧
                                (o = o ∧ (0 : Nat) + (↑x.i : Int).toNat < n) ∧
                                  ∃ (T : Tb),
                                    SBle (SB.cells x.T.svO (49 : Nat) tableT) T.sbO ∧
                                      (T.Ok ∧ okClock (g ((0 : Nat) + (↑x.i : Int).toNat)).clock) ∧
                                        ∀ (c : Nat),
                                          (T.act (g ((0 : Nat) + (↑x.i : Int).toNat))).fst.all.length ≤ c →
                                            ((-9223372036854775808 : Int) ≤ (↑x.i : Int) + (1 : Int) ∧ (↑x.i : Int) + (1 : Int) ≤ (9223372036854775807 : Int)) ∧
                                              ∃ (y : ActG),
                                                ((y.i ≤ n ∧ Inv (topM most) y.i y.T) ∧ n - y.i < n - x.i) ∧
                                                  (↑x.i : Int) + (1 : Int) = (↑y.i : Int) ∧
                                                    SBle (SB.cells (T.act (g ((0 : Nat) + (↑x.i : Int).toNat))).snd.svO (49 : Nat) tableT) y.T.sbO ∧
                                                      SBle (SB.view z o n (acCols g)) (SB.view z o n (acCols g)) ∧ True) ∧
                            (decide ((↑x.i : Int) < (↑n : Int)) = false →
                              ∃ (T : Tb),
                                SBle (SB.cells x.T.svO (49 : Nat) tableT) T.sbO ∧
                                  (T.Ok ∧ True) ∧
                                    ∃ (T_1 : Tb),
                                      SBle (SB.cells T.svO (49 : Nat) tableT) T_1.sbO ∧
                                        (T_1.Ok ∧ True) ∧
                                          ∀ (c : Nat),
                                            T_1.ss.length ≤ c →
                                              ∃ (T_2 : Tb),
                                                SBle (SB.cells T_1.svO (49 : Nat) tableT) T_2.sbO ∧
                                                  (T_2.Ok ∧ True) ∧
                                                    ((!decide (T.live id clock = (0 : Int))) = true →
                                                        (decide (T_2.live id clock = T.live id clock) = true →
                                                            ∃ (T : Tb),
                                                              SBle (SB.cells (T_2.rel id clock).svO (49 : Nat) tableT) T.sbO ∧
                                                                (T.Ok ∧ True) ∧
                                                                  ∀ (c_1 : Nat),
                                                                    T.ss.length ≤ c_1 →
                                                                      ∃ (x : List Sl × List Sl × Nat × Nat),
                                                                        (T.ss.length = x.fst.length ∧
                                                                            T_1.ss.length = x.snd.fst.length ∧
                                                                              T.ss.length < (1000000000000000 : Nat) ∧
                                                                                SBle (SB.rows false T.ss.length (sessCols T.ss) false (c_1 * (4 : Nat)) sessT)
                                                                                    (SB.rows false x.fst.length (sessCols x.fst) true x.snd.snd.fst sessT) ∧
                                                                                  SBle (SB.rows false T_1.ss.length (sessCols T_1.ss) false (c * (4 : Nat)) sessT)
                                                                                    (SB.rows false x.snd.fst.length (sessCols x.snd.fst) true x.snd.snd.snd sessT)) ∧
                                                                          ∀ (r : Bool), (r = true ↔ List.map Sl.bare x.fst = List.map Sl.bare x.snd.fst) → post (SV.bool false r)) ∧
                                                          (decide (T_2.live id clock = T.live id clock) = false → post (SV.bool true false))) ∧
                                                      ((!decide (T.live id clock = (0 : Int))) = false →
                                                        (∃ (y : LeftG),
                                                            LeftPre T_1.ss.length (fun (s : Sl) => decide (s.id ≠ id))
                                                                (fun (i : Nat) =>
                                                                  { id := (T_1.ss.getD i Sl.zero).id, block := (T_1.ss.getD i Sl.zero).block, dl := (T_1.ss.getD i Sl.zero).dl,
                                                                    last := (T_1.ss.getD i Sl.zero).last, s0 := (0 : Int), r0 := [], s1 := (0 : Int), r1 := [], stored := (0 : Int) : Sl })
                                                                y ∧
                                                              (0 : Int) = (↑y.k : Int) ∧
                                                                y.l.length = (0 : Nat) ∧
                                                                  (SB.rows true y.l.length (sessCols y.l) false (y.c * (4 : Nat)) sessT).no = true ∧
                                                                    SBle (SB.rows false T_1.ss.length (sessCols T_1.ss) false (c * (4 : Nat)) sessT)
                                                                        (SB.rows false T_1.ss.length (sessCols T_1.ss) false (c * (4 : Nat)) sessT) ∧
                                                                      SBle
                                                                          (SB.cells
                                                                            (setRange
                                                                              (SV.agg
                                                                                  [SV.int IntKind.i64 true (0 : Int), SV.int IntKind.i64 true (0 : Int), SV.int IntKind.i64 true (0 : Int),
                                                                                    SV.int IntKind.i64 true (0 : Int)]).cells
                                                                              (0 : Nat) (SV.agg (T.of id clock).bare).cells)
                                                                            (4 : Nat) (29 : Nat))
                                                                          (SB.cells
                                                                            (setRange
                                                                              (SV.agg
                                                                                  [SV.int IntKind.i64 true (0 : Int), SV.int IntKind.i64 true (0 : Int), SV.int IntKind.i64 true (0 : Int),
                                                                                    SV.int IntKind.i64 true (0 : Int)]).cells
                                                                              (0 : Nat) (SV.agg (T.of id clock).bare).cells)
                                                                            (4 : Nat) (29 : Nat)) ∧
                                                                        SBle (T_2.rel id clock).sbO (T_2.rel id clock).sbO ∧ SBle (SB.view z o n (acCols g)) (SB.view z o n (acCols g)) ∧ True) ∧
                                                          ∀ (x : LeftG),
                                                            LeftPre T_1.ss.length (fun (s : Sl) => decide (s.id ≠ id))
                                                                (fun (i : Nat) =>
                                                                  { id := (T_1.ss.getD i Sl.zero).id, block := (T_1.ss.getD i Sl.zero).block, dl := (T_1.ss.getD i Sl.zero).dl,
                                                                    last := (T_1.ss.getD i Sl.zero).last, s0 := (0 : Int), r0 := [], s1 := (0 : Int), r1 := [], stored := (0 : Int) : Sl })
                                                                x →
                                                              (decide ((↑x.k : Int) < (↑T_1.ss.length : Int)) = true →
                                                                  ((0 : Int) ≤ (↑x.k : Int) ∧ (↑x.k : Int) < (↑T_1.ss.length : Int)) ∧
                                                                    (0 : Nat) + (↑x.k : Int).toNat < T_1.ss.length ∧
                                                                      ((!decide ((T_1.ss.getD ((0 : Nat) + (↑x.k : Int).toNat) Sl.zero).id = id)) = true →
                                                                          ((0 : Int) ≤ (↑x.k : Int) ∧ (↑x.k : Int) < (↑T_1.ss.length : Int)) ∧
                                                                            (0 : Nat) + (↑x.k : Int).toNat < T_1.ss.length ∧
                                                                              ((0 : Nat) + x.l.length ≤ x.l.length ∧
                                                                                  True ∧
                                                                                    (2 : Nat) * (x.l.length + (1 : Nat)) * (32 : Nat) ≤ (281474976710656 : Nat) ∧
                                                                                      x.l.length + (1 : Nat) < (9223372036854775808 : Nat)) ∧
                                                                                x.c * (4 : Nat) = x.c * (4 : Nat) ∧
                                                                                  ∀ (c_1 : Nat),
                                                                                    x.l.length + (1 : Nat) ≤ c_1 →
                                                                                      ((-9223372036854775808 : Int) ≤ (↑x.k : Int) + (1 : Int) ∧
                                                                                          (↑x.k : Int) + (1 : Int) ≤ (9223372036854775807 : Int)) ∧
                                                                                        ∃ (y : LeftG),
                                                                                          (LeftPre T_1.ss.length (fun (s : Sl) => decide (s.id ≠ id))
                                                                                                (fun (i : Nat) =>
                                                                                                  { id := (T_1.ss.getD i Sl.zero).id, block := (T_1.ss.getD i Sl.zero).block,
                                                                                                    dl := (T_1.ss.getD i Sl.zero).dl, last := (T_1.ss.getD i Sl.zero).last, s0 := (0 : Int), r0 := [],
                                                                                                    s1 := (0 : Int), r1 := [], stored := (0 : Int) : Sl })
                                                                                                y ∧
                                                                                              T_1.ss.length - y.k < T_1.ss.length - x.k) ∧
                                                                                            (↑x.k : Int) + (1 : Int) = (↑y.k : Int) ∧
                                                                                              ((0 : Nat) = (0 : Nat) ∧ x.l.length + (1 : Nat) = y.l.length ∧ c_1 = y.c) ∧
                                                                                                True ∧
                                                                                                  SBle
                                                                                                      (SB.rows true (x.l.length + (1 : Nat))
                                                                                                        [Col.int IntKind.i64 fun (j : Nat) =>
                                                                                                            if j < x.l.length then (x.l.getD j Sl.zero).id
                                                                                                            else sel [(T_1.ss.getD ((0 : Nat) + (↑x.k : Int).toNat) Sl.zero).id] (j - x.l.length),
                                                                                                          Col.int IntKind.i64 fun (j : Nat) =>
                                                                                                            if j < x.l.length then (x.l.getD j Sl.zero).block
                                                                                                            else sel [(T_1.ss.getD ((0 : Nat) + (↑x.k : Int).toNat) Sl.zero).block] (j - x.l.length),
                                                                                                          Col.int IntKind.i64 fun (j : Nat) =>
                                                                                                            if j < x.l.length then (x.l.getD j Sl.zero).dl
                                                                                                            else sel [(T_1.ss.getD ((0 : Nat) + (↑x.k : Int).toNat) Sl.zero).dl] (j - x.l.length),
                                                                                                          Col.int IntKind.i64 fun (j : Nat) =>
                                                                                                            if j < x.l.length then (x.l.getD j Sl.zero).last
                                                                                                            else sel [(T_1.ss.getD ((0 : Nat) + (↑x.k : Int).toNat) Sl.zero).last] (j - x.l.length)]
                                                                                                        false (c_1 * (4 : Nat)) (29 : Nat))
                                                                                                      (SB.rows true y.l.length (sessCols y.l) false (y.c * (4 : Nat)) sessT) ∧
                                                                                                    SBle (SB.rows false T_1.ss.length (sessCols T_1.ss) false (c * (4 : Nat)) sessT)
                                                                                                        (SB.rows false T_1.ss.length (sessCols T_1.ss) false (c * (4 : Nat)) sessT) ∧
                                                                                                      SBle
                                                                                                          (SB.cells
                                                                                                            (setRange
                                                                                                              (SV.agg
                                                                                                                  [SV.int IntKind.i64 true (0 : Int), SV.int IntKind.i64 true (0 : Int),
                                                                                                                    SV.int IntKind.i64 true (0 : Int), SV.int IntKind.i64 true (0 : Int)]).cells
                                                                                                              (0 : Nat) (SV.agg (T.of id clock).bare).cells)
                                                                                                            (4 : Nat) (29 : Nat))
                                                                                                          (SB.cells
                                                                                                            (setRange
                                                                                                              (SV.agg
                                                                                                                  [SV.int IntKind.i64 true (0 : Int), SV.int IntKind.i64 true (0 : Int),
                                                                                                                    SV.int IntKind.i64 true (0 : Int), SV.int IntKind.i64 true (0 : Int)]).cells
                                                                                                              (0 : Nat) (SV.agg (T.of id clock).bare).cells)
                                                                                                            (4 : Nat) (29 : Nat)) ∧
                                                                                                        SBle (T_2.rel id clock).sbO (T_2.rel id clock).sbO ∧
                                                                                                          SBle (SB.view z o n (acCols g)) (SB.view z o n (acCols g)) ∧ True) ∧
                                                                        ((!decide ((T_1.ss.getD ((0 : Nat) + (↑x.k : Int).toNat) Sl.zero).id = id)) = false →
                                                                          ((-9223372036854775808 : Int) ≤ (↑x.k : Int) + (1 : Int) ∧ (↑x.k : Int) + (1 : Int) ≤ (9223372036854775807 : Int)) ∧
                                                                            ∃ (y : LeftG),
                                                                              (LeftPre T_1.ss.length (fun (s : Sl) => decide (s.id ≠ id))
                                                                                    (fun (i : Nat) =>
                                                                                      { id := (T_1.ss.getD i Sl.zero).id, block := (T_1.ss.getD i Sl.zero).block, dl := (T_1.ss.getD i Sl.zero).dl,
                                                                                        last := (T_1.ss.getD i Sl.zero).last, s0 := (0 : Int), r0 := [], s1 := (0 : Int), r1 := [],
                                                                                        stored := (0 : Int) : Sl })
                                                                                    y ∧
                                                                                  T_1.ss.length - y.k < T_1.ss.length - x.k) ∧
                                                                                (↑x.k : Int) + (1 : Int) = (↑y.k : Int) ∧
                                                                                  ((0 : Nat) = (0 : Nat) ∧ x.l.length = y.l.length ∧ x.c = y.c) ∧
                                                                                    True ∧
                                                                                      SBle
                                                                                          (SB.rows true x.l.length
                                                                                            [Col.int IntKind.i64 fun (i : Nat) => (x.l.getD i Sl.zero).id,
                                                                                              Col.int IntKind.i64 fun (i : Nat) => (x.l.getD i Sl.zero).block,
                                                                                              Col.int IntKind.i64 fun (i : Nat) => (x.l.getD i Sl.zero).dl,
                                                                                              Col.int IntKind.i64 fun (i : Nat) => (x.l.getD i Sl.zero).last]
                                                                                            false (x.c * (4 : Nat)) sessT)
                                                                                          (SB.rows true y.l.length (sessCols y.l) false (y.c * (4 : Nat)) sessT) ∧
                                                                                        SBle (SB.rows false T_1.ss.length (sessCols T_1.ss) false (c * (4 : Nat)) sessT)
                                                                                            (SB.rows false T_1.ss.length (sessCols T_1.ss) false (c * (4 : Nat)) sessT) ∧
                                                                                          SBle
                                                                                              (SB.cells
                                                                                                (setRange
                                                                                                  (SV.agg
                                                                                                      [SV.int IntKind.i64 true (0 : Int), SV.int IntKind.i64 true (0 : Int),
                                                                                                        SV.int IntKind.i64 true (0 : Int), SV.int IntKind.i64 true (0 : Int)]).cells
                                                                                                  (0 : Nat) (SV.agg (T.of id clock).bare).cells)
                                                                                                (4 : Nat) (29 : Nat))
                                                                                              (SB.cells
                                                                                                (setRange
                                                                                                  (SV.agg
                                                                                                      [SV.int IntKind.i64 true (0 : Int), SV.int IntKind.i64 true (0 : Int),
                                                                                                        SV.int IntKind.i64 true (0 : Int), SV.int IntKind.i64 true (0 : Int)]).cells
                                                                                                  (0 : Nat) (SV.agg (T.of id clock).bare).cells)
                                                                                                (4 : Nat) (29 : Nat)) ∧
                                                                                            SBle (T_2.rel id clock).sbO (T_2.rel id clock).sbO ∧
                                                                                              SBle (SB.view z o n (acCols g)) (SB.view z o n (acCols g)) ∧ True)) ∧
                                                                (decide ((↑x.k : Int) < (↑T_1.ss.length : Int)) = false →
                                                                  ∃ (T_3 : Tb),
                                                                    SBle (SB.cells (T_2.rel id clock).svO (49 : Nat) tableT) T_3.sbO ∧
                                                                      (T_3.Ok ∧ True) ∧
                                                                        ∃ (T_4 : Tb),
                                                                          SBle (SB.cells T_3.svO (49 : Nat) tableT) T_4.sbO ∧
                                                                            (T_4.Ok ∧ True) ∧
                                                                              ∃ (T_5 : Tb),
                                                                                SBle (SB.cells (T_4.store id (1000000 : Int) [(120 : UInt8)]).svO (49 : Nat) tableT) T_5.sbO ∧
                                                                                  (T_5.Ok ∧ okClock clock) ∧
                                                                                    ∃ (T_6 : Tb),
                                                                                      SBle
                                                                                          (SB.cells
                                                                                            (T_5.mod id clock fun (s : Sl) =>
                                                                                                { id := s.id, block := s.block, dl := clock + T_5.term, last := s.last, s0 := s.s0, r0 := s.r0,
                                                                                                  s1 := s.s1, r1 := s.r1, stored := s.stored : Sl }).svO
                                                                                            (49 : Nat) tableT)
                                                                                          T_6.sbO ∧
                                                                                        (T_6.Ok ∧ True) ∧
                                                                                          ∀ (c : Nat),
                                                                                            T_6.ss.length ≤ c →
                                                                                              ∃ (x_6 : List Sl × List Sl × Nat × Nat),
                                                                                                (T_6.ss.length = x_6.fst.length ∧
                                                                                                    x.l.length = x_6.snd.fst.length ∧
                                                                                                      T_6.ss.length < (1000000000000000 : Nat) ∧
                                                                                                        SBle (SB.rows false T_6.ss.length (sessCols T_6.ss) false (c * (4 : Nat)) sessT)
                                                                                                            (SB.rows false x_6.fst.length (sessCols x_6.fst) true x_6.snd.snd.fst sessT) ∧
                                                                                                          SBle (SB.rows true x.l.length (sessCols x.l) false (x.c * (4 : Nat)) sessT)
                                                                                                            (SB.rows true x_6.snd.fst.length (sessCols x_6.snd.fst) true x_6.snd.snd.snd sessT)) ∧
                                                                                                  ∀ (r : Bool),
                                                                                                    (r = true ↔ List.map Sl.bare x_6.fst = List.map Sl.bare x_6.snd.fst) →
                                                                                                      ∃ (T_7 : Tb),
                                                                                                        SBle (SB.cells T_6.svO (49 : Nat) tableT) T_7.sbO ∧
                                                                                                          (T_7.Ok ∧ okClock clock) ∧
                                                                                                            (decide (T_2.live id clock = (0 : Int)) = true →
                                                                                                                (decide ((T_2.of id clock).block = (T.of id clock).block) = true →
                                                                                                                    (decide ((T_3.replay id (1 : Int)).snd = (5 : Int)) = true →
                                                                                                                        (decide (T_4.storeE id (1000000 : Int) = (5 : Int)) = true →
                                                                                                                            (decide (T_5.live id clock = (5 : Int)) = true →
                                                                                                                                (r = true →
                                                                                                                                    post
                                                                                                                                      (SV.bool (false && true)
                                                                                                                                        (decide
                                                                                                                                          ((if T_7.full then (12 : Int) else (0 : Int)) =
                                                                                                                                            (0 : Int))))) ∧
                                                                                                                                  (r = false → post (SV.bool true false))) ∧
                                                                                                                              (decide (T_5.live id clock = (5 : Int)) = false →
                                                                                                                                post (SV.bool true false))) ∧
                                                                                                                          (decide (T_4.storeE id (1000000 : Int) = (5 : Int)) = false →
                                                                                                                            post (SV.bool true false))) ∧
                                                                                                                      (decide ((T_3.replay id (1 : Int)).snd = (5 : Int)) = false →
                                                                                                                        post (SV.bool true false))) ∧
                                                                                                                  (decide ((T_2.of id clock).block = (T.of id clock).block) = false →
                                                                                                                    post (SV.bool true false))) ∧
                                                                                                              (decide (T_2.live id clock = (0 : Int)) = false → post (SV.bool true false))))))))) := by kernel_rfl
end Go.Proofs.Ytobbhdmbblhgaaa
