/-
  Conditions that the executor computes, written out by a program (vcgen.py).
-/
import Derived.Test.YtobbhdmbblhgaaaLsB
namespace Go.Proofs.Ytobbhdmbblhgaaa
open Go Sx

theorem vcOpen0 (T : Tb) (id clock : Int) (post : SV → Tb × Int → Prop) : VC.holds (runT 20 Try.f20 {T with ss := []} id [iv id, iv clock] (postK post)) = ((decide (T.most ≤ (↑(0 : Nat) : Int)) = true →
    post (SV.tup [SV.int IntKind.i64 true (0 : Int), SV.int IntKind.i64 true (12 : Int)])
      ({ most := T.most, term := T.term, ss := [Sl.zero, Sl.zero, Sl.zero, Sl.zero], opened := T.opened, e0 := T.e0, e1 := T.e1, e2 := T.e2, e3 := T.e3, e4 := T.e4, e5 := T.e5, e6 := T.e6, e7 := T.e7,
          ends := T.ends : Tb },
        (↑(0 : Nat) : Int))) ∧
  (decide (T.most ≤ (↑(0 : Nat) : Int)) = false →
    (decide ((1048576 : Int) ≤ T.opened) = true →
        post (SV.tup [SV.int IntKind.i64 true (0 : Int), SV.int IntKind.i64 true (12 : Int)])
          ({ most := T.most, term := T.term, ss := [Sl.zero, Sl.zero, Sl.zero, Sl.zero], opened := T.opened, e0 := T.e0, e1 := T.e1, e2 := T.e2, e3 := T.e3, e4 := T.e4, e5 := T.e5, e6 := T.e6,
              e7 := T.e7, ends := T.ends : Tb },
            (↑(0 : Nat) : Int))) ∧
      (decide ((1048576 : Int) ≤ T.opened) = false →
        ((-9223372036854775808 : Int) ≤ T.opened + (1 : Int) ∧ T.opened + (1 : Int) ≤ (9223372036854775807 : Int)) ∧
          ((-9223372036854775808 : Int) ≤ clock + T.term ∧ clock + T.term ≤ (9223372036854775807 : Int)) ∧
            post (SV.tup [SV.int IntKind.i64 false (T.opened + (1 : Int)), SV.int IntKind.i64 true (0 : Int)])
              ({ most := T.most, term := T.term,
                  ss :=
                    [{ id := T.opened + (1 : Int), block := id, dl := clock + T.term, last := (0 : Int), s0 := (0 : Int), r0 := [], s1 := (0 : Int), r1 := [], stored := (0 : Int) : Sl }, Sl.zero,
                      Sl.zero, Sl.zero],
                  opened := T.opened + (1 : Int), e0 := T.e0, e1 := T.e1, e2 := T.e2, e3 := T.e3, e4 := T.e4, e5 := T.e5, e6 := T.e6, e7 := T.e7, ends := T.ends : Tb },
                IntKind.i64.wrap ((↑(0 : Nat) : Int) + (1 : Int)))))) := by kernel_rfl
theorem vcOpen1 (T : Tb) (a : Sl) (id clock : Int) (post : SV → Tb × Int → Prop) : VC.holds (runT 20 Try.f20 {T with ss := [a]} id [iv id, iv clock] (postK post)) = ((decide (T.most ≤ (↑(1 : Nat) : Int)) = true →
    post (SV.tup [SV.int IntKind.i64 true (0 : Int), SV.int IntKind.i64 true (12 : Int)])
      ({ most := T.most, term := T.term, ss := [a, Sl.zero, Sl.zero, Sl.zero], opened := T.opened, e0 := T.e0, e1 := T.e1, e2 := T.e2, e3 := T.e3, e4 := T.e4, e5 := T.e5, e6 := T.e6, e7 := T.e7,
          ends := T.ends : Tb },
        (↑(1 : Nat) : Int))) ∧
  (decide (T.most ≤ (↑(1 : Nat) : Int)) = false →
    (decide ((1048576 : Int) ≤ T.opened) = true →
        post (SV.tup [SV.int IntKind.i64 true (0 : Int), SV.int IntKind.i64 true (12 : Int)])
          ({ most := T.most, term := T.term, ss := [a, Sl.zero, Sl.zero, Sl.zero], opened := T.opened, e0 := T.e0, e1 := T.e1, e2 := T.e2, e3 := T.e3, e4 := T.e4, e5 := T.e5, e6 := T.e6, e7 := T.e7,
              ends := T.ends : Tb },
            (↑(1 : Nat) : Int))) ∧
      (decide ((1048576 : Int) ≤ T.opened) = false →
        ((-9223372036854775808 : Int) ≤ T.opened + (1 : Int) ∧ T.opened + (1 : Int) ≤ (9223372036854775807 : Int)) ∧
          ((-9223372036854775808 : Int) ≤ clock + T.term ∧ clock + T.term ≤ (9223372036854775807 : Int)) ∧
            post (SV.tup [SV.int IntKind.i64 false (T.opened + (1 : Int)), SV.int IntKind.i64 true (0 : Int)])
              ({ most := T.most, term := T.term,
                  ss :=
                    [a, { id := T.opened + (1 : Int), block := id, dl := clock + T.term, last := (0 : Int), s0 := (0 : Int), r0 := [], s1 := (0 : Int), r1 := [], stored := (0 : Int) : Sl }, Sl.zero,
                      Sl.zero],
                  opened := T.opened + (1 : Int), e0 := T.e0, e1 := T.e1, e2 := T.e2, e3 := T.e3, e4 := T.e4, e5 := T.e5, e6 := T.e6, e7 := T.e7, ends := T.ends : Tb },
                IntKind.i64.wrap ((↑(1 : Nat) : Int) + (1 : Int)))))) := by kernel_rfl
theorem vcOpen2 (T : Tb) (a b : Sl) (id clock : Int) (post : SV → Tb × Int → Prop) : VC.holds (runT 20 Try.f20 {T with ss := [a, b]} id [iv id, iv clock] (postK post)) = ((decide (T.most ≤ (↑(2 : Nat) : Int)) = true →
    post (SV.tup [SV.int IntKind.i64 true (0 : Int), SV.int IntKind.i64 true (12 : Int)])
      ({ most := T.most, term := T.term, ss := [a, b, Sl.zero, Sl.zero], opened := T.opened, e0 := T.e0, e1 := T.e1, e2 := T.e2, e3 := T.e3, e4 := T.e4, e5 := T.e5, e6 := T.e6, e7 := T.e7,
          ends := T.ends : Tb },
        (↑(2 : Nat) : Int))) ∧
  (decide (T.most ≤ (↑(2 : Nat) : Int)) = false →
    (decide ((1048576 : Int) ≤ T.opened) = true →
        post (SV.tup [SV.int IntKind.i64 true (0 : Int), SV.int IntKind.i64 true (12 : Int)])
          ({ most := T.most, term := T.term, ss := [a, b, Sl.zero, Sl.zero], opened := T.opened, e0 := T.e0, e1 := T.e1, e2 := T.e2, e3 := T.e3, e4 := T.e4, e5 := T.e5, e6 := T.e6, e7 := T.e7,
              ends := T.ends : Tb },
            (↑(2 : Nat) : Int))) ∧
      (decide ((1048576 : Int) ≤ T.opened) = false →
        ((-9223372036854775808 : Int) ≤ T.opened + (1 : Int) ∧ T.opened + (1 : Int) ≤ (9223372036854775807 : Int)) ∧
          ((-9223372036854775808 : Int) ≤ clock + T.term ∧ clock + T.term ≤ (9223372036854775807 : Int)) ∧
            post (SV.tup [SV.int IntKind.i64 false (T.opened + (1 : Int)), SV.int IntKind.i64 true (0 : Int)])
              ({ most := T.most, term := T.term,
                  ss :=
                    [a, b, { id := T.opened + (1 : Int), block := id, dl := clock + T.term, last := (0 : Int), s0 := (0 : Int), r0 := [], s1 := (0 : Int), r1 := [], stored := (0 : Int) : Sl },
                      Sl.zero],
                  opened := T.opened + (1 : Int), e0 := T.e0, e1 := T.e1, e2 := T.e2, e3 := T.e3, e4 := T.e4, e5 := T.e5, e6 := T.e6, e7 := T.e7, ends := T.ends : Tb },
                IntKind.i64.wrap ((↑(2 : Nat) : Int) + (1 : Int)))))) := by kernel_rfl
theorem vcOpen3 (T : Tb) (a b c : Sl) (id clock : Int) (post : SV → Tb × Int → Prop) : VC.holds (runT 20 Try.f20 {T with ss := [a, b, c]} id [iv id, iv clock] (postK post)) = ((decide (T.most ≤ (↑(3 : Nat) : Int)) = true →
    post (SV.tup [SV.int IntKind.i64 true (0 : Int), SV.int IntKind.i64 true (12 : Int)])
      ({ most := T.most, term := T.term, ss := [a, b, c, Sl.zero], opened := T.opened, e0 := T.e0, e1 := T.e1, e2 := T.e2, e3 := T.e3, e4 := T.e4, e5 := T.e5, e6 := T.e6, e7 := T.e7, ends := T.ends :
          Tb },
        (↑(3 : Nat) : Int))) ∧
  (decide (T.most ≤ (↑(3 : Nat) : Int)) = false →
    (decide ((1048576 : Int) ≤ T.opened) = true →
        post (SV.tup [SV.int IntKind.i64 true (0 : Int), SV.int IntKind.i64 true (12 : Int)])
          ({ most := T.most, term := T.term, ss := [a, b, c, Sl.zero], opened := T.opened, e0 := T.e0, e1 := T.e1, e2 := T.e2, e3 := T.e3, e4 := T.e4, e5 := T.e5, e6 := T.e6, e7 := T.e7,
              ends := T.ends : Tb },
            (↑(3 : Nat) : Int))) ∧
      (decide ((1048576 : Int) ≤ T.opened) = false →
        ((-9223372036854775808 : Int) ≤ T.opened + (1 : Int) ∧ T.opened + (1 : Int) ≤ (9223372036854775807 : Int)) ∧
          ((-9223372036854775808 : Int) ≤ clock + T.term ∧ clock + T.term ≤ (9223372036854775807 : Int)) ∧
            post (SV.tup [SV.int IntKind.i64 false (T.opened + (1 : Int)), SV.int IntKind.i64 true (0 : Int)])
              ({ most := T.most, term := T.term,
                  ss := [a, b, c, { id := T.opened + (1 : Int), block := id, dl := clock + T.term, last := (0 : Int), s0 := (0 : Int), r0 := [], s1 := (0 : Int), r1 := [], stored := (0 : Int) : Sl }],
                  opened := T.opened + (1 : Int), e0 := T.e0, e1 := T.e1, e2 := T.e2, e3 := T.e3, e4 := T.e4, e5 := T.e5, e6 := T.e6, e7 := T.e7, ends := T.ends : Tb },
                IntKind.i64.wrap ((↑(3 : Nat) : Int) + (1 : Int)))))) := by kernel_rfl
theorem vcOpen4 (T : Tb) (a b c d : Sl) (id clock : Int) (post : SV → Tb × Int → Prop) : VC.holds (runT 20 Try.f20 {T with ss := [a, b, c, d]} id [iv id, iv clock] (postK post)) = ((decide (T.most ≤ (↑(4 : Nat) : Int)) = true →
    post (SV.tup [SV.int IntKind.i64 true (0 : Int), SV.int IntKind.i64 true (12 : Int)])
      ({ most := T.most, term := T.term, ss := [a, b, c, d], opened := T.opened, e0 := T.e0, e1 := T.e1, e2 := T.e2, e3 := T.e3, e4 := T.e4, e5 := T.e5, e6 := T.e6, e7 := T.e7, ends := T.ends : Tb },
        (↑(4 : Nat) : Int))) ∧
  (decide (T.most ≤ (↑(4 : Nat) : Int)) = false →
    (decide ((1048576 : Int) ≤ T.opened) = true →
        post (SV.tup [SV.int IntKind.i64 true (0 : Int), SV.int IntKind.i64 true (12 : Int)])
          ({ most := T.most, term := T.term, ss := [a, b, c, d], opened := T.opened, e0 := T.e0, e1 := T.e1, e2 := T.e2, e3 := T.e3, e4 := T.e4, e5 := T.e5, e6 := T.e6, e7 := T.e7, ends := T.ends :
              Tb },
            (↑(4 : Nat) : Int))) ∧
      (decide ((1048576 : Int) ≤ T.opened) = false → ((-9223372036854775808 : Int) ≤ T.opened + (1 : Int) ∧ T.opened + (1 : Int) ≤ (9223372036854775807 : Int)) ∧ False))) := by kernel_rfl
theorem vcFind0 (T : Tb) (id clock : Int) (post : SV → Tb × Int → Prop) : VC.holds (runT 14 Try.f14 {T with ss := []} id [iv id, iv clock] (postK post)) = ((∃ (x : Nat),
    ((↑x : Int) ≤ min T.ends (8 : Int) ∧
        ∀ (j : Nat),
          j < x →
            sel
                { most := T.most, term := T.term, ss := [], opened := T.opened, e0 := T.e0, e1 := T.e1, e2 := T.e2, e3 := T.e3, e4 := T.e4, e5 := T.e5, e6 := T.e6, e7 := T.e7, ends := T.ends :
                    Tb }.ring
                j ≠
              id) ∧
      (0 : Int) = (↑x : Int) ∧
        SBle (SB.cells (SV.agg [SV.int IntKind.i64 true (0 : Int), SV.int IntKind.i64 true (0 : Int), SV.int IntKind.i64 true (0 : Int), SV.int IntKind.i64 true (0 : Int)]).cells (4 : Nat) (29 : Nat))
            (SB.cells (SV.agg [SV.int IntKind.i64 true (0 : Int), SV.int IntKind.i64 true (0 : Int), SV.int IntKind.i64 true (0 : Int), SV.int IntKind.i64 true (0 : Int)]).cells (4 : Nat)
              (29 : Nat)) ∧
          SBle
              (Tb.sb true
                { most := T.most, term := T.term, ss := [], opened := T.opened, e0 := T.e0, e1 := T.e1, e2 := T.e2, e3 := T.e3, e4 := T.e4, e5 := T.e5, e6 := T.e6, e7 := T.e7, ends := T.ends : Tb })
              (Tb.sb true
                { most := T.most, term := T.term, ss := [], opened := T.opened, e0 := T.e0, e1 := T.e1, e2 := T.e2, e3 := T.e3, e4 := T.e4, e5 := T.e5, e6 := T.e6, e7 := T.e7, ends := T.ends : Tb }) ∧
            True) ∧
  ∀ (x : Nat),
    ((↑x : Int) ≤ min T.ends (8 : Int) ∧
        ∀ (j : Nat),
          j < x →
            sel
                { most := T.most, term := T.term, ss := [], opened := T.opened, e0 := T.e0, e1 := T.e1, e2 := T.e2, e3 := T.e3, e4 := T.e4, e5 := T.e5, e6 := T.e6, e7 := T.e7, ends := T.ends :
                    Tb }.ring
                j ≠
              id) →
      (decide ((↑x : Int) < min T.ends (8 : Int)) = true →
          ((0 : Int) ≤ (↑x : Int) ∧ (↑x : Int) < (8 : Int)) ∧
            (↑x : Int).toNat < (8 : Nat) ∧
              (decide (sel [T.e0, T.e1, T.e2, T.e3, T.e4, T.e5, T.e6, T.e7] (↑x : Int).toNat = id) = true →
                  post
                    (SV.tup
                      [SV.agg [SV.int IntKind.i64 true (0 : Int), SV.int IntKind.i64 true (0 : Int), SV.int IntKind.i64 true (0 : Int), SV.int IntKind.i64 true (0 : Int)],
                        SV.int IntKind.i64 true (6 : Int)])
                    ({ most := T.most, term := T.term, ss := [Sl.zero, Sl.zero, Sl.zero, Sl.zero], opened := T.opened, e0 := T.e0, e1 := T.e1, e2 := T.e2, e3 := T.e3, e4 := T.e4, e5 := T.e5,
                        e6 := T.e6, e7 := T.e7, ends := T.ends : Tb },
                      (↑(0 : Nat) : Int))) ∧
                (decide (sel [T.e0, T.e1, T.e2, T.e3, T.e4, T.e5, T.e6, T.e7] (↑x : Int).toNat = id) = false →
                  ((-9223372036854775808 : Int) ≤ (↑x : Int) + (1 : Int) ∧ (↑x : Int) + (1 : Int) ≤ (9223372036854775807 : Int)) ∧
                    ∃ (y : Nat),
                      (((↑y : Int) ≤ min T.ends (8 : Int) ∧
                            ∀ (j : Nat),
                              j < y →
                                sel
                                    { most := T.most, term := T.term, ss := [], opened := T.opened, e0 := T.e0, e1 := T.e1, e2 := T.e2, e3 := T.e3, e4 := T.e4, e5 := T.e5, e6 := T.e6, e7 := T.e7,
                                        ends := T.ends : Tb }.ring
                                    j ≠
                                  id) ∧
                          (8 : Nat) - y < (8 : Nat) - x) ∧
                        (↑x : Int) + (1 : Int) = (↑y : Int) ∧
                          SBle
                              (SB.cells (SV.agg [SV.int IntKind.i64 true (0 : Int), SV.int IntKind.i64 true (0 : Int), SV.int IntKind.i64 true (0 : Int), SV.int IntKind.i64 true (0 : Int)]).cells
                                (4 : Nat) (29 : Nat))
                              (SB.cells (SV.agg [SV.int IntKind.i64 true (0 : Int), SV.int IntKind.i64 true (0 : Int), SV.int IntKind.i64 true (0 : Int), SV.int IntKind.i64 true (0 : Int)]).cells
                                (4 : Nat) (29 : Nat)) ∧
                            SBle
                                (Tb.sb true
                                  { most := T.most, term := T.term, ss := [], opened := T.opened, e0 := T.e0, e1 := T.e1, e2 := T.e2, e3 := T.e3, e4 := T.e4, e5 := T.e5, e6 := T.e6, e7 := T.e7,
                                    ends := T.ends : Tb })
                                (Tb.sb true
                                  { most := T.most, term := T.term, ss := [], opened := T.opened, e0 := T.e0, e1 := T.e1, e2 := T.e2, e3 := T.e3, e4 := T.e4, e5 := T.e5, e6 := T.e6, e7 := T.e7,
                                    ends := T.ends : Tb }) ∧
                              True)) ∧
        (decide ((↑x : Int) < min T.ends (8 : Int)) = false →
          post
            (SV.tup
              [SV.agg [SV.int IntKind.i64 true (0 : Int), SV.int IntKind.i64 true (0 : Int), SV.int IntKind.i64 true (0 : Int), SV.int IntKind.i64 true (0 : Int)], SV.int IntKind.i64 true (5 : Int)])
            ({ most := T.most, term := T.term, ss := [Sl.zero, Sl.zero, Sl.zero, Sl.zero], opened := T.opened, e0 := T.e0, e1 := T.e1, e2 := T.e2, e3 := T.e3, e4 := T.e4, e5 := T.e5, e6 := T.e6,
                e7 := T.e7, ends := T.ends : Tb },
              (↑(0 : Nat) : Int)))) := by kernel_rfl
theorem vcFind1 (T : Tb) (a : Sl) (id clock : Int) (post : SV → Tb × Int → Prop) : VC.holds (runT 14 Try.f14 {T with ss := [a]} id [iv id, iv clock] (postK post)) = ((decide (a.id = id) = true →
    (decide (a.dl ≤ clock) = true →
        post
          (SV.tup
            [SV.agg [SV.int IntKind.i64 true (0 : Int), SV.int IntKind.i64 true (0 : Int), SV.int IntKind.i64 true (0 : Int), SV.int IntKind.i64 true (0 : Int)], SV.int IntKind.i64 true (6 : Int)])
          ({ most := T.most, term := T.term, ss := [a, Sl.zero, Sl.zero, Sl.zero], opened := T.opened, e0 := T.e0, e1 := T.e1, e2 := T.e2, e3 := T.e3, e4 := T.e4, e5 := T.e5, e6 := T.e6, e7 := T.e7,
              ends := T.ends : Tb },
            (↑(1 : Nat) : Int))) ∧
      (decide (a.dl ≤ clock) = false →
        post (SV.tup [SV.agg [SV.int IntKind.i64 false a.id, SV.int IntKind.i64 false a.block, SV.int IntKind.i64 false a.dl, SV.int IntKind.i64 false a.last], SV.int IntKind.i64 true (0 : Int)])
          ({ most := T.most, term := T.term, ss := [a, Sl.zero, Sl.zero, Sl.zero], opened := T.opened, e0 := T.e0, e1 := T.e1, e2 := T.e2, e3 := T.e3, e4 := T.e4, e5 := T.e5, e6 := T.e6, e7 := T.e7,
              ends := T.ends : Tb },
            (↑(1 : Nat) : Int)))) ∧
  (decide (a.id = id) = false →
    (∃ (x : Nat),
        ((↑x : Int) ≤ min T.ends (8 : Int) ∧
            ∀ (j : Nat),
              j < x →
                sel
                    { most := T.most, term := T.term, ss := [a], opened := T.opened, e0 := T.e0, e1 := T.e1, e2 := T.e2, e3 := T.e3, e4 := T.e4, e5 := T.e5, e6 := T.e6, e7 := T.e7, ends := T.ends :
                        Tb }.ring
                    j ≠
                  id) ∧
          (0 : Int) = (↑x : Int) ∧
            SBle
                (SB.cells (SV.agg [SV.int IntKind.i64 true (0 : Int), SV.int IntKind.i64 true (0 : Int), SV.int IntKind.i64 true (0 : Int), SV.int IntKind.i64 true (0 : Int)]).cells (4 : Nat)
                  (29 : Nat))
                (SB.cells (SV.agg [SV.int IntKind.i64 true (0 : Int), SV.int IntKind.i64 true (0 : Int), SV.int IntKind.i64 true (0 : Int), SV.int IntKind.i64 true (0 : Int)]).cells (4 : Nat)
                  (29 : Nat)) ∧
              SBle
                  (Tb.sb true
                    { most := T.most, term := T.term, ss := [a], opened := T.opened, e0 := T.e0, e1 := T.e1, e2 := T.e2, e3 := T.e3, e4 := T.e4, e5 := T.e5, e6 := T.e6, e7 := T.e7, ends := T.ends :
                      Tb })
                  (Tb.sb true
                    { most := T.most, term := T.term, ss := [a], opened := T.opened, e0 := T.e0, e1 := T.e1, e2 := T.e2, e3 := T.e3, e4 := T.e4, e5 := T.e5, e6 := T.e6, e7 := T.e7, ends := T.ends :
                      Tb }) ∧
                True) ∧
      ∀ (x : Nat),
        ((↑x : Int) ≤ min T.ends (8 : Int) ∧
            ∀ (j : Nat),
              j < x →
                sel
                    { most := T.most, term := T.term, ss := [a], opened := T.opened, e0 := T.e0, e1 := T.e1, e2 := T.e2, e3 := T.e3, e4 := T.e4, e5 := T.e5, e6 := T.e6, e7 := T.e7, ends := T.ends :
                        Tb }.ring
                    j ≠
                  id) →
          (decide ((↑x : Int) < min T.ends (8 : Int)) = true →
              ((0 : Int) ≤ (↑x : Int) ∧ (↑x : Int) < (8 : Int)) ∧
                (↑x : Int).toNat < (8 : Nat) ∧
                  (decide (sel [T.e0, T.e1, T.e2, T.e3, T.e4, T.e5, T.e6, T.e7] (↑x : Int).toNat = id) = true →
                      post
                        (SV.tup
                          [SV.agg [SV.int IntKind.i64 true (0 : Int), SV.int IntKind.i64 true (0 : Int), SV.int IntKind.i64 true (0 : Int), SV.int IntKind.i64 true (0 : Int)],
                            SV.int IntKind.i64 true (6 : Int)])
                        ({ most := T.most, term := T.term, ss := [a, Sl.zero, Sl.zero, Sl.zero], opened := T.opened, e0 := T.e0, e1 := T.e1, e2 := T.e2, e3 := T.e3, e4 := T.e4, e5 := T.e5, e6 := T.e6,
                            e7 := T.e7, ends := T.ends : Tb },
                          (↑(1 : Nat) : Int))) ∧
                    (decide (sel [T.e0, T.e1, T.e2, T.e3, T.e4, T.e5, T.e6, T.e7] (↑x : Int).toNat = id) = false →
                      ((-9223372036854775808 : Int) ≤ (↑x : Int) + (1 : Int) ∧ (↑x : Int) + (1 : Int) ≤ (9223372036854775807 : Int)) ∧
                        ∃ (y : Nat),
                          (((↑y : Int) ≤ min T.ends (8 : Int) ∧
                                ∀ (j : Nat),
                                  j < y →
                                    sel
                                        { most := T.most, term := T.term, ss := [a], opened := T.opened, e0 := T.e0, e1 := T.e1, e2 := T.e2, e3 := T.e3, e4 := T.e4, e5 := T.e5, e6 := T.e6, e7 := T.e7,
                                            ends := T.ends : Tb }.ring
                                        j ≠
                                      id) ∧
                              (8 : Nat) - y < (8 : Nat) - x) ∧
                            (↑x : Int) + (1 : Int) = (↑y : Int) ∧
                              SBle
                                  (SB.cells (SV.agg [SV.int IntKind.i64 true (0 : Int), SV.int IntKind.i64 true (0 : Int), SV.int IntKind.i64 true (0 : Int), SV.int IntKind.i64 true (0 : Int)]).cells
                                    (4 : Nat) (29 : Nat))
                                  (SB.cells (SV.agg [SV.int IntKind.i64 true (0 : Int), SV.int IntKind.i64 true (0 : Int), SV.int IntKind.i64 true (0 : Int), SV.int IntKind.i64 true (0 : Int)]).cells
                                    (4 : Nat) (29 : Nat)) ∧
                                SBle
                                    (Tb.sb true
                                      { most := T.most, term := T.term, ss := [a], opened := T.opened, e0 := T.e0, e1 := T.e1, e2 := T.e2, e3 := T.e3, e4 := T.e4, e5 := T.e5, e6 := T.e6, e7 := T.e7,
                                        ends := T.ends : Tb })
                                    (Tb.sb true
                                      { most := T.most, term := T.term, ss := [a], opened := T.opened, e0 := T.e0, e1 := T.e1, e2 := T.e2, e3 := T.e3, e4 := T.e4, e5 := T.e5, e6 := T.e6, e7 := T.e7,
                                        ends := T.ends : Tb }) ∧
                                  True)) ∧
            (decide ((↑x : Int) < min T.ends (8 : Int)) = false →
              post
                (SV.tup
                  [SV.agg [SV.int IntKind.i64 true (0 : Int), SV.int IntKind.i64 true (0 : Int), SV.int IntKind.i64 true (0 : Int), SV.int IntKind.i64 true (0 : Int)],
                    SV.int IntKind.i64 true (5 : Int)])
                ({ most := T.most, term := T.term, ss := [a, Sl.zero, Sl.zero, Sl.zero], opened := T.opened, e0 := T.e0, e1 := T.e1, e2 := T.e2, e3 := T.e3, e4 := T.e4, e5 := T.e5, e6 := T.e6,
                    e7 := T.e7, ends := T.ends : Tb },
                  (↑(1 : Nat) : Int))))) := by kernel_rfl
theorem vcFind2 (T : Tb) (a b : Sl) (id clock : Int) (post : SV → Tb × Int → Prop) : VC.holds (runT 14 Try.f14 {T with ss := [a, b]} id [iv id, iv clock] (postK post)) = ((decide (a.id = id) = true →
    (decide (a.dl ≤ clock) = true →
        post
          (SV.tup
            [SV.agg [SV.int IntKind.i64 true (0 : Int), SV.int IntKind.i64 true (0 : Int), SV.int IntKind.i64 true (0 : Int), SV.int IntKind.i64 true (0 : Int)], SV.int IntKind.i64 true (6 : Int)])
          ({ most := T.most, term := T.term, ss := [a, b, Sl.zero, Sl.zero], opened := T.opened, e0 := T.e0, e1 := T.e1, e2 := T.e2, e3 := T.e3, e4 := T.e4, e5 := T.e5, e6 := T.e6, e7 := T.e7,
              ends := T.ends : Tb },
            (↑(2 : Nat) : Int))) ∧
      (decide (a.dl ≤ clock) = false →
        post (SV.tup [SV.agg [SV.int IntKind.i64 false a.id, SV.int IntKind.i64 false a.block, SV.int IntKind.i64 false a.dl, SV.int IntKind.i64 false a.last], SV.int IntKind.i64 true (0 : Int)])
          ({ most := T.most, term := T.term, ss := [a, b, Sl.zero, Sl.zero], opened := T.opened, e0 := T.e0, e1 := T.e1, e2 := T.e2, e3 := T.e3, e4 := T.e4, e5 := T.e5, e6 := T.e6, e7 := T.e7,
              ends := T.ends : Tb },
            (↑(2 : Nat) : Int)))) ∧
  (decide (a.id = id) = false →
    (decide (b.id = id) = true →
        (decide (b.dl ≤ clock) = true →
            post
              (SV.tup
                [SV.agg [SV.int IntKind.i64 true (0 : Int), SV.int IntKind.i64 true (0 : Int), SV.int IntKind.i64 true (0 : Int), SV.int IntKind.i64 true (0 : Int)],
                  SV.int IntKind.i64 true (6 : Int)])
              ({ most := T.most, term := T.term, ss := [a, b, Sl.zero, Sl.zero], opened := T.opened, e0 := T.e0, e1 := T.e1, e2 := T.e2, e3 := T.e3, e4 := T.e4, e5 := T.e5, e6 := T.e6, e7 := T.e7,
                  ends := T.ends : Tb },
                (↑(2 : Nat) : Int))) ∧
          (decide (b.dl ≤ clock) = false →
            post (SV.tup [SV.agg [SV.int IntKind.i64 false b.id, SV.int IntKind.i64 false b.block, SV.int IntKind.i64 false b.dl, SV.int IntKind.i64 false b.last], SV.int IntKind.i64 true (0 : Int)])
              ({ most := T.most, term := T.term, ss := [a, b, Sl.zero, Sl.zero], opened := T.opened, e0 := T.e0, e1 := T.e1, e2 := T.e2, e3 := T.e3, e4 := T.e4, e5 := T.e5, e6 := T.e6, e7 := T.e7,
                  ends := T.ends : Tb },
                (↑(2 : Nat) : Int)))) ∧
      (decide (b.id = id) = false →
        (∃ (x : Nat),
            ((↑x : Int) ≤ min T.ends (8 : Int) ∧
                ∀ (j : Nat),
                  j < x →
                    sel
                        { most := T.most, term := T.term, ss := [a, b], opened := T.opened, e0 := T.e0, e1 := T.e1, e2 := T.e2, e3 := T.e3, e4 := T.e4, e5 := T.e5, e6 := T.e6, e7 := T.e7,
                            ends := T.ends : Tb }.ring
                        j ≠
                      id) ∧
              (0 : Int) = (↑x : Int) ∧
                SBle
                    (SB.cells (SV.agg [SV.int IntKind.i64 true (0 : Int), SV.int IntKind.i64 true (0 : Int), SV.int IntKind.i64 true (0 : Int), SV.int IntKind.i64 true (0 : Int)]).cells (4 : Nat)
                      (29 : Nat))
                    (SB.cells (SV.agg [SV.int IntKind.i64 true (0 : Int), SV.int IntKind.i64 true (0 : Int), SV.int IntKind.i64 true (0 : Int), SV.int IntKind.i64 true (0 : Int)]).cells (4 : Nat)
                      (29 : Nat)) ∧
                  SBle
                      (Tb.sb true
                        { most := T.most, term := T.term, ss := [a, b], opened := T.opened, e0 := T.e0, e1 := T.e1, e2 := T.e2, e3 := T.e3, e4 := T.e4, e5 := T.e5, e6 := T.e6, e7 := T.e7,
                          ends := T.ends : Tb })
                      (Tb.sb true
                        { most := T.most, term := T.term, ss := [a, b], opened := T.opened, e0 := T.e0, e1 := T.e1, e2 := T.e2, e3 := T.e3, e4 := T.e4, e5 := T.e5, e6 := T.e6, e7 := T.e7,
                          ends := T.ends : Tb }) ∧
                    True) ∧
          ∀ (x : Nat),
            ((↑x : Int) ≤ min T.ends (8 : Int) ∧
                ∀ (j : Nat),
                  j < x →
                    sel
                        { most := T.most, term := T.term, ss := [a, b], opened := T.opened, e0 := T.e0, e1 := T.e1, e2 := T.e2, e3 := T.e3, e4 := T.e4, e5 := T.e5, e6 := T.e6, e7 := T.e7,
                            ends := T.ends : Tb }.ring
                        j ≠
                      id) →
              (decide ((↑x : Int) < min T.ends (8 : Int)) = true →
                  ((0 : Int) ≤ (↑x : Int) ∧ (↑x : Int) < (8 : Int)) ∧
                    (↑x : Int).toNat < (8 : Nat) ∧
                      (decide (sel [T.e0, T.e1, T.e2, T.e3, T.e4, T.e5, T.e6, T.e7] (↑x : Int).toNat = id) = true →
                          post
                            (SV.tup
                              [SV.agg [SV.int IntKind.i64 true (0 : Int), SV.int IntKind.i64 true (0 : Int), SV.int IntKind.i64 true (0 : Int), SV.int IntKind.i64 true (0 : Int)],
                                SV.int IntKind.i64 true (6 : Int)])
                            ({ most := T.most, term := T.term, ss := [a, b, Sl.zero, Sl.zero], opened := T.opened, e0 := T.e0, e1 := T.e1, e2 := T.e2, e3 := T.e3, e4 := T.e4, e5 := T.e5, e6 := T.e6,
                                e7 := T.e7, ends := T.ends : Tb },
                              (↑(2 : Nat) : Int))) ∧
                        (decide (sel [T.e0, T.e1, T.e2, T.e3, T.e4, T.e5, T.e6, T.e7] (↑x : Int).toNat = id) = false →
                          ((-9223372036854775808 : Int) ≤ (↑x : Int) + (1 : Int) ∧ (↑x : Int) + (1 : Int) ≤ (9223372036854775807 : Int)) ∧
                            ∃ (y : Nat),
                              (((↑y : Int) ≤ min T.ends (8 : Int) ∧
                                    ∀ (j : Nat),
                                      j < y →
                                        sel
                                            { most := T.most, term := T.term, ss := [a, b], opened := T.opened, e0 := T.e0, e1 := T.e1, e2 := T.e2, e3 := T.e3, e4 := T.e4, e5 := T.e5, e6 := T.e6,
                                                e7 := T.e7, ends := T.ends : Tb }.ring
                                            j ≠
                                          id) ∧
                                  (8 : Nat) - y < (8 : Nat) - x) ∧
                                (↑x : Int) + (1 : Int) = (↑y : Int) ∧
                                  SBle
                                      (SB.cells
                                        (SV.agg [SV.int IntKind.i64 true (0 : Int), SV.int IntKind.i64 true (0 : Int), SV.int IntKind.i64 true (0 : Int), SV.int IntKind.i64 true (0 : Int)]).cells
                                        (4 : Nat) (29 : Nat))
                                      (SB.cells
                                        (SV.agg [SV.int IntKind.i64 true (0 : Int), SV.int IntKind.i64 true (0 : Int), SV.int IntKind.i64 true (0 : Int), SV.int IntKind.i64 true (0 : Int)]).cells
                                        (4 : Nat) (29 : Nat)) ∧
                                    SBle
                                        (Tb.sb true
                                          { most := T.most, term := T.term, ss := [a, b], opened := T.opened, e0 := T.e0, e1 := T.e1, e2 := T.e2, e3 := T.e3, e4 := T.e4, e5 := T.e5, e6 := T.e6,
                                            e7 := T.e7, ends := T.ends : Tb })
                                        (Tb.sb true
                                          { most := T.most, term := T.term, ss := [a, b], opened := T.opened, e0 := T.e0, e1 := T.e1, e2 := T.e2, e3 := T.e3, e4 := T.e4, e5 := T.e5, e6 := T.e6,
                                            e7 := T.e7, ends := T.ends : Tb }) ∧
                                      True)) ∧
                (decide ((↑x : Int) < min T.ends (8 : Int)) = false →
                  post
                    (SV.tup
                      [SV.agg [SV.int IntKind.i64 true (0 : Int), SV.int IntKind.i64 true (0 : Int), SV.int IntKind.i64 true (0 : Int), SV.int IntKind.i64 true (0 : Int)],
                        SV.int IntKind.i64 true (5 : Int)])
                    ({ most := T.most, term := T.term, ss := [a, b, Sl.zero, Sl.zero], opened := T.opened, e0 := T.e0, e1 := T.e1, e2 := T.e2, e3 := T.e3, e4 := T.e4, e5 := T.e5, e6 := T.e6,
                        e7 := T.e7, ends := T.ends : Tb },
                      (↑(2 : Nat) : Int)))))) := by kernel_rfl
theorem vcFind3 (T : Tb) (a b c : Sl) (id clock : Int) (post : SV → Tb × Int → Prop) : VC.holds (runT 14 Try.f14 {T with ss := [a, b, c]} id [iv id, iv clock] (postK post)) = ((decide (a.id = id) = true →
    (decide (a.dl ≤ clock) = true →
        post
          (SV.tup
            [SV.agg [SV.int IntKind.i64 true (0 : Int), SV.int IntKind.i64 true (0 : Int), SV.int IntKind.i64 true (0 : Int), SV.int IntKind.i64 true (0 : Int)], SV.int IntKind.i64 true (6 : Int)])
          ({ most := T.most, term := T.term, ss := [a, b, c, Sl.zero], opened := T.opened, e0 := T.e0, e1 := T.e1, e2 := T.e2, e3 := T.e3, e4 := T.e4, e5 := T.e5, e6 := T.e6, e7 := T.e7,
              ends := T.ends : Tb },
            (↑(3 : Nat) : Int))) ∧
      (decide (a.dl ≤ clock) = false →
        post (SV.tup [SV.agg [SV.int IntKind.i64 false a.id, SV.int IntKind.i64 false a.block, SV.int IntKind.i64 false a.dl, SV.int IntKind.i64 false a.last], SV.int IntKind.i64 true (0 : Int)])
          ({ most := T.most, term := T.term, ss := [a, b, c, Sl.zero], opened := T.opened, e0 := T.e0, e1 := T.e1, e2 := T.e2, e3 := T.e3, e4 := T.e4, e5 := T.e5, e6 := T.e6, e7 := T.e7,
              ends := T.ends : Tb },
            (↑(3 : Nat) : Int)))) ∧
  (decide (a.id = id) = false →
    (decide (b.id = id) = true →
        (decide (b.dl ≤ clock) = true →
            post
              (SV.tup
                [SV.agg [SV.int IntKind.i64 true (0 : Int), SV.int IntKind.i64 true (0 : Int), SV.int IntKind.i64 true (0 : Int), SV.int IntKind.i64 true (0 : Int)],
                  SV.int IntKind.i64 true (6 : Int)])
              ({ most := T.most, term := T.term, ss := [a, b, c, Sl.zero], opened := T.opened, e0 := T.e0, e1 := T.e1, e2 := T.e2, e3 := T.e3, e4 := T.e4, e5 := T.e5, e6 := T.e6, e7 := T.e7,
                  ends := T.ends : Tb },
                (↑(3 : Nat) : Int))) ∧
          (decide (b.dl ≤ clock) = false →
            post (SV.tup [SV.agg [SV.int IntKind.i64 false b.id, SV.int IntKind.i64 false b.block, SV.int IntKind.i64 false b.dl, SV.int IntKind.i64 false b.last], SV.int IntKind.i64 true (0 : Int)])
              ({ most := T.most, term := T.term, ss := [a, b, c, Sl.zero], opened := T.opened, e0 := T.e0, e1 := T.e1, e2 := T.e2, e3 := T.e3, e4 := T.e4, e5 := T.e5, e6 := T.e6, e7 := T.e7,
                  ends := T.ends : Tb },
                (↑(3 : Nat) : Int)))) ∧
      (decide (b.id = id) = false →
        (decide (c.id = id) = true →
            (decide (c.dl ≤ clock) = true →
                post
                  (SV.tup
                    [SV.agg [SV.int IntKind.i64 true (0 : Int), SV.int IntKind.i64 true (0 : Int), SV.int IntKind.i64 true (0 : Int), SV.int IntKind.i64 true (0 : Int)],
                      SV.int IntKind.i64 true (6 : Int)])
                  ({ most := T.most, term := T.term, ss := [a, b, c, Sl.zero], opened := T.opened, e0 := T.e0, e1 := T.e1, e2 := T.e2, e3 := T.e3, e4 := T.e4, e5 := T.e5, e6 := T.e6, e7 := T.e7,
                      ends := T.ends : Tb },
                    (↑(3 : Nat) : Int))) ∧
              (decide (c.dl ≤ clock) = false →
                post
                  (SV.tup [SV.agg [SV.int IntKind.i64 false c.id, SV.int IntKind.i64 false c.block, SV.int IntKind.i64 false c.dl, SV.int IntKind.i64 false c.last], SV.int IntKind.i64 true (0 : Int)])
                  ({ most := T.most, term := T.term, ss := [a, b, c, Sl.zero], opened := T.opened, e0 := T.e0, e1 := T.e1, e2 := T.e2, e3 := T.e3, e4 := T.e4, e5 := T.e5, e6 := T.e6, e7 := T.e7,
                      ends := T.ends : Tb },
                    (↑(3 : Nat) : Int)))) ∧
          (decide (c.id = id) = false →
            (∃ (x : Nat),
                ((↑x : Int) ≤ min T.ends (8 : Int) ∧
                    ∀ (j : Nat),
                      j < x →
                        sel
                            { most := T.most, term := T.term, ss := [a, b, c], opened := T.opened, e0 := T.e0, e1 := T.e1, e2 := T.e2, e3 := T.e3, e4 := T.e4, e5 := T.e5, e6 := T.e6, e7 := T.e7,
                                ends := T.ends : Tb }.ring
                            j ≠
                          id) ∧
                  (0 : Int) = (↑x : Int) ∧
                    SBle
                        (SB.cells (SV.agg [SV.int IntKind.i64 true (0 : Int), SV.int IntKind.i64 true (0 : Int), SV.int IntKind.i64 true (0 : Int), SV.int IntKind.i64 true (0 : Int)]).cells (4 : Nat)
                          (29 : Nat))
                        (SB.cells (SV.agg [SV.int IntKind.i64 true (0 : Int), SV.int IntKind.i64 true (0 : Int), SV.int IntKind.i64 true (0 : Int), SV.int IntKind.i64 true (0 : Int)]).cells (4 : Nat)
                          (29 : Nat)) ∧
                      SBle
                          (Tb.sb true
                            { most := T.most, term := T.term, ss := [a, b, c], opened := T.opened, e0 := T.e0, e1 := T.e1, e2 := T.e2, e3 := T.e3, e4 := T.e4, e5 := T.e5, e6 := T.e6, e7 := T.e7,
                              ends := T.ends : Tb })
                          (Tb.sb true
                            { most := T.most, term := T.term, ss := [a, b, c], opened := T.opened, e0 := T.e0, e1 := T.e1, e2 := T.e2, e3 := T.e3, e4 := T.e4, e5 := T.e5, e6 := T.e6, e7 := T.e7,
                              ends := T.ends : Tb }) ∧
                        True) ∧
              ∀ (x : Nat),
                ((↑x : Int) ≤ min T.ends (8 : Int) ∧
                    ∀ (j : Nat),
                      j < x →
                        sel
                            { most := T.most, term := T.term, ss := [a, b, c], opened := T.opened, e0 := T.e0, e1 := T.e1, e2 := T.e2, e3 := T.e3, e4 := T.e4, e5 := T.e5, e6 := T.e6, e7 := T.e7,
                                ends := T.ends : Tb }.ring
                            j ≠
                          id) →
                  (decide ((↑x : Int) < min T.ends (8 : Int)) = true →
                      ((0 : Int) ≤ (↑x : Int) ∧ (↑x : Int) < (8 : Int)) ∧
                        (↑x : Int).toNat < (8 : Nat) ∧
                          (decide (sel [T.e0, T.e1, T.e2, T.e3, T.e4, T.e5, T.e6, T.e7] (↑x : Int).toNat = id) = true →
                              post
                                (SV.tup
                                  [SV.agg [SV.int IntKind.i64 true (0 : Int), SV.int IntKind.i64 true (0 : Int), SV.int IntKind.i64 true (0 : Int), SV.int IntKind.i64 true (0 : Int)],
                                    SV.int IntKind.i64 true (6 : Int)])
                                ({ most := T.most, term := T.term, ss := [a, b, c, Sl.zero], opened := T.opened, e0 := T.e0, e1 := T.e1, e2 := T.e2, e3 := T.e3, e4 := T.e4, e5 := T.e5, e6 := T.e6,
                                    e7 := T.e7, ends := T.ends : Tb },
                                  (↑(3 : Nat) : Int))) ∧
                            (decide (sel [T.e0, T.e1, T.e2, T.e3, T.e4, T.e5, T.e6, T.e7] (↑x : Int).toNat = id) = false →
                              ((-9223372036854775808 : Int) ≤ (↑x : Int) + (1 : Int) ∧ (↑x : Int) + (1 : Int) ≤ (9223372036854775807 : Int)) ∧
                                ∃ (y : Nat),
                                  (((↑y : Int) ≤ min T.ends (8 : Int) ∧
                                        ∀ (j : Nat),
                                          j < y →
                                            sel
                                                { most := T.most, term := T.term, ss := [a, b, c], opened := T.opened, e0 := T.e0, e1 := T.e1, e2 := T.e2, e3 := T.e3, e4 := T.e4, e5 := T.e5,
                                                    e6 := T.e6, e7 := T.e7, ends := T.ends : Tb }.ring
                                                j ≠
                                              id) ∧
                                      (8 : Nat) - y < (8 : Nat) - x) ∧
                                    (↑x : Int) + (1 : Int) = (↑y : Int) ∧
                                      SBle
                                          (SB.cells
                                            (SV.agg [SV.int IntKind.i64 true (0 : Int), SV.int IntKind.i64 true (0 : Int), SV.int IntKind.i64 true (0 : Int), SV.int IntKind.i64 true (0 : Int)]).cells
                                            (4 : Nat) (29 : Nat))
                                          (SB.cells
                                            (SV.agg [SV.int IntKind.i64 true (0 : Int), SV.int IntKind.i64 true (0 : Int), SV.int IntKind.i64 true (0 : Int), SV.int IntKind.i64 true (0 : Int)]).cells
                                            (4 : Nat) (29 : Nat)) ∧
                                        SBle
                                            (Tb.sb true
                                              { most := T.most, term := T.term, ss := [a, b, c], opened := T.opened, e0 := T.e0, e1 := T.e1, e2 := T.e2, e3 := T.e3, e4 := T.e4, e5 := T.e5, e6 := T.e6,
                                                e7 := T.e7, ends := T.ends : Tb })
                                            (Tb.sb true
                                              { most := T.most, term := T.term, ss := [a, b, c], opened := T.opened, e0 := T.e0, e1 := T.e1, e2 := T.e2, e3 := T.e3, e4 := T.e4, e5 := T.e5, e6 := T.e6,
                                                e7 := T.e7, ends := T.ends : Tb }) ∧
                                          True)) ∧
                    (decide ((↑x : Int) < min T.ends (8 : Int)) = false →
                      post
                        (SV.tup
                          [SV.agg [SV.int IntKind.i64 true (0 : Int), SV.int IntKind.i64 true (0 : Int), SV.int IntKind.i64 true (0 : Int), SV.int IntKind.i64 true (0 : Int)],
                            SV.int IntKind.i64 true (5 : Int)])
                        ({ most := T.most, term := T.term, ss := [a, b, c, Sl.zero], opened := T.opened, e0 := T.e0, e1 := T.e1, e2 := T.e2, e3 := T.e3, e4 := T.e4, e5 := T.e5, e6 := T.e6, e7 := T.e7,
                            ends := T.ends : Tb },
                          (↑(3 : Nat) : Int))))))) := by kernel_rfl
theorem vcFind4 (T : Tb) (a b c d : Sl) (id clock : Int) (post : SV → Tb × Int → Prop) : VC.holds (runT 14 Try.f14 {T with ss := [a, b, c, d]} id [iv id, iv clock] (postK post)) = ((decide (a.id = id) = true →
    (decide (a.dl ≤ clock) = true →
        post
          (SV.tup
            [SV.agg [SV.int IntKind.i64 true (0 : Int), SV.int IntKind.i64 true (0 : Int), SV.int IntKind.i64 true (0 : Int), SV.int IntKind.i64 true (0 : Int)], SV.int IntKind.i64 true (6 : Int)])
          ({ most := T.most, term := T.term, ss := [a, b, c, d], opened := T.opened, e0 := T.e0, e1 := T.e1, e2 := T.e2, e3 := T.e3, e4 := T.e4, e5 := T.e5, e6 := T.e6, e7 := T.e7, ends := T.ends :
              Tb },
            (↑(4 : Nat) : Int))) ∧
      (decide (a.dl ≤ clock) = false →
        post (SV.tup [SV.agg [SV.int IntKind.i64 false a.id, SV.int IntKind.i64 false a.block, SV.int IntKind.i64 false a.dl, SV.int IntKind.i64 false a.last], SV.int IntKind.i64 true (0 : Int)])
          ({ most := T.most, term := T.term, ss := [a, b, c, d], opened := T.opened, e0 := T.e0, e1 := T.e1, e2 := T.e2, e3 := T.e3, e4 := T.e4, e5 := T.e5, e6 := T.e6, e7 := T.e7, ends := T.ends :
              Tb },
            (↑(4 : Nat) : Int)))) ∧
  (decide (a.id = id) = false →
    (decide (b.id = id) = true →
        (decide (b.dl ≤ clock) = true →
            post
              (SV.tup
                [SV.agg [SV.int IntKind.i64 true (0 : Int), SV.int IntKind.i64 true (0 : Int), SV.int IntKind.i64 true (0 : Int), SV.int IntKind.i64 true (0 : Int)],
                  SV.int IntKind.i64 true (6 : Int)])
              ({ most := T.most, term := T.term, ss := [a, b, c, d], opened := T.opened, e0 := T.e0, e1 := T.e1, e2 := T.e2, e3 := T.e3, e4 := T.e4, e5 := T.e5, e6 := T.e6, e7 := T.e7,
                  ends := T.ends : Tb },
                (↑(4 : Nat) : Int))) ∧
          (decide (b.dl ≤ clock) = false →
            post (SV.tup [SV.agg [SV.int IntKind.i64 false b.id, SV.int IntKind.i64 false b.block, SV.int IntKind.i64 false b.dl, SV.int IntKind.i64 false b.last], SV.int IntKind.i64 true (0 : Int)])
              ({ most := T.most, term := T.term, ss := [a, b, c, d], opened := T.opened, e0 := T.e0, e1 := T.e1, e2 := T.e2, e3 := T.e3, e4 := T.e4, e5 := T.e5, e6 := T.e6, e7 := T.e7,
                  ends := T.ends : Tb },
                (↑(4 : Nat) : Int)))) ∧
      (decide (b.id = id) = false →
        (decide (c.id = id) = true →
            (decide (c.dl ≤ clock) = true →
                post
                  (SV.tup
                    [SV.agg [SV.int IntKind.i64 true (0 : Int), SV.int IntKind.i64 true (0 : Int), SV.int IntKind.i64 true (0 : Int), SV.int IntKind.i64 true (0 : Int)],
                      SV.int IntKind.i64 true (6 : Int)])
                  ({ most := T.most, term := T.term, ss := [a, b, c, d], opened := T.opened, e0 := T.e0, e1 := T.e1, e2 := T.e2, e3 := T.e3, e4 := T.e4, e5 := T.e5, e6 := T.e6, e7 := T.e7,
                      ends := T.ends : Tb },
                    (↑(4 : Nat) : Int))) ∧
              (decide (c.dl ≤ clock) = false →
                post
                  (SV.tup [SV.agg [SV.int IntKind.i64 false c.id, SV.int IntKind.i64 false c.block, SV.int IntKind.i64 false c.dl, SV.int IntKind.i64 false c.last], SV.int IntKind.i64 true (0 : Int)])
                  ({ most := T.most, term := T.term, ss := [a, b, c, d], opened := T.opened, e0 := T.e0, e1 := T.e1, e2 := T.e2, e3 := T.e3, e4 := T.e4, e5 := T.e5, e6 := T.e6, e7 := T.e7,
                      ends := T.ends : Tb },
                    (↑(4 : Nat) : Int)))) ∧
          (decide (c.id = id) = false →
            (decide (d.id = id) = true →
                (decide (d.dl ≤ clock) = true →
                    post
                      (SV.tup
                        [SV.agg [SV.int IntKind.i64 true (0 : Int), SV.int IntKind.i64 true (0 : Int), SV.int IntKind.i64 true (0 : Int), SV.int IntKind.i64 true (0 : Int)],
                          SV.int IntKind.i64 true (6 : Int)])
                      ({ most := T.most, term := T.term, ss := [a, b, c, d], opened := T.opened, e0 := T.e0, e1 := T.e1, e2 := T.e2, e3 := T.e3, e4 := T.e4, e5 := T.e5, e6 := T.e6, e7 := T.e7,
                          ends := T.ends : Tb },
                        (↑(4 : Nat) : Int))) ∧
                  (decide (d.dl ≤ clock) = false →
                    post
                      (SV.tup
                        [SV.agg [SV.int IntKind.i64 false d.id, SV.int IntKind.i64 false d.block, SV.int IntKind.i64 false d.dl, SV.int IntKind.i64 false d.last], SV.int IntKind.i64 true (0 : Int)])
                      ({ most := T.most, term := T.term, ss := [a, b, c, d], opened := T.opened, e0 := T.e0, e1 := T.e1, e2 := T.e2, e3 := T.e3, e4 := T.e4, e5 := T.e5, e6 := T.e6, e7 := T.e7,
                          ends := T.ends : Tb },
                        (↑(4 : Nat) : Int)))) ∧
              (decide (d.id = id) = false →
                (∃ (x : Nat),
                    ((↑x : Int) ≤ min T.ends (8 : Int) ∧
                        ∀ (j : Nat),
                          j < x →
                            sel
                                { most := T.most, term := T.term, ss := [a, b, c, d], opened := T.opened, e0 := T.e0, e1 := T.e1, e2 := T.e2, e3 := T.e3, e4 := T.e4, e5 := T.e5, e6 := T.e6,
                                    e7 := T.e7, ends := T.ends : Tb }.ring
                                j ≠
                              id) ∧
                      (0 : Int) = (↑x : Int) ∧
                        SBle
                            (SB.cells (SV.agg [SV.int IntKind.i64 true (0 : Int), SV.int IntKind.i64 true (0 : Int), SV.int IntKind.i64 true (0 : Int), SV.int IntKind.i64 true (0 : Int)]).cells
                              (4 : Nat) (29 : Nat))
                            (SB.cells (SV.agg [SV.int IntKind.i64 true (0 : Int), SV.int IntKind.i64 true (0 : Int), SV.int IntKind.i64 true (0 : Int), SV.int IntKind.i64 true (0 : Int)]).cells
                              (4 : Nat) (29 : Nat)) ∧
                          SBle
                              (Tb.sb true
                                { most := T.most, term := T.term, ss := [a, b, c, d], opened := T.opened, e0 := T.e0, e1 := T.e1, e2 := T.e2, e3 := T.e3, e4 := T.e4, e5 := T.e5, e6 := T.e6,
                                  e7 := T.e7, ends := T.ends : Tb })
                              (Tb.sb true
                                { most := T.most, term := T.term, ss := [a, b, c, d], opened := T.opened, e0 := T.e0, e1 := T.e1, e2 := T.e2, e3 := T.e3, e4 := T.e4, e5 := T.e5, e6 := T.e6,
                                  e7 := T.e7, ends := T.ends : Tb }) ∧
                            True) ∧
                  ∀ (x : Nat),
                    ((↑x : Int) ≤ min T.ends (8 : Int) ∧
                        ∀ (j : Nat),
                          j < x →
                            sel
                                { most := T.most, term := T.term, ss := [a, b, c, d], opened := T.opened, e0 := T.e0, e1 := T.e1, e2 := T.e2, e3 := T.e3, e4 := T.e4, e5 := T.e5, e6 := T.e6,
                                    e7 := T.e7, ends := T.ends : Tb }.ring
                                j ≠
                              id) →
                      (decide ((↑x : Int) < min T.ends (8 : Int)) = true →
                          ((0 : Int) ≤ (↑x : Int) ∧ (↑x : Int) < (8 : Int)) ∧
                            (↑x : Int).toNat < (8 : Nat) ∧
                              (decide (sel [T.e0, T.e1, T.e2, T.e3, T.e4, T.e5, T.e6, T.e7] (↑x : Int).toNat = id) = true →
                                  post
                                    (SV.tup
                                      [SV.agg [SV.int IntKind.i64 true (0 : Int), SV.int IntKind.i64 true (0 : Int), SV.int IntKind.i64 true (0 : Int), SV.int IntKind.i64 true (0 : Int)],
                                        SV.int IntKind.i64 true (6 : Int)])
                                    ({ most := T.most, term := T.term, ss := [a, b, c, d], opened := T.opened, e0 := T.e0, e1 := T.e1, e2 := T.e2, e3 := T.e3, e4 := T.e4, e5 := T.e5, e6 := T.e6,
                                        e7 := T.e7, ends := T.ends : Tb },
                                      (↑(4 : Nat) : Int))) ∧
                                (decide (sel [T.e0, T.e1, T.e2, T.e3, T.e4, T.e5, T.e6, T.e7] (↑x : Int).toNat = id) = false →
                                  ((-9223372036854775808 : Int) ≤ (↑x : Int) + (1 : Int) ∧ (↑x : Int) + (1 : Int) ≤ (9223372036854775807 : Int)) ∧
                                    ∃ (y : Nat),
                                      (((↑y : Int) ≤ min T.ends (8 : Int) ∧
                                            ∀ (j : Nat),
                                              j < y →
                                                sel
                                                    { most := T.most, term := T.term, ss := [a, b, c, d], opened := T.opened, e0 := T.e0, e1 := T.e1, e2 := T.e2, e3 := T.e3, e4 := T.e4, e5 := T.e5,
                                                        e6 := T.e6, e7 := T.e7, ends := T.ends : Tb }.ring
                                                    j ≠
                                                  id) ∧
                                          (8 : Nat) - y < (8 : Nat) - x) ∧
                                        (↑x : Int) + (1 : Int) = (↑y : Int) ∧
                                          SBle
                                              (SB.cells
                                                (SV.agg
                                                    [SV.int IntKind.i64 true (0 : Int), SV.int IntKind.i64 true (0 : Int), SV.int IntKind.i64 true (0 : Int), SV.int IntKind.i64 true (0 : Int)]).cells
                                                (4 : Nat) (29 : Nat))
                                              (SB.cells
                                                (SV.agg
                                                    [SV.int IntKind.i64 true (0 : Int), SV.int IntKind.i64 true (0 : Int), SV.int IntKind.i64 true (0 : Int), SV.int IntKind.i64 true (0 : Int)]).cells
                                                (4 : Nat) (29 : Nat)) ∧
                                            SBle
                                                (Tb.sb true
                                                  { most := T.most, term := T.term, ss := [a, b, c, d], opened := T.opened, e0 := T.e0, e1 := T.e1, e2 := T.e2, e3 := T.e3, e4 := T.e4, e5 := T.e5,
                                                    e6 := T.e6, e7 := T.e7, ends := T.ends : Tb })
                                                (Tb.sb true
                                                  { most := T.most, term := T.term, ss := [a, b, c, d], opened := T.opened, e0 := T.e0, e1 := T.e1, e2 := T.e2, e3 := T.e3, e4 := T.e4, e5 := T.e5,
                                                    e6 := T.e6, e7 := T.e7, ends := T.ends : Tb }) ∧
                                              True)) ∧
                        (decide ((↑x : Int) < min T.ends (8 : Int)) = false →
                          post
                            (SV.tup
                              [SV.agg [SV.int IntKind.i64 true (0 : Int), SV.int IntKind.i64 true (0 : Int), SV.int IntKind.i64 true (0 : Int), SV.int IntKind.i64 true (0 : Int)],
                                SV.int IntKind.i64 true (5 : Int)])
                            ({ most := T.most, term := T.term, ss := [a, b, c, d], opened := T.opened, e0 := T.e0, e1 := T.e1, e2 := T.e2, e3 := T.e3, e4 := T.e4, e5 := T.e5, e6 := T.e6, e7 := T.e7,
                                ends := T.ends : Tb },
                              (↑(4 : Nat) : Int)))))))) := by kernel_rfl
theorem vcRenew0 (T : Tb) (id clock : Int) (post : SV → Tb × Int → Prop) : VC.holds (runT 15 Try.f15 {T with ss := []} id [iv id, iv clock] (postK post)) = ((∃ (x : Nat),
    ((↑x : Int) ≤ min T.ends (8 : Int) ∧
        ∀ (j : Nat),
          j < x →
            sel
                { most := T.most, term := T.term, ss := [], opened := T.opened, e0 := T.e0, e1 := T.e1, e2 := T.e2, e3 := T.e3, e4 := T.e4, e5 := T.e5, e6 := T.e6, e7 := T.e7, ends := T.ends :
                    Tb }.ring
                j ≠
              id) ∧
      (0 : Int) = (↑x : Int) ∧
        SBle
            (Tb.sb true
              { most := T.most, term := T.term, ss := [], opened := T.opened, e0 := T.e0, e1 := T.e1, e2 := T.e2, e3 := T.e3, e4 := T.e4, e5 := T.e5, e6 := T.e6, e7 := T.e7, ends := T.ends : Tb })
            (Tb.sb true
              { most := T.most, term := T.term, ss := [], opened := T.opened, e0 := T.e0, e1 := T.e1, e2 := T.e2, e3 := T.e3, e4 := T.e4, e5 := T.e5, e6 := T.e6, e7 := T.e7, ends := T.ends : Tb }) ∧
          True) ∧
  ∀ (x : Nat),
    ((↑x : Int) ≤ min T.ends (8 : Int) ∧
        ∀ (j : Nat),
          j < x →
            sel
                { most := T.most, term := T.term, ss := [], opened := T.opened, e0 := T.e0, e1 := T.e1, e2 := T.e2, e3 := T.e3, e4 := T.e4, e5 := T.e5, e6 := T.e6, e7 := T.e7, ends := T.ends :
                    Tb }.ring
                j ≠
              id) →
      (decide ((↑x : Int) < min T.ends (8 : Int)) = true →
          ((0 : Int) ≤ (↑x : Int) ∧ (↑x : Int) < (8 : Int)) ∧
            (↑x : Int).toNat < (8 : Nat) ∧
              (decide (sel [T.e0, T.e1, T.e2, T.e3, T.e4, T.e5, T.e6, T.e7] (↑x : Int).toNat = id) = true →
                  post (SV.int IntKind.i64 true (6 : Int))
                    ({ most := T.most, term := T.term, ss := [Sl.zero, Sl.zero, Sl.zero, Sl.zero], opened := T.opened, e0 := T.e0, e1 := T.e1, e2 := T.e2, e3 := T.e3, e4 := T.e4, e5 := T.e5,
                        e6 := T.e6, e7 := T.e7, ends := T.ends : Tb },
                      (↑(0 : Nat) : Int))) ∧
                (decide (sel [T.e0, T.e1, T.e2, T.e3, T.e4, T.e5, T.e6, T.e7] (↑x : Int).toNat = id) = false →
                  ((-9223372036854775808 : Int) ≤ (↑x : Int) + (1 : Int) ∧ (↑x : Int) + (1 : Int) ≤ (9223372036854775807 : Int)) ∧
                    ∃ (y : Nat),
                      (((↑y : Int) ≤ min T.ends (8 : Int) ∧
                            ∀ (j : Nat),
                              j < y →
                                sel
                                    { most := T.most, term := T.term, ss := [], opened := T.opened, e0 := T.e0, e1 := T.e1, e2 := T.e2, e3 := T.e3, e4 := T.e4, e5 := T.e5, e6 := T.e6, e7 := T.e7,
                                        ends := T.ends : Tb }.ring
                                    j ≠
                                  id) ∧
                          (8 : Nat) - y < (8 : Nat) - x) ∧
                        (↑x : Int) + (1 : Int) = (↑y : Int) ∧
                          SBle
                              (Tb.sb true
                                { most := T.most, term := T.term, ss := [], opened := T.opened, e0 := T.e0, e1 := T.e1, e2 := T.e2, e3 := T.e3, e4 := T.e4, e5 := T.e5, e6 := T.e6, e7 := T.e7,
                                  ends := T.ends : Tb })
                              (Tb.sb true
                                { most := T.most, term := T.term, ss := [], opened := T.opened, e0 := T.e0, e1 := T.e1, e2 := T.e2, e3 := T.e3, e4 := T.e4, e5 := T.e5, e6 := T.e6, e7 := T.e7,
                                  ends := T.ends : Tb }) ∧
                            True)) ∧
        (decide ((↑x : Int) < min T.ends (8 : Int)) = false →
          post (SV.int IntKind.i64 true (5 : Int))
            ({ most := T.most, term := T.term, ss := [Sl.zero, Sl.zero, Sl.zero, Sl.zero], opened := T.opened, e0 := T.e0, e1 := T.e1, e2 := T.e2, e3 := T.e3, e4 := T.e4, e5 := T.e5, e6 := T.e6,
                e7 := T.e7, ends := T.ends : Tb },
              (↑(0 : Nat) : Int)))) := by kernel_rfl
theorem vcRenew1 (T : Tb) (a : Sl) (id clock : Int) (post : SV → Tb × Int → Prop) : VC.holds (runT 15 Try.f15 {T with ss := [a]} id [iv id, iv clock] (postK post)) = ((decide (a.id = id) = true →
    (decide (a.dl ≤ clock) = true →
        post (SV.int IntKind.i64 true (6 : Int))
          ({ most := T.most, term := T.term, ss := [a, Sl.zero, Sl.zero, Sl.zero], opened := T.opened, e0 := T.e0, e1 := T.e1, e2 := T.e2, e3 := T.e3, e4 := T.e4, e5 := T.e5, e6 := T.e6, e7 := T.e7,
              ends := T.ends : Tb },
            (↑(1 : Nat) : Int))) ∧
      (decide (a.dl ≤ clock) = false →
        ((-9223372036854775808 : Int) ≤ clock + T.term ∧ clock + T.term ≤ (9223372036854775807 : Int)) ∧
          post (SV.int IntKind.i64 true (0 : Int))
            ({ most := T.most, term := T.term,
                ss := [{ id := a.id, block := a.block, dl := clock + T.term, last := a.last, s0 := a.s0, r0 := a.r0, s1 := a.s1, r1 := a.r1, stored := a.stored : Sl }, Sl.zero, Sl.zero, Sl.zero],
                opened := T.opened, e0 := T.e0, e1 := T.e1, e2 := T.e2, e3 := T.e3, e4 := T.e4, e5 := T.e5, e6 := T.e6, e7 := T.e7, ends := T.ends : Tb },
              (↑(1 : Nat) : Int)))) ∧
  (decide (a.id = id) = false →
    (∃ (x : Nat),
        ((↑x : Int) ≤ min T.ends (8 : Int) ∧
            ∀ (j : Nat),
              j < x →
                sel
                    { most := T.most, term := T.term, ss := [a], opened := T.opened, e0 := T.e0, e1 := T.e1, e2 := T.e2, e3 := T.e3, e4 := T.e4, e5 := T.e5, e6 := T.e6, e7 := T.e7, ends := T.ends :
                        Tb }.ring
                    j ≠
                  id) ∧
          (0 : Int) = (↑x : Int) ∧
            SBle
                (Tb.sb true
                  { most := T.most, term := T.term, ss := [a], opened := T.opened, e0 := T.e0, e1 := T.e1, e2 := T.e2, e3 := T.e3, e4 := T.e4, e5 := T.e5, e6 := T.e6, e7 := T.e7, ends := T.ends :
                    Tb })
                (Tb.sb true
                  { most := T.most, term := T.term, ss := [a], opened := T.opened, e0 := T.e0, e1 := T.e1, e2 := T.e2, e3 := T.e3, e4 := T.e4, e5 := T.e5, e6 := T.e6, e7 := T.e7, ends := T.ends :
                    Tb }) ∧
              True) ∧
      ∀ (x : Nat),
        ((↑x : Int) ≤ min T.ends (8 : Int) ∧
            ∀ (j : Nat),
              j < x →
                sel
                    { most := T.most, term := T.term, ss := [a], opened := T.opened, e0 := T.e0, e1 := T.e1, e2 := T.e2, e3 := T.e3, e4 := T.e4, e5 := T.e5, e6 := T.e6, e7 := T.e7, ends := T.ends :
                        Tb }.ring
                    j ≠
                  id) →
          (decide ((↑x : Int) < min T.ends (8 : Int)) = true →
              ((0 : Int) ≤ (↑x : Int) ∧ (↑x : Int) < (8 : Int)) ∧
                (↑x : Int).toNat < (8 : Nat) ∧
                  (decide (sel [T.e0, T.e1, T.e2, T.e3, T.e4, T.e5, T.e6, T.e7] (↑x : Int).toNat = id) = true →
                      post (SV.int IntKind.i64 true (6 : Int))
                        ({ most := T.most, term := T.term, ss := [a, Sl.zero, Sl.zero, Sl.zero], opened := T.opened, e0 := T.e0, e1 := T.e1, e2 := T.e2, e3 := T.e3, e4 := T.e4, e5 := T.e5, e6 := T.e6,
                            e7 := T.e7, ends := T.ends : Tb },
                          (↑(1 : Nat) : Int))) ∧
                    (decide (sel [T.e0, T.e1, T.e2, T.e3, T.e4, T.e5, T.e6, T.e7] (↑x : Int).toNat = id) = false →
                      ((-9223372036854775808 : Int) ≤ (↑x : Int) + (1 : Int) ∧ (↑x : Int) + (1 : Int) ≤ (9223372036854775807 : Int)) ∧
                        ∃ (y : Nat),
                          (((↑y : Int) ≤ min T.ends (8 : Int) ∧
                                ∀ (j : Nat),
                                  j < y →
                                    sel
                                        { most := T.most, term := T.term, ss := [a], opened := T.opened, e0 := T.e0, e1 := T.e1, e2 := T.e2, e3 := T.e3, e4 := T.e4, e5 := T.e5, e6 := T.e6, e7 := T.e7,
                                            ends := T.ends : Tb }.ring
                                        j ≠
                                      id) ∧
                              (8 : Nat) - y < (8 : Nat) - x) ∧
                            (↑x : Int) + (1 : Int) = (↑y : Int) ∧
                              SBle
                                  (Tb.sb true
                                    { most := T.most, term := T.term, ss := [a], opened := T.opened, e0 := T.e0, e1 := T.e1, e2 := T.e2, e3 := T.e3, e4 := T.e4, e5 := T.e5, e6 := T.e6, e7 := T.e7,
                                      ends := T.ends : Tb })
                                  (Tb.sb true
                                    { most := T.most, term := T.term, ss := [a], opened := T.opened, e0 := T.e0, e1 := T.e1, e2 := T.e2, e3 := T.e3, e4 := T.e4, e5 := T.e5, e6 := T.e6, e7 := T.e7,
                                      ends := T.ends : Tb }) ∧
                                True)) ∧
            (decide ((↑x : Int) < min T.ends (8 : Int)) = false →
              post (SV.int IntKind.i64 true (5 : Int))
                ({ most := T.most, term := T.term, ss := [a, Sl.zero, Sl.zero, Sl.zero], opened := T.opened, e0 := T.e0, e1 := T.e1, e2 := T.e2, e3 := T.e3, e4 := T.e4, e5 := T.e5, e6 := T.e6,
                    e7 := T.e7, ends := T.ends : Tb },
                  (↑(1 : Nat) : Int))))) := by kernel_rfl
theorem vcRenew2 (T : Tb) (a b : Sl) (id clock : Int) (post : SV → Tb × Int → Prop) : VC.holds (runT 15 Try.f15 {T with ss := [a, b]} id [iv id, iv clock] (postK post)) = ((decide (a.id = id) = true →
    (decide (a.dl ≤ clock) = true →
        post (SV.int IntKind.i64 true (6 : Int))
          ({ most := T.most, term := T.term, ss := [a, b, Sl.zero, Sl.zero], opened := T.opened, e0 := T.e0, e1 := T.e1, e2 := T.e2, e3 := T.e3, e4 := T.e4, e5 := T.e5, e6 := T.e6, e7 := T.e7,
              ends := T.ends : Tb },
            (↑(2 : Nat) : Int))) ∧
      (decide (a.dl ≤ clock) = false →
        ((-9223372036854775808 : Int) ≤ clock + T.term ∧ clock + T.term ≤ (9223372036854775807 : Int)) ∧
          post (SV.int IntKind.i64 true (0 : Int))
            ({ most := T.most, term := T.term,
                ss := [{ id := a.id, block := a.block, dl := clock + T.term, last := a.last, s0 := a.s0, r0 := a.r0, s1 := a.s1, r1 := a.r1, stored := a.stored : Sl }, b, Sl.zero, Sl.zero],
                opened := T.opened, e0 := T.e0, e1 := T.e1, e2 := T.e2, e3 := T.e3, e4 := T.e4, e5 := T.e5, e6 := T.e6, e7 := T.e7, ends := T.ends : Tb },
              (↑(2 : Nat) : Int)))) ∧
  (decide (a.id = id) = false →
    (decide (b.id = id) = true →
        (decide (b.dl ≤ clock) = true →
            post (SV.int IntKind.i64 true (6 : Int))
              ({ most := T.most, term := T.term, ss := [a, b, Sl.zero, Sl.zero], opened := T.opened, e0 := T.e0, e1 := T.e1, e2 := T.e2, e3 := T.e3, e4 := T.e4, e5 := T.e5, e6 := T.e6, e7 := T.e7,
                  ends := T.ends : Tb },
                (↑(2 : Nat) : Int))) ∧
          (decide (b.dl ≤ clock) = false →
            ((-9223372036854775808 : Int) ≤ clock + T.term ∧ clock + T.term ≤ (9223372036854775807 : Int)) ∧
              post (SV.int IntKind.i64 true (0 : Int))
                ({ most := T.most, term := T.term,
                    ss := [a, { id := b.id, block := b.block, dl := clock + T.term, last := b.last, s0 := b.s0, r0 := b.r0, s1 := b.s1, r1 := b.r1, stored := b.stored : Sl }, Sl.zero, Sl.zero],
                    opened := T.opened, e0 := T.e0, e1 := T.e1, e2 := T.e2, e3 := T.e3, e4 := T.e4, e5 := T.e5, e6 := T.e6, e7 := T.e7, ends := T.ends : Tb },
                  (↑(2 : Nat) : Int)))) ∧
      (decide (b.id = id) = false →
        (∃ (x : Nat),
            ((↑x : Int) ≤ min T.ends (8 : Int) ∧
                ∀ (j : Nat),
                  j < x →
                    sel
                        { most := T.most, term := T.term, ss := [a, b], opened := T.opened, e0 := T.e0, e1 := T.e1, e2 := T.e2, e3 := T.e3, e4 := T.e4, e5 := T.e5, e6 := T.e6, e7 := T.e7,
                            ends := T.ends : Tb }.ring
                        j ≠
                      id) ∧
              (0 : Int) = (↑x : Int) ∧
                SBle
                    (Tb.sb true
                      { most := T.most, term := T.term, ss := [a, b], opened := T.opened, e0 := T.e0, e1 := T.e1, e2 := T.e2, e3 := T.e3, e4 := T.e4, e5 := T.e5, e6 := T.e6, e7 := T.e7,
                        ends := T.ends : Tb })
                    (Tb.sb true
                      { most := T.most, term := T.term, ss := [a, b], opened := T.opened, e0 := T.e0, e1 := T.e1, e2 := T.e2, e3 := T.e3, e4 := T.e4, e5 := T.e5, e6 := T.e6, e7 := T.e7,
                        ends := T.ends : Tb }) ∧
                  True) ∧
          ∀ (x : Nat),
            ((↑x : Int) ≤ min T.ends (8 : Int) ∧
                ∀ (j : Nat),
                  j < x →
                    sel
                        { most := T.most, term := T.term, ss := [a, b], opened := T.opened, e0 := T.e0, e1 := T.e1, e2 := T.e2, e3 := T.e3, e4 := T.e4, e5 := T.e5, e6 := T.e6, e7 := T.e7,
                            ends := T.ends : Tb }.ring
                        j ≠
                      id) →
              (decide ((↑x : Int) < min T.ends (8 : Int)) = true →
                  ((0 : Int) ≤ (↑x : Int) ∧ (↑x : Int) < (8 : Int)) ∧
                    (↑x : Int).toNat < (8 : Nat) ∧
                      (decide (sel [T.e0, T.e1, T.e2, T.e3, T.e4, T.e5, T.e6, T.e7] (↑x : Int).toNat = id) = true →
                          post (SV.int IntKind.i64 true (6 : Int))
                            ({ most := T.most, term := T.term, ss := [a, b, Sl.zero, Sl.zero], opened := T.opened, e0 := T.e0, e1 := T.e1, e2 := T.e2, e3 := T.e3, e4 := T.e4, e5 := T.e5, e6 := T.e6,
                                e7 := T.e7, ends := T.ends : Tb },
                              (↑(2 : Nat) : Int))) ∧
                        (decide (sel [T.e0, T.e1, T.e2, T.e3, T.e4, T.e5, T.e6, T.e7] (↑x : Int).toNat = id) = false →
                          ((-9223372036854775808 : Int) ≤ (↑x : Int) + (1 : Int) ∧ (↑x : Int) + (1 : Int) ≤ (9223372036854775807 : Int)) ∧
                            ∃ (y : Nat),
                              (((↑y : Int) ≤ min T.ends (8 : Int) ∧
                                    ∀ (j : Nat),
                                      j < y →
                                        sel
                                            { most := T.most, term := T.term, ss := [a, b], opened := T.opened, e0 := T.e0, e1 := T.e1, e2 := T.e2, e3 := T.e3, e4 := T.e4, e5 := T.e5, e6 := T.e6,
                                                e7 := T.e7, ends := T.ends : Tb }.ring
                                            j ≠
                                          id) ∧
                                  (8 : Nat) - y < (8 : Nat) - x) ∧
                                (↑x : Int) + (1 : Int) = (↑y : Int) ∧
                                  SBle
                                      (Tb.sb true
                                        { most := T.most, term := T.term, ss := [a, b], opened := T.opened, e0 := T.e0, e1 := T.e1, e2 := T.e2, e3 := T.e3, e4 := T.e4, e5 := T.e5, e6 := T.e6,
                                          e7 := T.e7, ends := T.ends : Tb })
                                      (Tb.sb true
                                        { most := T.most, term := T.term, ss := [a, b], opened := T.opened, e0 := T.e0, e1 := T.e1, e2 := T.e2, e3 := T.e3, e4 := T.e4, e5 := T.e5, e6 := T.e6,
                                          e7 := T.e7, ends := T.ends : Tb }) ∧
                                    True)) ∧
                (decide ((↑x : Int) < min T.ends (8 : Int)) = false →
                  post (SV.int IntKind.i64 true (5 : Int))
                    ({ most := T.most, term := T.term, ss := [a, b, Sl.zero, Sl.zero], opened := T.opened, e0 := T.e0, e1 := T.e1, e2 := T.e2, e3 := T.e3, e4 := T.e4, e5 := T.e5, e6 := T.e6,
                        e7 := T.e7, ends := T.ends : Tb },
                      (↑(2 : Nat) : Int)))))) := by kernel_rfl
theorem vcRenew3 (T : Tb) (a b c : Sl) (id clock : Int) (post : SV → Tb × Int → Prop) : VC.holds (runT 15 Try.f15 {T with ss := [a, b, c]} id [iv id, iv clock] (postK post)) = ((decide (a.id = id) = true →
    (decide (a.dl ≤ clock) = true →
        post (SV.int IntKind.i64 true (6 : Int))
          ({ most := T.most, term := T.term, ss := [a, b, c, Sl.zero], opened := T.opened, e0 := T.e0, e1 := T.e1, e2 := T.e2, e3 := T.e3, e4 := T.e4, e5 := T.e5, e6 := T.e6, e7 := T.e7,
              ends := T.ends : Tb },
            (↑(3 : Nat) : Int))) ∧
      (decide (a.dl ≤ clock) = false →
        ((-9223372036854775808 : Int) ≤ clock + T.term ∧ clock + T.term ≤ (9223372036854775807 : Int)) ∧
          post (SV.int IntKind.i64 true (0 : Int))
            ({ most := T.most, term := T.term,
                ss := [{ id := a.id, block := a.block, dl := clock + T.term, last := a.last, s0 := a.s0, r0 := a.r0, s1 := a.s1, r1 := a.r1, stored := a.stored : Sl }, b, c, Sl.zero],
                opened := T.opened, e0 := T.e0, e1 := T.e1, e2 := T.e2, e3 := T.e3, e4 := T.e4, e5 := T.e5, e6 := T.e6, e7 := T.e7, ends := T.ends : Tb },
              (↑(3 : Nat) : Int)))) ∧
  (decide (a.id = id) = false →
    (decide (b.id = id) = true →
        (decide (b.dl ≤ clock) = true →
            post (SV.int IntKind.i64 true (6 : Int))
              ({ most := T.most, term := T.term, ss := [a, b, c, Sl.zero], opened := T.opened, e0 := T.e0, e1 := T.e1, e2 := T.e2, e3 := T.e3, e4 := T.e4, e5 := T.e5, e6 := T.e6, e7 := T.e7,
                  ends := T.ends : Tb },
                (↑(3 : Nat) : Int))) ∧
          (decide (b.dl ≤ clock) = false →
            ((-9223372036854775808 : Int) ≤ clock + T.term ∧ clock + T.term ≤ (9223372036854775807 : Int)) ∧
              post (SV.int IntKind.i64 true (0 : Int))
                ({ most := T.most, term := T.term,
                    ss := [a, { id := b.id, block := b.block, dl := clock + T.term, last := b.last, s0 := b.s0, r0 := b.r0, s1 := b.s1, r1 := b.r1, stored := b.stored : Sl }, c, Sl.zero],
                    opened := T.opened, e0 := T.e0, e1 := T.e1, e2 := T.e2, e3 := T.e3, e4 := T.e4, e5 := T.e5, e6 := T.e6, e7 := T.e7, ends := T.ends : Tb },
                  (↑(3 : Nat) : Int)))) ∧
      (decide (b.id = id) = false →
        (decide (c.id = id) = true →
            (decide (c.dl ≤ clock) = true →
                post (SV.int IntKind.i64 true (6 : Int))
                  ({ most := T.most, term := T.term, ss := [a, b, c, Sl.zero], opened := T.opened, e0 := T.e0, e1 := T.e1, e2 := T.e2, e3 := T.e3, e4 := T.e4, e5 := T.e5, e6 := T.e6, e7 := T.e7,
                      ends := T.ends : Tb },
                    (↑(3 : Nat) : Int))) ∧
              (decide (c.dl ≤ clock) = false →
                ((-9223372036854775808 : Int) ≤ clock + T.term ∧ clock + T.term ≤ (9223372036854775807 : Int)) ∧
                  post (SV.int IntKind.i64 true (0 : Int))
                    ({ most := T.most, term := T.term,
                        ss := [a, b, { id := c.id, block := c.block, dl := clock + T.term, last := c.last, s0 := c.s0, r0 := c.r0, s1 := c.s1, r1 := c.r1, stored := c.stored : Sl }, Sl.zero],
                        opened := T.opened, e0 := T.e0, e1 := T.e1, e2 := T.e2, e3 := T.e3, e4 := T.e4, e5 := T.e5, e6 := T.e6, e7 := T.e7, ends := T.ends : Tb },
                      (↑(3 : Nat) : Int)))) ∧
          (decide (c.id = id) = false →
            (∃ (x : Nat),
                ((↑x : Int) ≤ min T.ends (8 : Int) ∧
                    ∀ (j : Nat),
                      j < x →
                        sel
                            { most := T.most, term := T.term, ss := [a, b, c], opened := T.opened, e0 := T.e0, e1 := T.e1, e2 := T.e2, e3 := T.e3, e4 := T.e4, e5 := T.e5, e6 := T.e6, e7 := T.e7,
                                ends := T.ends : Tb }.ring
                            j ≠
                          id) ∧
                  (0 : Int) = (↑x : Int) ∧
                    SBle
                        (Tb.sb true
                          { most := T.most, term := T.term, ss := [a, b, c], opened := T.opened, e0 := T.e0, e1 := T.e1, e2 := T.e2, e3 := T.e3, e4 := T.e4, e5 := T.e5, e6 := T.e6, e7 := T.e7,
                            ends := T.ends : Tb })
                        (Tb.sb true
                          { most := T.most, term := T.term, ss := [a, b, c], opened := T.opened, e0 := T.e0, e1 := T.e1, e2 := T.e2, e3 := T.e3, e4 := T.e4, e5 := T.e5, e6 := T.e6, e7 := T.e7,
                            ends := T.ends : Tb }) ∧
                      True) ∧
              ∀ (x : Nat),
                ((↑x : Int) ≤ min T.ends (8 : Int) ∧
                    ∀ (j : Nat),
                      j < x →
                        sel
                            { most := T.most, term := T.term, ss := [a, b, c], opened := T.opened, e0 := T.e0, e1 := T.e1, e2 := T.e2, e3 := T.e3, e4 := T.e4, e5 := T.e5, e6 := T.e6, e7 := T.e7,
                                ends := T.ends : Tb }.ring
                            j ≠
                          id) →
                  (decide ((↑x : Int) < min T.ends (8 : Int)) = true →
                      ((0 : Int) ≤ (↑x : Int) ∧ (↑x : Int) < (8 : Int)) ∧
                        (↑x : Int).toNat < (8 : Nat) ∧
                          (decide (sel [T.e0, T.e1, T.e2, T.e3, T.e4, T.e5, T.e6, T.e7] (↑x : Int).toNat = id) = true →
                              post (SV.int IntKind.i64 true (6 : Int))
                                ({ most := T.most, term := T.term, ss := [a, b, c, Sl.zero], opened := T.opened, e0 := T.e0, e1 := T.e1, e2 := T.e2, e3 := T.e3, e4 := T.e4, e5 := T.e5, e6 := T.e6,
                                    e7 := T.e7, ends := T.ends : Tb },
                                  (↑(3 : Nat) : Int))) ∧
                            (decide (sel [T.e0, T.e1, T.e2, T.e3, T.e4, T.e5, T.e6, T.e7] (↑x : Int).toNat = id) = false →
                              ((-9223372036854775808 : Int) ≤ (↑x : Int) + (1 : Int) ∧ (↑x : Int) + (1 : Int) ≤ (9223372036854775807 : Int)) ∧
                                ∃ (y : Nat),
                                  (((↑y : Int) ≤ min T.ends (8 : Int) ∧
                                        ∀ (j : Nat),
                                          j < y →
                                            sel
                                                { most := T.most, term := T.term, ss := [a, b, c], opened := T.opened, e0 := T.e0, e1 := T.e1, e2 := T.e2, e3 := T.e3, e4 := T.e4, e5 := T.e5,
                                                    e6 := T.e6, e7 := T.e7, ends := T.ends : Tb }.ring
                                                j ≠
                                              id) ∧
                                      (8 : Nat) - y < (8 : Nat) - x) ∧
                                    (↑x : Int) + (1 : Int) = (↑y : Int) ∧
                                      SBle
                                          (Tb.sb true
                                            { most := T.most, term := T.term, ss := [a, b, c], opened := T.opened, e0 := T.e0, e1 := T.e1, e2 := T.e2, e3 := T.e3, e4 := T.e4, e5 := T.e5, e6 := T.e6,
                                              e7 := T.e7, ends := T.ends : Tb })
                                          (Tb.sb true
                                            { most := T.most, term := T.term, ss := [a, b, c], opened := T.opened, e0 := T.e0, e1 := T.e1, e2 := T.e2, e3 := T.e3, e4 := T.e4, e5 := T.e5, e6 := T.e6,
                                              e7 := T.e7, ends := T.ends : Tb }) ∧
                                        True)) ∧
                    (decide ((↑x : Int) < min T.ends (8 : Int)) = false →
                      post (SV.int IntKind.i64 true (5 : Int))
                        ({ most := T.most, term := T.term, ss := [a, b, c, Sl.zero], opened := T.opened, e0 := T.e0, e1 := T.e1, e2 := T.e2, e3 := T.e3, e4 := T.e4, e5 := T.e5, e6 := T.e6, e7 := T.e7,
                            ends := T.ends : Tb },
                          (↑(3 : Nat) : Int))))))) := by kernel_rfl
theorem vcRenew4 (T : Tb) (a b c d : Sl) (id clock : Int) (post : SV → Tb × Int → Prop) : VC.holds (runT 15 Try.f15 {T with ss := [a, b, c, d]} id [iv id, iv clock] (postK post)) = ((decide (a.id = id) = true →
    (decide (a.dl ≤ clock) = true →
        post (SV.int IntKind.i64 true (6 : Int))
          ({ most := T.most, term := T.term, ss := [a, b, c, d], opened := T.opened, e0 := T.e0, e1 := T.e1, e2 := T.e2, e3 := T.e3, e4 := T.e4, e5 := T.e5, e6 := T.e6, e7 := T.e7, ends := T.ends :
              Tb },
            (↑(4 : Nat) : Int))) ∧
      (decide (a.dl ≤ clock) = false →
        ((-9223372036854775808 : Int) ≤ clock + T.term ∧ clock + T.term ≤ (9223372036854775807 : Int)) ∧
          post (SV.int IntKind.i64 true (0 : Int))
            ({ most := T.most, term := T.term,
                ss := [{ id := a.id, block := a.block, dl := clock + T.term, last := a.last, s0 := a.s0, r0 := a.r0, s1 := a.s1, r1 := a.r1, stored := a.stored : Sl }, b, c, d], opened := T.opened,
                e0 := T.e0, e1 := T.e1, e2 := T.e2, e3 := T.e3, e4 := T.e4, e5 := T.e5, e6 := T.e6, e7 := T.e7, ends := T.ends : Tb },
              (↑(4 : Nat) : Int)))) ∧
  (decide (a.id = id) = false →
    (decide (b.id = id) = true →
        (decide (b.dl ≤ clock) = true →
            post (SV.int IntKind.i64 true (6 : Int))
              ({ most := T.most, term := T.term, ss := [a, b, c, d], opened := T.opened, e0 := T.e0, e1 := T.e1, e2 := T.e2, e3 := T.e3, e4 := T.e4, e5 := T.e5, e6 := T.e6, e7 := T.e7,
                  ends := T.ends : Tb },
                (↑(4 : Nat) : Int))) ∧
          (decide (b.dl ≤ clock) = false →
            ((-9223372036854775808 : Int) ≤ clock + T.term ∧ clock + T.term ≤ (9223372036854775807 : Int)) ∧
              post (SV.int IntKind.i64 true (0 : Int))
                ({ most := T.most, term := T.term,
                    ss := [a, { id := b.id, block := b.block, dl := clock + T.term, last := b.last, s0 := b.s0, r0 := b.r0, s1 := b.s1, r1 := b.r1, stored := b.stored : Sl }, c, d],
                    opened := T.opened, e0 := T.e0, e1 := T.e1, e2 := T.e2, e3 := T.e3, e4 := T.e4, e5 := T.e5, e6 := T.e6, e7 := T.e7, ends := T.ends : Tb },
                  (↑(4 : Nat) : Int)))) ∧
      (decide (b.id = id) = false →
        (decide (c.id = id) = true →
            (decide (c.dl ≤ clock) = true →
                post (SV.int IntKind.i64 true (6 : Int))
                  ({ most := T.most, term := T.term, ss := [a, b, c, d], opened := T.opened, e0 := T.e0, e1 := T.e1, e2 := T.e2, e3 := T.e3, e4 := T.e4, e5 := T.e5, e6 := T.e6, e7 := T.e7,
                      ends := T.ends : Tb },
                    (↑(4 : Nat) : Int))) ∧
              (decide (c.dl ≤ clock) = false →
                ((-9223372036854775808 : Int) ≤ clock + T.term ∧ clock + T.term ≤ (9223372036854775807 : Int)) ∧
                  post (SV.int IntKind.i64 true (0 : Int))
                    ({ most := T.most, term := T.term,
                        ss := [a, b, { id := c.id, block := c.block, dl := clock + T.term, last := c.last, s0 := c.s0, r0 := c.r0, s1 := c.s1, r1 := c.r1, stored := c.stored : Sl }, d],
                        opened := T.opened, e0 := T.e0, e1 := T.e1, e2 := T.e2, e3 := T.e3, e4 := T.e4, e5 := T.e5, e6 := T.e6, e7 := T.e7, ends := T.ends : Tb },
                      (↑(4 : Nat) : Int)))) ∧
          (decide (c.id = id) = false →
            (decide (d.id = id) = true →
                (decide (d.dl ≤ clock) = true →
                    post (SV.int IntKind.i64 true (6 : Int))
                      ({ most := T.most, term := T.term, ss := [a, b, c, d], opened := T.opened, e0 := T.e0, e1 := T.e1, e2 := T.e2, e3 := T.e3, e4 := T.e4, e5 := T.e5, e6 := T.e6, e7 := T.e7,
                          ends := T.ends : Tb },
                        (↑(4 : Nat) : Int))) ∧
                  (decide (d.dl ≤ clock) = false →
                    ((-9223372036854775808 : Int) ≤ clock + T.term ∧ clock + T.term ≤ (9223372036854775807 : Int)) ∧
                      post (SV.int IntKind.i64 true (0 : Int))
                        ({ most := T.most, term := T.term,
                            ss := [a, b, c, { id := d.id, block := d.block, dl := clock + T.term, last := d.last, s0 := d.s0, r0 := d.r0, s1 := d.s1, r1 := d.r1, stored := d.stored : Sl }],
                            opened := T.opened, e0 := T.e0, e1 := T.e1, e2 := T.e2, e3 := T.e3, e4 := T.e4, e5 := T.e5, e6 := T.e6, e7 := T.e7, ends := T.ends : Tb },
                          (↑(4 : Nat) : Int)))) ∧
              (decide (d.id = id) = false →
                (∃ (x : Nat),
                    ((↑x : Int) ≤ min T.ends (8 : Int) ∧
                        ∀ (j : Nat),
                          j < x →
                            sel
                                { most := T.most, term := T.term, ss := [a, b, c, d], opened := T.opened, e0 := T.e0, e1 := T.e1, e2 := T.e2, e3 := T.e3, e4 := T.e4, e5 := T.e5, e6 := T.e6,
                                    e7 := T.e7, ends := T.ends : Tb }.ring
                                j ≠
                              id) ∧
                      (0 : Int) = (↑x : Int) ∧
                        SBle
                            (Tb.sb true
                              { most := T.most, term := T.term, ss := [a, b, c, d], opened := T.opened, e0 := T.e0, e1 := T.e1, e2 := T.e2, e3 := T.e3, e4 := T.e4, e5 := T.e5, e6 := T.e6, e7 := T.e7,
                                ends := T.ends : Tb })
                            (Tb.sb true
                              { most := T.most, term := T.term, ss := [a, b, c, d], opened := T.opened, e0 := T.e0, e1 := T.e1, e2 := T.e2, e3 := T.e3, e4 := T.e4, e5 := T.e5, e6 := T.e6, e7 := T.e7,
                                ends := T.ends : Tb }) ∧
                          True) ∧
                  ∀ (x : Nat),
                    ((↑x : Int) ≤ min T.ends (8 : Int) ∧
                        ∀ (j : Nat),
                          j < x →
                            sel
                                { most := T.most, term := T.term, ss := [a, b, c, d], opened := T.opened, e0 := T.e0, e1 := T.e1, e2 := T.e2, e3 := T.e3, e4 := T.e4, e5 := T.e5, e6 := T.e6,
                                    e7 := T.e7, ends := T.ends : Tb }.ring
                                j ≠
                              id) →
                      (decide ((↑x : Int) < min T.ends (8 : Int)) = true →
                          ((0 : Int) ≤ (↑x : Int) ∧ (↑x : Int) < (8 : Int)) ∧
                            (↑x : Int).toNat < (8 : Nat) ∧
                              (decide (sel [T.e0, T.e1, T.e2, T.e3, T.e4, T.e5, T.e6, T.e7] (↑x : Int).toNat = id) = true →
                                  post (SV.int IntKind.i64 true (6 : Int))
                                    ({ most := T.most, term := T.term, ss := [a, b, c, d], opened := T.opened, e0 := T.e0, e1 := T.e1, e2 := T.e2, e3 := T.e3, e4 := T.e4, e5 := T.e5, e6 := T.e6,
                                        e7 := T.e7, ends := T.ends : Tb },
                                      (↑(4 : Nat) : Int))) ∧
                                (decide (sel [T.e0, T.e1, T.e2, T.e3, T.e4, T.e5, T.e6, T.e7] (↑x : Int).toNat = id) = false →
                                  ((-9223372036854775808 : Int) ≤ (↑x : Int) + (1 : Int) ∧ (↑x : Int) + (1 : Int) ≤ (9223372036854775807 : Int)) ∧
                                    ∃ (y : Nat),
                                      (((↑y : Int) ≤ min T.ends (8 : Int) ∧
                                            ∀ (j : Nat),
                                              j < y →
                                                sel
                                                    { most := T.most, term := T.term, ss := [a, b, c, d], opened := T.opened, e0 := T.e0, e1 := T.e1, e2 := T.e2, e3 := T.e3, e4 := T.e4, e5 := T.e5,
                                                        e6 := T.e6, e7 := T.e7, ends := T.ends : Tb }.ring
                                                    j ≠
                                                  id) ∧
                                          (8 : Nat) - y < (8 : Nat) - x) ∧
                                        (↑x : Int) + (1 : Int) = (↑y : Int) ∧
                                          SBle
                                              (Tb.sb true
                                                { most := T.most, term := T.term, ss := [a, b, c, d], opened := T.opened, e0 := T.e0, e1 := T.e1, e2 := T.e2, e3 := T.e3, e4 := T.e4, e5 := T.e5,
                                                  e6 := T.e6, e7 := T.e7, ends := T.ends : Tb })
                                              (Tb.sb true
                                                { most := T.most, term := T.term, ss := [a, b, c, d], opened := T.opened, e0 := T.e0, e1 := T.e1, e2 := T.e2, e3 := T.e3, e4 := T.e4, e5 := T.e5,
                                                  e6 := T.e6, e7 := T.e7, ends := T.ends : Tb }) ∧
                                            True)) ∧
                        (decide ((↑x : Int) < min T.ends (8 : Int)) = false →
                          post (SV.int IntKind.i64 true (5 : Int))
                            ({ most := T.most, term := T.term, ss := [a, b, c, d], opened := T.opened, e0 := T.e0, e1 := T.e1, e2 := T.e2, e3 := T.e3, e4 := T.e4, e5 := T.e5, e6 := T.e6, e7 := T.e7,
                                ends := T.ends : Tb },
                              (↑(4 : Nat) : Int)))))))) := by kernel_rfl
theorem vcRepin0 (T : Tb) (id block clock : Int) (post : SV → Tb × Int → Prop) : VC.holds (runT 21 Try.f21 {T with ss := []} id [iv id, iv block, iv clock] (postK post)) = ((∃ (x : Nat),
    ((↑x : Int) ≤ min T.ends (8 : Int) ∧
        ∀ (j : Nat),
          j < x →
            sel
                { most := T.most, term := T.term, ss := [], opened := T.opened, e0 := T.e0, e1 := T.e1, e2 := T.e2, e3 := T.e3, e4 := T.e4, e5 := T.e5, e6 := T.e6, e7 := T.e7, ends := T.ends :
                    Tb }.ring
                j ≠
              id) ∧
      (0 : Int) = (↑x : Int) ∧
        SBle
            (Tb.sb true
              { most := T.most, term := T.term, ss := [], opened := T.opened, e0 := T.e0, e1 := T.e1, e2 := T.e2, e3 := T.e3, e4 := T.e4, e5 := T.e5, e6 := T.e6, e7 := T.e7, ends := T.ends : Tb })
            (Tb.sb true
              { most := T.most, term := T.term, ss := [], opened := T.opened, e0 := T.e0, e1 := T.e1, e2 := T.e2, e3 := T.e3, e4 := T.e4, e5 := T.e5, e6 := T.e6, e7 := T.e7, ends := T.ends : Tb }) ∧
          True) ∧
  ∀ (x : Nat),
    ((↑x : Int) ≤ min T.ends (8 : Int) ∧
        ∀ (j : Nat),
          j < x →
            sel
                { most := T.most, term := T.term, ss := [], opened := T.opened, e0 := T.e0, e1 := T.e1, e2 := T.e2, e3 := T.e3, e4 := T.e4, e5 := T.e5, e6 := T.e6, e7 := T.e7, ends := T.ends :
                    Tb }.ring
                j ≠
              id) →
      (decide ((↑x : Int) < min T.ends (8 : Int)) = true →
          ((0 : Int) ≤ (↑x : Int) ∧ (↑x : Int) < (8 : Int)) ∧
            (↑x : Int).toNat < (8 : Nat) ∧
              (decide (sel [T.e0, T.e1, T.e2, T.e3, T.e4, T.e5, T.e6, T.e7] (↑x : Int).toNat = id) = true →
                  post (SV.tup [SV.int IntKind.i64 true (0 : Int), SV.int IntKind.i64 true (6 : Int)])
                    ({ most := T.most, term := T.term, ss := [Sl.zero, Sl.zero, Sl.zero, Sl.zero], opened := T.opened, e0 := T.e0, e1 := T.e1, e2 := T.e2, e3 := T.e3, e4 := T.e4, e5 := T.e5,
                        e6 := T.e6, e7 := T.e7, ends := T.ends : Tb },
                      (↑(0 : Nat) : Int))) ∧
                (decide (sel [T.e0, T.e1, T.e2, T.e3, T.e4, T.e5, T.e6, T.e7] (↑x : Int).toNat = id) = false →
                  ((-9223372036854775808 : Int) ≤ (↑x : Int) + (1 : Int) ∧ (↑x : Int) + (1 : Int) ≤ (9223372036854775807 : Int)) ∧
                    ∃ (y : Nat),
                      (((↑y : Int) ≤ min T.ends (8 : Int) ∧
                            ∀ (j : Nat),
                              j < y →
                                sel
                                    { most := T.most, term := T.term, ss := [], opened := T.opened, e0 := T.e0, e1 := T.e1, e2 := T.e2, e3 := T.e3, e4 := T.e4, e5 := T.e5, e6 := T.e6, e7 := T.e7,
                                        ends := T.ends : Tb }.ring
                                    j ≠
                                  id) ∧
                          (8 : Nat) - y < (8 : Nat) - x) ∧
                        (↑x : Int) + (1 : Int) = (↑y : Int) ∧
                          SBle
                              (Tb.sb true
                                { most := T.most, term := T.term, ss := [], opened := T.opened, e0 := T.e0, e1 := T.e1, e2 := T.e2, e3 := T.e3, e4 := T.e4, e5 := T.e5, e6 := T.e6, e7 := T.e7,
                                  ends := T.ends : Tb })
                              (Tb.sb true
                                { most := T.most, term := T.term, ss := [], opened := T.opened, e0 := T.e0, e1 := T.e1, e2 := T.e2, e3 := T.e3, e4 := T.e4, e5 := T.e5, e6 := T.e6, e7 := T.e7,
                                  ends := T.ends : Tb }) ∧
                            True)) ∧
        (decide ((↑x : Int) < min T.ends (8 : Int)) = false →
          post (SV.tup [SV.int IntKind.i64 true (0 : Int), SV.int IntKind.i64 true (5 : Int)])
            ({ most := T.most, term := T.term, ss := [Sl.zero, Sl.zero, Sl.zero, Sl.zero], opened := T.opened, e0 := T.e0, e1 := T.e1, e2 := T.e2, e3 := T.e3, e4 := T.e4, e5 := T.e5, e6 := T.e6,
                e7 := T.e7, ends := T.ends : Tb },
              (↑(0 : Nat) : Int)))) := by kernel_rfl
theorem vcRepin1 (T : Tb) (a : Sl) (id block clock : Int) (post : SV → Tb × Int → Prop) : VC.holds (runT 21 Try.f21 {T with ss := [a]} id [iv id, iv block, iv clock] (postK post)) = ((decide (a.id = id) = true →
    (decide (a.dl ≤ clock) = true →
        post (SV.tup [SV.int IntKind.i64 true (0 : Int), SV.int IntKind.i64 true (6 : Int)])
          ({ most := T.most, term := T.term, ss := [a, Sl.zero, Sl.zero, Sl.zero], opened := T.opened, e0 := T.e0, e1 := T.e1, e2 := T.e2, e3 := T.e3, e4 := T.e4, e5 := T.e5, e6 := T.e6, e7 := T.e7,
              ends := T.ends : Tb },
            (↑(1 : Nat) : Int))) ∧
      (decide (a.dl ≤ clock) = false →
        post (SV.tup [SV.int IntKind.i64 false a.block, SV.int IntKind.i64 true (0 : Int)])
          ({ most := T.most, term := T.term,
              ss := [{ id := a.id, block := block, dl := a.dl, last := a.last, s0 := a.s0, r0 := a.r0, s1 := a.s1, r1 := a.r1, stored := a.stored : Sl }, Sl.zero, Sl.zero, Sl.zero],
              opened := T.opened, e0 := T.e0, e1 := T.e1, e2 := T.e2, e3 := T.e3, e4 := T.e4, e5 := T.e5, e6 := T.e6, e7 := T.e7, ends := T.ends : Tb },
            (↑(1 : Nat) : Int)))) ∧
  (decide (a.id = id) = false →
    (∃ (x : Nat),
        ((↑x : Int) ≤ min T.ends (8 : Int) ∧
            ∀ (j : Nat),
              j < x →
                sel
                    { most := T.most, term := T.term, ss := [a], opened := T.opened, e0 := T.e0, e1 := T.e1, e2 := T.e2, e3 := T.e3, e4 := T.e4, e5 := T.e5, e6 := T.e6, e7 := T.e7, ends := T.ends :
                        Tb }.ring
                    j ≠
                  id) ∧
          (0 : Int) = (↑x : Int) ∧
            SBle
                (Tb.sb true
                  { most := T.most, term := T.term, ss := [a], opened := T.opened, e0 := T.e0, e1 := T.e1, e2 := T.e2, e3 := T.e3, e4 := T.e4, e5 := T.e5, e6 := T.e6, e7 := T.e7, ends := T.ends :
                    Tb })
                (Tb.sb true
                  { most := T.most, term := T.term, ss := [a], opened := T.opened, e0 := T.e0, e1 := T.e1, e2 := T.e2, e3 := T.e3, e4 := T.e4, e5 := T.e5, e6 := T.e6, e7 := T.e7, ends := T.ends :
                    Tb }) ∧
              True) ∧
      ∀ (x : Nat),
        ((↑x : Int) ≤ min T.ends (8 : Int) ∧
            ∀ (j : Nat),
              j < x →
                sel
                    { most := T.most, term := T.term, ss := [a], opened := T.opened, e0 := T.e0, e1 := T.e1, e2 := T.e2, e3 := T.e3, e4 := T.e4, e5 := T.e5, e6 := T.e6, e7 := T.e7, ends := T.ends :
                        Tb }.ring
                    j ≠
                  id) →
          (decide ((↑x : Int) < min T.ends (8 : Int)) = true →
              ((0 : Int) ≤ (↑x : Int) ∧ (↑x : Int) < (8 : Int)) ∧
                (↑x : Int).toNat < (8 : Nat) ∧
                  (decide (sel [T.e0, T.e1, T.e2, T.e3, T.e4, T.e5, T.e6, T.e7] (↑x : Int).toNat = id) = true →
                      post (SV.tup [SV.int IntKind.i64 true (0 : Int), SV.int IntKind.i64 true (6 : Int)])
                        ({ most := T.most, term := T.term, ss := [a, Sl.zero, Sl.zero, Sl.zero], opened := T.opened, e0 := T.e0, e1 := T.e1, e2 := T.e2, e3 := T.e3, e4 := T.e4, e5 := T.e5, e6 := T.e6,
                            e7 := T.e7, ends := T.ends : Tb },
                          (↑(1 : Nat) : Int))) ∧
                    (decide (sel [T.e0, T.e1, T.e2, T.e3, T.e4, T.e5, T.e6, T.e7] (↑x : Int).toNat = id) = false →
                      ((-9223372036854775808 : Int) ≤ (↑x : Int) + (1 : Int) ∧ (↑x : Int) + (1 : Int) ≤ (9223372036854775807 : Int)) ∧
                        ∃ (y : Nat),
                          (((↑y : Int) ≤ min T.ends (8 : Int) ∧
                                ∀ (j : Nat),
                                  j < y →
                                    sel
                                        { most := T.most, term := T.term, ss := [a], opened := T.opened, e0 := T.e0, e1 := T.e1, e2 := T.e2, e3 := T.e3, e4 := T.e4, e5 := T.e5, e6 := T.e6, e7 := T.e7,
                                            ends := T.ends : Tb }.ring
                                        j ≠
                                      id) ∧
                              (8 : Nat) - y < (8 : Nat) - x) ∧
                            (↑x : Int) + (1 : Int) = (↑y : Int) ∧
                              SBle
                                  (Tb.sb true
                                    { most := T.most, term := T.term, ss := [a], opened := T.opened, e0 := T.e0, e1 := T.e1, e2 := T.e2, e3 := T.e3, e4 := T.e4, e5 := T.e5, e6 := T.e6, e7 := T.e7,
                                      ends := T.ends : Tb })
                                  (Tb.sb true
                                    { most := T.most, term := T.term, ss := [a], opened := T.opened, e0 := T.e0, e1 := T.e1, e2 := T.e2, e3 := T.e3, e4 := T.e4, e5 := T.e5, e6 := T.e6, e7 := T.e7,
                                      ends := T.ends : Tb }) ∧
                                True)) ∧
            (decide ((↑x : Int) < min T.ends (8 : Int)) = false →
              post (SV.tup [SV.int IntKind.i64 true (0 : Int), SV.int IntKind.i64 true (5 : Int)])
                ({ most := T.most, term := T.term, ss := [a, Sl.zero, Sl.zero, Sl.zero], opened := T.opened, e0 := T.e0, e1 := T.e1, e2 := T.e2, e3 := T.e3, e4 := T.e4, e5 := T.e5, e6 := T.e6,
                    e7 := T.e7, ends := T.ends : Tb },
                  (↑(1 : Nat) : Int))))) := by kernel_rfl
theorem vcRepin2 (T : Tb) (a b : Sl) (id block clock : Int) (post : SV → Tb × Int → Prop) : VC.holds (runT 21 Try.f21 {T with ss := [a, b]} id [iv id, iv block, iv clock] (postK post)) = ((decide (a.id = id) = true →
    (decide (a.dl ≤ clock) = true →
        post (SV.tup [SV.int IntKind.i64 true (0 : Int), SV.int IntKind.i64 true (6 : Int)])
          ({ most := T.most, term := T.term, ss := [a, b, Sl.zero, Sl.zero], opened := T.opened, e0 := T.e0, e1 := T.e1, e2 := T.e2, e3 := T.e3, e4 := T.e4, e5 := T.e5, e6 := T.e6, e7 := T.e7,
              ends := T.ends : Tb },
            (↑(2 : Nat) : Int))) ∧
      (decide (a.dl ≤ clock) = false →
        post (SV.tup [SV.int IntKind.i64 false a.block, SV.int IntKind.i64 true (0 : Int)])
          ({ most := T.most, term := T.term,
              ss := [{ id := a.id, block := block, dl := a.dl, last := a.last, s0 := a.s0, r0 := a.r0, s1 := a.s1, r1 := a.r1, stored := a.stored : Sl }, b, Sl.zero, Sl.zero], opened := T.opened,
              e0 := T.e0, e1 := T.e1, e2 := T.e2, e3 := T.e3, e4 := T.e4, e5 := T.e5, e6 := T.e6, e7 := T.e7, ends := T.ends : Tb },
            (↑(2 : Nat) : Int)))) ∧
  (decide (a.id = id) = false →
    (decide (b.id = id) = true →
        (decide (b.dl ≤ clock) = true →
            post (SV.tup [SV.int IntKind.i64 true (0 : Int), SV.int IntKind.i64 true (6 : Int)])
              ({ most := T.most, term := T.term, ss := [a, b, Sl.zero, Sl.zero], opened := T.opened, e0 := T.e0, e1 := T.e1, e2 := T.e2, e3 := T.e3, e4 := T.e4, e5 := T.e5, e6 := T.e6, e7 := T.e7,
                  ends := T.ends : Tb },
                (↑(2 : Nat) : Int))) ∧
          (decide (b.dl ≤ clock) = false →
            post (SV.tup [SV.int IntKind.i64 false b.block, SV.int IntKind.i64 true (0 : Int)])
              ({ most := T.most, term := T.term,
                  ss := [a, { id := b.id, block := block, dl := b.dl, last := b.last, s0 := b.s0, r0 := b.r0, s1 := b.s1, r1 := b.r1, stored := b.stored : Sl }, Sl.zero, Sl.zero], opened := T.opened,
                  e0 := T.e0, e1 := T.e1, e2 := T.e2, e3 := T.e3, e4 := T.e4, e5 := T.e5, e6 := T.e6, e7 := T.e7, ends := T.ends : Tb },
                (↑(2 : Nat) : Int)))) ∧
      (decide (b.id = id) = false →
        (∃ (x : Nat),
            ((↑x : Int) ≤ min T.ends (8 : Int) ∧
                ∀ (j : Nat),
                  j < x →
                    sel
                        { most := T.most, term := T.term, ss := [a, b], opened := T.opened, e0 := T.e0, e1 := T.e1, e2 := T.e2, e3 := T.e3, e4 := T.e4, e5 := T.e5, e6 := T.e6, e7 := T.e7,
                            ends := T.ends : Tb }.ring
                        j ≠
                      id) ∧
              (0 : Int) = (↑x : Int) ∧
                SBle
                    (Tb.sb true
                      { most := T.most, term := T.term, ss := [a, b], opened := T.opened, e0 := T.e0, e1 := T.e1, e2 := T.e2, e3 := T.e3, e4 := T.e4, e5 := T.e5, e6 := T.e6, e7 := T.e7,
                        ends := T.ends : Tb })
                    (Tb.sb true
                      { most := T.most, term := T.term, ss := [a, b], opened := T.opened, e0 := T.e0, e1 := T.e1, e2 := T.e2, e3 := T.e3, e4 := T.e4, e5 := T.e5, e6 := T.e6, e7 := T.e7,
                        ends := T.ends : Tb }) ∧
                  True) ∧
          ∀ (x : Nat),
            ((↑x : Int) ≤ min T.ends (8 : Int) ∧
                ∀ (j : Nat),
                  j < x →
                    sel
                        { most := T.most, term := T.term, ss := [a, b], opened := T.opened, e0 := T.e0, e1 := T.e1, e2 := T.e2, e3 := T.e3, e4 := T.e4, e5 := T.e5, e6 := T.e6, e7 := T.e7,
                            ends := T.ends : Tb }.ring
                        j ≠
                      id) →
              (decide ((↑x : Int) < min T.ends (8 : Int)) = true →
                  ((0 : Int) ≤ (↑x : Int) ∧ (↑x : Int) < (8 : Int)) ∧
                    (↑x : Int).toNat < (8 : Nat) ∧
                      (decide (sel [T.e0, T.e1, T.e2, T.e3, T.e4, T.e5, T.e6, T.e7] (↑x : Int).toNat = id) = true →
                          post (SV.tup [SV.int IntKind.i64 true (0 : Int), SV.int IntKind.i64 true (6 : Int)])
                            ({ most := T.most, term := T.term, ss := [a, b, Sl.zero, Sl.zero], opened := T.opened, e0 := T.e0, e1 := T.e1, e2 := T.e2, e3 := T.e3, e4 := T.e4, e5 := T.e5, e6 := T.e6,
                                e7 := T.e7, ends := T.ends : Tb },
                              (↑(2 : Nat) : Int))) ∧
                        (decide (sel [T.e0, T.e1, T.e2, T.e3, T.e4, T.e5, T.e6, T.e7] (↑x : Int).toNat = id) = false →
                          ((-9223372036854775808 : Int) ≤ (↑x : Int) + (1 : Int) ∧ (↑x : Int) + (1 : Int) ≤ (9223372036854775807 : Int)) ∧
                            ∃ (y : Nat),
                              (((↑y : Int) ≤ min T.ends (8 : Int) ∧
                                    ∀ (j : Nat),
                                      j < y →
                                        sel
                                            { most := T.most, term := T.term, ss := [a, b], opened := T.opened, e0 := T.e0, e1 := T.e1, e2 := T.e2, e3 := T.e3, e4 := T.e4, e5 := T.e5, e6 := T.e6,
                                                e7 := T.e7, ends := T.ends : Tb }.ring
                                            j ≠
                                          id) ∧
                                  (8 : Nat) - y < (8 : Nat) - x) ∧
                                (↑x : Int) + (1 : Int) = (↑y : Int) ∧
                                  SBle
                                      (Tb.sb true
                                        { most := T.most, term := T.term, ss := [a, b], opened := T.opened, e0 := T.e0, e1 := T.e1, e2 := T.e2, e3 := T.e3, e4 := T.e4, e5 := T.e5, e6 := T.e6,
                                          e7 := T.e7, ends := T.ends : Tb })
                                      (Tb.sb true
                                        { most := T.most, term := T.term, ss := [a, b], opened := T.opened, e0 := T.e0, e1 := T.e1, e2 := T.e2, e3 := T.e3, e4 := T.e4, e5 := T.e5, e6 := T.e6,
                                          e7 := T.e7, ends := T.ends : Tb }) ∧
                                    True)) ∧
                (decide ((↑x : Int) < min T.ends (8 : Int)) = false →
                  post (SV.tup [SV.int IntKind.i64 true (0 : Int), SV.int IntKind.i64 true (5 : Int)])
                    ({ most := T.most, term := T.term, ss := [a, b, Sl.zero, Sl.zero], opened := T.opened, e0 := T.e0, e1 := T.e1, e2 := T.e2, e3 := T.e3, e4 := T.e4, e5 := T.e5, e6 := T.e6,
                        e7 := T.e7, ends := T.ends : Tb },
                      (↑(2 : Nat) : Int)))))) := by kernel_rfl
theorem vcRepin3 (T : Tb) (a b c : Sl) (id block clock : Int) (post : SV → Tb × Int → Prop) : VC.holds (runT 21 Try.f21 {T with ss := [a, b, c]} id [iv id, iv block, iv clock] (postK post)) = ((decide (a.id = id) = true →
    (decide (a.dl ≤ clock) = true →
        post (SV.tup [SV.int IntKind.i64 true (0 : Int), SV.int IntKind.i64 true (6 : Int)])
          ({ most := T.most, term := T.term, ss := [a, b, c, Sl.zero], opened := T.opened, e0 := T.e0, e1 := T.e1, e2 := T.e2, e3 := T.e3, e4 := T.e4, e5 := T.e5, e6 := T.e6, e7 := T.e7,
              ends := T.ends : Tb },
            (↑(3 : Nat) : Int))) ∧
      (decide (a.dl ≤ clock) = false →
        post (SV.tup [SV.int IntKind.i64 false a.block, SV.int IntKind.i64 true (0 : Int)])
          ({ most := T.most, term := T.term, ss := [{ id := a.id, block := block, dl := a.dl, last := a.last, s0 := a.s0, r0 := a.r0, s1 := a.s1, r1 := a.r1, stored := a.stored : Sl }, b, c, Sl.zero],
              opened := T.opened, e0 := T.e0, e1 := T.e1, e2 := T.e2, e3 := T.e3, e4 := T.e4, e5 := T.e5, e6 := T.e6, e7 := T.e7, ends := T.ends : Tb },
            (↑(3 : Nat) : Int)))) ∧
  (decide (a.id = id) = false →
    (decide (b.id = id) = true →
        (decide (b.dl ≤ clock) = true →
            post (SV.tup [SV.int IntKind.i64 true (0 : Int), SV.int IntKind.i64 true (6 : Int)])
              ({ most := T.most, term := T.term, ss := [a, b, c, Sl.zero], opened := T.opened, e0 := T.e0, e1 := T.e1, e2 := T.e2, e3 := T.e3, e4 := T.e4, e5 := T.e5, e6 := T.e6, e7 := T.e7,
                  ends := T.ends : Tb },
                (↑(3 : Nat) : Int))) ∧
          (decide (b.dl ≤ clock) = false →
            post (SV.tup [SV.int IntKind.i64 false b.block, SV.int IntKind.i64 true (0 : Int)])
              ({ most := T.most, term := T.term,
                  ss := [a, { id := b.id, block := block, dl := b.dl, last := b.last, s0 := b.s0, r0 := b.r0, s1 := b.s1, r1 := b.r1, stored := b.stored : Sl }, c, Sl.zero], opened := T.opened,
                  e0 := T.e0, e1 := T.e1, e2 := T.e2, e3 := T.e3, e4 := T.e4, e5 := T.e5, e6 := T.e6, e7 := T.e7, ends := T.ends : Tb },
                (↑(3 : Nat) : Int)))) ∧
      (decide (b.id = id) = false →
        (decide (c.id = id) = true →
            (decide (c.dl ≤ clock) = true →
                post (SV.tup [SV.int IntKind.i64 true (0 : Int), SV.int IntKind.i64 true (6 : Int)])
                  ({ most := T.most, term := T.term, ss := [a, b, c, Sl.zero], opened := T.opened, e0 := T.e0, e1 := T.e1, e2 := T.e2, e3 := T.e3, e4 := T.e4, e5 := T.e5, e6 := T.e6, e7 := T.e7,
                      ends := T.ends : Tb },
                    (↑(3 : Nat) : Int))) ∧
              (decide (c.dl ≤ clock) = false →
                post (SV.tup [SV.int IntKind.i64 false c.block, SV.int IntKind.i64 true (0 : Int)])
                  ({ most := T.most, term := T.term,
                      ss := [a, b, { id := c.id, block := block, dl := c.dl, last := c.last, s0 := c.s0, r0 := c.r0, s1 := c.s1, r1 := c.r1, stored := c.stored : Sl }, Sl.zero], opened := T.opened,
                      e0 := T.e0, e1 := T.e1, e2 := T.e2, e3 := T.e3, e4 := T.e4, e5 := T.e5, e6 := T.e6, e7 := T.e7, ends := T.ends : Tb },
                    (↑(3 : Nat) : Int)))) ∧
          (decide (c.id = id) = false →
            (∃ (x : Nat),
                ((↑x : Int) ≤ min T.ends (8 : Int) ∧
                    ∀ (j : Nat),
                      j < x →
                        sel
                            { most := T.most, term := T.term, ss := [a, b, c], opened := T.opened, e0 := T.e0, e1 := T.e1, e2 := T.e2, e3 := T.e3, e4 := T.e4, e5 := T.e5, e6 := T.e6, e7 := T.e7,
                                ends := T.ends : Tb }.ring
                            j ≠
                          id) ∧
                  (0 : Int) = (↑x : Int) ∧
                    SBle
                        (Tb.sb true
                          { most := T.most, term := T.term, ss := [a, b, c], opened := T.opened, e0 := T.e0, e1 := T.e1, e2 := T.e2, e3 := T.e3, e4 := T.e4, e5 := T.e5, e6 := T.e6, e7 := T.e7,
                            ends := T.ends : Tb })
                        (Tb.sb true
                          { most := T.most, term := T.term, ss := [a, b, c], opened := T.opened, e0 := T.e0, e1 := T.e1, e2 := T.e2, e3 := T.e3, e4 := T.e4, e5 := T.e5, e6 := T.e6, e7 := T.e7,
                            ends := T.ends : Tb }) ∧
                      True) ∧
              ∀ (x : Nat),
                ((↑x : Int) ≤ min T.ends (8 : Int) ∧
                    ∀ (j : Nat),
                      j < x →
                        sel
                            { most := T.most, term := T.term, ss := [a, b, c], opened := T.opened, e0 := T.e0, e1 := T.e1, e2 := T.e2, e3 := T.e3, e4 := T.e4, e5 := T.e5, e6 := T.e6, e7 := T.e7,
                                ends := T.ends : Tb }.ring
                            j ≠
                          id) →
                  (decide ((↑x : Int) < min T.ends (8 : Int)) = true →
                      ((0 : Int) ≤ (↑x : Int) ∧ (↑x : Int) < (8 : Int)) ∧
                        (↑x : Int).toNat < (8 : Nat) ∧
                          (decide (sel [T.e0, T.e1, T.e2, T.e3, T.e4, T.e5, T.e6, T.e7] (↑x : Int).toNat = id) = true →
                              post (SV.tup [SV.int IntKind.i64 true (0 : Int), SV.int IntKind.i64 true (6 : Int)])
                                ({ most := T.most, term := T.term, ss := [a, b, c, Sl.zero], opened := T.opened, e0 := T.e0, e1 := T.e1, e2 := T.e2, e3 := T.e3, e4 := T.e4, e5 := T.e5, e6 := T.e6,
                                    e7 := T.e7, ends := T.ends : Tb },
                                  (↑(3 : Nat) : Int))) ∧
                            (decide (sel [T.e0, T.e1, T.e2, T.e3, T.e4, T.e5, T.e6, T.e7] (↑x : Int).toNat = id) = false →
                              ((-9223372036854775808 : Int) ≤ (↑x : Int) + (1 : Int) ∧ (↑x : Int) + (1 : Int) ≤ (9223372036854775807 : Int)) ∧
                                ∃ (y : Nat),
                                  (((↑y : Int) ≤ min T.ends (8 : Int) ∧
                                        ∀ (j : Nat),
                                          j < y →
                                            sel
                                                { most := T.most, term := T.term, ss := [a, b, c], opened := T.opened, e0 := T.e0, e1 := T.e1, e2 := T.e2, e3 := T.e3, e4 := T.e4, e5 := T.e5,
                                                    e6 := T.e6, e7 := T.e7, ends := T.ends : Tb }.ring
                                                j ≠
                                              id) ∧
                                      (8 : Nat) - y < (8 : Nat) - x) ∧
                                    (↑x : Int) + (1 : Int) = (↑y : Int) ∧
                                      SBle
                                          (Tb.sb true
                                            { most := T.most, term := T.term, ss := [a, b, c], opened := T.opened, e0 := T.e0, e1 := T.e1, e2 := T.e2, e3 := T.e3, e4 := T.e4, e5 := T.e5, e6 := T.e6,
                                              e7 := T.e7, ends := T.ends : Tb })
                                          (Tb.sb true
                                            { most := T.most, term := T.term, ss := [a, b, c], opened := T.opened, e0 := T.e0, e1 := T.e1, e2 := T.e2, e3 := T.e3, e4 := T.e4, e5 := T.e5, e6 := T.e6,
                                              e7 := T.e7, ends := T.ends : Tb }) ∧
                                        True)) ∧
                    (decide ((↑x : Int) < min T.ends (8 : Int)) = false →
                      post (SV.tup [SV.int IntKind.i64 true (0 : Int), SV.int IntKind.i64 true (5 : Int)])
                        ({ most := T.most, term := T.term, ss := [a, b, c, Sl.zero], opened := T.opened, e0 := T.e0, e1 := T.e1, e2 := T.e2, e3 := T.e3, e4 := T.e4, e5 := T.e5, e6 := T.e6, e7 := T.e7,
                            ends := T.ends : Tb },
                          (↑(3 : Nat) : Int))))))) := by kernel_rfl
theorem vcRepin4 (T : Tb) (a b c d : Sl) (id block clock : Int) (post : SV → Tb × Int → Prop) : VC.holds (runT 21 Try.f21 {T with ss := [a, b, c, d]} id [iv id, iv block, iv clock] (postK post)) = ((decide (a.id = id) = true →
    (decide (a.dl ≤ clock) = true →
        post (SV.tup [SV.int IntKind.i64 true (0 : Int), SV.int IntKind.i64 true (6 : Int)])
          ({ most := T.most, term := T.term, ss := [a, b, c, d], opened := T.opened, e0 := T.e0, e1 := T.e1, e2 := T.e2, e3 := T.e3, e4 := T.e4, e5 := T.e5, e6 := T.e6, e7 := T.e7, ends := T.ends :
              Tb },
            (↑(4 : Nat) : Int))) ∧
      (decide (a.dl ≤ clock) = false →
        post (SV.tup [SV.int IntKind.i64 false a.block, SV.int IntKind.i64 true (0 : Int)])
          ({ most := T.most, term := T.term, ss := [{ id := a.id, block := block, dl := a.dl, last := a.last, s0 := a.s0, r0 := a.r0, s1 := a.s1, r1 := a.r1, stored := a.stored : Sl }, b, c, d],
              opened := T.opened, e0 := T.e0, e1 := T.e1, e2 := T.e2, e3 := T.e3, e4 := T.e4, e5 := T.e5, e6 := T.e6, e7 := T.e7, ends := T.ends : Tb },
            (↑(4 : Nat) : Int)))) ∧
  (decide (a.id = id) = false →
    (decide (b.id = id) = true →
        (decide (b.dl ≤ clock) = true →
            post (SV.tup [SV.int IntKind.i64 true (0 : Int), SV.int IntKind.i64 true (6 : Int)])
              ({ most := T.most, term := T.term, ss := [a, b, c, d], opened := T.opened, e0 := T.e0, e1 := T.e1, e2 := T.e2, e3 := T.e3, e4 := T.e4, e5 := T.e5, e6 := T.e6, e7 := T.e7,
                  ends := T.ends : Tb },
                (↑(4 : Nat) : Int))) ∧
          (decide (b.dl ≤ clock) = false →
            post (SV.tup [SV.int IntKind.i64 false b.block, SV.int IntKind.i64 true (0 : Int)])
              ({ most := T.most, term := T.term, ss := [a, { id := b.id, block := block, dl := b.dl, last := b.last, s0 := b.s0, r0 := b.r0, s1 := b.s1, r1 := b.r1, stored := b.stored : Sl }, c, d],
                  opened := T.opened, e0 := T.e0, e1 := T.e1, e2 := T.e2, e3 := T.e3, e4 := T.e4, e5 := T.e5, e6 := T.e6, e7 := T.e7, ends := T.ends : Tb },
                (↑(4 : Nat) : Int)))) ∧
      (decide (b.id = id) = false →
        (decide (c.id = id) = true →
            (decide (c.dl ≤ clock) = true →
                post (SV.tup [SV.int IntKind.i64 true (0 : Int), SV.int IntKind.i64 true (6 : Int)])
                  ({ most := T.most, term := T.term, ss := [a, b, c, d], opened := T.opened, e0 := T.e0, e1 := T.e1, e2 := T.e2, e3 := T.e3, e4 := T.e4, e5 := T.e5, e6 := T.e6, e7 := T.e7,
                      ends := T.ends : Tb },
                    (↑(4 : Nat) : Int))) ∧
              (decide (c.dl ≤ clock) = false →
                post (SV.tup [SV.int IntKind.i64 false c.block, SV.int IntKind.i64 true (0 : Int)])
                  ({ most := T.most, term := T.term,
                      ss := [a, b, { id := c.id, block := block, dl := c.dl, last := c.last, s0 := c.s0, r0 := c.r0, s1 := c.s1, r1 := c.r1, stored := c.stored : Sl }, d], opened := T.opened,
                      e0 := T.e0, e1 := T.e1, e2 := T.e2, e3 := T.e3, e4 := T.e4, e5 := T.e5, e6 := T.e6, e7 := T.e7, ends := T.ends : Tb },
                    (↑(4 : Nat) : Int)))) ∧
          (decide (c.id = id) = false →
            (decide (d.id = id) = true →
                (decide (d.dl ≤ clock) = true →
                    post (SV.tup [SV.int IntKind.i64 true (0 : Int), SV.int IntKind.i64 true (6 : Int)])
                      ({ most := T.most, term := T.term, ss := [a, b, c, d], opened := T.opened, e0 := T.e0, e1 := T.e1, e2 := T.e2, e3 := T.e3, e4 := T.e4, e5 := T.e5, e6 := T.e6, e7 := T.e7,
                          ends := T.ends : Tb },
                        (↑(4 : Nat) : Int))) ∧
                  (decide (d.dl ≤ clock) = false →
                    post (SV.tup [SV.int IntKind.i64 false d.block, SV.int IntKind.i64 true (0 : Int)])
                      ({ most := T.most, term := T.term,
                          ss := [a, b, c, { id := d.id, block := block, dl := d.dl, last := d.last, s0 := d.s0, r0 := d.r0, s1 := d.s1, r1 := d.r1, stored := d.stored : Sl }], opened := T.opened,
                          e0 := T.e0, e1 := T.e1, e2 := T.e2, e3 := T.e3, e4 := T.e4, e5 := T.e5, e6 := T.e6, e7 := T.e7, ends := T.ends : Tb },
                        (↑(4 : Nat) : Int)))) ∧
              (decide (d.id = id) = false →
                (∃ (x : Nat),
                    ((↑x : Int) ≤ min T.ends (8 : Int) ∧
                        ∀ (j : Nat),
                          j < x →
                            sel
                                { most := T.most, term := T.term, ss := [a, b, c, d], opened := T.opened, e0 := T.e0, e1 := T.e1, e2 := T.e2, e3 := T.e3, e4 := T.e4, e5 := T.e5, e6 := T.e6,
                                    e7 := T.e7, ends := T.ends : Tb }.ring
                                j ≠
                              id) ∧
                      (0 : Int) = (↑x : Int) ∧
                        SBle
                            (Tb.sb true
                              { most := T.most, term := T.term, ss := [a, b, c, d], opened := T.opened, e0 := T.e0, e1 := T.e1, e2 := T.e2, e3 := T.e3, e4 := T.e4, e5 := T.e5, e6 := T.e6, e7 := T.e7,
                                ends := T.ends : Tb })
                            (Tb.sb true
                              { most := T.most, term := T.term, ss := [a, b, c, d], opened := T.opened, e0 := T.e0, e1 := T.e1, e2 := T.e2, e3 := T.e3, e4 := T.e4, e5 := T.e5, e6 := T.e6, e7 := T.e7,
                                ends := T.ends : Tb }) ∧
                          True) ∧
                  ∀ (x : Nat),
                    ((↑x : Int) ≤ min T.ends (8 : Int) ∧
                        ∀ (j : Nat),
                          j < x →
                            sel
                                { most := T.most, term := T.term, ss := [a, b, c, d], opened := T.opened, e0 := T.e0, e1 := T.e1, e2 := T.e2, e3 := T.e3, e4 := T.e4, e5 := T.e5, e6 := T.e6,
                                    e7 := T.e7, ends := T.ends : Tb }.ring
                                j ≠
                              id) →
                      (decide ((↑x : Int) < min T.ends (8 : Int)) = true →
                          ((0 : Int) ≤ (↑x : Int) ∧ (↑x : Int) < (8 : Int)) ∧
                            (↑x : Int).toNat < (8 : Nat) ∧
                              (decide (sel [T.e0, T.e1, T.e2, T.e3, T.e4, T.e5, T.e6, T.e7] (↑x : Int).toNat = id) = true →
                                  post (SV.tup [SV.int IntKind.i64 true (0 : Int), SV.int IntKind.i64 true (6 : Int)])
                                    ({ most := T.most, term := T.term, ss := [a, b, c, d], opened := T.opened, e0 := T.e0, e1 := T.e1, e2 := T.e2, e3 := T.e3, e4 := T.e4, e5 := T.e5, e6 := T.e6,
                                        e7 := T.e7, ends := T.ends : Tb },
                                      (↑(4 : Nat) : Int))) ∧
                                (decide (sel [T.e0, T.e1, T.e2, T.e3, T.e4, T.e5, T.e6, T.e7] (↑x : Int).toNat = id) = false →
                                  ((-9223372036854775808 : Int) ≤ (↑x : Int) + (1 : Int) ∧ (↑x : Int) + (1 : Int) ≤ (9223372036854775807 : Int)) ∧
                                    ∃ (y : Nat),
                                      (((↑y : Int) ≤ min T.ends (8 : Int) ∧
                                            ∀ (j : Nat),
                                              j < y →
                                                sel
                                                    { most := T.most, term := T.term, ss := [a, b, c, d], opened := T.opened, e0 := T.e0, e1 := T.e1, e2 := T.e2, e3 := T.e3, e4 := T.e4, e5 := T.e5,
                                                        e6 := T.e6, e7 := T.e7, ends := T.ends : Tb }.ring
                                                    j ≠
                                                  id) ∧
                                          (8 : Nat) - y < (8 : Nat) - x) ∧
                                        (↑x : Int) + (1 : Int) = (↑y : Int) ∧
                                          SBle
                                              (Tb.sb true
                                                { most := T.most, term := T.term, ss := [a, b, c, d], opened := T.opened, e0 := T.e0, e1 := T.e1, e2 := T.e2, e3 := T.e3, e4 := T.e4, e5 := T.e5,
                                                  e6 := T.e6, e7 := T.e7, ends := T.ends : Tb })
                                              (Tb.sb true
                                                { most := T.most, term := T.term, ss := [a, b, c, d], opened := T.opened, e0 := T.e0, e1 := T.e1, e2 := T.e2, e3 := T.e3, e4 := T.e4, e5 := T.e5,
                                                  e6 := T.e6, e7 := T.e7, ends := T.ends : Tb }) ∧
                                            True)) ∧
                        (decide ((↑x : Int) < min T.ends (8 : Int)) = false →
                          post (SV.tup [SV.int IntKind.i64 true (0 : Int), SV.int IntKind.i64 true (5 : Int)])
                            ({ most := T.most, term := T.term, ss := [a, b, c, d], opened := T.opened, e0 := T.e0, e1 := T.e1, e2 := T.e2, e3 := T.e3, e4 := T.e4, e5 := T.e5, e6 := T.e6, e7 := T.e7,
                                ends := T.ends : Tb },
                              (↑(4 : Nat) : Int)))))))) := by kernel_rfl
theorem vcRelease0 (T : Tb) (id clock : Int) (post : SV → Tb × Int → Prop) : VC.holds (runT 17 Try.f17 {T with ss := []} id [iv id, iv clock] (postK post)) = ((∃ (x : Nat),
    ((↑x : Int) ≤ min T.ends (8 : Int) ∧
        ∀ (j : Nat),
          j < x →
            sel
                { most := T.most, term := T.term, ss := [], opened := T.opened, e0 := T.e0, e1 := T.e1, e2 := T.e2, e3 := T.e3, e4 := T.e4, e5 := T.e5, e6 := T.e6, e7 := T.e7, ends := T.ends :
                    Tb }.ring
                j ≠
              id) ∧
      (0 : Int) = (↑x : Int) ∧
        SBle
            (Tb.sb true
              { most := T.most, term := T.term, ss := [], opened := T.opened, e0 := T.e0, e1 := T.e1, e2 := T.e2, e3 := T.e3, e4 := T.e4, e5 := T.e5, e6 := T.e6, e7 := T.e7, ends := T.ends : Tb })
            (Tb.sb true
              { most := T.most, term := T.term, ss := [], opened := T.opened, e0 := T.e0, e1 := T.e1, e2 := T.e2, e3 := T.e3, e4 := T.e4, e5 := T.e5, e6 := T.e6, e7 := T.e7, ends := T.ends : Tb }) ∧
          True) ∧
  ∀ (x : Nat),
    ((↑x : Int) ≤ min T.ends (8 : Int) ∧
        ∀ (j : Nat),
          j < x →
            sel
                { most := T.most, term := T.term, ss := [], opened := T.opened, e0 := T.e0, e1 := T.e1, e2 := T.e2, e3 := T.e3, e4 := T.e4, e5 := T.e5, e6 := T.e6, e7 := T.e7, ends := T.ends :
                    Tb }.ring
                j ≠
              id) →
      (decide ((↑x : Int) < min T.ends (8 : Int)) = true →
          ((0 : Int) ≤ (↑x : Int) ∧ (↑x : Int) < (8 : Int)) ∧
            (↑x : Int).toNat < (8 : Nat) ∧
              (decide (sel [T.e0, T.e1, T.e2, T.e3, T.e4, T.e5, T.e6, T.e7] (↑x : Int).toNat = id) = true →
                  post (SV.tup [SV.int IntKind.i64 true (0 : Int), SV.int IntKind.i64 true (6 : Int)])
                    ({ most := T.most, term := T.term, ss := [Sl.zero, Sl.zero, Sl.zero, Sl.zero], opened := T.opened, e0 := T.e0, e1 := T.e1, e2 := T.e2, e3 := T.e3, e4 := T.e4, e5 := T.e5,
                        e6 := T.e6, e7 := T.e7, ends := T.ends : Tb },
                      (↑(0 : Nat) : Int))) ∧
                (decide (sel [T.e0, T.e1, T.e2, T.e3, T.e4, T.e5, T.e6, T.e7] (↑x : Int).toNat = id) = false →
                  ((-9223372036854775808 : Int) ≤ (↑x : Int) + (1 : Int) ∧ (↑x : Int) + (1 : Int) ≤ (9223372036854775807 : Int)) ∧
                    ∃ (y : Nat),
                      (((↑y : Int) ≤ min T.ends (8 : Int) ∧
                            ∀ (j : Nat),
                              j < y →
                                sel
                                    { most := T.most, term := T.term, ss := [], opened := T.opened, e0 := T.e0, e1 := T.e1, e2 := T.e2, e3 := T.e3, e4 := T.e4, e5 := T.e5, e6 := T.e6, e7 := T.e7,
                                        ends := T.ends : Tb }.ring
                                    j ≠
                                  id) ∧
                          (8 : Nat) - y < (8 : Nat) - x) ∧
                        (↑x : Int) + (1 : Int) = (↑y : Int) ∧
                          SBle
                              (Tb.sb true
                                { most := T.most, term := T.term, ss := [], opened := T.opened, e0 := T.e0, e1 := T.e1, e2 := T.e2, e3 := T.e3, e4 := T.e4, e5 := T.e5, e6 := T.e6, e7 := T.e7,
                                  ends := T.ends : Tb })
                              (Tb.sb true
                                { most := T.most, term := T.term, ss := [], opened := T.opened, e0 := T.e0, e1 := T.e1, e2 := T.e2, e3 := T.e3, e4 := T.e4, e5 := T.e5, e6 := T.e6, e7 := T.e7,
                                  ends := T.ends : Tb }) ∧
                            True)) ∧
        (decide ((↑x : Int) < min T.ends (8 : Int)) = false →
          post (SV.tup [SV.int IntKind.i64 true (0 : Int), SV.int IntKind.i64 true (5 : Int)])
            ({ most := T.most, term := T.term, ss := [Sl.zero, Sl.zero, Sl.zero, Sl.zero], opened := T.opened, e0 := T.e0, e1 := T.e1, e2 := T.e2, e3 := T.e3, e4 := T.e4, e5 := T.e5, e6 := T.e6,
                e7 := T.e7, ends := T.ends : Tb },
              (↑(0 : Nat) : Int)))) := by kernel_rfl
theorem vcRelease1 (T : Tb) (a : Sl) (id clock : Int) (post : SV → Tb × Int → Prop) : VC.holds (runT 17 Try.f17 {T with ss := [a]} id [iv id, iv clock] (postK post)) = ((decide (a.id = id) = true →
    (decide (a.dl ≤ clock) = true →
        post (SV.tup [SV.int IntKind.i64 true (0 : Int), SV.int IntKind.i64 true (6 : Int)])
          ({ most := T.most, term := T.term, ss := [a, Sl.zero, Sl.zero, Sl.zero], opened := T.opened, e0 := T.e0, e1 := T.e1, e2 := T.e2, e3 := T.e3, e4 := T.e4, e5 := T.e5, e6 := T.e6, e7 := T.e7,
              ends := T.ends : Tb },
            (↑(1 : Nat) : Int))) ∧
      (decide (a.dl ≤ clock) = false →
        post (SV.tup [SV.int IntKind.i64 false a.block, SV.int IntKind.i64 true (0 : Int)])
          ({ most := T.most, term := T.term, ss := [Sl.zero, Sl.zero, Sl.zero, Sl.zero], opened := T.opened, e0 := T.e0, e1 := T.e1, e2 := T.e2, e3 := T.e3, e4 := T.e4, e5 := T.e5, e6 := T.e6,
              e7 := T.e7, ends := T.ends : Tb },
            IntKind.i64.wrap ((↑(1 : Nat) : Int) - (1 : Int))))) ∧
  (decide (a.id = id) = false →
    (∃ (x : Nat),
        ((↑x : Int) ≤ min T.ends (8 : Int) ∧
            ∀ (j : Nat),
              j < x →
                sel
                    { most := T.most, term := T.term, ss := [a], opened := T.opened, e0 := T.e0, e1 := T.e1, e2 := T.e2, e3 := T.e3, e4 := T.e4, e5 := T.e5, e6 := T.e6, e7 := T.e7, ends := T.ends :
                        Tb }.ring
                    j ≠
                  id) ∧
          (0 : Int) = (↑x : Int) ∧
            SBle
                (Tb.sb true
                  { most := T.most, term := T.term, ss := [a], opened := T.opened, e0 := T.e0, e1 := T.e1, e2 := T.e2, e3 := T.e3, e4 := T.e4, e5 := T.e5, e6 := T.e6, e7 := T.e7, ends := T.ends :
                    Tb })
                (Tb.sb true
                  { most := T.most, term := T.term, ss := [a], opened := T.opened, e0 := T.e0, e1 := T.e1, e2 := T.e2, e3 := T.e3, e4 := T.e4, e5 := T.e5, e6 := T.e6, e7 := T.e7, ends := T.ends :
                    Tb }) ∧
              True) ∧
      ∀ (x : Nat),
        ((↑x : Int) ≤ min T.ends (8 : Int) ∧
            ∀ (j : Nat),
              j < x →
                sel
                    { most := T.most, term := T.term, ss := [a], opened := T.opened, e0 := T.e0, e1 := T.e1, e2 := T.e2, e3 := T.e3, e4 := T.e4, e5 := T.e5, e6 := T.e6, e7 := T.e7, ends := T.ends :
                        Tb }.ring
                    j ≠
                  id) →
          (decide ((↑x : Int) < min T.ends (8 : Int)) = true →
              ((0 : Int) ≤ (↑x : Int) ∧ (↑x : Int) < (8 : Int)) ∧
                (↑x : Int).toNat < (8 : Nat) ∧
                  (decide (sel [T.e0, T.e1, T.e2, T.e3, T.e4, T.e5, T.e6, T.e7] (↑x : Int).toNat = id) = true →
                      post (SV.tup [SV.int IntKind.i64 true (0 : Int), SV.int IntKind.i64 true (6 : Int)])
                        ({ most := T.most, term := T.term, ss := [a, Sl.zero, Sl.zero, Sl.zero], opened := T.opened, e0 := T.e0, e1 := T.e1, e2 := T.e2, e3 := T.e3, e4 := T.e4, e5 := T.e5, e6 := T.e6,
                            e7 := T.e7, ends := T.ends : Tb },
                          (↑(1 : Nat) : Int))) ∧
                    (decide (sel [T.e0, T.e1, T.e2, T.e3, T.e4, T.e5, T.e6, T.e7] (↑x : Int).toNat = id) = false →
                      ((-9223372036854775808 : Int) ≤ (↑x : Int) + (1 : Int) ∧ (↑x : Int) + (1 : Int) ≤ (9223372036854775807 : Int)) ∧
                        ∃ (y : Nat),
                          (((↑y : Int) ≤ min T.ends (8 : Int) ∧
                                ∀ (j : Nat),
                                  j < y →
                                    sel
                                        { most := T.most, term := T.term, ss := [a], opened := T.opened, e0 := T.e0, e1 := T.e1, e2 := T.e2, e3 := T.e3, e4 := T.e4, e5 := T.e5, e6 := T.e6, e7 := T.e7,
                                            ends := T.ends : Tb }.ring
                                        j ≠
                                      id) ∧
                              (8 : Nat) - y < (8 : Nat) - x) ∧
                            (↑x : Int) + (1 : Int) = (↑y : Int) ∧
                              SBle
                                  (Tb.sb true
                                    { most := T.most, term := T.term, ss := [a], opened := T.opened, e0 := T.e0, e1 := T.e1, e2 := T.e2, e3 := T.e3, e4 := T.e4, e5 := T.e5, e6 := T.e6, e7 := T.e7,
                                      ends := T.ends : Tb })
                                  (Tb.sb true
                                    { most := T.most, term := T.term, ss := [a], opened := T.opened, e0 := T.e0, e1 := T.e1, e2 := T.e2, e3 := T.e3, e4 := T.e4, e5 := T.e5, e6 := T.e6, e7 := T.e7,
                                      ends := T.ends : Tb }) ∧
                                True)) ∧
            (decide ((↑x : Int) < min T.ends (8 : Int)) = false →
              post (SV.tup [SV.int IntKind.i64 true (0 : Int), SV.int IntKind.i64 true (5 : Int)])
                ({ most := T.most, term := T.term, ss := [a, Sl.zero, Sl.zero, Sl.zero], opened := T.opened, e0 := T.e0, e1 := T.e1, e2 := T.e2, e3 := T.e3, e4 := T.e4, e5 := T.e5, e6 := T.e6,
                    e7 := T.e7, ends := T.ends : Tb },
                  (↑(1 : Nat) : Int))))) := by kernel_rfl
theorem vcRelease2 (T : Tb) (a b : Sl) (id clock : Int) (post : SV → Tb × Int → Prop) : VC.holds (runT 17 Try.f17 {T with ss := [a, b]} id [iv id, iv clock] (postK post)) = ((decide (a.id = id) = true →
    (decide (a.dl ≤ clock) = true →
        post (SV.tup [SV.int IntKind.i64 true (0 : Int), SV.int IntKind.i64 true (6 : Int)])
          ({ most := T.most, term := T.term, ss := [a, b, Sl.zero, Sl.zero], opened := T.opened, e0 := T.e0, e1 := T.e1, e2 := T.e2, e3 := T.e3, e4 := T.e4, e5 := T.e5, e6 := T.e6, e7 := T.e7,
              ends := T.ends : Tb },
            (↑(2 : Nat) : Int))) ∧
      (decide (a.dl ≤ clock) = false →
        post (SV.tup [SV.int IntKind.i64 false a.block, SV.int IntKind.i64 true (0 : Int)])
          ({ most := T.most, term := T.term, ss := [b, Sl.zero, Sl.zero, Sl.zero], opened := T.opened, e0 := T.e0, e1 := T.e1, e2 := T.e2, e3 := T.e3, e4 := T.e4, e5 := T.e5, e6 := T.e6, e7 := T.e7,
              ends := T.ends : Tb },
            IntKind.i64.wrap ((↑(2 : Nat) : Int) - (1 : Int))))) ∧
  (decide (a.id = id) = false →
    (decide (b.id = id) = true →
        (decide (b.dl ≤ clock) = true →
            post (SV.tup [SV.int IntKind.i64 true (0 : Int), SV.int IntKind.i64 true (6 : Int)])
              ({ most := T.most, term := T.term, ss := [a, b, Sl.zero, Sl.zero], opened := T.opened, e0 := T.e0, e1 := T.e1, e2 := T.e2, e3 := T.e3, e4 := T.e4, e5 := T.e5, e6 := T.e6, e7 := T.e7,
                  ends := T.ends : Tb },
                (↑(2 : Nat) : Int))) ∧
          (decide (b.dl ≤ clock) = false →
            post (SV.tup [SV.int IntKind.i64 false b.block, SV.int IntKind.i64 true (0 : Int)])
              ({ most := T.most, term := T.term, ss := [a, Sl.zero, Sl.zero, Sl.zero], opened := T.opened, e0 := T.e0, e1 := T.e1, e2 := T.e2, e3 := T.e3, e4 := T.e4, e5 := T.e5, e6 := T.e6,
                  e7 := T.e7, ends := T.ends : Tb },
                IntKind.i64.wrap ((↑(2 : Nat) : Int) - (1 : Int))))) ∧
      (decide (b.id = id) = false →
        (∃ (x : Nat),
            ((↑x : Int) ≤ min T.ends (8 : Int) ∧
                ∀ (j : Nat),
                  j < x →
                    sel
                        { most := T.most, term := T.term, ss := [a, b], opened := T.opened, e0 := T.e0, e1 := T.e1, e2 := T.e2, e3 := T.e3, e4 := T.e4, e5 := T.e5, e6 := T.e6, e7 := T.e7,
                            ends := T.ends : Tb }.ring
                        j ≠
                      id) ∧
              (0 : Int) = (↑x : Int) ∧
                SBle
                    (Tb.sb true
                      { most := T.most, term := T.term, ss := [a, b], opened := T.opened, e0 := T.e0, e1 := T.e1, e2 := T.e2, e3 := T.e3, e4 := T.e4, e5 := T.e5, e6 := T.e6, e7 := T.e7,
                        ends := T.ends : Tb })
                    (Tb.sb true
                      { most := T.most, term := T.term, ss := [a, b], opened := T.opened, e0 := T.e0, e1 := T.e1, e2 := T.e2, e3 := T.e3, e4 := T.e4, e5 := T.e5, e6 := T.e6, e7 := T.e7,
                        ends := T.ends : Tb }) ∧
                  True) ∧
          ∀ (x : Nat),
            ((↑x : Int) ≤ min T.ends (8 : Int) ∧
                ∀ (j : Nat),
                  j < x →
                    sel
                        { most := T.most, term := T.term, ss := [a, b], opened := T.opened, e0 := T.e0, e1 := T.e1, e2 := T.e2, e3 := T.e3, e4 := T.e4, e5 := T.e5, e6 := T.e6, e7 := T.e7,
                            ends := T.ends : Tb }.ring
                        j ≠
                      id) →
              (decide ((↑x : Int) < min T.ends (8 : Int)) = true →
                  ((0 : Int) ≤ (↑x : Int) ∧ (↑x : Int) < (8 : Int)) ∧
                    (↑x : Int).toNat < (8 : Nat) ∧
                      (decide (sel [T.e0, T.e1, T.e2, T.e3, T.e4, T.e5, T.e6, T.e7] (↑x : Int).toNat = id) = true →
                          post (SV.tup [SV.int IntKind.i64 true (0 : Int), SV.int IntKind.i64 true (6 : Int)])
                            ({ most := T.most, term := T.term, ss := [a, b, Sl.zero, Sl.zero], opened := T.opened, e0 := T.e0, e1 := T.e1, e2 := T.e2, e3 := T.e3, e4 := T.e4, e5 := T.e5, e6 := T.e6,
                                e7 := T.e7, ends := T.ends : Tb },
                              (↑(2 : Nat) : Int))) ∧
                        (decide (sel [T.e0, T.e1, T.e2, T.e3, T.e4, T.e5, T.e6, T.e7] (↑x : Int).toNat = id) = false →
                          ((-9223372036854775808 : Int) ≤ (↑x : Int) + (1 : Int) ∧ (↑x : Int) + (1 : Int) ≤ (9223372036854775807 : Int)) ∧
                            ∃ (y : Nat),
                              (((↑y : Int) ≤ min T.ends (8 : Int) ∧
                                    ∀ (j : Nat),
                                      j < y →
                                        sel
                                            { most := T.most, term := T.term, ss := [a, b], opened := T.opened, e0 := T.e0, e1 := T.e1, e2 := T.e2, e3 := T.e3, e4 := T.e4, e5 := T.e5, e6 := T.e6,
                                                e7 := T.e7, ends := T.ends : Tb }.ring
                                            j ≠
                                          id) ∧
                                  (8 : Nat) - y < (8 : Nat) - x) ∧
                                (↑x : Int) + (1 : Int) = (↑y : Int) ∧
                                  SBle
                                      (Tb.sb true
                                        { most := T.most, term := T.term, ss := [a, b], opened := T.opened, e0 := T.e0, e1 := T.e1, e2 := T.e2, e3 := T.e3, e4 := T.e4, e5 := T.e5, e6 := T.e6,
                                          e7 := T.e7, ends := T.ends : Tb })
                                      (Tb.sb true
                                        { most := T.most, term := T.term, ss := [a, b], opened := T.opened, e0 := T.e0, e1 := T.e1, e2 := T.e2, e3 := T.e3, e4 := T.e4, e5 := T.e5, e6 := T.e6,
                                          e7 := T.e7, ends := T.ends : Tb }) ∧
                                    True)) ∧
                (decide ((↑x : Int) < min T.ends (8 : Int)) = false →
                  post (SV.tup [SV.int IntKind.i64 true (0 : Int), SV.int IntKind.i64 true (5 : Int)])
                    ({ most := T.most, term := T.term, ss := [a, b, Sl.zero, Sl.zero], opened := T.opened, e0 := T.e0, e1 := T.e1, e2 := T.e2, e3 := T.e3, e4 := T.e4, e5 := T.e5, e6 := T.e6,
                        e7 := T.e7, ends := T.ends : Tb },
                      (↑(2 : Nat) : Int)))))) := by kernel_rfl
theorem vcRelease3 (T : Tb) (a b c : Sl) (id clock : Int) (post : SV → Tb × Int → Prop) : VC.holds (runT 17 Try.f17 {T with ss := [a, b, c]} id [iv id, iv clock] (postK post)) = ((decide (a.id = id) = true →
    (decide (a.dl ≤ clock) = true →
        post (SV.tup [SV.int IntKind.i64 true (0 : Int), SV.int IntKind.i64 true (6 : Int)])
          ({ most := T.most, term := T.term, ss := [a, b, c, Sl.zero], opened := T.opened, e0 := T.e0, e1 := T.e1, e2 := T.e2, e3 := T.e3, e4 := T.e4, e5 := T.e5, e6 := T.e6, e7 := T.e7,
              ends := T.ends : Tb },
            (↑(3 : Nat) : Int))) ∧
      (decide (a.dl ≤ clock) = false →
        post (SV.tup [SV.int IntKind.i64 false a.block, SV.int IntKind.i64 true (0 : Int)])
          ({ most := T.most, term := T.term, ss := [b, c, Sl.zero, Sl.zero], opened := T.opened, e0 := T.e0, e1 := T.e1, e2 := T.e2, e3 := T.e3, e4 := T.e4, e5 := T.e5, e6 := T.e6, e7 := T.e7,
              ends := T.ends : Tb },
            IntKind.i64.wrap ((↑(3 : Nat) : Int) - (1 : Int))))) ∧
  (decide (a.id = id) = false →
    (decide (b.id = id) = true →
        (decide (b.dl ≤ clock) = true →
            post (SV.tup [SV.int IntKind.i64 true (0 : Int), SV.int IntKind.i64 true (6 : Int)])
              ({ most := T.most, term := T.term, ss := [a, b, c, Sl.zero], opened := T.opened, e0 := T.e0, e1 := T.e1, e2 := T.e2, e3 := T.e3, e4 := T.e4, e5 := T.e5, e6 := T.e6, e7 := T.e7,
                  ends := T.ends : Tb },
                (↑(3 : Nat) : Int))) ∧
          (decide (b.dl ≤ clock) = false →
            post (SV.tup [SV.int IntKind.i64 false b.block, SV.int IntKind.i64 true (0 : Int)])
              ({ most := T.most, term := T.term, ss := [a, c, Sl.zero, Sl.zero], opened := T.opened, e0 := T.e0, e1 := T.e1, e2 := T.e2, e3 := T.e3, e4 := T.e4, e5 := T.e5, e6 := T.e6, e7 := T.e7,
                  ends := T.ends : Tb },
                IntKind.i64.wrap ((↑(3 : Nat) : Int) - (1 : Int))))) ∧
      (decide (b.id = id) = false →
        (decide (c.id = id) = true →
            (decide (c.dl ≤ clock) = true →
                post (SV.tup [SV.int IntKind.i64 true (0 : Int), SV.int IntKind.i64 true (6 : Int)])
                  ({ most := T.most, term := T.term, ss := [a, b, c, Sl.zero], opened := T.opened, e0 := T.e0, e1 := T.e1, e2 := T.e2, e3 := T.e3, e4 := T.e4, e5 := T.e5, e6 := T.e6, e7 := T.e7,
                      ends := T.ends : Tb },
                    (↑(3 : Nat) : Int))) ∧
              (decide (c.dl ≤ clock) = false →
                post (SV.tup [SV.int IntKind.i64 false c.block, SV.int IntKind.i64 true (0 : Int)])
                  ({ most := T.most, term := T.term, ss := [a, b, Sl.zero, Sl.zero], opened := T.opened, e0 := T.e0, e1 := T.e1, e2 := T.e2, e3 := T.e3, e4 := T.e4, e5 := T.e5, e6 := T.e6, e7 := T.e7,
                      ends := T.ends : Tb },
                    IntKind.i64.wrap ((↑(3 : Nat) : Int) - (1 : Int))))) ∧
          (decide (c.id = id) = false →
            (∃ (x : Nat),
                ((↑x : Int) ≤ min T.ends (8 : Int) ∧
                    ∀ (j : Nat),
                      j < x →
                        sel
                            { most := T.most, term := T.term, ss := [a, b, c], opened := T.opened, e0 := T.e0, e1 := T.e1, e2 := T.e2, e3 := T.e3, e4 := T.e4, e5 := T.e5, e6 := T.e6, e7 := T.e7,
                                ends := T.ends : Tb }.ring
                            j ≠
                          id) ∧
                  (0 : Int) = (↑x : Int) ∧
                    SBle
                        (Tb.sb true
                          { most := T.most, term := T.term, ss := [a, b, c], opened := T.opened, e0 := T.e0, e1 := T.e1, e2 := T.e2, e3 := T.e3, e4 := T.e4, e5 := T.e5, e6 := T.e6, e7 := T.e7,
                            ends := T.ends : Tb })
                        (Tb.sb true
                          { most := T.most, term := T.term, ss := [a, b, c], opened := T.opened, e0 := T.e0, e1 := T.e1, e2 := T.e2, e3 := T.e3, e4 := T.e4, e5 := T.e5, e6 := T.e6, e7 := T.e7,
                            ends := T.ends : Tb }) ∧
                      True) ∧
              ∀ (x : Nat),
                ((↑x : Int) ≤ min T.ends (8 : Int) ∧
                    ∀ (j : Nat),
                      j < x →
                        sel
                            { most := T.most, term := T.term, ss := [a, b, c], opened := T.opened, e0 := T.e0, e1 := T.e1, e2 := T.e2, e3 := T.e3, e4 := T.e4, e5 := T.e5, e6 := T.e6, e7 := T.e7,
                                ends := T.ends : Tb }.ring
                            j ≠
                          id) →
                  (decide ((↑x : Int) < min T.ends (8 : Int)) = true →
                      ((0 : Int) ≤ (↑x : Int) ∧ (↑x : Int) < (8 : Int)) ∧
                        (↑x : Int).toNat < (8 : Nat) ∧
                          (decide (sel [T.e0, T.e1, T.e2, T.e3, T.e4, T.e5, T.e6, T.e7] (↑x : Int).toNat = id) = true →
                              post (SV.tup [SV.int IntKind.i64 true (0 : Int), SV.int IntKind.i64 true (6 : Int)])
                                ({ most := T.most, term := T.term, ss := [a, b, c, Sl.zero], opened := T.opened, e0 := T.e0, e1 := T.e1, e2 := T.e2, e3 := T.e3, e4 := T.e4, e5 := T.e5, e6 := T.e6,
                                    e7 := T.e7, ends := T.ends : Tb },
                                  (↑(3 : Nat) : Int))) ∧
                            (decide (sel [T.e0, T.e1, T.e2, T.e3, T.e4, T.e5, T.e6, T.e7] (↑x : Int).toNat = id) = false →
                              ((-9223372036854775808 : Int) ≤ (↑x : Int) + (1 : Int) ∧ (↑x : Int) + (1 : Int) ≤ (9223372036854775807 : Int)) ∧
                                ∃ (y : Nat),
                                  (((↑y : Int) ≤ min T.ends (8 : Int) ∧
                                        ∀ (j : Nat),
                                          j < y →
                                            sel
                                                { most := T.most, term := T.term, ss := [a, b, c], opened := T.opened, e0 := T.e0, e1 := T.e1, e2 := T.e2, e3 := T.e3, e4 := T.e4, e5 := T.e5,
                                                    e6 := T.e6, e7 := T.e7, ends := T.ends : Tb }.ring
                                                j ≠
                                              id) ∧
                                      (8 : Nat) - y < (8 : Nat) - x) ∧
                                    (↑x : Int) + (1 : Int) = (↑y : Int) ∧
                                      SBle
                                          (Tb.sb true
                                            { most := T.most, term := T.term, ss := [a, b, c], opened := T.opened, e0 := T.e0, e1 := T.e1, e2 := T.e2, e3 := T.e3, e4 := T.e4, e5 := T.e5, e6 := T.e6,
                                              e7 := T.e7, ends := T.ends : Tb })
                                          (Tb.sb true
                                            { most := T.most, term := T.term, ss := [a, b, c], opened := T.opened, e0 := T.e0, e1 := T.e1, e2 := T.e2, e3 := T.e3, e4 := T.e4, e5 := T.e5, e6 := T.e6,
                                              e7 := T.e7, ends := T.ends : Tb }) ∧
                                        True)) ∧
                    (decide ((↑x : Int) < min T.ends (8 : Int)) = false →
                      post (SV.tup [SV.int IntKind.i64 true (0 : Int), SV.int IntKind.i64 true (5 : Int)])
                        ({ most := T.most, term := T.term, ss := [a, b, c, Sl.zero], opened := T.opened, e0 := T.e0, e1 := T.e1, e2 := T.e2, e3 := T.e3, e4 := T.e4, e5 := T.e5, e6 := T.e6, e7 := T.e7,
                            ends := T.ends : Tb },
                          (↑(3 : Nat) : Int))))))) := by kernel_rfl
theorem vcRelease4 (T : Tb) (a b c d : Sl) (id clock : Int) (post : SV → Tb × Int → Prop) : VC.holds (runT 17 Try.f17 {T with ss := [a, b, c, d]} id [iv id, iv clock] (postK post)) = ((decide (a.id = id) = true →
    (decide (a.dl ≤ clock) = true →
        post (SV.tup [SV.int IntKind.i64 true (0 : Int), SV.int IntKind.i64 true (6 : Int)])
          ({ most := T.most, term := T.term, ss := [a, b, c, d], opened := T.opened, e0 := T.e0, e1 := T.e1, e2 := T.e2, e3 := T.e3, e4 := T.e4, e5 := T.e5, e6 := T.e6, e7 := T.e7, ends := T.ends :
              Tb },
            (↑(4 : Nat) : Int))) ∧
      (decide (a.dl ≤ clock) = false →
        post (SV.tup [SV.int IntKind.i64 false a.block, SV.int IntKind.i64 true (0 : Int)])
          ({ most := T.most, term := T.term, ss := [b, c, d, Sl.zero], opened := T.opened, e0 := T.e0, e1 := T.e1, e2 := T.e2, e3 := T.e3, e4 := T.e4, e5 := T.e5, e6 := T.e6, e7 := T.e7,
              ends := T.ends : Tb },
            IntKind.i64.wrap ((↑(4 : Nat) : Int) - (1 : Int))))) ∧
  (decide (a.id = id) = false →
    (decide (b.id = id) = true →
        (decide (b.dl ≤ clock) = true →
            post (SV.tup [SV.int IntKind.i64 true (0 : Int), SV.int IntKind.i64 true (6 : Int)])
              ({ most := T.most, term := T.term, ss := [a, b, c, d], opened := T.opened, e0 := T.e0, e1 := T.e1, e2 := T.e2, e3 := T.e3, e4 := T.e4, e5 := T.e5, e6 := T.e6, e7 := T.e7,
                  ends := T.ends : Tb },
                (↑(4 : Nat) : Int))) ∧
          (decide (b.dl ≤ clock) = false →
            post (SV.tup [SV.int IntKind.i64 false b.block, SV.int IntKind.i64 true (0 : Int)])
              ({ most := T.most, term := T.term, ss := [a, c, d, Sl.zero], opened := T.opened, e0 := T.e0, e1 := T.e1, e2 := T.e2, e3 := T.e3, e4 := T.e4, e5 := T.e5, e6 := T.e6, e7 := T.e7,
                  ends := T.ends : Tb },
                IntKind.i64.wrap ((↑(4 : Nat) : Int) - (1 : Int))))) ∧
      (decide (b.id = id) = false →
        (decide (c.id = id) = true →
            (decide (c.dl ≤ clock) = true →
                post (SV.tup [SV.int IntKind.i64 true (0 : Int), SV.int IntKind.i64 true (6 : Int)])
                  ({ most := T.most, term := T.term, ss := [a, b, c, d], opened := T.opened, e0 := T.e0, e1 := T.e1, e2 := T.e2, e3 := T.e3, e4 := T.e4, e5 := T.e5, e6 := T.e6, e7 := T.e7,
                      ends := T.ends : Tb },
                    (↑(4 : Nat) : Int))) ∧
              (decide (c.dl ≤ clock) = false →
                post (SV.tup [SV.int IntKind.i64 false c.block, SV.int IntKind.i64 true (0 : Int)])
                  ({ most := T.most, term := T.term, ss := [a, b, d, Sl.zero], opened := T.opened, e0 := T.e0, e1 := T.e1, e2 := T.e2, e3 := T.e3, e4 := T.e4, e5 := T.e5, e6 := T.e6, e7 := T.e7,
                      ends := T.ends : Tb },
                    IntKind.i64.wrap ((↑(4 : Nat) : Int) - (1 : Int))))) ∧
          (decide (c.id = id) = false →
            (decide (d.id = id) = true →
                (decide (d.dl ≤ clock) = true →
                    post (SV.tup [SV.int IntKind.i64 true (0 : Int), SV.int IntKind.i64 true (6 : Int)])
                      ({ most := T.most, term := T.term, ss := [a, b, c, d], opened := T.opened, e0 := T.e0, e1 := T.e1, e2 := T.e2, e3 := T.e3, e4 := T.e4, e5 := T.e5, e6 := T.e6, e7 := T.e7,
                          ends := T.ends : Tb },
                        (↑(4 : Nat) : Int))) ∧
                  (decide (d.dl ≤ clock) = false →
                    post (SV.tup [SV.int IntKind.i64 false d.block, SV.int IntKind.i64 true (0 : Int)])
                      ({ most := T.most, term := T.term, ss := [a, b, c, Sl.zero], opened := T.opened, e0 := T.e0, e1 := T.e1, e2 := T.e2, e3 := T.e3, e4 := T.e4, e5 := T.e5, e6 := T.e6, e7 := T.e7,
                          ends := T.ends : Tb },
                        IntKind.i64.wrap ((↑(4 : Nat) : Int) - (1 : Int))))) ∧
              (decide (d.id = id) = false →
                (∃ (x : Nat),
                    ((↑x : Int) ≤ min T.ends (8 : Int) ∧
                        ∀ (j : Nat),
                          j < x →
                            sel
                                { most := T.most, term := T.term, ss := [a, b, c, d], opened := T.opened, e0 := T.e0, e1 := T.e1, e2 := T.e2, e3 := T.e3, e4 := T.e4, e5 := T.e5, e6 := T.e6,
                                    e7 := T.e7, ends := T.ends : Tb }.ring
                                j ≠
                              id) ∧
                      (0 : Int) = (↑x : Int) ∧
                        SBle
                            (Tb.sb true
                              { most := T.most, term := T.term, ss := [a, b, c, d], opened := T.opened, e0 := T.e0, e1 := T.e1, e2 := T.e2, e3 := T.e3, e4 := T.e4, e5 := T.e5, e6 := T.e6, e7 := T.e7,
                                ends := T.ends : Tb })
                            (Tb.sb true
                              { most := T.most, term := T.term, ss := [a, b, c, d], opened := T.opened, e0 := T.e0, e1 := T.e1, e2 := T.e2, e3 := T.e3, e4 := T.e4, e5 := T.e5, e6 := T.e6, e7 := T.e7,
                                ends := T.ends : Tb }) ∧
                          True) ∧
                  ∀ (x : Nat),
                    ((↑x : Int) ≤ min T.ends (8 : Int) ∧
                        ∀ (j : Nat),
                          j < x →
                            sel
                                { most := T.most, term := T.term, ss := [a, b, c, d], opened := T.opened, e0 := T.e0, e1 := T.e1, e2 := T.e2, e3 := T.e3, e4 := T.e4, e5 := T.e5, e6 := T.e6,
                                    e7 := T.e7, ends := T.ends : Tb }.ring
                                j ≠
                              id) →
                      (decide ((↑x : Int) < min T.ends (8 : Int)) = true →
                          ((0 : Int) ≤ (↑x : Int) ∧ (↑x : Int) < (8 : Int)) ∧
                            (↑x : Int).toNat < (8 : Nat) ∧
                              (decide (sel [T.e0, T.e1, T.e2, T.e3, T.e4, T.e5, T.e6, T.e7] (↑x : Int).toNat = id) = true →
                                  post (SV.tup [SV.int IntKind.i64 true (0 : Int), SV.int IntKind.i64 true (6 : Int)])
                                    ({ most := T.most, term := T.term, ss := [a, b, c, d], opened := T.opened, e0 := T.e0, e1 := T.e1, e2 := T.e2, e3 := T.e3, e4 := T.e4, e5 := T.e5, e6 := T.e6,
                                        e7 := T.e7, ends := T.ends : Tb },
                                      (↑(4 : Nat) : Int))) ∧
                                (decide (sel [T.e0, T.e1, T.e2, T.e3, T.e4, T.e5, T.e6, T.e7] (↑x : Int).toNat = id) = false →
                                  ((-9223372036854775808 : Int) ≤ (↑x : Int) + (1 : Int) ∧ (↑x : Int) + (1 : Int) ≤ (9223372036854775807 : Int)) ∧
                                    ∃ (y : Nat),
                                      (((↑y : Int) ≤ min T.ends (8 : Int) ∧
                                            ∀ (j : Nat),
                                              j < y →
                                                sel
                                                    { most := T.most, term := T.term, ss := [a, b, c, d], opened := T.opened, e0 := T.e0, e1 := T.e1, e2 := T.e2, e3 := T.e3, e4 := T.e4, e5 := T.e5,
                                                        e6 := T.e6, e7 := T.e7, ends := T.ends : Tb }.ring
                                                    j ≠
                                                  id) ∧
                                          (8 : Nat) - y < (8 : Nat) - x) ∧
                                        (↑x : Int) + (1 : Int) = (↑y : Int) ∧
                                          SBle
                                              (Tb.sb true
                                                { most := T.most, term := T.term, ss := [a, b, c, d], opened := T.opened, e0 := T.e0, e1 := T.e1, e2 := T.e2, e3 := T.e3, e4 := T.e4, e5 := T.e5,
                                                  e6 := T.e6, e7 := T.e7, ends := T.ends : Tb })
                                              (Tb.sb true
                                                { most := T.most, term := T.term, ss := [a, b, c, d], opened := T.opened, e0 := T.e0, e1 := T.e1, e2 := T.e2, e3 := T.e3, e4 := T.e4, e5 := T.e5,
                                                  e6 := T.e6, e7 := T.e7, ends := T.ends : Tb }) ∧
                                            True)) ∧
                        (decide ((↑x : Int) < min T.ends (8 : Int)) = false →
                          post (SV.tup [SV.int IntKind.i64 true (0 : Int), SV.int IntKind.i64 true (5 : Int)])
                            ({ most := T.most, term := T.term, ss := [a, b, c, d], opened := T.opened, e0 := T.e0, e1 := T.e1, e2 := T.e2, e3 := T.e3, e4 := T.e4, e5 := T.e5, e6 := T.e6, e7 := T.e7,
                                ends := T.ends : Tb },
                              (↑(4 : Nat) : Int)))))))) := by kernel_rfl
end Go.Proofs.Ytobbhdmbblhgaaa
