/-
  Conditions that the executor computes, written out by a program (vcgen.py).
-/
import Derived.Test.YtobbhdmbblhgaaaLsC
namespace Go.Proofs.Ytobbhdmbblhgaaa
open Go Sx

theorem vcStore0 (T : Tb) (id seq : Int) (text : List UInt8) (post : SV → Tb × Int → Prop) : VC.holds (runT 19 Try.f19 {T with ss := []} 0 [iv id, iv seq, .str false text] (postK post)) = (post (SV.int IntKind.i64 true (5 : Int))
  ({ most := T.most, term := T.term, ss := [Sl.zero, Sl.zero, Sl.zero, Sl.zero], opened := T.opened, e0 := T.e0, e1 := T.e1, e2 := T.e2, e3 := T.e3, e4 := T.e4, e5 := T.e5, e6 := T.e6, e7 := T.e7,
      ends := T.ends : Tb },
    (↑(0 : Nat) : Int))) := by kernel_rfl
theorem vcStore1 (T : Tb) (a : Sl) (id seq : Int) (text : List UInt8) (post : SV → Tb × Int → Prop) : VC.holds (runT 19 Try.f19 {T with ss := [a]} 0 [iv id, iv seq, .str false text] (postK post)) = ((decide (a.id = id) = true →
    (decide (seq ≤ a.last) = true →
        post (SV.int IntKind.i64 true (1 : Int))
          ({ most := T.most, term := T.term, ss := [a, Sl.zero, Sl.zero, Sl.zero], opened := T.opened, e0 := T.e0, e1 := T.e1, e2 := T.e2, e3 := T.e3, e4 := T.e4, e5 := T.e5, e6 := T.e6, e7 := T.e7,
              ends := T.ends : Tb },
            (↑(1 : Nat) : Int))) ∧
      (decide (seq ≤ a.last) = false →
        (decide (a.stored = (2 : Int)) = true →
            ((-9223372036854775808 : Int) ≤ a.stored - (1 : Int) ∧ a.stored - (1 : Int) ≤ (9223372036854775807 : Int)) ∧
              ((0 : Int) ≤ a.stored - (1 : Int) ∧ a.stored - (1 : Int) < (2 : Int)) ∧
                (True ∧
                    (a.stored - (1 : Int) = (0 : Int) →
                      ((-9223372036854775808 : Int) ≤ a.stored - (1 : Int) + (1 : Int) ∧ a.stored - (1 : Int) + (1 : Int) ≤ (9223372036854775807 : Int)) ∧
                        post (SV.int IntKind.i64 true (0 : Int))
                          ({ most := T.most, term := T.term,
                              ss :=
                                [{ id := a.id, block := a.block, dl := a.dl, last := seq, s0 := seq, r0 := text, s1 := a.s1, r1 := a.r1, stored := a.stored - (1 : Int) + (1 : Int) : Sl }, Sl.zero,
                                  Sl.zero, Sl.zero],
                              opened := T.opened, e0 := T.e0, e1 := T.e1, e2 := T.e2, e3 := T.e3, e4 := T.e4, e5 := T.e5, e6 := T.e6, e7 := T.e7, ends := T.ends : Tb },
                            (↑(1 : Nat) : Int)))) ∧
                  (a.stored - (1 : Int) = (1 : Int) →
                    ((-9223372036854775808 : Int) ≤ a.stored - (1 : Int) + (1 : Int) ∧ a.stored - (1 : Int) + (1 : Int) ≤ (9223372036854775807 : Int)) ∧
                      post (SV.int IntKind.i64 true (0 : Int))
                        ({ most := T.most, term := T.term,
                            ss :=
                              [{ id := a.id, block := a.block, dl := a.dl, last := seq, s0 := a.s1, r0 := a.r1, s1 := seq, r1 := text, stored := a.stored - (1 : Int) + (1 : Int) : Sl }, Sl.zero,
                                Sl.zero, Sl.zero],
                            opened := T.opened, e0 := T.e0, e1 := T.e1, e2 := T.e2, e3 := T.e3, e4 := T.e4, e5 := T.e5, e6 := T.e6, e7 := T.e7, ends := T.ends : Tb },
                          (↑(1 : Nat) : Int)))) ∧
          (decide (a.stored = (2 : Int)) = false →
            ((0 : Int) ≤ a.stored ∧ a.stored < (2 : Int)) ∧
              (True ∧
                  (a.stored = (0 : Int) →
                    ((-9223372036854775808 : Int) ≤ a.stored + (1 : Int) ∧ a.stored + (1 : Int) ≤ (9223372036854775807 : Int)) ∧
                      post (SV.int IntKind.i64 true (0 : Int))
                        ({ most := T.most, term := T.term,
                            ss :=
                              [{ id := a.id, block := a.block, dl := a.dl, last := seq, s0 := seq, r0 := text, s1 := a.s1, r1 := a.r1, stored := a.stored + (1 : Int) : Sl }, Sl.zero, Sl.zero,
                                Sl.zero],
                            opened := T.opened, e0 := T.e0, e1 := T.e1, e2 := T.e2, e3 := T.e3, e4 := T.e4, e5 := T.e5, e6 := T.e6, e7 := T.e7, ends := T.ends : Tb },
                          (↑(1 : Nat) : Int)))) ∧
                (a.stored = (1 : Int) →
                  ((-9223372036854775808 : Int) ≤ a.stored + (1 : Int) ∧ a.stored + (1 : Int) ≤ (9223372036854775807 : Int)) ∧
                    post (SV.int IntKind.i64 true (0 : Int))
                      ({ most := T.most, term := T.term,
                          ss :=
                            [{ id := a.id, block := a.block, dl := a.dl, last := seq, s0 := a.s0, r0 := a.r0, s1 := seq, r1 := text, stored := a.stored + (1 : Int) : Sl }, Sl.zero, Sl.zero, Sl.zero],
                          opened := T.opened, e0 := T.e0, e1 := T.e1, e2 := T.e2, e3 := T.e3, e4 := T.e4, e5 := T.e5, e6 := T.e6, e7 := T.e7, ends := T.ends : Tb },
                        (↑(1 : Nat) : Int)))))) ∧
  (decide (a.id = id) = false →
    post (SV.int IntKind.i64 true (5 : Int))
      ({ most := T.most, term := T.term, ss := [a, Sl.zero, Sl.zero, Sl.zero], opened := T.opened, e0 := T.e0, e1 := T.e1, e2 := T.e2, e3 := T.e3, e4 := T.e4, e5 := T.e5, e6 := T.e6, e7 := T.e7,
          ends := T.ends : Tb },
        (↑(1 : Nat) : Int)))) := by kernel_rfl
theorem vcStore2 (T : Tb) (a b : Sl) (id seq : Int) (text : List UInt8) (post : SV → Tb × Int → Prop) : VC.holds (runT 19 Try.f19 {T with ss := [a, b]} 0 [iv id, iv seq, .str false text] (postK post)) = ((decide (a.id = id) = true →
    (decide (seq ≤ a.last) = true →
        post (SV.int IntKind.i64 true (1 : Int))
          ({ most := T.most, term := T.term, ss := [a, b, Sl.zero, Sl.zero], opened := T.opened, e0 := T.e0, e1 := T.e1, e2 := T.e2, e3 := T.e3, e4 := T.e4, e5 := T.e5, e6 := T.e6, e7 := T.e7,
              ends := T.ends : Tb },
            (↑(2 : Nat) : Int))) ∧
      (decide (seq ≤ a.last) = false →
        (decide (a.stored = (2 : Int)) = true →
            ((-9223372036854775808 : Int) ≤ a.stored - (1 : Int) ∧ a.stored - (1 : Int) ≤ (9223372036854775807 : Int)) ∧
              ((0 : Int) ≤ a.stored - (1 : Int) ∧ a.stored - (1 : Int) < (2 : Int)) ∧
                (True ∧
                    (a.stored - (1 : Int) = (0 : Int) →
                      ((-9223372036854775808 : Int) ≤ a.stored - (1 : Int) + (1 : Int) ∧ a.stored - (1 : Int) + (1 : Int) ≤ (9223372036854775807 : Int)) ∧
                        post (SV.int IntKind.i64 true (0 : Int))
                          ({ most := T.most, term := T.term,
                              ss :=
                                [{ id := a.id, block := a.block, dl := a.dl, last := seq, s0 := seq, r0 := text, s1 := a.s1, r1 := a.r1, stored := a.stored - (1 : Int) + (1 : Int) : Sl }, b, Sl.zero,
                                  Sl.zero],
                              opened := T.opened, e0 := T.e0, e1 := T.e1, e2 := T.e2, e3 := T.e3, e4 := T.e4, e5 := T.e5, e6 := T.e6, e7 := T.e7, ends := T.ends : Tb },
                            (↑(2 : Nat) : Int)))) ∧
                  (a.stored - (1 : Int) = (1 : Int) →
                    ((-9223372036854775808 : Int) ≤ a.stored - (1 : Int) + (1 : Int) ∧ a.stored - (1 : Int) + (1 : Int) ≤ (9223372036854775807 : Int)) ∧
                      post (SV.int IntKind.i64 true (0 : Int))
                        ({ most := T.most, term := T.term,
                            ss :=
                              [{ id := a.id, block := a.block, dl := a.dl, last := seq, s0 := a.s1, r0 := a.r1, s1 := seq, r1 := text, stored := a.stored - (1 : Int) + (1 : Int) : Sl }, b, Sl.zero,
                                Sl.zero],
                            opened := T.opened, e0 := T.e0, e1 := T.e1, e2 := T.e2, e3 := T.e3, e4 := T.e4, e5 := T.e5, e6 := T.e6, e7 := T.e7, ends := T.ends : Tb },
                          (↑(2 : Nat) : Int)))) ∧
          (decide (a.stored = (2 : Int)) = false →
            ((0 : Int) ≤ a.stored ∧ a.stored < (2 : Int)) ∧
              (True ∧
                  (a.stored = (0 : Int) →
                    ((-9223372036854775808 : Int) ≤ a.stored + (1 : Int) ∧ a.stored + (1 : Int) ≤ (9223372036854775807 : Int)) ∧
                      post (SV.int IntKind.i64 true (0 : Int))
                        ({ most := T.most, term := T.term,
                            ss := [{ id := a.id, block := a.block, dl := a.dl, last := seq, s0 := seq, r0 := text, s1 := a.s1, r1 := a.r1, stored := a.stored + (1 : Int) : Sl }, b, Sl.zero, Sl.zero],
                            opened := T.opened, e0 := T.e0, e1 := T.e1, e2 := T.e2, e3 := T.e3, e4 := T.e4, e5 := T.e5, e6 := T.e6, e7 := T.e7, ends := T.ends : Tb },
                          (↑(2 : Nat) : Int)))) ∧
                (a.stored = (1 : Int) →
                  ((-9223372036854775808 : Int) ≤ a.stored + (1 : Int) ∧ a.stored + (1 : Int) ≤ (9223372036854775807 : Int)) ∧
                    post (SV.int IntKind.i64 true (0 : Int))
                      ({ most := T.most, term := T.term,
                          ss := [{ id := a.id, block := a.block, dl := a.dl, last := seq, s0 := a.s0, r0 := a.r0, s1 := seq, r1 := text, stored := a.stored + (1 : Int) : Sl }, b, Sl.zero, Sl.zero],
                          opened := T.opened, e0 := T.e0, e1 := T.e1, e2 := T.e2, e3 := T.e3, e4 := T.e4, e5 := T.e5, e6 := T.e6, e7 := T.e7, ends := T.ends : Tb },
                        (↑(2 : Nat) : Int)))))) ∧
  (decide (a.id = id) = false →
    (decide (b.id = id) = true →
        (decide (seq ≤ b.last) = true →
            post (SV.int IntKind.i64 true (1 : Int))
              ({ most := T.most, term := T.term, ss := [a, b, Sl.zero, Sl.zero], opened := T.opened, e0 := T.e0, e1 := T.e1, e2 := T.e2, e3 := T.e3, e4 := T.e4, e5 := T.e5, e6 := T.e6, e7 := T.e7,
                  ends := T.ends : Tb },
                (↑(2 : Nat) : Int))) ∧
          (decide (seq ≤ b.last) = false →
            (decide (b.stored = (2 : Int)) = true →
                ((-9223372036854775808 : Int) ≤ b.stored - (1 : Int) ∧ b.stored - (1 : Int) ≤ (9223372036854775807 : Int)) ∧
                  ((0 : Int) ≤ b.stored - (1 : Int) ∧ b.stored - (1 : Int) < (2 : Int)) ∧
                    (True ∧
                        (b.stored - (1 : Int) = (0 : Int) →
                          ((-9223372036854775808 : Int) ≤ b.stored - (1 : Int) + (1 : Int) ∧ b.stored - (1 : Int) + (1 : Int) ≤ (9223372036854775807 : Int)) ∧
                            post (SV.int IntKind.i64 true (0 : Int))
                              ({ most := T.most, term := T.term,
                                  ss :=
                                    [a, { id := b.id, block := b.block, dl := b.dl, last := seq, s0 := seq, r0 := text, s1 := b.s1, r1 := b.r1, stored := b.stored - (1 : Int) + (1 : Int) : Sl },
                                      Sl.zero, Sl.zero],
                                  opened := T.opened, e0 := T.e0, e1 := T.e1, e2 := T.e2, e3 := T.e3, e4 := T.e4, e5 := T.e5, e6 := T.e6, e7 := T.e7, ends := T.ends : Tb },
                                (↑(2 : Nat) : Int)))) ∧
                      (b.stored - (1 : Int) = (1 : Int) →
                        ((-9223372036854775808 : Int) ≤ b.stored - (1 : Int) + (1 : Int) ∧ b.stored - (1 : Int) + (1 : Int) ≤ (9223372036854775807 : Int)) ∧
                          post (SV.int IntKind.i64 true (0 : Int))
                            ({ most := T.most, term := T.term,
                                ss :=
                                  [a, { id := b.id, block := b.block, dl := b.dl, last := seq, s0 := b.s1, r0 := b.r1, s1 := seq, r1 := text, stored := b.stored - (1 : Int) + (1 : Int) : Sl },
                                    Sl.zero, Sl.zero],
                                opened := T.opened, e0 := T.e0, e1 := T.e1, e2 := T.e2, e3 := T.e3, e4 := T.e4, e5 := T.e5, e6 := T.e6, e7 := T.e7, ends := T.ends : Tb },
                              (↑(2 : Nat) : Int)))) ∧
              (decide (b.stored = (2 : Int)) = false →
                ((0 : Int) ≤ b.stored ∧ b.stored < (2 : Int)) ∧
                  (True ∧
                      (b.stored = (0 : Int) →
                        ((-9223372036854775808 : Int) ≤ b.stored + (1 : Int) ∧ b.stored + (1 : Int) ≤ (9223372036854775807 : Int)) ∧
                          post (SV.int IntKind.i64 true (0 : Int))
                            ({ most := T.most, term := T.term,
                                ss :=
                                  [a, { id := b.id, block := b.block, dl := b.dl, last := seq, s0 := seq, r0 := text, s1 := b.s1, r1 := b.r1, stored := b.stored + (1 : Int) : Sl }, Sl.zero, Sl.zero],
                                opened := T.opened, e0 := T.e0, e1 := T.e1, e2 := T.e2, e3 := T.e3, e4 := T.e4, e5 := T.e5, e6 := T.e6, e7 := T.e7, ends := T.ends : Tb },
                              (↑(2 : Nat) : Int)))) ∧
                    (b.stored = (1 : Int) →
                      ((-9223372036854775808 : Int) ≤ b.stored + (1 : Int) ∧ b.stored + (1 : Int) ≤ (9223372036854775807 : Int)) ∧
                        post (SV.int IntKind.i64 true (0 : Int))
                          ({ most := T.most, term := T.term,
                              ss :=
                                [a, { id := b.id, block := b.block, dl := b.dl, last := seq, s0 := b.s0, r0 := b.r0, s1 := seq, r1 := text, stored := b.stored + (1 : Int) : Sl }, Sl.zero, Sl.zero],
                              opened := T.opened, e0 := T.e0, e1 := T.e1, e2 := T.e2, e3 := T.e3, e4 := T.e4, e5 := T.e5, e6 := T.e6, e7 := T.e7, ends := T.ends : Tb },
                            (↑(2 : Nat) : Int)))))) ∧
      (decide (b.id = id) = false →
        post (SV.int IntKind.i64 true (5 : Int))
          ({ most := T.most, term := T.term, ss := [a, b, Sl.zero, Sl.zero], opened := T.opened, e0 := T.e0, e1 := T.e1, e2 := T.e2, e3 := T.e3, e4 := T.e4, e5 := T.e5, e6 := T.e6, e7 := T.e7,
              ends := T.ends : Tb },
            (↑(2 : Nat) : Int))))) := by kernel_rfl
theorem vcStore3 (T : Tb) (a b c : Sl) (id seq : Int) (text : List UInt8) (post : SV → Tb × Int → Prop) : VC.holds (runT 19 Try.f19 {T with ss := [a, b, c]} 0 [iv id, iv seq, .str false text] (postK post)) = ((decide (a.id = id) = true →
    (decide (seq ≤ a.last) = true →
        post (SV.int IntKind.i64 true (1 : Int))
          ({ most := T.most, term := T.term, ss := [a, b, c, Sl.zero], opened := T.opened, e0 := T.e0, e1 := T.e1, e2 := T.e2, e3 := T.e3, e4 := T.e4, e5 := T.e5, e6 := T.e6, e7 := T.e7,
              ends := T.ends : Tb },
            (↑(3 : Nat) : Int))) ∧
      (decide (seq ≤ a.last) = false →
        (decide (a.stored = (2 : Int)) = true →
            ((-9223372036854775808 : Int) ≤ a.stored - (1 : Int) ∧ a.stored - (1 : Int) ≤ (9223372036854775807 : Int)) ∧
              ((0 : Int) ≤ a.stored - (1 : Int) ∧ a.stored - (1 : Int) < (2 : Int)) ∧
                (True ∧
                    (a.stored - (1 : Int) = (0 : Int) →
                      ((-9223372036854775808 : Int) ≤ a.stored - (1 : Int) + (1 : Int) ∧ a.stored - (1 : Int) + (1 : Int) ≤ (9223372036854775807 : Int)) ∧
                        post (SV.int IntKind.i64 true (0 : Int))
                          ({ most := T.most, term := T.term,
                              ss :=
                                [{ id := a.id, block := a.block, dl := a.dl, last := seq, s0 := seq, r0 := text, s1 := a.s1, r1 := a.r1, stored := a.stored - (1 : Int) + (1 : Int) : Sl }, b, c,
                                  Sl.zero],
                              opened := T.opened, e0 := T.e0, e1 := T.e1, e2 := T.e2, e3 := T.e3, e4 := T.e4, e5 := T.e5, e6 := T.e6, e7 := T.e7, ends := T.ends : Tb },
                            (↑(3 : Nat) : Int)))) ∧
                  (a.stored - (1 : Int) = (1 : Int) →
                    ((-9223372036854775808 : Int) ≤ a.stored - (1 : Int) + (1 : Int) ∧ a.stored - (1 : Int) + (1 : Int) ≤ (9223372036854775807 : Int)) ∧
                      post (SV.int IntKind.i64 true (0 : Int))
                        ({ most := T.most, term := T.term,
                            ss :=
                              [{ id := a.id, block := a.block, dl := a.dl, last := seq, s0 := a.s1, r0 := a.r1, s1 := seq, r1 := text, stored := a.stored - (1 : Int) + (1 : Int) : Sl }, b, c,
                                Sl.zero],
                            opened := T.opened, e0 := T.e0, e1 := T.e1, e2 := T.e2, e3 := T.e3, e4 := T.e4, e5 := T.e5, e6 := T.e6, e7 := T.e7, ends := T.ends : Tb },
                          (↑(3 : Nat) : Int)))) ∧
          (decide (a.stored = (2 : Int)) = false →
            ((0 : Int) ≤ a.stored ∧ a.stored < (2 : Int)) ∧
              (True ∧
                  (a.stored = (0 : Int) →
                    ((-9223372036854775808 : Int) ≤ a.stored + (1 : Int) ∧ a.stored + (1 : Int) ≤ (9223372036854775807 : Int)) ∧
                      post (SV.int IntKind.i64 true (0 : Int))
                        ({ most := T.most, term := T.term,
                            ss := [{ id := a.id, block := a.block, dl := a.dl, last := seq, s0 := seq, r0 := text, s1 := a.s1, r1 := a.r1, stored := a.stored + (1 : Int) : Sl }, b, c, Sl.zero],
                            opened := T.opened, e0 := T.e0, e1 := T.e1, e2 := T.e2, e3 := T.e3, e4 := T.e4, e5 := T.e5, e6 := T.e6, e7 := T.e7, ends := T.ends : Tb },
                          (↑(3 : Nat) : Int)))) ∧
                (a.stored = (1 : Int) →
                  ((-9223372036854775808 : Int) ≤ a.stored + (1 : Int) ∧ a.stored + (1 : Int) ≤ (9223372036854775807 : Int)) ∧
                    post (SV.int IntKind.i64 true (0 : Int))
                      ({ most := T.most, term := T.term,
                          ss := [{ id := a.id, block := a.block, dl := a.dl, last := seq, s0 := a.s0, r0 := a.r0, s1 := seq, r1 := text, stored := a.stored + (1 : Int) : Sl }, b, c, Sl.zero],
                          opened := T.opened, e0 := T.e0, e1 := T.e1, e2 := T.e2, e3 := T.e3, e4 := T.e4, e5 := T.e5, e6 := T.e6, e7 := T.e7, ends := T.ends : Tb },
                        (↑(3 : Nat) : Int)))))) ∧
  (decide (a.id = id) = false →
    (decide (b.id = id) = true →
        (decide (seq ≤ b.last) = true →
            post (SV.int IntKind.i64 true (1 : Int))
              ({ most := T.most, term := T.term, ss := [a, b, c, Sl.zero], opened := T.opened, e0 := T.e0, e1 := T.e1, e2 := T.e2, e3 := T.e3, e4 := T.e4, e5 := T.e5, e6 := T.e6, e7 := T.e7,
                  ends := T.ends : Tb },
                (↑(3 : Nat) : Int))) ∧
          (decide (seq ≤ b.last) = false →
            (decide (b.stored = (2 : Int)) = true →
                ((-9223372036854775808 : Int) ≤ b.stored - (1 : Int) ∧ b.stored - (1 : Int) ≤ (9223372036854775807 : Int)) ∧
                  ((0 : Int) ≤ b.stored - (1 : Int) ∧ b.stored - (1 : Int) < (2 : Int)) ∧
                    (True ∧
                        (b.stored - (1 : Int) = (0 : Int) →
                          ((-9223372036854775808 : Int) ≤ b.stored - (1 : Int) + (1 : Int) ∧ b.stored - (1 : Int) + (1 : Int) ≤ (9223372036854775807 : Int)) ∧
                            post (SV.int IntKind.i64 true (0 : Int))
                              ({ most := T.most, term := T.term,
                                  ss :=
                                    [a, { id := b.id, block := b.block, dl := b.dl, last := seq, s0 := seq, r0 := text, s1 := b.s1, r1 := b.r1, stored := b.stored - (1 : Int) + (1 : Int) : Sl }, c,
                                      Sl.zero],
                                  opened := T.opened, e0 := T.e0, e1 := T.e1, e2 := T.e2, e3 := T.e3, e4 := T.e4, e5 := T.e5, e6 := T.e6, e7 := T.e7, ends := T.ends : Tb },
                                (↑(3 : Nat) : Int)))) ∧
                      (b.stored - (1 : Int) = (1 : Int) →
                        ((-9223372036854775808 : Int) ≤ b.stored - (1 : Int) + (1 : Int) ∧ b.stored - (1 : Int) + (1 : Int) ≤ (9223372036854775807 : Int)) ∧
                          post (SV.int IntKind.i64 true (0 : Int))
                            ({ most := T.most, term := T.term,
                                ss :=
                                  [a, { id := b.id, block := b.block, dl := b.dl, last := seq, s0 := b.s1, r0 := b.r1, s1 := seq, r1 := text, stored := b.stored - (1 : Int) + (1 : Int) : Sl }, c,
                                    Sl.zero],
                                opened := T.opened, e0 := T.e0, e1 := T.e1, e2 := T.e2, e3 := T.e3, e4 := T.e4, e5 := T.e5, e6 := T.e6, e7 := T.e7, ends := T.ends : Tb },
                              (↑(3 : Nat) : Int)))) ∧
              (decide (b.stored = (2 : Int)) = false →
                ((0 : Int) ≤ b.stored ∧ b.stored < (2 : Int)) ∧
                  (True ∧
                      (b.stored = (0 : Int) →
                        ((-9223372036854775808 : Int) ≤ b.stored + (1 : Int) ∧ b.stored + (1 : Int) ≤ (9223372036854775807 : Int)) ∧
                          post (SV.int IntKind.i64 true (0 : Int))
                            ({ most := T.most, term := T.term,
                                ss := [a, { id := b.id, block := b.block, dl := b.dl, last := seq, s0 := seq, r0 := text, s1 := b.s1, r1 := b.r1, stored := b.stored + (1 : Int) : Sl }, c, Sl.zero],
                                opened := T.opened, e0 := T.e0, e1 := T.e1, e2 := T.e2, e3 := T.e3, e4 := T.e4, e5 := T.e5, e6 := T.e6, e7 := T.e7, ends := T.ends : Tb },
                              (↑(3 : Nat) : Int)))) ∧
                    (b.stored = (1 : Int) →
                      ((-9223372036854775808 : Int) ≤ b.stored + (1 : Int) ∧ b.stored + (1 : Int) ≤ (9223372036854775807 : Int)) ∧
                        post (SV.int IntKind.i64 true (0 : Int))
                          ({ most := T.most, term := T.term,
                              ss := [a, { id := b.id, block := b.block, dl := b.dl, last := seq, s0 := b.s0, r0 := b.r0, s1 := seq, r1 := text, stored := b.stored + (1 : Int) : Sl }, c, Sl.zero],
                              opened := T.opened, e0 := T.e0, e1 := T.e1, e2 := T.e2, e3 := T.e3, e4 := T.e4, e5 := T.e5, e6 := T.e6, e7 := T.e7, ends := T.ends : Tb },
                            (↑(3 : Nat) : Int)))))) ∧
      (decide (b.id = id) = false →
        (decide (c.id = id) = true →
            (decide (seq ≤ c.last) = true →
                post (SV.int IntKind.i64 true (1 : Int))
                  ({ most := T.most, term := T.term, ss := [a, b, c, Sl.zero], opened := T.opened, e0 := T.e0, e1 := T.e1, e2 := T.e2, e3 := T.e3, e4 := T.e4, e5 := T.e5, e6 := T.e6, e7 := T.e7,
                      ends := T.ends : Tb },
                    (↑(3 : Nat) : Int))) ∧
              (decide (seq ≤ c.last) = false →
                (decide (c.stored = (2 : Int)) = true →
                    ((-9223372036854775808 : Int) ≤ c.stored - (1 : Int) ∧ c.stored - (1 : Int) ≤ (9223372036854775807 : Int)) ∧
                      ((0 : Int) ≤ c.stored - (1 : Int) ∧ c.stored - (1 : Int) < (2 : Int)) ∧
                        (True ∧
                            (c.stored - (1 : Int) = (0 : Int) →
                              ((-9223372036854775808 : Int) ≤ c.stored - (1 : Int) + (1 : Int) ∧ c.stored - (1 : Int) + (1 : Int) ≤ (9223372036854775807 : Int)) ∧
                                post (SV.int IntKind.i64 true (0 : Int))
                                  ({ most := T.most, term := T.term,
                                      ss :=
                                        [a, b,
                                          { id := c.id, block := c.block, dl := c.dl, last := seq, s0 := seq, r0 := text, s1 := c.s1, r1 := c.r1, stored := c.stored - (1 : Int) + (1 : Int) : Sl },
                                          Sl.zero],
                                      opened := T.opened, e0 := T.e0, e1 := T.e1, e2 := T.e2, e3 := T.e3, e4 := T.e4, e5 := T.e5, e6 := T.e6, e7 := T.e7, ends := T.ends : Tb },
                                    (↑(3 : Nat) : Int)))) ∧
                          (c.stored - (1 : Int) = (1 : Int) →
                            ((-9223372036854775808 : Int) ≤ c.stored - (1 : Int) + (1 : Int) ∧ c.stored - (1 : Int) + (1 : Int) ≤ (9223372036854775807 : Int)) ∧
                              post (SV.int IntKind.i64 true (0 : Int))
                                ({ most := T.most, term := T.term,
                                    ss :=
                                      [a, b, { id := c.id, block := c.block, dl := c.dl, last := seq, s0 := c.s1, r0 := c.r1, s1 := seq, r1 := text, stored := c.stored - (1 : Int) + (1 : Int) : Sl },
                                        Sl.zero],
                                    opened := T.opened, e0 := T.e0, e1 := T.e1, e2 := T.e2, e3 := T.e3, e4 := T.e4, e5 := T.e5, e6 := T.e6, e7 := T.e7, ends := T.ends : Tb },
                                  (↑(3 : Nat) : Int)))) ∧
                  (decide (c.stored = (2 : Int)) = false →
                    ((0 : Int) ≤ c.stored ∧ c.stored < (2 : Int)) ∧
                      (True ∧
                          (c.stored = (0 : Int) →
                            ((-9223372036854775808 : Int) ≤ c.stored + (1 : Int) ∧ c.stored + (1 : Int) ≤ (9223372036854775807 : Int)) ∧
                              post (SV.int IntKind.i64 true (0 : Int))
                                ({ most := T.most, term := T.term,
                                    ss :=
                                      [a, b, { id := c.id, block := c.block, dl := c.dl, last := seq, s0 := seq, r0 := text, s1 := c.s1, r1 := c.r1, stored := c.stored + (1 : Int) : Sl }, Sl.zero],
                                    opened := T.opened, e0 := T.e0, e1 := T.e1, e2 := T.e2, e3 := T.e3, e4 := T.e4, e5 := T.e5, e6 := T.e6, e7 := T.e7, ends := T.ends : Tb },
                                  (↑(3 : Nat) : Int)))) ∧
                        (c.stored = (1 : Int) →
                          ((-9223372036854775808 : Int) ≤ c.stored + (1 : Int) ∧ c.stored + (1 : Int) ≤ (9223372036854775807 : Int)) ∧
                            post (SV.int IntKind.i64 true (0 : Int))
                              ({ most := T.most, term := T.term,
                                  ss := [a, b, { id := c.id, block := c.block, dl := c.dl, last := seq, s0 := c.s0, r0 := c.r0, s1 := seq, r1 := text, stored := c.stored + (1 : Int) : Sl }, Sl.zero],
                                  opened := T.opened, e0 := T.e0, e1 := T.e1, e2 := T.e2, e3 := T.e3, e4 := T.e4, e5 := T.e5, e6 := T.e6, e7 := T.e7, ends := T.ends : Tb },
                                (↑(3 : Nat) : Int)))))) ∧
          (decide (c.id = id) = false →
            post (SV.int IntKind.i64 true (5 : Int))
              ({ most := T.most, term := T.term, ss := [a, b, c, Sl.zero], opened := T.opened, e0 := T.e0, e1 := T.e1, e2 := T.e2, e3 := T.e3, e4 := T.e4, e5 := T.e5, e6 := T.e6, e7 := T.e7,
                  ends := T.ends : Tb },
                (↑(3 : Nat) : Int)))))) := by kernel_rfl
theorem vcStore4 (T : Tb) (a b c d : Sl) (id seq : Int) (text : List UInt8) (post : SV → Tb × Int → Prop) : VC.holds (runT 19 Try.f19 {T with ss := [a, b, c, d]} 0 [iv id, iv seq, .str false text] (postK post)) = ((decide (a.id = id) = true →
    (decide (seq ≤ a.last) = true →
        post (SV.int IntKind.i64 true (1 : Int))
          ({ most := T.most, term := T.term, ss := [a, b, c, d], opened := T.opened, e0 := T.e0, e1 := T.e1, e2 := T.e2, e3 := T.e3, e4 := T.e4, e5 := T.e5, e6 := T.e6, e7 := T.e7, ends := T.ends :
              Tb },
            (↑(4 : Nat) : Int))) ∧
      (decide (seq ≤ a.last) = false →
        (decide (a.stored = (2 : Int)) = true →
            ((-9223372036854775808 : Int) ≤ a.stored - (1 : Int) ∧ a.stored - (1 : Int) ≤ (9223372036854775807 : Int)) ∧
              ((0 : Int) ≤ a.stored - (1 : Int) ∧ a.stored - (1 : Int) < (2 : Int)) ∧
                (True ∧
                    (a.stored - (1 : Int) = (0 : Int) →
                      ((-9223372036854775808 : Int) ≤ a.stored - (1 : Int) + (1 : Int) ∧ a.stored - (1 : Int) + (1 : Int) ≤ (9223372036854775807 : Int)) ∧
                        post (SV.int IntKind.i64 true (0 : Int))
                          ({ most := T.most, term := T.term,
                              ss :=
                                [{ id := a.id, block := a.block, dl := a.dl, last := seq, s0 := seq, r0 := text, s1 := a.s1, r1 := a.r1, stored := a.stored - (1 : Int) + (1 : Int) : Sl }, b, c, d],
                              opened := T.opened, e0 := T.e0, e1 := T.e1, e2 := T.e2, e3 := T.e3, e4 := T.e4, e5 := T.e5, e6 := T.e6, e7 := T.e7, ends := T.ends : Tb },
                            (↑(4 : Nat) : Int)))) ∧
                  (a.stored - (1 : Int) = (1 : Int) →
                    ((-9223372036854775808 : Int) ≤ a.stored - (1 : Int) + (1 : Int) ∧ a.stored - (1 : Int) + (1 : Int) ≤ (9223372036854775807 : Int)) ∧
                      post (SV.int IntKind.i64 true (0 : Int))
                        ({ most := T.most, term := T.term,
                            ss := [{ id := a.id, block := a.block, dl := a.dl, last := seq, s0 := a.s1, r0 := a.r1, s1 := seq, r1 := text, stored := a.stored - (1 : Int) + (1 : Int) : Sl }, b, c, d],
                            opened := T.opened, e0 := T.e0, e1 := T.e1, e2 := T.e2, e3 := T.e3, e4 := T.e4, e5 := T.e5, e6 := T.e6, e7 := T.e7, ends := T.ends : Tb },
                          (↑(4 : Nat) : Int)))) ∧
          (decide (a.stored = (2 : Int)) = false →
            ((0 : Int) ≤ a.stored ∧ a.stored < (2 : Int)) ∧
              (True ∧
                  (a.stored = (0 : Int) →
                    ((-9223372036854775808 : Int) ≤ a.stored + (1 : Int) ∧ a.stored + (1 : Int) ≤ (9223372036854775807 : Int)) ∧
                      post (SV.int IntKind.i64 true (0 : Int))
                        ({ most := T.most, term := T.term,
                            ss := [{ id := a.id, block := a.block, dl := a.dl, last := seq, s0 := seq, r0 := text, s1 := a.s1, r1 := a.r1, stored := a.stored + (1 : Int) : Sl }, b, c, d],
                            opened := T.opened, e0 := T.e0, e1 := T.e1, e2 := T.e2, e3 := T.e3, e4 := T.e4, e5 := T.e5, e6 := T.e6, e7 := T.e7, ends := T.ends : Tb },
                          (↑(4 : Nat) : Int)))) ∧
                (a.stored = (1 : Int) →
                  ((-9223372036854775808 : Int) ≤ a.stored + (1 : Int) ∧ a.stored + (1 : Int) ≤ (9223372036854775807 : Int)) ∧
                    post (SV.int IntKind.i64 true (0 : Int))
                      ({ most := T.most, term := T.term,
                          ss := [{ id := a.id, block := a.block, dl := a.dl, last := seq, s0 := a.s0, r0 := a.r0, s1 := seq, r1 := text, stored := a.stored + (1 : Int) : Sl }, b, c, d],
                          opened := T.opened, e0 := T.e0, e1 := T.e1, e2 := T.e2, e3 := T.e3, e4 := T.e4, e5 := T.e5, e6 := T.e6, e7 := T.e7, ends := T.ends : Tb },
                        (↑(4 : Nat) : Int)))))) ∧
  (decide (a.id = id) = false →
    (decide (b.id = id) = true →
        (decide (seq ≤ b.last) = true →
            post (SV.int IntKind.i64 true (1 : Int))
              ({ most := T.most, term := T.term, ss := [a, b, c, d], opened := T.opened, e0 := T.e0, e1 := T.e1, e2 := T.e2, e3 := T.e3, e4 := T.e4, e5 := T.e5, e6 := T.e6, e7 := T.e7,
                  ends := T.ends : Tb },
                (↑(4 : Nat) : Int))) ∧
          (decide (seq ≤ b.last) = false →
            (decide (b.stored = (2 : Int)) = true →
                ((-9223372036854775808 : Int) ≤ b.stored - (1 : Int) ∧ b.stored - (1 : Int) ≤ (9223372036854775807 : Int)) ∧
                  ((0 : Int) ≤ b.stored - (1 : Int) ∧ b.stored - (1 : Int) < (2 : Int)) ∧
                    (True ∧
                        (b.stored - (1 : Int) = (0 : Int) →
                          ((-9223372036854775808 : Int) ≤ b.stored - (1 : Int) + (1 : Int) ∧ b.stored - (1 : Int) + (1 : Int) ≤ (9223372036854775807 : Int)) ∧
                            post (SV.int IntKind.i64 true (0 : Int))
                              ({ most := T.most, term := T.term,
                                  ss :=
                                    [a, { id := b.id, block := b.block, dl := b.dl, last := seq, s0 := seq, r0 := text, s1 := b.s1, r1 := b.r1, stored := b.stored - (1 : Int) + (1 : Int) : Sl }, c,
                                      d],
                                  opened := T.opened, e0 := T.e0, e1 := T.e1, e2 := T.e2, e3 := T.e3, e4 := T.e4, e5 := T.e5, e6 := T.e6, e7 := T.e7, ends := T.ends : Tb },
                                (↑(4 : Nat) : Int)))) ∧
                      (b.stored - (1 : Int) = (1 : Int) →
                        ((-9223372036854775808 : Int) ≤ b.stored - (1 : Int) + (1 : Int) ∧ b.stored - (1 : Int) + (1 : Int) ≤ (9223372036854775807 : Int)) ∧
                          post (SV.int IntKind.i64 true (0 : Int))
                            ({ most := T.most, term := T.term,
                                ss :=
                                  [a, { id := b.id, block := b.block, dl := b.dl, last := seq, s0 := b.s1, r0 := b.r1, s1 := seq, r1 := text, stored := b.stored - (1 : Int) + (1 : Int) : Sl }, c, d],
                                opened := T.opened, e0 := T.e0, e1 := T.e1, e2 := T.e2, e3 := T.e3, e4 := T.e4, e5 := T.e5, e6 := T.e6, e7 := T.e7, ends := T.ends : Tb },
                              (↑(4 : Nat) : Int)))) ∧
              (decide (b.stored = (2 : Int)) = false →
                ((0 : Int) ≤ b.stored ∧ b.stored < (2 : Int)) ∧
                  (True ∧
                      (b.stored = (0 : Int) →
                        ((-9223372036854775808 : Int) ≤ b.stored + (1 : Int) ∧ b.stored + (1 : Int) ≤ (9223372036854775807 : Int)) ∧
                          post (SV.int IntKind.i64 true (0 : Int))
                            ({ most := T.most, term := T.term,
                                ss := [a, { id := b.id, block := b.block, dl := b.dl, last := seq, s0 := seq, r0 := text, s1 := b.s1, r1 := b.r1, stored := b.stored + (1 : Int) : Sl }, c, d],
                                opened := T.opened, e0 := T.e0, e1 := T.e1, e2 := T.e2, e3 := T.e3, e4 := T.e4, e5 := T.e5, e6 := T.e6, e7 := T.e7, ends := T.ends : Tb },
                              (↑(4 : Nat) : Int)))) ∧
                    (b.stored = (1 : Int) →
                      ((-9223372036854775808 : Int) ≤ b.stored + (1 : Int) ∧ b.stored + (1 : Int) ≤ (9223372036854775807 : Int)) ∧
                        post (SV.int IntKind.i64 true (0 : Int))
                          ({ most := T.most, term := T.term,
                              ss := [a, { id := b.id, block := b.block, dl := b.dl, last := seq, s0 := b.s0, r0 := b.r0, s1 := seq, r1 := text, stored := b.stored + (1 : Int) : Sl }, c, d],
                              opened := T.opened, e0 := T.e0, e1 := T.e1, e2 := T.e2, e3 := T.e3, e4 := T.e4, e5 := T.e5, e6 := T.e6, e7 := T.e7, ends := T.ends : Tb },
                            (↑(4 : Nat) : Int)))))) ∧
      (decide (b.id = id) = false →
        (decide (c.id = id) = true →
            (decide (seq ≤ c.last) = true →
                post (SV.int IntKind.i64 true (1 : Int))
                  ({ most := T.most, term := T.term, ss := [a, b, c, d], opened := T.opened, e0 := T.e0, e1 := T.e1, e2 := T.e2, e3 := T.e3, e4 := T.e4, e5 := T.e5, e6 := T.e6, e7 := T.e7,
                      ends := T.ends : Tb },
                    (↑(4 : Nat) : Int))) ∧
              (decide (seq ≤ c.last) = false →
                (decide (c.stored = (2 : Int)) = true →
                    ((-9223372036854775808 : Int) ≤ c.stored - (1 : Int) ∧ c.stored - (1 : Int) ≤ (9223372036854775807 : Int)) ∧
                      ((0 : Int) ≤ c.stored - (1 : Int) ∧ c.stored - (1 : Int) < (2 : Int)) ∧
                        (True ∧
                            (c.stored - (1 : Int) = (0 : Int) →
                              ((-9223372036854775808 : Int) ≤ c.stored - (1 : Int) + (1 : Int) ∧ c.stored - (1 : Int) + (1 : Int) ≤ (9223372036854775807 : Int)) ∧
                                post (SV.int IntKind.i64 true (0 : Int))
                                  ({ most := T.most, term := T.term,
                                      ss :=
                                        [a, b,
                                          { id := c.id, block := c.block, dl := c.dl, last := seq, s0 := seq, r0 := text, s1 := c.s1, r1 := c.r1, stored := c.stored - (1 : Int) + (1 : Int) : Sl }, d],
                                      opened := T.opened, e0 := T.e0, e1 := T.e1, e2 := T.e2, e3 := T.e3, e4 := T.e4, e5 := T.e5, e6 := T.e6, e7 := T.e7, ends := T.ends : Tb },
                                    (↑(4 : Nat) : Int)))) ∧
                          (c.stored - (1 : Int) = (1 : Int) →
                            ((-9223372036854775808 : Int) ≤ c.stored - (1 : Int) + (1 : Int) ∧ c.stored - (1 : Int) + (1 : Int) ≤ (9223372036854775807 : Int)) ∧
                              post (SV.int IntKind.i64 true (0 : Int))
                                ({ most := T.most, term := T.term,
                                    ss :=
                                      [a, b, { id := c.id, block := c.block, dl := c.dl, last := seq, s0 := c.s1, r0 := c.r1, s1 := seq, r1 := text, stored := c.stored - (1 : Int) + (1 : Int) : Sl },
                                        d],
                                    opened := T.opened, e0 := T.e0, e1 := T.e1, e2 := T.e2, e3 := T.e3, e4 := T.e4, e5 := T.e5, e6 := T.e6, e7 := T.e7, ends := T.ends : Tb },
                                  (↑(4 : Nat) : Int)))) ∧
                  (decide (c.stored = (2 : Int)) = false →
                    ((0 : Int) ≤ c.stored ∧ c.stored < (2 : Int)) ∧
                      (True ∧
                          (c.stored = (0 : Int) →
                            ((-9223372036854775808 : Int) ≤ c.stored + (1 : Int) ∧ c.stored + (1 : Int) ≤ (9223372036854775807 : Int)) ∧
                              post (SV.int IntKind.i64 true (0 : Int))
                                ({ most := T.most, term := T.term,
                                    ss := [a, b, { id := c.id, block := c.block, dl := c.dl, last := seq, s0 := seq, r0 := text, s1 := c.s1, r1 := c.r1, stored := c.stored + (1 : Int) : Sl }, d],
                                    opened := T.opened, e0 := T.e0, e1 := T.e1, e2 := T.e2, e3 := T.e3, e4 := T.e4, e5 := T.e5, e6 := T.e6, e7 := T.e7, ends := T.ends : Tb },
                                  (↑(4 : Nat) : Int)))) ∧
                        (c.stored = (1 : Int) →
                          ((-9223372036854775808 : Int) ≤ c.stored + (1 : Int) ∧ c.stored + (1 : Int) ≤ (9223372036854775807 : Int)) ∧
                            post (SV.int IntKind.i64 true (0 : Int))
                              ({ most := T.most, term := T.term,
                                  ss := [a, b, { id := c.id, block := c.block, dl := c.dl, last := seq, s0 := c.s0, r0 := c.r0, s1 := seq, r1 := text, stored := c.stored + (1 : Int) : Sl }, d],
                                  opened := T.opened, e0 := T.e0, e1 := T.e1, e2 := T.e2, e3 := T.e3, e4 := T.e4, e5 := T.e5, e6 := T.e6, e7 := T.e7, ends := T.ends : Tb },
                                (↑(4 : Nat) : Int)))))) ∧
          (decide (c.id = id) = false →
            (decide (d.id = id) = true →
                (decide (seq ≤ d.last) = true →
                    post (SV.int IntKind.i64 true (1 : Int))
                      ({ most := T.most, term := T.term, ss := [a, b, c, d], opened := T.opened, e0 := T.e0, e1 := T.e1, e2 := T.e2, e3 := T.e3, e4 := T.e4, e5 := T.e5, e6 := T.e6, e7 := T.e7,
                          ends := T.ends : Tb },
                        (↑(4 : Nat) : Int))) ∧
                  (decide (seq ≤ d.last) = false →
                    (decide (d.stored = (2 : Int)) = true →
                        ((-9223372036854775808 : Int) ≤ d.stored - (1 : Int) ∧ d.stored - (1 : Int) ≤ (9223372036854775807 : Int)) ∧
                          ((0 : Int) ≤ d.stored - (1 : Int) ∧ d.stored - (1 : Int) < (2 : Int)) ∧
                            (True ∧
                                (d.stored - (1 : Int) = (0 : Int) →
                                  ((-9223372036854775808 : Int) ≤ d.stored - (1 : Int) + (1 : Int) ∧ d.stored - (1 : Int) + (1 : Int) ≤ (9223372036854775807 : Int)) ∧
                                    post (SV.int IntKind.i64 true (0 : Int))
                                      ({ most := T.most, term := T.term,
                                          ss :=
                                            [a, b, c,
                                              { id := d.id, block := d.block, dl := d.dl, last := seq, s0 := seq, r0 := text, s1 := d.s1, r1 := d.r1, stored := d.stored - (1 : Int) + (1 : Int) :
                                                Sl }],
                                          opened := T.opened, e0 := T.e0, e1 := T.e1, e2 := T.e2, e3 := T.e3, e4 := T.e4, e5 := T.e5, e6 := T.e6, e7 := T.e7, ends := T.ends : Tb },
                                        (↑(4 : Nat) : Int)))) ∧
                              (d.stored - (1 : Int) = (1 : Int) →
                                ((-9223372036854775808 : Int) ≤ d.stored - (1 : Int) + (1 : Int) ∧ d.stored - (1 : Int) + (1 : Int) ≤ (9223372036854775807 : Int)) ∧
                                  post (SV.int IntKind.i64 true (0 : Int))
                                    ({ most := T.most, term := T.term,
                                        ss :=
                                          [a, b, c,
                                            { id := d.id, block := d.block, dl := d.dl, last := seq, s0 := d.s1, r0 := d.r1, s1 := seq, r1 := text, stored := d.stored - (1 : Int) + (1 : Int) : Sl }],
                                        opened := T.opened, e0 := T.e0, e1 := T.e1, e2 := T.e2, e3 := T.e3, e4 := T.e4, e5 := T.e5, e6 := T.e6, e7 := T.e7, ends := T.ends : Tb },
                                      (↑(4 : Nat) : Int)))) ∧
                      (decide (d.stored = (2 : Int)) = false →
                        ((0 : Int) ≤ d.stored ∧ d.stored < (2 : Int)) ∧
                          (True ∧
                              (d.stored = (0 : Int) →
                                ((-9223372036854775808 : Int) ≤ d.stored + (1 : Int) ∧ d.stored + (1 : Int) ≤ (9223372036854775807 : Int)) ∧
                                  post (SV.int IntKind.i64 true (0 : Int))
                                    ({ most := T.most, term := T.term,
                                        ss := [a, b, c, { id := d.id, block := d.block, dl := d.dl, last := seq, s0 := seq, r0 := text, s1 := d.s1, r1 := d.r1, stored := d.stored + (1 : Int) : Sl }],
                                        opened := T.opened, e0 := T.e0, e1 := T.e1, e2 := T.e2, e3 := T.e3, e4 := T.e4, e5 := T.e5, e6 := T.e6, e7 := T.e7, ends := T.ends : Tb },
                                      (↑(4 : Nat) : Int)))) ∧
                            (d.stored = (1 : Int) →
                              ((-9223372036854775808 : Int) ≤ d.stored + (1 : Int) ∧ d.stored + (1 : Int) ≤ (9223372036854775807 : Int)) ∧
                                post (SV.int IntKind.i64 true (0 : Int))
                                  ({ most := T.most, term := T.term,
                                      ss := [a, b, c, { id := d.id, block := d.block, dl := d.dl, last := seq, s0 := d.s0, r0 := d.r0, s1 := seq, r1 := text, stored := d.stored + (1 : Int) : Sl }],
                                      opened := T.opened, e0 := T.e0, e1 := T.e1, e2 := T.e2, e3 := T.e3, e4 := T.e4, e5 := T.e5, e6 := T.e6, e7 := T.e7, ends := T.ends : Tb },
                                    (↑(4 : Nat) : Int)))))) ∧
              (decide (d.id = id) = false →
                post (SV.int IntKind.i64 true (5 : Int))
                  ({ most := T.most, term := T.term, ss := [a, b, c, d], opened := T.opened, e0 := T.e0, e1 := T.e1, e2 := T.e2, e3 := T.e3, e4 := T.e4, e5 := T.e5, e6 := T.e6, e7 := T.e7,
                      ends := T.ends : Tb },
                    (↑(4 : Nat) : Int))))))) := by kernel_rfl
theorem vcReplay0 (T : Tb) (id seq : Int) (post : SV → Tb × Int → Prop) : VC.holds (runT 18 Try.f18 {T with ss := []} 0 [iv id, iv seq] (postK post)) = (post (SV.tup [SV.str true [], SV.int IntKind.i64 true (5 : Int)])
  ({ most := T.most, term := T.term, ss := [Sl.zero, Sl.zero, Sl.zero, Sl.zero], opened := T.opened, e0 := T.e0, e1 := T.e1, e2 := T.e2, e3 := T.e3, e4 := T.e4, e5 := T.e5, e6 := T.e6, e7 := T.e7,
      ends := T.ends : Tb },
    (↑(0 : Nat) : Int))) := by kernel_rfl
theorem vcReplay1 (T : Tb) (a : Sl) (id seq : Int) (post : SV → Tb × Int → Prop) : VC.holds (runT 18 Try.f18 {T with ss := [a]} 0 [iv id, iv seq] (postK post)) = ((decide (a.id = id) = true →
    (decide (a.last < seq) = true →
        post (SV.tup [SV.str true [], SV.int IntKind.i64 true (9 : Int)])
          ({ most := T.most, term := T.term, ss := [a, Sl.zero, Sl.zero, Sl.zero], opened := T.opened, e0 := T.e0, e1 := T.e1, e2 := T.e2, e3 := T.e3, e4 := T.e4, e5 := T.e5, e6 := T.e6, e7 := T.e7,
              ends := T.ends : Tb },
            (↑(1 : Nat) : Int))) ∧
      (decide (a.last < seq) = false →
        (decide ((0 : Int) < a.stored) = true →
            (decide (a.s0 = seq) = true →
                post (SV.tup [SV.str false a.r0, SV.int IntKind.i64 true (0 : Int)])
                  ({ most := T.most, term := T.term, ss := [a, Sl.zero, Sl.zero, Sl.zero], opened := T.opened, e0 := T.e0, e1 := T.e1, e2 := T.e2, e3 := T.e3, e4 := T.e4, e5 := T.e5, e6 := T.e6,
                      e7 := T.e7, ends := T.ends : Tb },
                    (↑(1 : Nat) : Int))) ∧
              (decide (a.s0 = seq) = false →
                (decide ((1 : Int) < a.stored) = true →
                    (decide (a.s1 = seq) = true →
                        post (SV.tup [SV.str false a.r1, SV.int IntKind.i64 true (0 : Int)])
                          ({ most := T.most, term := T.term, ss := [a, Sl.zero, Sl.zero, Sl.zero], opened := T.opened, e0 := T.e0, e1 := T.e1, e2 := T.e2, e3 := T.e3, e4 := T.e4, e5 := T.e5,
                              e6 := T.e6, e7 := T.e7, ends := T.ends : Tb },
                            (↑(1 : Nat) : Int))) ∧
                      (decide (a.s1 = seq) = false →
                        (decide ((2 : Int) < a.stored) = true → False) ∧
                          (decide ((2 : Int) < a.stored) = false →
                            post (SV.tup [SV.str true [], SV.int IntKind.i64 true (7 : Int)])
                              ({ most := T.most, term := T.term, ss := [a, Sl.zero, Sl.zero, Sl.zero], opened := T.opened, e0 := T.e0, e1 := T.e1, e2 := T.e2, e3 := T.e3, e4 := T.e4, e5 := T.e5,
                                  e6 := T.e6, e7 := T.e7, ends := T.ends : Tb },
                                (↑(1 : Nat) : Int))))) ∧
                  (decide ((1 : Int) < a.stored) = false →
                    post (SV.tup [SV.str true [], SV.int IntKind.i64 true (7 : Int)])
                      ({ most := T.most, term := T.term, ss := [a, Sl.zero, Sl.zero, Sl.zero], opened := T.opened, e0 := T.e0, e1 := T.e1, e2 := T.e2, e3 := T.e3, e4 := T.e4, e5 := T.e5, e6 := T.e6,
                          e7 := T.e7, ends := T.ends : Tb },
                        (↑(1 : Nat) : Int))))) ∧
          (decide ((0 : Int) < a.stored) = false →
            post (SV.tup [SV.str true [], SV.int IntKind.i64 true (7 : Int)])
              ({ most := T.most, term := T.term, ss := [a, Sl.zero, Sl.zero, Sl.zero], opened := T.opened, e0 := T.e0, e1 := T.e1, e2 := T.e2, e3 := T.e3, e4 := T.e4, e5 := T.e5, e6 := T.e6,
                  e7 := T.e7, ends := T.ends : Tb },
                (↑(1 : Nat) : Int))))) ∧
  (decide (a.id = id) = false →
    post (SV.tup [SV.str true [], SV.int IntKind.i64 true (5 : Int)])
      ({ most := T.most, term := T.term, ss := [a, Sl.zero, Sl.zero, Sl.zero], opened := T.opened, e0 := T.e0, e1 := T.e1, e2 := T.e2, e3 := T.e3, e4 := T.e4, e5 := T.e5, e6 := T.e6, e7 := T.e7,
          ends := T.ends : Tb },
        (↑(1 : Nat) : Int)))) := by kernel_rfl
theorem vcReplay2 (T : Tb) (a b : Sl) (id seq : Int) (post : SV → Tb × Int → Prop) : VC.holds (runT 18 Try.f18 {T with ss := [a, b]} 0 [iv id, iv seq] (postK post)) = ((decide (a.id = id) = true →
    (decide (a.last < seq) = true →
        post (SV.tup [SV.str true [], SV.int IntKind.i64 true (9 : Int)])
          ({ most := T.most, term := T.term, ss := [a, b, Sl.zero, Sl.zero], opened := T.opened, e0 := T.e0, e1 := T.e1, e2 := T.e2, e3 := T.e3, e4 := T.e4, e5 := T.e5, e6 := T.e6, e7 := T.e7,
              ends := T.ends : Tb },
            (↑(2 : Nat) : Int))) ∧
      (decide (a.last < seq) = false →
        (decide ((0 : Int) < a.stored) = true →
            (decide (a.s0 = seq) = true →
                post (SV.tup [SV.str false a.r0, SV.int IntKind.i64 true (0 : Int)])
                  ({ most := T.most, term := T.term, ss := [a, b, Sl.zero, Sl.zero], opened := T.opened, e0 := T.e0, e1 := T.e1, e2 := T.e2, e3 := T.e3, e4 := T.e4, e5 := T.e5, e6 := T.e6, e7 := T.e7,
                      ends := T.ends : Tb },
                    (↑(2 : Nat) : Int))) ∧
              (decide (a.s0 = seq) = false →
                (decide ((1 : Int) < a.stored) = true →
                    (decide (a.s1 = seq) = true →
                        post (SV.tup [SV.str false a.r1, SV.int IntKind.i64 true (0 : Int)])
                          ({ most := T.most, term := T.term, ss := [a, b, Sl.zero, Sl.zero], opened := T.opened, e0 := T.e0, e1 := T.e1, e2 := T.e2, e3 := T.e3, e4 := T.e4, e5 := T.e5, e6 := T.e6,
                              e7 := T.e7, ends := T.ends : Tb },
                            (↑(2 : Nat) : Int))) ∧
                      (decide (a.s1 = seq) = false →
                        (decide ((2 : Int) < a.stored) = true → False) ∧
                          (decide ((2 : Int) < a.stored) = false →
                            post (SV.tup [SV.str true [], SV.int IntKind.i64 true (7 : Int)])
                              ({ most := T.most, term := T.term, ss := [a, b, Sl.zero, Sl.zero], opened := T.opened, e0 := T.e0, e1 := T.e1, e2 := T.e2, e3 := T.e3, e4 := T.e4, e5 := T.e5, e6 := T.e6,
                                  e7 := T.e7, ends := T.ends : Tb },
                                (↑(2 : Nat) : Int))))) ∧
                  (decide ((1 : Int) < a.stored) = false →
                    post (SV.tup [SV.str true [], SV.int IntKind.i64 true (7 : Int)])
                      ({ most := T.most, term := T.term, ss := [a, b, Sl.zero, Sl.zero], opened := T.opened, e0 := T.e0, e1 := T.e1, e2 := T.e2, e3 := T.e3, e4 := T.e4, e5 := T.e5, e6 := T.e6,
                          e7 := T.e7, ends := T.ends : Tb },
                        (↑(2 : Nat) : Int))))) ∧
          (decide ((0 : Int) < a.stored) = false →
            post (SV.tup [SV.str true [], SV.int IntKind.i64 true (7 : Int)])
              ({ most := T.most, term := T.term, ss := [a, b, Sl.zero, Sl.zero], opened := T.opened, e0 := T.e0, e1 := T.e1, e2 := T.e2, e3 := T.e3, e4 := T.e4, e5 := T.e5, e6 := T.e6, e7 := T.e7,
                  ends := T.ends : Tb },
                (↑(2 : Nat) : Int))))) ∧
  (decide (a.id = id) = false →
    (decide (b.id = id) = true →
        (decide (b.last < seq) = true →
            post (SV.tup [SV.str true [], SV.int IntKind.i64 true (9 : Int)])
              ({ most := T.most, term := T.term, ss := [a, b, Sl.zero, Sl.zero], opened := T.opened, e0 := T.e0, e1 := T.e1, e2 := T.e2, e3 := T.e3, e4 := T.e4, e5 := T.e5, e6 := T.e6, e7 := T.e7,
                  ends := T.ends : Tb },
                (↑(2 : Nat) : Int))) ∧
          (decide (b.last < seq) = false →
            (decide ((0 : Int) < b.stored) = true →
                (decide (b.s0 = seq) = true →
                    post (SV.tup [SV.str false b.r0, SV.int IntKind.i64 true (0 : Int)])
                      ({ most := T.most, term := T.term, ss := [a, b, Sl.zero, Sl.zero], opened := T.opened, e0 := T.e0, e1 := T.e1, e2 := T.e2, e3 := T.e3, e4 := T.e4, e5 := T.e5, e6 := T.e6,
                          e7 := T.e7, ends := T.ends : Tb },
                        (↑(2 : Nat) : Int))) ∧
                  (decide (b.s0 = seq) = false →
                    (decide ((1 : Int) < b.stored) = true →
                        (decide (b.s1 = seq) = true →
                            post (SV.tup [SV.str false b.r1, SV.int IntKind.i64 true (0 : Int)])
                              ({ most := T.most, term := T.term, ss := [a, b, Sl.zero, Sl.zero], opened := T.opened, e0 := T.e0, e1 := T.e1, e2 := T.e2, e3 := T.e3, e4 := T.e4, e5 := T.e5, e6 := T.e6,
                                  e7 := T.e7, ends := T.ends : Tb },
                                (↑(2 : Nat) : Int))) ∧
                          (decide (b.s1 = seq) = false →
                            (decide ((2 : Int) < b.stored) = true → False) ∧
                              (decide ((2 : Int) < b.stored) = false →
                                post (SV.tup [SV.str true [], SV.int IntKind.i64 true (7 : Int)])
                                  ({ most := T.most, term := T.term, ss := [a, b, Sl.zero, Sl.zero], opened := T.opened, e0 := T.e0, e1 := T.e1, e2 := T.e2, e3 := T.e3, e4 := T.e4, e5 := T.e5,
                                      e6 := T.e6, e7 := T.e7, ends := T.ends : Tb },
                                    (↑(2 : Nat) : Int))))) ∧
                      (decide ((1 : Int) < b.stored) = false →
                        post (SV.tup [SV.str true [], SV.int IntKind.i64 true (7 : Int)])
                          ({ most := T.most, term := T.term, ss := [a, b, Sl.zero, Sl.zero], opened := T.opened, e0 := T.e0, e1 := T.e1, e2 := T.e2, e3 := T.e3, e4 := T.e4, e5 := T.e5, e6 := T.e6,
                              e7 := T.e7, ends := T.ends : Tb },
                            (↑(2 : Nat) : Int))))) ∧
              (decide ((0 : Int) < b.stored) = false →
                post (SV.tup [SV.str true [], SV.int IntKind.i64 true (7 : Int)])
                  ({ most := T.most, term := T.term, ss := [a, b, Sl.zero, Sl.zero], opened := T.opened, e0 := T.e0, e1 := T.e1, e2 := T.e2, e3 := T.e3, e4 := T.e4, e5 := T.e5, e6 := T.e6, e7 := T.e7,
                      ends := T.ends : Tb },
                    (↑(2 : Nat) : Int))))) ∧
      (decide (b.id = id) = false →
        post (SV.tup [SV.str true [], SV.int IntKind.i64 true (5 : Int)])
          ({ most := T.most, term := T.term, ss := [a, b, Sl.zero, Sl.zero], opened := T.opened, e0 := T.e0, e1 := T.e1, e2 := T.e2, e3 := T.e3, e4 := T.e4, e5 := T.e5, e6 := T.e6, e7 := T.e7,
              ends := T.ends : Tb },
            (↑(2 : Nat) : Int))))) := by kernel_rfl
theorem vcReplay3 (T : Tb) (a b c : Sl) (id seq : Int) (post : SV → Tb × Int → Prop) : VC.holds (runT 18 Try.f18 {T with ss := [a, b, c]} 0 [iv id, iv seq] (postK post)) = ((decide (a.id = id) = true →
    (decide (a.last < seq) = true →
        post (SV.tup [SV.str true [], SV.int IntKind.i64 true (9 : Int)])
          ({ most := T.most, term := T.term, ss := [a, b, c, Sl.zero], opened := T.opened, e0 := T.e0, e1 := T.e1, e2 := T.e2, e3 := T.e3, e4 := T.e4, e5 := T.e5, e6 := T.e6, e7 := T.e7,
              ends := T.ends : Tb },
            (↑(3 : Nat) : Int))) ∧
      (decide (a.last < seq) = false →
        (decide ((0 : Int) < a.stored) = true →
            (decide (a.s0 = seq) = true →
                post (SV.tup [SV.str false a.r0, SV.int IntKind.i64 true (0 : Int)])
                  ({ most := T.most, term := T.term, ss := [a, b, c, Sl.zero], opened := T.opened, e0 := T.e0, e1 := T.e1, e2 := T.e2, e3 := T.e3, e4 := T.e4, e5 := T.e5, e6 := T.e6, e7 := T.e7,
                      ends := T.ends : Tb },
                    (↑(3 : Nat) : Int))) ∧
              (decide (a.s0 = seq) = false →
                (decide ((1 : Int) < a.stored) = true →
                    (decide (a.s1 = seq) = true →
                        post (SV.tup [SV.str false a.r1, SV.int IntKind.i64 true (0 : Int)])
                          ({ most := T.most, term := T.term, ss := [a, b, c, Sl.zero], opened := T.opened, e0 := T.e0, e1 := T.e1, e2 := T.e2, e3 := T.e3, e4 := T.e4, e5 := T.e5, e6 := T.e6,
                              e7 := T.e7, ends := T.ends : Tb },
                            (↑(3 : Nat) : Int))) ∧
                      (decide (a.s1 = seq) = false →
                        (decide ((2 : Int) < a.stored) = true → False) ∧
                          (decide ((2 : Int) < a.stored) = false →
                            post (SV.tup [SV.str true [], SV.int IntKind.i64 true (7 : Int)])
                              ({ most := T.most, term := T.term, ss := [a, b, c, Sl.zero], opened := T.opened, e0 := T.e0, e1 := T.e1, e2 := T.e2, e3 := T.e3, e4 := T.e4, e5 := T.e5, e6 := T.e6,
                                  e7 := T.e7, ends := T.ends : Tb },
                                (↑(3 : Nat) : Int))))) ∧
                  (decide ((1 : Int) < a.stored) = false →
                    post (SV.tup [SV.str true [], SV.int IntKind.i64 true (7 : Int)])
                      ({ most := T.most, term := T.term, ss := [a, b, c, Sl.zero], opened := T.opened, e0 := T.e0, e1 := T.e1, e2 := T.e2, e3 := T.e3, e4 := T.e4, e5 := T.e5, e6 := T.e6, e7 := T.e7,
                          ends := T.ends : Tb },
                        (↑(3 : Nat) : Int))))) ∧
          (decide ((0 : Int) < a.stored) = false →
            post (SV.tup [SV.str true [], SV.int IntKind.i64 true (7 : Int)])
              ({ most := T.most, term := T.term, ss := [a, b, c, Sl.zero], opened := T.opened, e0 := T.e0, e1 := T.e1, e2 := T.e2, e3 := T.e3, e4 := T.e4, e5 := T.e5, e6 := T.e6, e7 := T.e7,
                  ends := T.ends : Tb },
                (↑(3 : Nat) : Int))))) ∧
  (decide (a.id = id) = false →
    (decide (b.id = id) = true →
        (decide (b.last < seq) = true →
            post (SV.tup [SV.str true [], SV.int IntKind.i64 true (9 : Int)])
              ({ most := T.most, term := T.term, ss := [a, b, c, Sl.zero], opened := T.opened, e0 := T.e0, e1 := T.e1, e2 := T.e2, e3 := T.e3, e4 := T.e4, e5 := T.e5, e6 := T.e6, e7 := T.e7,
                  ends := T.ends : Tb },
                (↑(3 : Nat) : Int))) ∧
          (decide (b.last < seq) = false →
            (decide ((0 : Int) < b.stored) = true →
                (decide (b.s0 = seq) = true →
                    post (SV.tup [SV.str false b.r0, SV.int IntKind.i64 true (0 : Int)])
                      ({ most := T.most, term := T.term, ss := [a, b, c, Sl.zero], opened := T.opened, e0 := T.e0, e1 := T.e1, e2 := T.e2, e3 := T.e3, e4 := T.e4, e5 := T.e5, e6 := T.e6, e7 := T.e7,
                          ends := T.ends : Tb },
                        (↑(3 : Nat) : Int))) ∧
                  (decide (b.s0 = seq) = false →
                    (decide ((1 : Int) < b.stored) = true →
                        (decide (b.s1 = seq) = true →
                            post (SV.tup [SV.str false b.r1, SV.int IntKind.i64 true (0 : Int)])
                              ({ most := T.most, term := T.term, ss := [a, b, c, Sl.zero], opened := T.opened, e0 := T.e0, e1 := T.e1, e2 := T.e2, e3 := T.e3, e4 := T.e4, e5 := T.e5, e6 := T.e6,
                                  e7 := T.e7, ends := T.ends : Tb },
                                (↑(3 : Nat) : Int))) ∧
                          (decide (b.s1 = seq) = false →
                            (decide ((2 : Int) < b.stored) = true → False) ∧
                              (decide ((2 : Int) < b.stored) = false →
                                post (SV.tup [SV.str true [], SV.int IntKind.i64 true (7 : Int)])
                                  ({ most := T.most, term := T.term, ss := [a, b, c, Sl.zero], opened := T.opened, e0 := T.e0, e1 := T.e1, e2 := T.e2, e3 := T.e3, e4 := T.e4, e5 := T.e5, e6 := T.e6,
                                      e7 := T.e7, ends := T.ends : Tb },
                                    (↑(3 : Nat) : Int))))) ∧
                      (decide ((1 : Int) < b.stored) = false →
                        post (SV.tup [SV.str true [], SV.int IntKind.i64 true (7 : Int)])
                          ({ most := T.most, term := T.term, ss := [a, b, c, Sl.zero], opened := T.opened, e0 := T.e0, e1 := T.e1, e2 := T.e2, e3 := T.e3, e4 := T.e4, e5 := T.e5, e6 := T.e6,
                              e7 := T.e7, ends := T.ends : Tb },
                            (↑(3 : Nat) : Int))))) ∧
              (decide ((0 : Int) < b.stored) = false →
                post (SV.tup [SV.str true [], SV.int IntKind.i64 true (7 : Int)])
                  ({ most := T.most, term := T.term, ss := [a, b, c, Sl.zero], opened := T.opened, e0 := T.e0, e1 := T.e1, e2 := T.e2, e3 := T.e3, e4 := T.e4, e5 := T.e5, e6 := T.e6, e7 := T.e7,
                      ends := T.ends : Tb },
                    (↑(3 : Nat) : Int))))) ∧
      (decide (b.id = id) = false →
        (decide (c.id = id) = true →
            (decide (c.last < seq) = true →
                post (SV.tup [SV.str true [], SV.int IntKind.i64 true (9 : Int)])
                  ({ most := T.most, term := T.term, ss := [a, b, c, Sl.zero], opened := T.opened, e0 := T.e0, e1 := T.e1, e2 := T.e2, e3 := T.e3, e4 := T.e4, e5 := T.e5, e6 := T.e6, e7 := T.e7,
                      ends := T.ends : Tb },
                    (↑(3 : Nat) : Int))) ∧
              (decide (c.last < seq) = false →
                (decide ((0 : Int) < c.stored) = true →
                    (decide (c.s0 = seq) = true →
                        post (SV.tup [SV.str false c.r0, SV.int IntKind.i64 true (0 : Int)])
                          ({ most := T.most, term := T.term, ss := [a, b, c, Sl.zero], opened := T.opened, e0 := T.e0, e1 := T.e1, e2 := T.e2, e3 := T.e3, e4 := T.e4, e5 := T.e5, e6 := T.e6,
                              e7 := T.e7, ends := T.ends : Tb },
                            (↑(3 : Nat) : Int))) ∧
                      (decide (c.s0 = seq) = false →
                        (decide ((1 : Int) < c.stored) = true →
                            (decide (c.s1 = seq) = true →
                                post (SV.tup [SV.str false c.r1, SV.int IntKind.i64 true (0 : Int)])
                                  ({ most := T.most, term := T.term, ss := [a, b, c, Sl.zero], opened := T.opened, e0 := T.e0, e1 := T.e1, e2 := T.e2, e3 := T.e3, e4 := T.e4, e5 := T.e5, e6 := T.e6,
                                      e7 := T.e7, ends := T.ends : Tb },
                                    (↑(3 : Nat) : Int))) ∧
                              (decide (c.s1 = seq) = false →
                                (decide ((2 : Int) < c.stored) = true → False) ∧
                                  (decide ((2 : Int) < c.stored) = false →
                                    post (SV.tup [SV.str true [], SV.int IntKind.i64 true (7 : Int)])
                                      ({ most := T.most, term := T.term, ss := [a, b, c, Sl.zero], opened := T.opened, e0 := T.e0, e1 := T.e1, e2 := T.e2, e3 := T.e3, e4 := T.e4, e5 := T.e5,
                                          e6 := T.e6, e7 := T.e7, ends := T.ends : Tb },
                                        (↑(3 : Nat) : Int))))) ∧
                          (decide ((1 : Int) < c.stored) = false →
                            post (SV.tup [SV.str true [], SV.int IntKind.i64 true (7 : Int)])
                              ({ most := T.most, term := T.term, ss := [a, b, c, Sl.zero], opened := T.opened, e0 := T.e0, e1 := T.e1, e2 := T.e2, e3 := T.e3, e4 := T.e4, e5 := T.e5, e6 := T.e6,
                                  e7 := T.e7, ends := T.ends : Tb },
                                (↑(3 : Nat) : Int))))) ∧
                  (decide ((0 : Int) < c.stored) = false →
                    post (SV.tup [SV.str true [], SV.int IntKind.i64 true (7 : Int)])
                      ({ most := T.most, term := T.term, ss := [a, b, c, Sl.zero], opened := T.opened, e0 := T.e0, e1 := T.e1, e2 := T.e2, e3 := T.e3, e4 := T.e4, e5 := T.e5, e6 := T.e6, e7 := T.e7,
                          ends := T.ends : Tb },
                        (↑(3 : Nat) : Int))))) ∧
          (decide (c.id = id) = false →
            post (SV.tup [SV.str true [], SV.int IntKind.i64 true (5 : Int)])
              ({ most := T.most, term := T.term, ss := [a, b, c, Sl.zero], opened := T.opened, e0 := T.e0, e1 := T.e1, e2 := T.e2, e3 := T.e3, e4 := T.e4, e5 := T.e5, e6 := T.e6, e7 := T.e7,
                  ends := T.ends : Tb },
                (↑(3 : Nat) : Int)))))) := by kernel_rfl
theorem vcReplay4 (T : Tb) (a b c d : Sl) (id seq : Int) (post : SV → Tb × Int → Prop) : VC.holds (runT 18 Try.f18 {T with ss := [a, b, c, d]} 0 [iv id, iv seq] (postK post)) = ((decide (a.id = id) = true →
    (decide (a.last < seq) = true →
        post (SV.tup [SV.str true [], SV.int IntKind.i64 true (9 : Int)])
          ({ most := T.most, term := T.term, ss := [a, b, c, d], opened := T.opened, e0 := T.e0, e1 := T.e1, e2 := T.e2, e3 := T.e3, e4 := T.e4, e5 := T.e5, e6 := T.e6, e7 := T.e7, ends := T.ends :
              Tb },
            (↑(4 : Nat) : Int))) ∧
      (decide (a.last < seq) = false →
        (decide ((0 : Int) < a.stored) = true →
            (decide (a.s0 = seq) = true →
                post (SV.tup [SV.str false a.r0, SV.int IntKind.i64 true (0 : Int)])
                  ({ most := T.most, term := T.term, ss := [a, b, c, d], opened := T.opened, e0 := T.e0, e1 := T.e1, e2 := T.e2, e3 := T.e3, e4 := T.e4, e5 := T.e5, e6 := T.e6, e7 := T.e7,
                      ends := T.ends : Tb },
                    (↑(4 : Nat) : Int))) ∧
              (decide (a.s0 = seq) = false →
                (decide ((1 : Int) < a.stored) = true →
                    (decide (a.s1 = seq) = true →
                        post (SV.tup [SV.str false a.r1, SV.int IntKind.i64 true (0 : Int)])
                          ({ most := T.most, term := T.term, ss := [a, b, c, d], opened := T.opened, e0 := T.e0, e1 := T.e1, e2 := T.e2, e3 := T.e3, e4 := T.e4, e5 := T.e5, e6 := T.e6, e7 := T.e7,
                              ends := T.ends : Tb },
                            (↑(4 : Nat) : Int))) ∧
                      (decide (a.s1 = seq) = false →
                        (decide ((2 : Int) < a.stored) = true → False) ∧
                          (decide ((2 : Int) < a.stored) = false →
                            post (SV.tup [SV.str true [], SV.int IntKind.i64 true (7 : Int)])
                              ({ most := T.most, term := T.term, ss := [a, b, c, d], opened := T.opened, e0 := T.e0, e1 := T.e1, e2 := T.e2, e3 := T.e3, e4 := T.e4, e5 := T.e5, e6 := T.e6, e7 := T.e7,
                                  ends := T.ends : Tb },
                                (↑(4 : Nat) : Int))))) ∧
                  (decide ((1 : Int) < a.stored) = false →
                    post (SV.tup [SV.str true [], SV.int IntKind.i64 true (7 : Int)])
                      ({ most := T.most, term := T.term, ss := [a, b, c, d], opened := T.opened, e0 := T.e0, e1 := T.e1, e2 := T.e2, e3 := T.e3, e4 := T.e4, e5 := T.e5, e6 := T.e6, e7 := T.e7,
                          ends := T.ends : Tb },
                        (↑(4 : Nat) : Int))))) ∧
          (decide ((0 : Int) < a.stored) = false →
            post (SV.tup [SV.str true [], SV.int IntKind.i64 true (7 : Int)])
              ({ most := T.most, term := T.term, ss := [a, b, c, d], opened := T.opened, e0 := T.e0, e1 := T.e1, e2 := T.e2, e3 := T.e3, e4 := T.e4, e5 := T.e5, e6 := T.e6, e7 := T.e7,
                  ends := T.ends : Tb },
                (↑(4 : Nat) : Int))))) ∧
  (decide (a.id = id) = false →
    (decide (b.id = id) = true →
        (decide (b.last < seq) = true →
            post (SV.tup [SV.str true [], SV.int IntKind.i64 true (9 : Int)])
              ({ most := T.most, term := T.term, ss := [a, b, c, d], opened := T.opened, e0 := T.e0, e1 := T.e1, e2 := T.e2, e3 := T.e3, e4 := T.e4, e5 := T.e5, e6 := T.e6, e7 := T.e7,
                  ends := T.ends : Tb },
                (↑(4 : Nat) : Int))) ∧
          (decide (b.last < seq) = false →
            (decide ((0 : Int) < b.stored) = true →
                (decide (b.s0 = seq) = true →
                    post (SV.tup [SV.str false b.r0, SV.int IntKind.i64 true (0 : Int)])
                      ({ most := T.most, term := T.term, ss := [a, b, c, d], opened := T.opened, e0 := T.e0, e1 := T.e1, e2 := T.e2, e3 := T.e3, e4 := T.e4, e5 := T.e5, e6 := T.e6, e7 := T.e7,
                          ends := T.ends : Tb },
                        (↑(4 : Nat) : Int))) ∧
                  (decide (b.s0 = seq) = false →
                    (decide ((1 : Int) < b.stored) = true →
                        (decide (b.s1 = seq) = true →
                            post (SV.tup [SV.str false b.r1, SV.int IntKind.i64 true (0 : Int)])
                              ({ most := T.most, term := T.term, ss := [a, b, c, d], opened := T.opened, e0 := T.e0, e1 := T.e1, e2 := T.e2, e3 := T.e3, e4 := T.e4, e5 := T.e5, e6 := T.e6, e7 := T.e7,
                                  ends := T.ends : Tb },
                                (↑(4 : Nat) : Int))) ∧
                          (decide (b.s1 = seq) = false →
                            (decide ((2 : Int) < b.stored) = true → False) ∧
                              (decide ((2 : Int) < b.stored) = false →
                                post (SV.tup [SV.str true [], SV.int IntKind.i64 true (7 : Int)])
                                  ({ most := T.most, term := T.term, ss := [a, b, c, d], opened := T.opened, e0 := T.e0, e1 := T.e1, e2 := T.e2, e3 := T.e3, e4 := T.e4, e5 := T.e5, e6 := T.e6,
                                      e7 := T.e7, ends := T.ends : Tb },
                                    (↑(4 : Nat) : Int))))) ∧
                      (decide ((1 : Int) < b.stored) = false →
                        post (SV.tup [SV.str true [], SV.int IntKind.i64 true (7 : Int)])
                          ({ most := T.most, term := T.term, ss := [a, b, c, d], opened := T.opened, e0 := T.e0, e1 := T.e1, e2 := T.e2, e3 := T.e3, e4 := T.e4, e5 := T.e5, e6 := T.e6, e7 := T.e7,
                              ends := T.ends : Tb },
                            (↑(4 : Nat) : Int))))) ∧
              (decide ((0 : Int) < b.stored) = false →
                post (SV.tup [SV.str true [], SV.int IntKind.i64 true (7 : Int)])
                  ({ most := T.most, term := T.term, ss := [a, b, c, d], opened := T.opened, e0 := T.e0, e1 := T.e1, e2 := T.e2, e3 := T.e3, e4 := T.e4, e5 := T.e5, e6 := T.e6, e7 := T.e7,
                      ends := T.ends : Tb },
                    (↑(4 : Nat) : Int))))) ∧
      (decide (b.id = id) = false →
        (decide (c.id = id) = true →
            (decide (c.last < seq) = true →
                post (SV.tup [SV.str true [], SV.int IntKind.i64 true (9 : Int)])
                  ({ most := T.most, term := T.term, ss := [a, b, c, d], opened := T.opened, e0 := T.e0, e1 := T.e1, e2 := T.e2, e3 := T.e3, e4 := T.e4, e5 := T.e5, e6 := T.e6, e7 := T.e7,
                      ends := T.ends : Tb },
                    (↑(4 : Nat) : Int))) ∧
              (decide (c.last < seq) = false →
                (decide ((0 : Int) < c.stored) = true →
                    (decide (c.s0 = seq) = true →
                        post (SV.tup [SV.str false c.r0, SV.int IntKind.i64 true (0 : Int)])
                          ({ most := T.most, term := T.term, ss := [a, b, c, d], opened := T.opened, e0 := T.e0, e1 := T.e1, e2 := T.e2, e3 := T.e3, e4 := T.e4, e5 := T.e5, e6 := T.e6, e7 := T.e7,
                              ends := T.ends : Tb },
                            (↑(4 : Nat) : Int))) ∧
                      (decide (c.s0 = seq) = false →
                        (decide ((1 : Int) < c.stored) = true →
                            (decide (c.s1 = seq) = true →
                                post (SV.tup [SV.str false c.r1, SV.int IntKind.i64 true (0 : Int)])
                                  ({ most := T.most, term := T.term, ss := [a, b, c, d], opened := T.opened, e0 := T.e0, e1 := T.e1, e2 := T.e2, e3 := T.e3, e4 := T.e4, e5 := T.e5, e6 := T.e6,
                                      e7 := T.e7, ends := T.ends : Tb },
                                    (↑(4 : Nat) : Int))) ∧
                              (decide (c.s1 = seq) = false →
                                (decide ((2 : Int) < c.stored) = true → False) ∧
                                  (decide ((2 : Int) < c.stored) = false →
                                    post (SV.tup [SV.str true [], SV.int IntKind.i64 true (7 : Int)])
                                      ({ most := T.most, term := T.term, ss := [a, b, c, d], opened := T.opened, e0 := T.e0, e1 := T.e1, e2 := T.e2, e3 := T.e3, e4 := T.e4, e5 := T.e5, e6 := T.e6,
                                          e7 := T.e7, ends := T.ends : Tb },
                                        (↑(4 : Nat) : Int))))) ∧
                          (decide ((1 : Int) < c.stored) = false →
                            post (SV.tup [SV.str true [], SV.int IntKind.i64 true (7 : Int)])
                              ({ most := T.most, term := T.term, ss := [a, b, c, d], opened := T.opened, e0 := T.e0, e1 := T.e1, e2 := T.e2, e3 := T.e3, e4 := T.e4, e5 := T.e5, e6 := T.e6, e7 := T.e7,
                                  ends := T.ends : Tb },
                                (↑(4 : Nat) : Int))))) ∧
                  (decide ((0 : Int) < c.stored) = false →
                    post (SV.tup [SV.str true [], SV.int IntKind.i64 true (7 : Int)])
                      ({ most := T.most, term := T.term, ss := [a, b, c, d], opened := T.opened, e0 := T.e0, e1 := T.e1, e2 := T.e2, e3 := T.e3, e4 := T.e4, e5 := T.e5, e6 := T.e6, e7 := T.e7,
                          ends := T.ends : Tb },
                        (↑(4 : Nat) : Int))))) ∧
          (decide (c.id = id) = false →
            (decide (d.id = id) = true →
                (decide (d.last < seq) = true →
                    post (SV.tup [SV.str true [], SV.int IntKind.i64 true (9 : Int)])
                      ({ most := T.most, term := T.term, ss := [a, b, c, d], opened := T.opened, e0 := T.e0, e1 := T.e1, e2 := T.e2, e3 := T.e3, e4 := T.e4, e5 := T.e5, e6 := T.e6, e7 := T.e7,
                          ends := T.ends : Tb },
                        (↑(4 : Nat) : Int))) ∧
                  (decide (d.last < seq) = false →
                    (decide ((0 : Int) < d.stored) = true →
                        (decide (d.s0 = seq) = true →
                            post (SV.tup [SV.str false d.r0, SV.int IntKind.i64 true (0 : Int)])
                              ({ most := T.most, term := T.term, ss := [a, b, c, d], opened := T.opened, e0 := T.e0, e1 := T.e1, e2 := T.e2, e3 := T.e3, e4 := T.e4, e5 := T.e5, e6 := T.e6, e7 := T.e7,
                                  ends := T.ends : Tb },
                                (↑(4 : Nat) : Int))) ∧
                          (decide (d.s0 = seq) = false →
                            (decide ((1 : Int) < d.stored) = true →
                                (decide (d.s1 = seq) = true →
                                    post (SV.tup [SV.str false d.r1, SV.int IntKind.i64 true (0 : Int)])
                                      ({ most := T.most, term := T.term, ss := [a, b, c, d], opened := T.opened, e0 := T.e0, e1 := T.e1, e2 := T.e2, e3 := T.e3, e4 := T.e4, e5 := T.e5, e6 := T.e6,
                                          e7 := T.e7, ends := T.ends : Tb },
                                        (↑(4 : Nat) : Int))) ∧
                                  (decide (d.s1 = seq) = false →
                                    (decide ((2 : Int) < d.stored) = true → False) ∧
                                      (decide ((2 : Int) < d.stored) = false →
                                        post (SV.tup [SV.str true [], SV.int IntKind.i64 true (7 : Int)])
                                          ({ most := T.most, term := T.term, ss := [a, b, c, d], opened := T.opened, e0 := T.e0, e1 := T.e1, e2 := T.e2, e3 := T.e3, e4 := T.e4, e5 := T.e5, e6 := T.e6,
                                              e7 := T.e7, ends := T.ends : Tb },
                                            (↑(4 : Nat) : Int))))) ∧
                              (decide ((1 : Int) < d.stored) = false →
                                post (SV.tup [SV.str true [], SV.int IntKind.i64 true (7 : Int)])
                                  ({ most := T.most, term := T.term, ss := [a, b, c, d], opened := T.opened, e0 := T.e0, e1 := T.e1, e2 := T.e2, e3 := T.e3, e4 := T.e4, e5 := T.e5, e6 := T.e6,
                                      e7 := T.e7, ends := T.ends : Tb },
                                    (↑(4 : Nat) : Int))))) ∧
                      (decide ((0 : Int) < d.stored) = false →
                        post (SV.tup [SV.str true [], SV.int IntKind.i64 true (7 : Int)])
                          ({ most := T.most, term := T.term, ss := [a, b, c, d], opened := T.opened, e0 := T.e0, e1 := T.e1, e2 := T.e2, e3 := T.e3, e4 := T.e4, e5 := T.e5, e6 := T.e6, e7 := T.e7,
                              ends := T.ends : Tb },
                            (↑(4 : Nat) : Int))))) ∧
              (decide (d.id = id) = false →
                post (SV.tup [SV.str true [], SV.int IntKind.i64 true (5 : Int)])
                  ({ most := T.most, term := T.term, ss := [a, b, c, d], opened := T.opened, e0 := T.e0, e1 := T.e1, e2 := T.e2, e3 := T.e3, e4 := T.e4, e5 := T.e5, e6 := T.e6, e7 := T.e7,
                      ends := T.ends : Tb },
                    (↑(4 : Nat) : Int))))))) := by kernel_rfl
theorem vcKept0 (T : Tb)  (post : SV → Tb × Int → Prop) : VC.holds (runT 12 Try.f12 {T with ss := []} 0 [] (postK post)) = (post (SV.int IntKind.i64 true (0 : Int))
  ({ most := T.most, term := T.term, ss := [Sl.zero, Sl.zero, Sl.zero, Sl.zero], opened := T.opened, e0 := T.e0, e1 := T.e1, e2 := T.e2, e3 := T.e3, e4 := T.e4, e5 := T.e5, e6 := T.e6, e7 := T.e7,
      ends := T.ends : Tb },
    (↑(0 : Nat) : Int))) := by kernel_rfl
theorem vcKept1 (T : Tb) (a : Sl)  (post : SV → Tb × Int → Prop) : VC.holds (runT 12 Try.f12 {T with ss := [a]} 0 [] (postK post)) = (((-9223372036854775808 : Int) ≤ (0 : Int) + a.stored ∧ (0 : Int) + a.stored ≤ (9223372036854775807 : Int)) ∧
  post (SV.int IntKind.i64 false ((0 : Int) + a.stored))
    ({ most := T.most, term := T.term, ss := [a, Sl.zero, Sl.zero, Sl.zero], opened := T.opened, e0 := T.e0, e1 := T.e1, e2 := T.e2, e3 := T.e3, e4 := T.e4, e5 := T.e5, e6 := T.e6, e7 := T.e7,
        ends := T.ends : Tb },
      (↑(1 : Nat) : Int))) := by kernel_rfl
theorem vcKept2 (T : Tb) (a b : Sl)  (post : SV → Tb × Int → Prop) : VC.holds (runT 12 Try.f12 {T with ss := [a, b]} 0 [] (postK post)) = (((-9223372036854775808 : Int) ≤ (0 : Int) + a.stored ∧ (0 : Int) + a.stored ≤ (9223372036854775807 : Int)) ∧
  ((-9223372036854775808 : Int) ≤ (0 : Int) + a.stored + b.stored ∧ (0 : Int) + a.stored + b.stored ≤ (9223372036854775807 : Int)) ∧
    post (SV.int IntKind.i64 false ((0 : Int) + a.stored + b.stored))
      ({ most := T.most, term := T.term, ss := [a, b, Sl.zero, Sl.zero], opened := T.opened, e0 := T.e0, e1 := T.e1, e2 := T.e2, e3 := T.e3, e4 := T.e4, e5 := T.e5, e6 := T.e6, e7 := T.e7,
          ends := T.ends : Tb },
        (↑(2 : Nat) : Int))) := by kernel_rfl
theorem vcKept3 (T : Tb) (a b c : Sl)  (post : SV → Tb × Int → Prop) : VC.holds (runT 12 Try.f12 {T with ss := [a, b, c]} 0 [] (postK post)) = (((-9223372036854775808 : Int) ≤ (0 : Int) + a.stored ∧ (0 : Int) + a.stored ≤ (9223372036854775807 : Int)) ∧
  ((-9223372036854775808 : Int) ≤ (0 : Int) + a.stored + b.stored ∧ (0 : Int) + a.stored + b.stored ≤ (9223372036854775807 : Int)) ∧
    ((-9223372036854775808 : Int) ≤ (0 : Int) + a.stored + b.stored + c.stored ∧ (0 : Int) + a.stored + b.stored + c.stored ≤ (9223372036854775807 : Int)) ∧
      post (SV.int IntKind.i64 false ((0 : Int) + a.stored + b.stored + c.stored))
        ({ most := T.most, term := T.term, ss := [a, b, c, Sl.zero], opened := T.opened, e0 := T.e0, e1 := T.e1, e2 := T.e2, e3 := T.e3, e4 := T.e4, e5 := T.e5, e6 := T.e6, e7 := T.e7,
            ends := T.ends : Tb },
          (↑(3 : Nat) : Int))) := by kernel_rfl
theorem vcKept4 (T : Tb) (a b c d : Sl)  (post : SV → Tb × Int → Prop) : VC.holds (runT 12 Try.f12 {T with ss := [a, b, c, d]} 0 [] (postK post)) = (((-9223372036854775808 : Int) ≤ (0 : Int) + a.stored ∧ (0 : Int) + a.stored ≤ (9223372036854775807 : Int)) ∧
  ((-9223372036854775808 : Int) ≤ (0 : Int) + a.stored + b.stored ∧ (0 : Int) + a.stored + b.stored ≤ (9223372036854775807 : Int)) ∧
    ((-9223372036854775808 : Int) ≤ (0 : Int) + a.stored + b.stored + c.stored ∧ (0 : Int) + a.stored + b.stored + c.stored ≤ (9223372036854775807 : Int)) ∧
      ((-9223372036854775808 : Int) ≤ (0 : Int) + a.stored + b.stored + c.stored + d.stored ∧ (0 : Int) + a.stored + b.stored + c.stored + d.stored ≤ (9223372036854775807 : Int)) ∧
        post (SV.int IntKind.i64 false ((0 : Int) + a.stored + b.stored + c.stored + d.stored))
          ({ most := T.most, term := T.term, ss := [a, b, c, d], opened := T.opened, e0 := T.e0, e1 := T.e1, e2 := T.e2, e3 := T.e3, e4 := T.e4, e5 := T.e5, e6 := T.e6, e7 := T.e7, ends := T.ends :
              Tb },
            (↑(4 : Nat) : Int))) := by kernel_rfl
theorem vcAll0 (T : Tb)  (post : Bool → Nat → Nat → Nat → List SV → Tb × Int → Prop) : VC.holds (runT 11 Try.f11 {T with ss := []} 0 [] (rowK post)) = (post false (0 : Nat) (↑(0 : Nat) : Int).toNat ((↑(0 : Nat) : Int).toNat * (4 : Nat)) []
  ({ most := T.most, term := T.term, ss := [Sl.zero, Sl.zero, Sl.zero, Sl.zero], opened := T.opened, e0 := T.e0, e1 := T.e1, e2 := T.e2, e3 := T.e3, e4 := T.e4, e5 := T.e5, e6 := T.e6, e7 := T.e7,
      ends := T.ends : Tb },
    (↑(0 : Nat) : Int))) := by kernel_rfl
theorem vcAll1 (T : Tb) (a : Sl)  (post : Bool → Nat → Nat → Nat → List SV → Tb × Int → Prop) : VC.holds (runT 11 Try.f11 {T with ss := [a]} 0 [] (rowK post)) = (post false (1 : Nat) (↑(1 : Nat) : Int).toNat ((↑(1 : Nat) : Int).toNat * (4 : Nat))
  [SV.int IntKind.i64 false a.id, SV.int IntKind.i64 false a.block, SV.int IntKind.i64 false a.dl, SV.int IntKind.i64 false a.last]
  ({ most := T.most, term := T.term, ss := [a, Sl.zero, Sl.zero, Sl.zero], opened := T.opened, e0 := T.e0, e1 := T.e1, e2 := T.e2, e3 := T.e3, e4 := T.e4, e5 := T.e5, e6 := T.e6, e7 := T.e7,
      ends := T.ends : Tb },
    (↑(1 : Nat) : Int))) := by kernel_rfl
theorem vcAll2 (T : Tb) (a b : Sl)  (post : Bool → Nat → Nat → Nat → List SV → Tb × Int → Prop) : VC.holds (runT 11 Try.f11 {T with ss := [a, b]} 0 [] (rowK post)) = (post false (2 : Nat) (↑(2 : Nat) : Int).toNat ((↑(2 : Nat) : Int).toNat * (4 : Nat))
  [SV.int IntKind.i64 false a.id, SV.int IntKind.i64 false a.block, SV.int IntKind.i64 false a.dl, SV.int IntKind.i64 false a.last, SV.int IntKind.i64 false b.id, SV.int IntKind.i64 false b.block,
    SV.int IntKind.i64 false b.dl, SV.int IntKind.i64 false b.last]
  ({ most := T.most, term := T.term, ss := [a, b, Sl.zero, Sl.zero], opened := T.opened, e0 := T.e0, e1 := T.e1, e2 := T.e2, e3 := T.e3, e4 := T.e4, e5 := T.e5, e6 := T.e6, e7 := T.e7,
      ends := T.ends : Tb },
    (↑(2 : Nat) : Int))) := by kernel_rfl
theorem vcAll3 (T : Tb) (a b c : Sl)  (post : Bool → Nat → Nat → Nat → List SV → Tb × Int → Prop) : VC.holds (runT 11 Try.f11 {T with ss := [a, b, c]} 0 [] (rowK post)) = (post false (3 : Nat) (↑(3 : Nat) : Int).toNat ((↑(3 : Nat) : Int).toNat * (4 : Nat))
  [SV.int IntKind.i64 false a.id, SV.int IntKind.i64 false a.block, SV.int IntKind.i64 false a.dl, SV.int IntKind.i64 false a.last, SV.int IntKind.i64 false b.id, SV.int IntKind.i64 false b.block,
    SV.int IntKind.i64 false b.dl, SV.int IntKind.i64 false b.last, SV.int IntKind.i64 false c.id, SV.int IntKind.i64 false c.block, SV.int IntKind.i64 false c.dl, SV.int IntKind.i64 false c.last]
  ({ most := T.most, term := T.term, ss := [a, b, c, Sl.zero], opened := T.opened, e0 := T.e0, e1 := T.e1, e2 := T.e2, e3 := T.e3, e4 := T.e4, e5 := T.e5, e6 := T.e6, e7 := T.e7, ends := T.ends :
      Tb },
    (↑(3 : Nat) : Int))) := by kernel_rfl
theorem vcAll4 (T : Tb) (a b c d : Sl)  (post : Bool → Nat → Nat → Nat → List SV → Tb × Int → Prop) : VC.holds (runT 11 Try.f11 {T with ss := [a, b, c, d]} 0 [] (rowK post)) = (post false (4 : Nat) (↑(4 : Nat) : Int).toNat ((↑(4 : Nat) : Int).toNat * (4 : Nat))
  [SV.int IntKind.i64 false a.id, SV.int IntKind.i64 false a.block, SV.int IntKind.i64 false a.dl, SV.int IntKind.i64 false a.last, SV.int IntKind.i64 false b.id, SV.int IntKind.i64 false b.block,
    SV.int IntKind.i64 false b.dl, SV.int IntKind.i64 false b.last, SV.int IntKind.i64 false c.id, SV.int IntKind.i64 false c.block, SV.int IntKind.i64 false c.dl, SV.int IntKind.i64 false c.last,
    SV.int IntKind.i64 false d.id, SV.int IntKind.i64 false d.block, SV.int IntKind.i64 false d.dl, SV.int IntKind.i64 false d.last]
  ({ most := T.most, term := T.term, ss := [a, b, c, d], opened := T.opened, e0 := T.e0, e1 := T.e1, e2 := T.e2, e3 := T.e3, e4 := T.e4, e5 := T.e5, e6 := T.e6, e7 := T.e7, ends := T.ends : Tb },
    (↑(4 : Nat) : Int))) := by kernel_rfl
end Go.Proofs.Ytobbhdmbblhgaaa
