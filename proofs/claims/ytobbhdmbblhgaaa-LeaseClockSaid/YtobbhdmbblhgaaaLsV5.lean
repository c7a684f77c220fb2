/-
  Conditions that the executor computes, written out by a program (vcgen.py).
-/
import Derived.Test.YtobbhdmbblhgaaaLsE
namespace Go.Proofs.Ytobbhdmbblhgaaa
open Go Sx

theorem vcDo (T : Tb) (a : Ac) (post : Int → Int → List UInt8 → Sl → Option (Nat × Nat × SB) → SB → Prop) : VC.holds (doVC T a post) = ((decide (a.k = (0 : Int)) = true →
    ∃ (T_1 : Tb),
      SBle (SB.cells T.svO (49 : Nat) tableT) T_1.sbO ∧
        (T_1.Ok ∧ okClock a.clock) ∧
          post (if T_1.full then (12 : Int) else (0 : Int)) (if T_1.full then (0 : Int) else T_1.opened + (1 : Int)) [] Sl.zero none (SB.cells (T_1.open a.block a.clock).svO (49 : Nat) tableT)) ∧
  (decide (a.k = (0 : Int)) = false →
    (decide (a.k = (1 : Int)) = true →
        ∃ (T_1 : Tb),
          SBle (SB.cells T.svO (49 : Nat) tableT) T_1.sbO ∧
            (T_1.Ok ∧ True) ∧
              post (T_1.live a.id a.clock) (0 : Int) []
                { id := (T_1.of a.id a.clock).id, block := (T_1.of a.id a.clock).block, dl := (T_1.of a.id a.clock).dl, last := (T_1.of a.id a.clock).last, s0 := (0 : Int), r0 := [], s1 := (0 : Int),
                  r1 := [], stored := (0 : Int) : Sl }
                none (SB.cells T_1.svO (49 : Nat) tableT)) ∧
      (decide (a.k = (1 : Int)) = false →
        (decide (a.k = (2 : Int)) = true →
            ∃ (T_1 : Tb),
              SBle (SB.cells T.svO (49 : Nat) tableT) T_1.sbO ∧
                (T_1.Ok ∧ okClock a.clock) ∧
                  post (T_1.live a.id a.clock) (0 : Int) [] Sl.zero none
                    (SB.cells
                      (T_1.mod a.id a.clock fun (s : Sl) =>
                          { id := s.id, block := s.block, dl := a.clock + T_1.term, last := s.last, s0 := s.s0, r0 := s.r0, s1 := s.s1, r1 := s.r1, stored := s.stored : Sl }).svO
                      (49 : Nat) tableT)) ∧
          (decide (a.k = (2 : Int)) = false →
            (decide (a.k = (3 : Int)) = true →
                ∃ (T_1 : Tb),
                  SBle (SB.cells T.svO (49 : Nat) tableT) T_1.sbO ∧
                    (T_1.Ok ∧ True) ∧
                      post (T_1.live a.id a.clock) (T_1.of a.id a.clock).block [] Sl.zero none
                        (SB.cells
                          (T_1.mod a.id a.clock fun (s : Sl) =>
                              { id := s.id, block := a.block, dl := s.dl, last := s.last, s0 := s.s0, r0 := s.r0, s1 := s.s1, r1 := s.r1, stored := s.stored : Sl }).svO
                          (49 : Nat) tableT)) ∧
              (decide (a.k = (3 : Int)) = false →
                (decide (a.k = (4 : Int)) = true →
                    ∃ (T_1 : Tb),
                      SBle (SB.cells T.svO (49 : Nat) tableT) T_1.sbO ∧
                        (T_1.Ok ∧ True) ∧ post (T_1.live a.id a.clock) (T_1.of a.id a.clock).block [] Sl.zero none (SB.cells (T_1.rel a.id a.clock).svO (49 : Nat) tableT)) ∧
                  (decide (a.k = (4 : Int)) = false →
                    (decide (a.k = (5 : Int)) = true →
                        ∃ (T_1 : Tb),
                          SBle (SB.cells T.svO (49 : Nat) tableT) T_1.sbO ∧
                            (T_1.Ok ∧ True) ∧
                              ∀ (c : Nat),
                                (over a.clock T_1.ss).length ≤ c →
                                  post (0 : Int) (0 : Int) [] Sl.zero
                                    (some
                                      ((over a.clock T_1.ss).length, c,
                                        SB.rows true (over a.clock T_1.ss).length
                                          [Col.int IntKind.i64 fun (i : Nat) => ((over a.clock T_1.ss).getD i Sl.zero).id,
                                            Col.int IntKind.i64 fun (i : Nat) => ((over a.clock T_1.ss).getD i Sl.zero).block,
                                            Col.int IntKind.i64 fun (i : Nat) => ((over a.clock T_1.ss).getD i Sl.zero).dl,
                                            Col.int IntKind.i64 fun (i : Nat) => ((over a.clock T_1.ss).getD i Sl.zero).last]
                                          false (c * (4 : Nat)) sessT))
                                    (SB.cells (T_1.expire a.clock).svO (49 : Nat) tableT)) ∧
                      (decide (a.k = (5 : Int)) = false →
                        (decide (a.k = (6 : Int)) = true →
                            ∃ (T_1 : Tb),
                              SBle (SB.cells T.svO (49 : Nat) tableT) T_1.sbO ∧
                                (T_1.Ok ∧ True) ∧ post (T_1.storeE a.id a.seq) (0 : Int) [] Sl.zero none (SB.cells (T_1.store a.id a.seq a.text).svO (49 : Nat) tableT)) ∧
                          (decide (a.k = (6 : Int)) = false →
                            ∃ (T_1 : Tb),
                              SBle (SB.cells T.svO (49 : Nat) tableT) T_1.sbO ∧
                                (T_1.Ok ∧ True) ∧ post (T_1.replay a.id a.seq).snd (0 : Int) (T_1.replay a.id a.seq).fst Sl.zero none (SB.cells T_1.svO (49 : Nat) tableT))))))))) := by kernel_rfl
end Go.Proofs.Ytobbhdmbblhgaaa
