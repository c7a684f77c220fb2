/-
  Lease: LeaseClock's run.
-/
import Derived.Test.YtobbhdmbblhgaaaLsV7
namespace Go.Proofs.Ytobbhdmbblhgaaa
open Go Sx

theorem live_three (T : Tb) (id c : Int) : T.live id c = 0 ∨ T.live id c = 5 ∨ T.live id c = 6 := by
  unfold Tb.live
  split
  · split
    · exact .inr (.inr rfl)
    · exact .inr (.inl rfl)
  · split
    · exact .inr (.inr rfl)
    · exact .inl rfl
theorem live_clock (T : Tb) (id : Int) {a b : Int} (h : a ≤ b) : (T.live id a = 5 ↔ T.live id b = 5) ∧ (T.live id a = 6 → T.live id b = 6) ∧ (T.live id b = 0 → T.live id a = 0) := by
  unfold Tb.live
  cases findSl id T.ss with
  | none => exact ⟨Iff.rfl, fun h => h, fun h => h⟩
  | some s =>
    simp only
    by_cases h1 : s.dl ≤ a
    · have h2 : s.dl ≤ b := by omega
      simp [h1, h2]
    · by_cases h2 : s.dl ≤ b <;> simp [h1, h2]
theorem okB {l b : Bool} (h : b = true) : ∃ l', SV.bool l b = SV.bool l' true := ⟨l, by rw [h]⟩
theorem new_le (most term : Int) {cs : List SV} (h : ∀ E : Nat → Nat, (newTb most term).svO.map (SV.val E) = cs.map (SV.val E)) : SBle (SB.cells cs 49 tableT) (newTb most term).sbO := SBle.cells h rfl
set_option maxRecDepth 10000 in
set_option maxHeartbeats 4000000 in
theorem clock_holds (most term id a b : Int) (z : Bool) (o n c : Nat) (g : Nat → Ac) : Holds (clockVC most term id a b z o n c 1 g fun v => ∃ l, v = .bool l true) := by
  refine Holds.of_eq (vcClock most term id a b z o n c g _) ?_
  refine ⟨g, SBle.refl _, fun d hd => ⟨fun h => ⟨_, rfl⟩, fun h => ⟨fun _ => ⟨_, rfl⟩, fun ha => ⟨fun _ => ⟨_, rfl⟩, fun hab => ⟨fun _ => ⟨_, rfl⟩, fun hb => ⟨⟨⟨0, newTb most term⟩, ⟨Nat.zero_le _, inv_new most term⟩, rfl, new_le most term fun E => rfl, SBle.refl _, trivial⟩, fun x hx => ⟨fun hlt => ?_, fun _ => ?_⟩⟩⟩⟩⟩⟩⟩
  · have hd1 : d = true := by cases d <;> simp at h ⊢
    obtain ⟨hf1, hf2⟩ := hd hd1
    obtain ⟨hxi, hI⟩ := hx
    have hlt' : x.i < n := by simpa using hlt
    have hcl := hf2 x.i hlt'
    have hI' := hI.act (by omega) (g x.i)
    simp only [Int.toNat_natCast, Nat.zero_add]
    exact ⟨⟨by omega, by omega⟩, ⟨trivial, hlt'⟩, x.T, SBle.refl _, ⟨hI.ok, hcl⟩, fun c1 _ => ⟨⟨by omega, by omega⟩, ⟨x.i + 1, (x.T.act (g x.i)).2⟩, ⟨⟨hlt', hI'⟩, by show n - (x.i + 1) < n - x.i; omega⟩, by show (x.i : Int) + 1 = ((x.i + 1 : Nat) : Int); omega, SBle.refl _, SBle.refl _, trivial⟩⟩
  · obtain ⟨hxi, hI⟩ := hx
    have hab' : a ≤ b := by simpa using hab
    have l1 := live_three x.T id a
    have l2 := live_three x.T id b
    obtain ⟨l3, l4, l5⟩ := live_clock x.T id hab'
    refine ⟨x.T, SBle.refl _, ⟨hI.ok, trivial⟩, x.T, SBle.refl _, ⟨hI.ok, trivial⟩, ?_⟩
    generalize x.T.live id a = p at l1 l3 l4 l5 ⊢
    generalize x.T.live id b = q at l2 l3 l4 l5 ⊢
    repeat' first
      | refine And.intro ?_ ?_
      | (intro hh; simp at hh)
      | intro hh
    all_goals first
      | exact ⟨_, rfl⟩
      | (exfalso; omega)
      | (refine okB ?_; simp only [decide_eq_true_eq]; omega)
end Go.Proofs.Ytobbhdmbblhgaaa
