/-
  Lease: summaries of 'few', 'same'.
-/
import Derived.Test.YtobbhdmbblhgaaaLsV4
namespace Go.Proofs.Ytobbhdmbblhgaaa
open Go Sx

theorem few_holds (z : Bool) (o n c : Nat) (g : Nat → Ac) : Holds (fewVC z o n c g fun v => ∃ b l, v = .bool l b ∧ (b = true → Few n g)) := by
  refine Holds.of_eq (vcFew z o n c g _) ?_
  refine ⟨⟨0, ⟨by omega, by omega, fun j hj => by omega⟩, rfl, SBle.refl _, trivial⟩, fun x ⟨h1, h2, h3⟩ => ⟨fun hlt => ⟨fun hle => ?_, fun hle => ?_⟩, fun hge => ?_⟩⟩
  · simp only [decide_eq_true_eq] at hlt hle
    have hx : x < n := by omega
    have hb : ((0 : Int) ≤ (↑x : Int) ∧ (↑x : Int) < (↑n : Int)) := ⟨by omega, by omega⟩
    have hb' : o = o ∧ 0 + (↑x : Int).toNat < n := ⟨rfl, by omega⟩
    refine ⟨hb, hb', fun _ => ⟨_, _, rfl, fun h => by cases h⟩, fun _ => ⟨hb, hb', fun _ => ⟨_, _, rfl, fun h => by cases h⟩, fun q1 => ⟨hb, hb', fun _ => ⟨_, _, rfl, fun h => by cases h⟩, fun q2 => ⟨hb, hb', fun _ => ⟨_, _, rfl, fun h => by cases h⟩,
      fun _ => ⟨hb, hb', fun _ => ⟨_, _, rfl, fun h => by cases h⟩, fun _ => ⟨⟨by omega, by omega⟩, x + 1, ⟨⟨by omega, by omega, fun j hj => ?_⟩, by omega⟩, by omega, SBle.refl _, trivial⟩⟩⟩⟩⟩⟩
    rcases Nat.lt_or_ge j x with h | h
    · exact h3 j h
    · have : j = x := by omega
      subst this
      simp only [Int.toNat_natCast, Nat.zero_add, decide_eq_false_iff_not] at q1 q2
      exact ⟨by omega, by omega⟩
  · simp only [decide_eq_true_eq, decide_eq_false_iff_not] at hlt hle
    exact ⟨_, _, rfl, fun h => by simp only [decide_eq_true_eq] at h; omega⟩
  · simp only [decide_eq_false_iff_not] at hge
    refine ⟨_, _, rfl, fun h => ?_⟩
    simp only [decide_eq_true_eq] at h
    exact ⟨by omega, fun i hi => h3 i (by omega)⟩
noncomputable def fewPT : PT := fun args m nx K => match args with
  | [.vslc k 6 z o 0 n c] => (match m.get k with
    | some B => .ex (Nat → Ac) fun g => .and (.atom (SBle B (.view z o n (acCols g)))) (.all Bool fun b => .imp (b = true → Few n g) (K (.bool false b) m nx))
    | none => .fail "few: no block")
  | _ => .fail "few"
theorem few_ok : CallOk Try.prog 9 fewPT := by
  intro args m nx K h hw ha w0 M0 E w hs
  unfold fewPT at h
  split at h
  · rename_i k z o n c
    split at h
    · rename_i B hk
      obtain ⟨g, hB, h⟩ := h
      refine quiet_out (goodF n g) Try.func9 (by kernel_rfl) (by kernel_rfl) (few_holds z o n c g) rfl rfl hs (hs.view hk hB rfl rfl) ?_ fun v hv => ?_
      · simp [SV.vals, SV.val]
      · obtain ⟨b, l, rfl, hb⟩ := hv
        exact ⟨.bool false b, fun _ => rfl, h b hb⟩
    · exact h.elim
  · exact h.elim
theorem few_mono : MonoPT fewPT := by
  intro args m nx K K' hK h
  unfold fewPT at h ⊢
  split at h
  · split at h
    · obtain ⟨g, h1, h⟩ := h
      exact ⟨g, h1, fun b hb => hK _ _ _ (h b hb)⟩
    · exact h.elim
  · exact h.elim

theorem bare_eq {s t : Sl} : s.bare = t.bare ↔ s.id = t.id ∧ s.block = t.block ∧ s.dl = t.dl ∧ s.last = t.last := by
  simp [Sl.bare, iv]
theorem bares_eq : ∀ {a b : List Sl}, a.map Sl.bare = b.map Sl.bare ↔ a.length = b.length ∧ ∀ i, i < a.length → (a.getD i Sl.zero).bare = (b.getD i Sl.zero).bare
  | [], [] => by simp
  | [], _ :: _ => by simp
  | _ :: _, [] => by simp
  | x :: a, y :: b => by
    simp only [List.map_cons, List.cons.injEq, bares_eq (a := a) (b := b), List.length_cons]
    constructor
    · rintro ⟨h1, h2, h3⟩
      refine ⟨by omega, fun i hi => ?_⟩
      cases i with
      | zero => exact h1
      | succ i => exact h3 i (by omega)
    · rintro ⟨h1, h2⟩
      exact ⟨h2 0 (by omega), by omega, fun i hi => h2 (i + 1) (by omega)⟩
theorem same_holds (z z' : Bool) (a b : List Sl) (c c' tot tot' : Nat) (ha : a.length < 1000000000000000) : Holds (sameVC z z' a b c c' tot tot' fun v => ∃ l r, v = .bool l r ∧ (r = true ↔ a.map Sl.bare = b.map Sl.bare)) := by
  refine Holds.of_eq (vcSame z z' a b c c' tot tot' _) ?_
  refine ⟨fun h => ⟨_, _, rfl, ?_⟩, fun h => ⟨⟨0, ⟨by omega, fun j hj => by omega⟩, rfl, SBle.refl _, SBle.refl _, trivial⟩, fun x ⟨h1, h2⟩ => ⟨fun hlt => ?_, fun hge => ⟨_, _, rfl, ?_⟩⟩⟩⟩
  · simp only [Bool.not_eq_true', decide_eq_false_iff_not] at h
    rw [bares_eq]
    constructor
    · intro e; cases e
    · rintro ⟨e, _⟩; omega
  · simp only [Bool.not_eq_false', decide_eq_true_eq] at h hlt
    have hl : a.length = b.length := by omega
    refine ⟨⟨by omega, by omega⟩, by omega, ⟨by omega, by omega⟩, by omega, fun q => ⟨_, _, rfl, ?_⟩, fun q => ⟨⟨by omega, by omega⟩, x + 1, ⟨⟨by omega, fun j hj => ?_⟩, by omega⟩, by omega, SBle.refl _, SBle.refl _, trivial⟩⟩
    · constructor
      · intro e; cases e
      · intro e
        have := (bares_eq.1 e).2 x (by omega)
        rw [bare_eq] at this
        obtain ⟨e1, e2, e3, e4⟩ := this
        simp only [Int.toNat_natCast, Nat.zero_add] at q
        rw [e1, e2, e3, e4] at q
        simp at q
    · rcases Nat.lt_or_ge j x with hj' | hj'
      · exact h2 j hj'
      · have : j = x := by omega
        subst this
        rw [bare_eq]
        simp only [Int.toNat_natCast, Nat.zero_add, Bool.not_eq_false', Bool.and_eq_true, decide_eq_true_eq, and_true] at q
        exact q
  · simp only [Bool.not_eq_false', decide_eq_true_eq, decide_eq_false_iff_not] at h hge
    rw [bares_eq]
    exact ⟨fun _ => ⟨by omega, fun i hi => h2 i (by omega)⟩, fun _ => rfl⟩
noncomputable def samePT : PT := fun args m nx K => match args with
  | [.rslc k 4 z 0 n c, .rslc k' 4 z' 0 n' c'] => if k = k' then .fail "same: one block" else (match m.get k, m.get k' with
    | some B, some B' => .ex (List Sl × List Sl × Nat × Nat) fun x => .and (.atom (n = x.1.length ∧ n' = x.2.1.length ∧ n < 1000000000000000 ∧ SBle B (.rows z x.1.length (sessCols x.1) true x.2.2.1 sessT) ∧ SBle B' (.rows z' x.2.1.length (sessCols x.2.1) true x.2.2.2 sessT)))
        (.all Bool fun r => .imp (r = true ↔ x.1.map Sl.bare = x.2.1.map Sl.bare) (K (.bool false r) m nx))
    | _, _ => .fail "same: no block")
  | _ => .fail "same"
theorem same_ok : CallOk Try.prog 16 samePT := by
  intro args m nx K h hw ha w0 M0 E w hs
  unfold samePT at h
  split at h
  · rename_i k z n c k' z' n' c'
    split at h
    · exact h.elim
    · rename_i hne
      split at h
      · rename_i B B' hk hk'
        obtain ⟨⟨a, b, tot, tot'⟩, ⟨rfl, rfl, h0, hB, hB'⟩, h⟩ := h
        refine quiet_out (goodS a b) Try.func16 (by kernel_rfl) (by kernel_rfl) (same_holds z z' a b c c' tot tot' h0) rfl rfl hs (hs.view2 hk hB rfl rfl hk' hB' rfl rfl hne) ?_ fun v hv => ?_
        · simp [SV.vals, SV.val]
        · obtain ⟨l, r, rfl, hr⟩ := hv
          exact ⟨.bool false r, fun _ => rfl, h r hr⟩
      · exact h.elim
  · exact h.elim
theorem same_mono : MonoPT samePT := by
  intro args m nx K K' hK h
  unfold samePT at h ⊢
  split at h
  · split at h
    · exact h.elim
    · rename_i hne
      rw [if_neg hne]
      split at h
      · obtain ⟨x, h1, h⟩ := h
        exact ⟨x, h1, fun r hr => hK _ _ _ (h r hr)⟩
      · exact h.elim
  · exact h.elim
end Go.Proofs.Ytobbhdmbblhgaaa
