/-
  Lease: what the methods do, shown from the conditions that the executor computes.
-/
import Derived.Test.YtobbhdmbblhgaaaLsV1
import Derived.Test.YtobbhdmbblhgaaaLsV2
namespace Go.Proofs.Ytobbhdmbblhgaaa
open Go Sx

/-- A method's value and the table behind it. -/
structure MPost (sv : SV) (T : Tb) (v : SV) (x : Tb × Int) : Prop where
  val : ∀ E : Nat → Nat, v.val E = sv.val E
  tb : IsTb x T
/-- Where 'live' looks through what has ended. -/
theorem ends_loop (T : Tb) {ends id : Int} {ring : List Int} {A B C D P6 P5 : Prop} (he : ends = T.ends) (hring : ring = T.ring) (h0 : 0 ≤ ends) (hA : A) (hB : B) (hC : C) (hD : D)
    (h6 : T.recent id → P6) (h5 : ¬ T.recent id → P5) :
    (∃ (x : Nat), ((↑x : Int) ≤ min ends (8 : Int) ∧ ∀ (j : Nat), j < x → sel ring j ≠ id) ∧ (0 : Int) = (↑x : Int) ∧ A ∧ B) ∧
      ∀ (x : Nat), ((↑x : Int) ≤ min ends (8 : Int) ∧ ∀ (j : Nat), j < x → sel ring j ≠ id) →
        (decide ((↑x : Int) < min ends (8 : Int)) = true → ((0 : Int) ≤ (↑x : Int) ∧ (↑x : Int) < (8 : Int)) ∧ (↑x : Int).toNat < (8 : Nat) ∧
          (decide (sel ring (↑x : Int).toNat = id) = true → P6) ∧
          (decide (sel ring (↑x : Int).toNat = id) = false → ((-9223372036854775808 : Int) ≤ (↑x : Int) + (1 : Int) ∧ (↑x : Int) + (1 : Int) ≤ (9223372036854775807 : Int)) ∧
            ∃ (y : Nat), (((↑y : Int) ≤ min ends (8 : Int) ∧ ∀ (j : Nat), j < y → sel ring j ≠ id) ∧ (8 : Nat) - y < (8 : Nat) - x) ∧ (↑x : Int) + (1 : Int) = (↑y : Int) ∧ C ∧ D)) ∧
        (decide ((↑x : Int) < min ends (8 : Int)) = false → P5) := by
  subst he; subst hring
  refine ⟨⟨0, ⟨by omega, fun j hj => by omega⟩, rfl, hA, hB⟩, fun x ⟨hx, hj⟩ => ⟨fun hl => ?_, fun hl => ?_⟩⟩
  · have hl := of_decide_eq_true hl
    refine ⟨⟨by omega, by omega⟩, by omega, fun h => h6 ⟨x, hl, by simpa using h⟩, fun h => ⟨⟨by omega, by omega⟩, x + 1, ⟨⟨by omega, fun j hj' => ?_⟩, by omega⟩, by omega, hC, hD⟩⟩
    have h : sel T.ring x ≠ id := by simpa using h
    rcases Nat.lt_or_ge j x with h1 | h1
    · exact hj j h1
    · have : j = x := by omega
      subst this; exact h
  · have hl := of_decide_eq_false hl
    exact h5 fun ⟨i, h1, h2⟩ => hj i (by omega) h2

theorem open_holds {T : Tb} (hT : T.Ok) (block clock : Int) (hc : okClock clock) : ∃ i : Int, Holds (runT 20 Try.f20 T i [iv block, iv clock] (postK (MPost (openS block clock T).2.1 (openS block clock T).2.2))) := by
  have hlen := hT.len
  obtain ⟨o1, o2⟩ := hT.opened
  obtain ⟨t1, t2⟩ := hT.term
  obtain ⟨n1, n2⟩ := hT.ends
  have hst := hT.stored
  have hmost := hT.most
  unfold okClock at hc
  refine ⟨block, Holds.mk ?_⟩
  obtain ⟨most, term, ss, opened, e0, e1, e2, e3, e4, e5, e6, e7, ends⟩ := T
  simp only at hlen o1 o2 t1 t2 n1 n2 hst hmost
  match ss, hlen, hst with
  | [], _, hst =>
    have hv := vcOpen0 ⟨most, term, [], opened, e0, e1, e2, e3, e4, e5, e6, e7, ends⟩  block clock (MPost (openS block clock ⟨most, term, [], opened, e0, e1, e2, e3, e4, e5, e6, e7, ends⟩).2.1 (openS block clock ⟨most, term, [], opened, e0, e1, e2, e3, e4, e5, e6, e7, ends⟩).2.2)
    dsimp only at hv
    rw [hv]
    clear hv
    repeat' first
      | refine ends_loop ⟨most, term, [], opened, e0, e1, e2, e3, e4, e5, e6, e7, ends⟩ rfl rfl n1 (SBle.refl _) ⟨SBle.refl _, trivial⟩ (SBle.refl _) ⟨SBle.refl _, trivial⟩ (fun hr => ?_) (fun hr => ?_)
      | refine ends_loop ⟨most, term, [], opened, e0, e1, e2, e3, e4, e5, e6, e7, ends⟩ rfl rfl n1 (SBle.refl _) trivial (SBle.refl _) trivial (fun hr => ?_) (fun hr => ?_)
      | refine And.intro ?_ ?_
      | (intro hh; simp [-Int.not_le] at hh)
    all_goals first
      | omega
      | (refine ⟨fun E => ?_, ?_⟩ <;> simp [openS, Tb.open, Tb.full, Tb.of, Tb.live, findSl, iv, SV.val, SV.vals, IsTb, pad4, *] <;> (try decide) <;> (try omega))
  | [a], _, hst =>
    have hv := vcOpen1 ⟨most, term, [a], opened, e0, e1, e2, e3, e4, e5, e6, e7, ends⟩ a block clock (MPost (openS block clock ⟨most, term, [a], opened, e0, e1, e2, e3, e4, e5, e6, e7, ends⟩).2.1 (openS block clock ⟨most, term, [a], opened, e0, e1, e2, e3, e4, e5, e6, e7, ends⟩).2.2)
    dsimp only at hv
    rw [hv]
    clear hv
    simp only [List.mem_cons, List.not_mem_nil, or_false, forall_eq_or_imp, forall_eq] at hst
    repeat' first
      | refine ends_loop ⟨most, term, [a], opened, e0, e1, e2, e3, e4, e5, e6, e7, ends⟩ rfl rfl n1 (SBle.refl _) ⟨SBle.refl _, trivial⟩ (SBle.refl _) ⟨SBle.refl _, trivial⟩ (fun hr => ?_) (fun hr => ?_)
      | refine ends_loop ⟨most, term, [a], opened, e0, e1, e2, e3, e4, e5, e6, e7, ends⟩ rfl rfl n1 (SBle.refl _) trivial (SBle.refl _) trivial (fun hr => ?_) (fun hr => ?_)
      | refine And.intro ?_ ?_
      | (intro hh; simp [-Int.not_le] at hh)
    all_goals first
      | omega
      | (refine ⟨fun E => ?_, ?_⟩ <;> simp [openS, Tb.open, Tb.full, Tb.of, Tb.live, findSl, iv, SV.val, SV.vals, IsTb, pad4, *] <;> (try decide) <;> (try omega))
  | [a, b], _, hst =>
    have hv := vcOpen2 ⟨most, term, [a, b], opened, e0, e1, e2, e3, e4, e5, e6, e7, ends⟩ a b block clock (MPost (openS block clock ⟨most, term, [a, b], opened, e0, e1, e2, e3, e4, e5, e6, e7, ends⟩).2.1 (openS block clock ⟨most, term, [a, b], opened, e0, e1, e2, e3, e4, e5, e6, e7, ends⟩).2.2)
    dsimp only at hv
    rw [hv]
    clear hv
    simp only [List.mem_cons, List.not_mem_nil, or_false, forall_eq_or_imp, forall_eq] at hst
    repeat' first
      | refine ends_loop ⟨most, term, [a, b], opened, e0, e1, e2, e3, e4, e5, e6, e7, ends⟩ rfl rfl n1 (SBle.refl _) ⟨SBle.refl _, trivial⟩ (SBle.refl _) ⟨SBle.refl _, trivial⟩ (fun hr => ?_) (fun hr => ?_)
      | refine ends_loop ⟨most, term, [a, b], opened, e0, e1, e2, e3, e4, e5, e6, e7, ends⟩ rfl rfl n1 (SBle.refl _) trivial (SBle.refl _) trivial (fun hr => ?_) (fun hr => ?_)
      | refine And.intro ?_ ?_
      | (intro hh; simp [-Int.not_le] at hh)
    all_goals first
      | omega
      | (refine ⟨fun E => ?_, ?_⟩ <;> simp [openS, Tb.open, Tb.full, Tb.of, Tb.live, findSl, iv, SV.val, SV.vals, IsTb, pad4, *] <;> (try decide) <;> (try omega))
  | [a, b, c], _, hst =>
    have hv := vcOpen3 ⟨most, term, [a, b, c], opened, e0, e1, e2, e3, e4, e5, e6, e7, ends⟩ a b c block clock (MPost (openS block clock ⟨most, term, [a, b, c], opened, e0, e1, e2, e3, e4, e5, e6, e7, ends⟩).2.1 (openS block clock ⟨most, term, [a, b, c], opened, e0, e1, e2, e3, e4, e5, e6, e7, ends⟩).2.2)
    dsimp only at hv
    rw [hv]
    clear hv
    simp only [List.mem_cons, List.not_mem_nil, or_false, forall_eq_or_imp, forall_eq] at hst
    repeat' first
      | refine ends_loop ⟨most, term, [a, b, c], opened, e0, e1, e2, e3, e4, e5, e6, e7, ends⟩ rfl rfl n1 (SBle.refl _) ⟨SBle.refl _, trivial⟩ (SBle.refl _) ⟨SBle.refl _, trivial⟩ (fun hr => ?_) (fun hr => ?_)
      | refine ends_loop ⟨most, term, [a, b, c], opened, e0, e1, e2, e3, e4, e5, e6, e7, ends⟩ rfl rfl n1 (SBle.refl _) trivial (SBle.refl _) trivial (fun hr => ?_) (fun hr => ?_)
      | refine And.intro ?_ ?_
      | (intro hh; simp [-Int.not_le] at hh)
    all_goals first
      | omega
      | (refine ⟨fun E => ?_, ?_⟩ <;> simp [openS, Tb.open, Tb.full, Tb.of, Tb.live, findSl, iv, SV.val, SV.vals, IsTb, pad4, *] <;> (try decide) <;> (try omega))
  | [a, b, c, d], _, hst =>
    have hv := vcOpen4 ⟨most, term, [a, b, c, d], opened, e0, e1, e2, e3, e4, e5, e6, e7, ends⟩ a b c d block clock (MPost (openS block clock ⟨most, term, [a, b, c, d], opened, e0, e1, e2, e3, e4, e5, e6, e7, ends⟩).2.1 (openS block clock ⟨most, term, [a, b, c, d], opened, e0, e1, e2, e3, e4, e5, e6, e7, ends⟩).2.2)
    dsimp only at hv
    rw [hv]
    clear hv
    simp only [List.mem_cons, List.not_mem_nil, or_false, forall_eq_or_imp, forall_eq] at hst
    repeat' first
      | refine ends_loop ⟨most, term, [a, b, c, d], opened, e0, e1, e2, e3, e4, e5, e6, e7, ends⟩ rfl rfl n1 (SBle.refl _) ⟨SBle.refl _, trivial⟩ (SBle.refl _) ⟨SBle.refl _, trivial⟩ (fun hr => ?_) (fun hr => ?_)
      | refine ends_loop ⟨most, term, [a, b, c, d], opened, e0, e1, e2, e3, e4, e5, e6, e7, ends⟩ rfl rfl n1 (SBle.refl _) trivial (SBle.refl _) trivial (fun hr => ?_) (fun hr => ?_)
      | refine And.intro ?_ ?_
      | (intro hh; simp [-Int.not_le] at hh)
    all_goals first
      | omega
      | (refine ⟨fun E => ?_, ?_⟩ <;> simp [openS, Tb.open, Tb.full, Tb.of, Tb.live, findSl, iv, SV.val, SV.vals, IsTb, pad4, *] <;> (try decide) <;> (try omega))
theorem find_holds {T : Tb} (hT : T.Ok) (id clock : Int) : ∃ i : Int, Holds (runT 14 Try.f14 T i [iv id, iv clock] (postK (MPost (findS id clock T).2.1 (findS id clock T).2.2))) := by
  have hlen := hT.len
  obtain ⟨o1, o2⟩ := hT.opened
  obtain ⟨t1, t2⟩ := hT.term
  obtain ⟨n1, n2⟩ := hT.ends
  have hst := hT.stored
  have hmost := hT.most
  refine ⟨id, Holds.mk ?_⟩
  obtain ⟨most, term, ss, opened, e0, e1, e2, e3, e4, e5, e6, e7, ends⟩ := T
  simp only at hlen o1 o2 t1 t2 n1 n2 hst hmost
  match ss, hlen, hst with
  | [], _, hst =>
    have hv := vcFind0 ⟨most, term, [], opened, e0, e1, e2, e3, e4, e5, e6, e7, ends⟩  id clock (MPost (findS id clock ⟨most, term, [], opened, e0, e1, e2, e3, e4, e5, e6, e7, ends⟩).2.1 (findS id clock ⟨most, term, [], opened, e0, e1, e2, e3, e4, e5, e6, e7, ends⟩).2.2)
    dsimp only at hv
    rw [hv]
    clear hv
    repeat' first
      | refine ends_loop ⟨most, term, [], opened, e0, e1, e2, e3, e4, e5, e6, e7, ends⟩ rfl rfl n1 (SBle.refl _) ⟨SBle.refl _, trivial⟩ (SBle.refl _) ⟨SBle.refl _, trivial⟩ (fun hr => ?_) (fun hr => ?_)
      | refine ends_loop ⟨most, term, [], opened, e0, e1, e2, e3, e4, e5, e6, e7, ends⟩ rfl rfl n1 (SBle.refl _) trivial (SBle.refl _) trivial (fun hr => ?_) (fun hr => ?_)
      | refine And.intro ?_ ?_
      | (intro hh; simp [-Int.not_le] at hh)
    all_goals first
      | omega
      | (refine ⟨fun E => ?_, ?_⟩ <;> simp [findS, Sl.bare, Sl.zero, Tb.of, Tb.live, findSl, iv, SV.val, SV.vals, IsTb, pad4, *] <;> (try decide) <;> (try omega))
  | [a], _, hst =>
    have hv := vcFind1 ⟨most, term, [a], opened, e0, e1, e2, e3, e4, e5, e6, e7, ends⟩ a id clock (MPost (findS id clock ⟨most, term, [a], opened, e0, e1, e2, e3, e4, e5, e6, e7, ends⟩).2.1 (findS id clock ⟨most, term, [a], opened, e0, e1, e2, e3, e4, e5, e6, e7, ends⟩).2.2)
    dsimp only at hv
    rw [hv]
    clear hv
    simp only [List.mem_cons, List.not_mem_nil, or_false, forall_eq_or_imp, forall_eq] at hst
    repeat' first
      | refine ends_loop ⟨most, term, [a], opened, e0, e1, e2, e3, e4, e5, e6, e7, ends⟩ rfl rfl n1 (SBle.refl _) ⟨SBle.refl _, trivial⟩ (SBle.refl _) ⟨SBle.refl _, trivial⟩ (fun hr => ?_) (fun hr => ?_)
      | refine ends_loop ⟨most, term, [a], opened, e0, e1, e2, e3, e4, e5, e6, e7, ends⟩ rfl rfl n1 (SBle.refl _) trivial (SBle.refl _) trivial (fun hr => ?_) (fun hr => ?_)
      | refine And.intro ?_ ?_
      | (intro hh; simp [-Int.not_le] at hh)
    all_goals first
      | omega
      | (refine ⟨fun E => ?_, ?_⟩ <;> simp [findS, Sl.bare, Sl.zero, Tb.of, Tb.live, findSl, iv, SV.val, SV.vals, IsTb, pad4, *] <;> (try decide) <;> (try omega))
  | [a, b], _, hst =>
    have hv := vcFind2 ⟨most, term, [a, b], opened, e0, e1, e2, e3, e4, e5, e6, e7, ends⟩ a b id clock (MPost (findS id clock ⟨most, term, [a, b], opened, e0, e1, e2, e3, e4, e5, e6, e7, ends⟩).2.1 (findS id clock ⟨most, term, [a, b], opened, e0, e1, e2, e3, e4, e5, e6, e7, ends⟩).2.2)
    dsimp only at hv
    rw [hv]
    clear hv
    simp only [List.mem_cons, List.not_mem_nil, or_false, forall_eq_or_imp, forall_eq] at hst
    repeat' first
      | refine ends_loop ⟨most, term, [a, b], opened, e0, e1, e2, e3, e4, e5, e6, e7, ends⟩ rfl rfl n1 (SBle.refl _) ⟨SBle.refl _, trivial⟩ (SBle.refl _) ⟨SBle.refl _, trivial⟩ (fun hr => ?_) (fun hr => ?_)
      | refine ends_loop ⟨most, term, [a, b], opened, e0, e1, e2, e3, e4, e5, e6, e7, ends⟩ rfl rfl n1 (SBle.refl _) trivial (SBle.refl _) trivial (fun hr => ?_) (fun hr => ?_)
      | refine And.intro ?_ ?_
      | (intro hh; simp [-Int.not_le] at hh)
    all_goals first
      | omega
      | (refine ⟨fun E => ?_, ?_⟩ <;> simp [findS, Sl.bare, Sl.zero, Tb.of, Tb.live, findSl, iv, SV.val, SV.vals, IsTb, pad4, *] <;> (try decide) <;> (try omega))
  | [a, b, c], _, hst =>
    have hv := vcFind3 ⟨most, term, [a, b, c], opened, e0, e1, e2, e3, e4, e5, e6, e7, ends⟩ a b c id clock (MPost (findS id clock ⟨most, term, [a, b, c], opened, e0, e1, e2, e3, e4, e5, e6, e7, ends⟩).2.1 (findS id clock ⟨most, term, [a, b, c], opened, e0, e1, e2, e3, e4, e5, e6, e7, ends⟩).2.2)
    dsimp only at hv
    rw [hv]
    clear hv
    simp only [List.mem_cons, List.not_mem_nil, or_false, forall_eq_or_imp, forall_eq] at hst
    repeat' first
      | refine ends_loop ⟨most, term, [a, b, c], opened, e0, e1, e2, e3, e4, e5, e6, e7, ends⟩ rfl rfl n1 (SBle.refl _) ⟨SBle.refl _, trivial⟩ (SBle.refl _) ⟨SBle.refl _, trivial⟩ (fun hr => ?_) (fun hr => ?_)
      | refine ends_loop ⟨most, term, [a, b, c], opened, e0, e1, e2, e3, e4, e5, e6, e7, ends⟩ rfl rfl n1 (SBle.refl _) trivial (SBle.refl _) trivial (fun hr => ?_) (fun hr => ?_)
      | refine And.intro ?_ ?_
      | (intro hh; simp [-Int.not_le] at hh)
    all_goals first
      | omega
      | (refine ⟨fun E => ?_, ?_⟩ <;> simp [findS, Sl.bare, Sl.zero, Tb.of, Tb.live, findSl, iv, SV.val, SV.vals, IsTb, pad4, *] <;> (try decide) <;> (try omega))
  | [a, b, c, d], _, hst =>
    have hv := vcFind4 ⟨most, term, [a, b, c, d], opened, e0, e1, e2, e3, e4, e5, e6, e7, ends⟩ a b c d id clock (MPost (findS id clock ⟨most, term, [a, b, c, d], opened, e0, e1, e2, e3, e4, e5, e6, e7, ends⟩).2.1 (findS id clock ⟨most, term, [a, b, c, d], opened, e0, e1, e2, e3, e4, e5, e6, e7, ends⟩).2.2)
    dsimp only at hv
    rw [hv]
    clear hv
    simp only [List.mem_cons, List.not_mem_nil, or_false, forall_eq_or_imp, forall_eq] at hst
    repeat' first
      | refine ends_loop ⟨most, term, [a, b, c, d], opened, e0, e1, e2, e3, e4, e5, e6, e7, ends⟩ rfl rfl n1 (SBle.refl _) ⟨SBle.refl _, trivial⟩ (SBle.refl _) ⟨SBle.refl _, trivial⟩ (fun hr => ?_) (fun hr => ?_)
      | refine ends_loop ⟨most, term, [a, b, c, d], opened, e0, e1, e2, e3, e4, e5, e6, e7, ends⟩ rfl rfl n1 (SBle.refl _) trivial (SBle.refl _) trivial (fun hr => ?_) (fun hr => ?_)
      | refine And.intro ?_ ?_
      | (intro hh; simp [-Int.not_le] at hh)
    all_goals first
      | omega
      | (refine ⟨fun E => ?_, ?_⟩ <;> simp [findS, Sl.bare, Sl.zero, Tb.of, Tb.live, findSl, iv, SV.val, SV.vals, IsTb, pad4, *] <;> (try decide) <;> (try omega))
theorem renew_holds {T : Tb} (hT : T.Ok) (id clock : Int) (hc : okClock clock) : ∃ i : Int, Holds (runT 15 Try.f15 T i [iv id, iv clock] (postK (MPost (renewS id clock T).2.1 (renewS id clock T).2.2))) := by
  have hlen := hT.len
  obtain ⟨o1, o2⟩ := hT.opened
  obtain ⟨t1, t2⟩ := hT.term
  obtain ⟨n1, n2⟩ := hT.ends
  have hst := hT.stored
  have hmost := hT.most
  unfold okClock at hc
  refine ⟨id, Holds.mk ?_⟩
  obtain ⟨most, term, ss, opened, e0, e1, e2, e3, e4, e5, e6, e7, ends⟩ := T
  simp only at hlen o1 o2 t1 t2 n1 n2 hst hmost
  match ss, hlen, hst with
  | [], _, hst =>
    have hv := vcRenew0 ⟨most, term, [], opened, e0, e1, e2, e3, e4, e5, e6, e7, ends⟩  id clock (MPost (renewS id clock ⟨most, term, [], opened, e0, e1, e2, e3, e4, e5, e6, e7, ends⟩).2.1 (renewS id clock ⟨most, term, [], opened, e0, e1, e2, e3, e4, e5, e6, e7, ends⟩).2.2)
    dsimp only at hv
    rw [hv]
    clear hv
    repeat' first
      | refine ends_loop ⟨most, term, [], opened, e0, e1, e2, e3, e4, e5, e6, e7, ends⟩ rfl rfl n1 (SBle.refl _) ⟨SBle.refl _, trivial⟩ (SBle.refl _) ⟨SBle.refl _, trivial⟩ (fun hr => ?_) (fun hr => ?_)
      | refine ends_loop ⟨most, term, [], opened, e0, e1, e2, e3, e4, e5, e6, e7, ends⟩ rfl rfl n1 (SBle.refl _) trivial (SBle.refl _) trivial (fun hr => ?_) (fun hr => ?_)
      | refine And.intro ?_ ?_
      | (intro hh; simp [-Int.not_le] at hh)
    all_goals first
      | omega
      | (refine ⟨fun E => ?_, ?_⟩ <;> simp [renewS, Tb.mod, modSl, Tb.of, Tb.live, findSl, iv, SV.val, SV.vals, IsTb, pad4, *] <;> (try decide) <;> (try omega))
  | [a], _, hst =>
    have hv := vcRenew1 ⟨most, term, [a], opened, e0, e1, e2, e3, e4, e5, e6, e7, ends⟩ a id clock (MPost (renewS id clock ⟨most, term, [a], opened, e0, e1, e2, e3, e4, e5, e6, e7, ends⟩).2.1 (renewS id clock ⟨most, term, [a], opened, e0, e1, e2, e3, e4, e5, e6, e7, ends⟩).2.2)
    dsimp only at hv
    rw [hv]
    clear hv
    simp only [List.mem_cons, List.not_mem_nil, or_false, forall_eq_or_imp, forall_eq] at hst
    repeat' first
      | refine ends_loop ⟨most, term, [a], opened, e0, e1, e2, e3, e4, e5, e6, e7, ends⟩ rfl rfl n1 (SBle.refl _) ⟨SBle.refl _, trivial⟩ (SBle.refl _) ⟨SBle.refl _, trivial⟩ (fun hr => ?_) (fun hr => ?_)
      | refine ends_loop ⟨most, term, [a], opened, e0, e1, e2, e3, e4, e5, e6, e7, ends⟩ rfl rfl n1 (SBle.refl _) trivial (SBle.refl _) trivial (fun hr => ?_) (fun hr => ?_)
      | refine And.intro ?_ ?_
      | (intro hh; simp [-Int.not_le] at hh)
    all_goals first
      | omega
      | (refine ⟨fun E => ?_, ?_⟩ <;> simp [renewS, Tb.mod, modSl, Tb.of, Tb.live, findSl, iv, SV.val, SV.vals, IsTb, pad4, *] <;> (try decide) <;> (try omega))
  | [a, b], _, hst =>
    have hv := vcRenew2 ⟨most, term, [a, b], opened, e0, e1, e2, e3, e4, e5, e6, e7, ends⟩ a b id clock (MPost (renewS id clock ⟨most, term, [a, b], opened, e0, e1, e2, e3, e4, e5, e6, e7, ends⟩).2.1 (renewS id clock ⟨most, term, [a, b], opened, e0, e1, e2, e3, e4, e5, e6, e7, ends⟩).2.2)
    dsimp only at hv
    rw [hv]
    clear hv
    simp only [List.mem_cons, List.not_mem_nil, or_false, forall_eq_or_imp, forall_eq] at hst
    repeat' first
      | refine ends_loop ⟨most, term, [a, b], opened, e0, e1, e2, e3, e4, e5, e6, e7, ends⟩ rfl rfl n1 (SBle.refl _) ⟨SBle.refl _, trivial⟩ (SBle.refl _) ⟨SBle.refl _, trivial⟩ (fun hr => ?_) (fun hr => ?_)
      | refine ends_loop ⟨most, term, [a, b], opened, e0, e1, e2, e3, e4, e5, e6, e7, ends⟩ rfl rfl n1 (SBle.refl _) trivial (SBle.refl _) trivial (fun hr => ?_) (fun hr => ?_)
      | refine And.intro ?_ ?_
      | (intro hh; simp [-Int.not_le] at hh)
    all_goals first
      | omega
      | (refine ⟨fun E => ?_, ?_⟩ <;> simp [renewS, Tb.mod, modSl, Tb.of, Tb.live, findSl, iv, SV.val, SV.vals, IsTb, pad4, *] <;> (try decide) <;> (try omega))
  | [a, b, c], _, hst =>
    have hv := vcRenew3 ⟨most, term, [a, b, c], opened, e0, e1, e2, e3, e4, e5, e6, e7, ends⟩ a b c id clock (MPost (renewS id clock ⟨most, term, [a, b, c], opened, e0, e1, e2, e3, e4, e5, e6, e7, ends⟩).2.1 (renewS id clock ⟨most, term, [a, b, c], opened, e0, e1, e2, e3, e4, e5, e6, e7, ends⟩).2.2)
    dsimp only at hv
    rw [hv]
    clear hv
    simp only [List.mem_cons, List.not_mem_nil, or_false, forall_eq_or_imp, forall_eq] at hst
    repeat' first
      | refine ends_loop ⟨most, term, [a, b, c], opened, e0, e1, e2, e3, e4, e5, e6, e7, ends⟩ rfl rfl n1 (SBle.refl _) ⟨SBle.refl _, trivial⟩ (SBle.refl _) ⟨SBle.refl _, trivial⟩ (fun hr => ?_) (fun hr => ?_)
      | refine ends_loop ⟨most, term, [a, b, c], opened, e0, e1, e2, e3, e4, e5, e6, e7, ends⟩ rfl rfl n1 (SBle.refl _) trivial (SBle.refl _) trivial (fun hr => ?_) (fun hr => ?_)
      | refine And.intro ?_ ?_
      | (intro hh; simp [-Int.not_le] at hh)
    all_goals first
      | omega
      | (refine ⟨fun E => ?_, ?_⟩ <;> simp [renewS, Tb.mod, modSl, Tb.of, Tb.live, findSl, iv, SV.val, SV.vals, IsTb, pad4, *] <;> (try decide) <;> (try omega))
  | [a, b, c, d], _, hst =>
    have hv := vcRenew4 ⟨most, term, [a, b, c, d], opened, e0, e1, e2, e3, e4, e5, e6, e7, ends⟩ a b c d id clock (MPost (renewS id clock ⟨most, term, [a, b, c, d], opened, e0, e1, e2, e3, e4, e5, e6, e7, ends⟩).2.1 (renewS id clock ⟨most, term, [a, b, c, d], opened, e0, e1, e2, e3, e4, e5, e6, e7, ends⟩).2.2)
    dsimp only at hv
    rw [hv]
    clear hv
    simp only [List.mem_cons, List.not_mem_nil, or_false, forall_eq_or_imp, forall_eq] at hst
    repeat' first
      | refine ends_loop ⟨most, term, [a, b, c, d], opened, e0, e1, e2, e3, e4, e5, e6, e7, ends⟩ rfl rfl n1 (SBle.refl _) ⟨SBle.refl _, trivial⟩ (SBle.refl _) ⟨SBle.refl _, trivial⟩ (fun hr => ?_) (fun hr => ?_)
      | refine ends_loop ⟨most, term, [a, b, c, d], opened, e0, e1, e2, e3, e4, e5, e6, e7, ends⟩ rfl rfl n1 (SBle.refl _) trivial (SBle.refl _) trivial (fun hr => ?_) (fun hr => ?_)
      | refine And.intro ?_ ?_
      | (intro hh; simp [-Int.not_le] at hh)
    all_goals first
      | omega
      | (refine ⟨fun E => ?_, ?_⟩ <;> simp [renewS, Tb.mod, modSl, Tb.of, Tb.live, findSl, iv, SV.val, SV.vals, IsTb, pad4, *] <;> (try decide) <;> (try omega))
theorem repin_holds {T : Tb} (hT : T.Ok) (id block clock : Int) : ∃ i : Int, Holds (runT 21 Try.f21 T i [iv id, iv block, iv clock] (postK (MPost (repinS id block clock T).2.1 (repinS id block clock T).2.2))) := by
  have hlen := hT.len
  obtain ⟨o1, o2⟩ := hT.opened
  obtain ⟨t1, t2⟩ := hT.term
  obtain ⟨n1, n2⟩ := hT.ends
  have hst := hT.stored
  have hmost := hT.most
  refine ⟨id, Holds.mk ?_⟩
  obtain ⟨most, term, ss, opened, e0, e1, e2, e3, e4, e5, e6, e7, ends⟩ := T
  simp only at hlen o1 o2 t1 t2 n1 n2 hst hmost
  match ss, hlen, hst with
  | [], _, hst =>
    have hv := vcRepin0 ⟨most, term, [], opened, e0, e1, e2, e3, e4, e5, e6, e7, ends⟩  id block clock (MPost (repinS id block clock ⟨most, term, [], opened, e0, e1, e2, e3, e4, e5, e6, e7, ends⟩).2.1 (repinS id block clock ⟨most, term, [], opened, e0, e1, e2, e3, e4, e5, e6, e7, ends⟩).2.2)
    dsimp only at hv
    rw [hv]
    clear hv
    repeat' first
      | refine ends_loop ⟨most, term, [], opened, e0, e1, e2, e3, e4, e5, e6, e7, ends⟩ rfl rfl n1 (SBle.refl _) ⟨SBle.refl _, trivial⟩ (SBle.refl _) ⟨SBle.refl _, trivial⟩ (fun hr => ?_) (fun hr => ?_)
      | refine ends_loop ⟨most, term, [], opened, e0, e1, e2, e3, e4, e5, e6, e7, ends⟩ rfl rfl n1 (SBle.refl _) trivial (SBle.refl _) trivial (fun hr => ?_) (fun hr => ?_)
      | refine And.intro ?_ ?_
      | (intro hh; simp [-Int.not_le] at hh)
    all_goals first
      | omega
      | (refine ⟨fun E => ?_, ?_⟩ <;> simp [repinS, Tb.mod, modSl, Sl.zero, Tb.of, Tb.live, findSl, iv, SV.val, SV.vals, IsTb, pad4, *] <;> (try decide) <;> (try omega))
  | [a], _, hst =>
    have hv := vcRepin1 ⟨most, term, [a], opened, e0, e1, e2, e3, e4, e5, e6, e7, ends⟩ a id block clock (MPost (repinS id block clock ⟨most, term, [a], opened, e0, e1, e2, e3, e4, e5, e6, e7, ends⟩).2.1 (repinS id block clock ⟨most, term, [a], opened, e0, e1, e2, e3, e4, e5, e6, e7, ends⟩).2.2)
    dsimp only at hv
    rw [hv]
    clear hv
    simp only [List.mem_cons, List.not_mem_nil, or_false, forall_eq_or_imp, forall_eq] at hst
    repeat' first
      | refine ends_loop ⟨most, term, [a], opened, e0, e1, e2, e3, e4, e5, e6, e7, ends⟩ rfl rfl n1 (SBle.refl _) ⟨SBle.refl _, trivial⟩ (SBle.refl _) ⟨SBle.refl _, trivial⟩ (fun hr => ?_) (fun hr => ?_)
      | refine ends_loop ⟨most, term, [a], opened, e0, e1, e2, e3, e4, e5, e6, e7, ends⟩ rfl rfl n1 (SBle.refl _) trivial (SBle.refl _) trivial (fun hr => ?_) (fun hr => ?_)
      | refine And.intro ?_ ?_
      | (intro hh; simp [-Int.not_le] at hh)
    all_goals first
      | omega
      | (refine ⟨fun E => ?_, ?_⟩ <;> simp [repinS, Tb.mod, modSl, Sl.zero, Tb.of, Tb.live, findSl, iv, SV.val, SV.vals, IsTb, pad4, *] <;> (try decide) <;> (try omega))
  | [a, b], _, hst =>
    have hv := vcRepin2 ⟨most, term, [a, b], opened, e0, e1, e2, e3, e4, e5, e6, e7, ends⟩ a b id block clock (MPost (repinS id block clock ⟨most, term, [a, b], opened, e0, e1, e2, e3, e4, e5, e6, e7, ends⟩).2.1 (repinS id block clock ⟨most, term, [a, b], opened, e0, e1, e2, e3, e4, e5, e6, e7, ends⟩).2.2)
    dsimp only at hv
    rw [hv]
    clear hv
    simp only [List.mem_cons, List.not_mem_nil, or_false, forall_eq_or_imp, forall_eq] at hst
    repeat' first
      | refine ends_loop ⟨most, term, [a, b], opened, e0, e1, e2, e3, e4, e5, e6, e7, ends⟩ rfl rfl n1 (SBle.refl _) ⟨SBle.refl _, trivial⟩ (SBle.refl _) ⟨SBle.refl _, trivial⟩ (fun hr => ?_) (fun hr => ?_)
      | refine ends_loop ⟨most, term, [a, b], opened, e0, e1, e2, e3, e4, e5, e6, e7, ends⟩ rfl rfl n1 (SBle.refl _) trivial (SBle.refl _) trivial (fun hr => ?_) (fun hr => ?_)
      | refine And.intro ?_ ?_
      | (intro hh; simp [-Int.not_le] at hh)
    all_goals first
      | omega
      | (refine ⟨fun E => ?_, ?_⟩ <;> simp [repinS, Tb.mod, modSl, Sl.zero, Tb.of, Tb.live, findSl, iv, SV.val, SV.vals, IsTb, pad4, *] <;> (try decide) <;> (try omega))
  | [a, b, c], _, hst =>
    have hv := vcRepin3 ⟨most, term, [a, b, c], opened, e0, e1, e2, e3, e4, e5, e6, e7, ends⟩ a b c id block clock (MPost (repinS id block clock ⟨most, term, [a, b, c], opened, e0, e1, e2, e3, e4, e5, e6, e7, ends⟩).2.1 (repinS id block clock ⟨most, term, [a, b, c], opened, e0, e1, e2, e3, e4, e5, e6, e7, ends⟩).2.2)
    dsimp only at hv
    rw [hv]
    clear hv
    simp only [List.mem_cons, List.not_mem_nil, or_false, forall_eq_or_imp, forall_eq] at hst
    repeat' first
      | refine ends_loop ⟨most, term, [a, b, c], opened, e0, e1, e2, e3, e4, e5, e6, e7, ends⟩ rfl rfl n1 (SBle.refl _) ⟨SBle.refl _, trivial⟩ (SBle.refl _) ⟨SBle.refl _, trivial⟩ (fun hr => ?_) (fun hr => ?_)
      | refine ends_loop ⟨most, term, [a, b, c], opened, e0, e1, e2, e3, e4, e5, e6, e7, ends⟩ rfl rfl n1 (SBle.refl _) trivial (SBle.refl _) trivial (fun hr => ?_) (fun hr => ?_)
      | refine And.intro ?_ ?_
      | (intro hh; simp [-Int.not_le] at hh)
    all_goals first
      | omega
      | (refine ⟨fun E => ?_, ?_⟩ <;> simp [repinS, Tb.mod, modSl, Sl.zero, Tb.of, Tb.live, findSl, iv, SV.val, SV.vals, IsTb, pad4, *] <;> (try decide) <;> (try omega))
  | [a, b, c, d], _, hst =>
    have hv := vcRepin4 ⟨most, term, [a, b, c, d], opened, e0, e1, e2, e3, e4, e5, e6, e7, ends⟩ a b c d id block clock (MPost (repinS id block clock ⟨most, term, [a, b, c, d], opened, e0, e1, e2, e3, e4, e5, e6, e7, ends⟩).2.1 (repinS id block clock ⟨most, term, [a, b, c, d], opened, e0, e1, e2, e3, e4, e5, e6, e7, ends⟩).2.2)
    dsimp only at hv
    rw [hv]
    clear hv
    simp only [List.mem_cons, List.not_mem_nil, or_false, forall_eq_or_imp, forall_eq] at hst
    repeat' first
      | refine ends_loop ⟨most, term, [a, b, c, d], opened, e0, e1, e2, e3, e4, e5, e6, e7, ends⟩ rfl rfl n1 (SBle.refl _) ⟨SBle.refl _, trivial⟩ (SBle.refl _) ⟨SBle.refl _, trivial⟩ (fun hr => ?_) (fun hr => ?_)
      | refine ends_loop ⟨most, term, [a, b, c, d], opened, e0, e1, e2, e3, e4, e5, e6, e7, ends⟩ rfl rfl n1 (SBle.refl _) trivial (SBle.refl _) trivial (fun hr => ?_) (fun hr => ?_)
      | refine And.intro ?_ ?_
      | (intro hh; simp [-Int.not_le] at hh)
    all_goals first
      | omega
      | (refine ⟨fun E => ?_, ?_⟩ <;> simp [repinS, Tb.mod, modSl, Sl.zero, Tb.of, Tb.live, findSl, iv, SV.val, SV.vals, IsTb, pad4, *] <;> (try decide) <;> (try omega))
theorem release_holds {T : Tb} (hT : T.Ok) (id clock : Int) : ∃ i : Int, Holds (runT 17 Try.f17 T i [iv id, iv clock] (postK (MPost (releaseS id clock T).2.1 (releaseS id clock T).2.2))) := by
  have hlen := hT.len
  obtain ⟨o1, o2⟩ := hT.opened
  obtain ⟨t1, t2⟩ := hT.term
  obtain ⟨n1, n2⟩ := hT.ends
  have hst := hT.stored
  have hmost := hT.most
  refine ⟨id, Holds.mk ?_⟩
  obtain ⟨most, term, ss, opened, e0, e1, e2, e3, e4, e5, e6, e7, ends⟩ := T
  simp only at hlen o1 o2 t1 t2 n1 n2 hst hmost
  match ss, hlen, hst with
  | [], _, hst =>
    have hv := vcRelease0 ⟨most, term, [], opened, e0, e1, e2, e3, e4, e5, e6, e7, ends⟩  id clock (MPost (releaseS id clock ⟨most, term, [], opened, e0, e1, e2, e3, e4, e5, e6, e7, ends⟩).2.1 (releaseS id clock ⟨most, term, [], opened, e0, e1, e2, e3, e4, e5, e6, e7, ends⟩).2.2)
    dsimp only at hv
    rw [hv]
    clear hv
    repeat' first
      | refine ends_loop ⟨most, term, [], opened, e0, e1, e2, e3, e4, e5, e6, e7, ends⟩ rfl rfl n1 (SBle.refl _) ⟨SBle.refl _, trivial⟩ (SBle.refl _) ⟨SBle.refl _, trivial⟩ (fun hr => ?_) (fun hr => ?_)
      | refine ends_loop ⟨most, term, [], opened, e0, e1, e2, e3, e4, e5, e6, e7, ends⟩ rfl rfl n1 (SBle.refl _) trivial (SBle.refl _) trivial (fun hr => ?_) (fun hr => ?_)
      | refine And.intro ?_ ?_
      | (intro hh; simp [-Int.not_le] at hh)
    all_goals first
      | omega
      | (refine ⟨fun E => ?_, ?_⟩ <;> simp [releaseS, Tb.rel, delSl, Sl.zero, Tb.of, Tb.live, findSl, iv, SV.val, SV.vals, IsTb, pad4, *] <;> (try decide) <;> (try omega))
  | [a], _, hst =>
    have hv := vcRelease1 ⟨most, term, [a], opened, e0, e1, e2, e3, e4, e5, e6, e7, ends⟩ a id clock (MPost (releaseS id clock ⟨most, term, [a], opened, e0, e1, e2, e3, e4, e5, e6, e7, ends⟩).2.1 (releaseS id clock ⟨most, term, [a], opened, e0, e1, e2, e3, e4, e5, e6, e7, ends⟩).2.2)
    dsimp only at hv
    rw [hv]
    clear hv
    simp only [List.mem_cons, List.not_mem_nil, or_false, forall_eq_or_imp, forall_eq] at hst
    repeat' first
      | refine ends_loop ⟨most, term, [a], opened, e0, e1, e2, e3, e4, e5, e6, e7, ends⟩ rfl rfl n1 (SBle.refl _) ⟨SBle.refl _, trivial⟩ (SBle.refl _) ⟨SBle.refl _, trivial⟩ (fun hr => ?_) (fun hr => ?_)
      | refine ends_loop ⟨most, term, [a], opened, e0, e1, e2, e3, e4, e5, e6, e7, ends⟩ rfl rfl n1 (SBle.refl _) trivial (SBle.refl _) trivial (fun hr => ?_) (fun hr => ?_)
      | refine And.intro ?_ ?_
      | (intro hh; simp [-Int.not_le] at hh)
    all_goals first
      | omega
      | (refine ⟨fun E => ?_, ?_⟩ <;> simp [releaseS, Tb.rel, delSl, Sl.zero, Tb.of, Tb.live, findSl, iv, SV.val, SV.vals, IsTb, pad4, *] <;> (try decide) <;> (try omega))
  | [a, b], _, hst =>
    have hv := vcRelease2 ⟨most, term, [a, b], opened, e0, e1, e2, e3, e4, e5, e6, e7, ends⟩ a b id clock (MPost (releaseS id clock ⟨most, term, [a, b], opened, e0, e1, e2, e3, e4, e5, e6, e7, ends⟩).2.1 (releaseS id clock ⟨most, term, [a, b], opened, e0, e1, e2, e3, e4, e5, e6, e7, ends⟩).2.2)
    dsimp only at hv
    rw [hv]
    clear hv
    simp only [List.mem_cons, List.not_mem_nil, or_false, forall_eq_or_imp, forall_eq] at hst
    repeat' first
      | refine ends_loop ⟨most, term, [a, b], opened, e0, e1, e2, e3, e4, e5, e6, e7, ends⟩ rfl rfl n1 (SBle.refl _) ⟨SBle.refl _, trivial⟩ (SBle.refl _) ⟨SBle.refl _, trivial⟩ (fun hr => ?_) (fun hr => ?_)
      | refine ends_loop ⟨most, term, [a, b], opened, e0, e1, e2, e3, e4, e5, e6, e7, ends⟩ rfl rfl n1 (SBle.refl _) trivial (SBle.refl _) trivial (fun hr => ?_) (fun hr => ?_)
      | refine And.intro ?_ ?_
      | (intro hh; simp [-Int.not_le] at hh)
    all_goals first
      | omega
      | (refine ⟨fun E => ?_, ?_⟩ <;> simp [releaseS, Tb.rel, delSl, Sl.zero, Tb.of, Tb.live, findSl, iv, SV.val, SV.vals, IsTb, pad4, *] <;> (try decide) <;> (try omega))
  | [a, b, c], _, hst =>
    have hv := vcRelease3 ⟨most, term, [a, b, c], opened, e0, e1, e2, e3, e4, e5, e6, e7, ends⟩ a b c id clock (MPost (releaseS id clock ⟨most, term, [a, b, c], opened, e0, e1, e2, e3, e4, e5, e6, e7, ends⟩).2.1 (releaseS id clock ⟨most, term, [a, b, c], opened, e0, e1, e2, e3, e4, e5, e6, e7, ends⟩).2.2)
    dsimp only at hv
    rw [hv]
    clear hv
    simp only [List.mem_cons, List.not_mem_nil, or_false, forall_eq_or_imp, forall_eq] at hst
    repeat' first
      | refine ends_loop ⟨most, term, [a, b, c], opened, e0, e1, e2, e3, e4, e5, e6, e7, ends⟩ rfl rfl n1 (SBle.refl _) ⟨SBle.refl _, trivial⟩ (SBle.refl _) ⟨SBle.refl _, trivial⟩ (fun hr => ?_) (fun hr => ?_)
      | refine ends_loop ⟨most, term, [a, b, c], opened, e0, e1, e2, e3, e4, e5, e6, e7, ends⟩ rfl rfl n1 (SBle.refl _) trivial (SBle.refl _) trivial (fun hr => ?_) (fun hr => ?_)
      | refine And.intro ?_ ?_
      | (intro hh; simp [-Int.not_le] at hh)
    all_goals first
      | omega
      | (refine ⟨fun E => ?_, ?_⟩ <;> simp [releaseS, Tb.rel, delSl, Sl.zero, Tb.of, Tb.live, findSl, iv, SV.val, SV.vals, IsTb, pad4, *] <;> (try decide) <;> (try omega))
  | [a, b, c, d], _, hst =>
    have hv := vcRelease4 ⟨most, term, [a, b, c, d], opened, e0, e1, e2, e3, e4, e5, e6, e7, ends⟩ a b c d id clock (MPost (releaseS id clock ⟨most, term, [a, b, c, d], opened, e0, e1, e2, e3, e4, e5, e6, e7, ends⟩).2.1 (releaseS id clock ⟨most, term, [a, b, c, d], opened, e0, e1, e2, e3, e4, e5, e6, e7, ends⟩).2.2)
    dsimp only at hv
    rw [hv]
    clear hv
    simp only [List.mem_cons, List.not_mem_nil, or_false, forall_eq_or_imp, forall_eq] at hst
    repeat' first
      | refine ends_loop ⟨most, term, [a, b, c, d], opened, e0, e1, e2, e3, e4, e5, e6, e7, ends⟩ rfl rfl n1 (SBle.refl _) ⟨SBle.refl _, trivial⟩ (SBle.refl _) ⟨SBle.refl _, trivial⟩ (fun hr => ?_) (fun hr => ?_)
      | refine ends_loop ⟨most, term, [a, b, c, d], opened, e0, e1, e2, e3, e4, e5, e6, e7, ends⟩ rfl rfl n1 (SBle.refl _) trivial (SBle.refl _) trivial (fun hr => ?_) (fun hr => ?_)
      | refine And.intro ?_ ?_
      | (intro hh; simp [-Int.not_le] at hh)
    all_goals first
      | omega
      | (refine ⟨fun E => ?_, ?_⟩ <;> simp [releaseS, Tb.rel, delSl, Sl.zero, Tb.of, Tb.live, findSl, iv, SV.val, SV.vals, IsTb, pad4, *] <;> (try decide) <;> (try omega))
end Go.Proofs.Ytobbhdmbblhgaaa
