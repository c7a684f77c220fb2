/-
  Lease, in plain Lean: what is so of each table that there can be.
-/
import Derived.Test.YtobbhdmbblhgaaaLsG
namespace Go.Proofs.Ytobbhdmbblhgaaa
open Go Sx

theorem ite_comm_eq {α : Type} {a b : Nat} {x y : α} : (if a = b then x else y) = (if b = a then x else y) := by
  by_cases h : a = b
  · rw [if_pos h, if_pos h.symm]
  · rw [if_neg h, if_neg (fun e => h e.symm)]
theorem told_ring (T : Tb) (id : Int) : ∀ q, q < 8 → sel (T.told id).ring q = if q = (T.ends % 8).toNat then id else sel T.ring q := by
  intro q hq
  match q, hq with
  | 0, _ => simp only [Tb.told, Tb.ring, sel, List.getD_cons_zero]; exact ite_comm_eq
  | 1, _ => simp only [Tb.told, Tb.ring, sel, List.getD_cons_zero, List.getD_cons_succ]; exact ite_comm_eq
  | 2, _ => simp only [Tb.told, Tb.ring, sel, List.getD_cons_zero, List.getD_cons_succ]; exact ite_comm_eq
  | 3, _ => simp only [Tb.told, Tb.ring, sel, List.getD_cons_zero, List.getD_cons_succ]; exact ite_comm_eq
  | 4, _ => simp only [Tb.told, Tb.ring, sel, List.getD_cons_zero, List.getD_cons_succ]; exact ite_comm_eq
  | 5, _ => simp only [Tb.told, Tb.ring, sel, List.getD_cons_zero, List.getD_cons_succ]; exact ite_comm_eq
  | 6, _ => simp only [Tb.told, Tb.ring, sel, List.getD_cons_zero, List.getD_cons_succ]; exact ite_comm_eq
  | 7, _ => simp only [Tb.told, Tb.ring, sel, List.getD_cons_zero, List.getD_cons_succ]; exact ite_comm_eq
theorem told_ends (T : Tb) (id : Int) : (T.told id).ends = T.ends + 1 := rfl
theorem told_recent {T : Tb} {j id : Int} (h0 : 0 ≤ T.ends) (h : (T.told j).recent id) : id = j ∨ T.recent id := by
  obtain ⟨i, hi, hs⟩ := h
  rw [told_ends] at hi
  rw [told_ring T j i (by omega)] at hs
  split at hs
  · exact .inl hs.symm
  · rename_i hne
    exact .inr ⟨i, by omega, hs⟩
theorem tells_recent {id : Int} : ∀ (l : List Sl) (T : Tb), 0 ≤ T.ends → (T.tells l).recent id → (∃ s ∈ l, s.id = id) ∨ T.recent id
  | [], T, _, h => .inr h
  | s :: r, T, h0, h => by
    rcases tells_recent r (T.told s.id) (by rw [told_ends]; omega) h with ⟨x, hx, he⟩ | h
    · exact .inl ⟨x, List.mem_cons_of_mem _ hx, he⟩
    · rcases told_recent h0 h with rfl | h
      · exact .inl ⟨s, List.mem_cons_self .., rfl⟩
      · exact .inr h
theorem tells_keep : ∀ (l : List Sl) (T : Tb) (q : Nat), 0 ≤ T.ends → q < 8 → (∀ p : Nat, p < l.length → ((T.ends + p) % 8).toNat ≠ q) → sel (T.tells l).ring q = sel T.ring q
  | [], T, q, _, _, _ => rfl
  | s :: r, T, q, h0, hq, h => by
    have h1 := h 0 (by simp)
    show sel ((T.told s.id).tells r).ring q = _
    rw [tells_keep r (T.told s.id) q (by rw [told_ends]; omega) hq (fun p hp => by
      have := h (p + 1) (by simp; omega)
      rw [told_ends, show T.ends + 1 + (p : Int) = T.ends + ((p + 1 : Nat) : Int) by omega]
      exact this), told_ring T s.id q hq, if_neg]
    intro e
    exact h1 (by rw [e]; congr 2; omega)
theorem tells_slot : ∀ (l : List Sl) (T : Tb) (p : Nat) (hp : p < l.length), 0 ≤ T.ends → l.length ≤ 8 → sel (T.tells l).ring ((T.ends + p) % 8).toNat = (l[p]).id
  | [], _, p, hp, _, _ => by simp at hp
  | s :: r, T, 0, hp, h0, hl => by
    show sel ((T.told s.id).tells r).ring _ = s.id
    rw [tells_keep r (T.told s.id) _ (by rw [told_ends]; omega) (by omega) (fun p hp => by
      rw [told_ends]; simp at hl; omega), told_ring T s.id _ (by omega), if_pos]
    congr 2; omega
  | s :: r, T, p + 1, hp, h0, hl => by
    have := tells_slot r (T.told s.id) p (by simpa using hp) (by rw [told_ends]; omega) (by simp at hl; omega)
    rw [told_ends] at this
    show sel ((T.told s.id).tells r).ring _ = (r[p]'_).id
    rw [← this]
    congr 3; omega
theorem tells_has {T : Tb} {l : List Sl} (h0 : 0 ≤ T.ends) (hl : l.length ≤ 8) {s : Sl} (hs : s ∈ l) : (T.tells l).recent s.id := by
  obtain ⟨p, hp, rfl⟩ := List.mem_iff_getElem.1 hs
  refine ⟨((T.ends + p) % 8).toNat, ?_, tells_slot l T p hp h0 hl⟩
  rw [tells_ends]
  omega
theorem tells_same (T : Tb) : ∀ l : List Sl, (T.tells l).most = T.most ∧ (T.tells l).term = T.term ∧ (T.tells l).opened = T.opened := by
  intro l
  induction l generalizing T with
  | nil => exact ⟨rfl, rfl, rfl⟩
  | cons s r ih => exact ih (T.told s.id)

theorem Inv.mono {M : Int} {k : Nat} {T : Tb} (h : Inv M k T) {k' : Nat} (hk : k ≤ k') (h6 : k' ≤ 60) : Inv M k' T :=
  { h with opened := ⟨h.opened.1, by have := h.opened.2; omega⟩, few := h6 }
theorem modSl_ids {id : Int} {f : Sl → Sl} (hf : ∀ s, (f s).id = s.id) : ∀ l : List Sl, (modSl id f l).map (·.id) = l.map (·.id)
  | [] => rfl
  | s :: r => by
    simp only [modSl]
    split
    · simp [hf]
    · simp [modSl_ids hf r]
theorem modSl_mem {id : Int} {f : Sl → Sl} : ∀ {l : List Sl} {x : Sl}, x ∈ modSl id f l → x ∈ l ∨ ∃ s ∈ l, x = f s
  | [], x, h => by cases h
  | s :: r, x, h => by
    simp only [modSl] at h
    split at h
    · rcases List.mem_cons.1 h with rfl | h
      · exact .inr ⟨s, List.mem_cons_self .., rfl⟩
      · exact .inl (List.mem_cons_of_mem _ h)
    · rcases List.mem_cons.1 h with rfl | h
      · exact .inl (List.mem_cons_self ..)
      · rcases modSl_mem h with h | ⟨t, ht, he⟩
        · exact .inl (List.mem_cons_of_mem _ h)
        · exact .inr ⟨t, List.mem_cons_of_mem _ ht, he⟩
/-- Other sessions, of the same Ids. -/
theorem Inv.ids_of {M : Int} {k : Nat} {T : Tb} (h : Inv M k T) {l : List Sl} (hl : l.map (·.id) = T.ss.map (·.id)) (hst : ∀ s ∈ l, 0 ≤ s.stored ∧ s.stored ≤ 2) : Inv M k { T with ss := l } := by
  have hlen : l.length = T.ss.length := by simpa using congrArg List.length hl
  have hmem : ∀ s ∈ l, ∃ t ∈ T.ss, t.id = s.id := fun s hs => by
    have : s.id ∈ T.ss.map (·.id) := by rw [← hl]; exact List.mem_map_of_mem hs
    simpa using this
  refine ⟨⟨by rw [hlen]; exact h.ok.len, h.ok.most, h.ok.term, h.ok.opened, h.ok.ends, hst⟩, h.most, by rw [hlen]; exact h.len, h.opened, h.few, ?_, fun s hs => ?_, by rw [hlen]; exact h.ends, fun id hr => ⟨(h.ring id hr).1, fun s hs => ?_⟩⟩
  · have := h.ids
    rw [← List.pairwise_map (f := fun s : Sl => s.id) (R := fun a b => a < b)] at this ⊢
    rw [hl]; exact this
  · obtain ⟨t, ht, he⟩ := hmem s hs
    have := h.pos t ht
    rw [he] at this; exact this
  · obtain ⟨t, ht, he⟩ := hmem s hs
    have := (h.ring id hr).2 t ht
    rw [he] at this; exact this
theorem Inv.mod {M : Int} {k : Nat} {T : Tb} (h : Inv M k T) {id : Int} {f : Sl → Sl} (hf : ∀ s, (f s).id = s.id) (hs : ∀ s, 0 ≤ s.stored ∧ s.stored ≤ 2 → 0 ≤ (f s).stored ∧ (f s).stored ≤ 2) : Inv M k { T with ss := modSl id f T.ss } :=
  h.ids_of (modSl_ids hf _) fun s hm => by
    rcases modSl_mem hm with hm | ⟨t, ht, rfl⟩
    · exact h.ok.stored s hm
    · exact hs t (h.ok.stored t ht)
theorem Inv.sub {M : Int} {k : Nat} {T : Tb} (h : Inv M k T) {l : List Sl} (hl : l.Sublist T.ss) : Inv M k { T with ss := l } := by
  have hlen := hl.length_le
  have h1 := h.ok.len
  have h2 := h.len
  have h3 := h.ends
  exact ⟨⟨by show l.length ≤ 4; omega, h.ok.most, h.ok.term, h.ok.opened, h.ok.ends, fun s hs => h.ok.stored s (hl.subset hs)⟩, h.most, by show (l.length : Int) ≤ M; omega, h.opened, h.few, h.ids.sublist hl, fun s hs => h.pos s (hl.subset hs), ⟨h3.1, by show T.ends + l.length ≤ T.opened; omega⟩,
    fun id hr => ⟨(h.ring id hr).1, fun s hs => (h.ring id hr).2 s (hl.subset hs)⟩⟩
theorem delSl_sub (id : Int) : ∀ l : List Sl, (delSl id l).Sublist l
  | [] => .slnil
  | s :: r => by
    simp only [delSl]
    split
    · exact List.sublist_cons_self ..
    · exact (delSl_sub id r).cons_cons s
theorem over_left_len (clock : Int) : ∀ l : List Sl, (over clock l).length + (left clock l).length = l.length
  | [] => rfl
  | s :: r => by
    have ih := over_left_len clock r
    by_cases hs : s.dl ≤ clock
    · rw [show over clock (s :: r) = s :: over clock r from by simp [over, hs], show left clock (s :: r) = left clock r from by simp [left, hs]]
      simp only [List.length_cons]; omega
    · rw [show over clock (s :: r) = over clock r from by simp [over, hs], show left clock (s :: r) = s :: left clock r from by simp [left, List.filter_cons]; omega]
      simp only [List.length_cons]; omega
theorem Inv.expire {M : Int} {k : Nat} {T : Tb} (h : Inv M k T) (clock : Int) : Inv M k (T.expire clock) := by
  have hl := over_left_len clock T.ss
  obtain ⟨e1, e2, e3⟩ := tells_same T (over clock T.ss)
  have h0 := h.ends.1
  have h1 := h.ends.2
  have hsub : (left clock T.ss).Sublist T.ss := List.filter_sublist
  have ho := h.opened
  have hf := h.few
  have hok := h.ok
  have hlen := hsub.length_le
  have hends : (T.expire clock).ends = T.ends + (over clock T.ss).length := tells_ends T _
  have hop : (T.expire clock).opened = T.opened := e3
  have hss : (T.expire clock).ss = left clock T.ss := rfl
  refine ⟨⟨by rw [hss]; have := hok.len; omega, by show (T.tells _).most ≤ 4; rw [e1]; exact hok.most, by show 1 ≤ (T.tells _).term ∧ (T.tells _).term ≤ 1000; rw [e2]; exact hok.term, by rw [hop]; exact hok.opened, by rw [hends]; omega, fun s hs => hok.stored s (hsub.subset hs)⟩,
    ⟨by show (T.tells _).most = M; rw [e1]; exact h.most.1, h.most.2⟩, by rw [hss]; have := h.len; omega, by rw [hop]; exact ho, hf, h.ids.sublist hsub, fun s hs => by rw [hop]; exact h.pos s (hsub.subset hs), by rw [hends, hop, hss]; omega, fun id hr => ?_⟩
  rw [hop]
  have hr' : (T.tells (over clock T.ss)).recent id := hr
  rcases tells_recent _ T h0 hr' with ⟨s, hs, rfl⟩ | hr
  · have hsm : s ∈ T.ss := (List.mem_filter.1 hs).1
    refine ⟨(h.pos s hsm).2, fun t ht he => ?_⟩
    have htm : t ∈ T.ss := hsub.subset ht
    have hts : t = s := by
      have hp := h.ids
      obtain ⟨i, hi, rfl⟩ := List.mem_iff_getElem.1 htm
      obtain ⟨j, hj, rfl⟩ := List.mem_iff_getElem.1 hsm
      have hpp := List.pairwise_iff_getElem.1 hp
      rcases Nat.lt_trichotomy i j with h1 | h1 | h1
      · have := hpp i j hi hj h1; omega
      · subst h1; rfl
      · have := hpp j i hj hi h1; omega
    subst hts
    have a1 := (List.mem_filter.1 hs).2
    have a2 := (List.mem_filter.1 ht).2
    simp only [decide_eq_true_eq] at a1 a2
    exact a2 a1
  · exact ⟨(h.ring id hr).1, fun t ht => (h.ring id hr).2 t (hsub.subset ht)⟩
theorem Inv.open {M : Int} {k : Nat} {T : Tb} (h : Inv M k T) (hk : k + 1 ≤ 60) (block clock : Int) : Inv M (k + 1) (T.open block clock) := by
  unfold Tb.open
  split
  · exact h.mono (by omega) hk
  · rename_i hnf
    have hn : ¬ (T.most ≤ T.ss.length ∨ 1048576 ≤ T.opened) := hnf
    have hm := h.most
    have ho := h.opened
    have he := h.ends
    have hlen : (T.ss ++ [(⟨T.opened + 1, block, clock + T.term, 0, 0, [], 0, [], 0⟩ : Sl)]).length = T.ss.length + 1 := by simp
    refine ⟨⟨by rw [hlen]; omega, h.ok.most, h.ok.term, ⟨by show 0 ≤ T.opened + 1; omega, by show T.opened + 1 ≤ 1048576; omega⟩, h.ok.ends, fun s hs => ?_⟩, hm, by rw [hlen]; omega, ⟨by show 0 ≤ T.opened + 1; omega, by show T.opened + 1 ≤ _; omega⟩, hk, ?_, fun s hs => ?_, ⟨he.1, by rw [hlen]; show T.ends + _ ≤ T.opened + 1; omega⟩, fun id hr => ?_⟩
    · rcases List.mem_append.1 hs with hs | hs
      · exact h.ok.stored s hs
      · simp at hs; subst hs; simp
    · rw [List.pairwise_append]
      refine ⟨h.ids, List.pairwise_singleton _ _, fun a ha b hb => ?_⟩
      simp at hb; subst hb
      have := (h.pos a ha).2
      show a.id < T.opened + 1
      omega
    · show 1 ≤ s.id ∧ s.id ≤ T.opened + 1
      rcases List.mem_append.1 hs with hs | hs
      · have := h.pos s hs; omega
      · simp at hs; subst hs; show 1 ≤ T.opened + 1 ∧ T.opened + 1 ≤ T.opened + 1; omega
    · have hr' : T.recent id := hr
      have := h.ring id hr'
      refine ⟨by show id ≤ T.opened + 1; omega, fun s hs => ?_⟩
      rcases List.mem_append.1 hs with hs | hs
      · exact this.2 s hs
      · simp at hs; subst hs; show T.opened + 1 ≠ id; omega
theorem storeSl_id (seq : Int) (t : List UInt8) (s : Sl) : (storeSl seq t s).id = s.id := by unfold storeSl; split <;> (try split) <;> rfl
theorem storeSl_stored (seq : Int) (t : List UInt8) (s : Sl) (h : 0 ≤ s.stored ∧ s.stored ≤ 2) : 0 ≤ (storeSl seq t s).stored ∧ (storeSl seq t s).stored ≤ 2 := by
  unfold storeSl
  split
  · exact h
  · split
    · show (0 : Int) ≤ 2 ∧ (2 : Int) ≤ 2; omega
    · show (0 : Int) ≤ 1 ∧ (1 : Int) ≤ 2; omega
theorem Inv.act {M : Int} {k : Nat} {T : Tb} (h : Inv M k T) (hk : k + 1 ≤ 60) (a : Ac) : Inv M (k + 1) (T.act a).2 := by
  have hm := h.mono (Nat.le_succ k) hk
  unfold Tb.act
  split
  · exact h.open hk _ _
  split
  · exact hm
  split
  · show Inv M (k + 1) (T.mod _ _ _)
    unfold Tb.mod
    split
    · exact hm.mod (fun _ => rfl) (fun _ h => h)
    · exact hm
  split
  · show Inv M (k + 1) (T.mod _ _ _)
    unfold Tb.mod
    split
    · exact hm.mod (fun _ => rfl) (fun _ h => h)
    · exact hm
  split
  · show Inv M (k + 1) (T.rel _ _)
    unfold Tb.rel
    split
    · exact hm.sub (delSl_sub _ _)
    · exact hm
  split
  · exact hm.expire _
  split
  · show Inv M (k + 1) (T.store _ _ _)
    unfold Tb.store
    split
    · exact hm.mod (storeSl_id _ _) (storeSl_stored _ _)
    · exact hm
  · exact hm
/-- The table at the beginning. -/
def newTb (most term : Int) : Tb := ⟨min (max most 1) 4, min (max term 1) 1000, [], 0, 0, 0, 0, 0, 0, 0, 0, 0, 0⟩
theorem inv_new (most term : Int) : Inv (topM most) 0 (newTb most term) := by
  unfold topM
  refine ⟨⟨by simp [newTb], by simp only [newTb]; omega, by simp only [newTb]; omega, by simp [newTb], by simp [newTb], fun s hs => by simp [newTb] at hs⟩, ⟨rfl, by omega, by omega⟩, by simp only [newTb, List.length_nil]; omega, by simp [newTb], by omega, by simp [newTb], fun s hs => by simp [newTb] at hs, by simp [newTb], fun id hr => ?_⟩
  obtain ⟨i, hi, _⟩ := hr
  simp only [newTb] at hi
  omega
theorem kept_le : ∀ {l : List Sl}, (∀ s ∈ l, 0 ≤ s.stored ∧ s.stored ≤ 2) → 0 ≤ kept l ∧ kept l ≤ 2 * l.length
  | [], _ => by simp [kept]
  | s :: r, h => by
    have h1 := h s (List.mem_cons_self ..)
    have h2 := kept_le (l := r) fun t ht => h t (List.mem_cons_of_mem _ ht)
    simp only [kept, List.length_cons]
    omega
end Go.Proofs.Ytobbhdmbblhgaaa
