/-
  Lease: LeaseReleases' run.
-/
import Derived.Test.YtobbhdmbblhgaaaLsV8
namespace Go.Proofs.Ytobbhdmbblhgaaa
open Go Sx

/-! ### Plain facts -/
def toB (s : Sl) : Sl := ⟨s.id, s.block, s.dl, s.last, 0, [], 0, [], 0⟩
theorem toB_bare (s : Sl) : (toB s).bare = s.bare := rfl
theorem slN_succ (k : Nat) (r : Nat → Sl) : slN (k + 1) r = slN k r ++ [r k] := by rw [slN_eq, slN_eq, List.range_succ]; simp
theorem slN_rows (l : List Sl) : slN l.length (fun i => toB (l.getD i Sl.zero)) = l.map toB := by
  rw [slN_eq]
  have h := slN_get l
  rw [slN_eq] at h
  have : (List.range l.length).map (fun i => toB (l.getD i Sl.zero)) = ((List.range l.length).map (fun i => l.getD i Sl.zero)).map toB := by simp
  rw [this, h]
theorem filter_bare {p : Sl → Bool} (hp : ∀ s, p (toB s) = p s) : ∀ l : List Sl, ((l.map toB).filter p).map Sl.bare = (l.filter p).map Sl.bare
  | [] => rfl
  | s :: r => by
    have ih := filter_bare hp r
    cases h : p s with
    | true => simp only [List.map_cons, List.filter_cons, hp, h, if_true, toB_bare, ih]
    | false => simp only [List.map_cons, List.filter_cons, hp, h, Bool.false_eq_true, if_false, ih]
theorem left_start (n : Nat) (p : Sl → Bool) (r : Nat → Sl) : LeftPre n p r ⟨0, [], 0⟩ := ⟨Nat.zero_le _, Nat.le_refl _, Nat.le_refl _, rfl⟩
theorem left_take {n : Nat} {p : Sl → Bool} {r : Nat → Sl} {x : LeftG} (h : LeftPre n p r x) (hk : x.k < n) (hp : p (r x.k) = true) {s : Sl} (hs : s.bare = (r x.k).bare) {c : Nat} (hc : x.l.length + 1 ≤ c) : LeftPre n p r ⟨x.k + 1, x.l ++ [s], c⟩ := by
  refine ⟨hk, ?_, ?_, ?_⟩
  · have := h.few; simp; omega
  · simpa using hc
  · show (x.l ++ [s]).map Sl.bare = ((slN (x.k + 1) r).filter p).map Sl.bare
    rw [slN_succ, List.filter_append, List.map_append, List.map_append, h.is]
    simp [hp, hs]
theorem left_pass {n : Nat} {p : Sl → Bool} {r : Nat → Sl} {x : LeftG} (h : LeftPre n p r x) (hk : x.k < n) (hp : p (r x.k) = false) : LeftPre n p r ⟨x.k + 1, x.l, x.c⟩ := by
  refine ⟨hk, ?_, h.cap, ?_⟩
  · have := h.few; show x.l.length ≤ x.k + 1; omega
  · show x.l.map Sl.bare = ((slN (x.k + 1) r).filter p).map Sl.bare
    rw [slN_succ, List.filter_append, List.map_append, h.is]
    simp [hp]
theorem findSl_none {id : Int} : ∀ {l : List Sl}, findSl id l = none ↔ ∀ s ∈ l, s.id ≠ id
  | [] => by simp [findSl]
  | s :: r => by
    simp only [findSl]
    split
    · rename_i h; simp [h]
    · rename_i h; rw [findSl_none]; simp [h]
theorem findSl_mem {id : Int} : ∀ {l : List Sl} {s : Sl}, findSl id l = some s → s ∈ l ∧ s.id = id
  | [], _, h => by cases h
  | t :: r, s, h => by
    simp only [findSl] at h
    split at h
    · rename_i e; injection h with h; subst h; exact ⟨List.mem_cons_self .., e⟩
    · have := findSl_mem h; exact ⟨List.mem_cons_of_mem _ this.1, this.2⟩
theorem live_zero {T : Tb} {id c : Int} (h : T.live id c = 0) : ∃ s, findSl id T.ss = some s ∧ ¬ s.dl ≤ c := by
  unfold Tb.live at h
  split at h
  · split at h <;> cases h
  · rename_i s hs
    split at h
    · cases h
    · rename_i hd; exact ⟨s, hs, hd⟩
theorem delSl_filter {id : Int} : ∀ {l : List Sl}, (l.Pairwise fun a b => a.id < b.id) → delSl id l = l.filter fun s => decide (s.id ≠ id)
  | [], _ => rfl
  | s :: r, h => by
    rw [List.pairwise_cons] at h
    simp only [delSl]
    split
    · rename_i e
      have : (r.filter fun s => decide (s.id ≠ id)) = r := List.filter_eq_self.2 fun t ht => by have := h.1 t ht; simp; omega
      rw [List.filter_cons, if_neg (by simp [e]), this]
    · rename_i e
      rw [List.filter_cons, if_pos (by simp [e]), delSl_filter h.2]
theorem delSl_len {id : Int} : ∀ {l : List Sl} {s : Sl}, findSl id l = some s → (delSl id l).length + 1 = l.length
  | [], _, h => by cases h
  | t :: r, s, h => by
    simp only [findSl, delSl] at h ⊢
    split
    · rfl
    · rename_i e; rw [if_neg e] at h; simp [delSl_len h]
theorem find_del {id : Int} {l : List Sl} (h : l.Pairwise fun a b => a.id < b.id) : findSl id (delSl id l) = none := by
  rw [delSl_filter h, findSl_none]
  intro s hs
  have := (List.mem_filter.1 hs).2
  simpa using this
theorem okB3 {l b : Bool} (h : b = true) : ∃ l', SV.bool l b = SV.bool l' true := ⟨l, by rw [h]⟩
theorem new_le3 (most term : Int) {cs : List SV} (h : ∀ E : Nat → Nat, (newTb most term).svO.map (SV.val E) = cs.map (SV.val E)) : SBle (SB.cells cs 49 tableT) (newTb most term).sbO := SBle.cells h rfl
/-- One row of sessions, that may be nil or not, serves to be read. -/
theorem rows_ro {z : Bool} {n : Nat} {cols : List Col} {tot : Nat} {ty : TypeId} : SBle (.rows z n cols false tot ty) (.rows z n cols true tot ty) :=
  fun hn => ⟨hn, fun E o ⟨c, fr, h1, _, h3⟩ => ⟨c, fr, h1, (fun h => by cases h), h3⟩, fun h => by cases h⟩
set_option maxRecDepth 10000 in
set_option maxHeartbeats 4000000 in
theorem rel_holds (most term id clock : Int) (z : Bool) (o n c : Nat) (g : Nat → Ac) : Holds (relVC most term id clock z o n c 1 g fun v => ∃ l, v = .bool l true) := by
  refine Holds.of_eq (vcRel most term id clock z o n c g _) ?_
  refine ⟨g, SBle.refl _, fun d hd => ⟨fun h => ⟨_, rfl⟩, fun h => ⟨fun _ => ⟨_, rfl⟩, fun hc0 => ⟨fun _ => ⟨_, rfl⟩, fun hc1 => ⟨⟨⟨0, newTb most term⟩, ⟨Nat.zero_le _, inv_new most term⟩, rfl, new_le3 most term fun E => rfl, SBle.refl _, trivial⟩, fun x hx => ⟨fun hlt => ?_, fun _ => ?_⟩⟩⟩⟩⟩⟩
  · have hd1 : d = true := by cases d <;> simp at h ⊢
    obtain ⟨hf1, hf2⟩ := hd hd1
    obtain ⟨hxi, hI⟩ := hx
    have hlt' : x.i < n := by simpa using hlt
    have hcl := hf2 x.i hlt'
    have hI' := hI.act (by omega) (g x.i)
    simp only [Int.toNat_natCast, Nat.zero_add]
    exact ⟨⟨by omega, by omega⟩, ⟨trivial, hlt'⟩, x.T, SBle.refl _, ⟨hI.ok, hcl⟩, fun c1 _ => ⟨⟨by omega, by omega⟩, ⟨x.i + 1, (x.T.act (g x.i)).2⟩, ⟨⟨hlt', hI'⟩, by show n - (x.i + 1) < n - x.i; omega⟩, by show (x.i : Int) + 1 = ((x.i + 1 : Nat) : Int); omega, SBle.refl _, SBle.refl _, trivial⟩⟩
  · obtain ⟨hxi, hI⟩ := hx
    have hclk : okClock clock := by
      simp only [decide_eq_false_iff_not] at hc0 hc1
      exact ⟨by omega, by omega⟩
    obtain ⟨i, T⟩ := x
    simp only at hI hxi ⊢
    have hlen4 := hI.ok.len
    refine ⟨T, SBle.refl _, ⟨hI.ok, trivial⟩, T, SBle.refl _, ⟨hI.ok, trivial⟩, fun c1 hc1 => ⟨T, SBle.refl _, ⟨hI.ok, trivial⟩, fun hl => ?_, fun hl => ?_⟩⟩
    · -- it is not there
      have hl' : ¬ T.live id clock = 0 := by simpa using hl
      have hrel : T.rel id clock = T := by unfold Tb.rel; rw [if_neg hl']
      refine ⟨fun _ => ?_, fun q => absurd q (by simp)⟩
      rw [hrel]
      exact ⟨T, SBle.refl _, ⟨hI.ok, trivial⟩, fun c2 hc2 => ⟨(T.ss, T.ss, _, _), ⟨rfl, rfl, by omega, rows_ro, rows_ro⟩, fun r hr => okB3 (hr.2 rfl)⟩⟩
    · have hl' : T.live id clock = 0 := by simpa using hl
      have hrel : T.rel id clock = { T with ss := delSl id T.ss } := by unfold Tb.rel; rw [if_pos hl']
      obtain ⟨s0, hs0, _⟩ := live_zero hl'
      obtain ⟨hm0, hi0⟩ := findSl_mem hs0
      have hD : Inv (topM most) i { T with ss := delSl id T.ss } := hI.sub (delSl_sub _ _)
      have hdl := delSl_len hs0
      have hnone : findSl id (delSl id T.ss) = none := find_del hI.ids
      rw [hrel]
      refine ⟨⟨⟨0, [], 0⟩, left_start _ _ _, rfl, rfl, rfl, SBle.refl _, SBle.refl _, SBle.refl _, SBle.refl _, trivial⟩, fun x hx => ⟨fun hlt => ?_, fun hge => ?_⟩⟩
      · have hk : x.k < T.ss.length := by simpa using hlt
        have hfew := hx.few
        simp only [Int.toNat_natCast, Nat.zero_add]
        refine ⟨⟨by omega, by omega⟩, hk, fun hid => ⟨⟨by omega, by omega⟩, hk, ⟨Nat.le_refl _, trivial, by omega, by omega⟩, trivial, fun c2 hc2 => ⟨⟨by omega, by omega⟩, ⟨x.k + 1, x.l ++ [T.ss.getD x.k Sl.zero], c2⟩, ⟨left_take hx hk (by simpa using hid) (s := T.ss.getD x.k Sl.zero) rfl hc2, by show T.ss.length - (x.k + 1) < T.ss.length - x.k; omega⟩, by show (x.k : Int) + 1 = ((x.k + 1 : Nat) : Int); omega, ⟨trivial, by simp, rfl⟩, trivial, rows_snoc x.l _ c2, SBle.refl _, SBle.refl _, SBle.refl _, SBle.refl _, trivial⟩⟩,
          fun hid => ⟨⟨by omega, by omega⟩, ⟨x.k + 1, x.l, x.c⟩, ⟨left_pass hx hk (by simpa using hid), by show T.ss.length - (x.k + 1) < T.ss.length - x.k; omega⟩, by show (x.k : Int) + 1 = ((x.k + 1 : Nat) : Int); omega, ⟨trivial, rfl, rfl⟩, trivial, SBle.refl _, SBle.refl _, SBle.refl _, SBle.refl _, SBle.refl _, trivial⟩⟩
      · have hk : x.k = T.ss.length := by
          have := hx.le
          have : ¬ x.k < T.ss.length := by simpa using hge
          omega
        have hleft : x.l.map Sl.bare = (delSl id T.ss).map Sl.bare := by
          rw [hx.is, hk, delSl_filter hI.ids]
          have := slN_rows T.ss
          rw [show slN T.ss.length (fun i => ({ id := (T.ss.getD i Sl.zero).id, block := (T.ss.getD i Sl.zero).block, dl := (T.ss.getD i Sl.zero).dl, last := (T.ss.getD i Sl.zero).last, s0 := 0, r0 := [], s1 := 0, r1 := [], stored := 0 } : Sl)) = T.ss.map toB from this]
          exact filter_bare (fun _ => rfl) _
        have hfewx := hx.few
        generalize hTD : ({ T with ss := delSl id T.ss } : Tb) = TD at hD ⊢
        have hss : TD.ss = delSl id T.ss := by rw [← hTD]
        have hst : TD.store id 1000000 [120] = TD := by
          unfold Tb.store Tb.storeE; rw [hss, hnone]; rfl
        have hlv : TD.live id clock = 5 := by
          unfold Tb.live; rw [hss, hnone]
          simp only
          have hnr : ¬ TD.recent id := fun hr => (hI.ring id (by rw [← hTD] at hr; exact hr)).2 s0 hm0 hi0
          rw [if_neg hnr]
        refine ⟨TD, SBle.refl _, ⟨hD.ok, trivial⟩, TD, SBle.refl _, ⟨hD.ok, trivial⟩, TD, ?_, ⟨hD.ok, hclk⟩, TD, ?_, ⟨hD.ok, trivial⟩, fun c3 hc3 => ⟨(TD.ss, x.l, _, _), ⟨rfl, rfl, by have := hD.ok.len; omega, rows_ro, rows_ro⟩, fun r hr => ⟨TD, SBle.refl _, ⟨hD.ok, hclk⟩, fun _ => ⟨fun _ => ⟨fun _ => ⟨fun _ => ⟨fun _ => ⟨fun _ => ?_, fun q => ?_⟩, fun q => ?_⟩, fun q => ?_⟩, fun q => ?_⟩, fun q => ?_⟩, fun q => ?_⟩⟩⟩
        · rw [hst]; exact SBle.refl _
        · have : (TD.mod id clock fun s => { id := s.id, block := s.block, dl := clock + TD.term, last := s.last, s0 := s.s0, r0 := s.r0, s1 := s.s1, r1 := s.r1, stored := s.stored }) = TD := by
            unfold Tb.mod; rw [if_neg (by rw [hlv]; decide)]
          rw [this]; exact SBle.refl _
        · have hnf : ¬ TD.full := by
            have h1 := hD.most
            have h2 := hD.opened
            have h3 := hI.len
            have h4 := hD.few
            unfold Tb.full
            rw [hss]
            omega
          rw [if_neg hnf]
          exact ⟨_, rfl⟩
        · have : r = true := hr.2 (by rw [hss]; exact hleft.symm)
          rw [this] at q; cases q
        · rw [hlv] at q; cases q
        · have : TD.storeE id 1000000 = 5 := by unfold Tb.storeE; rw [hss, hnone]
          rw [this] at q; cases q
        · have : (TD.replay id 1).2 = 5 := by unfold Tb.replay; rw [hss, hnone]
          rw [this] at q; cases q
        · simp at q
        · rw [hl'] at q; cases q
end Go.Proofs.Ytobbhdmbblhgaaa
