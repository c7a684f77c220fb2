/-
  Lease: LeaseEnds' run.
-/
import Derived.Test.YtobbhdmbblhgaaaLsV9
namespace Go.Proofs.Ytobbhdmbblhgaaa
open Go Sx

/-! ### Plain facts -/
def toB (s : Sl) : Sl := ⟨s.id, s.block, s.dl, s.last, 0, [], 0, [], 0⟩
theorem toB_bare (s : Sl) : (toB s).bare = s.bare := rfl
theorem slN_succ (k : Nat) (r : Nat → Sl) : slN (k + 1) r = slN k r ++ [r k] := by rw [slN_eq, slN_eq, List.range_succ]; simp
theorem slN_rows (l : List Sl) : slN l.length (fun i => toB (l.getD i Sl.zero)) = l.map toB := by
  rw [slN_eq]
  have h := slN_get l
  rw [slN_eq] at h
  have : (List.range l.length).map (fun i => toB (l.getD i Sl.zero)) = ((List.range l.length).map (fun i => l.getD i Sl.zero)).map toB := by simp
  rw [this, h]
theorem filter_bare {p : Sl → Bool} (hp : ∀ s, p (toB s) = p s) : ∀ l : List Sl, ((l.map toB).filter p).map Sl.bare = (l.filter p).map Sl.bare
  | [] => rfl
  | s :: r => by
    have ih := filter_bare hp r
    cases h : p s with
    | true => simp only [List.map_cons, List.filter_cons, hp, h, if_true, toB_bare, ih]
    | false => simp only [List.map_cons, List.filter_cons, hp, h, Bool.false_eq_true, if_false, ih]
theorem findSl_none {id : Int} : ∀ {l : List Sl}, findSl id l = none ↔ ∀ s ∈ l, s.id ≠ id
  | [] => by simp [findSl]
  | s :: r => by
    simp only [findSl]
    split
    · rename_i h; simp [h]
    · rename_i h; rw [findSl_none]; simp [h]
theorem findSl_mem {id : Int} : ∀ {l : List Sl} {s : Sl}, findSl id l = some s → s ∈ l ∧ s.id = id
  | [], _, h => by cases h
  | t :: r, s, h => by
    simp only [findSl] at h
    split at h
    · rename_i e; injection h with h; subst h; exact ⟨List.mem_cons_self .., e⟩
    · have := findSl_mem h; exact ⟨List.mem_cons_of_mem _ this.1, this.2⟩
theorem okB3 {l b : Bool} (h : b = true) : ∃ l', SV.bool l b = SV.bool l' true := ⟨l, by rw [h]⟩
theorem new_le3 (most term : Int) {cs : List SV} (h : ∀ E : Nat → Nat, (newTb most term).svO.map (SV.val E) = cs.map (SV.val E)) : SBle (SB.cells cs 49 tableT) (newTb most term).sbO := SBle.cells h rfl
/-- One row of sessions, that may be nil or not, serves to be read. -/
theorem rows_ro {z : Bool} {n : Nat} {cols : List Col} {tot : Nat} {ty : TypeId} : SBle (.rows z n cols false tot ty) (.rows z n cols true tot ty) :=
  fun hn => ⟨hn, fun E o ⟨c, fr, h1, _, h3⟩ => ⟨c, fr, h1, (fun h => by cases h), h3⟩, fun h => by cases h⟩

theorem getD_mem {l : List Sl} {i : Nat} (h : i < l.length) : l.getD i Sl.zero ∈ l := by
  rw [List.getD_eq_getElem?_getD, List.getElem?_eq_getElem h]; exact List.getElem_mem h
theorem two_start (n : Nat) (clock : Int) (r : Nat → Sl) : TwoPre n clock r ⟨0, [], 0, [], 0⟩ := ⟨Nat.zero_le _, ⟨Nat.le_refl _, Nat.le_refl _⟩, ⟨Nat.le_refl _, Nat.le_refl _⟩, rfl, rfl⟩
theorem two_over {n : Nat} {clock : Int} {r : Nat → Sl} {x : TwoG} (h : TwoPre n clock r x) (hk : x.k < n) (hp : (r x.k).dl ≤ clock) {s : Sl} (hs : s.bare = (r x.k).bare) {c : Nat} (hc : x.l.length + 1 ≤ c) : TwoPre n clock r ⟨x.k + 1, x.l ++ [s], c, x.l', x.c'⟩ := by
  have hf := h.few
  refine ⟨hk, ⟨by simp; omega, by show x.l'.length ≤ x.k + 1; omega⟩, ⟨by simpa using hc, h.cap.2⟩, ?_, ?_⟩
  · show (x.l ++ [s]).map Sl.bare = (over clock (slN (x.k + 1) r)).map Sl.bare
    rw [slN_succ, over_app, List.map_append, List.map_append, h.is]
    simp [over, hp, hs]
  · show x.l'.map Sl.bare = (left clock (slN (x.k + 1) r)).map Sl.bare
    rw [slN_succ, left_app, List.map_append, h.is']
    simp [left, hp]
theorem two_left {n : Nat} {clock : Int} {r : Nat → Sl} {x : TwoG} (h : TwoPre n clock r x) (hk : x.k < n) (hp : ¬ (r x.k).dl ≤ clock) {s : Sl} (hs : s.bare = (r x.k).bare) {c : Nat} (hc : x.l'.length + 1 ≤ c) : TwoPre n clock r ⟨x.k + 1, x.l, x.c, x.l' ++ [s], c⟩ := by
  have hf := h.few
  refine ⟨hk, ⟨by show x.l.length ≤ x.k + 1; omega, by simp; omega⟩, ⟨h.cap.1, by simpa using hc⟩, ?_, ?_⟩
  · show x.l.map Sl.bare = (over clock (slN (x.k + 1) r)).map Sl.bare
    rw [slN_succ, over_app, List.map_append, h.is]
    simp [over, hp]
  · show (x.l' ++ [s]).map Sl.bare = (left clock (slN (x.k + 1) r)).map Sl.bare
    rw [slN_succ, left_app, List.map_append, List.map_append, h.is']
    simp only [left, List.filter_cons, List.filter_nil]
    rw [if_pos (by simpa using hp)]
    simp [hs]
theorem left_left (clock : Int) (l : List Sl) : left clock (left clock l) = left clock l ∧ over clock (left clock l) = [] := by
  have := over_none (clock := clock) (l := left clock l) fun s hs => by have := (List.mem_filter.1 hs).2; simpa using this
  exact ⟨this.2, this.1⟩
theorem expire_twice (T : Tb) (clock : Int) : (T.expire clock).expire clock = T.expire clock := by
  obtain ⟨h1, h2⟩ := left_left clock T.ss
  show ({ (T.expire clock).tells (over clock (left clock T.ss)) with ss := left clock (left clock T.ss) } : Tb) = T.expire clock
  rw [h1, h2]; rfl
theorem ids_inj {l : List Sl} (h : l.Pairwise fun a b => a.id < b.id) {s t : Sl} (hs : s ∈ l) (ht : t ∈ l) (e : s.id = t.id) : s = t := by
  obtain ⟨i, hi, rfl⟩ := List.mem_iff_getElem.1 hs
  obtain ⟨j, hj, rfl⟩ := List.mem_iff_getElem.1 ht
  have hp := List.pairwise_iff_getElem.1 h
  rcases Nat.lt_trichotomy i j with h1 | h1 | h1
  · have := hp i j hi hj h1; omega
  · subst h1; rfl
  · have := hp j i hj hi h1; omega
theorem findSl_of {l : List Sl} (h : l.Pairwise fun a b => a.id < b.id) {s : Sl} (hs : s ∈ l) : findSl s.id l = some s := by
  cases hf : findSl s.id l with
  | none => exact absurd rfl (findSl_none.1 hf s hs)
  | some t =>
    obtain ⟨h1, h2⟩ := findSl_mem hf
    rw [ids_inj h h1 hs h2]
theorem gone_six {M : Int} {k : Nat} {T : Tb} (h : Inv M k T) {clock : Int} {s : Sl} (hs : s ∈ T.ss) (hd : s.dl ≤ clock) (c : Int) : (T.expire clock).live s.id c = 6 := by
  have hn : findSl s.id (T.expire clock).ss = none := findSl_none.2 fun t ht e => by
    obtain ⟨h1, h2⟩ := List.mem_filter.1 (show t ∈ T.ss.filter fun s => decide (¬ s.dl ≤ clock) from ht)
    have := ids_inj h.ids h1 hs e
    subst this
    simp only [decide_eq_true_eq] at h2
    exact h2 hd
  have hr : (T.expire clock).recent s.id := by
    have hl := over_left_len clock T.ss
    have := h.ok.len
    have := tells_has (T := T) (l := over clock T.ss) h.ends.1 (by omega) (s := s) (List.mem_filter.2 ⟨hs, by simpa using hd⟩)
    exact this
  unfold Tb.live
  rw [hn]
  simp only
  rw [if_pos hr]
theorem stays_zero {M : Int} {k : Nat} {T : Tb} (h : Inv M k T) {clock : Int} {s : Sl} (hs : s ∈ T.ss) (hd : ¬ s.dl ≤ clock) : (T.expire clock).live s.id clock = 0 ∧ (T.expire clock).of s.id clock = s := by
  have hm : s ∈ (T.expire clock).ss := List.mem_filter.2 ⟨hs, by simpa using hd⟩
  have hf := findSl_of (h.expire clock).ids hm
  have hl : (T.expire clock).live s.id clock = 0 := by
    unfold Tb.live
    rw [hf]
    simp only
    rw [if_neg hd]
  refine ⟨hl, ?_⟩
  unfold Tb.of
  rw [if_pos hl, hf]; rfl
set_option maxRecDepth 10000 in
set_option maxHeartbeats 4000000 in
theorem ends_holds (most term clock : Int) (z : Bool) (o n c : Nat) (g : Nat → Ac) : Holds (endsVC most term clock z o n c 1 g fun v => ∃ l, v = .bool l true) := by
  refine Holds.of_eq (vcEnds most term clock z o n c g _) ?_
  refine ⟨g, SBle.refl _, fun d hd => ⟨fun h => ⟨_, rfl⟩, fun h => ⟨fun _ => ⟨_, rfl⟩, fun hc0 => ⟨fun _ => ⟨_, rfl⟩, fun hc1 => ⟨⟨⟨0, newTb most term⟩, ⟨Nat.zero_le _, inv_new most term⟩, rfl, new_le3 most term fun E => rfl, SBle.refl _, trivial⟩, fun x hx => ⟨fun hlt => ?_, fun _ => ?_⟩⟩⟩⟩⟩⟩
  · have hd1 : d = true := by cases d <;> simp at h ⊢
    obtain ⟨hf1, hf2⟩ := hd hd1
    obtain ⟨hxi, hI⟩ := hx
    have hlt' : x.i < n := by simpa using hlt
    have hcl := hf2 x.i hlt'
    have hI' := hI.act (by omega) (g x.i)
    simp only [Int.toNat_natCast, Nat.zero_add]
    exact ⟨⟨by omega, by omega⟩, ⟨trivial, hlt'⟩, x.T, SBle.refl _, ⟨hI.ok, hcl⟩, fun c1 _ => ⟨⟨by omega, by omega⟩, ⟨x.i + 1, (x.T.act (g x.i)).2⟩, ⟨⟨hlt', hI'⟩, by show n - (x.i + 1) < n - x.i; omega⟩, by show (x.i : Int) + 1 = ((x.i + 1 : Nat) : Int); omega, SBle.refl _, SBle.refl _, trivial⟩⟩
  · obtain ⟨hxi, hI⟩ := hx
    obtain ⟨i, T⟩ := x
    simp only at hI hxi ⊢
    have hlen4 := hI.ok.len
    have hE := hI.expire clock
    have htw := expire_twice T clock
    have hov : over clock (T.expire clock).ss = [] := (left_left clock T.ss).2
    have hol := over_left_len clock T.ss
    refine ⟨T, SBle.refl _, ⟨hI.ok, trivial⟩, fun c1 hc1 => ⟨T, SBle.refl _, ⟨hI.ok, trivial⟩, fun c2 hc2 => ⟨T.expire clock, SBle.refl _, ⟨hE.ok, trivial⟩, fun c3 hc3 => ?_⟩⟩⟩
    rw [htw]
    refine ⟨⟨⟨0, [], 0, [], 0⟩, two_start _ _ _, rfl, rfl, rfl, rfl, rfl, SBle.refl _, SBle.refl _, SBle.refl _, SBle.refl _, SBle.refl _, trivial⟩, fun x hx => ⟨fun hlt => ?_, fun hge => ?_⟩⟩
    · have hk : x.k < T.ss.length := by simpa using hlt
      have hfew := hx.few
      have hmem := getD_mem hk
      simp only [Int.toNat_natCast, Nat.zero_add]
      have hb1 : (0 : Int) ≤ (x.k : Int) ∧ (x.k : Int) < (T.ss.length : Int) := ⟨by omega, by omega⟩
      have hb2 : (-9223372036854775808 : Int) ≤ (x.k : Int) + 1 ∧ (x.k : Int) + 1 ≤ 9223372036854775807 := ⟨by omega, by omega⟩
      refine ⟨hb1, hk, fun hd => ?_, fun hd => ?_⟩
      · have hd' : (T.ss.getD x.k Sl.zero).dl ≤ clock := by simpa using hd
        have h6 := gone_six hI hmem hd' 0
        have hmod : ((T.expire clock).mod (T.ss.getD x.k Sl.zero).id 0 fun s => { id := s.id, block := s.block, dl := 0 + (T.expire clock).term, last := s.last, s0 := s.s0, r0 := s.r0, s1 := s.s1, r1 := s.r1, stored := s.stored }) = T.expire clock := by
          unfold Tb.mod; rw [if_neg (by rw [h6]; decide)]
        refine ⟨hb1, hk, ⟨Nat.le_refl _, trivial, by omega, by omega⟩, trivial, fun c4 hc4 => ⟨hb1, hk, T.expire clock, SBle.refl _, ⟨hE.ok, trivial⟩, hb1, hk, T.expire clock, SBle.refl _, ⟨hE.ok, ⟨by omega, by omega⟩⟩, fun q => absurd q (by rw [h6]; decide), fun _ => ⟨fun q => absurd q (by rw [h6]; decide), fun _ => ⟨hb2,
          ⟨x.k + 1, x.l ++ [T.ss.getD x.k Sl.zero], c4, x.l', x.c'⟩, ⟨two_over hx hk hd' (s := T.ss.getD x.k Sl.zero) rfl hc4, by show T.ss.length - (x.k + 1) < T.ss.length - x.k; omega⟩, by show (x.k : Int) + 1 = ((x.k + 1 : Nat) : Int); omega, ⟨trivial, by simp, rfl⟩, trivial, ⟨trivial, rfl, rfl⟩, trivial, rows_snoc x.l _ c4, SBle.refl _, SBle.refl _, SBle.refl _, SBle.refl _, ?_, SBle.refl _, trivial⟩⟩⟩⟩
        rw [hmod]; exact SBle.refl _
      · have hd' : ¬ (T.ss.getD x.k Sl.zero).dl ≤ clock := by simpa using hd
        obtain ⟨h0, hof⟩ := stays_zero hI hmem hd'
        refine ⟨hb1, hk, ⟨Nat.le_refl _, trivial, by omega, by omega⟩, trivial, fun c4 hc4 => ⟨hb1, hk, T.expire clock, SBle.refl _, ⟨hE.ok, trivial⟩, fun q => absurd q (by rw [h0]; decide), fun _ => ⟨hb1, hk, fun q => absurd q (by rw [hof]; simp), fun _ => ⟨hb2,
          ⟨x.k + 1, x.l, x.c, x.l' ++ [T.ss.getD x.k Sl.zero], c4⟩, ⟨two_left hx hk hd' (s := T.ss.getD x.k Sl.zero) rfl hc4, by show T.ss.length - (x.k + 1) < T.ss.length - x.k; omega⟩, by show (x.k : Int) + 1 = ((x.k + 1 : Nat) : Int); omega, ⟨trivial, rfl, rfl⟩, trivial, ⟨trivial, by simp, rfl⟩, trivial, SBle.refl _, rows_snoc x.l' _ c4, SBle.refl _, SBle.refl _, SBle.refl _, SBle.refl _, SBle.refl _, trivial⟩⟩⟩⟩
    · have hk : x.k = T.ss.length := by
        have := hx.le
        have : ¬ x.k < T.ss.length := by simpa using hge
        omega
      have hrows := slN_rows T.ss
      have hl1 : x.l.map Sl.bare = (over clock T.ss).map Sl.bare := by
        rw [hx.is, hk, show slN T.ss.length (fun i => ({ id := (T.ss.getD i Sl.zero).id, block := (T.ss.getD i Sl.zero).block, dl := (T.ss.getD i Sl.zero).dl, last := (T.ss.getD i Sl.zero).last, s0 := 0, r0 := [], s1 := 0, r1 := [], stored := 0 } : Sl)) = T.ss.map toB from hrows]
        exact filter_bare (fun _ => rfl) _
      have hl2 : x.l'.map Sl.bare = (left clock T.ss).map Sl.bare := by
        rw [hx.is', hk, show slN T.ss.length (fun i => ({ id := (T.ss.getD i Sl.zero).id, block := (T.ss.getD i Sl.zero).block, dl := (T.ss.getD i Sl.zero).dl, last := (T.ss.getD i Sl.zero).last, s0 := 0, r0 := [], s1 := 0, r1 := [], stored := 0 } : Sl)) = T.ss.map toB from hrows]
        exact filter_bare (fun _ => rfl) _
      refine ⟨(over clock T.ss, x.l, _, _), ⟨rfl, rfl, by omega, rows_ro, rows_ro⟩, fun r hr => ⟨fun _ => ⟨T.expire clock, SBle.refl _, ⟨hE.ok, trivial⟩, fun c5 hc5 => ⟨((T.expire clock).ss, x.l', _, _), ⟨rfl, rfl, by have := hE.ok.len; omega, rows_ro, rows_ro⟩, fun r' hr' => ⟨fun _ => ?_, fun q => ?_⟩⟩⟩, fun q => ?_⟩⟩
      · rw [hov]; exact ⟨_, rfl⟩
      · have : r' = true := hr'.2 hl2.symm
        rw [this] at q; cases q
      · have : r = true := hr.2 hl1.symm
        rw [this] at q; cases q
end Go.Proofs.Ytobbhdmbblhgaaa
