/-
  Lease: what Expire does, shown from the conditions that the executor computes.
-/
import Derived.Test.YtobbhdmbblhgaaaLsW2
import Derived.Test.YtobbhdmbblhgaaaLsV3
namespace Go.Proofs.Ytobbhdmbblhgaaa
open Go Sx

theorem Sx.SBle.rowsCongr {z : Bool} {n n' : Nat} {cols cols' : List Col} {tot : Nat} {ty : TypeId} (hn : n = n') (hl : cols.length = cols'.length)
    (h : ∀ (i k : Nat) (c' : Col), i < n → cols'[k]? = some c' → ∃ c, cols[k]? = some c ∧ c.at i = c'.at i) : SBle (.rows z n cols false tot ty) (.rows z n' cols' false tot ty) := by
  subst hn
  intro hno
  refine ⟨hno, fun E o ⟨c, fr, h1, h2, h3, h4, h5⟩ => ⟨c, fr, h1, h2, by rw [← hl]; exact h3, h4, fun i k col hi hk => ?_⟩, fun _ => rfl⟩
  obtain ⟨c0, hc0, he⟩ := h i k col hi hk
  rw [← he, ← hl]
  exact h5 i k c0 hi hc0
def delF (j : Nat) (f : Nat → Sl) : Nat → Sl := fun i => if i < j then f i else f (i + 1)
theorem slN_eq : ∀ (n : Nat) (f : Nat → Sl), slN n f = (List.range n).map f
  | 0, _ => rfl
  | n + 1, f => by rw [slN, slN_eq n, List.range_succ_eq_map]; simp [Function.comp_def]
theorem slN_len (n : Nat) (f : Nat → Sl) : (slN n f).length = n := by rw [slN_eq]; simp
theorem slN_congr {n : Nat} {f g : Nat → Sl} (h : ∀ i, i < n → f i = g i) : slN n f = slN n g := by
  rw [slN_eq, slN_eq]; exact List.map_congr_left fun i hi => h i (by simpa using hi)
theorem slN_get : ∀ (l : List Sl), slN l.length (fun i => l.getD i Sl.zero) = l
  | [] => rfl
  | s :: r => by
    show (s :: r).getD 0 Sl.zero :: slN r.length (fun i => (s :: r).getD (i + 1) Sl.zero) = s :: r
    have := slN_get r
    simp only [List.getD_cons_succ, List.getD_cons_zero, this]
theorem slN_del : ∀ (k j : Nat) (f : Nat → Sl), j ≤ k → ∃ p q, slN (k + 1) f = p ++ f j :: q ∧ slN k (delF j f) = p ++ q ∧ ∀ s ∈ p, ∃ i, i < j ∧ s = f i
  | k, 0, f, _ => ⟨[], slN k (fun i => f (i + 1)), rfl, by rw [List.nil_append]; exact slN_congr fun i _ => by simp [delF], fun s h => by cases h⟩
  | 0, j + 1, f, h => by omega
  | k + 1, j + 1, f, h => by
    obtain ⟨p, q, h1, h2, h3⟩ := slN_del k j (fun i => f (i + 1)) (by omega)
    refine ⟨f 0 :: p, q, ?_, ?_, fun s hs => ?_⟩
    · show f 0 :: slN (k + 1) (fun i => f (i + 1)) = _
      rw [h1]; rfl
    · show delF (j + 1) f 0 :: slN k (fun i => delF (j + 1) f (i + 1)) = _
      have e1 : delF (j + 1) f 0 = f 0 := by simp [delF]
      have e2 : slN k (fun i => delF (j + 1) f (i + 1)) = slN k (delF j fun i => f (i + 1)) := slN_congr fun i _ => by simp [delF]
      rw [e1, e2, h2]; rfl
    · rcases List.mem_cons.1 hs with rfl | hs
      · exact ⟨0, by omega, rfl⟩
      · obtain ⟨i, hi, he⟩ := h3 s hs
        exact ⟨i + 1, by omega, he⟩
theorem over_app (clock : Int) (a b : List Sl) : over clock (a ++ b) = over clock a ++ over clock b := List.filter_append ..
theorem left_app (clock : Int) (a b : List Sl) : left clock (a ++ b) = left clock a ++ left clock b := List.filter_append ..
theorem over_none {clock : Int} {l : List Sl} (h : ∀ s ∈ l, ¬ s.dl ≤ clock) : over clock l = [] ∧ left clock l = l := by
  constructor
  · exact List.filter_eq_nil_iff.2 fun s hs => by simpa using h s hs
  · exact List.filter_eq_self.2 fun s hs => by simpa using h s hs
theorem tells_snoc (T : Tb) : ∀ (l : List Sl) (s : Sl), T.tells (l ++ [s]) = (T.tells l).told s.id := by
  intro l
  induction l generalizing T with
  | nil => intro s; rfl
  | cons x r ih => intro s; exact ih _ s
theorem tells_ends (T : Tb) : ∀ (l : List Sl), (T.tells l).ends = T.ends + l.length := by
  intro l
  induction l generalizing T with
  | nil => simp [Tb.tells]
  | cons x r ih => simp only [Tb.tells]; rw [ih]; simp [Tb.told]; omega
theorem exp_ends {T0 : Tb} {clock : Int} {n : Nat} {f : Nat → Sl} {T : Tb} {l : List Sl} {c : Nat} (h : ExpPre T0 clock n f T l c) : T.ends = T0.ends + l.length := by
  have := congrArg Tb.ends h.tb
  rw [tells_ends] at this
  exact this
theorem exp_go {T0 : Tb} {clock : Int} {k : Nat} {f : Nat → Sl} {T : Tb} {l : List Sl} {c0 : Nat} (hx : ExpPre T0 clock (k + 1) f T l c0) (j : Nat) (hj : j ≤ k) (hlt : ∀ i, i < j → ¬ (f i).dl ≤ clock) (hov : (f j).dl ≤ clock) {c : Nat} (hc : l.length + 1 ≤ c) :
    ExpPre T0 clock k (delF j f) (T.told (f j).id) (l ++ [f j]) c := by
  obtain ⟨p, q, h1, h2, h3⟩ := slN_del k j f hj
  have hp := over_none (clock := clock) (l := p) fun s hs => by obtain ⟨i, hi, rfl⟩ := h3 s hs; exact hlt i hi
  have hj1 : over clock (f j :: q) = f j :: over clock q := by simp [over, hov]
  have hj2 : left clock (f j :: q) = left clock q := by simp [left, hov]
  refine ⟨?_, ?_, ?_, by simpa using hc, ?_⟩
  · rw [tells_snoc, ← hx.tb]; rfl
  · rw [← hx.past, h1, h2, over_app, over_app, hp.1, hj1]; simp
  · rw [← hx.rest, h1, h2, left_app, left_app, hj2]
  · have := hx.few; simp; omega
theorem exp_end {T0 : Tb} {clock : Int} {k : Nat} {f : Nat → Sl} {T : Tb} {l : List Sl} {c : Nat} (hx : ExpPre T0 clock k f T l c) (h : ∀ i, i < k → ¬ (f i).dl ≤ clock) :
    IsRow2 (over clock T0.ss) (T0.expire clock) l.length c (SB.rows true l.length (sessCols l) false (c * 4) sessT) ({ T with ss := pad4 4 (slN k f) }, (k : Int)) := by
  have hn := over_none (clock := clock) (l := slN k f) fun s hs => by
    rw [slN_eq] at hs
    obtain ⟨i, hi, rfl⟩ := List.mem_map.1 hs
    exact h i (by simpa using hi)
  have h1 := hx.past
  rw [hn.1, List.append_nil] at h1
  have h2 := hx.rest
  rw [hn.2] at h2
  subst h1
  refine ⟨rfl, hx.cap, SBle.refl _, ?_⟩
  unfold IsTb Tb.expire
  rw [← h2, ← hx.tb, slN_len]
theorem exp_start (T0 : Tb) (clock : Int) (h : T0.ss.length ≤ 4) : ExpPre T0 clock T0.ss.length (fun i => T0.ss.getD i Sl.zero) T0 [] 0 :=
  ⟨rfl, by rw [slN_get]; rfl, by rw [slN_get], Nat.le_refl _, by simpa using h⟩
theorem rows_snoc (l : List Sl) (s : Sl) (c : Nat) : SBle (SB.rows true (l.length + 1)
    [Col.int IntKind.i64 fun (j : Nat) => if j < l.length then (l.getD j Sl.zero).id else sel [s.id] (j - l.length), Col.int IntKind.i64 fun (j : Nat) => if j < l.length then (l.getD j Sl.zero).block else sel [s.block] (j - l.length),
     Col.int IntKind.i64 fun (j : Nat) => if j < l.length then (l.getD j Sl.zero).dl else sel [s.dl] (j - l.length), Col.int IntKind.i64 fun (j : Nat) => if j < l.length then (l.getD j Sl.zero).last else sel [s.last] (j - l.length)] false (c * 4) sessT)
    (SB.rows true (l ++ [s]).length (sessCols (l ++ [s])) false (c * 4) sessT) := by
  refine SBle.rowsCongr (by simp) rfl fun i k c' hi hk => ?_
  have key : ∀ (g : Sl → Int), (if i < l.length then g (l.getD i Sl.zero) else sel [g s] (i - l.length)) = g ((l ++ [s]).getD i Sl.zero) := by
    intro g
    split
    · rename_i h; congr 1; simp [List.getD_eq_getElem?_getD, List.getElem?_append, h]
    · rename_i h
      have : i = l.length := by omega
      subst this
      simp [sel, List.getD_eq_getElem?_getD]
  match k, hk with
  | 0, hk => obtain rfl := Option.some.inj hk; exact ⟨_, rfl, by simp only [Col.at]; rw [key Sl.id]⟩
  | 1, hk => obtain rfl := Option.some.inj hk; exact ⟨_, rfl, by simp only [Col.at]; rw [key Sl.block]⟩
  | 2, hk => obtain rfl := Option.some.inj hk; exact ⟨_, rfl, by simp only [Col.at]; rw [key Sl.dl]⟩
  | 3, hk => obtain rfl := Option.some.inj hk; exact ⟨_, rfl, by simp only [Col.at]; rw [key Sl.last]⟩
  | k + 4, hk => simp [sessCols] at hk
theorem lt_cases {P : Nat → Prop} {j : Nat} (h : ∀ i, i < j → P i) (hj : P j) : ∀ i, i < j + 1 → P i := fun i hi => by
  rcases Nat.lt_or_ge i j with h1 | h1
  · exact h i h1
  · have : i = j := by omega
    subst this; exact hj
set_option maxHeartbeats 4000000 in
set_option maxRecDepth 10000 in
theorem expire0 (most term opened e0 e1 e2 e3 e4 e5 e6 e7 ends : Int) (clock : Int) (n1 : 0 ≤ ends) (n2 : ends ≤ 1048576) : Holds (runC (cfgE (⟨most, term, [], opened, e0, e1, e2, e3, e4, e5, e6, e7, ends⟩ : Tb) clock) 13 Try.f13 (⟨most, term, [], opened, e0, e1, e2, e3, e4, e5, e6, e7, ends⟩ : Tb) [iv clock] (rowK2 (IsRow2 (over clock []) ((⟨most, term, [], opened, e0, e1, e2, e3, e4, e5, e6, e7, ends⟩ : Tb).expire clock)))) := by
  refine Holds.mk ?_
  have hv := vcExpire0 (⟨most, term, [], opened, e0, e1, e2, e3, e4, e5, e6, e7, ends⟩ : Tb)  clock (IsRow2 (over clock []) ((⟨most, term, [], opened, e0, e1, e2, e3, e4, e5, e6, e7, ends⟩ : Tb).expire clock))
  dsimp only at hv
  rw [hv]
  clear hv
  have hs := exp_start (⟨most, term, [], opened, e0, e1, e2, e3, e4, e5, e6, e7, ends⟩ : Tb) clock (by simp)
  refine ⟨⟨⟨_, _, _, _⟩, hs, rfl, rfl, SBle.cells (fun E => rfl) rfl, trivial⟩, ?_⟩
  · intro x hx
    exact exp_end hx fun i hi => by omega
set_option maxHeartbeats 4000000 in
set_option maxRecDepth 10000 in
theorem expire1 (most term opened e0 e1 e2 e3 e4 e5 e6 e7 ends : Int) (a : Sl) (clock : Int) (n1 : 0 ≤ ends) (n2 : ends ≤ 1048576) : Holds (runC (cfgE (⟨most, term, [a], opened, e0, e1, e2, e3, e4, e5, e6, e7, ends⟩ : Tb) clock) 13 Try.f13 (⟨most, term, [a], opened, e0, e1, e2, e3, e4, e5, e6, e7, ends⟩ : Tb) [iv clock] (rowK2 (IsRow2 (over clock [a]) ((⟨most, term, [a], opened, e0, e1, e2, e3, e4, e5, e6, e7, ends⟩ : Tb).expire clock)))) := by
  refine Holds.mk ?_
  have hv := vcExpire1 (⟨most, term, [a], opened, e0, e1, e2, e3, e4, e5, e6, e7, ends⟩ : Tb) a clock (IsRow2 (over clock [a]) ((⟨most, term, [a], opened, e0, e1, e2, e3, e4, e5, e6, e7, ends⟩ : Tb).expire clock))
  dsimp only at hv
  rw [hv]
  clear hv
  have hs := exp_start (⟨most, term, [a], opened, e0, e1, e2, e3, e4, e5, e6, e7, ends⟩ : Tb) clock (by simp)
  refine ⟨⟨⟨_, _, _, _⟩, hs, rfl, rfl, SBle.cells (fun E => rfl) rfl, trivial⟩, ?_, ?_⟩
  · intro x hx
    exact exp_end hx fun i hi => by omega
  · intro x hx
    have hends := exp_ends hx
    simp only at hends
    have hfew := hx.few
    have hn : ∀ i, i < 0 → ¬ (x.f i).dl ≤ clock := fun i hi => by omega
    refine ⟨fun hov => ?_, fun hnx => ?_⟩
    · have hov := of_decide_eq_true hov
      exact ⟨⟨by omega, trivial, by omega, by omega⟩, rfl, fun c hc => ⟨⟨by omega, by omega, by omega⟩, ⟨by omega, by omega⟩, by omega, ⟨by omega, by omega⟩, ⟨delF 0 x.f, x.T.told (x.f 0).id, x.l ++ [x.f 0], c⟩,
        ⟨exp_go hx 0 (by omega) hn hov hc, by decide⟩, ⟨rfl, by simp, rfl⟩, trivial, rows_snoc x.l (x.f 0) c, SBle.cells (fun E => rfl) rfl, trivial⟩⟩
    replace hn := lt_cases hn (of_decide_eq_false hnx)
    clear hnx
    exact exp_end hx hn
set_option maxHeartbeats 4000000 in
set_option maxRecDepth 10000 in
theorem expire2 (most term opened e0 e1 e2 e3 e4 e5 e6 e7 ends : Int) (a b : Sl) (clock : Int) (n1 : 0 ≤ ends) (n2 : ends ≤ 1048576) : Holds (runC (cfgE (⟨most, term, [a, b], opened, e0, e1, e2, e3, e4, e5, e6, e7, ends⟩ : Tb) clock) 13 Try.f13 (⟨most, term, [a, b], opened, e0, e1, e2, e3, e4, e5, e6, e7, ends⟩ : Tb) [iv clock] (rowK2 (IsRow2 (over clock [a, b]) ((⟨most, term, [a, b], opened, e0, e1, e2, e3, e4, e5, e6, e7, ends⟩ : Tb).expire clock)))) := by
  refine Holds.mk ?_
  have hv := vcExpire2 (⟨most, term, [a, b], opened, e0, e1, e2, e3, e4, e5, e6, e7, ends⟩ : Tb) a b clock (IsRow2 (over clock [a, b]) ((⟨most, term, [a, b], opened, e0, e1, e2, e3, e4, e5, e6, e7, ends⟩ : Tb).expire clock))
  dsimp only at hv
  rw [hv]
  clear hv
  have hs := exp_start (⟨most, term, [a, b], opened, e0, e1, e2, e3, e4, e5, e6, e7, ends⟩ : Tb) clock (by simp)
  refine ⟨⟨⟨_, _, _, _⟩, hs, rfl, rfl, SBle.cells (fun E => rfl) rfl, trivial⟩, ?_, ?_, ?_⟩
  · intro x hx
    exact exp_end hx fun i hi => by omega
  · intro x hx
    have hends := exp_ends hx
    simp only at hends
    have hfew := hx.few
    have hn : ∀ i, i < 0 → ¬ (x.f i).dl ≤ clock := fun i hi => by omega
    refine ⟨fun hov => ?_, fun hnx => ?_⟩
    · have hov := of_decide_eq_true hov
      exact ⟨⟨by omega, trivial, by omega, by omega⟩, rfl, fun c hc => ⟨⟨by omega, by omega, by omega⟩, ⟨by omega, by omega⟩, by omega, ⟨by omega, by omega⟩, ⟨delF 0 x.f, x.T.told (x.f 0).id, x.l ++ [x.f 0], c⟩,
        ⟨exp_go hx 0 (by omega) hn hov hc, by decide⟩, ⟨rfl, by simp, rfl⟩, trivial, rows_snoc x.l (x.f 0) c, SBle.cells (fun E => rfl) rfl, trivial⟩⟩
    replace hn := lt_cases hn (of_decide_eq_false hnx)
    clear hnx
    exact exp_end hx hn
  · intro x hx
    have hends := exp_ends hx
    simp only at hends
    have hfew := hx.few
    have hn : ∀ i, i < 0 → ¬ (x.f i).dl ≤ clock := fun i hi => by omega
    refine ⟨fun hov => ?_, fun hnx => ?_⟩
    · have hov := of_decide_eq_true hov
      exact ⟨⟨by omega, trivial, by omega, by omega⟩, rfl, fun c hc => ⟨⟨by omega, by omega, by omega⟩, ⟨by omega, by omega⟩, by omega, ⟨by omega, by omega⟩, ⟨delF 0 x.f, x.T.told (x.f 0).id, x.l ++ [x.f 0], c⟩,
        ⟨exp_go hx 0 (by omega) hn hov hc, by decide⟩, ⟨rfl, by simp, rfl⟩, trivial, rows_snoc x.l (x.f 0) c, SBle.cells (fun E => rfl) rfl, trivial⟩⟩
    replace hn := lt_cases hn (of_decide_eq_false hnx)
    clear hnx
    refine ⟨fun hov => ?_, fun hnx => ?_⟩
    · have hov := of_decide_eq_true hov
      exact ⟨⟨by omega, trivial, by omega, by omega⟩, rfl, fun c hc => ⟨⟨by omega, by omega, by omega⟩, ⟨by omega, by omega⟩, by omega, ⟨by omega, by omega⟩, ⟨delF 1 x.f, x.T.told (x.f 1).id, x.l ++ [x.f 1], c⟩,
        ⟨exp_go hx 1 (by omega) hn hov hc, by decide⟩, ⟨rfl, by simp, rfl⟩, trivial, rows_snoc x.l (x.f 1) c, SBle.cells (fun E => rfl) rfl, trivial⟩⟩
    replace hn := lt_cases hn (of_decide_eq_false hnx)
    clear hnx
    exact exp_end hx hn
set_option maxHeartbeats 4000000 in
set_option maxRecDepth 10000 in
theorem expire3 (most term opened e0 e1 e2 e3 e4 e5 e6 e7 ends : Int) (a b c : Sl) (clock : Int) (n1 : 0 ≤ ends) (n2 : ends ≤ 1048576) : Holds (runC (cfgE (⟨most, term, [a, b, c], opened, e0, e1, e2, e3, e4, e5, e6, e7, ends⟩ : Tb) clock) 13 Try.f13 (⟨most, term, [a, b, c], opened, e0, e1, e2, e3, e4, e5, e6, e7, ends⟩ : Tb) [iv clock] (rowK2 (IsRow2 (over clock [a, b, c]) ((⟨most, term, [a, b, c], opened, e0, e1, e2, e3, e4, e5, e6, e7, ends⟩ : Tb).expire clock)))) := by
  refine Holds.mk ?_
  have hv := vcExpire3 (⟨most, term, [a, b, c], opened, e0, e1, e2, e3, e4, e5, e6, e7, ends⟩ : Tb) a b c clock (IsRow2 (over clock [a, b, c]) ((⟨most, term, [a, b, c], opened, e0, e1, e2, e3, e4, e5, e6, e7, ends⟩ : Tb).expire clock))
  dsimp only at hv
  rw [hv]
  clear hv
  have hs := exp_start (⟨most, term, [a, b, c], opened, e0, e1, e2, e3, e4, e5, e6, e7, ends⟩ : Tb) clock (by simp)
  refine ⟨⟨⟨_, _, _, _⟩, hs, rfl, rfl, SBle.cells (fun E => rfl) rfl, trivial⟩, ?_, ?_, ?_, ?_⟩
  · intro x hx
    exact exp_end hx fun i hi => by omega
  · intro x hx
    have hends := exp_ends hx
    simp only at hends
    have hfew := hx.few
    have hn : ∀ i, i < 0 → ¬ (x.f i).dl ≤ clock := fun i hi => by omega
    refine ⟨fun hov => ?_, fun hnx => ?_⟩
    · have hov := of_decide_eq_true hov
      exact ⟨⟨by omega, trivial, by omega, by omega⟩, rfl, fun c hc => ⟨⟨by omega, by omega, by omega⟩, ⟨by omega, by omega⟩, by omega, ⟨by omega, by omega⟩, ⟨delF 0 x.f, x.T.told (x.f 0).id, x.l ++ [x.f 0], c⟩,
        ⟨exp_go hx 0 (by omega) hn hov hc, by decide⟩, ⟨rfl, by simp, rfl⟩, trivial, rows_snoc x.l (x.f 0) c, SBle.cells (fun E => rfl) rfl, trivial⟩⟩
    replace hn := lt_cases hn (of_decide_eq_false hnx)
    clear hnx
    exact exp_end hx hn
  · intro x hx
    have hends := exp_ends hx
    simp only at hends
    have hfew := hx.few
    have hn : ∀ i, i < 0 → ¬ (x.f i).dl ≤ clock := fun i hi => by omega
    refine ⟨fun hov => ?_, fun hnx => ?_⟩
    · have hov := of_decide_eq_true hov
      exact ⟨⟨by omega, trivial, by omega, by omega⟩, rfl, fun c hc => ⟨⟨by omega, by omega, by omega⟩, ⟨by omega, by omega⟩, by omega, ⟨by omega, by omega⟩, ⟨delF 0 x.f, x.T.told (x.f 0).id, x.l ++ [x.f 0], c⟩,
        ⟨exp_go hx 0 (by omega) hn hov hc, by decide⟩, ⟨rfl, by simp, rfl⟩, trivial, rows_snoc x.l (x.f 0) c, SBle.cells (fun E => rfl) rfl, trivial⟩⟩
    replace hn := lt_cases hn (of_decide_eq_false hnx)
    clear hnx
    refine ⟨fun hov => ?_, fun hnx => ?_⟩
    · have hov := of_decide_eq_true hov
      exact ⟨⟨by omega, trivial, by omega, by omega⟩, rfl, fun c hc => ⟨⟨by omega, by omega, by omega⟩, ⟨by omega, by omega⟩, by omega, ⟨by omega, by omega⟩, ⟨delF 1 x.f, x.T.told (x.f 1).id, x.l ++ [x.f 1], c⟩,
        ⟨exp_go hx 1 (by omega) hn hov hc, by decide⟩, ⟨rfl, by simp, rfl⟩, trivial, rows_snoc x.l (x.f 1) c, SBle.cells (fun E => rfl) rfl, trivial⟩⟩
    replace hn := lt_cases hn (of_decide_eq_false hnx)
    clear hnx
    exact exp_end hx hn
  · intro x hx
    have hends := exp_ends hx
    simp only at hends
    have hfew := hx.few
    have hn : ∀ i, i < 0 → ¬ (x.f i).dl ≤ clock := fun i hi => by omega
    refine ⟨fun hov => ?_, fun hnx => ?_⟩
    · have hov := of_decide_eq_true hov
      exact ⟨⟨by omega, trivial, by omega, by omega⟩, rfl, fun c hc => ⟨⟨by omega, by omega, by omega⟩, ⟨by omega, by omega⟩, by omega, ⟨by omega, by omega⟩, ⟨delF 0 x.f, x.T.told (x.f 0).id, x.l ++ [x.f 0], c⟩,
        ⟨exp_go hx 0 (by omega) hn hov hc, by decide⟩, ⟨rfl, by simp, rfl⟩, trivial, rows_snoc x.l (x.f 0) c, SBle.cells (fun E => rfl) rfl, trivial⟩⟩
    replace hn := lt_cases hn (of_decide_eq_false hnx)
    clear hnx
    refine ⟨fun hov => ?_, fun hnx => ?_⟩
    · have hov := of_decide_eq_true hov
      exact ⟨⟨by omega, trivial, by omega, by omega⟩, rfl, fun c hc => ⟨⟨by omega, by omega, by omega⟩, ⟨by omega, by omega⟩, by omega, ⟨by omega, by omega⟩, ⟨delF 1 x.f, x.T.told (x.f 1).id, x.l ++ [x.f 1], c⟩,
        ⟨exp_go hx 1 (by omega) hn hov hc, by decide⟩, ⟨rfl, by simp, rfl⟩, trivial, rows_snoc x.l (x.f 1) c, SBle.cells (fun E => rfl) rfl, trivial⟩⟩
    replace hn := lt_cases hn (of_decide_eq_false hnx)
    clear hnx
    refine ⟨fun hov => ?_, fun hnx => ?_⟩
    · have hov := of_decide_eq_true hov
      exact ⟨⟨by omega, trivial, by omega, by omega⟩, rfl, fun c hc => ⟨⟨by omega, by omega, by omega⟩, ⟨by omega, by omega⟩, by omega, ⟨by omega, by omega⟩, ⟨delF 2 x.f, x.T.told (x.f 2).id, x.l ++ [x.f 2], c⟩,
        ⟨exp_go hx 2 (by omega) hn hov hc, by decide⟩, ⟨rfl, by simp, rfl⟩, trivial, rows_snoc x.l (x.f 2) c, SBle.cells (fun E => rfl) rfl, trivial⟩⟩
    replace hn := lt_cases hn (of_decide_eq_false hnx)
    clear hnx
    exact exp_end hx hn
set_option maxHeartbeats 4000000 in
set_option maxRecDepth 10000 in
theorem expire4 (most term opened e0 e1 e2 e3 e4 e5 e6 e7 ends : Int) (a b c d : Sl) (clock : Int) (n1 : 0 ≤ ends) (n2 : ends ≤ 1048576) : Holds (runC (cfgE (⟨most, term, [a, b, c, d], opened, e0, e1, e2, e3, e4, e5, e6, e7, ends⟩ : Tb) clock) 13 Try.f13 (⟨most, term, [a, b, c, d], opened, e0, e1, e2, e3, e4, e5, e6, e7, ends⟩ : Tb) [iv clock] (rowK2 (IsRow2 (over clock [a, b, c, d]) ((⟨most, term, [a, b, c, d], opened, e0, e1, e2, e3, e4, e5, e6, e7, ends⟩ : Tb).expire clock)))) := by
  refine Holds.mk ?_
  have hv := vcExpire4 (⟨most, term, [a, b, c, d], opened, e0, e1, e2, e3, e4, e5, e6, e7, ends⟩ : Tb) a b c d clock (IsRow2 (over clock [a, b, c, d]) ((⟨most, term, [a, b, c, d], opened, e0, e1, e2, e3, e4, e5, e6, e7, ends⟩ : Tb).expire clock))
  dsimp only at hv
  rw [hv]
  clear hv
  have hs := exp_start (⟨most, term, [a, b, c, d], opened, e0, e1, e2, e3, e4, e5, e6, e7, ends⟩ : Tb) clock (by simp)
  refine ⟨⟨⟨_, _, _, _⟩, hs, rfl, rfl, SBle.cells (fun E => rfl) rfl, trivial⟩, ?_, ?_, ?_, ?_, ?_⟩
  · intro x hx
    exact exp_end hx fun i hi => by omega
  · intro x hx
    have hends := exp_ends hx
    simp only at hends
    have hfew := hx.few
    have hn : ∀ i, i < 0 → ¬ (x.f i).dl ≤ clock := fun i hi => by omega
    refine ⟨fun hov => ?_, fun hnx => ?_⟩
    · have hov := of_decide_eq_true hov
      exact ⟨⟨by omega, trivial, by omega, by omega⟩, rfl, fun c hc => ⟨⟨by omega, by omega, by omega⟩, ⟨by omega, by omega⟩, by omega, ⟨by omega, by omega⟩, ⟨delF 0 x.f, x.T.told (x.f 0).id, x.l ++ [x.f 0], c⟩,
        ⟨exp_go hx 0 (by omega) hn hov hc, by decide⟩, ⟨rfl, by simp, rfl⟩, trivial, rows_snoc x.l (x.f 0) c, SBle.cells (fun E => rfl) rfl, trivial⟩⟩
    replace hn := lt_cases hn (of_decide_eq_false hnx)
    clear hnx
    exact exp_end hx hn
  · intro x hx
    have hends := exp_ends hx
    simp only at hends
    have hfew := hx.few
    have hn : ∀ i, i < 0 → ¬ (x.f i).dl ≤ clock := fun i hi => by omega
    refine ⟨fun hov => ?_, fun hnx => ?_⟩
    · have hov := of_decide_eq_true hov
      exact ⟨⟨by omega, trivial, by omega, by omega⟩, rfl, fun c hc => ⟨⟨by omega, by omega, by omega⟩, ⟨by omega, by omega⟩, by omega, ⟨by omega, by omega⟩, ⟨delF 0 x.f, x.T.told (x.f 0).id, x.l ++ [x.f 0], c⟩,
        ⟨exp_go hx 0 (by omega) hn hov hc, by decide⟩, ⟨rfl, by simp, rfl⟩, trivial, rows_snoc x.l (x.f 0) c, SBle.cells (fun E => rfl) rfl, trivial⟩⟩
    replace hn := lt_cases hn (of_decide_eq_false hnx)
    clear hnx
    refine ⟨fun hov => ?_, fun hnx => ?_⟩
    · have hov := of_decide_eq_true hov
      exact ⟨⟨by omega, trivial, by omega, by omega⟩, rfl, fun c hc => ⟨⟨by omega, by omega, by omega⟩, ⟨by omega, by omega⟩, by omega, ⟨by omega, by omega⟩, ⟨delF 1 x.f, x.T.told (x.f 1).id, x.l ++ [x.f 1], c⟩,
        ⟨exp_go hx 1 (by omega) hn hov hc, by decide⟩, ⟨rfl, by simp, rfl⟩, trivial, rows_snoc x.l (x.f 1) c, SBle.cells (fun E => rfl) rfl, trivial⟩⟩
    replace hn := lt_cases hn (of_decide_eq_false hnx)
    clear hnx
    exact exp_end hx hn
  · intro x hx
    have hends := exp_ends hx
    simp only at hends
    have hfew := hx.few
    have hn : ∀ i, i < 0 → ¬ (x.f i).dl ≤ clock := fun i hi => by omega
    refine ⟨fun hov => ?_, fun hnx => ?_⟩
    · have hov := of_decide_eq_true hov
      exact ⟨⟨by omega, trivial, by omega, by omega⟩, rfl, fun c hc => ⟨⟨by omega, by omega, by omega⟩, ⟨by omega, by omega⟩, by omega, ⟨by omega, by omega⟩, ⟨delF 0 x.f, x.T.told (x.f 0).id, x.l ++ [x.f 0], c⟩,
        ⟨exp_go hx 0 (by omega) hn hov hc, by decide⟩, ⟨rfl, by simp, rfl⟩, trivial, rows_snoc x.l (x.f 0) c, SBle.cells (fun E => rfl) rfl, trivial⟩⟩
    replace hn := lt_cases hn (of_decide_eq_false hnx)
    clear hnx
    refine ⟨fun hov => ?_, fun hnx => ?_⟩
    · have hov := of_decide_eq_true hov
      exact ⟨⟨by omega, trivial, by omega, by omega⟩, rfl, fun c hc => ⟨⟨by omega, by omega, by omega⟩, ⟨by omega, by omega⟩, by omega, ⟨by omega, by omega⟩, ⟨delF 1 x.f, x.T.told (x.f 1).id, x.l ++ [x.f 1], c⟩,
        ⟨exp_go hx 1 (by omega) hn hov hc, by decide⟩, ⟨rfl, by simp, rfl⟩, trivial, rows_snoc x.l (x.f 1) c, SBle.cells (fun E => rfl) rfl, trivial⟩⟩
    replace hn := lt_cases hn (of_decide_eq_false hnx)
    clear hnx
    refine ⟨fun hov => ?_, fun hnx => ?_⟩
    · have hov := of_decide_eq_true hov
      exact ⟨⟨by omega, trivial, by omega, by omega⟩, rfl, fun c hc => ⟨⟨by omega, by omega, by omega⟩, ⟨by omega, by omega⟩, by omega, ⟨by omega, by omega⟩, ⟨delF 2 x.f, x.T.told (x.f 2).id, x.l ++ [x.f 2], c⟩,
        ⟨exp_go hx 2 (by omega) hn hov hc, by decide⟩, ⟨rfl, by simp, rfl⟩, trivial, rows_snoc x.l (x.f 2) c, SBle.cells (fun E => rfl) rfl, trivial⟩⟩
    replace hn := lt_cases hn (of_decide_eq_false hnx)
    clear hnx
    exact exp_end hx hn
  · intro x hx
    have hends := exp_ends hx
    simp only at hends
    have hfew := hx.few
    have hn : ∀ i, i < 0 → ¬ (x.f i).dl ≤ clock := fun i hi => by omega
    refine ⟨fun hov => ?_, fun hnx => ?_⟩
    · have hov := of_decide_eq_true hov
      exact ⟨⟨by omega, trivial, by omega, by omega⟩, rfl, fun c hc => ⟨⟨by omega, by omega, by omega⟩, ⟨by omega, by omega⟩, by omega, ⟨by omega, by omega⟩, ⟨delF 0 x.f, x.T.told (x.f 0).id, x.l ++ [x.f 0], c⟩,
        ⟨exp_go hx 0 (by omega) hn hov hc, by decide⟩, ⟨rfl, by simp, rfl⟩, trivial, rows_snoc x.l (x.f 0) c, SBle.cells (fun E => rfl) rfl, trivial⟩⟩
    replace hn := lt_cases hn (of_decide_eq_false hnx)
    clear hnx
    refine ⟨fun hov => ?_, fun hnx => ?_⟩
    · have hov := of_decide_eq_true hov
      exact ⟨⟨by omega, trivial, by omega, by omega⟩, rfl, fun c hc => ⟨⟨by omega, by omega, by omega⟩, ⟨by omega, by omega⟩, by omega, ⟨by omega, by omega⟩, ⟨delF 1 x.f, x.T.told (x.f 1).id, x.l ++ [x.f 1], c⟩,
        ⟨exp_go hx 1 (by omega) hn hov hc, by decide⟩, ⟨rfl, by simp, rfl⟩, trivial, rows_snoc x.l (x.f 1) c, SBle.cells (fun E => rfl) rfl, trivial⟩⟩
    replace hn := lt_cases hn (of_decide_eq_false hnx)
    clear hnx
    refine ⟨fun hov => ?_, fun hnx => ?_⟩
    · have hov := of_decide_eq_true hov
      exact ⟨⟨by omega, trivial, by omega, by omega⟩, rfl, fun c hc => ⟨⟨by omega, by omega, by omega⟩, ⟨by omega, by omega⟩, by omega, ⟨by omega, by omega⟩, ⟨delF 2 x.f, x.T.told (x.f 2).id, x.l ++ [x.f 2], c⟩,
        ⟨exp_go hx 2 (by omega) hn hov hc, by decide⟩, ⟨rfl, by simp, rfl⟩, trivial, rows_snoc x.l (x.f 2) c, SBle.cells (fun E => rfl) rfl, trivial⟩⟩
    replace hn := lt_cases hn (of_decide_eq_false hnx)
    clear hnx
    refine ⟨fun hov => ?_, fun hnx => ?_⟩
    · have hov := of_decide_eq_true hov
      exact ⟨⟨by omega, trivial, by omega, by omega⟩, rfl, fun c hc => ⟨⟨by omega, by omega, by omega⟩, ⟨by omega, by omega⟩, by omega, ⟨by omega, by omega⟩, ⟨delF 3 x.f, x.T.told (x.f 3).id, x.l ++ [x.f 3], c⟩,
        ⟨exp_go hx 3 (by omega) hn hov hc, by decide⟩, ⟨rfl, by simp, rfl⟩, trivial, rows_snoc x.l (x.f 3) c, SBle.cells (fun E => rfl) rfl, trivial⟩⟩
    replace hn := lt_cases hn (of_decide_eq_false hnx)
    clear hnx
    exact exp_end hx hn
theorem expire_holds {T : Tb} (hT : T.Ok) (clock : Int) : Holds (runC (cfgE T clock) 13 Try.f13 T [iv clock] (rowK2 (IsRow2 (over clock T.ss) (T.expire clock)))) := by
  have hlen := hT.len
  obtain ⟨n1, n2⟩ := hT.ends
  obtain ⟨most, term, ss, opened, e0, e1, e2, e3, e4, e5, e6, e7, ends⟩ := T
  simp only at hlen n1 n2
  match ss, hlen with
  | [], _ => exact expire0 _ _ _ _ _ _ _ _ _ _ _ _  _ n1 n2
  | [a], _ => exact expire1 _ _ _ _ _ _ _ _ _ _ _ _ a _ n1 n2
  | [a, b], _ => exact expire2 _ _ _ _ _ _ _ _ _ _ _ _ a b _ n1 n2
  | [a, b, c], _ => exact expire3 _ _ _ _ _ _ _ _ _ _ _ _ a b c _ n1 n2
  | [a, b, c, d], _ => exact expire4 _ _ _ _ _ _ _ _ _ _ _ _ a b c d _ n1 n2
end Go.Proofs.Ytobbhdmbblhgaaa
