/-
  The framework's eleventh part, ahead of calls: append on rows whose length is not known.
-/
import Derived.Test.YtkfdcapnogklfaaGreatDoorMc
namespace Go.Proofs.YtkfdcapnogklfaaGreatDoor.Sx
open Go
noncomputable section
structure RowsOf (E : Nat → Nat) (s : Nat) (cols : List Col) (n : Nat) (l : List Value) : Prop where
  len : l.length = n * s
  wide : cols.length = s
  get : ∀ i k col, i < n → cols[k]? = some col → l[i * s + k]? = some ((col.at i).val E)
def Col.flat : Col → Bool
  | .raw _ => false
  | _ => true
def flats : List Col → Bool
  | [] => true
  | c :: r => c.flat && flats r
theorem flats_get : ∀ {l : List Col}, flats l = true → ∀ {k : Nat} {c : Col}, l[k]? = some c → c.flat = true
  | [], _, k, c, h => by simp at h
  | x :: r, h, k, c, hk => by
    simp only [flats, Bool.and_eq_true] at h
    cases k with
    | zero => simp at hk; subst hk; exact h.1
    | succ k => exact flats_get h.2 (by simpa using hk)
theorem Col.flat_one {c : Col} (h : c.flat = true) (E : Nat → Nat) (i : Nat) : ((c.at i).val E).oneCell' = true := by
  cases c <;> first | (cases h; done) | rfl
theorem Col.flat_val {c : Col} (h : c.flat = true) (E E' : Nat → Nat) (i : Nat) : (c.at i).val E = (c.at i).val E' := by
  cases c <;> first | (cases h; done) | rfl
theorem RowsOf.one {E : Nat → Nat} {s : Nat} {cols : List Col} {n : Nat} {l : List Value} (h : RowsOf E s cols n l) (hf : flats cols = true) : ∀ v ∈ l, v.oneCell' = true := by
  intro v hv
  obtain ⟨q, hq⟩ := List.getElem?_of_mem hv
  have hql := (List.getElem?_eq_some_iff.1 hq).1
  rw [h.len] at hql
  have hs : 0 < s := by
    rcases Nat.eq_zero_or_pos s with e | e
    · subst e; simp at hql
    · exact e
  have h1 : q / s < n := (Nat.div_lt_iff_lt_mul hs).2 hql
  have h2 : q % s < cols.length := by rw [h.wide]; exact Nat.mod_lt _ hs
  have h3 := h.get (q / s) (q % s) cols[q % s] h1 (List.getElem?_eq_getElem h2)
  rw [show q / s * s + q % s = q by rw [Nat.mul_comm]; exact Nat.div_add_mod q s, hq] at h3
  injection h3 with h3
  rw [h3]
  exact Col.flat_one (flats_get hf (List.getElem?_eq_getElem h2)) E _
def Col.shift (i : Nat) : Col → Col
  | .int k f => .int k (fun j => f (i + j))
  | .bool f => .bool (fun j => f (i + j))
  | .str f => .str (fun j => f (i + j))
  | .raw f => .raw (fun j => f (i + j))
theorem Col.shift_at (i j : Nat) (c : Col) : (c.shift i).at j = c.at (i + j) := by cases c <;> rfl
def shiftCols (i : Nat) (cols : List Col) : List Col := match i with
  | 0 => cols
  | i + 1 => cols.map (Col.shift (i + 1))
theorem shiftCols_get {i : Nat} {cols : List Col} {k : Nat} {c : Col} (h : (shiftCols i cols)[k]? = some c) : ∃ d, cols[k]? = some d ∧ ∀ j, c.at j = d.at (i + j) := by
  cases i with
  | zero => exact ⟨c, h, fun j => by rw [Nat.zero_add]⟩
  | succ i =>
    simp only [shiftCols, List.getElem?_map] at h
    cases hc : cols[k]? with
    | none => rw [hc] at h; cases h
    | some d => rw [hc] at h; injection h with h; subst h; exact ⟨d, rfl, fun j => Col.shift_at _ _ _⟩
theorem shiftCols_len {i : Nat} {cols : List Col} : (shiftCols i cols).length = cols.length := by cases i <;> simp [shiftCols]
theorem shift_flat {i : Nat} {c : Col} : (c.shift i).flat = c.flat := by cases c <;> rfl
theorem shiftCols_flat {i : Nat} {cols : List Col} : flats (shiftCols i cols) = flats cols := by
  cases i with
  | zero => rfl
  | succ i =>
    simp only [shiftCols]
    induction cols with
    | nil => rfl
    | cons c r ih => simp only [List.map_cons, flats, shift_flat, ih]
/-! ### Rows that are written out, as columns -/
def nths (w k : Nat) : Nat → List SV → Option (List SV)
  | 0, _ => some []
  | n + 1, l => match l[k]?, nths w k n (l.drop w) with
    | some v, some r => some (v :: r)
    | _, _ => none
theorem nths_get {w k : Nat} : ∀ {n : Nat} {l r : List SV}, nths w k n l = some r → r.length = n ∧ ∀ (i : Nat), i < n → ∃ v, r[i]? = some v ∧ l[i * w + k]? = some v
  | 0, l, r, h => by simp [nths] at h; subst h; exact ⟨rfl, fun i hi => by omega⟩
  | n + 1, l, r, h => by
    simp only [nths] at h
    split at h
    · rename_i v r' hv hr
      injection h with h; subst h
      obtain ⟨h1, h2⟩ := nths_get hr
      refine ⟨by simp [h1], fun i hi => ?_⟩
      cases i with
      | zero => exact ⟨v, rfl, by simpa using hv⟩
      | succ i =>
        obtain ⟨u, hu1, hu2⟩ := h2 i (by omega)
        refine ⟨u, by simpa using hu1, ?_⟩
        rw [List.getElem?_drop] at hu2
        rw [show (i + 1) * w + k = w + (i * w + k) by rw [Nat.add_mul]; omega]; exact hu2
    · cases h
def boolsAt : List SV → Option (List Bool)
  | [] => some []
  | .bool _ s :: r => (match boolsAt r with
    | some l => some (s :: l)
    | none => none)
  | _ :: _ => none
def selB (l : List Bool) (i : Nat) : Bool := l.getD i false
theorem boolsAt_get : ∀ {cs : List SV} {l : List Bool}, boolsAt cs = some l → ∀ (i : Nat) (v : SV), cs[i]? = some v → ∃ b, v = .bool b (selB l i)
  | [], l, h, i, v, hv => by simp at hv
  | .bool b s :: r, l, h, i, v, hv => by
    simp only [boolsAt] at h
    split at h
    · rename_i l' hl
      injection h with h; subst h
      cases i with
      | zero => simp at hv; subst hv; exact ⟨b, rfl⟩
      | succ i => obtain ⟨b', hb⟩ := boolsAt_get hl i v (by simpa using hv); exact ⟨b', by rw [hb]; rfl⟩
    · cases h
def colOf : List SV → Option Col
  | .int k b n :: r => (match intsAt k (.int k b n :: r) with
    | some l => some (.int k (sel l))
    | none => none)
  | .str b s :: r => (match strsAt (.str b s :: r) with
    | some l => some (.str (selS l))
    | none => none)
  | .bool b s :: r => (match boolsAt (.bool b s :: r) with
    | some l => some (.bool (selB l))
    | none => none)
  | _ => none
theorem colOf_get {l : List SV} {c : Col} (h : colOf l = some c) : c.flat = true ∧ ∀ (E : Nat → Nat) (i : Nat) (v : SV), l[i]? = some v → v.val E = (c.at i).val E := by
  unfold colOf at h
  split at h
  · split at h
    · rename_i hl
      injection h with h; subst h
      refine ⟨rfl, fun E i v hv => ?_⟩
      obtain ⟨b, hb⟩ := (intsAt_get hl).2 i v hv
      rw [hb]; rfl
    · cases h
  · split at h
    · rename_i hl
      injection h with h; subst h
      refine ⟨rfl, fun E i v hv => ?_⟩
      obtain ⟨b, hb⟩ := strsAt_get hl i v hv
      rw [hb]; rfl
    · cases h
  · split at h
    · rename_i hl
      injection h with h; subst h
      refine ⟨rfl, fun E i v hv => ?_⟩
      obtain ⟨b, hb⟩ := boolsAt_get hl i v hv
      rw [hb]; rfl
    · cases h
  · cases h
def colsOf (w n : Nat) (cs : List SV) : Nat → Option (List Col)
  | 0 => some []
  | r + 1 => match nths w (w - (r + 1)) n cs with
    | some l => (match colOf l, colsOf w n cs r with
      | some c, some cols => some (c :: cols)
      | _, _ => none)
    | none => none
theorem colsOf_get {w n : Nat} {cs : List SV} : ∀ {r : Nat} {cols : List Col}, r ≤ w → colsOf w n cs r = some cols → cols.length = r ∧ flats cols = true ∧
    ∀ (E : Nat → Nat) (i j : Nat) (col : Col), i < n → cols[j]? = some col → ∃ v, cs[i * w + (w - r + j)]? = some v ∧ v.val E = (col.at i).val E
  | 0, cols, _, h => by simp [colsOf] at h; subst h; exact ⟨rfl, rfl, fun E i j col _ hj => by simp at hj⟩
  | r + 1, cols, hw, h => by
    simp only [colsOf] at h
    split at h
    · rename_i l hl
      split at h
      · rename_i c cols' hc hr
        injection h with h; subst h
        obtain ⟨h1, h2, h3⟩ := colsOf_get (by omega) hr
        obtain ⟨g1, g2⟩ := colOf_get hc
        refine ⟨by simp [h1], by simp [flats, g1, h2], fun E i j col hi hj => ?_⟩
        cases j with
        | zero =>
          simp at hj; subst hj
          obtain ⟨v, hv1, hv2⟩ := (nths_get hl).2 i hi
          exact ⟨v, by simpa using hv2, g2 E i v hv1⟩
        | succ j =>
          obtain ⟨v, hv1, hv2⟩ := h3 E i j col hi (by simpa using hj)
          exact ⟨v, by rw [show w - (r + 1) + (j + 1) = w - r + j by omega]; exact hv1, hv2⟩
      · cases h
    · cases h
def srcRows (m : Mem) (s : Nat) : SV → Option (Prop × Nat × Option (List Col))
  | .nilslc => some (True, 0, none)
  | .slc key o n _ _ => (match n with
    | 0 => some (True, 0, none)
    | n + 1 => (match m.get key with
      | some (.cells cs _ _) => (match takeAt cs o ((n + 1) * s) with
        | some l => (match colsOf s (n + 1) l s with
          | some cols => some (True, n + 1, some cols)
          | none => none)
        | none => none)
      | _ => none))
  | .rslc key w _ i n _ => (match m.get key with
    | some (.rows _ nb cols _ _ _) => if w = s ∧ cols.length = s ∧ flats cols = true then some (i + n ≤ nb, n, some (shiftCols i cols)) else none
    | _ => none)
  | .str _ l => if s = 1 then some (True, l.length, some [.int .u8 (fun j => ((l.getD j 0).toNat : Int))]) else none
  | _ => none
theorem beq0 {n : Nat} : Nat.beq n 0 = true ↔ n = 0 := by cases n <;> simp
theorem srcRows_run {P : Program} {Γ E m nx w} (hs : SatM Γ E m nx w) {s : Nat} {x : SV} {p : Prop} {n : Nat} {oc : Option (List Col)} (h : srcRows m s x = some (p, n, oc)) (hp : p) :
    ∃ l : List Value, (Builtin.lenOf (x.val E)).run P w = .ok n w ∧ (∀ k, (Builtin.firstCells s n (x.val E)).run P { w with drawn := k } = .ok l.toArray { w with drawn := k }) ∧ l.length = n * s ∧
      (∀ cols, oc = some cols → RowsOf E s cols n l ∧ flats cols = true) ∧ (oc = none → n = 0) := by
  unfold srcRows at h
  split at h
  · injection h with h; injection h with h1 h2; injection h2 with h2 h3; subst h2; subst h3
    exact ⟨[], rfl, fun k => by simp [SV.val, Builtin.firstCells], by simp, (fun _ h => by cases h), fun _ => rfl⟩
  · rename_i key o n' cl c
    split at h
    · injection h with h; injection h with h1 h2; injection h2 with h2 h3; subst h2; subst h3
      refine ⟨[], rfl, fun k => ?_, by simp, (fun _ h => by cases h), fun _ => rfl⟩
      simp [SV.val, Builtin.firstCells, loadCells, loadCellsFrom]
    · rename_i n'
      split at h
      · rename_i cs tot ty hk
        split at h
        · rename_i l hl
          split at h
          · rename_i cols hc
            injection h with h; injection h with h1 h2; injection h2 with h2 h3; subst h2; subst h3
            have hg := takeAt_get hl
            obtain ⟨ob, ho, c0, fr, rfl, _, h2, _⟩ := hs.blk key _ hk rfl
            obtain ⟨q1, q2, q3⟩ := colsOf_get (Nat.le_refl s) hc
            refine ⟨l.map (SV.val E), rfl, fun k => ?_, by rw [List.length_map, hg.1], fun cols' hc' => ?_, fun h => by cases h⟩
            · have := run_loadCells (P := P) (w := { w with drawn := k }) (b := E key) (c := c0) ho o (l.map (SV.val E)) (fun i v hi => by
                rw [List.getElem?_map] at hi
                cases hil : l[i]? with
                | none => rw [hil] at hi; cases hi
                | some u => rw [hil] at hi; injection hi with hi; subst hi; exact h2 _ _ (hg.2 i u hil))
              rw [List.length_map, hg.1] at this
              simp only [SV.val, Builtin.firstCells, this]
            · injection hc' with hc'; subst hc'
              refine ⟨⟨by rw [List.length_map, hg.1], q1, fun i k col hi hk => ?_⟩, q2⟩
              obtain ⟨v, hv1, hv2⟩ := q3 E i k col hi hk
              rw [Nat.sub_self, Nat.zero_add] at hv1
              rw [List.getElem?_map, hv1, ← hv2]; rfl
          · cases h
        · cases h
      · cases h
  · rename_i key w' z i n' c
    split at h
    · rename_i zb nb cols ro tot ty hk
      split at h
      · rename_i hc
        obtain ⟨rfl, hcl, hf⟩ := hc
        injection h with h; injection h with h1 h2; injection h2 with h2 h3; subst h1; subst h2; subst h3
        rcases Nat.eq_zero_or_pos n' with e | e
        · subst e
          refine ⟨[], rfl, fun k => ?_, by simp, fun cols' hc' => ?_, fun h => by cases h⟩
          · simp only [SV.val]
            cases z <;> simp [Builtin.firstCells, loadCells, loadCellsFrom]
          · injection hc' with hc'; subst hc'
            exact ⟨⟨by simp, by rw [shiftCols_len]; exact hcl, fun i k col hi _ => by omega⟩, by rw [shiftCols_flat]; exact hf⟩
        · have hno : (SB.rows zb nb cols ro tot ty).no = false := SB.no_rows (i := 0) (by omega)
          obtain ⟨ob, ho, c0, fr, rfl, _, h1, _, h2⟩ := hs.blk key _ hk hno
          rw [hcl] at h1 h2
          have hle : i * w' + n' * w' ≤ c0.size := by
            rw [← Nat.add_mul]
            exact Nat.le_trans (Nat.mul_le_mul_right w' hp) h1
          have hbeq : Nat.beq n' 0 = false := by cases n' with
            | zero => omega
            | succ n => rfl
          have hlen : ((c0.toList.drop (i * w')).take (n' * w')).length = n' * w' := by
            rw [List.length_take, List.length_drop, Array.length_toList]; omega
          refine ⟨(c0.toList.drop (i * w')).take (n' * w'), rfl, fun k => ?_, hlen, fun cols' hc' => ?_, fun h => by cases h⟩
          · have := run_loadCells (P := P) (w := { w with drawn := k }) (b := E key) (c := c0) ho (i * w') ((c0.toList.drop (i * w')).take (n' * w')) (fun j v hj => by
              rw [List.getElem?_take] at hj
              split at hj
              · rw [List.getElem?_drop, Array.getElem?_toList] at hj; exact hj
              · cases hj)
            rw [hlen] at this
            simp only [SV.val, hbeq, Bool.and_false, cond_false, Builtin.firstCells, this]
          · injection hc' with hc'; subst hc'
            refine ⟨⟨hlen, by rw [shiftCols_len]; exact hcl, fun j k col hj hk => ?_⟩, by rw [shiftCols_flat]; exact hf⟩
            obtain ⟨d, hd1, hd2⟩ := shiftCols_get hk
            have hkl : k < w' := by have := (List.getElem?_eq_some_iff.1 hd1).1; omega
            have hlt : j * w' + k < n' * w' := by
              have : (j + 1) * w' ≤ n' * w' := Nat.mul_le_mul_right w' hj
              rw [Nat.add_mul] at this; omega
            rw [hd2, List.getElem?_take, if_pos hlt, List.getElem?_drop, Array.getElem?_toList]
            have := h2 (i + j) k d (by omega) hd1
            rw [Nat.add_mul] at this
            rw [← Nat.add_assoc]; exact this
      · cases h
    · cases h
  · rename_i l s'
    split at h
    · rename_i e; subst e
      injection h with h; injection h with h1 h2; injection h2 with h2 h3; subst h2; subst h3
      refine ⟨s'.map fun b => Value.int .u8 b.toNat, by simp [SV.val, Builtin.lenOf, ByteArray.size], fun k => ?_, by simp, fun cols' hc' => ?_, fun h => by cases h⟩
      · simp only [SV.val, Builtin.firstCells, Sem.run_pure]
        congr 1
        have : (ByteArray.mk s'.toArray).extract 0 s'.length = ByteArray.mk s'.toArray := by
          rw [show s'.length = (ByteArray.mk s'.toArray).size by simp [ByteArray.size]]
          exact ByteArray.extract_zero_size
        rw [this]; simp
      · injection hc' with hc'; subst hc'
        refine ⟨⟨by simp, rfl, fun i k col hi hk => ?_⟩, rfl⟩
        cases k with
        | succ k => simp at hk
        | zero =>
          simp at hk; subst hk
          simp [Col.at, SV.val, hi]
    · cases h
  · cases h
def Col.cat (n : Nat) : Col → Col → Option Col
  | .int k f, .int k' g => if k = k' then some (.int k (fun j => if j < n then f j else g (j - n))) else none
  | .str f, .str g => some (.str (fun j => if j < n then f j else g (j - n)))
  | .bool f, .bool g => some (.bool (fun j => if j < n then f j else g (j - n)))
  | _, _ => none
theorem Col.cat_at {n : Nat} {c d e : Col} (h : Col.cat n c d = some e) : e.flat = true ∧ ∀ j, e.at j = if j < n then c.at j else d.at (j - n) := by
  unfold Col.cat at h
  split at h
  · split at h
    · rename_i hk; subst hk; injection h with h; subst h
      exact ⟨rfl, fun j => by simp only [Col.at]; split <;> rfl⟩
    · cases h
  · injection h with h; subst h; exact ⟨rfl, fun j => by simp only [Col.at]; split <;> rfl⟩
  · injection h with h; subst h; exact ⟨rfl, fun j => by simp only [Col.at]; split <;> rfl⟩
  · cases h
def catCols (n : Nat) : List Col → List Col → Option (List Col)
  | [], [] => some []
  | c :: cs, d :: ds => (match Col.cat n c d, catCols n cs ds with
    | some e, some es => some (e :: es)
    | _, _ => none)
  | _, _ => none
theorem catCols_get {n : Nat} : ∀ {c d e : List Col}, catCols n c d = some e → e.length = c.length ∧ e.length = d.length ∧ flats e = true ∧
    ∀ (k : Nat) (col : Col), e[k]? = some col → ∃ a b, c[k]? = some a ∧ d[k]? = some b ∧ ∀ j, col.at j = if j < n then a.at j else b.at (j - n)
  | [], [], e, h => by simp [catCols] at h; subst h; exact ⟨rfl, rfl, rfl, fun k col hk => by simp at hk⟩
  | c :: cs, d :: ds, e, h => by
    simp only [catCols] at h
    split at h
    · rename_i x es hx hes
      injection h with h; subst h
      obtain ⟨h1, h2, h3, h4⟩ := catCols_get hes
      obtain ⟨g1, g2⟩ := Col.cat_at hx
      refine ⟨by simp [h1], by simp [h2], by simp [flats, g1, h3], fun k col hk => ?_⟩
      cases k with
      | zero => simp at hk; subst hk; exact ⟨c, d, rfl, rfl, g2⟩
      | succ k => exact h4 k col (by simpa using hk)
    · cases h
  | [], _ :: _, _, h => by cases h
  | _ :: _, [], _, h => by cases h
theorem RowsOf.cat {E : Nat → Nat} {s n1 n2 : Nat} {c1 c2 c : List Col} {l1 l2 : List Value} (h1 : RowsOf E s c1 n1 l1) (h2 : RowsOf E s c2 n2 l2) (h : catCols n1 c1 c2 = some c) :
    RowsOf E s c (n1 + n2) (l1 ++ l2) := by
  obtain ⟨g1, g2, g3, g4⟩ := catCols_get h
  refine ⟨by rw [List.length_append, h1.len, h2.len, Nat.add_mul], by rw [g1, h1.wide], fun i k col hi hk => ?_⟩
  obtain ⟨a, b, ha, hb, hat⟩ := g4 k col hk
  have hks : k < s := by have := (List.getElem?_eq_some_iff.1 hk).1; rw [g1, h1.wide] at this; exact this
  rw [hat, List.getElem?_append, h1.len]
  by_cases hlt : i < n1
  · have : (i + 1) * s ≤ n1 * s := Nat.mul_le_mul_right s hlt
    rw [Nat.add_mul] at this
    rw [if_pos hlt, if_pos (by omega)]
    exact h1.get i k a hlt ha
  · have : n1 * s ≤ i * s := Nat.mul_le_mul_right s (by omega)
    rw [if_neg hlt, if_neg (by omega)]
    have := h2.get (i - n1) k b (by omega) hb
    rw [Nat.sub_mul] at this
    rw [← this]; congr 1; omega
def joinCols (n : Nat) : Option (List Col) → Option (List Col) → Option (List Col)
  | some c, some d => catCols n c d
  | some c, none => some c
  | none, some d => some d
  | none, none => none
theorem joinCols_rows {E : Nat → Nat} {s n1 n2 : Nat} {o1 o2 : Option (List Col)} {c : List Col} {l1 l2 : List Value} (h : joinCols n1 o1 o2 = some c)
    (h1 : ∀ cols, o1 = some cols → RowsOf E s cols n1 l1 ∧ flats cols = true) (h1' : o1 = none → n1 = 0) (e1 : l1.length = n1 * s)
    (h2 : ∀ cols, o2 = some cols → RowsOf E s cols n2 l2 ∧ flats cols = true) (h2' : o2 = none → n2 = 0) (e2 : l2.length = n2 * s) : RowsOf E s c (n1 + n2) (l1 ++ l2) ∧ flats c = true := by
  unfold joinCols at h
  split at h
  · exact ⟨RowsOf.cat (h1 _ rfl).1 (h2 _ rfl).1 h, (catCols_get h).2.2.1⟩
  · injection h with h; subst h
    have := h2' rfl; subst this
    have : l2 = [] := List.eq_nil_of_length_eq_zero (by simpa using e2)
    subst this
    rw [List.append_nil, Nat.add_zero]; exact h1 _ rfl
  · injection h with h; subst h
    have := h1' rfl; subst this
    have : l1 = [] := List.eq_nil_of_length_eq_zero (by simpa using e1)
    subst this
    rw [List.nil_append, Nat.zero_add]; exact h2 _ rfl
  · cases h
def rowsK (elem : TypeId) (s : Nat) (z : Bool) (n : Nat) (cols : List Col) (m : Mem) (nx : Nat) (K : KL) : VC :=
  .all Nat fun c => .imp (n ≤ c) (K (some (.rslc nx s z 0 n c)) ((nx, .rows z n cols false (c * s) elem) :: m) (nx + 1))
def baseRows (elem : TypeId) (s : Nat) (x : SV) (n0 n : Nat) (cols : List Col) (m : Mem) (nx : Nat) (K : KL) : VC :=
  match x with
  | .nilslc => rowsK elem s true n cols m nx K
  | .slc key 0 _ _ c => (match m.get key with
    | some (.cells cs tot ty) => if cs.length = n0 * s ∧ ty = elem then .and (.atom (tot = c * s)) (rowsK elem s false n cols (m.drop key) nx K) else .fail "append: another block"
    | _ => .fail "append: no such block")
  | .rslc key _ z 0 _ c => (match m.get key with
    | some (.rows zb _ _ false tot ty) => if zb = z ∧ ty = elem then .and (.atom (tot = c * s)) (rowsK elem s z n cols (m.drop key) nx K) else .fail "append: another row"
    | _ => .fail "append: no row")
  | _ => .fail "append: to what"
def lappendRows (P : Program) (elem : TypeId) (s : Nat) (x y : SV) (m : Mem) (nx : Nat) (K : KL) : VC :=
  match bytes P elem, zeroSV P elem, srcRows m s x, srcRows m s y with
  | some by_, some z, some (p0, n0, o0), some (p1, n1, o1) => (match joinCols n0 o0 o1 with
    | some cols => if (z.plain && decide (z.cells.length = s) && decide (s ≠ 0)) = true then
        .and (.atom (p0 ∧ p1 ∧ 2 * (n0 + n1) * by_ ≤ 281474976710656 ∧ n0 + n1 < 9223372036854775808)) (baseRows elem s x n0 (n0 + n1) cols m nx K) else .fail "append: sizes"
    | none => .fail "append: no columns")
  | _, _, _, _ => .fail "append: rows"
section
variable {P : Program} {Γ : Base}
theorem getSet (c : Array Value) (off : Nat) (vs : List Value) (h : off + vs.length ≤ c.size) (q : Nat) :
    (setArr c off vs)[q]? = if off ≤ q ∧ q < off + vs.length then vs[q - off]? else c[q]? := by
  rw [← Array.getElem?_toList, setArr_toList]
  have key : ∀ (vs l : List Value) (off : Nat), off + vs.length ≤ l.length → (setRange l off vs)[q]? = if off ≤ q ∧ q < off + vs.length then vs[q - off]? else l[q]? := by
    intro vs
    induction vs with
    | nil => intro l off h; simp only [setRange, List.length_nil, Nat.add_zero]; rw [if_neg (by omega)]
    | cons v r ih =>
      intro l off h
      simp only [List.length_cons] at h ⊢
      simp only [setRange]
      rw [ih _ _ (by simp; omega)]
      by_cases h1 : off + 1 ≤ q ∧ q < off + 1 + r.length
      · rw [if_pos h1, if_pos (by omega), show q - off = (q - (off + 1)) + 1 by omega, List.getElem?_cons_succ]
      · rw [if_neg h1, List.getElem?_set]
        by_cases h2 : off = q
        · subst h2; rw [if_pos rfl, if_pos (by omega), if_pos (by omega), Nat.sub_self]; rfl
        · rw [if_neg h2, if_neg (by omega)]
  have e : c.toList[q]? = c[q]? := Array.getElem?_toList
  rw [key _ _ _ (by simpa using h), e]
theorem rowsGrow {Γ E m nx w} (hs : SatM Γ E m nx w) (hw : Mem.wf nx m = true) {K : KL} {elem : TypeId} {s : Nat} {z : Bool} {n : Nat} {cols : List Col} {m' : Mem} (hsub : ∀ k B, m'.get k = some B → m.get k = some B) (hk : (rowsK elem s z n cols m' nx K).holds)
    {l : List Value} (hl : RowsOf E s cols n l) (hf : flats cols = true) {c : Nat} (hc : n ≤ c) (hpos : 0 < n) {a rest : Array Value} (ha : a = l.toArray) (hr : rest.size = (c - n) * s) :
    After K Γ E nx (.slice (some ⟨w.heap.size, 0, none⟩) n c) { w with drawn := w.drawn + 1, heap := w.heap.push (.cells (a ++ rest) elem) } := by
  subst ha
  have hb : Nat.beq n 0 = false := by cases n with
    | zero => omega
    | succ n => rfl
  have hs' := hs.drew (w.drawn + 1)
  refine ⟨fun k => if k = nx then w.heap.size else E k, some (.rslc nx s z 0 n c), _, _, fun k hk => by simp [Nat.ne_of_lt hk], Nat.le_succ _, fun v hv => by injection hv with hv; subst hv; simp [SV.val, hb], ?_, hk c hc⟩
  refine hs'.push hw hsub (fun k X hk hn => ?_) (fun i hi hlt => ?_) ⟨hs.ext.os, hs.ext.tape, hs.ext.output, ?_, fun k hk hm => ?_⟩ (fun _ _ => .inr hs.ext.size) (fun D hD => Nat.ne_of_lt (Array.getElem?_eq_some_iff.1 (hs.kp D hD)).1) fun _ => ⟨_, by simp; rfl, ?_⟩
  · obtain ⟨o', ho, _⟩ := hs.blk k X (hsub k X hk) hn
    exact Nat.ne_of_lt (Array.getElem?_eq_some_iff.1 ho).1
  · show (w.heap.push _)[i]? = _
    rw [Array.getElem?_push, if_neg hi]
  · have := hs.ext.size; simp; omega
  · show (w.heap.push _)[k]? = _
    have := hs.ext.size
    rw [Array.getElem?_push, if_neg (by omega)]; exact hs.ext.block k hk hm
  · refine ⟨l.toArray ++ rest, (0, 0), rfl, fun _ i => .inr (by simp), ?_, ?_, fun i k col hi hk => ?_⟩
    · simp [hl.len, hl.wide]
    · simp only [Array.size_append, List.size_toArray, hl.len, hr, ← Nat.add_mul]; congr 1; omega
    · rw [hl.wide, Col.flat_val (flats_get hf hk) _ E]
      have := hl.get i k col hi hk
      rw [Array.getElem?_append_left (by simpa using (List.getElem?_eq_some_iff.1 this).1)]
      simpa using this
theorem rowsIn {Γ E m nx w} (hs : SatM Γ E m nx w) (hw : Mem.wf nx m = true) {K : KL} {elem : TypeId} {s : Nat} {z : Bool} {n0 n1 : Nat} {cols : List Col} {key : Nat} {B : SB} (hk : m.get key = some B) (hn : B.no = false) (hro : B.ro = false)
    (h : (rowsK elem s z (n0 + n1) cols (m.drop key) nx K).holds) {old new : List Value} (hl : RowsOf E s cols (n0 + n1) (old ++ new)) (hol : old.length = n0 * s) (hnl : new.length = n1 * s) (hf : flats cols = true)
    {c0 : Array Value} {fr : Nat × Nat} (ho : w.heap[E key]? = some (.cells c0 elem fr)) (hfr : ∀ i, c0.size ≤ i ∨ ¬ (fr.1 ≤ i ∧ i < fr.2)) {c : Nat} (hc : n0 + n1 ≤ c) (hsz : c0.size = c * s)
    (hold : ∀ q, q < n0 * s → c0[q]? = old[q]?) (hz : (z && Nat.beq (n0 + n1) 0) = false) :
    ∃ w', (storeCells ⟨E key, n0 * s, none⟩ new).run P w = .ok () w' ∧ After K Γ E nx (.slice (some ⟨E key, 0, none⟩) (n0 + n1) c) w' := by
  have hcs : n0 * s + n1 * s ≤ c0.size := by rw [hsz, ← Nat.add_mul]; exact Nat.mul_le_mul_right s hc
  have hrun := storeCells_run (P := P) (o := n0 * s) new 0 w c0 ho hfr (by omega) (fun v hv => hl.one hf v (List.mem_append_right _ hv))
  refine ⟨_, hrun, fun j => if j = nx then E key else E j, some (.rslc nx s z 0 (n0 + n1) c), _, _, fun k hk' => by simp [Nat.ne_of_lt hk'], Nat.le_succ _,
    fun v hv => by injection hv with hv; subst hv; simp [SV.val, hz], hs.move hw hk hn hro ?_, h c hc⟩
  refine ⟨_, fr, rfl, fun _ => by rw [setArr_size]; exact hfr, ?_, ?_, fun i k col hi hk => ?_⟩
  · rw [setArr_size, hl.wide, Nat.add_mul]; exact hcs
  · rw [setArr_size]; exact hsz
  · rw [hl.wide, Col.flat_val (flats_get hf hk) _ E]
    have hg := hl.get i k col hi hk
    rw [getSet _ _ _ (by omega), ← hg, List.getElem?_append, hol, Nat.add_zero]
    by_cases hlt : i * s + k < n0 * s
    · rw [if_pos hlt, if_neg (by omega)]; exact hold _ hlt
    · rw [if_neg hlt, if_pos]
      refine ⟨by omega, ?_⟩
      have := (List.getElem?_eq_some_iff.1 hg).1
      rw [List.length_append, hol] at this; omega
theorem lappendRows_ok {m : Mem} {nx : Nat} {ats : Array TypeId} {ty t0 t1 elem : TypeId} {d : TypeDesc} {s : Nat} (h0 : ats[0]? = some t0) (h1 : ats[1]? = some t1) (hd : P.underlying t0 = some (.slice elem)) (hd1 : P.underlying t1 = some d) (hni : notInt d = true)
    (hsz : sz P elem = some s) {x y : SV} {K : KL} {Γ : Base} {E : Nat → Nat} {w : World}
    (h : (lappendRows P elem s x y m nx K).holds) (hs : SatM Γ E m nx w) (hw : Mem.wf nx m = true) :
    ∃ r w', (Builtin.append_ ats ty #[x.val E, y.val E]).run P w = .ok r w' ∧ After K Γ E nx r w' := by
  unfold lappendRows at h
  split at h
  · rename_i by_ z p0 n0 o0 p1 n1 o1 hby hz hx hy
    split at h
    · rename_i cols hcols
      split at h
      · rename_i hc
        simp only [Bool.and_eq_true, decide_eq_true_eq] at hc
        obtain ⟨⟨g1, g2⟩, g3⟩ := hc
        obtain ⟨⟨hp0, hp1, hb1, hb2⟩, h⟩ := h
        obtain ⟨old, xlen, xrun, xl, xc, xn⟩ := srcRows_run (P := P) hs hx hp0
        obtain ⟨new, ylen, yrun, yl, yc, yn⟩ := srcRows_run (P := P) hs hy hp1
        obtain ⟨hrows, hflat⟩ := joinCols_rows hcols xc xn xl yc yn yl
        have hzr : ∀ w : World, (zeroValue elem).run P w = .ok (z.val E) w := fun w => zeroSV_run hz
        have hzs : (z.val E).cells.size = s := by rw [SV.cells_val g1]; simp [g2]
        have hnew : (Builtin.firstCells s n1 (y.val E)).run P w = .ok new.toArray w := yrun w.drawn
        have grow : ∀ (base : Option Addr) (c : Nat) (z : Bool) (m' : Mem), x.val E = .slice base n0 c → (∀ k B, m'.get k = some B → m.get k = some B) → c < n0 + n1 → (rowsK elem s z (n0 + n1) cols m' nx K).holds →
            ∃ r w', (Builtin.append_ ats ty #[x.val E, y.val E]).run P w = .ok r w' ∧ After K Γ E nx r w' := by
          intro base c z m' hxv hsub hlt hk
          rw [hxv] at xrun ⊢
          obtain ⟨c', rest, q1, q2, q3⟩ := append_grow (w := w) (ty := ty) (base := base) (n0 := n0) (c := c) h0 h1 hd hd1 hni hsz hby hzr hzs ylen xrun yrun hlt (by omega) (by omega)
          exact ⟨_, _, q3, rowsGrow hs hw hsub hk hrows hflat q1 (by omega) (by simp) q2⟩
        unfold baseRows at h
        split at h
        · -- a nil slice
          by_cases hn : n1 = 0
          · subst hn
            simp only [srcRows] at hx
            injection hx with hx; injection hx with e1 e2; injection e2 with e2 e3; subst e2
            have hnn : (SB.rows true (0 + 0) cols false (0 * s) elem).no = true := rfl
            refine ⟨_, _, append_nil h0 h1 hd hd1 hni hsz ylen hnew, fun k => if k = nx then w.heap.size else E k, some (.rslc nx s true 0 (0 + 0) 0), _, _, fun k hk => by simp [Nat.ne_of_lt hk], Nat.le_succ _, fun v hv => by injection hv with hv; subst hv; rfl,
              hs.push hw (fun _ _ h => h) (fun k X hk hn => ?_) (fun i _ _ => rfl) hs.ext (fun hn => by rw [hnn] at hn; cases hn) (fun D hD => Nat.ne_of_lt (Array.getElem?_eq_some_iff.1 (hs.kp D hD)).1) (fun hn => by rw [hnn] at hn; cases hn), h 0 (Nat.le_refl _)⟩
            obtain ⟨o', ho, _⟩ := hs.blk k X hk hn
            exact Nat.ne_of_lt (Array.getElem?_eq_some_iff.1 ho).1
          · simp only [srcRows] at hx
            injection hx with hx; injection hx with e1 e2; injection e2 with e2 e3; subst e2
            exact grow none 0 true m rfl (fun _ _ h => h) (by omega) h
        · -- written out
          rename_i key n' cl c
          have hn' : n' = n0 := by
            simp only [srcRows] at hx
            split at hx
            · injection hx with hx; injection hx with _ hx; injection hx with hx _
            · split at hx
              · split at hx
                · split at hx
                  · injection hx with hx; injection hx with _ hx; injection hx with hx _
                  · cases hx
                · cases hx
              · cases hx
          subst hn'
          split at h
          · rename_i cs tot ty' hk
            split at h
            · rename_i hcs
              obtain ⟨hcl, rfl⟩ := hcs
              obtain ⟨htot, h⟩ := h
              have htot : tot = c * s := htot
              by_cases hle : n' + n1 ≤ c
              · obtain ⟨ob, ho, c0, fr, rfl, f1, f2, f3⟩ := hs.blk key _ hk rfl
                have hf0 := xrun w.drawn
                have hold : ∀ q, q < n' * s → c0[q]? = old[q]? := by
                  have hr := run_loadCells (P := P) (w := { w with drawn := w.drawn }) (b := E key) (c := c0) ho 0 ((cs.map (SV.val E))) (fun j v hj => by
                    rw [List.getElem?_map] at hj
                    cases hjl : cs[j]? with
                    | none => rw [hjl] at hj; cases hj
                    | some u => rw [hjl] at hj; injection hj with hj; subst hj; rw [Nat.zero_add]; exact f2 j u hjl)
                  rw [List.length_map, hcl] at hr
                  simp only [SV.val, Builtin.firstCells] at hf0
                  rw [hr] at hf0
                  injection hf0 with hf0
                  have hol : old = cs.map (SV.val E) := by
                    have := congrArg Array.toList hf0
                    simpa using this.symm
                  intro q hq
                  have hql : q < cs.length := by omega
                  rw [hol, List.getElem?_map, List.getElem?_eq_getElem hql, f2 q _ (List.getElem?_eq_getElem hql)]; rfl
                obtain ⟨w', hrun, haft⟩ := rowsIn (P := P) hs hw hk rfl rfl h hrows xl yl hflat ho f1 hle (by rw [f3, htot]) hold rfl
                exact ⟨_, w', append_in (o := 0) h0 h1 hd hd1 hni hsz ylen hnew hle (by rw [Nat.zero_add]; exact hrun), haft⟩
              · exact grow _ c false (m.drop key) rfl (fun _ _ h => (Mem.get_drop h).2) (by omega) h
            · exact h.elim
          · exact h.elim
        · -- a row
          rename_i key w' z' n' c
          split at h
          · rename_i zb nb cols' tot ty' hk
            split at h
            · rename_i hcs
              obtain ⟨rfl, rfl⟩ := hcs
              obtain ⟨htot, h⟩ := h
              have htot : tot = c * s := htot
              simp only [srcRows, hk] at hx
              split at hx
              · rename_i hw'
                obtain ⟨rfl, hwl, hwf⟩ := hw'
                injection hx with hx; injection hx with e1 e2; injection e2 with e2 e3; subst e1; subst e2; subst e3
                cases hzn : zb && Nat.beq n' 0 with
                | true =>
                  simp only [Bool.and_eq_true, beq0] at hzn
                  obtain ⟨rfl, rfl⟩ := hzn
                  by_cases hn1 : n1 = 0
                  · subst hn1
                    have hnn : (SB.rows true (0 + 0) cols false (0 * w') ty').no = true := rfl
                    refine ⟨_, _, append_nil h0 h1 hd hd1 hni hsz ylen hnew, fun k => if k = nx then w.heap.size else E k, some (.rslc nx w' true 0 (0 + 0) 0), _, _, fun k hk => by simp [Nat.ne_of_lt hk], Nat.le_succ _, fun v hv => by injection hv with hv; subst hv; rfl,
                      hs.push hw (fun _ _ h => (Mem.get_drop h).2) (fun k X hk hn => ?_) (fun i _ _ => rfl) hs.ext (fun hn => by rw [hnn] at hn; cases hn) (fun D hD => Nat.ne_of_lt (Array.getElem?_eq_some_iff.1 (hs.kp D hD)).1) (fun hn => by rw [hnn] at hn; cases hn), h 0 (Nat.le_refl _)⟩
                    obtain ⟨o', ho, _⟩ := hs.blk k X (Mem.get_drop hk).2 hn
                    exact Nat.ne_of_lt (Array.getElem?_eq_some_iff.1 ho).1
                  · exact grow none 0 true (m.drop key) rfl (fun _ _ h => (Mem.get_drop h).2) (by omega) h
                | false =>
                  have hxv : (SV.rslc key w' zb 0 n' c).val E = .slice (some ⟨E key, 0, none⟩) n' c := by simp [SV.val, hzn]
                  have hno : (SB.rows zb nb cols' false tot ty').no = false := by
                    cases zb with
                    | false => rfl
                    | true =>
                      simp only [Bool.true_and] at hzn
                      have : n' ≠ 0 := fun e => by rw [e] at hzn; cases hzn
                      exact SB.no_rows (i := 0) (by omega)
                  by_cases hle : n' + n1 ≤ c
                  · obtain ⟨ob, ho, c0, fr, rfl, f1, f2, f3, f4⟩ := hs.blk key _ hk hno
                    have hf0 := xrun w.drawn
                    rw [hxv] at hf0
                    rw [hwl] at f2
                    have hnb : n' * w' ≤ c0.size := Nat.le_trans (Nat.mul_le_mul_right w' (by omega)) f2
                    have hold : ∀ q, q < n' * w' → c0[q]? = old[q]? := by
                      have hr := run_loadCells (P := P) (w := { w with drawn := w.drawn }) (b := E key) (c := c0) ho 0 (c0.toList.take (n' * w')) (fun j v hj => by
                        rw [List.getElem?_take] at hj
                        split at hj
                        · rw [Nat.zero_add]; rw [Array.getElem?_toList] at hj; exact hj
                        · cases hj)
                      rw [List.length_take, Array.length_toList, Nat.min_eq_left hnb] at hr
                      simp only [Builtin.firstCells] at hf0
                      rw [hr] at hf0
                      injection hf0 with hf0
                      have hol : old = c0.toList.take (n' * w') := by
                        have := congrArg Array.toList hf0
                        simpa using this.symm
                      intro q hq
                      rw [hol, List.getElem?_take, if_pos hq, Array.getElem?_toList]
                    have hz2 : (zb && Nat.beq (n' + n1) 0) = false := by
                      cases zb with
                      | false => rfl
                      | true =>
                        simp only [Bool.true_and] at hzn ⊢
                        cases n' with
                        | zero => cases hzn
                        | succ n => rw [show n + 1 + n1 = (n + n1) + 1 by omega]; rfl
                    obtain ⟨w2, hrun, haft⟩ := rowsIn (P := P) hs hw hk hno rfl h hrows xl yl hflat ho (f1 rfl) hle (by rw [f3, htot]) hold hz2
                    rw [hxv]
                    exact ⟨_, w2, append_in (o := 0) h0 h1 hd hd1 hni hsz ylen hnew hle (by rw [Nat.zero_add]; exact hrun), haft⟩
                  · exact grow _ c zb (m.drop key) hxv (fun _ _ h => (Mem.get_drop h).2) (by omega) h
              · cases hx
            · exact h.elim
          · exact h.elim
        · exact h.elim
      · exact h.elim
    · exact h.elim
  · exact h.elim
def isRow : SV → Bool
  | .rslc .. => true
  | _ => false
def lappend2 (P : Program) (ats : Array TypeId) (x y : SV) (m : Mem) (nx : Nat) (K : KL) : VC :=
  match isRow x || isRow y with
  | false => lappend P ats x y m nx K
  | true => (match ats[0]?, ats[1]? with
    | some t0, some t1 => (match P.underlying t0, P.underlying t1 with
      | some (.slice elem), some d => (match sz P elem with
        | some s => if notInt d = true then lappendRows P elem s x y m nx K else .fail "append: make"
        | none => .fail "append")
      | _, _ => .fail "append")
    | _, _ => .fail "append")
theorem lappend2_ok {m : Mem} {nx : Nat} {ats : Array TypeId} {ty : TypeId} {x y : SV} {K : KL} {Γ : Base} {E : Nat → Nat} {w : World}
    (h : (lappend2 P ats x y m nx K).holds) (hs : SatM Γ E m nx w) (hw : Mem.wf nx m = true) :
    ∃ r w', (Builtin.append_ ats ty #[x.val E, y.val E]).run P w = .ok r w' ∧ After K Γ E nx r w' := by
  unfold lappend2 at h
  split at h
  · exact lappend_ok h hs hw
  · split at h
    · rename_i t0 t1 h0 h1
      split at h
      · rename_i elem d hd hd1
        split at h
        · rename_i s hsz
          split at h
          · rename_i hni
            exact lappendRows_ok h0 h1 hd hd1 hni hsz h hs hw
          · exact h.elim
        · exact h.elim
      · exact h.elim
    · exact h.elim
theorem rowsK_mono {elem : TypeId} {s : Nat} {z : Bool} {n : Nat} {cols : List Col} {m : Mem} {nx : Nat} {K K' : KL} (hK : ∀ u m nx, (K u m nx).holds → (K' u m nx).holds) :
    (rowsK elem s z n cols m nx K).holds → (rowsK elem s z n cols m nx K').holds := fun h c hc => hK _ _ _ (h c hc)
theorem lappendRows_mono {elem : TypeId} {s : Nat} {x y : SV} {m : Mem} {nx : Nat} {K K' : KL} (hK : ∀ u m nx, (K u m nx).holds → (K' u m nx).holds) :
    (lappendRows P elem s x y m nx K).holds → (lappendRows P elem s x y m nx K').holds := by
  unfold lappendRows
  split
  · split
    · split
      · refine fun x => ⟨x.1, ?_⟩
        have x2 := x.2
        unfold baseRows at x2 ⊢
        split at x2
        · exact rowsK_mono hK x2
        · split at x2
          · split at x2
            · rename_i hh; rw [if_pos hh]; exact ⟨x2.1, rowsK_mono hK x2.2⟩
            · exact x2.elim
          · exact x2.elim
        · split at x2
          · split at x2
            · rename_i hh; rw [if_pos hh]; exact ⟨x2.1, rowsK_mono hK x2.2⟩
            · exact x2.elim
          · exact x2.elim
        · exact x2.elim
      · exact id
    · exact id
  · exact id
end
end
end Go.Proofs.YtkfdcapnogklfaaGreatDoor.Sx
/-
  The framework's eleventh part: copy, make, calls; 'lop'.
-/
namespace Go.Proofs.YtkfdcapnogklfaaGreatDoor.Sx
open Go
noncomputable section
section
variable {P : Program} {Γ : Base} {σ : Operand → Option SV} {m : Mem} {nx : Nat}
/-! ### copy -/
def u8Front : List SV → List Int
  | .int .u8 _ n :: r => n :: u8Front r
  | _ => []
def u8Run : Nat → List SV → Option (Nat × List Int)
  | _, [] => none
  | a, v :: r => match v with
    | .int .u8 _ n => some (a, n :: u8Front r)
    | _ => u8Run (a + 1) r
theorem u8Front_get : ∀ (cs : List SV) (j : Nat), j < (u8Front cs).length → ∃ b, cs[j]? = some (.int .u8 b (sel (u8Front cs) j))
  | [], j, h => by simp [u8Front] at h
  | v :: r, j, h => by
    unfold u8Front at h ⊢
    split at h
    · rename_i b n r' e
      injection e with e1 e2; subst e1; subst e2
      cases j with
      | zero => exact ⟨b, rfl⟩
      | succ j =>
        obtain ⟨b', hb⟩ := u8Front_get r j (by simpa using h)
        exact ⟨b', by simpa [sel] using hb⟩
    · simp at h
theorem u8Run_get : ∀ (cs : List SV) (a a0 : Nat) (zs : List Int), u8Run a cs = some (a0, zs) → a ≤ a0 ∧ a0 - a + zs.length ≤ cs.length ∧ ∀ j, j < zs.length → ∃ b, cs[a0 - a + j]? = some (.int .u8 b (sel zs j))
  | [], a, a0, zs, h => by cases h
  | v :: r, a, a0, zs, h => by
    have rec' : u8Run (a + 1) r = some (a0, zs) → a ≤ a0 ∧ a0 - a + zs.length ≤ (v :: r).length ∧ ∀ j, j < zs.length → ∃ b, (v :: r)[a0 - a + j]? = some (.int .u8 b (sel zs j)) := fun h => by
      obtain ⟨g1, g2, g3⟩ := u8Run_get r (a + 1) a0 zs h
      refine ⟨by omega, by simp only [List.length_cons]; omega, fun j hj => ?_⟩
      obtain ⟨b, hb⟩ := g3 j hj
      exact ⟨b, by rw [show a0 - a + j = (a0 - (a + 1) + j) + 1 by omega]; simpa using hb⟩
    unfold u8Run at h
    split at h
    · rename_i b n
      injection h with h; injection h with h1 h2; subst h1; subst h2
      have hf := u8Front_get (.int .u8 b n :: r)
      have e : u8Front (.int .u8 b n :: r) = n :: u8Front r := rfl
      rw [e] at hf
      have hl : ∀ l : List SV, (u8Front l).length ≤ l.length := by
        intro l
        induction l with
        | nil => simp [u8Front]
        | cons v r ih =>
          unfold u8Front
          split
          · rename_i e; injection e with _ e; subst e; simpa using ih
          · simp
      refine ⟨Nat.le_refl _, by have := hl r; simp only [List.length_cons, Nat.sub_self]; omega, fun j hj => ?_⟩
      rw [Nat.sub_self, Nat.zero_add]
      exact hf j hj
    · exact rec' h
def mixB (off cnt : Nat) (s : List UInt8) : Nat → List Int → List SV
  | _, [] => []
  | j, z :: r => .int .u8 false (if off ≤ j ∧ j < off + cnt then ((s.getD (j - off) 0).toNat : Int) else z) :: mixB off cnt s (j + 1) r
theorem mixB_len {off cnt : Nat} {s : List UInt8} : ∀ {l : List Int} {j : Nat}, (mixB off cnt s j l).length = l.length
  | [], _ => rfl
  | _ :: r, j => by simp [mixB, mixB_len (l := r)]
theorem mixB_get {off cnt : Nat} {s : List UInt8} : ∀ {l : List Int} {j q : Nat} {x : SV}, (mixB off cnt s j l)[q]? = some x → x = .int .u8 false (if off ≤ j + q ∧ j + q < off + cnt then ((s.getD (j + q - off) 0).toNat : Int) else sel l q)
  | [], _, _, _, h => by simp [mixB] at h
  | z :: r, j, 0, x, h => by simp [mixB] at h; subst h; simp [sel]
  | z :: r, j, q + 1, x, h => by
    simp only [mixB, List.getElem?_cons_succ] at h
    rw [mixB_get h, show j + 1 + q = j + (q + 1) by omega]
    simp [sel]
def lcopyStr (key i n : Nat) (y : SV) (m : Mem) (nx : Nat) (K : KL) : VC :=
  match y, m.get key with
  | .str _ s, some (.cells cs tot ty) => (match u8Run 0 cs with
    | some (a, zs) => .and (.atom (a ≤ i ∧ i + n ≤ a + zs.length)) (K (some (.int .i64 false (min s.length n : Nat))) (m.put key (.cells (setRange cs a (mixB (i - a) (min s.length n) s 0 zs)) tot ty)) nx)
    | none => .fail "copy: no bytes")
  | _, _ => .fail "copy: blocks"
theorem firstCells_str (P : Program) (w : World) (s : List UInt8) (n : Nat) : (Builtin.firstCells 1 n (.string ⟨s.toArray⟩)).run P w = .ok ((s.take n).map fun b => Value.int .u8 b.toNat).toArray w := by
  have e : ((ByteArray.mk s.toArray).extract 0 n) = ⟨(s.take n).toArray⟩ := by
    have := bytes_extract s 0 n
    simpa using this
  show Result.ok _ w = _
  rw [e]; simp
theorem lcopyStr_ok {Γ : Base} {E : Nat → Nat} {w : World} {m : Mem} {nx : Nat} {K : KL} {key i n : Nat} {y : SV} (P : Program) (h : (lcopyStr key i n y m nx K).holds) (hs : SatM Γ E m nx w) :
    ∃ s, y.val E = .string ⟨List.toArray s⟩ ∧ ∃ w', (storeCells ⟨E key, i, none⟩ ((s.take (min s.length n)).map fun b => Value.int .u8 b.toNat)).run P w = .ok () w' ∧ After K Γ E nx (.int .i64 ((min s.length n : Nat) : Int)) w' := by
  unfold lcopyStr at h
  split at h
  · rename_i lt s cs tot ty hk
    split at h
    · rename_i a zs hrun8
      obtain ⟨⟨ha, hin⟩, h⟩ := h
      obtain ⟨_, u2, u3⟩ := u8Run_get cs 0 a zs hrun8
      rw [Nat.sub_zero] at u2
      refine ⟨s, rfl, ?_⟩
      obtain ⟨ob, ho, c, fr, rfl, h1, h2, h3⟩ := hs.blk key _ hk rfl
      generalize hc : min s.length n = cnt at *
      have hcs : cnt ≤ s.length := by omega
      have hcn : cnt ≤ n := by omega
      have hlen : ((s.take cnt).map fun b => Value.int .u8 b.toNat).length = cnt := by rw [List.length_map, List.length_take]; omega
      have hcl : cs.length ≤ c.size := by
        cases hcs : cs.length with
        | zero => omega
        | succ q =>
          have := h2 q _ (List.getElem?_eq_getElem (by omega))
          have := (Array.getElem?_eq_some_iff.1 this).1
          omega
      have hrun := storeCells_run (P := P) (o := i) ((s.take cnt).map fun b => Value.int .u8 b.toNat) 0 w c ho h1 (by rw [hlen]; omega) (fun u hu => by
        rw [List.mem_map] at hu
        obtain ⟨b, _, rfl⟩ := hu
        rfl)
      refine ⟨_, hrun, E, some (.int .i64 false (cnt : Int)), _, _, fun _ _ => rfl, Nat.le_refl _, fun v hv => by injection hv with hv; subst hv; rfl, hs.write hk rfl rfl (B' := .cells (setRange cs a (mixB (i - a) cnt s 0 zs)) tot ty) ?_ rfl, h⟩
      refine ⟨_, fr, rfl, by rw [setArr_size]; exact h1, fun q u hq => ?_, by rw [setArr_size]; exact h3⟩
      have hsa : ∀ v, (if i ≤ q ∧ q < i + cnt then ((s.take cnt).map fun b => Value.int .u8 b.toNat)[q - i]? else c[q]?) = some v → (setArr c (i + 0) ((s.take cnt).map fun b => Value.int .u8 b.toNat))[q]? = some v := by
        intro v hv
        rw [← Array.getElem?_toList, setArr_toList, Nat.add_zero]
        have hqs : q < c.size := by
          split at hv
          · omega
          · exact (Array.getElem?_eq_some_iff.1 hv).1
        have hsl : (setRange c.toList i ((s.take cnt).map fun b => Value.int .u8 b.toNat)).length = c.size := by
          rw [← setArr_toList]; simp [setArr_size]
        obtain ⟨x, hx⟩ : ∃ x, (setRange c.toList i ((s.take cnt).map fun b => Value.int .u8 b.toNat))[q]? = some x := ⟨_, List.getElem?_eq_getElem (by rw [hsl]; exact hqs)⟩
        rcases setRange_get _ _ _ _ _ hx (by rw [hlen, Array.length_toList]; omega) with ⟨g1, g2, g3⟩ | ⟨g1, g2⟩
        · rw [hlen] at g2
          rw [if_pos ⟨g1, g2⟩] at hv
          rw [hx, ← g3]; exact hv
        · rw [hlen] at g1
          rw [if_neg (by omega)] at hv
          rw [hx, ← g2, Array.getElem?_toList]; exact hv
      apply hsa
      rcases setRange_get _ _ _ _ _ hq (by rw [mixB_len]; omega) with ⟨g1, g2, g3⟩ | ⟨g1, g2⟩
      · have hu := mixB_get g3
        subst hu
        rw [mixB_len] at g2
        by_cases e : i ≤ q ∧ q < i + cnt
        · rw [if_pos e, if_pos (by omega), List.getElem?_map, List.getElem?_take_of_lt (by omega), List.getElem?_eq_getElem (by omega)]
          simp only [Option.map_some, SV.val, Nat.zero_add]
          rw [show q - a - (i - a) = q - i by omega, List.getD_eq_getElem?_getD, List.getElem?_eq_getElem (by omega)]
          rfl
        · rw [if_neg e, if_neg (by omega)]
          obtain ⟨b, hb⟩ := u3 (q - a) (by omega)
          rw [show a - 0 + (q - a) = q by omega] at hb
          have := h2 _ _ hb
          exact this
      · rw [mixB_len] at g1
        rw [if_neg (by omega)]; exact h2 q u g2
    · exact h.elim
  · exact h.elim
def lcopy (P : Program) (ats : Array TypeId) (x y : SV) (m : Mem) (nx : Nat) (K : KL) : VC :=
  match ats[0]? with
  | some t0 => (match P.underlying t0 with
    | some (.slice elem) => (match sz P elem, x with
      | some s, .slc key o n _ _ => (match srcCells m s y, m.get key with
        | some (l, n'), some (.cells cs tot ty) => if (allCells (l.take (min n' n * s)) && decide (o + (l.take (min n' n * s)).length ≤ cs.length)) = true then
            K (some (.int .i64 true (min n' n : Nat))) (m.put key (.cells (setRange cs o (l.take (min n' n * s))) tot ty)) nx else .fail "copy: cells"
        | _, _ => .fail "copy: blocks")
      | some 1, .rslc key 1 false i n _ => lcopyStr key i n y m nx K
      | _, _ => .fail "copy: to what")
    | _ => .fail "copy")
  | none => .fail "copy"
theorem lcopy_ok {ats : Array TypeId} {ty : TypeId} {x y : SV} {K : KL} {Γ : Base} {E : Nat → Nat} {w : World}
    (h : (lcopy P ats x y m nx K).holds) (hs : SatM Γ E m nx w) :
    ∃ r w', (Builtin.copy_ ats ty #[x.val E, y.val E]).run P w = .ok r w' ∧ After K Γ E nx r w' := by
  unfold lcopy at h
  split at h
  · rename_i t0 h0
    split at h
    · rename_i elem hd
      split at h
      · rename_i s key o n cl c hsz
        split at h
        · rename_i l n' cs tot ty' hy hk
          split at h
          · rename_i hc
            simp only [Bool.and_eq_true, decide_eq_true_eq] at hc
            obtain ⟨ylen, ycells, ynum⟩ := srcCells_run (P := P) hs hy
            have hyc := ycells (min n' n) (Nat.min_le_left _ _)
            obtain ⟨w', hrun, haft⟩ := After.write (P := P) (r := .int .i64 ((min n' n : Nat) : Int)) hs hk (allCells_mem hc.1) hc.2 (fun v hv => by injection hv with hv; subst hv; rfl) h
            refine ⟨_, w', ?_, haft⟩
            simp only [SV.val, Builtin.copy_, h0, List.getElem?_toArray, List.getElem?_cons_zero, List.getElem?_cons_succ, Sem.run_bind, run_und hd, Result.andThen_ok, ylen, run_sz hsz]
            rw [show n'.min n = min n' n from rfl, hyc]
            simp only [Result.andThen_ok, hrun, Sem.run_pure, goInt]
          · exact h.elim
        · exact h.elim
      · rename_i key i n c hsz
        obtain ⟨s, hy, w', hrun, haft⟩ := lcopyStr_ok P h hs
        refine ⟨_, w', ?_, haft⟩
        have hl : (ByteArray.mk s.toArray).size = s.length := by simp [ByteArray.size]
        rw [hy]
        simp only [SV.val, Bool.false_and, cond_false, Nat.mul_one, Builtin.copy_, h0, List.getElem?_toArray, List.getElem?_cons_zero, List.getElem?_cons_succ, Sem.run_bind, run_und hd, Result.andThen_ok, Builtin.lenOf, Sem.run_pure, run_sz hsz, hl]
        rw [show s.length.min n = min s.length n from rfl, firstCells_str]
        simp only [Result.andThen_ok, hrun, goInt]
      · exact h.elim
    · exact h.elim
  · exact h.elim
/-! ### make([]T, n, c): n is known -/
def constCol : SV → Option Col
  | .int k _ n => some (.int k fun _ => n)
  | .bool _ b => some (.bool fun _ => b)
  | .str _ s => some (.str fun _ => s)
  | _ => none
def constCols : List SV → Option (List Col)
  | [] => some []
  | v :: r => (match constCol v, constCols r with
    | some c, some l => some (c :: l)
    | _, _ => none)
theorem constCols_get : ∀ {cs : List SV} {cols : List Col}, constCols cs = some cols → cols.length = cs.length ∧ ∀ (k : Nat) (col : Col), cols[k]? = some col → ∃ v, cs[k]? = some v ∧ ∀ i E, (col.at i).val E = v.val E
  | [], cols, h => by simp [constCols] at h; subst h; exact ⟨rfl, fun k c hc => by simp at hc⟩
  | v :: r, cols, h => by
    simp only [constCols] at h
    split at h
    · rename_i c l hc hl
      injection h with h; subst h
      obtain ⟨g1, g2⟩ := constCols_get hl
      refine ⟨by simp [g1], fun k col hk => ?_⟩
      cases k with
      | zero =>
        simp at hk; subst hk
        refine ⟨v, rfl, fun i E => ?_⟩
        unfold constCol at hc
        split at hc <;> first | (injection hc with hc; subst hc; rfl) | cases hc
      | succ k => exact g2 k col (by simpa using hk)
    · cases h
theorem times_at {zs : List SV} : ∀ {n i k : Nat} {v : SV}, i < n → zs[k]? = some v → (times n zs)[i * zs.length + k]? = some v
  | 0, _, _, _, h, _ => absurd h (Nat.not_lt_zero _)
  | n + 1, i, k, v, h, hk => by
    have hkl := (List.getElem?_eq_some_iff.1 hk).1
    simp only [times]
    cases i with
    | zero => rw [Nat.zero_mul, Nat.zero_add, List.getElem?_append_left hkl]; exact hk
    | succ i =>
      rw [Nat.add_mul, Nat.one_mul, List.getElem?_append_right (by omega), show i * zs.length + zs.length + k - zs.length = i * zs.length + k by omega]
      exact times_at (by omega) hk
def lmake (P : Program) (t : TypeId) (x y : SV) (m : Mem) (nx : Nat) (K : KL) : VC :=
  match P.underlying t, x, y with
  | some (.slice e), .int .i64 true n, .int .i64 l c => (match sz P e, zeroSV P e, bytes P e with
    | some s, some z, some by_ => if (z.plain && decide (z.cells.length = s) && decide (s ≠ 0) && decide (0 ≤ n)) = true then
        chk l (n ≤ c ∧ by_ * c ≤ 140737488355328 ∧ c ≤ 9223372036854775807) (K (some (.slc nx 0 n.toNat l c.toNat)) ((nx, .cells (times (bif l then c.toNat else n.toNat) z.cells) (c.toNat * s) e) :: m) (nx + 1)) else .fail "make: size"
    | _, _, _ => .fail "make")
  | some (.slice e), .int .i64 false n, .int .i64 _ c => (match sz P e, zeroSV P e, bytes P e with
    | some s, some z, some by_ => (match constCols z.cells with
      | some cols => if (z.plain && decide (z.cells.length = s) && decide (s ≠ 0)) = true then
        .and (.atom (c = n ∧ 0 ≤ n ∧ by_ * n ≤ 140737488355328 ∧ n ≤ 9223372036854775807)) (K (some (.rslc nx s false 0 n.toNat n.toNat)) ((nx, .rows false n.toNat cols false (n.toNat * s) e) :: m) (nx + 1)) else .fail "make: size"
      | none => .fail "make: columns")
    | _, _, _ => .fail "make")
  | _, _, _ => .fail "make: a length that is not known"
theorem lmake_lit {dst : Option Tmp} {t type : TypeId} {pos : String} {after : Array Edge} {guard : Option (Nat × Bool)} {x y : Operand} :
    ∀ {a b : SV}, (∀ n, a = .int .i64 false n → False) → ∀ (K : KL) (E : Nat → Nat) (w : World) (ρ : Operand → Value), (lmake P t a b m nx K).holds → SatM Γ E m nx w → Mem.wf nx m = true → ρ x = a.val E → ρ y = b.val E →
      Out P (After K Γ E nx) ((execOp ρ ⟨dst, .makeSlice t x y, type, pos, after, guard⟩).run P w) := by
  intro a b hnl K E w ρ h hs hw ha hb
  unfold lmake at h
  split at h
  · rename_i e n l c hd
    split at h
    · rename_i s z by_ hsz hz hby
      split at h
      · rename_i hc
        simp only [Bool.and_eq_true, decide_eq_true_eq] at hc
        obtain ⟨⟨⟨h1, h2⟩, h3⟩, h4⟩ := hc
        have hk : (n ≤ c ∧ by_ * c ≤ 140737488355328 ∧ c ≤ 9223372036854775807) ∧ (K (some (.slc nx 0 n.toNat l c.toNat)) ((nx, .cells (times (bif l then c.toNat else n.toNat) z.cells) (c.toNat * s) e) :: m) (nx + 1)).holds := by
          unfold Sx.chk at h
          split at h
          · split at h
            · rename_i hh; exact ⟨hh, h⟩
            · exact h.elim
          · exact h
        obtain ⟨⟨k1, k2, k3⟩, hk⟩ := hk
        have hwc : IntKind.i64.wrap c = c := wrap_in (k := .i64) ⟨by simp only [lo]; omega, by simp only [hi]; omega⟩
        have hwn : IntKind.i64.wrap n = n := wrap_in (k := .i64) ⟨by simp only [lo]; omega, by simp only [hi]; omega⟩
        have hby' : ∃ i, P.info? e = some i ∧ i.bytes = by_ := by
          unfold bytes at hby
          split at hby
          · rename_i i hi; injection hby with hby; exact ⟨i, hi, hby⟩
          · cases hby
        obtain ⟨i, hi, hib⟩ := hby'
        have hzc := SV.cells_val (E := E) h1
        have hzs : (z.val E).cells.size = s := by rw [hzc]; simp [h2]
        have hnl : ¬ (c < 0) := by omega
        have hbig : ¬ (((by_ : Nat) : Int) * c > 2 ^ 48) := by
          have : (2 : Int) ^ 48 = 281474976710656 := by decide
          omega
        have hcond : ((decide (c < 0) || decide (((by_ : Nat) : Int) * c > 2 ^ 48)) || decide (n < 0) || decide (n > c)) = false := by
          simp only [Bool.or_eq_false_iff, decide_eq_false_iff_not]
          exact ⟨⟨⟨hnl, hbig⟩, by omega⟩, by omega⟩
        have fin : ∀ z' : Array Value, ((Array.range (c.toNat * s)).map fun i => z'[i % z'.size]!) = (SV.vals E (times c.toNat z.cells)).toArray →
            Out P (After K Γ E nx) (((newRow e ((Array.range (c.toNat * s)).map fun i => z'[i % z'.size]!) >>= fun a => pure (Value.slice (some a) n.toNat c.toNat) : Sem Value).run P w).andThen fun a w' => (pure (Next.value a) : Sem Next).run P w') := by
          intro z' hz'
          rw [hz']
          simp only [newRow, Sem.run_bind, run_newObj, Result.andThen_ok, Sem.run_pure, Out]
          have g : ∀ k : Nat, (times k z.cells).length = k * s := by
            intro k
            induction k with
            | zero => simp [times]
            | succ k ih => rw [times, List.length_append, ih, h2, Nat.add_mul]; omega
          refine After.alloc hs hw (times_wf (cells_wf (zeroSV_wf hz)) _) (fun i v hv => ?_) (by simp [SV.vals_eq, g]) hk (by simp [SV.val])
          · generalize hq : (bif l then c.toNat else n.toNat) = q at hv
            have hqc : q ≤ c.toNat := by cases l <;> simp at hq <;> omega
            have hsplit : times c.toNat z.cells = times q z.cells ++ times (c.toNat - q) z.cells := by
              have g : ∀ a b : Nat, times (a + b) z.cells = times a z.cells ++ times b z.cells := by
                intro a b
                induction a with
                | zero => simp [times]
                | succ a ih => rw [show a + 1 + b = (a + b) + 1 by omega, times, ih, times, List.append_assoc]
              rw [← g]; congr 1; omega
            have := (List.getElem?_eq_some_iff.1 hv).1
            rw [SV.vals_eq, List.getElem?_toArray, List.getElem?_map, hsplit, List.getElem?_append_left this, hv]; rfl
        simp only [execOp, Instr.makeSlice, ha, hb, SV.val, asInt, asIntOf, Sem.run_bind, run_und hd, Result.andThen_ok, Sem.run_pure, run_info hi, hib, hwc, hwn]
        rw [hcond]
        simp only [Bool.false_eq_true, if_false, Sem.run_bind, run_askRoom, Result.andThen_ok, run_sz hsz, Sem.run_ite]
        by_cases h0 : c.toNat * s = 0
        · rw [if_pos h0]
          simp only [Sem.run_pure, Result.andThen_ok]
          refine fin #[] ?_
          have : c.toNat = 0 := by rcases Nat.mul_eq_zero.1 h0 with h | h; exact h; exact absurd h h3
          rw [this]; simp [times, SV.vals]
        · rw [if_neg h0]
          simp only [zeroSV_run (E := E) hz, Sem.run_pure, Result.andThen_ok]
          refine fin _ ?_
          apply Array.ext'
          have := times_range (E := E) (zs := z.cells) (z := (z.val E).cells) (by rw [hzc]) (by rw [hzs]; exact h3) c.toNat
          rw [hzs] at this
          rw [SV.vals_eq]
          simpa [hzs] using this
      · exact h.elim
    · exact h.elim
  · exact (hnl _ rfl).elim
  · exact h.elim
theorem lmake_ok {dst : Option Tmp} {t type : TypeId} {pos : String} {after : Array Edge} {guard : Option (Nat × Bool)} {x y : Operand} :
    LOp P Γ σ m nx ⟨dst, .makeSlice t x y, type, pos, after, guard⟩ (fun K => need (σ x) (fun a => need (σ y) (fun b => lmake P t a b m nx K))) := by
  refine LOp.need fun a ha => LOp.need fun b hb => ?_
  intro K E w ρ h hs hw hσ hr
  by_cases hl : ∃ n, a = .int .i64 false n
  · obtain ⟨n, rfl⟩ := hl
    unfold lmake at h
    split at h
    · rename_i e; cases e
    · rename_i e n' l' c hd heq
      injection heq with _ _ heq
      subst heq
      split at h
      · rename_i s z by_ hsz hz hby
        split at h
        · rename_i cols hcols
          split at h
          · rename_i hc
            obtain ⟨⟨rfl, k1, k2, k3⟩, h⟩ := h
            have hc' := hc
            simp only [Bool.and_eq_true, decide_eq_true_eq] at hc'
            obtain ⟨⟨h1, h2⟩, h3⟩ := hc'
            -- as one whose length is written out
            let K0 : KL := fun sv m' nx' => .atom (sv = some (.slc nx 0 c.toNat true c.toNat) ∧ m' = (nx, .cells (times c.toNat z.cells) (c.toNat * s) e) :: m ∧ nx' = nx + 1)
            have hk0 : (lmake P t (.int .i64 true c) (.int .i64 true c) m nx K0).holds := by
              simp only [lmake, hd, hsz, hz, hby]
              rw [if_pos (by simp [h1, h2, h3, k1])]
              simp only [Sx.chk, cond_true]
              rw [if_pos ⟨Int.le_refl _, k2, k3⟩]
              exact ⟨rfl, rfl, rfl⟩
            have ho := lmake_lit (P := P) (Γ := Γ) (m := m) (nx := nx) (dst := dst) (type := type) (pos := pos) (after := after) (guard := guard) (t := t) (x := x) (y := y) (a := .int .i64 true c) (b := .int .i64 true c) (fun _ h => by cases h) K0 E w ρ hk0 hs hw (by have := hr x _ ha; exact this) (by have := hr y _ hb; exact this)
            refine ho.mono ?_
            rintro r w' ⟨E', sv, m', nx', g1, g2, g3, g4, rfl, rfl, rfl⟩
            obtain ⟨q1, q2⟩ := constCols_get hcols
            refine ⟨E', some (.rslc nx s false 0 c.toNat c.toNat), _, _, g1, g2, fun v hv => ?_, ?_, h⟩
            · injection hv with hv; subst hv
              rw [g3 _ rfl]; simp [SV.val]
            · -- the block, as a row
              have hblk : ∀ o, BlkOk E' (.cells (times c.toNat z.cells) (c.toNat * s) e) o → BlkOk E' (.rows false c.toNat cols false (c.toNat * s) e) o := by
                rintro o ⟨c0, fr, rfl, f1, f2, f3⟩
                refine ⟨c0, fr, rfl, fun _ => f1, by rw [q1, h2, f3]; exact Nat.le_refl _, f3, fun i k col hi hk => ?_⟩
                obtain ⟨v, hv1, hv2⟩ := q2 k col hk
                rw [hv2, q1]
                exact f2 _ _ (times_at hi hv1)
              refine ⟨fun k B hk hn => ?_, fun k k' B B' hk hn hk' hn' hr' he => ?_, fun k B hk => ?_, fun k B hk hn hro => ?_, g4.ext, g4.cx, g4.kp⟩
              · rcases Mem.get_cons hk with ⟨rfl, rfl⟩ | ⟨hne, hk⟩
                · obtain ⟨o, ho, hb⟩ := g4.blk k _ (if_pos rfl) rfl
                  exact ⟨o, ho, hblk o hb⟩
                · exact g4.blk k B (by rw [Mem.get, if_neg (fun e => hne e.symm)]; exact hk) hn
              · have conv : ∀ {k B}, Mem.get k ((nx, SB.rows false c.toNat cols false (c.toNat * s) e) :: m) = some B → B.no = false → ∃ B2, Mem.get k ((nx, SB.cells (times c.toNat z.cells) (c.toNat * s) e) :: m) = some B2 ∧ B2.no = false ∧ B2.ro = B.ro := by
                  intro k B hk hn
                  rcases Mem.get_cons hk with ⟨rfl, rfl⟩ | ⟨hne, hk⟩
                  · exact ⟨_, if_pos rfl, rfl, rfl⟩
                  · exact ⟨B, by rw [Mem.get, if_neg (fun e => hne e.symm)]; exact hk, hn, rfl⟩
                obtain ⟨B2, a1, a2, a3⟩ := conv hk hn
                obtain ⟨B3, b1, b2, b3⟩ := conv hk' hn'
                exact g4.inj k k' B2 B3 a1 a2 b1 b2 (by rw [a3, b3]; exact hr') he
              · rcases Mem.get_cons hk with ⟨rfl, rfl⟩ | ⟨hne, hk⟩
                · exact g4.lt k _ (if_pos rfl)
                · exact g4.lt k B (by rw [Mem.get, if_neg (fun e => hne e.symm)]; exact hk)
              · rcases Mem.get_cons hk with ⟨rfl, rfl⟩ | ⟨hne, hk⟩
                · exact g4.own k _ (if_pos rfl) rfl rfl
                · exact g4.own k B (by rw [Mem.get, if_neg (fun e => hne e.symm)]; exact hk) hn hro
          · exact h.elim
        · exact h.elim
      · exact h.elim
    · exact h.elim
  · exact lmake_lit (fun n e => hl ⟨n, e⟩) K E w ρ h hs hw (hr x _ ha) (hr y _ hb)
/-! ### Calls -/
abbrev PT := List SV → Mem → Nat → (SV → Mem → Nat → VC) → VC
def lift (K : SV → Mem → Nat → VC) : KL := fun v m nx => match v with
  | some v => K v m nx
  | none => .fail "a call's result that is not known"
def CallOk (P : Program) (f : FuncId) (pt : PT) : Prop :=
  ∀ args m nx K, (pt args m nx K).holds → Mem.wf nx m = true → SV.wfs nx args = true → ∀ Γ E w, SatM Γ E m nx w →
    Out P (After (lift K) Γ E nx) ((callFunc f (SV.vals E args).toArray).run P w)
inductive Cal where
  | fn (f : FuncId)
  | yield (key : Nat)
def Cal.sem (E : Nat → Nat) : Cal → Array Value → Sem Next
  | .fn f, args => callFunc f args
  | .yield key, args => Instr.yield (E key) args
def COk (P : Program) (Γ : Base) (c : Cal) (pt : PT) : Prop :=
  ∀ Δ, Γ.le Δ → ∀ args m nx K, (pt args m nx K).holds → Mem.wf nx m = true → SV.wfs nx args = true → ∀ E w, SatM Δ E m nx w →
    Out P (After (lift K) Δ E nx) ((c.sem E (SV.vals E args).toArray).run P w)
theorem CallOk.cok {P : Program} {f : FuncId} {pt : PT} (h : CallOk P f pt) (Γ : Base) : COk P Γ (.fn f) pt := fun Δ _ args m nx K h1 h2 h3 E w hs => h args m nx K h1 h2 h3 Δ E w hs
theorem COk.mono {P : Program} {Γ Δ : Base} {c : Cal} {pt : PT} (h : COk P Γ c pt) (hle : Γ.le Δ) : COk P Δ c pt := fun Θ h' => h Θ (Base.le_trans hle h')
def isPtrD : TypeDesc → Bool
  | .pointer _ => true
  | _ => false
def findVia (P : Program) (t : TypeId) (v : SV) (name : String) : Option (FuncId × SV) :=
  match P.info? t with
  | some i => (match i.methods.find? (·.name == name) with
    | some mt => (match mt.func, mt.path.toList with
      | some (g, p), [] => (match P.underlying t with
        | some d => if isPtrD d = p then some (g, v) else none
        | none => none)
      | some (g, p), [s] => (match s.deref, P.underlying s.struct, v with
        | false, some (.struct fs), .agg cs => (match fs[s.index]? with
          | some f => (match partOf P f.type cs f.offset, P.underlying f.type with
            | some u, some d => if isPtrD d = p then some (g, u) else none
            | _, _ => none)
          | none => none)
        | _, _, _ => none)
      | _, _ => none)
    | none => none)
  | none => none
def lcall (P : Program) (call : Cal → PT) (σ : Operand → Option SV) (c : Call) (m : Mem) (nx : Nat) (K : KL) : VC :=
  match c.callee, evs σ c.args.toList with
  | .value f, some args => (match σ f with
    | some (.func (.func g) first captured) => call (.fn g) (first ++ args ++ captured) m nx (fun v m nx => K (some v) m nx)
    | some (.yield key) => call (.yield key) args m nx (fun v m nx => K (some v) m nx)
    | _ => .fail "call: of what")
  | .invoke r name, some args => (match σ r with
    | some (.iface t v) => (match findVia P t v name with
      | some (g, u) => (match u.wf nx with
        | true => call (.fn g) (u :: args) m nx (fun v m nx => K (some v) m nx)
        | false => .fail "call: receiver")
      | none => .fail "call: no such method")
    | _ => .fail "call: of what")
  | .builtin .append, some [x, y] => lappend2 P c.argTypes x y m nx K
  | .builtin .copy, some [x, y] => lcopy P c.argTypes x y m nx K
  | _, _ => .fail "call"
theorem After.of_lift {K : KL} {Γ : Base} {E : Nat → Nat} {r : Value} {w : World} (h : After (lift fun v m nx => K (some v) m nx) Γ E nx r w) : After K Γ E nx r w := by
  obtain ⟨E', sv, m', nx', h1, h2, h3, h4, h5⟩ := h
  cases sv with
  | none => exact h5.elim
  | some v => exact ⟨E', some v, m', nx', h1, h2, h3, h4, h5⟩
theorem evs_wf {nx : Nat} {σ : Operand → Option SV} (hσ : WfS nx σ) : ∀ {xs : List Operand} {l : List SV}, evs σ xs = some l → SV.wfs nx l = true
  | [], l, h => by simp [evs] at h; subst h; rfl
  | x :: r, l, h => by
    simp only [evs] at h
    split at h
    · rename_i v l' hv hl
      injection h with h; subst h
      simp only [SV.wfs, Bool.and_eq_true]; exact ⟨hσ x v hv, evs_wf hσ hl⟩
    · cases h
theorem findVia_run {E : Nat → Nat} {w : World} {t : TypeId} {v u : SV} {name : String} {g : FuncId} (h : findVia P t v name = some (g, u)) (fuel : Nat) :
    (method (fuel + 1) t (v.val E) name).run P w = .ok (g, u.val E) w := by
  unfold findVia at h
  split at h
  · rename_i i hi
    split at h
    · rename_i mt hm
      split at h
      · rename_i g' p hfn hpl
        split at h
        · rename_i d hd
          split at h
          · rename_i hp
            injection h with h; injection h with e1 e2; subst e1; subst e2
            simp only [method, Sem.run_bind, run_info hi, Result.andThen_ok, hm, hpl, follow, Sem.run_pure, hfn]
            cases d <;> simp only [isPtrD] at hp <;> subst hp <;> simp only [receiverAt, Sem.run_bind, run_und hd, Result.andThen_ok, Place.get, Sem.run_pure]
          · cases h
        · cases h
      · rename_i g' p s hfn hpl
        split at h
        · rename_i fs cs hder hst
          split at h
          · rename_i f hf
            split at h
            · rename_i u' d hu hd
              split at h
              · rename_i hp
                injection h with h; injection h with e1 e2; subst e1; subst e2
                simp only [method, Sem.run_bind, run_info hi, Result.andThen_ok, hm, hpl, follow, run_und hst, hf, hder, Bool.false_eq_true, if_false, SV.val, partOf_run hu, Sem.run_pure, hfn]
                cases d <;> simp only [isPtrD] at hp <;> subst hp <;> simp only [receiverAt, Sem.run_bind, run_und hd, Result.andThen_ok, Place.get, Sem.run_pure]
              · cases h
            · cases h
          · cases h
        · cases h
      · cases h
    · cases h
  · cases h
theorem vals_append (E : Nat → Nat) (a b : List SV) : SV.vals E (a ++ b) = SV.vals E a ++ SV.vals E b := by simp [SV.vals_eq]
theorem lcall_ok {call : Cal → PT} (hcall : ∀ c, COk P Γ c (call c)) {dst : Option Tmp} {type : TypeId} {pos : String} {after : Array Edge} {guard : Option (Nat × Bool)} {c : Call} :
    LOp P Γ σ m nx ⟨dst, .call c, type, pos, after, guard⟩ (lcall P call σ c m nx) := by
  intro K E w ρ h hs hw hσ hr
  obtain ⟨callee, args, ats⟩ := c
  unfold lcall at h
  split at h
  · rename_i f avs hca hargs
    simp only at hca; subst hca
    split at h
    · rename_i g first captured hf
      have hfw := hσ _ _ hf
      simp only [SV.wf, Bool.and_eq_true] at hfw
      have := hcall (.fn g) Γ Γ.le_refl (first ++ avs ++ captured) m nx _ h hw (wfs_append (wfs_append hfw.1 (evs_wf hσ hargs)) hfw.2) E w hs
      have hrun : (execOp ρ ⟨dst, .call ⟨.value f, args, ats⟩, type, pos, after, guard⟩).run P w = (callFunc g (SV.vals E (first ++ avs ++ captured)).toArray).run P w := by
        simp only [execOp, resolve, hr _ _ hf, SV.val, Deferred.ofValue, Sem.run_bind, Sem.run_pure, Result.andThen_ok, invoke]
        rw [evs_arr hr hargs, vals_append, vals_append]
        simp
      rw [hrun]
      exact this.mono fun r w' h => h.of_lift
    · rename_i key hf
      have := hcall (.yield key) Γ Γ.le_refl avs m nx _ h hw (evs_wf hσ hargs) E w hs
      have hrun : (execOp ρ ⟨dst, .call ⟨.value f, args, ats⟩, type, pos, after, guard⟩).run P w = (Instr.yield (E key) (SV.vals E avs).toArray).run P w := by
        simp only [execOp, resolve, hr _ _ hf, SV.val, Deferred.ofValue, Sem.run_bind, Sem.run_pure, Result.andThen_ok, invoke]
        rw [evs_arr hr hargs]
        simp
      rw [hrun]
      exact this.mono fun r w' h => h.of_lift
    · exact h.elim
  · rename_i r name avs hca hargs
    simp only at hca; subst hca
    split at h
    · rename_i t v hrv
      split at h
      · rename_i g u hm
        split at h
        · rename_i huw
          have := hcall (.fn g) Γ Γ.le_refl (u :: avs) m nx _ h hw (by simp only [SV.wfs, Bool.and_eq_true]; exact ⟨huw, evs_wf hσ hargs⟩) E w hs
          have hrun : (execOp ρ ⟨dst, .call ⟨.invoke r name, args, ats⟩, type, pos, after, guard⟩).run P w = (callFunc g (SV.vals E (u :: avs)).toArray).run P w := by
            simp only [execOp, resolve, hr _ _ hrv, SV.val, Sem.run_bind, Sem.run_pure, Result.andThen_ok, invoke]
            rw [evs_arr hr hargs]
            simp only [Array.getElem?_append_left, List.size_toArray, List.length_singleton, Nat.lt_one_iff, List.getElem?_toArray, List.getElem?_cons_zero, callMethod, Sem.run_bind, run_program, Result.andThen_ok]
            have hfm := findVia_run (E := E) (w := w) hm (P.types.size + Made.depth - 1)
            have hpos : 0 < Made.depth := by decide
            rw [show P.types.size + Made.depth - 1 + 1 = P.types.size + Made.depth by omega] at hfm
            rw [hfm]
            simp only [Result.andThen_ok]
            congr 2
            simp [SV.vals]
          rw [hrun]
          exact this.mono fun r w' h => h.of_lift
        · exact h.elim
      · exact h.elim
    · exact h.elim
  · rename_i x y hca hargs
    simp only at hca; subst hca
    obtain ⟨r, w', hrun, haft⟩ := lappend2_ok (P := P) (ty := type) h hs hw
    rw [BigFrame.execOp_builtin, BigFrame.builtin_append, evs_arr hr hargs]
    simp only [SV.vals, Sem.run_bind]
    rw [hrun]
    exact haft
  · rename_i x y hca hargs
    simp only at hca; subst hca
    obtain ⟨r, w', hrun, haft⟩ := lcopy_ok (P := P) (ty := type) h hs
    rw [BigFrame.execOp_builtin, BigFrame.builtin_copy, evs_arr hr hargs]
    simp only [SV.vals, Sem.run_bind]
    rw [hrun]
    exact haft
  · exact h.elim
end
end
end Go.Proofs.YtkfdcapnogklfaaGreatDoor.Sx
/-
  The framework's twelfth part: one operation of a region; a region in the text's order.
-/
namespace Go.Proofs.YtkfdcapnogklfaaGreatDoor.Sx
open Go
noncomputable section
structure St where
  tmps : List (Option SV)
  m : Mem
  nx : Nat
def slot (tmps : List (Option SV)) (i : Nat) : Option SV :=
  match tmps, i with
  | [], _ => none
  | v :: _, 0 => v
  | _ :: r, i + 1 => slot r i
theorem slot_eq : ∀ {tmps : List (Option SV)} {i : Nat} {v : SV}, slot tmps i = some v → tmps[i]? = some (some v)
  | [], _, _, h => by simp [slot] at h
  | x :: _, 0, v, h => by simp [slot] at h; simp [h]
  | _ :: r, i + 1, v, h => by simp [slot] at h; simpa using slot_eq h
def ev (tmps : List (Option SV)) : Operand → Option SV
  | .tmp i => slot tmps i
  | .const v => SV.ofConst v
  | .global g => some (.raw (.pointer (some ⟨g, 0, none⟩)))
  | .func f => some (.func (.func f) [] [])
def wfTmps (nx : Nat) : List (Option SV) → Bool
  | [] => true
  | none :: r => wfTmps nx r
  | some v :: r => v.wf nx && wfTmps nx r
theorem wfTmps_get {nx : Nat} : ∀ {l : List (Option SV)}, wfTmps nx l = true → ∀ {i : Nat} {v : SV}, l[i]? = some (some v) → v.wf nx = true
  | none :: r, h, 0, v, hv => by simp at hv
  | some x :: r, h, 0, v, hv => by simp at hv; subst hv; simp only [wfTmps, Bool.and_eq_true] at h; exact h.1
  | none :: r, h, i + 1, v, hv => wfTmps_get (l := r) (by simpa [wfTmps] using h) (i := i) (by simpa using hv)
  | some x :: r, h, i + 1, v, hv => wfTmps_get (l := r) (by simp only [wfTmps, Bool.and_eq_true] at h; exact h.2) (i := i) (by simpa using hv)
structure TmpsOk (E : Nat → Nat) (tmps : List (Option SV)) (a : Act) : Prop where
  size : a.tmps.size = tmps.length
  val : ∀ (i : Nat) (v : SV), tmps[i]? = some (some v) → a.tmps[i]? = some (v.val E)
theorem TmpsOk.reads {E : Nat → Nat} {tmps : List (Option SV)} {a : Act} (h : TmpsOk E tmps a) : Reads E (ev tmps) a.eval := by
  intro x v hx
  cases x with
  | tmp i =>
    have := h.val i v (slot_eq hx)
    simp [Act.eval, Array.getD_eq_getD_getElem?, this]
  | const c => exact (SV.ofConst_val hx).symm
  | global g => simp [ev] at hx; subst hx; rfl
  | func f => simp [ev] at hx; subst hx; rfl
theorem TmpsOk.wf {nx : Nat} {tmps : List (Option SV)} (h : wfTmps nx tmps = true) : WfS nx (ev tmps) := by
  intro x v hx
  cases x with
  | tmp i => exact wfTmps_get h (slot_eq hx)
  | const c => exact ofConst_wf hx
  | global g => simp [ev] at hx; subst hx; rfl
  | func f => simp [ev] at hx; subst hx; rfl
theorem TmpsOk.congr {E E' : Nat → Nat} {nx : Nat} {tmps : List (Option SV)} {a : Act} (h : TmpsOk E tmps a) (hw : wfTmps nx tmps = true) (hE : ∀ k, k < nx → E' k = E k) : TmpsOk E' tmps a :=
  ⟨h.size, fun i v hv => by rw [SV.val_congr hE v (wfTmps_get hw hv)]; exact h.val i v hv⟩
def setSlot (tmps : List (Option SV)) (dst : Option Nat) (v : Option SV) : List (Option SV) :=
  match dst with
  | none => tmps
  | some d => tmps.set d v
theorem TmpsOk.put {E : Nat → Nat} {tmps : List (Option SV)} {a : Act} (h : TmpsOk E tmps a) {dst : Option Nat} {sv : Option SV} {r : Value} (hr : ∀ v, sv = some v → r = v.val E) :
    TmpsOk E (setSlot tmps dst sv) (a.put dst r) := by
  cases dst with
  | none => exact h
  | some d =>
    refine ⟨by simp [Act.put, setSlot, h.size], fun i v hv => ?_⟩
    simp only [setSlot] at hv
    rw [List.getElem?_set] at hv
    simp only [Act.put]
    rw [Array.getElem?_setIfInBounds]
    split at hv
    · rename_i e; subst e
      split at hv
      · rename_i hlt
        injection hv with hv
        rw [if_pos rfl, if_pos (by rw [h.size]; exact hlt), hr v hv]
      · cases hv
    · rename_i e
      rw [if_neg e]; exact h.val i v hv
theorem wfTmps_set {nx : Nat} : ∀ {l : List (Option SV)} {d : Nat} {v : Option SV}, wfTmps nx l = true → (∀ u, v = some u → u.wf nx = true) → wfTmps nx (l.set d v) = true
  | [], _, _, h, _ => h
  | none :: r, 0, none, h, hv => h
  | none :: r, 0, some u, h, hv => by simp only [List.set_cons_zero, wfTmps, Bool.and_eq_true]; exact ⟨hv u rfl, h⟩
  | some x :: r, 0, none, h, hv => by simp only [wfTmps, Bool.and_eq_true] at h; exact h.2
  | some x :: r, 0, some u, h, hv => by simp only [wfTmps, Bool.and_eq_true, List.set_cons_zero] at h ⊢; exact ⟨hv u rfl, h.2⟩
  | none :: r, d + 1, v, h, hv => wfTmps_set (l := r) h hv
  | some x :: r, d + 1, v, h, hv => by simp only [wfTmps, Bool.and_eq_true, List.set_cons_succ] at h ⊢; exact ⟨h.1, wfTmps_set h.2 hv⟩
theorem wfTmps_mono {n m : Nat} (h : n ≤ m) : ∀ {l : List (Option SV)}, wfTmps n l = true → wfTmps m l = true
  | [], _ => rfl
  | none :: r, hl => wfTmps_mono h (l := r) hl
  | some x :: r, hl => by simp only [wfTmps, Bool.and_eq_true] at hl ⊢; exact ⟨SV.wf_mono h x hl.1, wfTmps_mono h hl.2⟩
theorem wfTmps_setSlot {nx : Nat} {l : List (Option SV)} {dst : Option Nat} {v : Option SV} (h : wfTmps nx l = true) (hv : ∀ u, v = some u → u.wf nx = true) : wfTmps nx (setSlot l dst v) = true := by
  cases dst with
  | none => exact h
  | some d => exact wfTmps_set h hv
def wfO (nx : Nat) : Option SV → Bool
  | none => true
  | some v => v.wf nx
theorem wfO_spec {nx : Nat} {v : Option SV} (h : wfO nx v = true) : ∀ u, v = some u → u.wf nx = true := by rintro u rfl; exact h
def markOf (D : Nat) : Deferred := { target := .collected D, args := #[] }
def Marks (Γ : Base) (ds : List Deferred) (w : World) : Prop :=
  ∃ Ds : List Nat, ds = Ds.map markOf ∧ Ds.Nodup ∧ ∀ D ∈ Ds, w.heap[D]? = some (.deferred (some [])) ∧ D ∉ Γ.keep ∧ Γ.w0.heap.size ≤ D
theorem Marks.nil (Γ : Base) (w : World) : Marks Γ [] w := ⟨[], rfl, List.nodup_nil, fun D h => by cases h⟩
structure Sat (Γ : Base) (E : Nat → Nat) (st : St) (a : Act) (w : World) : Prop where
  tm : TmpsOk E st.tmps a
  wt : wfTmps st.nx st.tmps = true
  df : Marks Γ a.defers w
  mm : SatM Γ E st.m st.nx w
theorem SatM.weaken {Γ Δ : Base} (hle : Γ.le Δ) {E : Nat → Nat} {m : Mem} {nx : Nat} {w : World} (h : SatM Δ E m nx w) : SatM Γ E m nx w :=
  ⟨h.blk, h.inj, h.lt, fun k B hk hn hr => by have := h.own k B hk hn hr; rw [hle.m, hle.w] at this; exact this, by have := h.ext; rw [hle.m, hle.w] at this; exact this,
    ⟨Nat.le_trans hle.nx h.cx.1, fun k hk => (h.cx.2 k (Nat.lt_of_lt_of_le hk hle.nx)).trans (hle.e k hk)⟩, fun D hD => h.kp D (hle.keep D hD)⟩
def Base.more (Γ : Base) (Ds : List Nat) : Base := { Γ with keep := Ds ++ Γ.keep }
theorem Base.le_more (Γ : Base) (Ds : List Nat) : Γ.le (Γ.more Ds) := ⟨rfl, rfl, Nat.le_refl _, fun _ _ => rfl, fun _D h => List.mem_append_right _ h⟩
theorem SatM.more {Γ : Base} {E : Nat → Nat} {m : Mem} {nx : Nat} {w : World} (h : SatM Γ E m nx w) {Ds : List Nat} (hD : ∀ D ∈ Ds, w.heap[D]? = some (.deferred (some []))) : SatM (Γ.more Ds) E m nx w :=
  ⟨h.blk, h.inj, h.lt, h.own, h.ext, h.cx, fun D hm => by rcases List.mem_append.1 hm with h1 | h1; exact hD D h1; exact h.kp D h1⟩
theorem Marks.kept {Γ : Base} {Ds : List Nat} {ds : List Deferred} (he : ds = Ds.map markOf) (hn : Ds.Nodup) (hk : ∀ D ∈ Ds, D ∉ Γ.keep ∧ Γ.w0.heap.size ≤ D) {E : Nat → Nat} {m : Mem} {nx : Nat} {w : World} (h : SatM (Γ.more Ds) E m nx w) : Marks Γ ds w :=
  ⟨Ds, he, hn, fun D hD => ⟨h.kp D (List.mem_append_left _ hD), hk D hD⟩⟩
/-! ### One operation -/
def guardOf (ops : Array Oper) (o : Oper) (tmps : List (Option SV)) : Option Bool :=
  match o.guard with
  | none => some true
  | some (j, want) => (match ops[j]? with
    | some oj => (match oj.dst with
      | some d => (match slot tmps d with
        | some (.bool true b) => some (b == want)
        | some (.tup []) => some false
        | _ => none)
      | none => none)
    | none => none)
theorem guardOf_wanted {E : Nat → Nat} {ops : Array Oper} {o : Oper} {tmps : List (Option SV)} {a : Act} (h : TmpsOk E tmps a) {b : Bool} (hg : guardOf ops o tmps = some b) :
    Region.wanted o (yielded ops a.tmps) = b := by
  unfold guardOf at hg
  unfold Region.wanted
  split at hg
  · rename_i e; rw [e]; injection hg
  · rename_i j want e
    rw [e]
    split at hg
    · rename_i oj hj
      split at hg
      · rename_i d hd
        split at hg
        · rename_i c hc
          have := h.val d _ (slot_eq hc)
          injection hg with hg; subst hg
          simp [yielded, hj, hd, this, SV.val]
        · rename_i hc
          have := h.val d _ (slot_eq hc)
          injection hg with hg; subst hg
          simp [yielded, hj, hd, this, SV.val]
        · cases hg
      · cases hg
    · cases hg
def isGuard (ops : Array Oper) (j : Nat) : Bool := ops.toList.any fun o => match o.guard with
  | some (i, _) => Nat.beq i j
  | none => false
def putV (g : Bool) (v : Option SV) (nx : Nat) (k : Option SV → VC) : VC :=
  match g, v with
  | true, some (.bool false b) => fork b (fun c => k (some (.bool true c)))
  | _, v => match wfO nx v with
    | true => k v
    | false => .fail "a key out of bounds"
def putK (g : Bool) (dst : Option Nat) (v : Option SV) (tmps : List (Option SV)) (m : Mem) (nx : Nat) (K : St → VC) : VC :=
  putV g v nx (fun v => K ⟨setSlot tmps dst v, m, nx⟩)
theorem putV_iff (g : Bool) (v : Option SV) (nx : Nat) : ∃ (p : Prop) (u : Option SV), (∀ k, (putV g v nx k).holds ↔ p ∧ (k u).holds) ∧ (p → wfO nx u = true) ∧ (∀ (E : Nat → Nat) (r : Value), (∀ x, v = some x → r = x.val E) → ∀ x, u = some x → r = x.val E) := by
  unfold putV
  split
  · rename_i b
    exact ⟨True, some (.bool true b), fun k => by rw [fork_iff]; exact ⟨fun h => ⟨trivial, h⟩, fun h => h.2⟩, fun _ => rfl, fun E r h x hx => by injection hx with hx; subst hx; exact h (.bool false b) rfl⟩
  · cases hw : wfO nx v with
    | true => exact ⟨True, v, fun k => ⟨fun h => ⟨trivial, h⟩, fun h => h.2⟩, fun _ => hw, fun E r h => h⟩
    | false => exact ⟨False, none, fun k => ⟨fun h => h.elim, fun h => h.1.elim⟩, fun h => h.elim, fun E r h x hx => by cases hx⟩
def lop (P : Program) (call : Cal → PT) (σ : Operand → Option SV) (m : Mem) (nx : Nat) (o : Op) (K : KL) : VC :=
  match o with
  | .alloc t => (match zeroSV P t with
    | some z => lnew t z m nx K
    | none => .fail "alloc")
  | .box t x => need (σ x) (fun v => lnew t v m nx K)
  | .buildSlice t len parts => lbuildSlice P σ t len parts.toList m nx K
  | .makeSlice t x y => need (σ x) (fun a => need (σ y) (fun b => lmake P t a b m nx K))
  | .store t a x => lstore P t (σ a) (σ x) m nx K
  | .call c => lcall P call σ c m nx K
  | _ => .fail "no such operation"
theorem lop_ok {P : Program} {Γ : Base} {call : Cal → PT} (hcall : ∀ c, COk P Γ c (call c)) {σ : Operand → Option SV} {m : Mem} {nx : Nat} (o : Oper) : LOp P Γ σ m nx o (lop P call σ m nx o.op) := by
  obtain ⟨dst, op, type, pos, after, guard⟩ := o
  cases op
  case alloc t => exact lalloc_ok
  case box t x => exact lbox_ok
  case buildSlice t len parts => exact lbuildSlice_ok
  case makeSlice t x y => exact lmake_ok
  case store t a x => exact lstore_ok
  case call c => exact lcall_ok hcall
  all_goals exact LOp.fail _
def stepOp (P : Program) (call : Cal → PT) (ops : Array Oper) (j : Nat) (o : Oper) (K : St → VC) (st : St) : VC :=
  match guardOf ops o st.tmps with
  | some true => (match isQuiet P o.op with
    | true => qop P (fun k => st.m.get k) (ev st.tmps) o.op (fun v => putK (isGuard ops j) o.dst v st.tmps st.m st.nx K)
    | false => (match Mem.wf st.nx st.m with
      | true => lop P call (ev st.tmps) st.m st.nx o.op (fun v m nx => putK (isGuard ops j) o.dst v st.tmps m nx K)
      | false => .fail "a key out of bounds"))
  | some false => K ⟨setSlot st.tmps o.dst (some (.tup [])), st.m, st.nx⟩
  | none => .fail "a guard that is not known"
def Behind (K : St → VC) (Γ : Base) (E : Nat → Nat) (nx : Nat) (a : Act) (w : World) : Prop :=
  ∃ E' st', (∀ k, k < nx → E' k = E k) ∧ nx ≤ st'.nx ∧ Sat Γ E' st' a w ∧ (K st').holds
theorem Behind.trans {K K' : St → VC} {Γ : Base} {E : Nat → Nat} {nx : Nat} {a : Act} {w : World} (h : Behind K Γ E nx a w)
    (hk : ∀ E' st', nx ≤ st'.nx → Sat Γ E' st' a w → (K st').holds → Behind K' Γ E' st'.nx a w) : Behind K' Γ E nx a w := by
  obtain ⟨E', st', h1, h2, h3, h4⟩ := h
  obtain ⟨E'', st'', k1, k2, k3, k4⟩ := hk E' st' h2 h3 h4
  exact ⟨E'', st'', fun k hk => (k1 k (Nat.lt_of_lt_of_le hk h2)).trans (h1 k hk), Nat.le_trans h2 k2, k3, k4⟩
theorem putK_sound {K : St → VC} {Γ : Base} {E : Nat → Nat} {nx : Nat} {g : Bool} {dst : Option Nat} {sv : Option SV} {tmps : List (Option SV)} {m : Mem} {a : Act} {w : World} {r : Value}
    (h : (putK g dst sv tmps m nx K).holds) (ht : TmpsOk E tmps a) (hw : wfTmps nx tmps = true) (hd : Marks Γ a.defers w) (hm : SatM Γ E m nx w) (hr : ∀ v, sv = some v → r = v.val E) :
    Behind K Γ E nx (a.put dst r) w := by
  have hdf : Marks Γ (a.put dst r).defers w := by cases dst <;> exact hd
  obtain ⟨p, u, h1, h2, h3⟩ := putV_iff g sv nx
  obtain ⟨hp, hk⟩ := (h1 _).1 h
  exact ⟨E, _, fun _ _ => rfl, Nat.le_refl _, ⟨ht.put (h3 E r hr), wfTmps_setSlot hw (wfO_spec (h2 hp)), hdf, hm⟩, hk⟩
theorem quiet_noDefer {P : Program} {o : Oper} (h : isQuiet P o.op = true) : noDefer o = true := by
  unfold noDefer
  cases ho : o.op <;> first | rfl | (rw [ho] at h; cases h)
theorem lop_noDefer {P : Program} {call : Cal → PT} {σ : Operand → Option SV} {m : Mem} {nx : Nat} {o : Oper} {K : KL} (h : (lop P call σ m nx o.op K).holds) : noDefer o = true := by
  unfold noDefer
  cases ho : o.op <;> first | rfl | (rw [ho] at h; exact h.elim)
theorem stepOp_sound {P : Program} {Γ : Base} {ro : Option Nat} {call : Cal → PT} (hcall : ∀ c, COk P Γ c (call c)) {ops : Array Oper} {j : Nat} {o : Oper} {K : St → VC} {st : St} (h : (stepOp P call ops j o K st).holds)
    {E : Nat → Nat} {a : Act} {w : World} (hs : Sat Γ E st a w) (Q : Exit → Act → World → Prop) :
    if Region.wanted o (yielded ops a.tmps) then o.wpIn (Fr ro) 0 P a w (Behind K Γ E st.nx) Q else Behind K Γ E st.nx (a.put o.dst undef) w := by
  unfold stepOp at h
  split at h
  · rename_i hg
    rw [guardOf_wanted hs.tm hg, if_pos rfl]
    split at h
    · rename_i hq
      obtain ⟨obl, sv, h1, h2⟩ := qop_ok (P := P) (look := fun k => st.m.get k) (σ := ev st.tmps) o
      obtain ⟨hobl, hk⟩ := (h1 _).1 h
      obtain ⟨r, hrun, hv⟩ := h2 E w a.eval ⟨hs.mm.blk, hs.mm.glob⟩ hs.tm.reads hobl
      refine Out.wp (quiet_noDefer hq) (R := fun v w' => w' = w ∧ v = r) ?_ ?_
      · rw [hrun]; exact ⟨rfl, rfl⟩
      · rintro v w' ⟨rfl, rfl⟩
        exact putK_sound hk hs.tm hs.wt hs.df hs.mm hv
    · split at h
      · rename_i hwf
        obtain ⟨Ds, d1, d2, d3⟩ := hs.df
        have hm := hs.mm.more fun D hD => (d3 D hD).1
        have := lop_ok (fun c => (hcall c).mono (Γ.le_more Ds)) o _ E w a.eval h hm hwf (TmpsOk.wf hs.wt) hs.tm.reads
        refine Out.wp (lop_noDefer h) this ?_
        rintro r w' ⟨E', sv, m', nx', g1, g2, g3, g4, g5⟩
        have ht := hs.tm.congr hs.wt g1
        obtain ⟨E'', st', k1, k2, k3, k4⟩ := putK_sound g5 ht (wfTmps_mono g2 hs.wt) (Marks.kept d1 d2 (fun D hD => (d3 D hD).2) g4) (g4.weaken (Γ.le_more Ds)) g3
        exact ⟨E'', st', fun k hk => (k1 k (Nat.lt_of_lt_of_le hk g2)).trans (g1 k hk), Nat.le_trans g2 k2, k3, k4⟩
      · exact h.elim
  · rename_i hg
    rw [guardOf_wanted hs.tm hg]
    simp only [Bool.false_eq_true, if_false]
    exact ⟨E, ⟨setSlot st.tmps o.dst (some (.tup [])), st.m, st.nx⟩, fun _ _ => rfl, Nat.le_refl _, ⟨hs.tm.put (sv := some (.tup [])) (r := undef) (fun v hv => by injection hv with hv; subst hv; rfl), wfTmps_setSlot hs.wt (fun u hu => by injection hu with hu; subst hu; rfl), by cases o.dst <;> exact hs.df, hs.mm⟩, h⟩
  · exact h.elim
/-! ### A region in the text's order -/
def seqOps (P : Program) (call : Cal → PT) (ops : Array Oper) : List Nat → (St → VC) → St → VC
  | [], K, st => K st
  | j :: r, K, st => match ops[j]? with
    | some o => stepOp P call ops j o (seqOps P call ops r K) st
    | none => .fail "no operation"
theorem seqOps_sound {P : Program} {Γ : Base} {ro : Option Nat} {call : Cal → PT} (hcall : ∀ c, COk P Γ c (call c)) {ops : Array Oper} {Q : Exit → Act → World → Prop} {K : St → VC} :
    ∀ (l : List Nat) {st : St} {E : Nat → Nat} {a : Act} {w : World}, (seqOps P call ops l K st).holds → Sat Γ E st a w →
      (∀ a w, Behind K Γ E st.nx a w → Q .normal a w) → wpOpsIn (Fr ro) 0 P ops Q l a w
  | [], st, E, a, w, h, hs, hQ => hQ _ _ ⟨E, st, fun _ _ => rfl, Nat.le_refl _, hs, h⟩
  | j :: r, st, E, a, w, h, hs, hQ => by
    rw [wpOpsIn_cons]
    unfold wpOpIn
    simp only [seqOps] at h
    cases ho : ops[j]? with
    | none => rw [ho] at h; exact h.elim
    | some o =>
      rw [ho] at h
      simp only
      have hstep := stepOp_sound (ro := ro) hcall h hs Q
      have go : ∀ a' w', Behind (seqOps P call ops r K) Γ E st.nx a' w' → wpOpsIn (Fr ro) 0 P ops Q r a' w' := by
        rintro a' w' ⟨E', st', g1, g2, g3, g4⟩
        refine seqOps_sound hcall r g4 g3 fun a'' w'' hb => hQ a'' w'' ?_
        obtain ⟨E'', st'', k1, k2, k3, k4⟩ := hb
        exact ⟨E'', st'', fun k hk => (k1 k (Nat.lt_of_lt_of_le hk g2)).trans (g1 k hk), Nat.le_trans g2 k2, k3, k4⟩
      split
      · rename_i hw
        rw [if_pos hw] at hstep
        exact Oper.wpIn_mono go hstep
      · rename_i hw
        rw [if_neg hw] at hstep
        exact ⟨about_fr ro, go _ _ hstep⟩
end
end Go.Proofs.YtkfdcapnogklfaaGreatDoor.Sx
