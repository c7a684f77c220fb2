/-
  The framework's part 25: a slice among a call's arguments, as a view: whatever the caller holds it by.
-/
import Derived.Test.YtoalfimkkibpdaaGreatDoorMm
namespace Go.Proofs.YtoalfimkkibpdaaGreatDoor.Sx
open Go
theorem Col.at_val (c : Col) (i : Nat) (E E' : Nat → Nat) : (c.at i).val E = (c.at i).val E' := by cases c <;> rfl
structure Seen where
  key : Option Nat
  z : Bool
  o : Nat
  n : Nat
  c : Nat
  cols : List Col
def Seen.B (s : Seen) : SB := .view s.z s.o s.n s.cols
def Seen.sv (j : Nat) (s : Seen) : SV := .vslc j s.cols.length s.z s.o 0 s.n s.c
def Seen.Stands (m : Mem) (s : Seen) : Prop := ∀ Γ E nx w, SatM Γ E m nx w → s.B.no = false → ∃ key X, s.key = some key ∧ m.get key = some X ∧ X.no = false ∧ ∃ ob, w.heap[E key]? = some ob ∧ ∀ E', BlkOk E' s.B ob
def SeenOf (m : Mem) (v : SV) (s : Seen) : Prop := (∀ (E E' : Nat → Nat) (j : Nat), (∀ key, s.key = some key → E' j = E key) → v.val E = (s.sv j).val E') ∧ s.Stands m
theorem view_ok_of {z : Bool} {o n : Nat} {cols : List Col} {ce : Array Value} {ty : TypeId} {fr : Nat × Nat} (h : ∀ (i k : Nat) (col : Col), i < n → cols[k]? = some col → ce[o + i * cols.length + k]? = some ((col.at i).val (fun _ => 0))) (E' : Nat → Nat) :
    BlkOk E' (.view z o n cols) (.cells ce ty fr) := ⟨ce, ty, fr, rfl, fun i k col hi hk => by rw [Col.at_val col i E' (fun _ => 0)]; exact h i k col hi hk⟩
theorem seen_nil (m : Mem) (cols : List Col) : SeenOf m .nilslc ⟨none, true, 0, 0, 0, cols⟩ := ⟨fun _ _ _ _ => rfl, fun _ _ _ _ _ h => by cases h⟩
theorem shiftCols_map (i : Nat) (cols : List Col) (k : Nat) (col : Col) (h : (shiftCols i cols)[k]? = some col) : ∃ d, cols[k]? = some d ∧ ∀ (j : Nat) (E : Nat → Nat), (col.at j).val E = (d.at (i + j)).val E := by
  obtain ⟨d, h1, h2⟩ := shiftCols_get h
  exact ⟨d, h1, fun j E => by rw [h2 j]⟩
theorem seen_rows {m : Mem} {key i n c n' : Nat} {z : Bool} {cols : List Col} {ro : Bool} {tot : Nat} {ty : TypeId} (hk : m.get key = some (SB.rows z n' cols ro tot ty)) (hn : i + n ≤ n') :
    SeenOf m (.rslc key cols.length z i n c) ⟨some key, z, i * cols.length, n, c, shiftCols i cols⟩ := by
  refine ⟨fun E E' j h => by simp [SV.val, Seen.sv, h key rfl], fun Γ E nx w hs h => ?_⟩
  have hno : (SB.rows z n' cols ro tot ty).no = false := by
    cases n with
    | zero =>
      have hz : z = false := by
        cases z with
        | false => rfl
        | true => cases h
      subst hz; rfl
    | succ n => exact SB.no_rows (i := 0) (by omega)
  obtain ⟨ob, ho, ce, fr, rfl, _, _, _, h4⟩ := hs.blk key _ hk hno
  refine ⟨key, _, rfl, hk, hno, _, ho, view_ok_of fun a b col ha hb => ?_⟩
  obtain ⟨d, h1, h2⟩ := shiftCols_map _ _ _ _ hb
  have := h4 (i + a) b d (by simp only at ha; omega) h1
  rw [h2 a, Col.at_val d _ _ E, shiftCols_len, ← this]
  congr 1
  rw [Nat.add_mul]
theorem seen_view {m : Mem} {key o i n c n' : Nat} {z : Bool} {cols : List Col} (hk : m.get key = some (SB.view z o n' cols)) (hn : i + n ≤ n') :
    SeenOf m (.vslc key cols.length z o i n c) ⟨some key, z, o + i * cols.length, n, c, shiftCols i cols⟩ := by
  refine ⟨fun E E' j h => by simp [SV.val, Seen.sv, h key rfl], fun Γ E nx w hs h => ?_⟩
  have hno : (SB.view z o n' cols).no = false := by
    cases n with
    | zero =>
      have hz : z = false := by
        cases z with
        | false => rfl
        | true => cases h
      subst hz; rfl
    | succ n => exact SB.no_view (i := 0) (by omega)
  obtain ⟨ob, ho, ce, ty, fr, rfl, h4⟩ := hs.blk key _ hk hno
  refine ⟨key, _, rfl, hk, hno, _, ho, view_ok_of fun a b col ha hb => ?_⟩
  obtain ⟨d, h1, h2⟩ := shiftCols_map _ _ _ _ hb
  have := h4 (i + a) b d (by simp only at ha; omega) h1
  rw [h2 a, Col.at_val d _ _ E, shiftCols_len, ← this]
  congr 1
  show o + i * cols.length + a * cols.length + b = o + (i + a) * cols.length + b
  rw [Nat.add_mul]; omega
/-! ### Cells that are written out, by columns -/
def svInt : SV → Int
  | .int _ _ n => n
  | _ => 0
def svBool : SV → Bool
  | .bool _ b => b
  | _ => false
def svStr : SV → List UInt8
  | .str _ s => s
  | _ => []
def colAt (l : List SV) (w j : Nat) : Option Col := match l[j]? with
  | some (.int k _ _) => some (.int k fun i => svInt (l.getD (i * w + j) .nilptr))
  | some (.bool _ _) => some (.bool fun i => svBool (l.getD (i * w + j) .nilptr))
  | some (.str _ _) => some (.str fun i => svStr (l.getD (i * w + j) .nilptr))
  | _ => none
def kindOk : Col → SV → Bool
  | .int k _, .int k' _ _ => decide (k = k')
  | .bool _, .bool _ _ => true
  | .str _, .str _ _ => true
  | _, _ => false
theorem colAt_val {l : List SV} {w j i : Nat} {col : Col} (h : colAt l w j = some col) (hk : kindOk col (l.getD (i * w + j) .nilptr) = true) (E : Nat → Nat) : (l.getD (i * w + j) .nilptr).val E = (col.at i).val E := by
  unfold colAt at h
  split at h
  · injection h with h; subst h
    unfold kindOk at hk
    split at hk
    · rename_i e1 e2
      injection e1 with e1 _; subst e1
      simp only [decide_eq_true_eq] at hk
      rw [e2]; simp only [Col.at, e2, svInt, SV.val, hk]
    · cases ‹Col.int _ _ = Col.bool _›
    · cases ‹Col.int _ _ = Col.str _›
    · cases hk
  · injection h with h; subst h
    unfold kindOk at hk
    split at hk
    · cases ‹Col.bool _ = Col.int _ _›
    · rename_i e1 e2
      rw [e2]; simp only [Col.at, e2, svBool, SV.val]
    · cases ‹Col.bool _ = Col.str _›
    · cases hk
  · injection h with h; subst h
    unfold kindOk at hk
    split at hk
    · cases ‹Col.str _ = Col.int _ _›
    · cases ‹Col.str _ = Col.bool _›
    · rename_i e1 e2
      rw [e2]; simp only [Col.at, e2, svStr, SV.val]
    · cases hk
  · cases h
theorem seen_cells {m : Mem} {key o n c tot : Nat} {cl : Bool} {ty : TypeId} {cs : List SV} {cols : List Col} (hk : m.get key = some (.cells cs tot ty))
    (hc : ∀ (i j : Nat) (col : Col), i < n → cols[j]? = some col → ∃ v, cs[o + i * cols.length + j]? = some v ∧ ∀ E, v.val E = (col.at i).val E) : SeenOf m (.slc key o n cl c) ⟨some key, false, o, n, c, cols⟩ := by
  refine ⟨fun E E' j h => by simp [SV.val, Seen.sv, h key rfl], fun Γ E nx w hs _ => ?_⟩
  obtain ⟨ob, ho, ce, fr, rfl, _, h4, _⟩ := hs.blk key _ hk rfl
  refine ⟨key, _, rfl, hk, rfl, _, ho, view_ok_of fun i j col hi hj => ?_⟩
  obtain ⟨v, g1, g2⟩ := hc i j col hi hj
  rw [h4 _ _ g1, g2 E, Col.at_val col i E (fun _ => 0)]
def colsAt (l : List SV) (w : Nat) : Nat → Nat → Option (List Col)
  | _, 0 => some []
  | j, r + 1 => match colAt l w j, colsAt l w (j + 1) r with
    | some c, some cs => some (c :: cs)
    | _, _ => none
theorem colsAt_get {l : List SV} {w : Nat} : ∀ {r j : Nat} {cols : List Col}, colsAt l w j r = some cols → cols.length = r ∧ ∀ (k : Nat) (c : Col), cols[k]? = some c → colAt l w (j + k) = some c
  | 0, _, _, h => by injection h with h; subst h; exact ⟨rfl, fun k c hc => by simp at hc⟩
  | r + 1, j, cols, h => by
    unfold colsAt at h
    split at h
    · rename_i c cs h1 h2
      injection h with h; subst h
      obtain ⟨g1, g2⟩ := colsAt_get h2
      refine ⟨by simp [g1], fun k d hd => ?_⟩
      cases k with
      | zero => injection hd with hd; subst hd; exact h1
      | succ k =>
        have := g2 k d (by simpa using hd)
        rw [show j + (k + 1) = j + 1 + k by omega]; exact this
    · cases h
def cellsOk (l : List SV) (w i j : Nat) : List Col → Bool
  | [] => true
  | col :: r => Nat.blt (i * w + j) l.length && kindOk col (l.getD (i * w + j) .nilptr) && cellsOk l w i (j + 1) r
theorem cellsOk_get {l : List SV} {w i : Nat} : ∀ {cols : List Col} {j : Nat}, cellsOk l w i j cols = true → ∀ (k : Nat) (c : Col), cols[k]? = some c → i * w + (j + k) < l.length ∧ kindOk c (l.getD (i * w + (j + k)) .nilptr) = true
  | [], _, _, k, c, hc => by simp at hc
  | d :: r, j, h, k, c, hc => by
    simp only [cellsOk, Bool.and_eq_true, Nat.blt_eq] at h
    obtain ⟨⟨h1, h2⟩, h3⟩ := h
    cases k with
    | zero => injection hc with hc; subst hc; exact ⟨h1, h2⟩
    | succ k =>
      have := cellsOk_get h3 k c (by simpa using hc)
      rw [show j + (k + 1) = j + 1 + k by omega]; exact this
def allOk (l : List SV) (w : Nat) (cols : List Col) : Nat → Bool
  | 0 => true
  | i + 1 => cellsOk l w i 0 cols && allOk l w cols i
theorem allOk_get {l : List SV} {w : Nat} {cols : List Col} : ∀ {n : Nat}, allOk l w cols n = true → ∀ i, i < n → cellsOk l w i 0 cols = true
  | 0, _, i, hi => absurd hi (Nat.not_lt_zero _)
  | n + 1, h, i, hi => by
    simp only [allOk, Bool.and_eq_true] at h
    by_cases e : i = n
    · subst e; exact h.1
    · exact allOk_get h.2 i (by omega)
def viewIn (d : List Col) (m : Mem) : SV → Option (Prop × Seen)
  | .nilslc => some (True, ⟨none, true, 0, 0, 0, d⟩)
  | .rslc key w z i n c => (match m.get key with
    | some (.rows z' n' cols _ _ _) => if w = cols.length then some (z = z' ∧ i + n ≤ n', ⟨some key, z, i * w, n, c, shiftCols i cols⟩) else none
    | _ => none)
  | .vslc key w z o i n c => (match m.get key with
    | some (.view z' o' n' cols) => if w = cols.length then some (z = z' ∧ o' = o ∧ i + n ≤ n', ⟨some key, z, o + i * w, n, c, shiftCols i cols⟩) else none
    | _ => none)
  | .slc key o n _ c => (match m.get key with
    | some (.cells cs _ _) => (match n with
      | 0 => some (True, ⟨some key, false, o, 0, c, d⟩)
      | n + 1 => (match colsAt (cs.drop o) d.length 0 d.length with
        | some cols => if allOk (cs.drop o) d.length cols (n + 1) = true then some (True, ⟨some key, false, o, n + 1, c, cols⟩) else none
        | none => none))
    | _ => none)
  | _ => none
theorem viewIn_ok {d : List Col} {m : Mem} {v : SV} {p : Prop} {s : Seen} (h : viewIn d m v = some (p, s)) (hp : p) : SeenOf m v s := by
  unfold viewIn at h
  split at h
  · injection h with h; injection h with h1 h2; subst h2; exact seen_nil m d
  · rename_i key w z i n c
    split at h
    · rename_i z' n' cols ro tot ty hk
      split at h
      · rename_i hc
        subst hc
        injection h with h; injection h with h1 h2; subst h1; subst h2
        obtain ⟨rfl, hp⟩ := hp
        exact seen_rows hk hp
      · cases h
    · cases h
  · rename_i key w z o i n c
    split at h
    · rename_i z' o' n' cols hk
      split at h
      · rename_i hc
        subst hc
        injection h with h; injection h with h1 h2; subst h1; subst h2
        obtain ⟨rfl, rfl, hp⟩ := hp
        exact seen_view hk hp
      · cases h
    · cases h
  · rename_i key o n cl c
    split at h
    · rename_i cs tot ty hk
      split at h
      · injection h with h; injection h with h1 h2; subst h2
        exact seen_cells hk fun i j col hi => absurd hi (Nat.not_lt_zero _)
      · rename_i n
        split at h
        · rename_i cols hcols
          split at h
          · rename_i hall
            injection h with h; injection h with h1 h2; subst h2
            obtain ⟨g1, g2⟩ := colsAt_get hcols
            refine seen_cells hk fun i j col hi hj => ?_
            have h1 := g2 j col hj
            obtain ⟨h2, h3⟩ := cellsOk_get (allOk_get hall i hi) j col hj
            rw [Nat.zero_add] at h1 h2 h3
            have h4 := colAt_val h1 h3
            refine ⟨(cs.drop o).getD (i * d.length + j) .nilptr, ?_, h4⟩
            rw [g1, Nat.add_assoc, ← List.getElem?_drop, List.getD_eq_getElem?_getD, List.getElem?_eq_getElem h2]
            rfl
          · cases h
        · cases h
    · cases h
  · cases h
/-! ### Calls whose arguments hold slices that are read -/
inductive Sh1 where
  | one
  | slice (d : List Col)
inductive Sh2 where
  | of (h : Sh1)
  | agg (l : List Sh1)
abbrev Pk (α : Type) := Option (α × Prop × List Seen)
def pick1 (m : Mem) (j : Nat) (h : Sh1) (v : SV) : Pk SV := match h with
  | .one => if v.wf 0 = true then some (unlit v, True, []) else none
  | .slice d => match viewIn d m v with
    | some (p, s) => some (s.sv j, p, [s])
    | none => none
def picks1 (m : Mem) : Nat → List Sh1 → List SV → Pk (List SV)
  | _, [], [] => some ([], True, [])
  | j, h :: hs, v :: vs => (match pick1 m j h v with
    | some (v', p, l) => (match picks1 m (j + l.length) hs vs with
      | some (vs', q, r) => some (v' :: vs', p ∧ q, l ++ r)
      | none => none)
    | none => none)
  | _, _, _ => none
def pick2 (m : Mem) (j : Nat) (h : Sh2) (v : SV) : Pk SV := match h, v with
  | .of h, v => pick1 m j h v
  | .agg hs, .agg vs => (match picks1 m j hs vs with
    | some (vs', p, l) => some (.agg vs', p, l)
    | none => none)
  | _, _ => none
def picks2 (m : Mem) : Nat → List Sh2 → List SV → Pk (List SV)
  | _, [], [] => some ([], True, [])
  | j, h :: hs, v :: vs => (match pick2 m j h v with
    | some (v', p, l) => (match picks2 m (j + l.length) hs vs with
      | some (vs', q, r) => some (v' :: vs', p ∧ q, l ++ r)
      | none => none)
    | none => none)
  | _, _, _ => none
def Names (E E' : Nat → Nat) (j : Nat) (l : List Seen) : Prop := ∀ (i : Nat) (s : Seen), l[i]? = some s → ∀ key, s.key = some key → E' (j + i) = E key
theorem Names.left {E E' : Nat → Nat} {j : Nat} {l r : List Seen} (h : Names E E' j (l ++ r)) : Names E E' j l := fun i s hi => h i s (by
  rw [List.getElem?_append_left (List.getElem?_eq_some_iff.1 hi).1]; exact hi)
theorem Names.right {E E' : Nat → Nat} {j : Nat} {l r : List Seen} (h : Names E E' j (l ++ r)) : Names E E' (j + l.length) r := fun i s hi => by
  rw [Nat.add_assoc]
  exact h (l.length + i) s (by rw [List.getElem?_append_right (by omega)]; rw [Nat.add_sub_cancel_left]; exact hi)
theorem pick1_ok {m : Mem} {j : Nat} {h : Sh1} {v v' : SV} {p : Prop} {l : List Seen} (e : pick1 m j h v = some (v', p, l)) (hp : p) : (∀ E E', Names E E' j l → v.val E = v'.val E') ∧ ∀ s ∈ l, s.Stands m := by
  unfold pick1 at e
  split at e
  · split at e
    · rename_i hw
      injection e with e; injection e with e1 e; injection e with e2 e3; subst e1; subst e3
      exact ⟨fun E E' _ => by rw [unlit_val]; exact SV.val_pure hw E E', fun s hs => by cases hs⟩
    · cases e
  · split at e
    · rename_i q s hq
      injection e with e; injection e with e1 e; injection e with e2 e3; subst e1; subst e2; subst e3
      obtain ⟨h1, h2⟩ := viewIn_ok hq hp
      exact ⟨fun E E' hn => h1 E E' j fun key hk => hn 0 s rfl key hk, fun t ht => by rw [List.mem_singleton] at ht; subst ht; exact h2⟩
    · cases e
theorem picks1_ok {m : Mem} : ∀ {hs : List Sh1} {j : Nat} {vs vs' : List SV} {p : Prop} {l : List Seen}, picks1 m j hs vs = some (vs', p, l) → p → (∀ E E', Names E E' j l → SV.vals E vs = SV.vals E' vs') ∧ ∀ s ∈ l, s.Stands m
  | [], _, [], _, _, _, e, _ => by
    injection e with e; injection e with e1 e; injection e with e2 e3; subst e1; subst e3
    exact ⟨fun _ _ _ => rfl, fun s hs => by cases hs⟩
  | h :: hs, j, v :: vs, vs', p, l, e, hp => by
    simp only [picks1] at e
    split at e
    · rename_i v1 p1 l1 h1
      split at e
      · rename_i vs2 p2 l2 h2
        injection e with e; injection e with e1 e; injection e with e2 e3; subst e1; subst e2; subst e3
        obtain ⟨a1, a2⟩ := pick1_ok h1 hp.1
        obtain ⟨b1, b2⟩ := picks1_ok h2 hp.2
        refine ⟨fun E E' hn => by simp only [SV.vals]; rw [a1 E E' hn.left, b1 E E' hn.right], fun s hs => ?_⟩
        rcases List.mem_append.1 hs with hs | hs
        · exact a2 s hs
        · exact b2 s hs
      · cases e
    · cases e
  | [], _, _ :: _, _, _, _, e, _ => by cases e
  | _ :: _, _, [], _, _, _, e, _ => by cases e
theorem pick2_ok {m : Mem} {j : Nat} {h : Sh2} {v v' : SV} {p : Prop} {l : List Seen} (e : pick2 m j h v = some (v', p, l)) (hp : p) : (∀ E E', Names E E' j l → v.val E = v'.val E') ∧ ∀ s ∈ l, s.Stands m := by
  unfold pick2 at e
  split at e
  · exact pick1_ok e hp
  · split at e
    · rename_i vs' p' l' h'
      injection e with e; injection e with e1 e; injection e with e2 e3; subst e1; subst e2; subst e3
      obtain ⟨a1, a2⟩ := picks1_ok h' hp
      exact ⟨fun E E' hn => by simp only [SV.val]; rw [a1 E E' hn], a2⟩
    · cases e
  · cases e
theorem picks2_ok {m : Mem} : ∀ {hs : List Sh2} {j : Nat} {vs vs' : List SV} {p : Prop} {l : List Seen}, picks2 m j hs vs = some (vs', p, l) → p → (∀ E E', Names E E' j l → SV.vals E vs = SV.vals E' vs') ∧ ∀ s ∈ l, s.Stands m
  | [], _, [], _, _, _, e, _ => by
    injection e with e; injection e with e1 e; injection e with e2 e3; subst e1; subst e3
    exact ⟨fun _ _ _ => rfl, fun s hs => by cases hs⟩
  | h :: hs, j, v :: vs, vs', p, l, e, hp => by
    simp only [picks2] at e
    split at e
    · rename_i v1 p1 l1 h1
      split at e
      · rename_i vs2 p2 l2 h2
        injection e with e; injection e with e1 e; injection e with e2 e3; subst e1; subst e2; subst e3
        obtain ⟨a1, a2⟩ := pick2_ok h1 hp.1
        obtain ⟨b1, b2⟩ := picks2_ok h2 hp.2
        refine ⟨fun E E' hn => by simp only [SV.vals]; rw [a1 E E' hn.left, b1 E E' hn.right], fun s hs => ?_⟩
        rcases List.mem_append.1 hs with hs | hs
        · exact a2 s hs
        · exact b2 s hs
      · cases e
    · cases e
  | [], _, _ :: _, _, _, _, e, _ => by cases e
  | _ :: _, _, [], _, _, _, e, _ => by cases e
def fill1 (j : Nat) (h : Sh1) (v : SV) (l : List Seen) : SV × Nat × List Seen := match h, l with
  | .slice _, s :: r => (s.sv j, j + 1, r)
  | _, l => (v, j, l)
def fills1 : Nat → List Sh1 → List SV → List Seen → List SV × Nat × List Seen
  | j, h :: hs, v :: vs, l => match fill1 j h v l with
    | (v', j', l') => match fills1 j' hs vs l' with
      | (vs', j'', l'') => (v' :: vs', j'', l'')
  | j, _, vs, l => (vs, j, l)
def fill2 (j : Nat) (h : Sh2) (v : SV) (l : List Seen) : SV × Nat × List Seen := match h, v with
  | .of h, v => fill1 j h v l
  | .agg hs, .agg vs => (match fills1 j hs vs l with
    | (vs', j', l') => (.agg vs', j', l'))
  | _, v => (v, j, l)
def fills2 : Nat → List Sh2 → List SV → List Seen → List SV × Nat × List Seen
  | j, h :: hs, v :: vs, l => match fill2 j h v l with
    | (v', j', l') => match fills2 j' hs vs l' with
      | (vs', j'', l'') => (v' :: vs', j'', l'')
  | j, _, vs, l => (vs, j, l)
theorem fill1_eq {m : Mem} {j : Nat} {h : Sh1} {v v' : SV} {p : Prop} {l : List Seen} (e : pick1 m j h v = some (v', p, l)) (r : List Seen) : fill1 j h v' (l ++ r) = (v', j + l.length, r) := by
  unfold pick1 at e
  split at e
  · split at e
    · injection e with e; injection e with e1 e; injection e with e2 e3; subst e1; subst e3; rfl
    · cases e
  · split at e
    · injection e with e; injection e with e1 e; injection e with e2 e3; subst e1; subst e3; rfl
    · cases e
theorem fills1_eq {m : Mem} : ∀ {hs : List Sh1} {j : Nat} {vs vs' : List SV} {p : Prop} {l : List Seen}, picks1 m j hs vs = some (vs', p, l) → ∀ r, fills1 j hs vs' (l ++ r) = (vs', j + l.length, r)
  | [], _, [], _, _, _, e, r => by
    injection e with e; injection e with e1 e; injection e with e2 e3; subst e1; subst e3; rfl
  | h :: hs, j, v :: vs, vs', p, l, e, r => by
    simp only [picks1] at e
    split at e
    · rename_i v1 p1 l1 h1
      split at e
      · rename_i vs2 p2 l2 h2
        injection e with e; injection e with e1 e; injection e with e2 e3; subst e1; subst e2; subst e3
        have a := fill1_eq h1 (l2 ++ r)
        have b := fills1_eq h2 r
        rw [List.append_assoc]
        simp only [fills1, a, b, List.length_append, Nat.add_assoc]
      · cases e
    · cases e
  | [], _, _ :: _, _, _, _, e, _ => by cases e
  | _ :: _, _, [], _, _, _, e, _ => by cases e
theorem fill2_eq {m : Mem} {j : Nat} {h : Sh2} {v v' : SV} {p : Prop} {l : List Seen} (e : pick2 m j h v = some (v', p, l)) (r : List Seen) : fill2 j h v' (l ++ r) = (v', j + l.length, r) := by
  unfold pick2 at e
  split at e
  · exact fill1_eq e r
  · split at e
    · rename_i vs' p' l' h'
      injection e with e; injection e with e1 e; injection e with e2 e3; subst e1; subst e2; subst e3
      have a := fills1_eq h' r
      simp only [fill2, a]
    · cases e
  · cases e
theorem fills2_eq {m : Mem} : ∀ {hs : List Sh2} {j : Nat} {vs vs' : List SV} {p : Prop} {l : List Seen}, picks2 m j hs vs = some (vs', p, l) → ∀ r, fills2 j hs vs' (l ++ r) = (vs', j + l.length, r)
  | [], _, [], _, _, _, e, r => by
    injection e with e; injection e with e1 e; injection e with e2 e3; subst e1; subst e3; rfl
  | h :: hs, j, v :: vs, vs', p, l, e, r => by
    simp only [picks2] at e
    split at e
    · rename_i v1 p1 l1 h1
      split at e
      · rename_i vs2 p2 l2 h2
        injection e with e; injection e with e1 e; injection e with e2 e3; subst e1; subst e2; subst e3
        have a := fill2_eq h1 (l2 ++ r)
        have b := fills2_eq h2 r
        rw [List.append_assoc]
        simp only [fills2, a, b, List.length_append, Nat.add_assoc]
      · cases e
    · cases e
  | [], _, _ :: _, _, _, _, e, _ => by cases e
  | _ :: _, _, [], _, _, _, e, _ => by cases e
def filled (sh : List Sh2) (vs : List SV) (l : List Seen) : List SV := (fills2 0 sh vs l).1
theorem filled_eq {m : Mem} {hs : List Sh2} {vs vs' : List SV} {p : Prop} {l : List Seen} (e : picks2 m 0 hs vs = some (vs', p, l)) : filled hs vs' l = vs' := by
  have := fills2_eq e []
  rw [List.append_nil] at this
  unfold filled
  rw [this]
def seenMem : Nat → List Seen → Mem
  | _, [] => []
  | j, s :: r => (j, s.B) :: seenMem (j + 1) r
theorem seenMem_get : ∀ {l : List Seen} {j k : Nat} {B : SB}, (seenMem j l).get k = some B → ∃ i s, k = j + i ∧ l[i]? = some s ∧ B = s.B
  | [], _, _, _, h => by cases h
  | s :: r, j, k, B, h => by
    rcases Mem.get_cons h with ⟨rfl, rfl⟩ | ⟨_, h⟩
    · exact ⟨0, s, rfl, rfl, rfl⟩
    · obtain ⟨i, t, e1, e2, e3⟩ := seenMem_get h
      exact ⟨i + 1, t, by omega, by simpa using e2, e3⟩
def seenE (E : Nat → Nat) (l : List Seen) (j : Nat) : Nat := match l[j]? with
  | some s => (match s.key with
    | some k => E k
    | none => 0)
  | none => 0
theorem names_seenE (E : Nat → Nat) (l : List Seen) : Names E (seenE E l) 0 l := fun i s hi key hk => by simp only [seenE, Nat.zero_add, hi, hk]
theorem seen_sat {m : Mem} {l : List Seen} (h : ∀ s ∈ l, s.Stands m) {Γ : Base} {E : Nat → Nat} {nx : Nat} {w : World} (hs : SatM Γ E m nx w) :
    SatM (Base.at w (fun _ => False) hs.glob (fun _ _ h => h)) (seenE E l) (seenMem 0 l) l.length w := by
  refine ⟨fun j B hj hn => ?_, fun j j' B B' hj hn hj' hn' hr he => ?_, fun j B hj => ?_, fun j B hj hn hro => ?_, Ext.refl _ _, ⟨Nat.zero_le _, fun k hk => absurd hk (Nat.not_lt_zero _)⟩, fun D hD => by cases hD⟩
  · obtain ⟨i, s, e1, e2, rfl⟩ := seenMem_get hj
    rw [Nat.zero_add] at e1; subst e1
    obtain ⟨key, X, g1, g2, g3, ob, g4, g5⟩ := h s (List.mem_of_getElem? e2) Γ E nx w hs hn
    exact ⟨ob, by simp only [seenE, e2, g1]; exact g4, g5 _⟩
  · obtain ⟨i, s, e1, e2, rfl⟩ := seenMem_get hj
    obtain ⟨i', s', e1', e2', rfl⟩ := seenMem_get hj'
    rcases hr with hr | hr <;> cases hr
  · obtain ⟨i, s, e1, e2, rfl⟩ := seenMem_get hj
    have := (List.getElem?_eq_some_iff.1 e2).1
    omega
  · obtain ⟨i, s, e1, e2, rfl⟩ := seenMem_get hj
    cases hro
noncomputable def ansVPT (sh : List Sh2) (spec : List SV → List Seen → Option (Prop × Ans)) : PT := fun args m nx K => match picks2 m 0 sh args with
  | some (vs, p, l) => (match spec vs l with
    | some (q, a) => .and (.atom (p ∧ q)) (a.vc m nx K)
    | none => .fail "arguments that nothing is said of")
  | none => .fail "a slice that is not known"
theorem ansVPT_mono (sh : List Sh2) (spec : List SV → List Seen → Option (Prop × Ans)) : MonoPT (ansVPT sh spec) := by
  intro args m nx K K' hK h
  unfold ansVPT at h ⊢
  split at h
  · split at h
    · exact ⟨h.1, Ans.vc_mono hK h.2⟩
    · exact h
  · exact h
theorem ansV_ok {P : Program} {f : FuncId} {fn : Func} (hf : P.funcs[f]? = some fn) (hn : (fn.name == "runtime.NumGoroutine") = false) (hb : fn.body.isSome = true) {n : Nat} {sh : List Sh2}
    {spec : List SV → List Seen → Option (Prop × Ans)}
    (h : ∀ vs l q a, spec vs l = some (q, a) → q → ∃ cfg, Good P cfg ∧ SV.wfs l.length (filled sh vs l) = true ∧ a.Ok ∧ Holds (runFn P (calling P cfg n) [] noP (cfg.anns f) cfg.rounds fn (filled sh vs l) (seenMem 0 l) l.length (fun v m _ => a.fit v m))) : CallOk P f (ansVPT sh spec) := by
  intro args m nx K hk hwf hargs Γ E w hs
  unfold ansVPT at hk
  split at hk
  · rename_i vs p l hx
    split at hk
    · rename_i q a hq
      obtain ⟨⟨hxp, hqq⟩, hk⟩ := hk
      obtain ⟨cfg, hg, h1, h2, h3⟩ := h _ _ _ _ hq hqq
      rw [filled_eq hx] at h1 h3
      obtain ⟨e1, e2⟩ := picks2_ok hx hxp
      have hwm : ∀ (j : Nat) (l : List Seen), Mem.wf l.length (seenMem j l) = true := by
        intro j l
        have : ∀ (j n : Nat) (l : List Seen), Mem.wf n (seenMem j l) = true := by
          intro j n l
          induction l generalizing j with
          | nil => rfl
          | cons s r ih => simp only [seenMem, Mem.wf, Bool.and_eq_true]; exact ⟨rfl, ih _⟩
        exact this j _ l
      have hc := calls_of_holds hg hf hn hb h3 (hwm 0 l) h1 (seen_sat e2 hs)
      rw [← e1 E _ (names_seenE E l)] at hc
      refine out_of_calls hf hn hb (hc.mono ?_)
      rintro e w' ⟨v, rfl, E', sv, m', nx', _, _, g3, g4, g5⟩
      refine ⟨v, rfl, ?_⟩
      cases sv with
      | none => exact g5.elim
      | some u => rw [g3 u rfl]; exact Ans.told hs hwf g4 h2 g5 hk
    · exact hk.elim
  · exact hk.elim
/-! ### .. at arguments that are written out -/
end Go.Proofs.YtoalfimkkibpdaaGreatDoor.Sx
/-
  Rlp: functions of a row of texts: contracts.
-/
namespace Go.Proofs.YtoalfimkkibpdaaGreatDoor
open Go Sx
set_option maxRecDepth 20000
noncomputable def runS (cfg : Cfg) (f : Nat) (fn : Func) (args : List SV) (l : List Seen) (a : Ans) : VC := runFn Tryz.prog (calling Tryz.prog cfg 20) [] noP (cfg.anns f) cfg.rounds fn args (seenMem 0 l) l.length (fun v m _ => a.fit v m)
def noPT : PT := fun _ _ _ _ => .fail "not to be called"
theorem noPT_ok {P : Program} (f : FuncId) : CallOk P f noPT := fun _ _ _ _ h => h.elim
theorem noPT_mono : MonoPT noPT := fun _ _ _ _ _ _ h => h
/-! ### A row of texts as an argument -/
def listIn (m : Mem) (v : SV) : Option (List (List UInt8)) := match v with
  | .slc key o n _ _ => (match m.get key with
    | some (.cells cs _ _) => strCells ((cs.drop o).take n)
    | _ => none)
  | _ => none
theorem strCells_of {cs : List SV} {n : Nat} {l : List (List UInt8)} (h : strCells (cs.take n) = some l) (hn : n ≤ cs.length) : rowL (fun i => svStr (cs.getD (i * 1 + 0) .nilptr)) 0 n = l := by
  obtain ⟨g1, g2⟩ := strCells_get h
  rw [List.length_take] at g1
  apply List.ext_getElem?
  intro i
  by_cases hi : i < n
  · have hl : i < l.length := by omega
    obtain ⟨b, hb⟩ := g2 i _ (List.getElem?_eq_getElem hl)
    rw [List.getElem?_take_of_lt hi] at hb
    unfold rowL
    rw [List.getElem?_map, List.getElem?_range hi, List.getElem?_eq_getElem hl]
    simp only [Option.map_some, Nat.zero_add, Nat.mul_one, Nat.add_zero, List.getD_eq_getElem?_getD, hb, Option.getD_some, svStr]
  · rw [List.getElem?_eq_none (by rw [rowL_len]; omega), List.getElem?_eq_none (by omega)]
theorem allOk_len {l : List SV} {cols : List Col} (hc : 0 < cols.length) : ∀ {n : Nat}, allOk l 1 cols n = true → n ≤ l.length
  | 0, _ => Nat.zero_le _
  | i + 1, h => by
    simp only [allOk, Bool.and_eq_true] at h
    cases cols with
    | nil => simp at hc
    | cons c r =>
      have := h.1
      simp only [cellsOk, Bool.and_eq_true, Nat.blt_eq] at this
      omega
theorem listIn_eq {m : Mem} {v : SV} {p : Prop} {s : Seen} {f : Nat → List UInt8} {l : List (List UInt8)} (h : viewIn [.str fun _ => []] m v = some (p, s)) (hc : s.cols = [.str f]) (hl : listIn m v = some l) : rowL f 0 s.n = l := by
  unfold listIn at hl
  split at hl
  · rename_i key o n cl c
    simp only [viewIn] at h
    split at h
    · rename_i cs tot ty hk
      rw [hk] at hl
      simp only at hl
      cases n with
      | zero =>
        injection h with h; injection h with h1 h2; subst h2
        simp [strCells] at hl; subst hl; rfl
      | succ n =>
        simp only at h
        split at h
        · rename_i cols hcols
          split at h
          · rename_i hall
            injection h with h; injection h with h1 h2; subst h2
            simp only at hc
            subst hc
            simp only [List.length_cons, List.length_nil, Nat.zero_add, colsAt] at hcols
            split at hcols
            · rename_i a b ha hb
              injection hb with hb; subst hb
              injection hcols with e
              injection e with e _
              subst e
              have hlen := allOk_len (by simp) hall
              unfold colAt at ha
              split at ha
              · cases ha
              · cases ha
              · injection ha with ha
                injection ha with ha
                subst ha
                exact strCells_of hl hlen
              · cases ha
            · cases hcols
          · cases h
        · cases h
    · cases h
  · cases hl
noncomputable def strsPT (q : List (List UInt8) → Prop) (g : List (List UInt8) → SV) : PT := fun args m nx K => match args with
  | [v] => (match viewIn [.str fun _ => []] m v with
    | some (p, s) => (match s.cols with
      | [.str f] => (match listIn m v with
        | some l => .and (.atom (p ∧ q l)) (K (g l) m nx)
        | none => .and (.atom (p ∧ q (rowL f 0 s.n))) (K (g (rowL f 0 s.n)) m nx))
      | _ => .fail "texts that are not known")
    | none => .fail "texts that are not known")
  | _ => .fail "arguments"
theorem strsPT_mono (q : List (List UInt8) → Prop) (g : List (List UInt8) → SV) : MonoPT (strsPT q g) := by
  intro args m nx K K' hK h
  unfold strsPT at h ⊢
  split at h
  · split at h
    · split at h
      · split at h <;> exact ⟨h.1, hK _ _ _ h.2⟩
      · exact h
    · exact h
  · exact h
def shS : List Sh2 := [.of (.slice [.str fun _ => []])]
def rowOf (vs : List SV) (l : List Seen) : Option (Nat × (Nat → List UInt8) × Bool × Nat × Nat × Option Nat) := match vs, l with
  | [_], [⟨key, z, o, n, c, [.str f]⟩] => some (n, f, z, o, c, key)
  | _, _ => none
theorem rowOf_eq {vs : List SV} {l : List Seen} {n : Nat} {f : Nat → List UInt8} {z : Bool} {o c : Nat} {key : Option Nat} (h : rowOf vs l = some (n, f, z, o, c, key)) : filled shS vs l = [.vslc 0 1 z o 0 n c] ∧ l = [⟨key, z, o, n, c, [.str f]⟩] := by
  unfold rowOf at h
  split at h
  · injection h with h; injection h with h1 h; injection h with h2 h; injection h with h3 h; injection h with h4 h; injection h with h5 h6
    subst h1; subst h2; subst h3; subst h4; subst h5; subst h6
    exact ⟨rfl, rfl⟩
  · cases h
def strsSpec (q : List (List UInt8) → Prop) (g : List (List UInt8) → SV) (vs : List SV) (l : List Seen) : Option (Prop × Ans) := match rowOf vs l with
  | some (n, f, _) => some (q (rowL f 0 n), .ret (g (rowL f 0 n)))
  | none => none
theorem strs_ok {P : Program} {f : FuncId} {q : List (List UInt8) → Prop} {g : List (List UInt8) → SV} (h : CallOk P f (ansVPT shS (strsSpec q g))) : CallOk P f (strsPT q g) := by
  intro args m nx K hk hwf hargs Γ E w hs
  refine h args m nx K ?_ hwf hargs Γ E w hs
  unfold strsPT at hk
  split at hk
  · rename_i v
    split at hk
    · rename_i p s hv
      split at hk
      · rename_i f' hc
        have hk : (VC.and (.atom (p ∧ q (rowL f' 0 s.n))) (K (g (rowL f' 0 s.n)) m nx)).holds := by
          split at hk
          · rename_i l hl
            rw [listIn_eq hv hc hl]; exact hk
          · exact hk
        obtain ⟨key, z, o, n, c, cols⟩ := s
        simp only at hc
        subst hc
        have e : picks2 m 0 shS [v] = some ([(⟨key, z, o, n, c, [.str f']⟩ : Seen).sv 0], (p ∧ True), [⟨key, z, o, n, c, [.str f']⟩]) := by
          simp only [shS, picks2, pick2, pick1, hv, List.append_nil]
        unfold ansVPT
        rw [e]
        exact ⟨⟨⟨hk.1.1, trivial⟩, hk.1.2⟩, hk.2⟩
      · exact hk.elim
    · exact hk.elim
  · exact hk.elim
noncomputable def runT (cfg : Cfg) (f : Nat) (fn : Func) (n : Nat) (F : Nat → List UInt8) (z : Bool) (o c : Nat) (key : Option Nat) (g : List (List UInt8) → SV) : VC :=
  runS cfg f fn [.vslc 0 1 z o 0 n c] [⟨key, z, o, n, c, [.str F]⟩] (.ret (g (rowL F 0 n)))
end Go.Proofs.YtoalfimkkibpdaaGreatDoor
/-
  Rlp: plain laws: items, one behind the other; a list's items.
-/
namespace Go.Proofs.YtoalfimkkibpdaaGreatDoor
open Go Sx
set_option maxRecDepth 20000
theorem part_app {a b : List UInt8} {i : Int} (h : i ≤ a.length) : part (a ++ b) i = part a i := by
  unfold part
  by_cases h1 : 1 ≤ i
  · have hl : 1 ≤ a.length := by omega
    rw [List.drop_append_of_le_length hl, List.take_append_of_le_length (by simp only [List.length_drop]; omega)]
  · have : (i - 1).toNat = 0 := by omega
    rw [this]; rfl
theorem lenB_app {a b : List UInt8} {i : Int} (h2 : 2 ≤ i) (h : lenB a i = true) : lenB (a ++ b) i = true := by
  obtain ⟨h1, h3, h4, h5⟩ := lenB_iff.1 h
  refine lenB_iff.2 ⟨by simp only [List.length_append]; omega, ?_, ?_, ?_⟩
  · rw [byteAt_left (by omega) (by omega)]; exact h3
  · rw [part_app h1]; exact h4
  · rw [part_app h1]; exact h5
theorem cut_app {a : List UInt8} (h : cutB a = true) (b : List UInt8) : cutB (a ++ b) = true ∧ cutL (a ++ b) = cutL a ∧ cutIn (a ++ b) = cutIn a ∧ cutRest (a ++ b) = cutRest a ++ b := by
  obtain ⟨h0, hc⟩ := cutB_iff.1 h
  have hl := List.length_pos_iff.2 h0
  have e0 : byteAt (a ++ b) 0 = byteAt a 0 := byteAt_left (Int.le_refl _) (by omega)
  have el : lead (a ++ b) = lead a := by unfold lead; rw [e0]
  have eL : cutL (a ++ b) = cutL a := by unfold cutL; rw [e0]
  have hne : a ++ b ≠ [] := by simp [h0]
  refine ⟨?_, eL, ?_⟩
  · refine cutB_iff.2 ⟨hne, ?_⟩
    rw [e0, el]
    rcases hc with hA | ⟨hA, hB, hC, hD⟩ | ⟨hA, hB, hC, hD⟩
    · exact .inl hA
    · have hq := (lenB_iff.1 hC).1
      exact .inr (.inl ⟨hA, hB, lenB_app (by omega) hC, by rw [part_app hq]; simp only [List.length_append]; omega⟩)
    · exact .inr (.inr ⟨hA, hB, by simp only [List.length_append]; omega, fun ⟨x, y, z⟩ => hD ⟨x, y, by rwa [byteAt_left (by omega) (by omega)] at z⟩⟩)
  · rcases hc with hA | ⟨hA, hB, hC, hD⟩ | ⟨hA, hB, hC, hD⟩
    · obtain ⟨_, k2, k3⟩ := cut_short hA
      obtain ⟨_, j2, j3⟩ := cut_short (s := a ++ b) (by rw [e0]; exact hA)
      rw [k2, k3, j2, j3]
      exact ⟨List.take_append_of_le_length (by omega), List.drop_append_of_le_length (by omega)⟩
    · have hq := (lenB_iff.1 hC).1
      have hp := part_nn a (lead a - 54)
      obtain ⟨k2, k3⟩ := cut_long hA hB
      obtain ⟨j2, j3⟩ := cut_long (s := a ++ b) (by rw [e0]; exact hA) (by rw [el]; exact hB)
      rw [k2, k3, j2, j3, el, part_app hq]
      constructor
      · rw [List.drop_append_of_le_length (by omega), List.take_append_of_le_length (by simp only [List.length_drop]; omega)]
      · rw [List.drop_append_of_le_length (by omega)]
    · have hn := lead_nn hA
      obtain ⟨k2, k3⟩ := cut_mid hA hB
      obtain ⟨j2, j3⟩ := cut_mid (s := a ++ b) (by rw [e0]; exact hA) (by rw [el]; exact hB)
      rw [k2, k3, j2, j3, el]
      have e1 : (1 : Int).toNat = 1 := rfl
      rw [e1]
      constructor
      · rw [List.drop_append_of_le_length (by omega), List.take_append_of_le_length (by simp only [List.length_drop]; omega)]
      · rw [List.drop_append_of_le_length (by omega)]
theorem itemOf_app {a : List UInt8} (h : cutB a = true) (b : List UInt8) : itemOf (a ++ b) = itemOf a := by
  unfold itemOf
  rw [(cut_app h b).2.2.2, List.length_append, List.length_append]
  have : a.length + b.length - ((cutRest a).length + b.length) = a.length - (cutRest a).length := by omega
  rw [this, List.take_append_of_le_length (by omega)]
theorem Walk.app {a : List UInt8} (b : List UInt8) : ∀ {k : Nat}, Walk a k → restAt (a ++ b) k = restAt a k ++ b
  | 0, _ => by simp only [restAt]
  | k + 1, h => by
    have h1 := Walk.app b (k := k) (fun j hj => h j (by omega))
    simp only [restAt]
    rw [h1, (cut_app (h k (by omega)).2 b).2.2.2]
theorem Walk.take {a : List UInt8} {k j : Nat} (h : Walk a k) (hj : j ≤ k) : Walk a j := fun i hi => h i (by omega)
theorem Walk.join {a : List UInt8} (b : List UInt8) {k : Nat} (h : Walk a k) : Walk (a ++ b) k := fun j hj => by
  rw [(h.take (j := j) (by omega)).app b]
  obtain ⟨h1, h2⟩ := h j hj
  exact ⟨by simp [h1], (cut_app h2 b).1⟩
theorem Walk.item {a : List UInt8} (b : List UInt8) {k j : Nat} (h : Walk a k) (hj : j < k) : itemAt (a ++ b) j = itemAt a j := by
  unfold itemAt
  rw [(h.take (j := j) (by omega)).app b, itemOf_app (h j hj).2]
theorem items_walk (n : Nat) : ∀ (s : List UInt8), s.length ≤ n → itemsB s = true → Walk s (itemsN s) ∧ restAt s (itemsN s) = [] := by
  have nil : ∀ s : List UInt8, s = [] → Walk s (itemsN s) ∧ restAt s (itemsN s) = [] := by
    intro s hs
    rw [hs, items_nil.2]
    exact ⟨fun j hj => absurd hj (Nat.not_lt_zero _), by simp only [restAt]⟩
  induction n with
  | zero => exact fun s h _ => nil s (List.length_eq_zero_iff.1 (by omega))
  | succ n ih =>
    intro s h hb
    by_cases hne : s = []
    · exact nil s hne
    · have hc : cutB s = true := by
        cases hc : cutB s with
        | false => rw [items_bad hne hc] at hb; cases hb
        | true => rfl
      obtain ⟨h1, h2⟩ := items_cut hne hc
      have hl := cut_lt hc
      obtain ⟨h3, h4⟩ := ih (cutRest s) (by omega) (by rw [← h1]; exact hb)
      rw [h2]
      refine ⟨fun j hj => ?_, by rw [restAt_succ]; exact h4⟩
      cases j with
      | zero => simp only [restAt]; exact ⟨hne, hc⟩
      | succ j => rw [restAt_succ]; exact h3 j (by omega)
theorem restAt_add (s : List UInt8) (k : Nat) : ∀ j, restAt s (k + j) = restAt (restAt s k) j
  | 0 => by simp only [restAt, Nat.add_zero]
  | j + 1 => by rw [← Nat.add_assoc, restAt, restAt_add s k j]; simp only [restAt]
theorem items_join {a : List UInt8} (h : itemsB a = true) (b : List UInt8) : itemsB (a ++ b) = itemsB b ∧ itemsN (a ++ b) = itemsN a + itemsN b ∧
    (∀ j, j < itemsN a → itemAt (a ++ b) j = itemAt a j) ∧ ∀ j, itemAt (a ++ b) (itemsN a + j) = itemAt b j := by
  obtain ⟨h1, h2⟩ := items_walk a.length a (Nat.le_refl _) h
  have h3 := h1.app b
  rw [h2, List.nil_append] at h3
  obtain ⟨h4, h5⟩ := (h1.join b).items
  rw [h3] at h4 h5
  refine ⟨h4, by omega, fun j hj => h1.item b hj, fun j => ?_⟩
  unfold itemAt
  rw [restAt_add, h3]
theorem itemsN_le {s : List UInt8} (h : itemsB s = true) : itemsN s ≤ s.length := by
  have := (items_walk s.length s (Nat.le_refl _) h).1.len
  omega
theorem one_item {s : List UInt8} (h : cutB s = true) (h2 : cutRest s = []) : itemsB s = true ∧ itemsN s = 1 ∧ itemAt s 0 = s := by
  have hne := (cutB_iff.1 h).1
  obtain ⟨g1, g2⟩ := items_cut hne h
  rw [h2] at g1 g2
  refine ⟨by rw [g1]; exact items_nil.1, by rw [g2, items_nil.2], ?_⟩
  unfold itemAt itemOf
  simp only [restAt]
  rw [h2, List.length_nil, Nat.sub_zero, List.take_length]
theorem text_one {b : List UInt8} (hb : b.length ≤ 1048576) : cutB (textOf b) = true ∧ cutL (textOf b) = false ∧ cutRest (textOf b) = [] := by
  obtain ⟨h1, h2, _, h4⟩ := text_cut hb []
  rw [List.append_nil] at h1 h2 h4
  exact ⟨h1, h2, h4⟩
theorem flat_cons (a : List UInt8) (r : List (List UInt8)) : flat (a :: r) = a ++ flat r := by simp [flat]
theorem flat_items : ∀ (l : List (List UInt8)), (∀ x ∈ l, cutB x = true ∧ cutRest x = []) → itemsB (flat l) = true ∧ itemsN (flat l) = l.length ∧ ∀ (j : Nat) (x : List UInt8), l[j]? = some x → itemAt (flat l) j = x
  | [], _ => ⟨items_nil.1, items_nil.2, fun j x h => by simp at h⟩
  | a :: r, h => by
    obtain ⟨h1, h2⟩ := h a (by simp)
    obtain ⟨o1, o2, o3⟩ := one_item h1 h2
    obtain ⟨g1, g2, g3⟩ := flat_items r fun x hx => h x (by simp [hx])
    obtain ⟨j1, j2, j3, j4⟩ := items_join o1 (flat r)
    rw [flat_cons]
    refine ⟨by rw [j1]; exact g1, by rw [j2, o2, g2, List.length_cons]; omega, fun j x hx => ?_⟩
    cases j with
    | zero =>
      simp only [List.getElem?_cons_zero, Option.some.injEq] at hx
      rw [j3 0 (by omega), o3, hx]
    | succ j =>
      have := j4 j
      rw [o2] at this
      rw [Nat.add_comm j 1, this]
      exact g3 j x (by simpa using hx)
theorem list_cut {l : List (List UInt8)} (hl : (flat l).length ≤ 1048576) (rest : List UInt8) :
    cutB (headOf 192 (flat l).length ++ flat l ++ rest) = true ∧ cutL (headOf 192 (flat l).length ++ flat l ++ rest) = true ∧ cutIn (headOf 192 (flat l).length ++ flat l ++ rest) = flat l ∧ cutRest (headOf 192 (flat l).length ++ flat l ++ rest) = rest := by
  obtain ⟨h1, h2, h3, h4⟩ := enc_cut (.inr rfl) hl (fun h => by omega) rest
  exact ⟨h1, by rw [h2]; rfl, h3, h4⟩
theorem cutRest_le (s : List UInt8) : (cutRest s).length ≤ s.length := by
  unfold cutRest; rw [List.length_drop]; omega
theorem restAt_le (s : List UInt8) : ∀ k, (restAt s k).length ≤ s.length
  | 0 => by simp only [restAt]; exact Nat.le_refl _
  | k + 1 => by simp only [restAt]; exact Nat.le_trans (cutRest_le _) (restAt_le s k)
theorem itemAt_le (s : List UInt8) (k : Nat) : (itemAt s k).length ≤ s.length := by
  have := restAt_le s k
  unfold itemAt itemOf; rw [List.length_take]; omega
theorem cutIn_le (s : List UInt8) : (cutIn s).length ≤ s.length := by
  unfold cutIn; simp only [List.length_take, List.length_drop]; omega
def listOf (l : List (List UInt8)) : List UInt8 := headOf 192 (flat l).length ++ flat l
end Go.Proofs.YtoalfimkkibpdaaGreatDoor
/-
  Rlp: plain laws: numbers as items.
-/
namespace Go.Proofs.YtoalfimkkibpdaaGreatDoor
open Go Sx
set_option maxRecDepth 20000
theorem byteAt_tail (c : UInt8) (t : List UInt8) : byteAt (c :: t) 1 = byteAt t 0 := by cases t <;> rfl
theorem getB_num {n : Int} (h0 : 0 ≤ n) (h : n < 18446744073709551616) : getB (textOf (digits n)) = true ∧ cutIn (textOf (digits n)) = digits n := by
  have hl := digits_len n
  obtain ⟨h1, h2, h3, h4⟩ := text_cut (b := digits n) (by omega) []
  rw [List.append_nil] at h1 h2 h3 h4
  refine ⟨getB_iff.2 ⟨h1, h2, h4, by rw [h3]; exact hl, ?_⟩, h3⟩
  rw [h3]
  by_cases hp : 0 < n
  · exact .inr (digits_head hp h).2
  · have : n = 0 := by omega
    subst this; exact .inl digits_zero
theorem getB_only {s : List UInt8} (h : getB s = true) : textOf (digits (num (cutIn s))) = s := by
  obtain ⟨h1, h2, h3, h4, h5⟩ := getB_iff.1 h
  rw [digits_of h4 h5]
  obtain ⟨hne, hc⟩ := cutB_iff.1 h1
  have hl := List.length_pos_iff.2 hne
  have hL : byteAt s 0 < 192 := by simp [cutL] at h2; omega
  have g0 := byteAt_lt s 0
  rcases hc with hA | ⟨hA, hB, hC, hD⟩ | ⟨hA, hB, hC, hD⟩
  · obtain ⟨k1, k2, k3⟩ := cut_short hA
    rw [k3] at h3
    have hs : s.length = 1 := by
      have := List.drop_eq_nil_iff.1 h3; omega
    rw [k2, List.take_of_length_le (by omega), text_short ⟨hs, hA⟩]
  · exfalso
    obtain ⟨k1, k2⟩ := cut_long hA hB
    have hp := (lenB_iff.1 hC).2.2.2
    have hq := (lenB_iff.1 hC).1
    rw [k1] at h4
    simp only [List.length_take, List.length_drop] at h4
    omega
  · obtain ⟨k1, k2⟩ := cut_mid hA hB
    have hl2 := lead_lt hL
    rw [k2] at h3
    have hs := List.drop_eq_nil_iff.1 h3
    have e : cutIn s = s.drop 1 := by
      rw [k1]
      have : (1 : Int).toNat = 1 := rfl
      rw [this, List.take_of_length_le (by simp only [List.length_drop]; omega)]
    obtain ⟨c, t, rfl⟩ : ∃ c t, s = c :: t := List.exists_cons_of_ne_nil hne
    · simp only [List.drop_succ_cons, List.drop_zero] at e
      rw [e]
      simp only [List.length_cons] at hC hs
      have hn : ¬ (t.length = 1 ∧ byteAt t 0 < 128) := fun ⟨x, y⟩ => hD ⟨hL, by omega, by rw [byteAt_tail]; exact y⟩
      rw [text_long hn, head_short (by omega)]
      rw [byteAt_cons] at hl2 g0 hA
      have : (128 + (t.length : Int)).toNat = c.toNat := by omega
      rw [this, UInt8.ofNat_toNat]
      rfl
end Go.Proofs.YtoalfimkkibpdaaGreatDoor
/-
  Rlp: plain laws: an item is made of what is in it.
-/
namespace Go.Proofs.YtoalfimkkibpdaaGreatDoor
open Go Sx
set_option maxRecDepth 20000
def againOf (l : Bool) (b : List UInt8) : List UInt8 := bif l then headOf 192 b.length ++ b else textOf b
theorem toNat_eq {a b : UInt8} (h : a.toNat = b.toNat) : a = b := UInt8.toNat_inj.1 h
theorem byteAt_cons0 {s : List UInt8} (h : s ≠ []) : ∃ b t, s = b :: t ∧ byteAt s 0 = (b.toNat : Int) := by
  cases s with
  | nil => exact absurd rfl h
  | cons b t => exact ⟨b, t, rfl, rfl⟩
theorem cut_only {s : List UInt8} (h : cutB s = true) : againOf (cutL s) (cutIn s) ++ cutRest s = s := by
  obtain ⟨h0, h⟩ := cutB_iff.1 h
  obtain ⟨b, t, rfl, hb⟩ := byteAt_cons0 h0
  have hb8 := b.toNat_lt
  rcases h with hA | ⟨hA, hL, hB, hP⟩ | ⟨hA, hL, hP, hN⟩
  · obtain ⟨k1, k2, k3⟩ := cut_short hA
    rw [k1, k2, k3]
    simp only [againOf, cond_false, List.take_succ_cons, List.take_zero, List.drop_succ_cons, List.drop_zero]
    rw [text_short ⟨rfl, by rw [hb] at hA; exact hA⟩]; rfl
  · obtain ⟨k1, k2⟩ := cut_long hA hL
    obtain ⟨g1, g2, g3, g4⟩ := lenB_iff.1 hB
    have hl := g1
    simp only [List.length_cons] at hl g1 hP
    have hlead : lead (b :: t) < 64 ∧ 0 ≤ lead (b :: t) := by unfold lead; split <;> omega
    have hpn := part_nn (b :: t) (lead (b :: t) - 54)
    have elen : (cutIn (b :: t)).length = (part (b :: t) (lead (b :: t) - 54)).toNat := by
      rw [k1]; simp only [List.length_take, List.length_drop, List.length_cons]; omega
    have hd : digits (part (b :: t) (lead (b :: t) - 54)) = t.take (lead (b :: t) - 55).toNat := by
      have e : part (b :: t) (lead (b :: t) - 54) = num (t.take (lead (b :: t) - 55).toNat) := by
        unfold part
        simp only [List.drop_succ_cons, List.drop_zero]
        congr 2; omega
      rw [e]
      refine digits_of (by simp only [List.length_take]; omega) (.inr ?_)
      intro h
      apply g2
      rw [byteAt_tail]
      have : byteAt (t.take (lead (b :: t) - 55).toNat) 0 = byteAt t 0 := by
        obtain ⟨m, hm⟩ : ∃ m, (lead (b :: t) - 55).toNat = m + 1 := ⟨(lead (b :: t) - 55).toNat - 1, by omega⟩
        rw [hm]
        cases t <;> rfl
      rw [← this]; exact h
    have hhead : ∀ base : Int, lead (b :: t) = byteAt (b :: t) 0 - base → 0 ≤ base → headOf base (cutIn (b :: t)).length = b :: t.take (lead (b :: t) - 55).toNat := by
      intro base hbase hb0
      rw [head_long (by rw [elen]; omega), elen, show (((part (b :: t) (lead (b :: t) - 54)).toNat : Nat) : Int) = part (b :: t) (lead (b :: t) - 54) by omega, hd]
      congr 1
      apply toNat_eq
      have : (base + 55 + ((t.take (lead (b :: t) - 55).toNat).length : Int)).toNat = b.toNat := by
        rw [hb] at hbase
        simp only [List.length_take]; omega
      rw [this]
      simp
    have hcat : ∀ base : Int, lead (b :: t) = byteAt (b :: t) 0 - base → 0 ≤ base → headOf base (cutIn (b :: t)).length ++ cutIn (b :: t) ++ cutRest (b :: t) = b :: t := by
      intro base hbase hb0
      rw [hhead base hbase hb0, k1, k2, List.append_assoc]
      have e1 : (lead (b :: t) - 54).toNat = (lead (b :: t) - 55).toNat + 1 := by omega
      have e2 : (lead (b :: t) - 54 + part (b :: t) (lead (b :: t) - 54)).toNat = (lead (b :: t) - 55).toNat + 1 + (part (b :: t) (lead (b :: t) - 54)).toNat := by omega
      rw [e1, e2]
      generalize (lead (b :: t) - 55).toNat = k
      generalize (part (b :: t) (lead (b :: t) - 54)).toNat = p
      rw [show k + 1 + p = (k + p) + 1 by omega]
      simp only [List.drop_succ_cons, List.cons_append]
      rw [← List.drop_drop, List.take_append_drop, List.take_append_drop]
    by_cases hC : byteAt (b :: t) 0 < 192
    · have e3 : cutL (b :: t) = false := by simp [cutL]; omega
      rw [e3, againOf, cond_false, text_long (by rw [elen]; omega)]
      exact hcat 128 (lead_lt hC) (by omega)
    · have e3 : cutL (b :: t) = true := by simp [cutL]; omega
      rw [e3, againOf, cond_true]
      exact hcat 192 (lead_ge hC) (by omega)
  · obtain ⟨k1, k2⟩ := cut_mid hA hL
    simp only [List.length_cons] at hP
    have hlead := lead_nn hA
    have elen : (cutIn (b :: t)).length = (lead (b :: t)).toNat := by
      rw [k1]; simp only [List.length_take, List.length_drop, List.length_cons]; omega
    have ein : cutIn (b :: t) = t.take (lead (b :: t)).toNat := by rw [k1]; rfl
    have hcat : ∀ base : Int, lead (b :: t) = byteAt (b :: t) 0 - base → 0 ≤ base → headOf base (cutIn (b :: t)).length ++ cutIn (b :: t) ++ cutRest (b :: t) = b :: t := by
      intro base hbase hb0
      rw [head_short (by rw [elen]; omega), elen, ein, k2]
      have : (base + ((lead (b :: t)).toNat : Int)).toNat = b.toNat := by rw [hb] at hbase; omega
      rw [this, show (1 + lead (b :: t)).toNat = (lead (b :: t)).toNat + 1 by omega]
      simp
    by_cases hC : byteAt (b :: t) 0 < 192
    · have e3 : cutL (b :: t) = false := by simp [cutL]; omega
      rw [e3, againOf, cond_false, text_long ?_]
      · exact hcat 128 (lead_lt hC) (by omega)
      · rintro ⟨h1, h2⟩
        rw [elen] at h1
        apply hN
        refine ⟨hC, by omega, ?_⟩
        rw [byteAt_tail]
        rw [ein, h1] at h2
        cases t with
        | nil => exact h2
        | cons c u => exact h2
    · have e3 : cutL (b :: t) = true := by simp [cutL]; omega
      rw [e3, againOf, cond_true]
      exact hcat 192 (lead_ge hC) (by omega)
theorem again_cut {l : Bool} {b : List UInt8} (hb : b.length ≤ 1048576) (rest : List UInt8) : cutB (againOf l b ++ rest) = true ∧ cutL (againOf l b ++ rest) = l ∧ cutIn (againOf l b ++ rest) = b ∧ cutRest (againOf l b ++ rest) = rest := by
  cases l with
  | false => exact text_cut hb rest
  | true =>
    have := list_cut (l := [b]) (by simpa [flat] using hb) rest
    have e : flat [b] = b := by simp [flat]
    rw [e] at this
    exact this
end Go.Proofs.YtoalfimkkibpdaaGreatDoor
/-
  Rlp: what all frames need: loops over elements, rows that grow, lengths.
-/
namespace Go.Proofs.YtoalfimkkibpdaaGreatDoor
open Go Sx
set_option maxRecDepth 20000
def numOf (n : Int) : List UInt8 := textOf (digits n)
structure Upto (n : Nat) (t : Nat → Bool) (i : Nat) : Prop where
  le : i ≤ n
  all : ∀ j, j < i → t j = true
noncomputable def annUpto (tmp : Nat) (n : Nat) (t : Nat → Bool) : LoopAnn :=
  { α := Nat, pre := fun _ i => Upto n t i, mea := fun _ i => n - i, fresh := 0, slots := fun _ i => [(tmp, .int .i64 false i)], mem := fun _ _ => [] }
structure Grow (n : Nat) (x : Nat × Nat) : Prop where
  le : x.1 ≤ n
  cap : x.1 ≤ x.2
noncomputable def annGrow (tmp slot : Nat) (n : Nat) (f : Nat → List UInt8) : LoopAnn :=
  { α := Nat × Nat, pre := fun _ x => Grow n x, mea := fun _ x => n - x.1, fresh := 1, slots := fun st x => [(tmp, .int .i64 false x.1), (slot, .rslc st.nx 1 false 0 x.1 x.2)],
    mem := fun st x => [(st.nx, .rows false x.1 [.str f] false x.2 9)] }
theorem upto_all {n i : Nat} {t : Nat → Bool} (h : Upto n t i) (hi : ¬ (i : Int) < (n : Int)) : (List.range n).all t = true := by
  rw [List.all_eq_true]
  intro j hj
  have := List.mem_range.1 hj
  exact h.all j (by omega)
theorem upto_none {n i : Nat} {t : Nat → Bool} (hi : (i : Int) < (n : Int)) (ht : t i = false) : (List.range n).all t = false := by
  rw [List.all_eq_false]
  exact ⟨i, List.mem_range.2 (by omega), by rw [ht]; decide⟩
theorem upto_next {n i : Nat} {t : Nat → Bool} (h : Upto n t i) (hi : (i : Int) < (n : Int)) (ht : t i = true) : Upto n t (i + 1) := ⟨by omega, fun j hj => by
  by_cases e : j = i
  · subst e; exact ht
  · exact h.all j (by omega)⟩
theorem bool_same {l : Bool} {a b : Bool} (h : a = b) : sameVal (.bool l a) (.bool false b) := fun E => by subst h; rfl
theorem flat_len {l : List (List UInt8)} {m : Nat} (h : ∀ x ∈ l, x.length ≤ m) : (flat l).length ≤ l.length * m := by
  induction l with
  | nil => simp [flat]
  | cons a r ih =>
    have h1 := h a (by simp)
    have h2 := ih fun x hx => h x (by simp [hx])
    have : flat (a :: r) = a ++ flat r := by simp [flat]
    rw [this, List.length_append, List.length_cons, Nat.add_mul]; omega
theorem flat_clen (a : List UInt8) (l : List (List UInt8)) : (flat (a :: l)).length = a.length + (flat l).length := by simp [flat]
theorem flat_nlen : (flat []).length = 0 := rfl
theorem listOf_len (l : List (List UInt8)) : (listOf l).length ≤ (flat l).length + 9 := by
  have := head_len 192 (flat l).length
  rw [listOf, List.length_append]; omega
theorem rowL_mem {f : Nat → List UInt8} {n : Nat} {y : List UInt8} (h : y ∈ rowL f 0 n) : ∃ i, i < n ∧ y = f i := by
  obtain ⟨j, hj⟩ := List.getElem?_of_mem h
  obtain ⟨h1, h2⟩ := rowL_get hj
  exact ⟨j, h1, by rw [← h2, Nat.zero_add]⟩
theorem Sx.SBle.empty {tot tot' : Nat} {ty : TypeId} {cols : List Col} {z : Bool} (h : tot = tot') : SBle (.cells [] tot ty) (.rows z 0 cols false tot' ty) := by
  subst h
  intro _
  refine ⟨rfl, fun E o ⟨c, fr, h1, h2, _, h4⟩ => ⟨c, fr, h1, fun _ => h2, by omega, h4, fun i k col hi => absurd hi (Nat.not_lt_zero _)⟩, fun _ => rfl⟩
theorem grow_row {_n : Nat} {F : Nat → List UInt8} {k : Nat} {v : List UInt8} (hv : v = F k) {c c' : Nat} (hc : c = c') :
    SBle (.rows false (k + 1) [.str fun j => if j < k then F j else selS [v] (j - k)] false (c * 1) 9) (.rows false (k + 1) [.str F] false c' 9) := by
  refine Sx.SBle.strRows rfl (by omega) fun i hi => ?_
  by_cases h : i < k
  · rw [if_pos h]
  · have e : i = k := by omega
    subst e
    rw [if_neg h, Nat.sub_self, hv]
    rfl
theorem grow_next {n c _k : Nat} {y : Nat × Nat} (_h : Grow n y) (hk : (y.1 : Int) < (n : Int)) (hc : y.1 + 1 ≤ c) : Grow n (y.1 + 1, c) := ⟨by show y.1 + 1 ≤ n; omega, hc⟩
end Go.Proofs.YtoalfimkkibpdaaGreatDoor
/-
  Wire: papers: what may be, its bytes; the set-up for Valid.
-/
namespace Go.Proofs.YtoalfimkkibpdaaGreatDoor
open Go Sx
set_option maxRecDepth 20000
structure Pp where
  k : Int
  root : List UInt8
  key : List UInt8
  to : List UInt8
  n : Nat
  f : Nat → List UInt8
def Pp.sv (x : Pp) (u : SV) : SV := .agg [.int .i64 false x.k, .str false x.root, .str false x.key, .str false x.to, u]
def nodeOk (f : Nat → List UInt8) (i : Nat) : Bool := !decide ((1000 : Int) < ((f i).length : Int))
def nodesOk (n : Nat) (f : Nat → List UInt8) : Bool := (List.range n).all (nodeOk f)
def Pp.ok (x : Pp) : Bool := (decide (x.k = 0) && decide (x.to = []) || decide (x.k = 1)) && decide ((x.root.length : Int) = 32) && !decide ((6 : Int) < (x.key.length : Int)) && !decide ((6 : Int) < (x.to.length : Int)) &&
  !decide ((200 : Int) < (x.n : Int)) && nodesOk x.n x.f
def rowT (f : Nat → List UInt8) (i : Nat) : List UInt8 := textOf (f i)
def Pp.rows (x : Pp) : List (List UInt8) := rowL (rowT x.f) 0 x.n
def Pp.items (x : Pp) : List (List UInt8) := [numOf x.k, textOf x.root, textOf x.key, textOf x.to, listOf x.rows]
def Pp.put (x : Pp) : List UInt8 := listOf x.items
def Pp.fits (x : Pp) : Bool := x.ok && !decide ((65536 : Int) < (x.put.length : Int))
def seenP (z : Bool) (o c : Nat) (x : Pp) (key : Option Nat) : Seen := ⟨key, z, o, x.n, c, [.str x.f]⟩
noncomputable def cfgPV (x : Pp) : Cfg := { cfg0 with summ := fun f => lookPT f list7, anns := fun f => if f = 19 then [(12, always (annUpto 37 x.n (nodeOk x.f)))] else [] }
theorem goodPV (x : Pp) : Sx.Good Tryz.prog (cfgPV x) := ⟨mixes, list7_ok, fns_ok⟩
def dP : List Col := [.str fun _ => []]
def shP : List Sh2 := [.agg [.one, .one, .one, .one, .slice dP]]
def paperOf (vs : List SV) (l : List Seen) : Option (Pp × Bool × Nat × Nat × Option Nat) := match vs, l with
  | [.agg [.int .i64 false k, .str false root, .str false key, .str false to, _]], [⟨kk, z, o, n, c, [.str f]⟩] => some (⟨k, root, key, to, n, f⟩, z, o, c, kk)
  | _, _ => none
theorem paperOf_eq {vs : List SV} {l : List Seen} {x : Pp} {z : Bool} {o c : Nat} {key : Option Nat} (h : paperOf vs l = some (x, z, o, c, key)) : filled shP vs l = [x.sv (.vslc 0 1 z o 0 x.n c)] ∧ l = [seenP z o c x key] := by
  unfold paperOf at h
  split at h
  · injection h with h; injection h with h1 h; injection h with h2 h; injection h with h3 h; injection h with h4 h5
    subst h1; subst h2; subst h3; subst h4; subst h5
    exact ⟨rfl, rfl⟩
  · cases h
end Go.Proofs.YtoalfimkkibpdaaGreatDoor
/-
  Conditions that the executor computes, written out by a program (vcgen.py).
-/
namespace Go.Proofs.YtoalfimkkibpdaaGreatDoor
open Go Sx
set_option maxRecDepth 20000
theorem vcPValid (x : Pp) (z : Bool) (o c : Nat) (key : Option Nat) : VC.holds (runS (cfgPV x) 19 Tryz.f19 [x.sv (.vslc 0 1 z o 0 x.n c)] [seenP z o c x key] (.ret (.bool false x.ok))) = ((fun P0 : SB => (((decide (x.k = 0) = true → ((!decide (x.to = [])) = true → sameVal (SV.bool true false) (SV.bool false x.ok)) ∧ ((!decide (x.to = [])) = false → ((!decide ((x.root.length : Int) = 32)) = true → sameVal (SV.bool true false) (SV.bool false x.ok)) ∧ ((!decide ((x.root.length : Int) = 32)) = false → (decide (6 < (x.key.length : Int)) = true → sameVal (SV.bool true false) (SV.bool false x.ok)) ∧ (decide (6 < (x.key.length : Int)) = false → (decide (6 < (x.to.length : Int)) = true → sameVal (SV.bool true false) (SV.bool false x.ok)) ∧ (decide (6 < (x.to.length : Int)) = false → (decide (200 < (x.n : Int)) = true → sameVal (SV.bool true false) (SV.bool false x.ok)) ∧ (decide (200 < (x.n : Int)) = false → (∃ (u5 : Nat), Upto x.n (nodeOk x.f) u5 ∧ 0 = (u5 : Int) ∧ SBle P0 P0 ∧ SBle (seenP z o c x key).B (seenP z o c x key).B ∧ True) ∧ ∀ (u4 : Nat), Upto x.n (nodeOk x.f) u4 → (decide ((u4 : Int) < (x.n : Int)) = true → (0 ≤ (u4 : Int) ∧ (u4 : Int) < (x.n : Int)) ∧ (o = o ∧ 0 + (u4 : Int).toNat < x.n) ∧ (decide (1000 < (↑(x.f (0 + (u4 : Int).toNat)).length : Int)) = true → sameVal (SV.bool true false) (SV.bool false x.ok)) ∧
 (decide (1000 < (↑(x.f (0 + (u4 : Int).toNat)).length : Int)) = false → ((-9223372036854775808 : Int) ≤ (u4 : Int) + 1 ∧ (u4 : Int) + 1 ≤ (9223372036854775807 : Int)) ∧ ∃ (u3 : Nat), (Upto x.n (nodeOk x.f) u3 ∧ x.n - u3 < x.n - u4) ∧ (u4 : Int) + 1 = (u3 : Int) ∧ SBle P0 P0 ∧ SBle (seenP z o c x key).B (seenP z o c x key).B ∧ True)) ∧ (decide ((u4 : Int) < (x.n : Int)) = false → sameVal (SV.bool true true) (SV.bool false x.ok)))))))) ∧ (decide (x.k = 0) = false → (decide (x.k = 1) = true → ((!decide ((x.root.length : Int) = 32)) = true → sameVal (SV.bool true false) (SV.bool false x.ok)) ∧ ((!decide ((x.root.length : Int) = 32)) = false → (decide (6 < (x.key.length : Int)) = true → sameVal (SV.bool true false) (SV.bool false x.ok)) ∧ (decide (6 < (x.key.length : Int)) = false → (decide (6 < (x.to.length : Int)) = true → sameVal (SV.bool true false) (SV.bool false x.ok)) ∧ (decide (6 < (x.to.length : Int)) = false → (decide (200 < (x.n : Int)) = true → sameVal (SV.bool true false) (SV.bool false x.ok)) ∧ (decide (200 < (x.n : Int)) = false → (∃ (u2 : Nat), Upto x.n (nodeOk x.f) u2 ∧ 0 = (u2 : Int) ∧ SBle P0 P0 ∧ SBle (seenP z o c x key).B (seenP z o c x key).B ∧ True) ∧
 ∀ (u1 : Nat), Upto x.n (nodeOk x.f) u1 → (decide ((u1 : Int) < (x.n : Int)) = true → (0 ≤ (u1 : Int) ∧ (u1 : Int) < (x.n : Int)) ∧ (o = o ∧ 0 + (u1 : Int).toNat < x.n) ∧ (decide (1000 < (↑(x.f (0 + (u1 : Int).toNat)).length : Int)) = true → sameVal (SV.bool true false) (SV.bool false x.ok)) ∧ (decide (1000 < (↑(x.f (0 + (u1 : Int).toNat)).length : Int)) = false → ((-9223372036854775808 : Int) ≤ (u1 : Int) + 1 ∧ (u1 : Int) + 1 ≤ (9223372036854775807 : Int)) ∧ ∃ (u0 : Nat), (Upto x.n (nodeOk x.f) u0 ∧ x.n - u0 < x.n - u1) ∧ (u1 : Int) + 1 = (u0 : Int) ∧ SBle P0 P0 ∧ SBle (seenP z o c x key).B (seenP z o c x key).B ∧ True)) ∧ (decide ((u1 : Int) < (x.n : Int)) = false → sameVal (SV.bool true true) (SV.bool false x.ok))))))) ∧ (decide (x.k = 1) = false → sameVal (SV.bool true false) (SV.bool false x.ok)))))) (SB.cells (x.sv (SV.vslc 0 1 z o 0 x.n c)).cells 5 24)) := by kernel_rfl
end Go.Proofs.YtoalfimkkibpdaaGreatDoor
/-
  Wire: Valid: the contract; Put: the set-up.
-/
namespace Go.Proofs.YtoalfimkkibpdaaGreatDoor
open Go Sx
set_option maxRecDepth 20000
theorem nodeOk_true {f : Nat → List UInt8} {i : Nat} (h : ¬ (1000 : Int) < ((f i).length : Int)) : nodeOk f i = true := by
  rw [nodeOk, decide_eq_false h]; rfl
theorem nodeOk_f {f : Nat → List UInt8} {i : Nat} (h : (1000 : Int) < ((f i).length : Int)) : nodeOk f i = false := by
  rw [nodeOk, decide_eq_true h]; rfl
set_option maxHeartbeats 4000000 in
theorem pvalid_holds (x : Pp) (z : Bool) (o c : Nat) (key : Option Nat) : Holds (runS (cfgPV x) 19 Tryz.f19 [x.sv (.vslc 0 1 z o 0 x.n c)] [seenP z o c x key] (.ret (.bool false x.ok))) := by
  refine Holds.of_eq (vcPValid x z o c key) ?_
  simp only [Int.toNat_natCast, Nat.zero_add]
  unfold Pp.ok
  have h01 : decide (x.k = 0) = true → decide (x.k = 1) = false := by simp only [decide_eq_true_eq, decide_eq_false_iff_not]; omega
  generalize decide (x.k = 0) = b1 at h01 ⊢
  generalize decide (x.k = 1) = b2 at h01 ⊢
  generalize decide (x.to = []) = b3
  generalize decide ((x.root.length : Int) = 32) = b4
  generalize decide ((6 : Int) < (x.key.length : Int)) = b5
  generalize decide ((6 : Int) < (x.to.length : Int)) = b6
  generalize hr : nodesOk x.n x.f = b9
  repeat' first
    | exact trivial
    | exact SBle.refl _
    | apply And.intro
    | intro (_ : _ = true)
    | intro (_ : _ = false)
    | refine ⟨0, ⟨Nat.zero_le _, fun j hj => absurd hj (Nat.not_lt_zero _)⟩, rfl, ?_⟩
    | intro (i : Nat) (hi : Upto _ _ i)
    | refine ⟨i + 1, ⟨upto_next hi ?_ ?_, ?_⟩, ?_, ?_⟩
    | fail
  all_goals try simp only [decide_eq_true_eq, decide_eq_false_iff_not] at *
  all_goals first
    | omega
    | exact nodeOk_true (by assumption)
    | (apply bool_same; subst hr; rw [nodesOk, upto_all hi (by assumption)]; simp_all; done)
    | (apply bool_same; subst hr; rw [nodesOk, upto_none (i := i) (by assumption) (nodeOk_f (by assumption))]; simp_all; done)
    | (apply bool_same; simp_all; done)
def pvalidSpec (vs : List SV) (l : List Seen) : Option (Prop × Ans) := match paperOf vs l with
  | some (x, _) => some (True, .ret (.bool false x.ok))
  | none => none
theorem pvalid_ok : CallOk Tryz.prog 19 (ansVPT shP pvalidSpec) := by
  refine ansV_ok (n := 20) (fn := Tryz.f19) Tryz.func19 (by kernel_rfl) (by kernel_rfl) ?_
  intro vs l q a h hq
  unfold pvalidSpec at h
  split at h
  · rename_i x r hx
    obtain ⟨z, o, c, key⟩ := r
    injection h with h; injection h with h1 h2; subst h1; subst h2
    obtain ⟨e1, e2⟩ := paperOf_eq hx
    rw [e1, e2]
    exact ⟨_, goodPV x, rfl, rfl, pvalid_holds x z o c key⟩
  · cases h
noncomputable def listP1 : List (FuncId × PT) := (19, ansVPT shP pvalidSpec) :: list7
theorem listP1_ok : SummOk Tryz.prog (fun f => lookPT f listP1) := .cons pvalid_ok (ansVPT_mono _ _) list7_ok
noncomputable def cfgPP (x : Pp) : Cfg := { cfg0 with summ := fun f => lookPT f listP1, anns := fun f => if f = 11 then [(5, always (annGrow 18 4 x.n (rowT x.f)))] else [] }
theorem goodPP (x : Pp) : Sx.Good Tryz.prog (cfgPP x) := ⟨mixes, listP1_ok, fns_ok⟩
def putPA (x : Pp) : Ans := .fork x.ok fun b => match b with
  | true => .fork (decide ((65536 : Int) < (x.put.length : Int))) fun b => match b with
    | true => .ret (.tup [.str true [], .int .i64 true 8])
    | false => .ret (.tup [.str false x.put, .int .i64 true 0])
  | false => .ret (.tup [.str true [], .int .i64 true 1])
end Go.Proofs.YtoalfimkkibpdaaGreatDoor
