/-
  The framework's ninth part: stores, append, copy, make.
-/
import Derived.Test.YtobbhdmbblhgaaaSxH
namespace Go.Proofs.Ytobbhdmbblhgaaa.Sx
open Go

theorem setCell_eq {w : World} {b o : Nat} {v : Value} {c : Array Value} {ty : TypeId} {fr : Nat × Nat} (h : w.heap[b]? = some (.cells c ty fr)) :
    w.setCell ⟨b, o, none⟩ v = { w with heap := w.heap.setIfInBounds b (.cells (c.setIfInBounds o v) ty fr) } := by
  unfold World.setCell
  congr 1
  apply Array.ext_getElem?
  intro i
  rw [Array.getElem?_modify, Array.getElem?_setIfInBounds]
  by_cases e : b = i
  · subst e
    obtain ⟨hlt, he⟩ := Array.getElem?_eq_some_iff.1 h
    simp [hlt, he]
  · simp [e]
def setArr (c : Array Value) (off : Nat) : List Value → Array Value
  | [] => c
  | v :: r => setArr (c.setIfInBounds off v) (off + 1) r
theorem setArr_toList : ∀ (vs : List Value) (c : Array Value) (off : Nat), (setArr c off vs).toList = setRange c.toList off vs
  | [], _, _ => rfl
  | v :: r, c, off => by rw [setArr, setArr_toList r, setRange]; simp
theorem setArr_size : ∀ (vs : List Value) (c : Array Value) (off : Nat), (setArr c off vs).size = c.size
  | [], _, _ => rfl
  | v :: r, c, off => by rw [setArr, setArr_size r]; simp
theorem storeCells_run {P : Program} {b o : Nat} {ty : TypeId} {fr : Nat × Nat} : ∀ (vs : List Value) (i : Nat) (w : World) (c : Array Value), w.heap[b]? = some (.cells c ty fr) →
    (∀ j, c.size ≤ j ∨ ¬ (fr.1 ≤ j ∧ j < fr.2)) → o + i + vs.length ≤ c.size → (∀ v ∈ vs, v.oneCell' = true) →
    (storeCells ⟨b, o, none⟩ vs i).run P w = .ok () { w with heap := w.heap.setIfInBounds b (.cells (setArr c (o + i) vs) ty fr) }
  | [], i, w, c, h, _, _, _ => by
    simp only [storeCells, Sem.run_pure, setArr]
    congr 1
    have : w.heap.setIfInBounds b (.cells c ty fr) = w.heap := by
      apply Array.ext_getElem?
      intro j
      rw [Array.getElem?_setIfInBounds]
      by_cases e : b = j
      · subst e
        obtain ⟨hlt, he⟩ := Array.getElem?_eq_some_iff.1 h
        simp [hlt, he]
      · simp [e]
    rw [this]
  | v :: r, i, w, c, h, hf, hl, hv => by
    have hv0 := hv v (by simp)
    simp only [List.length_cons] at hl
    have hlt : o + i < c.size := by omega
    have hfz : w.frozen? ⟨b, o + i, none⟩ = false := by
      simp only [World.frozen?, h]
      have := hf (o + i)
      obtain ⟨lo, hi⟩ := fr
      simp only at this ⊢
      rcases this with h1 | h1
      · omega
      · simp only [Bool.and_eq_false_iff, decide_eq_false_iff_not]
        by_cases h2 : lo ≤ o + i
        · right; exact fun h3 => h1 ⟨h2, h3⟩
        · left; exact h2
    have hc : w.cell? ⟨b, o + i, none⟩ = some c[o + i] := by rw [cell_of h, Array.getElem?_eq_getElem hlt]
    simp only [storeCells, Sem.run_bind, add_none, run_store P w ⟨b, o + i, none⟩ v .plain hv0, hc, hfz, Bool.false_eq_true, if_false, Result.andThen_ok]
    rw [setCell_eq h]
    have hblt := (Array.getElem?_eq_some_iff.1 h).1
    rw [storeCells_run (ty := ty) (fr := fr) r (i + 1) _ (c.setIfInBounds (o + i) v) (by simp [hblt]) (by simpa using hf) (by simp; omega) (fun u hu => hv u (by simp [hu]))]
    congr 1
    simp only [setArr, Array.setIfInBounds_setIfInBounds, Nat.add_assoc]

section
variable {P : Program} {σ : Operand → Option SV} {m : Mem} {nx : Nat}

/-- Cells of a known block are written. -/
theorem After.write {K : KL} {w0 : World} {M0 : Nat → Prop} {E : Nat → Nat} {w : World} (hs : SatM w0 M0 E m nx w) {key : Nat} {cs : List SV} {tot : Nat} {ty : TypeId}
    (hk : m.get key = some (.cells cs tot ty)) {off : Nat} {vs : List SV} (hv : ∀ v ∈ vs, v.isCell = true) (hl : off + vs.length ≤ cs.length) {sv : Option SV} {r : Value} (hr : ∀ v, sv = some v → r = v.val E)
    (h : (K sv (m.put key (.cells (setRange cs off vs) tot ty)) nx).holds) :
    ∃ w', (storeCells ⟨E key, off, none⟩ (SV.vals E vs)).run P w = .ok () w' ∧ After K w0 M0 E nx r w' := by
  obtain ⟨ob, ho, c, fr, rfl, h1, h2, h3⟩ := hs.blk key _ hk rfl
  have hcl : cs.length ≤ c.size := by
    cases hcs : cs.length with
    | zero => omega
    | succ n =>
      obtain ⟨v, hv⟩ : ∃ v, cs[n]? = some v := ⟨cs[n]'(by omega), List.getElem?_eq_getElem _⟩
      have := h2 n v hv
      have := (Array.getElem?_eq_some_iff.1 this).1
      omega
  have hrun := storeCells_run (P := P) (o := off) (SV.vals E vs) 0 w c ho h1 (by simp [SV.vals_eq]; omega) (fun v hv' => by
    rw [SV.vals_eq, List.mem_map] at hv'
    obtain ⟨u, hu, rfl⟩ := hv'
    exact SV.isCell_one (hv u hu))
  refine ⟨_, hrun, E, sv, _, _, fun _ _ => rfl, Nat.le_refl _, hr, hs.write hk rfl rfl (B' := .cells (setRange cs off vs) tot ty) ?_ rfl, h⟩
  refine ⟨_, fr, rfl, by rw [setArr_size]; exact h1, fun i v hi => ?_, by rw [setArr_size]; exact h3⟩
  rw [← Array.getElem?_toList, setArr_toList, Nat.add_zero]
  -- cell by cell
  have key2 : ∀ (vs : List SV) (cs : List SV) (l : List Value) (off : Nat), (∀ (i : Nat) (v : SV), cs[i]? = some v → l[i]? = some (v.val E)) →
      ∀ (i : Nat) (v : SV), (setRange cs off vs)[i]? = some v → (setRange l off (SV.vals E vs))[i]? = some (v.val E) := by
    intro vs
    induction vs with
    | nil => intro cs l off h i v hi; exact h i v hi
    | cons x r ih =>
      intro cs l off h i v hi
      simp only [setRange, SV.vals] at hi ⊢
      refine ih (cs.set off x) (l.set off (x.val E)) (off + 1) (fun j u hj => ?_) i v hi
      rw [List.getElem?_set] at hj ⊢
      split at hj
      · rename_i e
        subst e
        split at hj
        · rename_i hlt
          injection hj with hj; subst hj
          have : off < l.length := by
            obtain ⟨u, hu⟩ : ∃ u, cs[off]? = some u := ⟨cs[off], List.getElem?_eq_getElem hlt⟩
            have := h off u hu
            exact (List.getElem?_eq_some_iff.1 this).1
          simp [this]
        · cases hj
      · rename_i e
        rw [if_neg e]; exact h j u hj
  exact key2 vs cs c.toList off (fun j u hj => by rw [Array.getElem?_toList]; exact h2 j u hj) i v hi

def allCells : List SV → Bool
  | [] => true
  | v :: r => v.isCell && allCells r
theorem allCells_mem : ∀ {l : List SV}, allCells l = true → ∀ v ∈ l, v.isCell = true
  | x :: r, h, v, hv => by
    simp only [allCells, Bool.and_eq_true] at h
    cases hv with
    | head => exact h.1
    | tail _ hv => exact allCells_mem h.2 v hv

/-! ### *p = v -/
/-- One of n integers is written; which one is not known. -/
def mix (k : IntKind) (i : Nat) (v : Int) : Nat → List Int → List SV
  | _, [] => []
  | j, z :: r => .int k false (if i = j then v else z) :: mix k i v (j + 1) r
theorem mix_len {k : IntKind} {i : Nat} {v : Int} : ∀ {l : List Int} {j : Nat}, (mix k i v j l).length = l.length
  | [], _ => rfl
  | _ :: r, j => by simp [mix, mix_len (l := r)]
theorem mix_get {k : IntKind} {i : Nat} {v : Int} : ∀ {l : List Int} {j q : Nat} {x : SV}, (mix k i v j l)[q]? = some x → x = .int k false (if i = j + q then v else sel l q)
  | [], _, _, _, h => by simp [mix] at h
  | z :: r, j, 0, x, h => by simp [mix] at h; subst h; simp [sel]
  | z :: r, j, q + 1, x, h => by
    simp only [mix, List.getElem?_cons_succ] at h
    rw [mix_get h, show j + 1 + q = j + (q + 1) by omega]
    simp [sel]
def lstore (P : Program) (t : TypeId) (a x : Option SV) (m : Mem) (nx : Nat) (K : KL) : VC :=
  match a, x, sz P t with
  | some (.ptr key true o), some v, some n => (match m.get key with
    | some (.cells cs tot ty) => if v.plain && allCells v.cells && decide (v.cells.length = n) && decide (o + n ≤ cs.length) then
        K none (m.put key (.cells (setRange cs o v.cells) tot ty)) nx else .fail "store: cells"
    | _ => .fail "store: no such block")
  | some (.aptr key base n i), some (.int k _ v), some 1 => (match m.get key with
    | some (.cells cs tot ty) => (match takeAt cs base n with
      | some l => (match intsAt k l with
        | some zs => .and (.atom (i < n)) (K none (m.put key (.cells (setRange cs base (mix k i v 0 zs)) tot ty)) nx)
        | none => .fail "store: no integers")
      | none => .fail "store: cells")
    | _ => .fail "store: no such block")
  | _, _, _ => .fail "store"
theorem lstore_ok {dst : Option Tmp} {t type : TypeId} {pos : String} {after : Array Edge} {guard : Option (Nat × Bool)} {a x : Operand} :
    LOp P σ m nx ⟨dst, .store t a x, type, pos, after, guard⟩ (lstore P t (σ a) (σ x) m nx) := by
  intro K w0 M0 E w ρ h hs hw hσ hr
  unfold lstore at h
  split at h
  · rename_i key o v n ha hx hn
    split at h
    · rename_i cs tot ty hk
      split at h
      · rename_i hc
        simp only [Bool.and_eq_true, decide_eq_true_eq] at hc
        obtain ⟨⟨⟨h1, h2⟩, h3⟩, h4⟩ := hc
        obtain ⟨w', hrun, haft⟩ := After.write (P := P) (r := undef) hs hk (allCells_mem h2) (by omega) (fun v hv => by cases hv) h
        have hcv := SV.cells_val (E := E) h1
        have hsize : (v.val E).cells.size = n := by rw [hcv]; simp [h3]
        simp only [execOp, Instr.storeAt, hr a _ ha, hr x _ hx, SV.val, Instr.sureAddr, Sem.run_bind, Sem.run_pure, Result.andThen_ok, storeVar, run_sz hn, hsize]
        simp only [ne_eq, not_true_eq_false, if_false]
        rw [hcv]
        rw [SV.vals_eq] at hrun
        simp only [hrun, Result.andThen_ok, Sem.run_pure, Out]
        exact haft
      · exact h.elim
    · exact h.elim
  · rename_i key base n i k lf v ha hx hn
    split at h
    · rename_i cs tot ty hk
      split at h
      · rename_i l hl
        split at h
        · rename_i zs hz
          obtain ⟨hi, h⟩ := h
          have hi : i < n := hi
          have hg := takeAt_get hl
          have hzg := intsAt_get hz
          have hlt : base + i < cs.length := by
            have : (l[i]?) = some (l[i]'(by rw [hg.1]; exact hi)) := List.getElem?_eq_getElem _
            exact (List.getElem?_eq_some_iff.1 (hg.2 i _ this)).1
          -- the same block, with one cell written
          obtain ⟨ob, ho, c, fr, rfl, h1, h2, h3⟩ := hs.blk key _ hk rfl
          have hcl : base + i < c.size := (Array.getElem?_eq_some_iff.1 (h2 _ _ (List.getElem?_eq_getElem hlt))).1
          have hrun := storeCells_run (P := P) (o := base + i) [Value.int k v] 0 w c ho h1 (by simp; omega) (fun u hu => by simp at hu; subst hu; rfl)
          have hE := hs.write hk rfl rfl (B' := .cells (setRange cs base (mix k i v 0 zs)) tot ty) (o := .cells (setArr c (base + i + 0) [Value.int k v]) ty fr) ?_ rfl
          · simp only [execOp, Instr.storeAt, hr a _ ha, hr x _ hx, SV.val, Instr.sureAddr, Sem.run_bind, Sem.run_pure, Result.andThen_ok, storeVar, run_sz hn]
            simp only [Value.cells, List.size_toArray, List.length_singleton, ne_eq, not_true_eq_false, if_false, hrun, Result.andThen_ok, Sem.run_pure, Out]
            exact ⟨E, none, _, _, fun _ _ => rfl, Nat.le_refl _, (fun v hv => by cases hv), hE, h⟩
          · refine ⟨_, fr, rfl, by rw [setArr_size]; exact h1, fun q u hq => ?_, by rw [setArr_size]; exact h3⟩
            have hmixlen : (mix k i v 0 zs).length = n := by rw [mix_len, hzg.1, hg.1]
            have hset : ∀ (vs cs : List SV) (off q : Nat) (u : SV), (setRange cs off vs)[q]? = some u → off + vs.length ≤ cs.length → (off ≤ q ∧ q < off + vs.length ∧ vs[q - off]? = some u) ∨ ((q < off ∨ off + vs.length ≤ q) ∧ cs[q]? = some u) := by
              intro vs
              induction vs with
              | nil => intro cs off q u hq _; right; exact ⟨by simp; omega, hq⟩
              | cons x r ih =>
                intro cs off q u hq hle
                simp only [setRange] at hq
                simp only [List.length_cons] at hle ⊢
                rcases ih (cs.set off x) (off + 1) q u hq (by simp; omega) with ⟨g1, g2, g3⟩ | ⟨g1, g2⟩
                · left; refine ⟨by omega, by omega, ?_⟩
                  rw [show q - off = (q - (off + 1)) + 1 by omega]; simpa using g3
                · rw [List.getElem?_set] at g2
                  split at g2
                  · rename_i e; subst e
                    rw [if_pos (by omega)] at g2
                    left; refine ⟨by omega, by omega, ?_⟩
                    rw [Nat.sub_self]; simpa using g2
                  · right; exact ⟨by omega, g2⟩
            have hbase : base + n ≤ cs.length := by
              cases n with
              | zero => omega
              | succ n' =>
                have : (l[n']?) = some (l[n']'(by rw [hg.1]; omega)) := List.getElem?_eq_getElem _
                have := (List.getElem?_eq_some_iff.1 (hg.2 n' _ this)).1
                omega
            have hsa : (setArr c (base + i + 0) [Value.int k v])[q]? = if base + i = q then some (.int k v) else c[q]? := by
              simp only [setArr, Nat.add_zero]
              rw [Array.getElem?_setIfInBounds]
              by_cases e : base + i = q
              · rw [if_pos e, if_pos e, if_pos (by omega)]
              · rw [if_neg e, if_neg e]
            rw [hsa]
            rcases hset _ _ _ _ _ hq (by rw [hmixlen]; exact hbase) with ⟨g1, g2, g3⟩ | ⟨g1, g2⟩
            · have hu := mix_get g3
              subst hu
              rw [hmixlen] at g2
              by_cases e : base + i = q
              · rw [if_pos e, if_pos (by omega)]; rfl
              · rw [if_neg e, if_neg (by omega)]
                have hq' : (l[q - base]?) = some (l[q - base]'(by rw [hg.1]; omega)) := List.getElem?_eq_getElem _
                obtain ⟨b, hb⟩ := hzg.2 _ _ hq'
                have := h2 _ _ (hg.2 _ _ hq')
                rw [show base + (q - base) = q by omega, hb] at this
                rw [this]; rfl
            · rw [hmixlen] at g1
              rw [if_neg (by omega)]; exact h2 q u g2
        · exact h.elim
      · exact h.elim
    · exact h.elim
  · exact h.elim
end
end Go.Proofs.Ytobbhdmbblhgaaa.Sx
