/-
  The framework's tenth part: append and copy on blocks that are written out; make.
-/
import Derived.Test.YtobbhdmbblhgaaaSxI
namespace Go.Proofs.Ytobbhdmbblhgaaa.Sx
open Go

theorem dropwf {nx key : Nat} {m : Mem} (h : Mem.wf nx m = true) : Mem.wf nx (m.drop key) = true := by
  induction m with
  | nil => rfl
  | cons e r ih =>
    simp only [Mem.wf, Bool.and_eq_true] at h
    by_cases he : e.1 = key
    · rw [Mem.drop, if_pos he]; exact ih h.2
    · rw [Mem.drop, if_neg he]; simp only [Mem.wf, Bool.and_eq_true]; exact ⟨h.1, ih h.2⟩
/-! ### append -/
/-- What is appended: the cells, and how many elements. -/
def srcCells (m : Mem) (s : Nat) : SV → Option (List SV × Nat)
  | .nilslc => some ([], 0)
  | .slc key o n _ _ => (match m.get key with
    | some (.cells cs _ _) => (match takeAt cs o (n * s) with
      | some l => some (l, n)
      | none => none)
    | _ => none)
  | _ => none
theorem srcCells_run {P : Program} {w0 M0 E m nx w} (hs : SatM w0 M0 E m nx w) {s : Nat} {x : SV} {l : List SV} {n : Nat} (h : srcCells m s x = some (l, n)) :
    (Builtin.lenOf (x.val E)).run P w = .ok n w ∧ (∀ j, j ≤ n → (Builtin.firstCells s j (x.val E)).run P w = .ok (SV.vals E (l.take (j * s))).toArray w) ∧ l.length = n * s := by
  unfold srcCells at h
  split at h
  · injection h with h; injection h with h1 h2; subst h1; subst h2
    refine ⟨rfl, fun j hj => ?_, by simp⟩
    obtain rfl : j = 0 := by omega
    simp [SV.val, Builtin.firstCells, SV.vals]
  · rename_i key o n' cl c
    split at h
    · rename_i cs tot ty hk
      split at h
      · rename_i l' hl
        injection h with h; injection h with h1 h2; subst h1; subst h2
        have hg := takeAt_get hl
        obtain ⟨ob, ho, c0, fr, rfl, _, h2, _⟩ := hs.blk key _ hk rfl
        refine ⟨rfl, fun j hj => ?_, hg.1⟩
        have hle : j * s ≤ n' * s := Nat.mul_le_mul_right s hj
        have hrun := run_loadCells (P := P) (w := w) ho o ((l'.take (j * s)).map (SV.val E)) (fun i v hi => by
          rw [List.getElem?_map] at hi
          cases hil : (l'.take (j * s))[i]? with
          | none => rw [hil] at hi; cases hi
          | some u =>
            rw [hil] at hi; injection hi with hi; subst hi
            have : l'[i]? = some u := by
              rw [List.getElem?_take] at hil
              split at hil
              · exact hil
              · cases hil
            exact h2 _ _ (hg.2 i u this))
        have hlen : ((l'.take (j * s)).map (SV.val E)).length = j * s := by rw [List.length_map, List.length_take, hg.1]; exact Nat.min_eq_left hle
        rw [hlen] at hrun
        simp only [SV.val, Builtin.firstCells, hrun, SV.vals_eq]
      · cases h
    · cases h
  · cases h
def slcParts : SV → Option (Option Nat × Nat × Nat × Bool × Nat)
  | .nilslc => some (none, 0, 0, true, 0)
  | .slc key o n cl c => some (some key, o, n, cl, c)
  | _ => none
def bytes (P : Program) (t : TypeId) : Option Nat := match P.info? t with | some i => some i.bytes | none => none
def grown (elem : TypeId) (need : Nat) (cs : List SV) (s : Nat) (m : Mem) (nx : Nat) (K : KL) : VC :=
  .all Nat fun c => .imp (need ≤ c) (K (some (.slc nx 0 need false c)) ((nx, .cells cs (c * s) elem) :: m) (nx + 1))
def lappendTo (P : Program) (elem : TypeId) (s : Nat) (b : SV) (new : List SV) (n : Nat) (m : Mem) (nx : Nat) (K : KL) : VC :=
  match bytes P elem, zeroSV P elem, srcCells m s b with
  | some by_, some z, some (old, n0) =>
    if (z.plain && allCells new && SV.wfs nx new && decide (z.cells.length = s) && decide (2 * (n0 + n) * by_ ≤ 281474976710656) && decide (n0 + n < 9223372036854775808)) = true then
    (match b with
    | .nilslc => (match n with
      | 0 => K (some .nilslc) m nx
      | n + 1 => grown elem (n + 1) new s m nx K)
    | .slc key o _ true c => (match m.get key with
      | some (.cells cs tot ty) => if n0 + n ≤ c then (if o + n0 * s + new.length ≤ cs.length then
            K (some (.slc key o (n0 + n) true c)) (m.put key (.cells (setRange cs (o + n0 * s) new) tot ty)) nx else .fail "append: cells that are not known") else
          grown elem (n0 + n) (old ++ new) s m nx K
      | _ => .fail "append: no such block")
    | .slc key 0 _ false c => (match m.get key with
      | some (.cells cs tot ty) => if cs.length = n0 * s ∧ ty = elem then .and (.atom (tot = c * s)) (.all Nat fun c' => .imp (n0 + n ≤ c') (K (some (.slc nx 0 (n0 + n) false c')) ((nx, .cells (old ++ new) (c' * s) elem) :: m.drop key) (nx + 1)))
          else .fail "append: another block"
      | _ => .fail "append: no such block")
    | _ => .fail "append: to what")
    else .fail "append: sizes"
  | _, _, _ => .fail "append"
theorem nextcap_le (need c : Nat) (h : c < need) : Builtin.nextslicecap need c ≤ 2 * need := by
  unfold Builtin.nextslicecap
  split
  · omega
  · split
    · omega
    · rename_i h1 h2
      have key : ∀ (r x : Nat), 256 ≤ x → x < need → Builtin.growBy need r x ≤ 2 * need := by
        intro r
        induction r with
        | zero => intro x h3 h4; simp only [Builtin.growBy]; omega
        | succ r ih =>
          intro x h3 h4
          simp only [Builtin.growBy]
          rw [if_neg (by omega)]
          by_cases h5 : x + (x + 768) / 4 < need
          · exact ih _ (by omega) h5
          · cases r with
            | zero => simp only [Builtin.growBy]; omega
            | succ r => simp only [Builtin.growBy]; rw [if_pos (by omega)]; omega
      exact key 4 c (by omega) h

theorem run_drawn {w : World} {P : Program} {q : Question} (hq : q.forced = false) : (choose q).run P w = .ok (q.cut (w.tape w.drawn q)) { w with drawn := w.drawn + 1 } := by
  rw [run_choose, hq]; rfl
def notInt : TypeDesc → Bool
  | .slice _ => true
  | .string => true
  | _ => false
section
variable {P : Program}
theorem append_grow {w : World} {ats : Array TypeId} {ty t0 t1 elem : TypeId} {d : TypeDesc} {s by_ : Nat} {base : Option Addr} {n0 c n : Nat} {x z : Value} {old new : Array Value}
    (h0 : ats[0]? = some t0) (h1 : ats[1]? = some t1) (hd : P.underlying t0 = some (.slice elem)) (hd1 : P.underlying t1 = some d) (hni : notInt d = true) (hs : sz P elem = some s) (hb : bytes P elem = some by_)
    (hz : ∀ w, (zeroValue elem).run P w = .ok z w) (hzs : z.cells.size = s) (hlen : (Builtin.lenOf x).run P w = .ok n w)
    (hold : ∀ k, (Builtin.firstCells s n0 (.slice base n0 c)).run P { w with drawn := k } = .ok old { w with drawn := k }) (hnew : ∀ k, (Builtin.firstCells s n x).run P { w with drawn := k } = .ok new { w with drawn := k })
    (hneed : c < n0 + n) (hbound : 2 * (n0 + n) * by_ ≤ 2 ^ 48) (hsmall : n0 + n < 2 ^ 63) :
    ∃ c' rest, n0 + n ≤ c' ∧ rest.size = (c' - (n0 + n)) * s ∧ (Builtin.append_ ats ty #[.slice base n0 c, x]).run P w =
      .ok (.slice (some ⟨w.heap.size, 0, none⟩) (n0 + n) c') { w with drawn := w.drawn + 1, heap := w.heap.push (.cells (old ++ new ++ rest) elem) } := by
  have hby : ∃ i, P.info? elem = some i ∧ i.bytes = by_ := by
    unfold bytes at hb
    split at hb
    · rename_i i hi; injection hb with hb; exact ⟨i, hi, hb⟩
    · cases hb
  obtain ⟨i, hi, hib⟩ := hby
  have hcap := nextcap_le (n0 + n) c hneed
  have hmul : Builtin.nextslicecap (n0 + n) c * by_ ≤ 2 ^ 48 := Nat.le_trans (Nat.mul_le_mul_right by_ hcap) hbound
  have h2 : ¬ (n0 + n ≤ c) := by omega
  have h3 : ¬ (((n0 + n : Nat) : Int) > 9223372036854775807) := by omega
  have h4 : ¬ (Builtin.nextslicecap (n0 + n) c * by_ > 2 ^ 48) := Nat.not_lt.2 hmul
  refine ⟨(Question.appendCap (n0 + n) c elem).cut (w.tape w.drawn (.appendCap (n0 + n) c elem)), Builtin.zeroCells z.cells ((Question.appendCap (n0 + n) c elem).cut (w.tape w.drawn (.appendCap (n0 + n) c elem)) - (n0 + n)), ?_, ?_, ?_⟩
  · simp only [Question.cut]; omega
  · simp [Builtin.zeroCells, hzs]
  · cases d
    all_goals first | (cases hni; done) | skip
    all_goals
      simp only [Builtin.append_, h0, h1, List.getElem?_toArray, List.getElem?_cons_zero, List.getElem?_cons_succ, Sem.run_bind, run_und hd, Result.andThen_ok, run_sz hs, run_und hd1, Sem.run_pure,
        Bool.false_eq_true, if_false, hlen, Sem.run_ite, h2, run_info hi, hib, imax, h3, false_and, h4, run_drawn (q := .appendCap (n0 + n) c elem) rfl, run_askRoom, hold, Bool.not_false, if_true, hnew, hz, newRow, run_newObj]
theorem append_in {w w' : World} {ats : Array TypeId} {ty t0 t1 elem : TypeId} {d : TypeDesc} {s : Nat} {b o : Nat} {n0 c n : Nat} {x : Value} {new : Array Value}
    (h0 : ats[0]? = some t0) (h1 : ats[1]? = some t1) (hd : P.underlying t0 = some (.slice elem)) (hd1 : P.underlying t1 = some d) (hni : notInt d = true) (hs : sz P elem = some s)
    (hlen : (Builtin.lenOf x).run P w = .ok n w) (hnew : (Builtin.firstCells s n x).run P w = .ok new w) (hneed : n0 + n ≤ c)
    (hst : (storeCells ⟨b, o + n0 * s, none⟩ new.toList).run P w = .ok () w') :
    (Builtin.append_ ats ty #[.slice (some ⟨b, o, none⟩) n0 c, x]).run P w = .ok (.slice (some ⟨b, o, none⟩) (n0 + n) c) w' := by
  cases d
  all_goals first | (cases hni; done) | skip
  all_goals
    simp only [Builtin.append_, h0, h1, List.getElem?_toArray, List.getElem?_cons_zero, List.getElem?_cons_succ, Sem.run_bind, run_und hd, Result.andThen_ok, run_sz hs, run_und hd1, Sem.run_pure,
      Bool.false_eq_true, if_false, hlen, Sem.run_ite, hneed, if_true, hnew, Bool.not_false, add_none, hst]
theorem append_nil {w : World} {ats : Array TypeId} {ty t0 t1 elem : TypeId} {d : TypeDesc} {s : Nat} {x : Value} {new : Array Value}
    (h0 : ats[0]? = some t0) (h1 : ats[1]? = some t1) (hd : P.underlying t0 = some (.slice elem)) (hd1 : P.underlying t1 = some d) (hni : notInt d = true) (hs : sz P elem = some s)
    (hlen : (Builtin.lenOf x).run P w = .ok 0 w) (hnew : (Builtin.firstCells s 0 x).run P w = .ok new w) :
    (Builtin.append_ ats ty #[.slice none 0 0, x]).run P w = .ok (.slice none 0 0) w := by
  cases d
  all_goals first | (cases hni; done) | skip
  all_goals
    simp only [Builtin.append_, h0, h1, List.getElem?_toArray, List.getElem?_cons_zero, List.getElem?_cons_succ, Sem.run_bind, run_und hd, Result.andThen_ok, run_sz hs, run_und hd1, Sem.run_pure,
      Bool.false_eq_true, if_false, hlen, Sem.run_ite, Nat.add_zero, Nat.le_refl, if_true, hnew, Bool.not_false]

theorem srcCells_slc {m : Mem} {s key o n c : Nat} {cl : Bool} {l : List SV} {n0 : Nat} (h : srcCells m s (.slc key o n cl c) = some (l, n0)) : n0 = n := by
  simp only [srcCells] at h
  split at h
  · split at h
    · injection h with h; injection h with _ h; exact h.symm
    · cases h
  · cases h
theorem After.grown {m : Mem} {nx : Nat} {K : KL} {w0 : World} {M0 : Nat → Prop} {E : Nat → Nat} {w : World} (hs : SatM w0 M0 E m nx w) (hw : Mem.wf nx m = true) {elem : TypeId} {need s : Nat} {cs : List SV}
    (hcs : SV.wfs nx cs = true) (hl : cs.length = need * s) (h : (Sx.grown elem need cs s m nx K).holds) {c' : Nat} (hc' : need ≤ c') {rest : Array Value} (hr : rest.size = (c' - need) * s) {a : Array Value} (ha : a.toList = cs.map (SV.val E)) :
    After K w0 M0 E nx (.slice (some ⟨w.heap.size, 0, none⟩) need c') { w with drawn := w.drawn + 1, heap := w.heap.push (.cells (a ++ rest) elem) } := by
  have h' := h c' hc'
  have hs' := hs.drew (w.drawn + 1)
  refine After.alloc (sv := .slc nx 0 need false c') hs' hw hcs (fun i v hv => ?_) ?_ h' (by simp [SV.val])
  · have := map_get (E := E) ha i v hv
    rw [Array.getElem?_append_left (Array.getElem?_eq_some_iff.1 this).1]; exact this
  · rw [Array.size_append, map_size (E := E) ha, hl, hr, ← Nat.add_mul]; congr 1; omega

theorem srcCells_wf {m : Mem} {nx s : Nat} (hw : Mem.wf nx m = true) {x : SV} {l : List SV} {n : Nat} (h : srcCells m s x = some (l, n)) : SV.wfs nx l = true := by
  unfold srcCells at h
  split at h
  · injection h with h; injection h with h1 h2; subst h1; rfl
  · split at h
    · rename_i cs tot ty hk
      split at h
      · rename_i l' hl
        injection h with h; injection h with h1 h2; subst h1
        have hwk := Mem.wf_get hw hk
        simp only [SB.wf] at hwk
        have hg := takeAt_get hl
        have : ∀ (l' : List SV), (∀ (j : Nat) (v : SV), l'[j]? = some v → v.wf nx = true) → SV.wfs nx l' = true := by
          intro l'
          induction l' with
          | nil => intro _; rfl
          | cons x r ih => intro hh; simp only [SV.wfs, Bool.and_eq_true]; exact ⟨hh 0 x rfl, ih fun j v hj => hh (j + 1) v (by simpa using hj)⟩
        exact this l' fun j v hj => SV.wfs_get hwk (hg.2 j v hj)
      · cases h
    · cases h
  · cases h

def lappend (P : Program) (ats : Array TypeId) (x y : SV) (m : Mem) (nx : Nat) (K : KL) : VC :=
  match ats[0]?, ats[1]? with
  | some t0, some t1 => (match P.underlying t0, P.underlying t1 with
    | some (.slice elem), some d => (match sz P elem with
      | some s => (match srcCells m s y with
        | some (new, n) => if notInt d = true then lappendTo P elem s x new n m nx K else .fail "append: make"
        | none => .fail "append: of what")
      | none => .fail "append")
    | _, _ => .fail "append")
  | _, _ => .fail "append"
theorem lappend_ok {m : Mem} {nx : Nat} {ats : Array TypeId} {ty : TypeId} {x y : SV} {K : KL} {w0 : World} {M0 : Nat → Prop} {E : Nat → Nat} {w : World}
    (h : (lappend P ats x y m nx K).holds) (hs : SatM w0 M0 E m nx w) (hw : Mem.wf nx m = true) :
    ∃ r w', (Builtin.append_ ats ty #[x.val E, y.val E]).run P w = .ok r w' ∧ After K w0 M0 E nx r w' := by
  unfold lappend at h
  split at h
  · rename_i t0 t1 h0 h1
    split at h
    · rename_i elem d hd hd1
      split at h
      · rename_i s hsz
        split at h
        · rename_i new n hy
          split at h
          · rename_i hni
            obtain ⟨ylen, ycells, ynum⟩ := srcCells_run (P := P) hs hy
            have hynew := ycells n (Nat.le_refl _)
            rw [List.take_of_length_le (by omega)] at hynew
            unfold lappendTo at h
            split at h
            · rename_i by_ z old n0 hby hz hx
              split at h
              · rename_i hc
                simp only [Bool.and_eq_true, decide_eq_true_eq] at hc
                obtain ⟨⟨⟨⟨⟨g1, g2⟩, g3⟩, g4⟩, g5⟩, g6⟩ := hc
                have hzr : ∀ w : World, (zeroValue elem).run P w = .ok (z.val E) w := fun w => zeroSV_run hz
                have hzs : (z.val E).cells.size = s := by rw [SV.cells_val g1]; simp [g4]
                have hdraw : ∀ k, SatM w0 M0 E m nx { w with drawn := k } := fun k => hs.drew k
                have ydraw : ∀ k, (Builtin.firstCells s n (y.val E)).run P { w with drawn := k } = .ok (SV.vals E new).toArray { w with drawn := k } := fun k => by
                  have := (srcCells_run (P := P) (hdraw k) hy).2.1 n (Nat.le_refl _)
                  rw [List.take_of_length_le (by omega)] at this; exact this
                have oldwf := srcCells_wf hw hx
                obtain ⟨xlen, xcells, xnum⟩ := srcCells_run (P := P) hs hx
                have xdraw : ∀ k, (Builtin.firstCells s n0 (x.val E)).run P { w with drawn := k } = .ok (SV.vals E old).toArray { w with drawn := k } := fun k => by
                  have := (srcCells_run (P := P) (hdraw k) hx).2.1 n0 (Nat.le_refl _)
                  rw [List.take_of_length_le (by omega)] at this; exact this
                split at h
                · -- a nil slice
                  simp only [srcCells] at hx
                  injection hx with hx; injection hx with e1 e2; subst e1; subst e2
                  split at h
                  · exact ⟨_, _, append_nil h0 h1 hd hd1 hni hsz ylen hynew, E, some .nilslc, m, nx, fun _ _ => rfl, Nat.le_refl _, fun v hv => by injection hv with hv; subst hv; rfl, hs, h⟩
                  · rename_i n'
                    obtain ⟨c', rest, q1, q2, q3⟩ := append_grow (w := w) (ty := ty) (base := none) (n0 := 0) (c := 0) h0 h1 hd hd1 hni hsz hby hzr hzs ylen xdraw ydraw (by omega) (by omega) (by omega)
                    refine ⟨_, _, q3, ?_⟩
                    rw [Nat.zero_add] at q1 q2 ⊢
                    exact After.grown hs hw g3 ynum h q1 q2 (by simp [SV.vals_eq, SV.vals])
                · -- a slice whose capacity is known
                  rename_i key o _ c
                  have e0 := srcCells_slc hx
                  subst e0
                  split at h
                  · rename_i cs tot ty' hk
                    split at h
                    · rename_i hle
                      split at h
                      · rename_i hin
                        obtain ⟨w', hrun, haft⟩ := After.write (P := P) (sv := some (.slc key o (n0 + n) true c)) (r := .slice (some ⟨E key, o, none⟩) (n0 + n) c) hs hk (allCells_mem g2) hin
                          (fun v hv => by injection hv with hv; subst hv; rfl) h
                        exact ⟨_, w', append_in h0 h1 hd hd1 hni hsz ylen hynew hle hrun, haft⟩
                      · exact h.elim
                    · rename_i hle
                      obtain ⟨c', rest, q1, q2, q3⟩ := append_grow (w := w) (ty := ty) (base := some ⟨E key, o, none⟩) (n0 := n0) (c := c) h0 h1 hd hd1 hni hsz hby hzr hzs ylen xdraw ydraw (by omega) (by omega) (by omega)
                      exact ⟨_, _, q3, After.grown hs hw (wfs_append oldwf g3) (by simp [xnum, ynum, Nat.add_mul]) h q1 q2 (by simp [SV.vals_eq])⟩
                  · exact h.elim
                · -- a slice whose capacity is not known
                  rename_i key _ c
                  have e0 := srcCells_slc hx
                  subst e0
                  split at h
                  · rename_i cs tot ty' hk
                    split at h
                    · rename_i hcond
                      obtain ⟨hcl, rfl⟩ := hcond
                      obtain ⟨htot, h⟩ := h
                      have htot : tot = c * s := htot
                      by_cases hle : n0 + n ≤ c
                      · -- in place
                        obtain ⟨ob, ho, ca, fr, rfl, hf1, hf2, hf3⟩ := hs.blk key _ hk rfl
                        have hcap : n0 * s + new.length ≤ ca.size := by rw [hf3, htot, ynum, ← Nat.add_mul]; exact Nat.mul_le_mul_right s hle
                        have hrun := storeCells_run (P := P) (o := 0 + n0 * s) (SV.vals E new) 0 w ca ho hf1 (by simp [SV.vals_eq]; omega) (fun v hv' => by
                          rw [SV.vals_eq, List.mem_map] at hv'
                          obtain ⟨u, hu, rfl⟩ := hv'
                          exact SV.isCell_one (allCells_mem g2 u hu))
                        refine ⟨_, _, append_in (o := 0) h0 h1 hd hd1 hni hsz ylen hynew hle hrun, ?_⟩
                        have hold : old = cs := by
                          simp only [srcCells, hk] at hx
                          split at hx
                          · rename_i l hl
                            injection hx with hx; injection hx with e1 _; subst e1
                            have hg := takeAt_get hl
                            apply List.ext_getElem?
                            intro j
                            by_cases hj : j < l.length
                            · have := hg.2 j l[j] (List.getElem?_eq_getElem hj)
                              rw [Nat.zero_add] at this
                              rw [this, List.getElem?_eq_getElem hj]
                            · rw [List.getElem?_eq_none (by omega), List.getElem?_eq_none (by rw [hcl, ← hg.1]; omega)]
                          · cases hx
                        have hkn := hs.lt key _ hk
                        refine ⟨fun j => if j = nx then E key else E j, some (.slc nx 0 (n0 + n) false c), _, _, fun k hk' => by simp [Nat.ne_of_lt hk'], Nat.le_succ _, fun v hv => by injection hv with hv; subst hv; simp [SV.val],
                          hs.move hw hk rfl rfl (B' := .cells (old ++ new) (c * s) ty') ?_, h c hle⟩
                        refine ⟨_, fr, rfl, by rw [setArr_size]; exact hf1, fun i v hi => ?_, by rw [setArr_size, hf3, htot]⟩
                        have hcong : v.val (fun j => if j = nx then E key else E j) = v.val E := SV.val_congr (nx := nx) (fun k hk' => by simp [Nat.ne_of_lt hk']) v (SV.wfs_get (wfs_append oldwf g3) hi)
                        rw [hcong, ← Array.getElem?_toList, setArr_toList]
                        have hcat : ∀ (vs : List Value) (pre post : List Value), vs.length ≤ post.length → setRange (pre ++ post) pre.length vs = pre ++ (vs ++ post.drop vs.length) := by
                          intro vs
                          induction vs with
                          | nil => intro pre post _; simp [setRange]
                          | cons u r ih =>
                            intro pre post hp
                            cases post with
                            | nil => simp at hp
                            | cons q qs =>
                              rw [setRange]
                              have : (pre ++ q :: qs).set pre.length u = (pre ++ [u]) ++ qs := by simp
                              rw [this]
                              have := ih (pre ++ [u]) qs (by simpa using hp)
                              simp only [List.length_append, List.length_singleton] at this
                              rw [this]; simp
                        have hsplit : ca.toList = ca.toList.take (n0 * s) ++ ca.toList.drop (n0 * s) := (List.take_append_drop _ _).symm
                        have hpl : (ca.toList.take (n0 * s)).length = n0 * s := by rw [List.length_take, Array.length_toList]; omega
                        rw [hsplit, show 0 + n0 * s + 0 = (ca.toList.take (n0 * s)).length by rw [hpl]; omega, hcat _ _ _ (by simp [SV.vals_eq]; omega)]
                        rw [List.getElem?_append] at hi ⊢
                        rw [hold, hcl] at hi
                        rw [hpl]
                        split
                        · rename_i hlt
                          rw [if_pos hlt] at hi
                          rw [List.getElem?_take, if_pos hlt, Array.getElem?_toList]
                          exact hf2 i v hi
                        · rename_i hge
                          rw [if_neg hge] at hi
                          have hil : i - n0 * s < new.length := (List.getElem?_eq_some_iff.1 hi).1
                          rw [List.getElem?_append_left (by simpa [SV.vals_eq] using hil), SV.vals_eq, List.getElem?_map, hi]; rfl
                      · obtain ⟨c', rest, q1, q2, q3⟩ := append_grow (w := w) (ty := ty) (base := some ⟨E key, 0, none⟩) (n0 := n0) (c := c) h0 h1 hd hd1 hni hsz hby hzr hzs ylen xdraw ydraw (by omega) (by omega) (by omega)
                        refine ⟨_, _, q3, ?_⟩
                        have hsub : SatM w0 M0 E (m.drop key) nx w := hs.sub (fun k B hk => (Mem.get_drop hk).2) (fun k B hk => hs.lt k B (Mem.get_drop hk).2)
                        refine After.grown (m := m.drop key) hsub (dropwf hw) (wfs_append oldwf g3) (by simp [xnum, ynum, Nat.add_mul]) ?_ q1 q2 (by simp [SV.vals_eq])
                        exact h
                    · exact h.elim
                  · exact h.elim
                · exact h.elim
              · exact h.elim
            · exact h.elim
          · exact h.elim
        · exact h.elim
      · exact h.elim
    · exact h.elim
  · exact h.elim
end
end Go.Proofs.Ytobbhdmbblhgaaa.Sx
