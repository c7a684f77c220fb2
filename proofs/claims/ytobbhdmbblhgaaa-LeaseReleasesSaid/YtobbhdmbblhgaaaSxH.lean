/-
  The framework's eighth part: operations that make or change memory, and calls.
-/
import Derived.Test.YtobbhdmbblhgaaaSxG
namespace Go.Proofs.Ytobbhdmbblhgaaa.Sx
open Go

/-- What an operation's outcome must be. -/
def Out (P : Program) (R : Value → World → Prop) : Result Next → Prop
  | .ok (.value v) w => R v w
  | .ok .skip w => R undef w
  | .ok (.enter f args) w => Calls P f args w fun e w' => ∃ v, e = .returned v ∧ R v w'
  | _ => False
theorem Out.wp {P : Program} {o : Oper} {a : Act} {w : World} {R : Value → World → Prop} {Q : Exit → Act → World → Prop} {K : Act → World → Prop}
    (h : Out P R ((execOp a.eval o).run P w)) (hk : ∀ r w', R r w' → K (a.put o.dst r) w') : o.wp P a w K Q := by
  unfold Oper.wp
  generalize (execOp a.eval o).run P w = x at h
  cases x with
  | ok n w' =>
    cases n <;> simp only [Out] at h <;> simp only [Oper.upon]
    case value v => exact hk _ _ h
    case skip => exact hk _ _ h
    case enter f args =>
      refine Calls.mono h fun e w'' he => ?_
      obtain ⟨v, rfl, hr⟩ := he
      exact hk _ _ hr
  | halt x w' => simp only [Out] at h
theorem Out.mono {P : Program} {R R' : Value → World → Prop} {x : Result Next} (h : Out P R x) (hr : ∀ v w, R v w → R' v w) : Out P R' x := by
  unfold Out at *
  split at h <;> first
    | exact hr _ _ h
    | exact Calls.mono h fun e w' ⟨v, he, hv⟩ => ⟨v, he, hr _ _ hv⟩
    | exact h.elim

abbrev KL := Option SV → Mem → Nat → VC
/-- What is known behind an operation. -/
def After (K : KL) (w0 : World) (M0 : Nat → Prop) (E : Nat → Nat) (nx : Nat) (r : Value) (w' : World) : Prop :=
  ∃ E' sv m' nx', (∀ k, k < nx → E' k = E k) ∧ nx ≤ nx' ∧ (∀ v, sv = some v → r = v.val E') ∧ SatM w0 M0 E' m' nx' w' ∧ (K sv m' nx').holds
def WfS (nx : Nat) (σ : Operand → Option SV) : Prop := ∀ x v, σ x = some v → v.wf nx = true
def LOp (P : Program) (σ : Operand → Option SV) (m : Mem) (nx : Nat) (o : Oper) (t : KL → VC) : Prop :=
  ∀ K w0 M0 E w ρ, (t K).holds → SatM w0 M0 E m nx w → Mem.wf nx m = true → WfS nx σ → Reads E σ ρ → Out P (After K w0 M0 E nx) ((execOp ρ o).run P w)

section
variable {P : Program} {σ : Operand → Option SV} {m : Mem} {nx : Nat} {o : Oper}
theorem LOp.fail (why : String) : LOp P σ m nx o (fun _ => .fail why) := fun _ _ _ _ _ _ h => h.elim
theorem LOp.need {x : Operand} {t : SV → KL → VC} (h : ∀ v, σ x = some v → LOp P σ m nx o (t v)) : LOp P σ m nx o (fun K => need (σ x) (fun v => t v K)) := by
  unfold Sx.need
  cases hx : σ x with
  | none => exact LOp.fail _
  | some v => exact h v hx

/-- The outcome is a new block. -/
theorem After.alloc {K : KL} {w0 : World} {M0 : Nat → Prop} {E : Nat → Nat} {w : World} (hs : SatM w0 M0 E m nx w) (hw : Mem.wf nx m = true) {cs : List SV} {tot : Nat} {ty : TypeId}
    {sv : SV} {c : Array Value} (hcs : SV.wfs nx cs = true) (hc : ∀ (i : Nat) (v : SV), cs[i]? = some v → c[i]? = some (v.val E)) (hm : c.size = tot)
    (hk : (K (some sv) ((nx, .cells cs tot ty) :: m) (nx + 1)).holds) {r : Value} (hr : r = sv.val (fun k => if k = nx then w.heap.size else E k)) :
    After K w0 M0 E nx r { w with heap := w.heap.push (.cells c ty) } := by
  have hE : ∀ k, k < nx → (fun k => if k = nx then w.heap.size else E k) k = E k := fun k hk => by simp [Nat.ne_of_lt hk]
  refine ⟨_, some sv, _, _, hE, Nat.le_succ _, fun v hv => by injection hv with hv; subst hv; exact hr, hs.alloc hw (B := .cells cs tot ty) ?_, hk⟩
  refine ⟨c, (0, 0), rfl, fun i => .inr (by simp), fun i v hv => ?_, hm⟩
  rw [SV.val_congr hE v (SV.wfs_get hcs hv)]; exact hc i v hv

theorem ofCells_wf {nx : Nat} : ∀ {l : List Value} {xs : List SV}, SV.ofCells l = some xs → SV.wfs nx xs = true
  | [], xs, h => by simp [SV.ofCells] at h; subst h; rfl
  | v :: r, xs, h => by
    simp only [SV.ofCells] at h
    split at h
    · rename_i x l' hx hl
      injection h with h; subst h
      simp only [SV.wfs, ofCells_wf hl, Bool.and_true]
      unfold SV.ofCell at hx
      split at hx <;> first | (injection hx with hx; subst hx; rfl) | cases hx
    · cases h
theorem ofConst_wf {nx : Nat} {v : Value} {x : SV} (h : SV.ofConst v = some x) : x.wf nx = true := by
  unfold SV.ofConst at h
  split at h
  · split at h
    · rename_i l hl; injection h with h; subst h; exact ofCells_wf hl
    · cases h
  · unfold SV.ofCell at h
    split at h <;> first | (injection h with h; subst h; rfl) | cases h
theorem zeroSV_wf {nx : Nat} {t : TypeId} {v : SV} (h : zeroSV P t = some v) : v.wf nx = true := by
  unfold zeroSV at h
  split at h
  · split at h
    · exact ofConst_wf h
    · cases h
  · cases h
theorem cells_wf {nx : Nat} {v : SV} (h : v.wf nx = true) : SV.wfs nx v.cells = true := by
  cases v <;> simp_all [SV.cells, SV.wf, SV.wfs]
theorem map_get {E : Nat → Nat} {l : List SV} {c : Array Value} (hc : c.toList = l.map (SV.val E)) : ∀ (i : Nat) (v : SV), l[i]? = some v → c[i]? = some (v.val E) := by
  intro i v hv
  rw [← Array.getElem?_toList, hc, List.getElem?_map, hv]; rfl
theorem map_size {E : Nat → Nat} {l : List SV} {c : Array Value} (hc : c.toList = l.map (SV.val E)) : c.size = l.length := by
  rw [← Array.length_toList, hc, List.length_map]

/-! ### new(T), &T{..}, []T{..}, make([]T, n) -/
def lnew (ty : TypeId) (v : SV) (m : Mem) (nx : Nat) (K : KL) : VC :=
  match v.plain with
  | true => K (some (.ptr nx true 0)) ((nx, .cells v.cells v.cells.length ty) :: m) (nx + 1)
  | false => .fail "new: a value that is not known"
def lslice (elem : TypeId) (cs : List SV) (n : Nat) (m : Mem) (nx : Nat) (K : KL) : VC :=
  K (some (.slc nx 0 n true n)) ((nx, .cells cs cs.length elem) :: m) (nx + 1)
theorem newVar_run {w : World} {t : TypeId} {v : Value} : (newVar t v).run P w = .ok ⟨w.heap.size, 0, none⟩ { w with heap := w.heap.push (.cells v.cells t) } := by
  simp [newVar, newRow]
theorem lalloc_ok {dst : Option Tmp} {t type : TypeId} {pos : String} {after : Array Edge} {guard : Option (Nat × Bool)} :
    LOp P σ m nx ⟨dst, .alloc t, type, pos, after, guard⟩ (fun K => match zeroSV P t with | some z => lnew t z m nx K | none => .fail "alloc") := by
  intro K w0 M0 E w ρ h hs hw hσ hr
  split at h
  · rename_i z hz
    unfold lnew at h
    split at h
    · rename_i hp
      simp only [execOp, Instr.alloc, Sem.run_bind, zeroSV_run (E := E) hz, Result.andThen_ok, newVar_run, Sem.run_pure, Out]
      exact After.alloc hs hw (cells_wf (zeroSV_wf hz)) (map_get (by rw [SV.cells_val hp])) (map_size (E := E) (by rw [SV.cells_val hp])) h (by simp [SV.val])
    · exact h.elim
  · exact h.elim
theorem lbox_ok {dst : Option Tmp} {t type : TypeId} {pos : String} {after : Array Edge} {guard : Option (Nat × Bool)} {x : Operand} :
    LOp P σ m nx ⟨dst, .box t x, type, pos, after, guard⟩ (fun K => need (σ x) (fun v => lnew t v m nx K)) := by
  refine LOp.need fun v hv => ?_
  intro K w0 M0 E w ρ h hs hw hσ hr
  unfold lnew at h
  split at h
  · rename_i hp
    simp only [execOp, Instr.box, Sem.run_bind, Result.andThen_ok, newVar_run, Sem.run_pure, Out]
    exact After.alloc hs hw (cells_wf (hσ _ _ hv)) (map_get (by rw [hr _ _ hv, SV.cells_val hp])) (map_size (E := E) (by rw [hr _ _ hv, SV.cells_val hp])) h (by simp [SV.val])
  · exact h.elim
/-- n times the same cells. -/
def times (n : Nat) (zs : List SV) : List SV := match n with
  | 0 => []
  | n + 1 => zs ++ times n zs
theorem times_range {E : Nat → Nat} {zs : List SV} {z : Array Value} (hz : z.toList = zs.map (SV.val E)) (hne : z.size ≠ 0) : ∀ n : Nat,
    ((Array.range (n * z.size)).map fun i => z[i % z.size]!).toList = (times n zs).map (SV.val E)
  | 0 => by simp [times]
  | n + 1 => by
    have ih := times_range hz hne n
    simp only [Array.toList_map, Array.toList_range] at ih ⊢
    rw [show (n + 1) * z.size = z.size + n * z.size by rw [Nat.add_mul]; omega, List.range_add, List.map_append, times, List.map_append, ← ih]
    congr 1
    · rw [← hz]
      apply List.ext_getElem?
      intro i
      rw [List.getElem?_map]
      by_cases hi : i < z.size
      · rw [List.getElem?_range hi]
        simp [Nat.mod_eq_of_lt hi, hi]
      · rw [List.getElem?_eq_none (by simp; omega), List.getElem?_eq_none (by simp; omega)]; rfl
    · rw [List.map_map]
      apply List.map_congr_left
      intro i _
      simp
theorem times_wf {nx : Nat} {zs : List SV} (h : SV.wfs nx zs = true) : ∀ n, SV.wfs nx (times n zs) = true
  | 0 => rfl
  | n + 1 => by
    have ih := times_wf h n
    simp only [times]
    have app : ∀ {a b : List SV}, SV.wfs nx a = true → SV.wfs nx b = true → SV.wfs nx (a ++ b) = true := by
      intro a
      induction a with
      | nil => intro b _ hb; exact hb
      | cons x r ihr => intro b ha hb; simp only [SV.wfs, Bool.and_eq_true, List.cons_append] at ha ⊢; exact ⟨ha.1, ihr ha.2 hb⟩
    exact app h ih
theorem wfs_append {nx : Nat} : ∀ {a b : List SV}, SV.wfs nx a = true → SV.wfs nx b = true → SV.wfs nx (a ++ b) = true
  | [], _, _, hb => hb
  | x :: r, b, ha, hb => by simp only [SV.wfs, Bool.and_eq_true, List.cons_append] at ha ⊢; exact ⟨ha.1, wfs_append ha.2 hb⟩
theorem wfs_set {nx : Nat} : ∀ {a : List SV} {i : Nat} {v : SV}, SV.wfs nx a = true → v.wf nx = true → SV.wfs nx (a.set i v) = true
  | [], _, _, _, _ => rfl
  | x :: r, 0, v, ha, hv => by simp only [SV.wfs, Bool.and_eq_true, List.set_cons_zero] at ha ⊢; exact ⟨hv, ha.2⟩
  | x :: r, i + 1, v, ha, hv => by simp only [SV.wfs, Bool.and_eq_true, List.set_cons_succ] at ha ⊢; exact ⟨ha.1, wfs_set ha.2 hv⟩
theorem wfs_setRange {nx : Nat} : ∀ {vs cs : List SV} {off : Nat}, SV.wfs nx cs = true → SV.wfs nx vs = true → SV.wfs nx (setRange cs off vs) = true
  | [], _, _, hc, _ => hc
  | v :: r, cs, off, hc, hv => by
    simp only [SV.wfs, Bool.and_eq_true] at hv
    rw [setRange]
    exact wfs_setRange (wfs_set hc hv.1) hv.2
theorem fillS_wf {nx : Nat} {place : Nat → Option (Nat × Nat)} : ∀ {parts : List (Nat × SV)} {cells out : List SV}, fillS place cells parts = some out → SV.wfs nx cells = true →
    (∀ p ∈ parts, p.2.wf nx = true) → SV.wfs nx out = true
  | [], cells, out, h, hc, _ => by simp [fillS] at h; subst h; exact hc
  | (i, v) :: rest, cells, out, h, hc, hp => by
    simp only [fillS] at h
    split at h
    · cases h
    · split at h
      · exact fillS_wf h (wfs_setRange hc (cells_wf (hp (i, v) (by simp)))) (fun p hm => hp p (by simp [hm]))
      · cases h
theorem partsOf_wf {nx : Nat} {σ : Operand → Option SV} (hσ : WfS nx σ) : ∀ {ps : List (Nat × Operand)} {l : List (Nat × SV)}, partsOf σ ps = some l → ∀ p ∈ l, p.2.wf nx = true
  | [], l, h, p, hp => by simp [partsOf] at h; subst h; cases hp
  | (i, x) :: r, l, h, p, hp => by
    simp only [partsOf] at h
    split at h
    · rename_i v l' hv hl
      injection h with h; subst h
      cases hp with
      | head => exact hσ x v hv
      | tail _ hp => exact partsOf_wf hσ hl p hp
    · cases h
def lbuildSlice (P : Program) (σ : Operand → Option SV) (t : TypeId) (len : Nat) (parts : List (Nat × Operand)) (m : Mem) (nx : Nat) (K : KL) : VC :=
  match P.underlying t with
  | some (.slice e) => (match sz P e, zeroSV P e, partsOf σ parts with
    | some s, some z, some ps => if z.plain && decide (z.cells.length = s) && decide (len * s ≤ 16777216) && decide (s ≠ 0) then (match fillS (fun i => some (i * s, s)) (times len z.cells) ps with
        | some out => lslice e out len m nx K
        | none => .fail "buildSlice: fill") else .fail "buildSlice: size"
    | _, _, _ => .fail "buildSlice")
  | _ => .fail "buildSlice"
theorem lbuildSlice_ok {dst : Option Tmp} {t type : TypeId} {pos : String} {after : Array Edge} {guard : Option (Nat × Bool)} {len : Nat} {parts : Array (Nat × Operand)} :
    LOp P σ m nx ⟨dst, .buildSlice t len parts, type, pos, after, guard⟩ (lbuildSlice P σ t len parts.toList m nx) := by
  intro K w0 M0 E w ρ h hs hw hσ hr
  unfold lbuildSlice at h
  split at h
  · rename_i e hd
    split at h
    · rename_i s z ps hsz hz hp
      split at h
      · rename_i hc
        simp only [Bool.and_eq_true, decide_eq_true_eq] at hc
        obtain ⟨⟨⟨h1, h2⟩, h3⟩, h4⟩ := hc
        split at h
        · rename_i out hf
          unfold lslice at h
          have hzc := SV.cells_val (E := E) h1
          have hzs : (z.val E).cells.size = s := by rw [hzc]; simp [h2]
          have hfill := fillS_run (E := E) ps _ out hf
          have hpp : (parts.map fun (x : Nat × Operand) => (x.1, ρ x.2)).toList = ps.map fun p => (p.1, p.2.val E) := by rw [← partsOf_val hr hp]; simp
          have fin : ∀ z' : Array Value, ((Array.range (len * s)).map fun i => z'[i % z'.size]!) = (SV.vals E (times len z.cells)).toArray →
              Out P (After K w0 M0 E nx) ((match Instr.fill (fun i => some (i * s, s)) ((Array.range (len * s)).map fun i => z'[i % z'.size]!) (parts.map fun (x : Nat × Operand) => (x.1, ρ x.2)).toList with
                | some cells => do
                  let r ← newRow e cells
                  pure (Value.slice (some r) len len)
                | _ => stuck "buildSlice: a part of the wrong size" : Sem Value).run P w |>.andThen fun a w' => (pure (Next.value a) : Sem Next).run P w') := by
            intro z' hz'
            rw [hz', hpp, hfill]
            simp only [Result.andThen_ok, Sem.run_bind, newRow, run_newObj, Sem.run_pure, Out]
            exact After.alloc hs hw (fillS_wf hf (times_wf (cells_wf (zeroSV_wf hz)) len) (partsOf_wf hσ hp)) (map_get (by simp [SV.vals_eq])) (map_size (E := E) (by simp [SV.vals_eq])) h (by simp [SV.val])
          simp only [execOp, Instr.buildSlice, Sem.run_bind, run_und hd, Result.andThen_ok, run_sz hsz, Sem.run_ite]
          rw [if_neg (by omega)]
          by_cases h0 : len * s = 0
          · rw [if_pos h0]
            simp only [Sem.run_pure, Result.andThen_ok]
            refine fin #[] ?_
            have : len = 0 := by rcases Nat.mul_eq_zero.1 h0 with h | h; exact h; exact absurd h h4
            subst this; simp [times, SV.vals]
          · rw [if_neg h0]
            simp only [zeroSV_run (E := E) hz, Sem.run_pure, Result.andThen_ok]
            refine fin _ ?_
            apply Array.ext'
            have := times_range (E := E) (zs := z.cells) (z := (z.val E).cells) (by rw [hzc]) (by rw [hzs]; exact h4) len
            rw [hzs] at this
            rw [SV.vals_eq]
            simpa [hzs] using this
        · exact h.elim
      · exact h.elim
    · exact h.elim
  · exact h.elim
end
end Go.Proofs.Ytobbhdmbblhgaaa.Sx
