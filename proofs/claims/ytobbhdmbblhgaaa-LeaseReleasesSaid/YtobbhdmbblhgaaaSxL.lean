/-
  The framework's twelfth part: one operation of a region; a region in the text's order.
-/
import Derived.Test.YtobbhdmbblhgaaaSxK
namespace Go.Proofs.Ytobbhdmbblhgaaa.Sx
open Go

structure St where
  tmps : List (Option SV)
  m : Mem
  nx : Nat

def slot (tmps : List (Option SV)) (i : Nat) : Option SV :=
  match tmps, i with
  | [], _ => none
  | v :: _, 0 => v
  | _ :: r, i + 1 => slot r i
theorem slot_eq : ∀ {tmps : List (Option SV)} {i : Nat} {v : SV}, slot tmps i = some v → tmps[i]? = some (some v)
  | [], _, _, h => by simp [slot] at h
  | x :: _, 0, v, h => by simp [slot] at h; simp [h]
  | _ :: r, i + 1, v, h => by simp [slot] at h; simpa using slot_eq h
def ev (tmps : List (Option SV)) : Operand → Option SV
  | .tmp i => slot tmps i
  | .const v => SV.ofConst v
  | .global g => some (.raw (.pointer (some ⟨g, 0, none⟩)))
  | .func f => some (.func (.func f) [] [])
def wfTmps (nx : Nat) : List (Option SV) → Bool
  | [] => true
  | none :: r => wfTmps nx r
  | some v :: r => v.wf nx && wfTmps nx r
theorem wfTmps_get {nx : Nat} : ∀ {l : List (Option SV)}, wfTmps nx l = true → ∀ {i : Nat} {v : SV}, l[i]? = some (some v) → v.wf nx = true
  | none :: r, h, 0, v, hv => by simp at hv
  | some x :: r, h, 0, v, hv => by simp at hv; subst hv; simp only [wfTmps, Bool.and_eq_true] at h; exact h.1
  | none :: r, h, i + 1, v, hv => wfTmps_get (l := r) (by simpa [wfTmps] using h) (i := i) (by simpa using hv)
  | some x :: r, h, i + 1, v, hv => wfTmps_get (l := r) (by simp only [wfTmps, Bool.and_eq_true] at h; exact h.2) (i := i) (by simpa using hv)

structure TmpsOk (E : Nat → Nat) (tmps : List (Option SV)) (a : Act) : Prop where
  size : a.tmps.size = tmps.length
  val : ∀ (i : Nat) (v : SV), tmps[i]? = some (some v) → a.tmps[i]? = some (v.val E)
theorem TmpsOk.reads {E : Nat → Nat} {tmps : List (Option SV)} {a : Act} (h : TmpsOk E tmps a) : Reads E (ev tmps) a.eval := by
  intro x v hx
  cases x with
  | tmp i =>
    have := h.val i v (slot_eq hx)
    simp [Act.eval, Array.getD_eq_getD_getElem?, this]
  | const c => exact (SV.ofConst_val hx).symm
  | global g => simp [ev] at hx; subst hx; rfl
  | func f => simp [ev] at hx; subst hx; rfl
theorem TmpsOk.wf {nx : Nat} {tmps : List (Option SV)} (h : wfTmps nx tmps = true) : WfS nx (ev tmps) := by
  intro x v hx
  cases x with
  | tmp i => exact wfTmps_get h (slot_eq hx)
  | const c => exact ofConst_wf hx
  | global g => simp [ev] at hx; subst hx; rfl
  | func f => simp [ev] at hx; subst hx; rfl
theorem TmpsOk.congr {E E' : Nat → Nat} {nx : Nat} {tmps : List (Option SV)} {a : Act} (h : TmpsOk E tmps a) (hw : wfTmps nx tmps = true) (hE : ∀ k, k < nx → E' k = E k) : TmpsOk E' tmps a :=
  ⟨h.size, fun i v hv => by rw [SV.val_congr hE v (wfTmps_get hw hv)]; exact h.val i v hv⟩
def setSlot (tmps : List (Option SV)) (dst : Option Nat) (v : Option SV) : List (Option SV) :=
  match dst with
  | none => tmps
  | some d => tmps.set d v
theorem TmpsOk.put {E : Nat → Nat} {tmps : List (Option SV)} {a : Act} (h : TmpsOk E tmps a) {dst : Option Nat} {sv : Option SV} {r : Value} (hr : ∀ v, sv = some v → r = v.val E) :
    TmpsOk E (setSlot tmps dst sv) (a.put dst r) := by
  cases dst with
  | none => exact h
  | some d =>
    refine ⟨by simp [Act.put, setSlot, h.size], fun i v hv => ?_⟩
    simp only [setSlot] at hv
    rw [List.getElem?_set] at hv
    simp only [Act.put]
    rw [Array.getElem?_setIfInBounds]
    split at hv
    · rename_i e; subst e
      split at hv
      · rename_i hlt
        injection hv with hv
        rw [if_pos rfl, if_pos (by rw [h.size]; exact hlt), hr v hv]
      · cases hv
    · rename_i e
      rw [if_neg e]; exact h.val i v hv

theorem wfTmps_set {nx : Nat} : ∀ {l : List (Option SV)} {d : Nat} {v : Option SV}, wfTmps nx l = true → (∀ u, v = some u → u.wf nx = true) → wfTmps nx (l.set d v) = true
  | [], _, _, h, _ => h
  | none :: r, 0, none, h, hv => h
  | none :: r, 0, some u, h, hv => by simp only [List.set_cons_zero, wfTmps, Bool.and_eq_true]; exact ⟨hv u rfl, h⟩
  | some x :: r, 0, none, h, hv => by simp only [wfTmps, Bool.and_eq_true] at h; exact h.2
  | some x :: r, 0, some u, h, hv => by simp only [wfTmps, Bool.and_eq_true, List.set_cons_zero] at h ⊢; exact ⟨hv u rfl, h.2⟩
  | none :: r, d + 1, v, h, hv => wfTmps_set (l := r) h hv
  | some x :: r, d + 1, v, h, hv => by simp only [wfTmps, Bool.and_eq_true, List.set_cons_succ] at h ⊢; exact ⟨h.1, wfTmps_set h.2 hv⟩
theorem wfTmps_mono {n m : Nat} (h : n ≤ m) : ∀ {l : List (Option SV)}, wfTmps n l = true → wfTmps m l = true
  | [], _ => rfl
  | none :: r, hl => wfTmps_mono h (l := r) hl
  | some x :: r, hl => by simp only [wfTmps, Bool.and_eq_true] at hl ⊢; exact ⟨SV.wf_mono h x hl.1, wfTmps_mono h hl.2⟩
theorem wfTmps_setSlot {nx : Nat} {l : List (Option SV)} {dst : Option Nat} {v : Option SV} (h : wfTmps nx l = true) (hv : ∀ u, v = some u → u.wf nx = true) : wfTmps nx (setSlot l dst v) = true := by
  cases dst with
  | none => exact h
  | some d => exact wfTmps_set h hv
def wfO (nx : Nat) : Option SV → Bool
  | none => true
  | some v => v.wf nx
theorem wfO_spec {nx : Nat} {v : Option SV} (h : wfO nx v = true) : ∀ u, v = some u → u.wf nx = true := by rintro u rfl; exact h

structure Sat (w0 : World) (M0 : Nat → Prop) (E : Nat → Nat) (st : St) (a : Act) (w : World) : Prop where
  tm : TmpsOk E st.tmps a
  wt : wfTmps st.nx st.tmps = true
  df : a.defers = []
  mm : SatM w0 M0 E st.m st.nx w

/-! ### One operation -/
/-- Is it carried out? -/
def guardOf (ops : Array Oper) (o : Oper) (tmps : List (Option SV)) : Option Bool :=
  match o.guard with
  | none => some true
  | some (j, want) => (match ops[j]? with
    | some oj => (match oj.dst with
      | some d => (match slot tmps d with
        | some (.bool true b) => some (b == want)
        | some (.tup []) => some false
        | _ => none)
      | none => none)
    | none => none)
theorem guardOf_wanted {E : Nat → Nat} {ops : Array Oper} {o : Oper} {tmps : List (Option SV)} {a : Act} (h : TmpsOk E tmps a) {b : Bool} (hg : guardOf ops o tmps = some b) :
    Region.wanted o (yielded ops a.tmps) = b := by
  unfold guardOf at hg
  unfold Region.wanted
  split at hg
  · rename_i e; rw [e]; injection hg
  · rename_i j want e
    rw [e]
    split at hg
    · rename_i oj hj
      split at hg
      · rename_i d hd
        split at hg
        · rename_i c hc
          have := h.val d _ (slot_eq hc)
          injection hg with hg; subst hg
          simp [yielded, hj, hd, this, SV.val]
        · rename_i hc
          have := h.val d _ (slot_eq hc)
          injection hg with hg; subst hg
          simp [yielded, hj, hd, this, SV.val]
        · cases hg
      · cases hg
    · cases hg
/-- Is it another one's guard? -/
def isGuard (ops : Array Oper) (j : Nat) : Bool := ops.toList.any fun o => match o.guard with
  | some (i, _) => Nat.beq i j
  | none => false
def putV (g : Bool) (v : Option SV) (nx : Nat) (k : Option SV → VC) : VC :=
  match g, v with
  | true, some (.bool false b) => fork b (fun c => k (some (.bool true c)))
  | _, v => match wfO nx v with
    | true => k v
    | false => .fail "a key out of bounds"
def putK (g : Bool) (dst : Option Nat) (v : Option SV) (tmps : List (Option SV)) (m : Mem) (nx : Nat) (K : St → VC) : VC :=
  putV g v nx (fun v => K ⟨setSlot tmps dst v, m, nx⟩)
theorem putV_iff (g : Bool) (v : Option SV) (nx : Nat) : ∃ (p : Prop) (u : Option SV), (∀ k, (putV g v nx k).holds ↔ p ∧ (k u).holds) ∧ (p → wfO nx u = true) ∧ (∀ (E : Nat → Nat) (r : Value), (∀ x, v = some x → r = x.val E) → ∀ x, u = some x → r = x.val E) := by
  unfold putV
  split
  · rename_i b
    exact ⟨True, some (.bool true b), fun k => by rw [fork_iff]; exact ⟨fun h => ⟨trivial, h⟩, fun h => h.2⟩, fun _ => rfl, fun E r h x hx => by injection hx with hx; subst hx; exact h (.bool false b) rfl⟩
  · cases hw : wfO nx v with
    | true => exact ⟨True, v, fun k => ⟨fun h => ⟨trivial, h⟩, fun h => h.2⟩, fun _ => hw, fun E r h => h⟩
    | false => exact ⟨False, none, fun k => ⟨fun h => h.elim, fun h => h.1.elim⟩, fun h => h.elim, fun E r h x hx => by cases hx⟩
def lop (P : Program) (call : FuncId → PT) (σ : Operand → Option SV) (m : Mem) (nx : Nat) (o : Op) (K : KL) : VC :=
  match o with
  | .alloc t => (match zeroSV P t with
    | some z => lnew t z m nx K
    | none => .fail "alloc")
  | .box t x => need (σ x) (fun v => lnew t v m nx K)
  | .buildSlice t len parts => lbuildSlice P σ t len parts.toList m nx K
  | .makeSlice t x y => need (σ x) (fun a => need (σ y) (fun b => lmake P t a b m nx K))
  | .store t a x => lstore P t (σ a) (σ x) m nx K
  | .call c => lcall P call σ c m nx K
  | _ => .fail "no such operation"
theorem lop_ok {P : Program} {call : FuncId → PT} (hcall : ∀ f, CallOk P f (call f)) {σ : Operand → Option SV} {m : Mem} {nx : Nat} (o : Oper) : LOp P σ m nx o (lop P call σ m nx o.op) := by
  obtain ⟨dst, op, type, pos, after, guard⟩ := o
  cases op
  case alloc t => exact lalloc_ok
  case box t x => exact lbox_ok
  case buildSlice t len parts => exact lbuildSlice_ok
  case makeSlice t x y => exact lmake_ok
  case store t a x => exact lstore_ok
  case call c => exact lcall_ok hcall
  all_goals exact LOp.fail _
def stepOp (P : Program) (call : FuncId → PT) (ops : Array Oper) (j : Nat) (o : Oper) (K : St → VC) (st : St) : VC :=
  match guardOf ops o st.tmps with
  | some true => (match isQuiet P o.op with
    | true => qop P (fun k => st.m.get k) (ev st.tmps) o.op (fun v => putK (isGuard ops j) o.dst v st.tmps st.m st.nx K)
    | false => (match Mem.wf st.nx st.m with
      | true => lop P call (ev st.tmps) st.m st.nx o.op (fun v m nx => putK (isGuard ops j) o.dst v st.tmps m nx K)
      | false => .fail "a key out of bounds"))
  | some false => K ⟨setSlot st.tmps o.dst (some (.tup [])), st.m, st.nx⟩
  | none => .fail "a guard that is not known"

/-- What holds behind: some state, of which K holds. -/
def Behind (K : St → VC) (w0 : World) (M0 : Nat → Prop) (E : Nat → Nat) (nx : Nat) (a : Act) (w : World) : Prop :=
  ∃ E' st', (∀ k, k < nx → E' k = E k) ∧ nx ≤ st'.nx ∧ Sat w0 M0 E' st' a w ∧ (K st').holds
theorem Behind.trans {K K' : St → VC} {w0 : World} {M0 : Nat → Prop} {E : Nat → Nat} {nx : Nat} {a : Act} {w : World} (h : Behind K w0 M0 E nx a w)
    (hk : ∀ E' st', nx ≤ st'.nx → Sat w0 M0 E' st' a w → (K st').holds → Behind K' w0 M0 E' st'.nx a w) : Behind K' w0 M0 E nx a w := by
  obtain ⟨E', st', h1, h2, h3, h4⟩ := h
  obtain ⟨E'', st'', k1, k2, k3, k4⟩ := hk E' st' h2 h3 h4
  exact ⟨E'', st'', fun k hk => (k1 k (Nat.lt_of_lt_of_le hk h2)).trans (h1 k hk), Nat.le_trans h2 k2, k3, k4⟩
theorem putK_sound {K : St → VC} {w0 : World} {M0 : Nat → Prop} {E : Nat → Nat} {nx : Nat} {g : Bool} {dst : Option Nat} {sv : Option SV} {tmps : List (Option SV)} {m : Mem} {a : Act} {w : World} {r : Value}
    (h : (putK g dst sv tmps m nx K).holds) (ht : TmpsOk E tmps a) (hw : wfTmps nx tmps = true) (hd : a.defers = []) (hm : SatM w0 M0 E m nx w) (hr : ∀ v, sv = some v → r = v.val E) :
    Behind K w0 M0 E nx (a.put dst r) w := by
  have hdf : (a.put dst r).defers = [] := by cases dst <;> exact hd
  obtain ⟨p, u, h1, h2, h3⟩ := putV_iff g sv nx
  obtain ⟨hp, hk⟩ := (h1 _).1 h
  exact ⟨E, _, fun _ _ => rfl, Nat.le_refl _, ⟨ht.put (h3 E r hr), wfTmps_setSlot hw (wfO_spec (h2 hp)), hdf, hm⟩, hk⟩
theorem stepOp_sound {P : Program} {call : FuncId → PT} (hcall : ∀ f, CallOk P f (call f)) {ops : Array Oper} {j : Nat} {o : Oper} {K : St → VC} {st : St} (h : (stepOp P call ops j o K st).holds)
    {w0 : World} {M0 : Nat → Prop} {E : Nat → Nat} {a : Act} {w : World} (hs : Sat w0 M0 E st a w) (Q : Exit → Act → World → Prop) :
    if Region.wanted o (yielded ops a.tmps) then o.wp P a w (Behind K w0 M0 E st.nx) Q else Behind K w0 M0 E st.nx (a.put o.dst undef) w := by
  unfold stepOp at h
  split at h
  · rename_i hg
    rw [guardOf_wanted hs.tm hg, if_pos rfl]
    split at h
    · obtain ⟨obl, sv, h1, h2⟩ := qop_ok (P := P) (look := fun k => st.m.get k) (σ := ev st.tmps) o
      obtain ⟨hobl, hk⟩ := (h1 _).1 h
      obtain ⟨r, hrun, hv⟩ := h2 E w a.eval hs.mm.blk hs.tm.reads hobl
      refine Out.wp (R := fun v w' => w' = w ∧ v = r) ?_ ?_
      · rw [hrun]; exact ⟨rfl, rfl⟩
      · rintro v w' ⟨rfl, rfl⟩
        exact putK_sound hk hs.tm hs.wt hs.df hs.mm hv
    · split at h
      · rename_i hwf
        have := lop_ok hcall o _ w0 M0 E w a.eval h hs.mm hwf (TmpsOk.wf hs.wt) hs.tm.reads
        refine Out.wp this ?_
        rintro r w' ⟨E', sv, m', nx', g1, g2, g3, g4, g5⟩
        have ht := hs.tm.congr hs.wt g1
        obtain ⟨E'', st', k1, k2, k3, k4⟩ := putK_sound g5 ht (wfTmps_mono g2 hs.wt) hs.df g4 g3
        exact ⟨E'', st', fun k hk => (k1 k (Nat.lt_of_lt_of_le hk g2)).trans (g1 k hk), Nat.le_trans g2 k2, k3, k4⟩
      · exact h.elim
  · rename_i hg
    rw [guardOf_wanted hs.tm hg]
    simp only [Bool.false_eq_true, if_false]
    exact ⟨E, ⟨setSlot st.tmps o.dst (some (.tup [])), st.m, st.nx⟩, fun _ _ => rfl, Nat.le_refl _, ⟨hs.tm.put (sv := some (.tup [])) (r := undef) (fun v hv => by injection hv with hv; subst hv; rfl), wfTmps_setSlot hs.wt (fun u hu => by injection hu with hu; subst hu; rfl), by cases o.dst <;> exact hs.df, hs.mm⟩, h⟩
  · exact h.elim

/-! ### A region in the text's order -/
def seqOps (P : Program) (call : FuncId → PT) (ops : Array Oper) : List Nat → (St → VC) → St → VC
  | [], K, st => K st
  | j :: r, K, st => match ops[j]? with
    | some o => stepOp P call ops j o (seqOps P call ops r K) st
    | none => .fail "no operation"
theorem seqOps_sound {P : Program} {call : FuncId → PT} (hcall : ∀ f, CallOk P f (call f)) {ops : Array Oper} {Q : Exit → Act → World → Prop} {w0 : World} {M0 : Nat → Prop} {K : St → VC} :
    ∀ (l : List Nat) {st : St} {E : Nat → Nat} {a : Act} {w : World}, (seqOps P call ops l K st).holds → Sat w0 M0 E st a w →
      (∀ a w, Behind K w0 M0 E st.nx a w → Q .normal a w) → wpOps P ops Q l a w
  | [], st, E, a, w, h, hs, hQ => hQ _ _ ⟨E, st, fun _ _ => rfl, Nat.le_refl _, hs, h⟩
  | j :: r, st, E, a, w, h, hs, hQ => by
    rw [wpOps_cons]
    unfold wpOp
    simp only [seqOps] at h
    cases ho : ops[j]? with
    | none => rw [ho] at h; exact h.elim
    | some o =>
      rw [ho] at h
      simp only
      have hstep := stepOp_sound hcall h hs Q
      have go : ∀ a' w', Behind (seqOps P call ops r K) w0 M0 E st.nx a' w' → wpOps P ops Q r a' w' := by
        rintro a' w' ⟨E', st', g1, g2, g3, g4⟩
        refine seqOps_sound hcall r g4 g3 fun a'' w'' hb => hQ a'' w'' ?_
        obtain ⟨E'', st'', k1, k2, k3, k4⟩ := hb
        exact ⟨E'', st'', fun k hk => (k1 k (Nat.lt_of_lt_of_le hk g2)).trans (g1 k hk), Nat.le_trans g2 k2, k3, k4⟩
      split
      · rename_i hw
        rw [if_pos hw] at hstep
        exact .inl (Oper.wp_mono go hstep)
      · rename_i hw
        rw [if_neg hw] at hstep
        exact go _ _ hstep
end Go.Proofs.Ytobbhdmbblhgaaa.Sx
