/-
  The framework's eleventh part: copy, make, calls; 'lop'.
-/
import Derived.Test.YtobbhdmbblhgaaaSxP
namespace Go.Proofs.Ytobbhdmbblhgaaa.Sx
open Go

section
variable {P : Program} {σ : Operand → Option SV} {m : Mem} {nx : Nat}

/-! ### copy -/
def lcopy (P : Program) (ats : Array TypeId) (x y : SV) (m : Mem) (nx : Nat) (K : KL) : VC :=
  match ats[0]? with
  | some t0 => (match P.underlying t0 with
    | some (.slice elem) => (match sz P elem, x with
      | some s, .slc key o n _ _ => (match srcCells m s y, m.get key with
        | some (l, n'), some (.cells cs tot ty) => if (allCells (l.take (min n' n * s)) && decide (o + (l.take (min n' n * s)).length ≤ cs.length)) = true then
            K (some (.int .i64 true (min n' n : Nat))) (m.put key (.cells (setRange cs o (l.take (min n' n * s))) tot ty)) nx else .fail "copy: cells"
        | _, _ => .fail "copy: blocks")
      | _, _ => .fail "copy: to what")
    | _ => .fail "copy")
  | none => .fail "copy"
theorem lcopy_ok {ats : Array TypeId} {ty : TypeId} {x y : SV} {K : KL} {w0 : World} {M0 : Nat → Prop} {E : Nat → Nat} {w : World}
    (h : (lcopy P ats x y m nx K).holds) (hs : SatM w0 M0 E m nx w) :
    ∃ r w', (Builtin.copy_ ats ty #[x.val E, y.val E]).run P w = .ok r w' ∧ After K w0 M0 E nx r w' := by
  unfold lcopy at h
  split at h
  · rename_i t0 h0
    split at h
    · rename_i elem hd
      split at h
      · rename_i s key o n cl c hsz
        split at h
        · rename_i l n' cs tot ty' hy hk
          split at h
          · rename_i hc
            simp only [Bool.and_eq_true, decide_eq_true_eq] at hc
            obtain ⟨ylen, ycells, ynum⟩ := srcCells_run (P := P) hs hy
            have hyc := ycells (min n' n) (Nat.min_le_left _ _)
            obtain ⟨w', hrun, haft⟩ := After.write (P := P) (r := .int .i64 ((min n' n : Nat) : Int)) hs hk (allCells_mem hc.1) hc.2 (fun v hv => by injection hv with hv; subst hv; rfl) h
            refine ⟨_, w', ?_, haft⟩
            simp only [SV.val, Builtin.copy_, h0, List.getElem?_toArray, List.getElem?_cons_zero, List.getElem?_cons_succ, Sem.run_bind, run_und hd, Result.andThen_ok, ylen, run_sz hsz]
            rw [show n'.min n = min n' n from rfl, hyc]
            simp only [Result.andThen_ok, Sem.run_bind, hrun, Sem.run_pure, goInt]
          · exact h.elim
        · exact h.elim
      · exact h.elim
    · exact h.elim
  · exact h.elim

/-! ### make([]T, n, c): n is known -/
def lmake (P : Program) (t : TypeId) (x y : SV) (m : Mem) (nx : Nat) (K : KL) : VC :=
  match P.underlying t, x, y with
  | some (.slice e), .int .i64 true n, .int .i64 l c => (match sz P e, zeroSV P e, bytes P e with
    | some s, some z, some by_ => if (z.plain && decide (z.cells.length = s) && decide (s ≠ 0) && decide (0 ≤ n)) = true then
        chk l (n ≤ c ∧ by_ * c ≤ 140737488355328 ∧ c ≤ 9223372036854775807) (K (some (.slc nx 0 n.toNat l c.toNat)) ((nx, .cells (times (bif l then c.toNat else n.toNat) z.cells) (c.toNat * s) e) :: m) (nx + 1)) else .fail "make: size"
    | _, _, _ => .fail "make")
  | _, _, _ => .fail "make: a length that is not known"
theorem lmake_ok {dst : Option Tmp} {t type : TypeId} {pos : String} {after : Array Edge} {guard : Option (Nat × Bool)} {x y : Operand} :
    LOp P σ m nx ⟨dst, .makeSlice t x y, type, pos, after, guard⟩ (fun K => need (σ x) (fun a => need (σ y) (fun b => lmake P t a b m nx K))) := by
  refine LOp.need fun a ha => LOp.need fun b hb => ?_
  intro K w0 M0 E w ρ h hs hw hσ hr
  unfold lmake at h
  split at h
  · rename_i e n l c hd
    split at h
    · rename_i s z by_ hsz hz hby
      split at h
      · rename_i hc
        simp only [Bool.and_eq_true, decide_eq_true_eq] at hc
        obtain ⟨⟨⟨h1, h2⟩, h3⟩, h4⟩ := hc
        have hk : (n ≤ c ∧ by_ * c ≤ 140737488355328 ∧ c ≤ 9223372036854775807) ∧ (K (some (.slc nx 0 n.toNat l c.toNat)) ((nx, .cells (times (bif l then c.toNat else n.toNat) z.cells) (c.toNat * s) e) :: m) (nx + 1)).holds := by
          unfold Sx.chk at h
          split at h
          · split at h
            · rename_i hh; exact ⟨hh, h⟩
            · exact h.elim
          · exact h
        obtain ⟨⟨k1, k2, k3⟩, hk⟩ := hk
        have hwc : IntKind.i64.wrap c = c := wrap_in (k := .i64) ⟨by simp only [lo]; omega, by simp only [hi]; omega⟩
        have hwn : IntKind.i64.wrap n = n := wrap_in (k := .i64) ⟨by simp only [lo]; omega, by simp only [hi]; omega⟩
        have hby' : ∃ i, P.info? e = some i ∧ i.bytes = by_ := by
          unfold bytes at hby
          split at hby
          · rename_i i hi; injection hby with hby; exact ⟨i, hi, hby⟩
          · cases hby
        obtain ⟨i, hi, hib⟩ := hby'
        have hzc := SV.cells_val (E := E) h1
        have hzs : (z.val E).cells.size = s := by rw [hzc]; simp [h2]
        have hnl : ¬ (c < 0) := by omega
        have hbig : ¬ (((by_ : Nat) : Int) * c > 2 ^ 48) := by
          have : (2 : Int) ^ 48 = 281474976710656 := by decide
          omega
        have hcond : ((decide (c < 0) || decide (((by_ : Nat) : Int) * c > 2 ^ 48)) || decide (n < 0) || decide (n > c)) = false := by
          simp only [Bool.or_eq_false_iff, decide_eq_false_iff_not]
          exact ⟨⟨⟨hnl, hbig⟩, by omega⟩, by omega⟩
        have fin : ∀ z' : Array Value, ((Array.range (c.toNat * s)).map fun i => z'[i % z'.size]!) = (SV.vals E (times c.toNat z.cells)).toArray →
            Out P (After K w0 M0 E nx) (((newRow e ((Array.range (c.toNat * s)).map fun i => z'[i % z'.size]!) >>= fun a => pure (Value.slice (some a) n.toNat c.toNat) : Sem Value).run P w).andThen fun a w' => (pure (Next.value a) : Sem Next).run P w') := by
          intro z' hz'
          rw [hz']
          simp only [newRow, Sem.run_bind, run_newObj, Result.andThen_ok, Sem.run_pure, Out]
          have g : ∀ k : Nat, (times k z.cells).length = k * s := by
            intro k
            induction k with
            | zero => simp [times]
            | succ k ih => rw [times, List.length_append, ih, h2, Nat.add_mul]; omega
          refine After.alloc hs hw (times_wf (cells_wf (zeroSV_wf hz)) _) (fun i v hv => ?_) (by simp [SV.vals_eq, g]) hk (by simp [SV.val])
          · generalize hq : (bif l then c.toNat else n.toNat) = q at hv
            have hqc : q ≤ c.toNat := by cases l <;> simp at hq <;> omega
            have hsplit : times c.toNat z.cells = times q z.cells ++ times (c.toNat - q) z.cells := by
              have g : ∀ a b : Nat, times (a + b) z.cells = times a z.cells ++ times b z.cells := by
                intro a b
                induction a with
                | zero => simp [times]
                | succ a ih => rw [show a + 1 + b = (a + b) + 1 by omega, times, ih, times, List.append_assoc]
              rw [← g]; congr 1; omega
            have := (List.getElem?_eq_some_iff.1 hv).1
            rw [SV.vals_eq, List.getElem?_toArray, List.getElem?_map, hsplit, List.getElem?_append_left this, hv]; rfl
        simp only [execOp, Instr.makeSlice, hr _ _ ha, hr _ _ hb, SV.val, asInt, asIntOf, Sem.run_bind, run_und hd, Result.andThen_ok, Sem.run_pure, run_info hi, hib, hwc, hwn]
        rw [hcond]
        simp only [Bool.false_eq_true, if_false, Sem.run_bind, run_askRoom, Result.andThen_ok, run_sz hsz, Sem.run_ite]
        by_cases h0 : c.toNat * s = 0
        · rw [if_pos h0]
          simp only [Sem.run_pure, Result.andThen_ok]
          refine fin #[] ?_
          have : c.toNat = 0 := by rcases Nat.mul_eq_zero.1 h0 with h | h; exact h; exact absurd h h3
          rw [this]; simp [times, SV.vals]
        · rw [if_neg h0]
          simp only [zeroSV_run (E := E) hz, Sem.run_pure, Result.andThen_ok]
          refine fin _ ?_
          apply Array.ext'
          have := times_range (E := E) (zs := z.cells) (z := (z.val E).cells) (by rw [hzc]) (by rw [hzs]; exact h3) c.toNat
          rw [hzs] at this
          rw [SV.vals_eq]
          simpa [hzs] using this
      · exact h.elim
    · exact h.elim
  · exact h.elim

/-! ### Calls -/
abbrev PT := List SV → Mem → Nat → (SV → Mem → Nat → VC) → VC
def lift (K : SV → Mem → Nat → VC) : KL := fun v m nx => match v with
  | some v => K v m nx
  | none => .fail "a call's result that is not known"
/-- A call's condition serves: whatever it asks for, the call gives it. -/
def CallOk (P : Program) (f : FuncId) (pt : PT) : Prop :=
  ∀ args m nx K, (pt args m nx K).holds → Mem.wf nx m = true → SV.wfs nx args = true → ∀ w0 M0 E w, SatM w0 M0 E m nx w →
    Out P (After (lift K) w0 M0 E nx) ((callFunc f (SV.vals E args).toArray).run P w)
/-- The method of a type. -/
def findMethod (P : Program) (t : TypeId) (name : String) : Option (FuncId × Bool) :=
  match P.info? t with
  | some i => (match i.methods.find? (·.name == name) with
    | some mt => if mt.path.isEmpty then mt.func else none
    | none => none)
  | none => none
def isPtrD : TypeDesc → Bool
  | .pointer _ => true
  | _ => false
def lcall (P : Program) (call : FuncId → PT) (σ : Operand → Option SV) (c : Call) (m : Mem) (nx : Nat) (K : KL) : VC :=
  match c.callee, evs σ c.args.toList with
  | .value f, some args => (match σ f with
    | some (.func (.func g) first captured) => call g (first ++ args ++ captured) m nx (fun v m nx => K (some v) m nx)
    | _ => .fail "call: of what")
  | .invoke r name, some args => (match σ r with
    | some (.iface t v) => (match findMethod P t name, P.underlying t with
      | some (g, p), some d => if isPtrD d = p then call g (v :: args) m nx (fun v m nx => K (some v) m nx) else .fail "call: receiver"
      | _, _ => .fail "call: no such method")
    | _ => .fail "call: of what")
  | .builtin .append, some [x, y] => lappend2 P c.argTypes x y m nx K
  | .builtin .copy, some [x, y] => lcopy P c.argTypes x y m nx K
  | _, _ => .fail "call"
theorem After.of_lift {K : KL} {w0 : World} {M0 : Nat → Prop} {E : Nat → Nat} {r : Value} {w : World} (h : After (lift fun v m nx => K (some v) m nx) w0 M0 E nx r w) : After K w0 M0 E nx r w := by
  obtain ⟨E', sv, m', nx', h1, h2, h3, h4, h5⟩ := h
  cases sv with
  | none => exact h5.elim
  | some v => exact ⟨E', some v, m', nx', h1, h2, h3, h4, h5⟩
theorem evs_wf {nx : Nat} {σ : Operand → Option SV} (hσ : WfS nx σ) : ∀ {xs : List Operand} {l : List SV}, evs σ xs = some l → SV.wfs nx l = true
  | [], l, h => by simp [evs] at h; subst h; rfl
  | x :: r, l, h => by
    simp only [evs] at h
    split at h
    · rename_i v l' hv hl
      injection h with h; subst h
      simp only [SV.wfs, Bool.and_eq_true]; exact ⟨hσ x v hv, evs_wf hσ hl⟩
    · cases h
theorem findMethod_run {E : Nat → Nat} {w : World} {t : TypeId} {v : SV} {name : String} {g : FuncId} {p : Bool} {d : TypeDesc} (h : findMethod P t name = some (g, p)) (hd : P.underlying t = some d) (hp : isPtrD d = p) (fuel : Nat) :
    (method (fuel + 1) t (v.val E) name).run P w = .ok (g, v.val E) w := by
  unfold findMethod at h
  split at h
  · rename_i i hi
    split at h
    · rename_i mt hm
      split at h
      · rename_i hpath
        have hpl : mt.path.toList = [] := by simpa using hpath
        simp only [method, Sem.run_bind, run_info hi, Result.andThen_ok, hm, hpl, follow, Sem.run_pure, h]
        cases d <;> simp only [isPtrD] at hp <;> subst hp <;> simp only [receiverAt, Sem.run_bind, run_und hd, Result.andThen_ok, Place.get, Sem.run_pure]
      · cases h
    · cases h
  · cases h
theorem vals_append (E : Nat → Nat) (a b : List SV) : SV.vals E (a ++ b) = SV.vals E a ++ SV.vals E b := by simp [SV.vals_eq]
theorem lcall_ok {call : FuncId → PT} (hcall : ∀ f, CallOk P f (call f)) {dst : Option Tmp} {type : TypeId} {pos : String} {after : Array Edge} {guard : Option (Nat × Bool)} {c : Call} :
    LOp P σ m nx ⟨dst, .call c, type, pos, after, guard⟩ (lcall P call σ c m nx) := by
  intro K w0 M0 E w ρ h hs hw hσ hr
  obtain ⟨callee, args, ats⟩ := c
  unfold lcall at h
  split at h
  · rename_i f as hca hargs
    simp only at hca; subst hca
    split at h
    · rename_i g first captured hf
      have hfw := hσ _ _ hf
      simp only [SV.wf, Bool.and_eq_true] at hfw
      have := hcall g (first ++ as ++ captured) m nx _ h hw (wfs_append (wfs_append hfw.1 (evs_wf hσ hargs)) hfw.2) w0 M0 E w hs
      have hrun : (execOp ρ ⟨dst, .call ⟨.value f, args, ats⟩, type, pos, after, guard⟩).run P w = (callFunc g (SV.vals E (first ++ as ++ captured)).toArray).run P w := by
        simp only [execOp, resolve, hr _ _ hf, SV.val, Deferred.ofValue, Sem.run_bind, Sem.run_pure, Result.andThen_ok, invoke]
        rw [evs_arr hr hargs, vals_append, vals_append]
        simp
      rw [hrun]
      exact this.mono fun r w' h => h.of_lift
    · exact h.elim
  · rename_i r name as hca hargs
    simp only at hca; subst hca
    split at h
    · rename_i t v hrv
      split at h
      · rename_i g p d hm hd
        split at h
        · rename_i hp
          have hvw := hσ _ _ hrv
          simp only [SV.wf] at hvw
          have := hcall g (v :: as) m nx _ h hw (by simp only [SV.wfs, Bool.and_eq_true]; exact ⟨hvw, evs_wf hσ hargs⟩) w0 M0 E w hs
          have hrun : (execOp ρ ⟨dst, .call ⟨.invoke r name, args, ats⟩, type, pos, after, guard⟩).run P w = (callFunc g (SV.vals E (v :: as)).toArray).run P w := by
            simp only [execOp, resolve, hr _ _ hrv, SV.val, Sem.run_bind, Sem.run_pure, Result.andThen_ok, invoke]
            rw [evs_arr hr hargs]
            simp only [Array.getElem?_append_left, List.size_toArray, List.length_singleton, Nat.lt_one_iff, List.getElem?_toArray, List.getElem?_cons_zero, callMethod, Sem.run_bind, run_program, Result.andThen_ok]
            have hfm := findMethod_run (E := E) (w := w) (v := v) hm hd hp (P.types.size + Made.depth - 1)
            have hpos : 0 < Made.depth := by decide
            rw [show P.types.size + Made.depth - 1 + 1 = P.types.size + Made.depth by omega] at hfm
            rw [hfm]
            simp only [Result.andThen_ok]
            congr 2
            simp [SV.vals]
          rw [hrun]
          exact this.mono fun r w' h => h.of_lift
        · exact h.elim
      · exact h.elim
    · exact h.elim
  · rename_i x y hca hargs
    simp only at hca; subst hca
    obtain ⟨r, w', hrun, haft⟩ := lappend2_ok (P := P) (ty := type) h hs hw
    rw [BigFrame.execOp_builtin, BigFrame.builtin_append, evs_arr hr hargs]
    simp only [SV.vals, Sem.run_bind]
    rw [hrun]
    exact haft
  · rename_i x y hca hargs
    simp only at hca; subst hca
    obtain ⟨r, w', hrun, haft⟩ := lcopy_ok (P := P) (ty := type) h hs
    rw [BigFrame.execOp_builtin, BigFrame.builtin_copy, evs_arr hr hargs]
    simp only [SV.vals, Sem.run_bind]
    rw [hrun]
    exact haft
  · exact h.elim
end
end Go.Proofs.Ytobbhdmbblhgaaa.Sx
