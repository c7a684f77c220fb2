/-
  The framework's second part: operations that leave the world alone.
-/
import Derived.Test.YtobbhdmbblhgaaaSxA
import Derived.Laws.StructEq
namespace Go.Proofs.Ytobbhdmbblhgaaa.Sx
open Go

theorem run_und {P : Program} {w : World} {t : TypeId} {d : TypeDesc} (h : P.underlying t = some d) : (underlying t).run P w = .ok d w := by
  simp [underlying, h]
theorem run_info {P : Program} {w : World} {t : TypeId} {i : TypeInfo} (h : P.info? t = some i) : (typeInfo t).run P w = .ok i w := by
  simp [typeInfo, h]
def sz (P : Program) (t : TypeId) : Option Nat := match P.info? t with | some i => some i.size | none => none
theorem run_sz {P : Program} {w : World} {t : TypeId} {n : Nat} (h : sz P t = some n) : (sizeOf t).run P w = .ok n w := by
  unfold sz at h
  split at h
  · rename_i i hi; injection h with h; subst h; simp [sizeOf, run_info hi]
  · cases h
def isAggD : TypeDesc → Bool
  | .struct _ => true
  | .array _ _ => true
  | _ => false
theorem run_isAgg {P : Program} {w : World} {t : TypeId} {d : TypeDesc} (h : P.underlying t = some d) : (isAgg t).run P w = .ok (isAggD d) w := by
  cases d <;> simp [isAgg, run_und h, isAggD]

theorem add_none (b o n : Nat) : (⟨b, o, none⟩ : Addr).add n = ⟨b, o + n, none⟩ := by
  unfold Addr.add; split <;> simp_all
theorem cell_of {w : World} {b o : Nat} {c : Array Value} {ty : TypeId} {fr : Nat × Nat} (h : w.heap[b]? = some (.cells c ty fr)) :
    w.cell? ⟨b, o, none⟩ = c[o]? := by
  simp [World.cell?, h]
theorem run_loadCellsFrom {P : Program} {w : World} {b : Nat} {c : Array Value} {ty : TypeId} {fr : Nat × Nat} (h : w.heap[b]? = some (.cells c ty fr)) (o : Nat) :
    ∀ (vs : List Value) (i : Nat) (acc : Array Value), (∀ j v, vs[j]? = some v → c[o + i + j]? = some v) →
      (loadCellsFrom ⟨b, o, none⟩ i vs.length acc).run P w = .ok (acc ++ vs.toArray) w := by
  intro vs
  induction vs with
  | nil => intro i acc _; simp [loadCellsFrom]
  | cons v r ih =>
    intro i acc hv
    have h0 := hv 0 v rfl
    simp only [List.length_cons, loadCellsFrom, Sem.run_bind, run_load, add_none, cell_of h]
    rw [show o + i + 0 = o + i from rfl] at h0
    rw [h0]
    simp only [Result.andThen_ok]
    rw [ih (i + 1) (acc.push v) (fun j u hu => by have := hv (j + 1) u (by simpa using hu); rw [← this]; congr 1; omega)]
    simp
theorem run_loadCells {P : Program} {w : World} {b : Nat} {c : Array Value} {ty : TypeId} {fr : Nat × Nat} (h : w.heap[b]? = some (.cells c ty fr)) (o : Nat)
    (vs : List Value) (hv : ∀ (j : Nat) v, vs[j]? = some v → c[o + j]? = some v) :
    (loadCells ⟨b, o, none⟩ vs.length).run P w = .ok vs.toArray w := by
  have := run_loadCellsFrom (P := P) h o vs 0 #[] (fun j v hj => by simpa using hv j v hj)
  simpa [loadCells] using this

/-- n elements from place o on. -/
def takeAt (cs : List SV) (o n : Nat) : Option (List SV) :=
  match o, cs with
  | 0, cs => (match n, cs with
    | 0, _ => some []
    | n + 1, x :: r => (match takeAt r 0 n with | some l => some (x :: l) | none => none)
    | _ + 1, [] => none)
  | o + 1, _ :: r => takeAt r o n
  | _ + 1, [] => none
termination_by structural cs
theorem takeAt_get : ∀ {cs : List SV} {o n : Nat} {l : List SV}, takeAt cs o n = some l → l.length = n ∧ ∀ j v, l[j]? = some v → cs[o + j]? = some v
  | cs, 0, 0, l, h => by
    cases cs <;> simp [takeAt] at h <;> subst h <;> simp
  | [], 0, n + 1, l, h => by simp [takeAt] at h
  | x :: r, 0, n + 1, l, h => by
    simp only [takeAt] at h
    split at h
    · rename_i l' hl
      injection h with h; subst h
      have := takeAt_get hl
      refine ⟨by simp [this.1], fun j v hj => ?_⟩
      cases j with
      | zero => simpa using hj
      | succ j => have := this.2 j v (by simpa using hj); simpa using this
    · cases h
  | [], o + 1, n, l, h => by simp [takeAt] at h
  | x :: r, o + 1, n, l, h => by
    simp only [takeAt] at h
    have := takeAt_get h
    refine ⟨this.1, fun j v hj => ?_⟩
    have := this.2 j v hj
    rw [show o + 1 + j = (o + j) + 1 by omega]; simpa using this

abbrev QT := (Option SV → VC) → VC
abbrev Look := Nat → Option SB
def Compat (E : Nat → Nat) (look : Look) (w : World) : Prop := ∀ k B, look k = some B → B.no = false → ∃ o, w.heap[E k]? = some o ∧ BlkOk E B o
def Reads (E : Nat → Nat) (σ : Operand → Option SV) (ρ : Operand → Value) : Prop := ∀ x v, σ x = some v → ρ x = v.val E

/-- A quiet operation's condition: it comes down to one obligation and one value; and then the operation gives that value. -/
def QOk (P : Program) (look : Look) (σ : Operand → Option SV) (s : (Operand → Value) → Sem Value) (t : QT) : Prop :=
  ∃ (obl : Prop) (sv : Option SV), (∀ K, (t K).holds ↔ obl ∧ (K sv).holds) ∧
    (∀ E w ρ, Compat E look w → Reads E σ ρ → obl → ∃ r, (s ρ).run P w = .ok r w ∧ ∀ v, sv = some v → r = v.val E)

section
variable {P : Program} {look : Look} {σ : Operand → Option SV} {s : (Operand → Value) → Sem Value}
theorem QOk.fail (why : String) : QOk P look σ s (fun _ => .fail why) :=
  ⟨False, none, fun K => ⟨fun h => h.elim, fun h => h.1.elim⟩, fun _ _ _ _ _ h => h.elim⟩
theorem QOk.k (sv : Option SV) (h : ∀ E w ρ, Compat E look w → Reads E σ ρ → ∃ r, (s ρ).run P w = .ok r w ∧ ∀ v, sv = some v → r = v.val E) :
    QOk P look σ s (fun K => K sv) :=
  ⟨True, sv, fun K => ⟨fun h => ⟨trivial, h⟩, fun h => h.2⟩, fun E w ρ hc hr _ => h E w ρ hc hr⟩
/-- .. with a value that is known. -/
theorem QOk.v (v : SV) (h : ∀ E w ρ, Compat E look w → Reads E σ ρ → (s ρ).run P w = .ok (v.val E) w) : QOk P look σ s (fun K => K (some v)) :=
  QOk.k _ fun E w ρ hc hr => ⟨_, h E w ρ hc hr, fun v' hv => by injection hv with hv; rw [hv]⟩
theorem QOk.atom {p : Prop} {t : QT} (h : p → QOk P look σ s t) : QOk P look σ s (fun K => .and (.atom p) (t K)) := by
  by_cases hp : p
  · obtain ⟨obl, sv, h1, h2⟩ := h hp
    exact ⟨obl, sv, fun K => ⟨fun x => (h1 K).1 x.2, fun x => ⟨hp, (h1 K).2 x⟩⟩, h2⟩
  · exact ⟨False, none, fun K => ⟨fun x => (hp x.1).elim, fun x => x.1.elim⟩, fun _ _ _ _ _ h => h.elim⟩
theorem QOk.fork {b : Bool} {t : Bool → QT} (h : QOk P look σ s (t b)) : QOk P look σ s (fun K => Sx.fork b (fun c => t c K)) := by
  obtain ⟨obl, sv, h1, h2⟩ := h
  exact ⟨obl, sv, fun K => by rw [fork_iff]; exact h1 K, h2⟩
theorem QOk.ite {c : Prop} [Decidable c] {t u : QT} (h : c → QOk P look σ s t) (h' : ¬ c → QOk P look σ s u) :
    QOk P look σ s (fun K => if c then t K else u K) := by
  by_cases hc : c
  · simp only [hc, if_true]; exact h hc
  · simp only [hc, if_false]; exact h' hc
end

/-! ### The loading of a variable -/
def lo : IntKind → Int
  | .i8 => -128 | .i16 => -32768 | .i32 => -2147483648 | .i64 => -9223372036854775808
  | _ => 0
def hi : IntKind → Int
  | .i8 => 127 | .i16 => 32767 | .i32 => 2147483647 | .i64 => 9223372036854775807
  | .u8 => 255 | .u16 => 65535 | .u32 => 4294967295 | .u64 => 18446744073709551615
def md : IntKind → Int
  | .i8 | .u8 => 256 | .i16 | .u16 => 65536 | .i32 | .u32 => 4294967296 | .i64 | .u64 => 18446744073709551616
theorem wrap_in {k : IntKind} {n : Int} (h : lo k ≤ n ∧ n ≤ hi k) : k.wrap n = n := by
  obtain ⟨h1, h2⟩ := h
  cases k <;> simp only [lo, hi] at h1 h2 <;> simp only [IntKind.wrap, IntKind.bits, IntKind.signed] <;> simp <;> (try split) <;> omega
theorem wrap_un {k : IntKind} (hs : k.signed = false) (n : Int) : k.wrap n = n % md k := by
  cases k <;> simp [IntKind.signed] at hs <;> simp [IntKind.wrap, IntKind.bits, IntKind.signed, md]

def rowsAt (B : SB) (w i k : Nat) (K : Option SV → VC) : VC :=
  match B with
  | .rows _ n cols _ _ _ => if cols.length = w then (match cols[k]? with
      | some c => .and (.atom (i < n)) (K (some (c.at i)))
      | none => .fail "load: no such column") else .fail "load: another row"
  | _ => .fail "load: not a row"
/-- n integers of one kind, from place o on. -/
def intsAt (k : IntKind) : List SV → Option (List Int)
  | [] => some []
  | .int k' _ n :: r => if k = k' then (match intsAt k r with
    | some l => some (n :: l)
    | none => none) else none
  | _ :: _ => none
def kindAt : List SV → IntKind
  | .int k _ _ :: _ => k
  | _ => .i64
def sel (l : List Int) (i : Nat) : Int := l.getD i 0
theorem intsAt_get {k : IntKind} : ∀ {cs : List SV} {l : List Int}, intsAt k cs = some l → l.length = cs.length ∧ ∀ (i : Nat) (v : SV), cs[i]? = some v → ∃ b, v = .int k b (sel l i)
  | [], l, h => by simp [intsAt] at h; subst h; exact ⟨rfl, fun i v hv => by simp at hv⟩
  | .int k' b n :: r, l, h => by
    simp only [intsAt] at h
    split at h
    · rename_i e; subst e
      split at h
      · rename_i l' hl
        injection h with h; subst h
        obtain ⟨h1, h2⟩ := intsAt_get hl
        refine ⟨by simp [h1], fun i v hv => ?_⟩
        cases i with
        | zero => simp at hv; subst hv; exact ⟨b, rfl⟩
        | succ i => obtain ⟨b', hb⟩ := h2 i v (by simpa using hv); exact ⟨b', by rw [hb]; rfl⟩
      · cases h
    · cases h
def takeCols (cols : List Col) (i k n : Nat) : Option (List SV) := takeAt (cols.map (Col.at i)) k n
def qload (P : Program) (look : Look) (t : TypeId) (a : Option SV) (K : Option SV → VC) : VC :=
  match P.underlying t with
  | none => .fail "load: no type"
  | some d =>
    match a with
    | some (.ptr key true o) => (match look key with
      | some (.cells cs _ _) => (match isAggD d with
        | true => (match sz P t with
          | some n => (match takeAt cs o n with
            | some l => K (some (.agg l))
            | none => .fail "load: not so many cells")
          | none => .fail "load: no size")
        | false => (match cs[o]? with
          | some v => K (some v)
          | none => .fail "load: no such cell"))
      | _ => .fail "load: no such block")
    | some (.eptr key w i k) => (match look key with
      | some (.rows z n cols ro tot ty) => (if cols.length = w then (match isAggD d with
        | true => (match sz P t with
          | some m => (match takeCols cols i k m with
            | some l => .and (.atom (i < n)) (K (some (.agg l)))
            | none => .fail "load: not so many columns")
          | none => .fail "load: no size")
        | false => (match cols[k]? with
          | some c => .and (.atom (i < n)) (K (some (c.at i)))
          | none => .fail "load: no such column")) else .fail "load: another row")
      | _ => .fail "load: not a row")
    | some (.veptr key w o i k) => (match look key with
      | some (.view z o' n cols) => (if cols.length = w then (match isAggD d with
        | true => (match sz P t with
          | some m => (match takeCols cols i k m with
            | some l => .and (.atom (o' = o ∧ i < n)) (K (some (.agg l)))
            | none => .fail "load: not so many columns")
          | none => .fail "load: no size")
        | false => (match cols[k]? with
          | some c => .and (.atom (o' = o ∧ i < n)) (K (some (c.at i)))
          | none => .fail "load: no such column")) else .fail "load: another row")
      | _ => .fail "load: not a view")
    | some (.aptr key base n i) => (match look key with
      | some (.cells cs _ _) => (match isAggD d, takeAt cs base n with
        | false, some l => (match intsAt (kindAt l) l with
          | some zs => .and (.atom (i < n)) (K (some (.int (kindAt l) false (sel zs i))))
          | none => .fail "load: no integers")
        | _, _ => .fail "load: not so many cells")
      | _ => .fail "load: no such block")
    | _ => .fail "load: no pointer"
theorem qload_ok {P : Program} {look : Look} {σ : Operand → Option SV} (t : TypeId) (x : Operand) :
    QOk P look σ (fun ρ => Instr.loadAt t (ρ x)) (qload P look t (σ x)) := by
  unfold qload
  cases hd : P.underlying t with
  | none => exact QOk.fail _
  | some d =>
    simp only
    split
    · rename_i key o hx
      split
      · rename_i cs tot ty hk
        cases ha : isAggD d with
        | true =>
          simp only
          cases hn : sz P t with
          | none => exact QOk.fail _
          | some n =>
            simp only
            cases hl : takeAt cs o n with
            | none => exact QOk.fail _
            | some l =>
              refine QOk.v _ fun E w ρ hc hr => ?_
              obtain ⟨ob, ho, c, fr, rfl, _, h2, _⟩ := hc key _ hk rfl
              have hg := takeAt_get hl
              have hll := run_loadCells (P := P) ho o (l.map (SV.val E)) (fun j v hj => by
                rw [List.getElem?_map] at hj
                cases hjl : l[j]? with
                | none => rw [hjl] at hj; cases hj
                | some u => rw [hjl] at hj; injection hj with hj; subst hj; exact h2 _ _ (hg.2 j u hjl))
              rw [List.length_map, hg.1] at hll
              simp [Instr.loadAt, hr x _ hx, SV.val, Instr.sureAddr, loadVar, run_isAgg hd, ha, run_sz hn, hll, SV.vals_eq]
        | false =>
          simp only
          cases hv : cs[o]? with
          | none => exact QOk.fail _
          | some v =>
            refine QOk.v _ fun E w ρ hc hr => ?_
            obtain ⟨ob, ho, c, fr, rfl, _, h2, _⟩ := hc key _ hk rfl
            simp [Instr.loadAt, hr x _ hx, SV.val, Instr.sureAddr, loadVar, run_isAgg hd, ha, cell_of ho, h2 _ _ hv]
      · exact QOk.fail _
    · rename_i key w i k hx
      split
      · rename_i z n cols ro tot ty hk
        refine QOk.ite (fun hw => ?_) (fun _ => QOk.fail _)
        subst hw
        cases ha : isAggD d with
        | true =>
          simp only
          cases hn : sz P t with
          | none => exact QOk.fail _
          | some m =>
            simp only
            cases hl : takeCols cols i k m with
            | none => exact QOk.fail _
            | some l =>
              refine QOk.atom fun hi => QOk.v _ fun E w ρ hc hr => ?_
              obtain ⟨ob, ho, c, fr, rfl, _, h1, _, h2⟩ := hc key _ hk (SB.no_rows hi)
              have hg := takeAt_get hl
              have hll := run_loadCells (P := P) ho (i * cols.length + k) (l.map (SV.val E)) (fun j v hj => by
                rw [List.getElem?_map] at hj
                cases hjl : l[j]? with
                | none => rw [hjl] at hj; cases hj
                | some u =>
                  rw [hjl] at hj; injection hj with hj; subst hj
                  have := hg.2 j u hjl
                  rw [List.getElem?_map] at this
                  cases hcl : cols[k + j]? with
                  | none => rw [hcl] at this; cases this
                  | some col =>
                    rw [hcl] at this; injection this with this; subst this
                    rw [Nat.add_assoc]; exact h2 i (k + j) col hi hcl)
              rw [List.length_map, hg.1] at hll
              simp [Instr.loadAt, hr x _ hx, SV.val, Instr.sureAddr, loadVar, run_isAgg hd, ha, run_sz hn, hll, SV.vals_eq]
        | false =>
          simp only
          cases hv : cols[k]? with
          | none => exact QOk.fail _
          | some col =>
            refine QOk.atom fun hi => QOk.v _ fun E w ρ hc hr => ?_
            obtain ⟨ob, ho, c, fr, rfl, _, h1, _, h2⟩ := hc key _ hk (SB.no_rows hi)
            simp [Instr.loadAt, hr x _ hx, SV.val, Instr.sureAddr, loadVar, run_isAgg hd, ha, cell_of ho, h2 _ _ _ hi hv]
      · exact QOk.fail _
    · rename_i key w o i k hx
      split
      · rename_i z o' n cols hk
        refine QOk.ite (fun hw => ?_) (fun _ => QOk.fail _)
        subst hw
        cases ha : isAggD d with
        | true =>
          simp only
          cases hn : sz P t with
          | none => exact QOk.fail _
          | some m =>
            simp only
            cases hl : takeCols cols i k m with
            | none => exact QOk.fail _
            | some l =>
              refine QOk.atom fun hlh => QOk.v _ fun E w ρ hc hr => ?_
              obtain ⟨rfl, hi⟩ := hlh; obtain ⟨ob, ho, c, ty, fr, rfl, h2⟩ := hc key _ hk (SB.no_view hi)
              have hg := takeAt_get hl
              have hll := run_loadCells (P := P) ho (o' + i * cols.length + k) (l.map (SV.val E)) (fun j v hj => by
                rw [List.getElem?_map] at hj
                cases hjl : l[j]? with
                | none => rw [hjl] at hj; cases hj
                | some u =>
                  rw [hjl] at hj; injection hj with hj; subst hj
                  have := hg.2 j u hjl
                  rw [List.getElem?_map] at this
                  cases hcl : cols[k + j]? with
                  | none => rw [hcl] at this; cases this
                  | some col =>
                    rw [hcl] at this; injection this with this; subst this
                    rw [Nat.add_assoc]; exact h2 i (k + j) col hi hcl)
              rw [List.length_map, hg.1] at hll
              simp [Instr.loadAt, hr x _ hx, SV.val, Instr.sureAddr, loadVar, run_isAgg hd, ha, run_sz hn, hll, SV.vals_eq]
        | false =>
          simp only
          cases hv : cols[k]? with
          | none => exact QOk.fail _
          | some col =>
            refine QOk.atom fun hlh => QOk.v _ fun E w ρ hc hr => ?_
            obtain ⟨rfl, hi⟩ := hlh; obtain ⟨ob, ho, c, ty, fr, rfl, h2⟩ := hc key _ hk (SB.no_view hi)
            simp [Instr.loadAt, hr x _ hx, SV.val, Instr.sureAddr, loadVar, run_isAgg hd, ha, cell_of ho, h2 _ _ _ hi hv]
      · exact QOk.fail _
    · rename_i key base n i hx
      split
      · rename_i cs tot ty hk
        split
        · rename_i l ha hl
          split
          · rename_i zs hz
            refine QOk.atom fun hi => QOk.v _ fun E w ρ hc hr => ?_
            obtain ⟨ob, ho, c, fr, rfl, _, h2, _⟩ := hc key _ hk rfl
            have hg := takeAt_get hl
            have hzg := intsAt_get hz
            have hil : i < l.length := by rw [hg.1]; exact hi
            obtain ⟨b, hb⟩ := hzg.2 i l[i] (List.getElem?_eq_getElem hil)
            have := h2 _ _ (hg.2 i l[i] (List.getElem?_eq_getElem hil))
            rw [hb] at this
            simp [Instr.loadAt, hr x _ hx, SV.val, Instr.sureAddr, loadVar, run_isAgg hd, ha, cell_of ho, this]
          · exact QOk.fail _
        · exact QOk.fail _
      · exact QOk.fail _
    · exact QOk.fail _

/-! ### Addresses -/
def offs (f : Field) (P : Program) : Option Nat := match sz P f.type with
  | some (n + 1) => some f.offset
  | _ => none
def qfieldAddr (P : Program) (s : TypeId) (x : Option SV) (f : Nat) (K : Option SV → VC) : VC :=
  match P.underlying s with
  | some (.struct fs) => (match fs[f]? with
    | some fd => (match offs fd P with
      | some o => (match x with
        | some (.ptr key ol a) => K (some (.ptr key ol (a + o)))
        | some (.eptr key w i k) => K (some (.eptr key w i (k + o)))
        | some (.veptr key w b i k) => K (some (.veptr key w b i (k + o)))
        | _ => .fail "fieldAddr: no pointer")
      | none => .fail "fieldAddr: a field without cells")
    | none => .fail "fieldAddr: no such field")
  | _ => .fail "fieldAddr: no struct"
theorem qfieldAddr_ok {P : Program} {look : Look} {σ : Operand → Option SV} (s : TypeId) (x : Operand) (f : Nat) :
    QOk P look σ (fun ρ => Instr.fieldAt s (ρ x) f) (qfieldAddr P s (σ x) f) := by
  unfold qfieldAddr
  split
  · rename_i fs hd
    split
    · rename_i fd hf
      cases ho : offs fd P with
      | none => exact QOk.fail _
      | some o =>
        have hsz : ∃ n, sz P fd.type = some (n + 1) ∧ fd.offset = o := by
          unfold offs at ho
          split at ho
          · rename_i n hn; injection ho with ho; exact ⟨n, hn, ho⟩
          · cases ho
        obtain ⟨n, hn, rfl⟩ := hsz
        simp only
        split
        · rename_i key ol a hx
          refine QOk.v _ fun E w ρ hc hr => ?_
          simp [Instr.fieldAt, hr x _ hx, SV.val, Instr.sureAddr, run_und hd, hf, fieldPlace, run_sz hn, add_none]
        · rename_i key w i k hx
          refine QOk.v _ fun E w ρ hc hr => ?_
          simp [Instr.fieldAt, hr x _ hx, SV.val, Instr.sureAddr, run_und hd, hf, fieldPlace, run_sz hn, add_none, Nat.add_assoc]
        · rename_i key w b i k hx
          refine QOk.v _ fun E w ρ hc hr => ?_
          simp [Instr.fieldAt, hr x _ hx, SV.val, Instr.sureAddr, run_und hd, hf, fieldPlace, run_sz hn, add_none, Nat.add_assoc]
        · exact QOk.fail _
    · exact QOk.fail _
  · exact QOk.fail _

/-- One way for each place of a short row. -/
def places (i : Int) (t : Nat → VC) : Nat → VC
  | 0 => .tt
  | n + 1 => .and (places i t n) (.imp (i = n) (t n))
theorem places_iff {i : Int} {t : Nat → VC} : ∀ {n : Nat}, 0 ≤ i → i < n → ((places i t n).holds ↔ (t i.toNat).holds)
  | 0, h, h' => by omega
  | n + 1, h, h' => by
    simp only [places, VC.holds]
    by_cases e : i = n
    · subst e
      simp only [Int.toNat_natCast]
      constructor
      · intro x; exact x.2 trivial
      · intro x
        refine ⟨?_, fun _ => x⟩
        have : ∀ m, m ≤ n → (places (n : Int) t m).holds := by
          intro m
          induction m with
          | zero => intro _; exact trivial
          | succ m ih => intro hm; exact ⟨ih (by omega), fun e => by omega⟩
        exact this n (Nat.le_refl _)
    · have := places_iff (i := i) (t := t) (n := n) h (by omega)
      rw [this]
      exact ⟨fun x => x.1, fun x => ⟨x, fun e' => absurd e' e⟩⟩
/-- An index into a row of n elements. -/
def withIndex (l : Bool) (i : Int) (n : Nat) (t : Nat → VC) : VC :=
  match l with
  | true => if 0 ≤ i ∧ i < n then t i.toNat else .fail "index out of range"
  | false => .and (.atom (0 ≤ i ∧ i < n)) (places i t n)
theorem QOk.index {P : Program} {look : Look} {σ : Operand → Option SV} {s : (Operand → Value) → Sem Value} {l : Bool} {i : Int} {n : Nat} {t : Nat → QT}
    (h : 0 ≤ i → i < n → QOk P look σ s (t i.toNat)) : QOk P look σ s (fun K => withIndex l i n (fun j => t j K)) := by
  unfold withIndex
  cases l with
  | true => exact QOk.ite (fun hc => h hc.1 hc.2) (fun _ => QOk.fail _)
  | false =>
    refine QOk.atom fun hc => ?_
    obtain ⟨obl, sv, h1, h2⟩ := h hc.1 hc.2
    exact ⟨obl, sv, fun K => by rw [places_iff hc.1 hc.2]; exact h1 K, h2⟩

def qindexAddr (P : Program) (t : TypeId) (x i : Option SV) (K : Option SV → VC) : VC :=
  match P.underlying t, i with
  | some (.array len elem), some (.int _ l n) => (match sz P elem, x with
    | some m, some (.ptr key true o) => (match l || !Nat.beq m 1 with
      | true => withIndex l n len (fun j => K (some (.ptr key true (o + j * m))))
      | false => .and (.atom (0 ≤ n ∧ n < len)) (K (some (.aptr key o len n.toNat))))
    | _, _ => .fail "indexAddr: array")
  | some (.slice elem), some (.int _ l n) => (match sz P elem, x with
    | some m, some (.slc key o len _ _) => withIndex l n len (fun j => K (some (.ptr key true (o + j * m))))
    | some m, some (.rslc key w z i0 len _) => if m = w then .and (.atom (0 ≤ n ∧ n < len)) (K (some (.eptr key w (i0 + n.toNat) 0))) else .fail "indexAddr: another row"
    | some m, some (.vslc key w z b i0 len _) => if m = w then .and (.atom (0 ≤ n ∧ n < len)) (K (some (.veptr key w b (i0 + n.toNat) 0))) else .fail "indexAddr: another row"
    | _, _ => .fail "indexAddr: slice")
  | _, _ => .fail "indexAddr"
theorem qindexAddr_ok {P : Program} {look : Look} {σ : Operand → Option SV} (t : TypeId) (x i : Operand) :
    QOk P look σ (fun ρ => Instr.indexAt t (ρ x) (ρ i)) (qindexAddr P t (σ x) (σ i)) := by
  unfold qindexAddr
  split
  · rename_i len elem k l n hd hi
    split
    · rename_i m key o hm hx
      split
      · refine QOk.index fun h0 h1 => QOk.v _ fun E w ρ hc hr => ?_
        simp [Instr.indexAt, hr x _ hx, hr i _ hi, SV.val, asIntOf, Instr.sureAddr, run_und hd, run_sz hm, h0, h1, add_none]
      · rename_i hcond
        have hm1 : m = 1 := by simp at hcond; exact hcond.2
        refine QOk.atom fun h0 => QOk.v _ fun E w ρ hc hr => ?_
        simp [Instr.indexAt, hr x _ hx, hr i _ hi, SV.val, asIntOf, Instr.sureAddr, run_und hd, run_sz hm, h0.1, h0.2, add_none, hm1]
    · exact QOk.fail _
  · rename_i elem k l n hd hi
    split
    · rename_i m key o len cl c hm hx
      refine QOk.index fun h0 h1 => QOk.v _ fun E w ρ hc hr => ?_
      simp [Instr.indexAt, hr x _ hx, hr i _ hi, SV.val, asIntOf, run_und hd, run_sz hm, h0, h1, add_none]
    · rename_i m key w z i0 len c hm hx
      refine QOk.ite (fun e => ?_) (fun _ => QOk.fail _)
      subst e
      refine QOk.atom fun h0 => QOk.v _ fun E w ρ hc hr => ?_
      have hne : Nat.beq len 0 = false := by cases len with
        | zero => omega
        | succ n => rfl
      simp [Instr.indexAt, hr x _ hx, hr i _ hi, SV.val, asIntOf, run_und hd, run_sz hm, h0.1, h0.2, add_none, Nat.add_mul, hne]
    · rename_i m key w z b i0 len c hm hx
      refine QOk.ite (fun e => ?_) (fun _ => QOk.fail _)
      subst e
      refine QOk.atom fun h0 => QOk.v _ fun E w ρ hc hr => ?_
      have hne : Nat.beq len 0 = false := by cases len with
        | zero => omega
        | succ n => rfl
      simp [Instr.indexAt, hr x _ hx, hr i _ hi, SV.val, asIntOf, run_und hd, run_sz hm, h0.1, h0.2, add_none, Nat.add_mul, hne, Nat.add_assoc]
    · exact QOk.fail _
  · exact QOk.fail _
end Go.Proofs.Ytobbhdmbblhgaaa.Sx
