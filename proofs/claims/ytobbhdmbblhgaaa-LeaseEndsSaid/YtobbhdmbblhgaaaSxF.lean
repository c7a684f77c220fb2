/-
  The framework's sixth part: assertions, builtins, composite literals; 'qop', all quiet operations.
-/
import Derived.Test.YtobbhdmbblhgaaaSxE
namespace Go.Proofs.Ytobbhdmbblhgaaa.Sx
open Go

section
variable {P : Program} {look : Look} {σ : Operand → Option SV}

def zeroSV (P : Program) (t : TypeId) : Option SV :=
  match P.info? t with
  | some i => (match i.zero with
    | some v => SV.ofConst v
    | none => none)
  | none => none
theorem zeroSV_run {E : Nat → Nat} {w : World} {t : TypeId} {v : SV} (h : zeroSV P t = some v) : (zeroValue t).run P w = .ok (v.val E) w := by
  unfold zeroSV at h
  split at h
  · rename_i i hi
    split at h
    · rename_i z hz
      simp [zeroValue, run_info hi, hz, SV.ofConst_val (E := E) h]
    · cases h
  · cases h

/-! ### x.(T) -/
def asrHolds (ok : Bool) (v : SV) (K : Option SV → VC) : VC :=
  match ok with
  | true => K (some (.tup [v, .bool true true]))
  | false => K (some v)
def asrFails (P : Program) (at_ : TypeId) (ok : Bool) (K : Option SV → VC) : VC :=
  match ok with
  | true => (match zeroSV P at_ with
    | some z => K (some (.tup [z, .bool true false]))
    | none => .fail "typeAssert: no zero")
  | false => .fail "typeAssert fails"
theorem asrFails_ok {s : (Operand → Value) → Sem Value} {at_ : TypeId} {ok : Bool} (h : ∀ E w ρ, Reads E σ ρ → ok = true → ∀ z, (zeroValue at_).run P w = .ok z w → (s ρ).run P w = .ok (.tuple #[z, .bool false]) w) :
    QOk P look σ s (asrFails P at_ ok) := by
  unfold asrFails
  cases ok with
  | false => exact QOk.fail _
  | true =>
    cases hz : zeroSV P at_ with
    | none => exact QOk.fail _
    | some z => exact QOk.v _ fun E w ρ hc hr => by rw [h E w ρ hr rfl _ (zeroSV_run (E := E) hz)]; rfl
theorem asrHolds_ok {s : (Operand → Value) → Sem Value} {ok : Bool} (v : SV) (h : ∀ E w ρ, Reads E σ ρ → (s ρ).run P w = .ok (if ok then .tuple #[v.val E, .bool true] else v.val E) w) :
    QOk P look σ s (asrHolds ok v) := by
  unfold asrHolds
  cases ok with
  | false => exact QOk.v _ fun E w ρ hc hr => by rw [h E w ρ hr]; rfl
  | true => exact QOk.v _ fun E w ρ hc hr => by rw [h E w ρ hr]; rfl
def isIface : TypeDesc → Option (Array (String × TypeId))
  | .interface want => some want
  | _ => none
def lacks (want : Array (String × TypeId)) (got : Array Method) : Bool := want.toList.any fun x => !got.any fun m => m.name == x.1 && m.sig == x.2
theorem least_some {l : List String} (h : l ≠ []) : ∃ m, Instr.least l = some m := by
  cases l with
  | nil => exact absurd rfl h
  | cons s r => exact ⟨_, rfl⟩
def missingOf (missing : List String) : Option String :=
  Instr.least (missing.partition (·.contains '.')).2 <|> Instr.least ((missing.partition (·.contains '.')).1.map fun id => (id.splitOn ".").getLastD id)
theorem missing_eq (want : Array (String × TypeId)) (got : Array Method) : Instr.missingMethod want got = missingOf ((want.toList.filter fun (x : String × TypeId) => !got.any fun m => m.name == x.1 && m.sig == x.2).map (·.1)) := rfl
theorem lacks_false {want : Array (String × TypeId)} {got : Array Method} (h : lacks want got = false) : Instr.missingMethod want got = none := by
  have : (want.toList.filter fun (x : String × TypeId) => !got.any fun m => m.name == x.1 && m.sig == x.2) = [] := by
    rw [List.filter_eq_nil_iff]
    intro x hx hb
    unfold lacks at h
    rw [List.any_eq_false] at h
    exact h x hx hb
  rw [missing_eq, this]; rfl
theorem lacks_true {want : Array (String × TypeId)} {got : Array Method} (h : lacks want got = true) : ∃ m, Instr.missingMethod want got = some m := by
  unfold lacks at h
  rw [List.any_eq_true] at h
  obtain ⟨x, hx, hb⟩ := h
  have hmem : x.1 ∈ (want.toList.filter fun (x : String × TypeId) => !got.any fun m => m.name == x.1 && m.sig == x.2).map (·.1) := List.mem_map.2 ⟨x, List.mem_filter.2 ⟨hx, hb⟩, rfl⟩
  rw [missing_eq]
  unfold missingOf
  generalize (want.toList.filter fun (x : String × TypeId) => !got.any fun m => m.name == x.1 && m.sig == x.2).map (·.1) = missing at hmem
  rw [List.partition_eq_filter_filter]
  show ∃ m, (Instr.least (missing.filter (not ∘ fun s => s.contains '.')) <|> Instr.least ((missing.filter fun s => s.contains '.').map fun id => (id.splitOn ".").getLastD id)) = some m
  by_cases hd : x.1.contains '.' = true
  · have hne : (missing.filter fun s => s.contains '.') ≠ [] := by
      intro h0; rw [List.filter_eq_nil_iff] at h0; exact h0 _ hmem hd
    obtain ⟨m, hm⟩ := least_some (l := (missing.filter fun s => s.contains '.').map fun id => (id.splitOn ".").getLastD id) (by simpa using hne)
    cases hl : Instr.least (missing.filter (not ∘ fun s => s.contains '.')) with
    | none => exact ⟨m, by rw [hm]; rfl⟩
    | some q => exact ⟨q, rfl⟩
  · have hne : (missing.filter (not ∘ fun s => s.contains '.')) ≠ [] := by
      intro h0; rw [List.filter_eq_nil_iff] at h0; exact h0 _ hmem (by simpa using hd)
    obtain ⟨m, hm⟩ := least_some hne
    exact ⟨m, by rw [hm]; rfl⟩
def qassert (P : Program) (x : SV) (at_ : TypeId) (ok : Bool) (K : Option SV → VC) : VC :=
  match P.underlying at_, x with
  | some _, .niliface => asrFails P at_ ok K
  | some d, .iface u v => (match isIface d with
    | some want => (match P.info? u with
      | some i => (match lacks want i.methods with
        | false => asrHolds ok (.iface u v) K
        | true => asrFails P at_ ok K)
      | none => .fail "typeAssert")
    | none => if u = at_ then asrHolds ok v K else asrFails P at_ ok K)
  | _, _ => .fail "typeAssert"
theorem qassert_ok {x : Operand} {a : SV} {t at_ : TypeId} {ok : Bool} (hx : σ x = some a) : QOk P look σ (fun ρ => Instr.typeAssert (ρ x) t at_ ok) (qassert P a at_ ok) := by
  unfold qassert
  split
  · rename_i d hd
    exact asrFails_ok fun E w ρ hr hok z hz => by rw [hr x _ hx]; cases d <;> simp [SV.val, Instr.typeAssert, run_und hd, hok, hz]
  · rename_i d u v hd
    split
    · rename_i want hw
      have hd' : P.underlying at_ = some (.interface want) := by cases d <;> simp [isIface] at hw; subst hw; exact hd
      split
      · rename_i i hi
        split
        · rename_i hm
          have hm := lacks_false hm
          exact asrHolds_ok _ fun E w ρ hr => by
            rw [hr x _ hx]; simp only [SV.val, Instr.typeAssert, Sem.run_bind, run_und hd', Result.andThen_ok, run_info hi, hm]; cases ok <;> rfl
        · rename_i hm
          obtain ⟨m, hm⟩ := lacks_true hm
          exact asrFails_ok fun E w ρ hr hok z hz => by rw [hr x _ hx]; simp [SV.val, Instr.typeAssert, run_und hd', run_info hi, hm, hok, hz]
      · exact QOk.fail _
    · rename_i hw
      refine QOk.ite (fun e => ?_) (fun e => ?_)
      · subst e
        exact asrHolds_ok _ fun E w ρ hr => by
          rw [hr x _ hx]; cases d <;> simp only [isIface] at hw <;> first
            | (cases hw; done)
            | (simp only [SV.val, Instr.typeAssert, Sem.run_bind, run_und hd, Result.andThen_ok, if_true]; cases ok <;> rfl)
      · exact asrFails_ok fun E w ρ hr hok z hz => by
          rw [hr x _ hx]; cases d <;> simp only [isIface] at hw <;> first
            | (cases hw; done)
            | simp [SV.val, Instr.typeAssert, run_und hd, e, hok, hz]
  · exact QOk.fail _

/-! ### len, cap, min, max -/
def qlen (P : Program) (t : TypeId) (x : SV) (K : Option SV → VC) : VC :=
  match P.underlying t, x with
  | some .string, .str l s => K (some (.int .i64 l s.length))
  | some (.slice _), .slc _ _ n _ _ => K (some (.int .i64 true n))
  | some (.slice _), .rslc _ _ _ _ n _ => K (some (.int .i64 false n))
  | some (.slice _), .vslc _ _ _ _ _ n _ => K (some (.int .i64 false n))
  | some (.slice _), .nilslc => K (some (.int .i64 true 0))
  | some (.array n _), _ => K (some (.int .i64 true n))
  | some (.map _ _), .nilmap => K (some (.int .i64 true 0))
  | _, _ => .fail "len"
theorem qlen_ok {t : TypeId} {ats : Array TypeId} {ty : TypeId} {x : Operand} {a : SV} (hx : σ x = some a) (h0 : ats[0]? = some t) :
    QOk P look σ (fun ρ => Builtin.len_ ats ty #[ρ x]) (qlen P t a) := by
  unfold qlen
  have hs : ∀ s : List UInt8, (ByteArray.mk s.toArray).size = s.length := fun s => by simp [ByteArray.size]
  split <;> first
    | exact QOk.fail _
    | (rename_i hd; exact QOk.v _ fun E w ρ hc hr => by
        rw [hr x _ hx]
        simp only [SV.val, Builtin.len_, h0, List.getElem?_toArray, List.getElem?_cons_zero, Sem.run_bind, run_und hd, Result.andThen_ok]
        first
          | rfl
          | (show Result.ok (goInt (ByteArray.mk _).size) w = _; rw [hs]; rfl))
def qcap (P : Program) (t : TypeId) (x : SV) (K : Option SV → VC) : VC :=
  match P.underlying t, x with
  | some (.slice _), .slc _ _ _ l c => K (some (.int .i64 l c))
  | some (.slice _), .rslc _ _ false _ _ c => K (some (.int .i64 false c))
  | some (.slice _), .nilslc => K (some (.int .i64 true 0))
  | some (.array n _), _ => K (some (.int .i64 true n))
  | _, _ => .fail "cap"
theorem qcap_ok {t : TypeId} {ats : Array TypeId} {ty : TypeId} {x : Operand} {a : SV} (hx : σ x = some a) (h0 : ats[0]? = some t) :
    QOk P look σ (fun ρ => Builtin.cap_ ats ty #[ρ x]) (qcap P t a) := by
  unfold qcap
  split <;> first
    | exact QOk.fail _
    | (rename_i hd; exact QOk.v _ fun E w ρ hc hr => by rw [hr x _ hx]; simp [SV.val, Builtin.cap_, h0, run_und hd, goInt])
def qminmax (mx : Bool) (x y : SV) (K : Option SV → VC) : VC :=
  match x, y with
  | .int k l a, .int k' l' b => if k = k' then K (some (.int k (l && l') (match mx with | true => max a b | false => min a b))) else .fail "min, max: kinds"
  | _, _ => .fail "min, max"
theorem qmin_ok {ats : Array TypeId} {ty : TypeId} {x y : Operand} {a b : SV} (hx : σ x = some a) (hy : σ y = some b) :
    QOk P look σ (fun ρ => Builtin.min_ ats ty #[ρ x, ρ y]) (qminmax false a b) := by
  unfold qminmax
  split
  · rename_i k l m k' l' n
    refine QOk.ite (fun e => QOk.v _ fun E w ρ hc hr => ?_) (fun _ => QOk.fail _)
    subst e
    rw [hr x _ hx, hr y _ hy]
    simp only [SV.val, Builtin.min_, List.foldlM_cons, List.foldlM_nil, Builtin.min2, Sem.run_bind, Sem.run_pure, Result.andThen_ok]
    congr 2
    by_cases h : n < m
    · rw [if_pos h]; omega
    · rw [if_neg h]; omega
  · exact QOk.fail _
theorem qmax_ok {ats : Array TypeId} {ty : TypeId} {x y : Operand} {a b : SV} (hx : σ x = some a) (hy : σ y = some b) :
    QOk P look σ (fun ρ => Builtin.max_ ats ty #[ρ x, ρ y]) (qminmax true a b) := by
  unfold qminmax
  split
  · rename_i k l m k' l' n
    refine QOk.ite (fun e => QOk.v _ fun E w ρ hc hr => ?_) (fun _ => QOk.fail _)
    subst e
    rw [hr x _ hx, hr y _ hy]
    simp only [SV.val, Builtin.max_, List.foldlM_cons, List.foldlM_nil, Builtin.max2, Sem.run_bind, Sem.run_pure, Result.andThen_ok]
    congr 2
    by_cases h : n > m
    · rw [if_pos h]; omega
    · rw [if_neg h]; omega
  · exact QOk.fail _

/-! ### Composite literals -/
/-- The cells from 'off' on are replaced. -/
def setRange {α : Type} (cs : List α) (off : Nat) : List α → List α
  | [] => cs
  | v :: r => setRange (cs.set off v) (off + 1) r
theorem setRange_length {α : Type} : ∀ (vs cs : List α) (off : Nat), (setRange cs off vs).length = cs.length
  | [], _, _ => rfl
  | v :: r, cs, off => by simp [setRange, setRange_length r]
theorem setRange_map {α β : Type} (f : α → β) : ∀ (vs cs : List α) (off : Nat), (setRange cs off vs).map f = setRange (cs.map f) off (vs.map f)
  | [], _, _ => rfl
  | v :: r, cs, off => by simp [setRange, setRange_map f r, List.map_set]
theorem foldl_setRange : ∀ (vs : List Value) (cells : Array Value) (off k : Nat),
    ((vs.zipIdx k).foldl (fun cs (x : Value × Nat) => cs.setIfInBounds (off + x.2) x.1) cells).toList = setRange cells.toList (off + k) vs
  | [], _, _, _ => rfl
  | v :: r, cells, off, k => by
    simp only [List.zipIdx_cons, List.foldl_cons, setRange]
    rw [foldl_setRange r]
    simp [Nat.add_assoc]
def fillS (place : Nat → Option (Nat × Nat)) (cells : List SV) : List (Nat × SV) → Option (List SV)
  | [] => some cells
  | (i, v) :: rest =>
    match place i with
    | none => none
    | some (off, size) =>
      if v.plain && decide (v.cells.length = size) && decide (off + size ≤ cells.length) then fillS place (setRange cells off v.cells) rest else none
theorem fillS_run {E : Nat → Nat} {place : Nat → Option (Nat × Nat)} : ∀ (parts : List (Nat × SV)) (cells out : List SV), fillS place cells parts = some out →
    Instr.fill place (SV.vals E cells).toArray (parts.map fun p => (p.1, p.2.val E)) = some (SV.vals E out).toArray
  | [], cells, out, h => by simp [fillS] at h; subst h; rfl
  | (i, v) :: rest, cells, out, h => by
    simp only [fillS] at h
    split at h
    · cases h
    · rename_i off size hp
      split at h
      · rename_i hc
        simp only [Bool.and_eq_true, decide_eq_true_eq] at hc
        obtain ⟨⟨h1, h2⟩, h3⟩ := hc
        have ih := fillS_run (E := E) rest _ out h
        simp only [List.map_cons, Instr.fill, hp]
        rw [SV.cells_val h1]
        rw [if_neg (by simp [h2, SV.vals_eq]; omega)]
        rw [← ih]
        congr 1
        apply Array.ext'
        rw [← Array.foldl_toList, Array.toList_zipIdx, foldl_setRange]
        simp [SV.vals_eq, setRange_map]
      · cases h
def partsOf (σ : Operand → Option SV) : List (Nat × Operand) → Option (List (Nat × SV))
  | [] => some []
  | (i, x) :: r => match σ x, partsOf σ r with
    | some v, some l => some ((i, v) :: l)
    | _, _ => none
theorem partsOf_val {σ : Operand → Option SV} {E : Nat → Nat} {ρ : Operand → Value} (hr : Reads E σ ρ) : ∀ {ps : List (Nat × Operand)} {l : List (Nat × SV)}, partsOf σ ps = some l →
    ps.map (fun p => (p.1, ρ p.2)) = l.map fun p => (p.1, p.2.val E)
  | [], l, h => by simp [partsOf] at h; subst h; rfl
  | (i, x) :: r, l, h => by
    simp only [partsOf] at h
    split at h
    · rename_i v l' hv hl
      injection h with h; subst h
      simp [hr x v hv, partsOf_val hr hl]
    · cases h
def fieldPlaces (P : Program) : List Field → Option (List (Nat × Nat))
  | [] => some []
  | f :: r => match sz P f.type, fieldPlaces P r with
    | some n, some l => some ((f.offset, n) :: l)
    | _, _ => none
theorem fieldPlaces_run {w : World} : ∀ {fs : List Field} {l : List (Nat × Nat)}, fieldPlaces P fs = some l →
    (fs.mapM (fun f => do pure (f.offset, ← sizeOf f.type)) : Sem (List (Nat × Nat))).run P w = .ok l w
  | [], l, h => by simp [fieldPlaces] at h; subst h; simp
  | f :: r, l, h => by
    simp only [fieldPlaces] at h
    split at h
    · rename_i n l' hn hl
      injection h with h; subst h
      have ih := fieldPlaces_run (w := w) hl
      simp at ih
      simp [List.mapM_cons, run_sz hn, ih]
    · cases h
def qbuild (P : Program) (σ : Operand → Option SV) (t : TypeId) (parts : List (Nat × Operand)) (K : Option SV → VC) : VC :=
  match P.underlying t, zeroSV P t, partsOf σ parts with
  | some (.struct fs), some (.agg zs), some ps => (match fieldPlaces P fs.toList with
    | some pl => (match fillS (fun i => pl[i]?) zs ps with
      | some out => K (some (.agg out))
      | none => .fail "build: fill")
    | none => .fail "build: places")
  | some (.array _ e), some (.agg zs), some ps => (match sz P e with
    | some m => (match fillS (fun i => some (i * m, m)) zs ps with
      | some out => K (some (.agg out))
      | none => .fail "build: fill")
    | none => .fail "build: places")
  | _, _, _ => .fail "build"
theorem qbuild_ok {t : TypeId} {parts : Array (Nat × Operand)} :
    QOk P look σ (fun ρ => Instr.build t (parts.map fun (i, x) => (i, ρ x))) (qbuild P σ t parts.toList) := by
  unfold qbuild
  split
  · rename_i fs zs ps hd hz hp
    split
    · rename_i pl hpl
      split
      · rename_i out hf
        refine QOk.v _ fun E w ρ hc hr => ?_
        have hm : (fs.mapM (fun f => do pure (f.offset, ← sizeOf f.type)) : Sem (Array (Nat × Nat))).run P w = .ok pl.toArray w := by
          have := fieldPlaces_run (P := P) (w := w) hpl
          rw [Array.mapM_eq_mapM_toList]
          simp only [Sem.run_map, this, Result.andThen_ok]
        have hfill := fillS_run (E := E) ps zs out hf
        have hparts := partsOf_val hr hp
        have hpp : (parts.map fun (x : Nat × Operand) => (x.1, ρ x.2)).toList = ps.map fun p => (p.1, p.2.val E) := by rw [← hparts]; simp
        simp only [Instr.build, Sem.run_bind, zeroSV_run (E := E) hz, Result.andThen_ok, run_und hd, hm]
        simp only [SV.val, Value.cells, hpp, List.getElem?_toArray, hfill]
        rfl
      · exact QOk.fail _
    · exact QOk.fail _
  · rename_i e zs ps hd hz hp
    split
    · rename_i m hm
      split
      · rename_i out hf
        refine QOk.v _ fun E w ρ hc hr => ?_
        have hfill := fillS_run (E := E) ps zs out hf
        have hparts := partsOf_val hr hp
        have hpp : (parts.map fun (x : Nat × Operand) => (x.1, ρ x.2)).toList = ps.map fun p => (p.1, p.2.val E) := by rw [← hparts]; simp
        simp only [Instr.build, Sem.run_bind, zeroSV_run (E := E) hz, Result.andThen_ok, run_und hd, run_sz hm]
        simp only [SV.val, Value.cells, hpp, hfill]
        rfl
      · exact QOk.fail _
    · exact QOk.fail _
  · exact QOk.fail _
end
end Go.Proofs.Ytobbhdmbblhgaaa.Sx
