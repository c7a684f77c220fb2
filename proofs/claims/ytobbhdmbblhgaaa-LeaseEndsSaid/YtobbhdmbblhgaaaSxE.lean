/-
  The framework's fifth part: slices of slices, assertions, len and its like, composite literals; 'qop', all quiet operations.
-/
import Derived.Test.YtobbhdmbblhgaaaSxD
import Derived.BigFrame
namespace Go.Proofs.Ytobbhdmbblhgaaa.Sx
open Go

section
variable {P : Program} {look : Look} {σ : Operand → Option SV}

/-! ### x[l:h] -/
/-- A bound: is it known; the number. 'd': what stands there if it is left out. -/
def bound (σ : Operand → Option SV) (d : Bool × Int) : Option Operand → Option (Bool × Int)
  | none => some d
  | some x => match σ x with
    | some (.int _ l n) => some (l, n)
    | _ => none
def subStr (s : List UInt8) : Option Operand → Option Operand → Int → Int → List UInt8
  | none, none, _, _ => s
  | none, some _, _, h => s.take h.toNat
  | some _, none, l, _ => s.drop l.toNat
  | some _, some _, l, h => (s.drop l.toNat).take (h.toNat - l.toNat)
def chk (l : Bool) (c : Prop) [Decidable c] (t : VC) : VC :=
  match l with
  | true => if c then t else .fail "a bound"
  | false => .and (.atom c) t
theorem QOk.chk {s : (Operand → Value) → Sem Value} {l : Bool} {c : Prop} [Decidable c] {t : QT} (h : c → QOk P look σ s t) : QOk P look σ s (fun K => Sx.chk l c (t K)) := by
  unfold Sx.chk
  cases l
  · exact QOk.atom h
  · exact QOk.ite h (fun _ => QOk.fail _)
def qsliceStr (σ : Operand → Option SV) (l : Bool) (s : List UInt8) (lo hi : Option Operand) (K : Option SV → VC) : VC :=
  match bound σ (true, 0) lo, bound σ (l, s.length) hi with
  | some (l1, a), some (l2, b) => chk (l && l1 && l2) (0 ≤ a ∧ a ≤ b ∧ b ≤ s.length) (K (some (.str (l && l1 && l2) (subStr s lo hi a b))))
  | _, _ => .fail "slice of a text"
def qsliceSlc (σ : Operand → Option SV) (m : Nat) (arr : Bool) (key o n : Nat) (cl : Bool) (c : Nat) (lo hi : Option Operand) (K : Option SV → VC) : VC :=
  match bound σ (true, 0) lo, bound σ (true, n) hi with
  | some (true, a), some (true, b) => chk true (0 ≤ a ∧ a ≤ b) (chk cl (b ≤ c) (match cl with
    | true => K (some (.slc key (if c = a.toNat then o else o + a.toNat * m) (b.toNat - a.toNat) cl (c - a.toNat)))
    | false => fork (decide (c = a.toNat)) (fun e => match e with
      | true => K (some (.slc key o (b.toNat - a.toNat) cl (c - a.toNat)))
      | false => K (some (.slc key (o + a.toNat * m) (b.toNat - a.toNat) cl (c - a.toNat))))))
  | _, _ => .fail "slice: bounds that are not known"
def qsliceRow (σ : Operand → Option SV) (key w i n c : Nat) (lo hi : Option Operand) (K : Option SV → VC) : VC :=
  match bound σ (true, 0) lo, bound σ (false, n) hi with
  | some (_, a), some (_, b) => .and (.atom (0 ≤ a ∧ a ≤ b ∧ b ≤ c)) (fork (decide (c = a.toNat)) (fun e => match e with
      | true => K (some (.rslc key w false i (b.toNat - a.toNat) (c - a.toNat)))
      | false => K (some (.rslc key w false (i + a.toNat) (b.toNat - a.toNat) (c - a.toNat)))))
  | _, _ => .fail "slice: bounds"
def qslice (P : Program) (σ : Operand → Option SV) (t : TypeId) (x : Option SV) (lo hi mx : Option Operand) (K : Option SV → VC) : VC :=
  match mx, P.underlying t, x with
  | none, some .string, some (.str l s) => qsliceStr σ l s lo hi K
  | none, some (.array n e), some (.ptr key true o) => (match sz P e with
    | some m => qsliceSlc σ m true key o n true n lo hi K
    | none => .fail "slice")
  | none, some (.slice e), some (.slc key o n cl c) => (match sz P e with
    | some m => qsliceSlc σ m false key o n cl c lo hi K
    | none => .fail "slice")
  | none, some (.slice e), some (.rslc key w false i n c) => (match sz P e with
    | some m => if m = w then qsliceRow σ key w i n c lo hi K else .fail "slice: another row"
    | none => .fail "slice")
  | _, _, _ => .fail "slice"

theorem bound_run {E : Nat → Nat} {w : World} {ρ : Operand → Value} (hr : Reads E σ ρ) {d : Bool × Int} {x : Operand} {l : Bool} {n : Int}
    (h : bound σ d (some x) = some (l, n)) {y : Nat} {code : BoundsCode} (h0 : 0 ≤ n) (h1 : n ≤ y) : (Instr.sliceBound (ρ x) y code).run P w = .ok n.toNat w := by
  simp only [bound] at h
  split at h
  · rename_i k l' n' hx
    injection h with h; injection h with _ h; subst h
    rw [hr x _ hx]
    simp [SV.val, Instr.sliceBound, asIntOf, h0, h1]
  · cases h
theorem bounds_run {E : Nat → Nat} {w : World} {ρ : Operand → Value} (hr : Reads E σ ρ) {isSlice : Bool} {n c : Nat} {lo hi : Option Operand} {la lb ld : Bool} {a b : Int}
    (ha : bound σ (true, 0) lo = some (la, a)) (hb : bound σ (ld, (n : Int)) hi = some (lb, b)) (h0 : 0 ≤ a) (h1 : a ≤ b) (h2 : b ≤ c) :
    (Instr.sliceBounds isSlice n c (lo.map ρ) (hi.map ρ) none).run P w = .ok (a.toNat, b.toNat, c) w := by
  cases hi with
  | none =>
    simp only [bound] at hb; injection hb with hb; injection hb with _ hb; subst hb
    cases lo with
    | none =>
      simp only [bound] at ha; injection ha with ha; injection ha with _ ha; subst ha
      simp [Instr.sliceBounds]
    | some x =>
      have hx := fun code => bound_run (P := P) (w := w) hr ha (y := n) (code := code) h0 h1
      simp [Instr.sliceBounds, hx]
  | some y =>
    have hy := fun code => bound_run (P := P) (w := w) hr hb (y := c) (code := code) (by omega) h2
    cases lo with
    | none =>
      simp only [bound] at ha; injection ha with ha; injection ha with _ ha; subst ha
      simp [Instr.sliceBounds, hy]
    | some x =>
      have hx := fun code => bound_run (P := P) (w := w) hr ha (y := b.toNat) (code := code) h0 (by omega)
      simp [Instr.sliceBounds, hy, hx]
theorem bytes_extract (s : List UInt8) (l h : Nat) : (ByteArray.mk s.toArray).extract l h = ⟨((s.drop l).take (h - l)).toArray⟩ := by
  apply ByteArray.ext
  rw [ByteArray.data_extract]
  simp
theorem subStr_eq {σ : Operand → Option SV} {s : List UInt8} {ls la lb : Bool} {lo hi : Option Operand} {a b : Int}
    (ha : bound σ (true, 0) lo = some (la, a)) (hb : bound σ (ls, (s.length : Int)) hi = some (lb, b)) (h : 0 ≤ a ∧ a ≤ b ∧ b ≤ s.length) :
    (s.drop a.toNat).take (b.toNat - a.toNat) = subStr s lo hi a b := by
  cases lo with
  | none =>
    simp only [bound] at ha; injection ha with ha; injection ha with _ ha; subst ha
    cases hi with
    | none => simp only [bound] at hb; injection hb with hb; injection hb with _ hb; subst hb; simp [subStr]
    | some y => simp [subStr]
  | some x =>
    cases hi with
    | none =>
      simp only [bound] at hb; injection hb with hb; injection hb with _ hb; subst hb
      simp only [subStr]
      rw [List.take_of_length_le]; simp
    | some y => rfl
theorem qslice_ok {t : TypeId} {x : Operand} {lo hi mx : Option Operand} :
    QOk P look σ (fun ρ => Instr.sliceAt t (ρ x) (lo.map ρ) (hi.map ρ) (mx.map ρ)) (qslice P σ t (σ x) lo hi mx) := by
  unfold qslice
  split
  · rename_i l s hd hx
    unfold qsliceStr
    split
    · rename_i l1 a l2 b ha hb
      refine QOk.chk fun h => QOk.v _ fun E w ρ hc hr => ?_
      have hs : (ByteArray.mk s.toArray).size = s.length := by simp [ByteArray.size]
      have := bounds_run (P := P) (w := w) hr (isSlice := false) (c := s.length) ha hb h.1 h.2.1 h.2.2
      simp only [hr x _ hx, SV.val, Instr.sliceAt, Sem.run_bind, run_und hd, Result.andThen_ok, Instr.slice, Option.map, hs]
      simp only [Option.map] at this
      simp only [Option.isSome_none, Bool.false_eq_true, if_false, Sem.run_bind]
      rw [this]
      simp only [Result.andThen_ok, Sem.run_pure, bytes_extract, subStr_eq ha hb h]
    · exact QOk.fail _
  · rename_i n e key o hd hx
    split
    · rename_i m hm
      unfold qsliceSlc
      split
      · rename_i a b ha hb
        refine QOk.chk fun h => QOk.chk fun h' => QOk.v _ fun E w ρ hc hr => ?_
        have := bounds_run (P := P) (w := w) hr (isSlice := false) (c := n) ha hb h.1 h.2 h'
        simp only [Option.map] at this
        simp only [hr x _ hx, SV.val, Instr.sliceAt, Sem.run_bind, run_und hd, Result.andThen_ok, Option.map, Instr.sureAddr, Sem.run_pure, this, run_sz hm, add_none]
        split <;> rfl
      · exact QOk.fail _
    · exact QOk.fail _
  · rename_i e key o n cl c hd hx
    split
    · rename_i m hm
      have main : ∀ {la lb : Bool} {a b : Int}, bound σ (true, 0) lo = some (la, a) → bound σ (true, (n : Int)) hi = some (lb, b) → 0 ≤ a → a ≤ b → b ≤ c →
          ∀ E w ρ, Reads E σ ρ → (Instr.sliceAt t (ρ x) (lo.map ρ) (hi.map ρ) ((none : Option Operand).map ρ)).run P w =
            .ok ((SV.slc key (if c = a.toNat then o else o + a.toNat * m) (b.toNat - a.toNat) cl (c - a.toNat)).val E) w := by
        intro la lb a b ha hb h0 h1 h2 E w ρ hr
        have := bounds_run (P := P) (w := w) hr (isSlice := true) (c := c) ha hb h0 h1 h2
        simp only [Option.map] at this
        simp only [hr x _ hx, SV.val, Instr.sliceAt, Sem.run_bind, run_und hd, Result.andThen_ok, Option.map, Instr.slice, this, run_sz hm, add_none, Sem.run_pure]
        split <;> rfl
      unfold qsliceSlc
      split
      · rename_i a b ha hb
        refine QOk.chk fun h => QOk.chk fun h' => ?_
        cases cl with
        | true => exact QOk.v _ fun E w ρ hc hr => main ha hb h.1 h.2 h' E w ρ hr
        | false =>
          refine QOk.fork ?_
          by_cases hca : c = a.toNat
          · rw [decide_eq_true hca]
            refine QOk.v _ fun E w ρ hc hr => ?_
            have := main ha hb h.1 h.2 h' E w ρ hr
            rw [if_pos hca] at this; exact this
          · rw [decide_eq_false hca]
            refine QOk.v _ fun E w ρ hc hr => ?_
            have := main ha hb h.1 h.2 h' E w ρ hr
            rw [if_neg hca] at this; exact this
      · exact QOk.fail _
    · exact QOk.fail _
  · rename_i e key w0 i n c hd hx
    split
    · rename_i m hm
      refine QOk.ite (fun hmw => ?_) (fun _ => QOk.fail _)
      subst hmw
      unfold qsliceRow
      split
      · rename_i l1 a l2 b ha hb
        refine QOk.atom fun h => QOk.fork ?_
        have main : ∀ E w ρ, Reads E σ ρ → (Instr.sliceAt t (ρ x) (lo.map ρ) (hi.map ρ) ((none : Option Operand).map ρ)).run P w =
            .ok ((SV.rslc key m false (if c = a.toNat then i else i + a.toNat) (b.toNat - a.toNat) (c - a.toNat)).val E) w := by
          intro E w ρ hr
          have := bounds_run (P := P) (w := w) hr (isSlice := true) (c := c) ha hb h.1 h.2.1 h.2.2
          simp only [Option.map] at this
          simp only [hr x _ hx, SV.val, Bool.false_and, cond_false, Instr.sliceAt, Sem.run_bind, run_und hd, Result.andThen_ok, Option.map, Instr.slice, this, run_sz hm, add_none, Sem.run_pure]
          split
          · rfl
          · simp [add_none, Nat.add_mul]
        by_cases hca : c = a.toNat
        · rw [decide_eq_true hca]
          refine QOk.v _ fun E w ρ hc hr => ?_
          have := main E w ρ hr
          rw [if_pos hca] at this; exact this
        · rw [decide_eq_false hca]
          refine QOk.v _ fun E w ρ hc hr => ?_
          have := main E w ρ hr
          rw [if_neg hca] at this; exact this
      · exact QOk.fail _
    · exact QOk.fail _
  · exact QOk.fail _
end
end Go.Proofs.Ytobbhdmbblhgaaa.Sx
