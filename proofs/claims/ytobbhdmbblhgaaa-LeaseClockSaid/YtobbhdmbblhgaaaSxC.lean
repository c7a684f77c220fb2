/-
  The framework's third part: more operations that leave the world alone: arithmetic, comparisons, strings, structs.
-/
import Derived.Test.YtobbhdmbblhgaaaSxB
namespace Go.Proofs.Ytobbhdmbblhgaaa.Sx
open Go

section
variable {P : Program} {look : Look} {σ : Operand → Option SV}

/-! ### Integers -/
def qarith (k : IntKind) (l : Bool) (n : Int) (K : Option SV → VC) : VC :=
  match l with
  | true => K (some (.int k true (k.wrap n)))
  | false => match k.signed with
    | true => .and (.atom (lo k ≤ n ∧ n ≤ hi k)) (K (some (.int k false n)))
    | false => K (some (.int k false (n % md k)))
theorem qarith_ok {s : (Operand → Value) → Sem Value} {k : IntKind} {l : Bool} {n : Int}
    (h : ∀ E w ρ, Compat E look w → Reads E σ ρ → (s ρ).run P w = .ok (.int k (k.wrap n)) w) : QOk P look σ s (qarith k l n) := by
  unfold qarith
  cases l with
  | true => exact QOk.v _ fun E w ρ hc hr => h E w ρ hc hr
  | false =>
    simp only
    cases hs : k.signed with
    | true => exact QOk.atom fun hb => QOk.v _ fun E w ρ hc hr => by rw [h E w ρ hc hr, wrap_in hb]; rfl
    | false => exact QOk.v _ fun E w ρ hc hr => by rw [h E w ρ hc hr, wrap_un hs]; rfl

def qdiv (rem : Bool) (k : IntKind) (l : Bool) (a : Int) (l' : Bool) (b : Int) (K : Option SV → VC) : VC :=
  match l && l' with
  | true => if b = 0 then .fail "division by zero" else (match rem with
    | true => K (some (.int k true (a.tmod b)))
    | false => K (some (.int k true (k.wrap (a.tdiv b)))))
  | false => .and (.atom (0 ≤ a ∧ a ≤ hi k ∧ 0 < b)) (match rem with
    | true => K (some (.int k false (a % b)))
    | false => K (some (.int k false (a / b))))
theorem lo_nonpos (k : IntKind) : lo k ≤ 0 := by cases k <;> simp [lo]
theorem qdiv_ok {s : (Operand → Value) → Sem Value} {rem : Bool} {k : IntKind} {l l' : Bool} {a b : Int}
    (h : ∀ E w ρ, Compat E look w → Reads E σ ρ → (s ρ).run P w = (Op.intDiv (if rem then .rem else .quo) k a b).run P w) : QOk P look σ s (qdiv rem k l a l' b) := by
  unfold qdiv
  cases (l && l') with
  | true =>
    refine QOk.ite (fun _ => QOk.fail _) fun hb => ?_
    cases rem with
    | true => exact QOk.v _ fun E w ρ hc hr => by rw [h E w ρ hc hr]; simp [Op.intDiv, hb, SV.val]
    | false => exact QOk.v _ fun E w ρ hc hr => by rw [h E w ρ hc hr]; simp [Op.intDiv, hb, SV.val]
  | false =>
    refine QOk.atom fun ⟨h0, h1, h2⟩ => ?_
    have hb : b ≠ 0 := by omega
    cases rem with
    | true => exact QOk.v _ fun E w ρ hc hr => by rw [h E w ρ hc hr]; simp [Op.intDiv, hb, SV.val, Int.tmod_eq_emod_of_nonneg h0]
    | false =>
      refine QOk.v _ fun E w ρ hc hr => ?_
      have e : k.wrap (a.tdiv b) = a / b := by
        rw [Int.tdiv_eq_ediv_of_nonneg h0]
        have : a / b ≤ a := Int.ediv_le_self b h0
        have : 0 ≤ a / b := Int.ediv_nonneg h0 (by omega)
        exact wrap_in ⟨by have := lo_nonpos k; omega, by omega⟩
      rw [h E w ρ hc hr]; simp [Op.intDiv, hb, SV.val, e]

def qshift (left : Bool) (k : IntKind) (l : Bool) (a : Int) (l' : Bool) (b : Int) (K : Option SV → VC) : VC :=
  match l' with
  | true => if b < 0 then .fail "negative shift" else (match left with
    | true => qarith k l (a * (2 ^ (min b.toNat k.bits) : Nat)) K
    | false => K (some (.int k l (a / (2 ^ (min b.toNat k.bits) : Nat)))))
  | false => .fail "shift by a number that is not known"
theorem qshift_ok {s : (Operand → Value) → Sem Value} {left : Bool} {k yk : IntKind} {l l' : Bool} {a b : Int}
    (h : ∀ E w ρ, Compat E look w → Reads E σ ρ → (s ρ).run P w = (Op.shift (if left then .shl else .shr) k a yk b).run P w) : QOk P look σ s (qshift left k l a l' b) := by
  unfold qshift
  cases l' with
  | false => exact QOk.fail _
  | true =>
    refine QOk.ite (fun _ => QOk.fail _) fun hb => ?_
    cases left with
    | true => exact qarith_ok fun E w ρ hc hr => by rw [h E w ρ hc hr]; simp [Op.shift, hb]
    | false =>
      refine QOk.v _ fun E w ρ hc hr => ?_
      rw [h E w ρ hc hr]
      simp only [Op.shift, hb, if_false, Bool.false_eq_true, Sem.run_pure, SV.val]
      rw [Int.fdiv_eq_ediv_of_nonneg _ (Int.pow_nonneg (by decide))]
      simp

def bitsOf (op : BinOp) (a b : Int) : Int :=
  match op with
  | .and => Int.ofNat (a.toNat &&& b.toNat)
  | .or => Int.ofNat (a.toNat ||| b.toNat)
  | _ => Int.ofNat (a.toNat ^^^ b.toNat)
def qbits (op : BinOp) (k : IntKind) (l : Bool) (a b : Int) (K : Option SV → VC) : VC :=
  match l with
  | true => if 0 ≤ a ∧ a ≤ hi k ∧ 0 ≤ b ∧ b ≤ hi k then K (some (.int k true (bitsOf op a b))) else .fail "bits: below zero"
  | false => .and (.atom (0 ≤ a ∧ a ≤ hi k ∧ 0 ≤ b ∧ b ≤ hi k)) (K (some (.int k false (bitsOf op a b))))
theorem hi_lt (k : IntKind) : hi k < 2 ^ k.bits := by cases k <;> decide
theorem toNat_ofInt {w : Nat} {a : Int} (h0 : 0 ≤ a) (h1 : a < 2 ^ w) : (BitVec.ofInt w a).toNat = a.toNat := by
  rw [BitVec.toNat_ofInt]
  congr 1
  exact Int.emod_eq_of_lt h0 (by exact_mod_cast h1)
theorem bits_run {op : BinOp} (hop : op = .and ∨ op = .or ∨ op = .xor) {k : IntKind} {a b : Int} (h : 0 ≤ a ∧ a ≤ hi k ∧ 0 ≤ b ∧ b ≤ hi k) (w : World) :
    (Op.intBits op k a b).run P w = .ok (.int k (bitsOf op a b)) w := by
  obtain ⟨a0, a1, b0, b1⟩ := h
  have hk := hi_lt k
  have ea := toNat_ofInt (w := k.bits) a0 (by omega)
  have eb := toNat_ofInt (w := k.bits) b0 (by omega)
  have la : a.toNat < 2 ^ k.bits := by have : (a.toNat : Int) < ((2 ^ k.bits : Nat) : Int) := by rw [Int.toNat_of_nonneg a0]; push_cast; omega
                                       exact_mod_cast this
  have lb : b.toNat < 2 ^ k.bits := by have : (b.toNat : Int) < ((2 ^ k.bits : Nat) : Int) := by rw [Int.toNat_of_nonneg b0]; push_cast; omega
                                       exact_mod_cast this
  have hh : (hi k).toNat + 1 = 2 ^ k.bits ∨ (hi k).toNat + 1 = 2 ^ (k.bits - 1) := by cases k <;> simp [hi, IntKind.bits]
  have key : ∀ n : Nat, n ≤ (hi k).toNat → k.wrap (n : Int) = n := fun n hn => wrap_in ⟨by have := lo_nonpos k; omega, by
    have : 0 ≤ hi k := by cases k <;> simp [hi]
    omega⟩
  have ba : a.toNat ≤ (hi k).toNat := by omega
  have bb : b.toNat ≤ (hi k).toNat := by omega
  have hand : a.toNat &&& b.toNat ≤ (hi k).toNat := Nat.le_trans Nat.and_le_left ba
  have two : ∃ m, (hi k).toNat + 1 = 2 ^ m := by rcases hh with h | h <;> exact ⟨_, h⟩
  obtain ⟨m, hm⟩ := two
  have hor : a.toNat ||| b.toNat ≤ (hi k).toNat := by
    have := Nat.or_lt_two_pow (x := a.toNat) (y := b.toNat) (n := m) (by omega) (by omega); omega
  have hxor : a.toNat ^^^ b.toNat ≤ (hi k).toNat := by
    have := Nat.xor_lt_two_pow (x := a.toNat) (y := b.toNat) (n := m) (by omega) (by omega); omega
  rcases hop with rfl | rfl | rfl
  · simp only [Op.intBits, bitsOf, Sem.run_pure, BitVec.toNat_and, ea, eb]; rw [key _ hand]; rfl
  · simp only [Op.intBits, bitsOf, Sem.run_pure, BitVec.toNat_or, ea, eb]; rw [key _ hor]; rfl
  · simp only [Op.intBits, bitsOf, Sem.run_pure, BitVec.toNat_xor, ea, eb]; rw [key _ hxor]; rfl
theorem qbits_ok {s : (Operand → Value) → Sem Value} {op : BinOp} (hop : op = .and ∨ op = .or ∨ op = .xor) {k : IntKind} {l : Bool} {a b : Int}
    (h : ∀ E w ρ, Compat E look w → Reads E σ ρ → (s ρ).run P w = (Op.intBits op k a b).run P w) : QOk P look σ s (qbits op k l a b) := by
  unfold qbits
  cases l with
  | true => exact QOk.ite (fun hb => QOk.v _ fun E w ρ hc hr => by rw [h E w ρ hc hr, bits_run hop hb]; rfl) (fun _ => QOk.fail _)
  | false => exact QOk.atom fun hb => QOk.v _ fun E w ρ hc hr => by rw [h E w ρ hc hr, bits_run hop hb]; rfl

def qint (op : BinOp) (k : IntKind) (l : Bool) (a : Int) (l' : Bool) (b : Int) (K : Option SV → VC) : VC :=
  match op with
  | .add => qarith k (l && l') (a + b) K
  | .sub => qarith k (l && l') (a - b) K
  | .mul => qarith k (l && l') (a * b) K
  | .quo => qdiv false k l a l' b K
  | .rem => qdiv true k l a l' b K
  | .and => qbits .and k (l && l') a b K
  | .or => qbits .or k (l && l') a b K
  | .xor => qbits .xor k (l && l') a b K
  | .eql => K (some (.bool (l && l') (decide (a = b))))
  | .neq => K (some (.bool (l && l') (!decide (a = b))))
  | .lss => K (some (.bool (l && l') (decide (a < b))))
  | .leq => K (some (.bool (l && l') (decide (a ≤ b))))
  | .gtr => K (some (.bool (l && l') (decide (b < a))))
  | .geq => K (some (.bool (l && l') (decide (b ≤ a))))
  | _ => .fail "binOp: integers"

/-! ### Strings -/
def maxLen64 : Int := 9223372036854775807
def qstr (op : BinOp) (l : Bool) (a b : List UInt8) (K : Option SV → VC) : VC :=
  match op with
  | .add => match l with
    | true => if (a.length : Int) + b.length ≤ maxLen64 then K (some (.str true (a ++ b))) else .fail "a text that is too long"
    | false => .and (.atom ((a.length : Int) + b.length ≤ 9223372036854775807)) (K (some (.str false (a ++ b))))
  | .eql => K (some (.bool l (decide (a = b))))
  | .neq => K (some (.bool l (!decide (a = b))))
  | .lss => K (some (.bool l (Op.bytesLess a b)))
  | .leq => K (some (.bool l (Op.bytesLess a b || decide (a = b))))
  | .gtr => K (some (.bool l (!(Op.bytesLess a b || decide (a = b)))))
  | .geq => K (some (.bool l (!Op.bytesLess a b)))
  | _ => .fail "binOp: texts"
theorem bytes_toList (a : List UInt8) : (ByteArray.mk a.toArray).toList = a := by rw [ByteArray.toList_eq]
theorem bytes_append (a b : List UInt8) : (ByteArray.mk a.toArray) ++ (ByteArray.mk b.toArray) = ByteArray.mk (a ++ b).toArray := by
  apply ByteArray.ext
  rw [ByteArray.data_append]; simp
theorem imax : IntKind.i64.max = 9223372036854775807 := by decide
theorem qstr_ok {s : (Operand → Value) → Sem Value} {op : BinOp} {l : Bool} {a b : List UInt8}
    (h : ∀ E w ρ, Compat E look w → Reads E σ ρ → (s ρ).run P w = (Op.stringOp op ⟨a.toArray⟩ ⟨b.toArray⟩).run P w) : QOk P look σ s (qstr op l a b) := by
  have he : (a == b) = decide (a = b) := by by_cases e : a = b <;> simp [e]
  have sa : (ByteArray.mk a.toArray).size = a.length := by simp [ByteArray.size]
  have sb : (ByteArray.mk b.toArray).size = b.length := by simp [ByteArray.size]
  unfold qstr
  cases op
  case add =>
    have go : (a.length : Int) + b.length ≤ 9223372036854775807 → ∀ w, (Op.stringOp .add ⟨a.toArray⟩ ⟨b.toArray⟩).run P w = .ok (.string ⟨(a ++ b).toArray⟩) w := fun hb w => by
      simp only [Op.stringOp, sa, sb, imax, bytes_append]
      rw [if_neg (by omega)]; rfl
    cases l with
    | true => exact QOk.ite (fun hb => QOk.v _ fun E w ρ hc hr => by rw [h E w ρ hc hr, go hb]; rfl) (fun _ => QOk.fail _)
    | false => exact QOk.atom fun hb => QOk.v _ fun E w ρ hc hr => by rw [h E w ρ hc hr, go hb]; rfl
  all_goals first
    | exact QOk.fail _
    | (refine QOk.v _ fun E w ρ hc hr => ?_; rw [h E w ρ hc hr]; simp [Op.stringOp, bytes_toList, SV.val, he])
end

/-! ### Equality -/
def stepAnd (x : Bool × Bool) (y : Option (Bool × Bool)) : Option (Bool × Bool) :=
  match x with
  | (true, false) => some (true, false)
  | (l, b) => match y with
    | some (l', b') => some (l && l', b && b')
    | none => none
def partOf (P : Program) (t : TypeId) (cs : List SV) (off : Nat) : Option SV :=
  match P.underlying t with
  | none => none
  | some d => match isAggD d with
    | true => match sz P t with
      | some n => match takeAt cs off n with
        | some l => some (.agg l)
        | none => none
      | none => none
    | false => cs[off]?
theorem partOf_run {P : Program} {E : Nat → Nat} {w : World} {t : TypeId} {cs : List SV} {off : Nat} {v : SV} (h : partOf P t cs off = some v) :
    (part t (SV.vals E cs).toArray off).run P w = .ok (v.val E) w := by
  unfold partOf at h
  split at h
  · cases h
  · rename_i d hd
    split at h
    · rename_i ha
      split at h
      · rename_i n hn
        split at h
        · rename_i l hl
          injection h with h; subst h
          have hg := takeAt_get hl
          simp only [part, Sem.run_bind, run_isAgg hd, ha, Result.andThen_ok, if_true, run_sz hn, Sem.run_pure, SV.val, SV.vals_eq]
          congr 2
          apply Array.ext'
          simp only [Array.toList_extract, List.toList_toArray, List.extract_eq_take_drop]
          rw [show off + n - off = n by omega, List.map_drop.symm, List.map_take.symm]
          congr 1
          apply List.ext_getElem?
          intro j
          rw [List.getElem?_take]
          split
          · rename_i hj
            rw [List.getElem?_drop]
            obtain ⟨u, hu⟩ : ∃ u, l[j]? = some u := ⟨l[j]'(by omega), List.getElem?_eq_getElem _⟩
            rw [hu, hg.2 j u hu]
          · rw [List.getElem?_eq_none (by omega)]
        · cases h
      · cases h
    · rename_i ha
      simp only [part, Sem.run_bind, run_isAgg hd, ha, Result.andThen_ok, SV.vals_eq]
      simp [h]
def eqv (P : Program) : Nat → TypeId → SV → SV → Option (Bool × Bool)
  | 0, _, _, _ => none
  | d + 1, t, x, y =>
    match P.underlying t, x, y with
    | some .bool, .bool l a, .bool l' b => some (l && l', a == b)
    | some (.int _), .int k l a, .int k' l' b => if k = k' then some (l && l', decide (a = b)) else none
    | some .string, .str l a, .str l' b => some (l && l', decide (a = b))
    | some (.pointer _), .nilptr, .nilptr => some (true, true)
    | some (.pointer _), .nilptr, .ptr .. => some (true, false)
    | some (.pointer _), .ptr .., .nilptr => some (true, false)
    | some (.pointer _), .nilptr, .eptr .. => some (true, false)
    | some (.pointer _), .eptr .., .nilptr => some (true, false)
    | some (.pointer e), .ptr key ol o, .ptr key' ol' o' => match sz P e with
      | some (_ + 1) => if key = key' then some (ol && ol', decide (o = o')) else none
      | _ => none
    | some (.interface _), .niliface, .niliface => some (true, true)
    | some (.interface _), .niliface, .iface .. => some (true, false)
    | some (.interface _), .iface .., .niliface => some (true, false)
    | some (.interface _), .iface tx vx, .iface ty vy => if tx = ty then (match P.info? tx with
        | some i => if i.comparable then eqv P d tx vx vy else none
        | none => none) else some (true, false)
    | some (.slice _), .nilslc, .nilslc => some (true, true)
    | some (.slice _), .nilslc, .slc .. => some (true, false)
    | some (.slice _), .slc .., .nilslc => some (true, false)
    | some (.slice _), .nilslc, .rslc _ _ z _ n _ => some (!z, z && Nat.beq n 0)
    | some (.slice _), .rslc _ _ z _ n _, .nilslc => some (!z, z && Nat.beq n 0)
    | some (.map _ _), .nilmap, .nilmap => some (true, true)
    | some (.map _ _), .map _, .nilmap => some (true, false)
    | some (.func _ _ _), .nilfunc, .nilfunc => some (true, true)
    | some (.func _ _ _), .nilfunc, .func .. => some (true, false)
    | some (.func _ _ _), .func .., .nilfunc => some (true, false)
    | some (.struct fs), .agg xs, .agg ys => if P.stoodInHeld t then none else
        fs.toList.foldr (fun f acc => if f.name = "_" then acc else match partOf P f.type xs f.offset, partOf P f.type ys f.offset with
          | some u, some v => match eqv P d f.type u v with
            | some r => stepAnd r acc
            | none => none
          | _, _ => none) (some (true, true))
    | some (.pointer _), .nilptr, .veptr .. => some (true, false)
    | some (.pointer _), .veptr .., .nilptr => some (true, false)
    | some (.slice _), .nilslc, .vslc _ _ z _ _ n _ => some (false, z && Nat.beq n 0)
    | some (.slice _), .vslc _ _ z _ _ n _, .nilslc => some (false, z && Nat.beq n 0)
    | _, _, _ => none

theorem eqFields_run {P : Program} {E : Nat → Nat} {w : World} {d d' : Nat} {xs ys : List SV}
    (ih : ∀ t x y l b, eqv P d t x y = some (l, b) → (Op.equalIn d' t (x.val E) (y.val E)).run P w = .ok b w ∧ (l = true → True)) :
    ∀ (fs : List Field) (l b : Bool), fs.foldr (fun f acc => if f.name = "_" then acc else match partOf P f.type xs f.offset, partOf P f.type ys f.offset with
          | some u, some v => match eqv P d f.type u v with
            | some r => stepAnd r acc
            | none => none
          | _, _ => none) (some (true, true)) = some (l, b) →
      (Op.eqFields d' (SV.vals E xs).toArray (SV.vals E ys).toArray fs).run P w = .ok b w := by
  intro fs
  induction fs with
  | nil => intro l b h; simp at h; obtain ⟨rfl, rfl⟩ := h; simp [Op.eqFields]
  | cons f r ihl =>
    intro l b h
    simp only [List.foldr_cons] at h
    by_cases hn : f.name = "_"
    · rw [if_pos hn] at h
      simp only [Op.eqFields]
      rw [if_neg (by simp [hn])]
      exact ihl l b h
    · rw [if_neg hn] at h
      simp only [Op.eqFields]
      rw [if_pos hn]
      split at h
      · rename_i u v hu hv
        split at h
        · rename_i q hq
          obtain ⟨ql, qb⟩ := q
          have hr := (ih _ _ _ _ _ hq).1
          simp only [Sem.run_bind, partOf_run hu, partOf_run hv, Result.andThen_ok, hr, Sem.run_ite]
          cases qb with
          | false =>
            simp only [Bool.not_false, if_true, Sem.run_pure]
            unfold stepAnd at h
            split at h
            · injection h with h; injection h with _ h; rw [h]
            · rename_i l0 b0 _ heq
              injection heq with e1 e2; subst e1; subst e2
              split at h
              · injection h with h; injection h with _ h; simp at h; rw [h]
              · cases h
          | true =>
            simp only [Bool.not_true, Bool.false_eq_true, if_false]
            unfold stepAnd at h
            split at h
            · rename_i heq; cases heq
            · rename_i l0 b0 _ heq
              injection heq with e1 e2; subst e1; subst e2
              split at h
              · rename_i l' b' hacc
                injection h with h; injection h with _ h
                simp at h; subst h
                exact ihl _ _ hacc
              · cases h
        · cases h
      · cases h
set_option maxHeartbeats 2000000 in
theorem eqv_run {P : Program} {E : Nat → Nat} {w : World} : ∀ (d : Nat) (t : TypeId) (x y : SV) (l b : Bool), eqv P d t x y = some (l, b) → ∀ e, (Op.equalIn (d + e) t (x.val E) (y.val E)).run P w = .ok b w := by
  intro d
  induction d with
  | zero => intro t x y l b h; simp [eqv] at h
  | succ d ih =>
    intro t x y l b h e
    rw [show d + 1 + e = (d + e) + 1 by omega]
    unfold eqv at h
    split at h
    case h_1 => rename_i hd; injection h with h; injection h with _ h; subst h; simp [Op.equalIn, run_und hd, SV.val]
    case h_2 =>
      rename_i k l0 a k' l1 b1 hd
      split at h
      · rename_i hk; subst hk
        injection h with h; injection h with _ h; subst h; simp [Op.equalIn, run_und hd, SV.val]
        by_cases e : a = b1 <;> simp [e]
      · cases h
    case h_3 =>
      rename_i l0 a l1 b1 hd
      injection h with h; injection h with _ h; subst h
      simp [Op.equalIn, run_und hd, SV.val, beq_toListBytes, bytes_toList]
      by_cases e : a = b1 <;> simp [e]
    case h_9 =>
      rename_i el key ol o key' ol' o' hd
      split at h
      · rename_i n hn
        split at h
        · rename_i hk; subst hk
          injection h with h; injection h with _ h; subst h
          simp [Op.equalIn, run_und hd, SV.val, run_sz hn, sameAddr]
          by_cases e : o = o' <;> simp [e]
        · cases h
      · cases h
    case h_13 =>
      rename_i ms tx vx ty vy hd
      split at h
      · rename_i ht; subst ht
        split at h
        · rename_i i hi
          split at h
          · rename_i hcmp
            simp only [Op.equalIn, Sem.run_bind, run_und hd, SV.val, Result.andThen_ok, ne_eq, not_true_eq_false, if_false, run_info hi, hcmp, Bool.not_true, Bool.false_eq_true]
            exact ih _ _ _ _ _ h e
          · cases h
        · cases h
      · rename_i ht
        injection h with h; injection h with _ h; subst h
        simp [Op.equalIn, run_und hd, SV.val, ht]
    case h_24 =>
      rename_i fs xs ys hd
      split at h
      · cases h
      · rename_i hs
        have hf : P.fieldsOf t = fs := by simp [Program.fieldsOf, hd]
        have := run_equalIn_struct (P := P) w (d + e) t (SV.vals E xs).toArray (SV.vals E ys).toArray (by rw [hf]; exact hd) (by simpa using hs)
        simp only [SV.val]
        rw [this, hf]
        exact eqFields_run (fun t x y l b hq => ⟨ih t x y l b hq e, fun _ => trivial⟩) fs.toList l b h
    all_goals first
      | (cases h; done)
      | (rename_i z _ n _ hd; cases hz : z && Nat.beq n 0 <;> rw [hz] at h <;> injection h with h <;> injection h with _ h <;> subst h <;> simp only [Op.equalIn, Sem.run_bind, run_und hd, SV.val, Result.andThen_ok, hz, cond_true, cond_false] <;> rfl)
      | (rename_i z _ _ n _ hd; cases hz : z && Nat.beq n 0 <;> rw [hz] at h <;> injection h with h <;> injection h with _ h <;> subst h <;> simp only [Op.equalIn, Sem.run_bind, run_und hd, SV.val, Result.andThen_ok, hz, cond_true, cond_false] <;> rfl)
      | (rename_i hd; injection h with h; injection h with _ h; subst h; simp only [Op.equalIn, Sem.run_bind, run_und hd, SV.val, Result.andThen_ok]; rfl)
      | (rename_i hd; injection h with h; injection h with _ h; subst h; simp [Op.equalIn, run_und hd, SV.val]; done)
end Go.Proofs.Ytobbhdmbblhgaaa.Sx
