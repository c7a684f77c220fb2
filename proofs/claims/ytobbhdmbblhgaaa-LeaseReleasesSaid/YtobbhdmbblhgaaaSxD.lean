/-
  The framework's fourth part: the other operations that leave the world alone; 'qop'.
-/
import Derived.Test.YtobbhdmbblhgaaaSxC
import Derived.Laws.Build
namespace Go.Proofs.Ytobbhdmbblhgaaa.Sx
open Go

section
variable {P : Program} {look : Look} {σ : Operand → Option SV}

/-! ### binOp, unOp, convert -/
def isConst : Operand → Bool
  | .const _ => true
  | _ => false
def SV.gen : SV → Bool
  | .int .. | .str .. | .raw _ => false
  | _ => true
def guardFree (P : Program) (t : TypeId) (c : Bool) (x y : SV) : Bool :=
  x.gen && y.gen && (match x, y with
  | .niliface, .niliface => c
  | .agg _, .agg _ => !P.eqGuardType P.depth t
  | _, _ => true)
theorem isConst_eq (x : Operand) : (match x with | .const _ => true | _ => false) = isConst x := by cases x <;> rfl
theorem guardFree_run {E : Nat → Nat} {w : World} {op : BinOp} {t : TypeId} {x y : Operand} {a b : SV} (h : guardFree P t (isConst x || isConst y) a b = true) :
    (eqGuard op t x y (a.val E) (b.val E)).run P w = .ok () w := by
  unfold eqGuard guardFree at *
  cases op
  all_goals try rfl
  all_goals
    simp only [Bool.not_true, Bool.false_eq_true, if_false]
    split at h
    · simp only [Bool.and_eq_true] at h
      have := h.2
      simp only [SV.val]
      cases x <;> cases y <;> simp_all [isConst]
    · simp only [Bool.and_eq_true] at h
      have := h.2
      simp only [SV.val]
      simp at this
      simp [this]
    · rename_i h1 h2
      cases a <;> cases b <;> simp only [SV.val] <;> first
        | rfl
        | (exact (h1 rfl rfl).elim)
        | (exact (h2 _ _ rfl rfl).elim)
        | (simp [SV.gen] at h; done)
theorem binOp_eql {E : Nat → Nat} {t : TypeId} {a b : SV} (ha : a.gen = true) (hb : b.gen = true) :
    binOp .eql t (a.val E) (b.val E) = (do pure (.bool (← Op.equal t (a.val E) (b.val E))) : Sem Value) ∧
    binOp .neq t (a.val E) (b.val E) = (do pure (.bool (!(← Op.equal t (a.val E) (b.val E)))) : Sem Value) := by
  cases a <;> first | (simp [SV.gen] at ha; done) | (simp only [SV.val]; exact ⟨rfl, rfl⟩)
def qbin (P : Program) (op : BinOp) (t : TypeId) (c : Bool) (x y : SV) (K : Option SV → VC) : VC :=
  match op, x, y with
  | .shl, .int k l a, .int _ l' b => qshift true k l a l' b K
  | .shr, .int k l a, .int _ l' b => qshift false k l a l' b K
  | op, .int k l a, .int k' l' b => if k = k' then qint op k l a l' b K else .fail "binOp: kinds"
  | op, .str l a, .str l' b => qstr op (l && l') a b K
  | .eql, x, y => if guardFree P t c x y then (match eqv P 50 t x y with
      | some (l, b) => K (some (.bool l b))
      | none => .fail "eql") else .fail "eql: guard"
  | .neq, x, y => if guardFree P t c x y then (match eqv P 50 t x y with
      | some (l, b) => K (some (.bool l (!b)))
      | none => .fail "neq") else .fail "neq: guard"
  | _, _, _ => .fail "binOp"
theorem qint_ok {s : (Operand → Value) → Sem Value} {op : BinOp} {k : IntKind} {l l' : Bool} {a b : Int} (h1 : op ≠ .shl) (h2 : op ≠ .shr)
    (h : ∀ E w ρ, Compat E look w → Reads E σ ρ → (s ρ).run P w = (binOp op 0 (.int k a) (.int k b)).run P w) : QOk P look σ s (qint op k l a l' b) := by
  unfold qint
  have hb : ∀ w, (binOp op 0 (.int k a) (.int k b)).run P w = (match op with
      | .add | .sub | .mul => Op.intArith op k a b
      | .quo | .rem => Op.intDiv op k a b
      | .and | .or | .xor | .andNot => Op.intBits op k a b
      | _ => Op.intCmp op a b : Sem Value).run P w := by
    intro w; cases op <;> first | (exact absurd rfl h1) | (exact absurd rfl h2) | simp [binOp]
  cases op
  case add => exact qarith_ok fun E w ρ hc hr => by rw [h E w ρ hc hr, hb]; simp [Op.intArith]
  case sub => exact qarith_ok fun E w ρ hc hr => by rw [h E w ρ hc hr, hb]; simp [Op.intArith]
  case mul => exact qarith_ok fun E w ρ hc hr => by rw [h E w ρ hc hr, hb]; simp [Op.intArith]
  case quo => exact qdiv_ok (rem := false) fun E w ρ hc hr => by rw [h E w ρ hc hr, hb]; rfl
  case rem => exact qdiv_ok (rem := true) fun E w ρ hc hr => by rw [h E w ρ hc hr, hb]; rfl
  case and => exact qbits_ok (.inl rfl) fun E w ρ hc hr => by rw [h E w ρ hc hr, hb]
  case or => exact qbits_ok (.inr (.inl rfl)) fun E w ρ hc hr => by rw [h E w ρ hc hr, hb]
  case xor => exact qbits_ok (.inr (.inr rfl)) fun E w ρ hc hr => by rw [h E w ρ hc hr, hb]
  case shl => exact absurd rfl h1
  case shr => exact absurd rfl h2
  case andNot => exact QOk.fail _
  all_goals (refine QOk.v _ fun E w ρ hc hr => ?_; rw [h E w ρ hc hr, hb]; simp [Op.intCmp, SV.val])
  all_goals (by_cases e : a = b <;> simp [e])
theorem binOp_type {op : BinOp} {t u : TypeId} {k k' : IntKind} {a b : Int} : binOp op t (.int k a) (.int k' b) = binOp op u (.int k a) (.int k' b) := by
  cases op <;> rfl
theorem qbin_ok {op : BinOp} {t yt : TypeId} {x y : Operand} {a b : SV} (hx : σ x = some a) (hy : σ y = some b) :
    QOk P look σ (fun ρ => do eqGuard op t x y (ρ x) (ρ y); binOp op t (ρ x) (ρ y)) (qbin P op t (isConst x || isConst y) a b) := by
  have hi : ∀ {k k' : IntKind} {n m : Int} {w : World}, (do eqGuard op t x y (.int k n) (.int k' m); binOp op t (.int k n) (.int k' m) : Sem Value).run P w = (binOp op t (.int k n) (.int k' m)).run P w := by
    intro k k' n m w
    simp only [Sem.run_bind]
    have : (eqGuard op t x y (.int k n) (.int k' m)).run P w = .ok () w := by unfold eqGuard; split <;> simp
    rw [this]; rfl
  unfold qbin
  split
  · rename_i k l n k' l' m
    exact qshift_ok (left := true) (yk := k') fun E w ρ hc hr => by rw [hr x _ hx, hr y _ hy]; simp only [SV.val]; rw [hi]; rfl
  · rename_i k l n k' l' m
    exact qshift_ok (left := false) (yk := k') fun E w ρ hc hr => by rw [hr x _ hx, hr y _ hy]; simp only [SV.val]; rw [hi]; rfl
  · rename_i op' k l n k' l' m h1 h2
    refine QOk.ite (fun e => ?_) (fun _ => QOk.fail _)
    subst e
    exact qint_ok h1 h2 fun E w ρ hc hr => by rw [hr x _ hx, hr y _ hy]; simp only [SV.val]; rw [hi, binOp_type]
  · rename_i op' l n l' m
    refine qstr_ok fun E w ρ hc hr => ?_
    rw [hr x _ hx, hr y _ hy]; simp only [SV.val, Sem.run_bind]
    have : (eqGuard op t x y (.string ⟨n.toArray⟩) (.string ⟨m.toArray⟩)).run P w = .ok () w := by unfold eqGuard; split <;> simp
    rw [this]
    cases op <;> rfl
  · rename_i a' b' _ _
    refine QOk.ite (fun hg => ?_) (fun _ => QOk.fail _)
    split
    · rename_i l v he
      refine QOk.v _ fun E w ρ hc hr => ?_
      have hq := eqv_run (E := E) (w := w) 50 t a b l v he (Op.maxDepth - 50)
      have hg' := hg
      unfold guardFree at hg'
      simp only [Bool.and_eq_true] at hg'
      rw [hr x _ hx, hr y _ hy]
      simp only [Sem.run_bind, guardFree_run hg, Result.andThen_ok]
      rw [(binOp_eql hg'.1.1 hg'.1.2).1]
      simp only [Sem.run_bind, Op.equal]
      rw [show Op.maxDepth = 50 + (Op.maxDepth - 50) from rfl, hq]; rfl
    · exact QOk.fail _
  · rename_i a' b' _ _
    refine QOk.ite (fun hg => ?_) (fun _ => QOk.fail _)
    split
    · rename_i l v he
      refine QOk.v _ fun E w ρ hc hr => ?_
      have hq := eqv_run (E := E) (w := w) 50 t a b l v he (Op.maxDepth - 50)
      have hg' := hg
      unfold guardFree at hg'
      simp only [Bool.and_eq_true] at hg'
      rw [hr x _ hx, hr y _ hy]
      simp only [Sem.run_bind, guardFree_run hg, Result.andThen_ok]
      rw [(binOp_eql hg'.1.1 hg'.1.2).2]
      simp only [Sem.run_bind, Op.equal]
      rw [show Op.maxDepth = 50 + (Op.maxDepth - 50) from rfl, hq]; rfl
    · exact QOk.fail _
  · exact QOk.fail _

def qun (op : UnOp) (x : SV) (K : Option SV → VC) : VC :=
  match op, x with
  | .not, .bool l b => K (some (.bool l (!b)))
  | .neg, .int k l n => qarith k l (0 - n) K
  | _, _ => .fail "unOp"
theorem qun_ok {op : UnOp} {x : Operand} {a : SV} (hx : σ x = some a) : QOk P look σ (fun ρ => Op.unary op (ρ x)) (qun op a) := by
  unfold qun
  split
  · exact QOk.v _ fun E w ρ hc hr => by rw [hr x _ hx]; rfl
  · exact qarith_ok fun E w ρ hc hr => by rw [hr x _ hx]; rfl
  · exact QOk.fail _

def fits : IntKind → IntKind → Bool
  | .u8, .u16 | .u8, .u32 | .u8, .u64 | .u16, .u32 | .u16, .u64 | .u32, .u64 => true
  | a, b => decide (a = b)
def qconv (P : Program) (src dst : TypeId) (x : SV) (K : Option SV → VC) : VC :=
  match P.underlying src, P.underlying dst, x with
  | some (.int j), some (.int k), .int _ l n => match l || !fits j k with
    | true => qarith k l n K
    | false => .and (.atom (lo k ≤ n ∧ n ≤ hi k)) (K (some (.int k false n)))
  | some .string, some .string, .str l s => K (some (.str l s))
  | _, _, _ => .fail "convert"
theorem qconv_ok {src dst : TypeId} {x : Operand} {a : SV} (hx : σ x = some a) : QOk P look σ (fun ρ => convert src dst (ρ x)) (qconv P src dst a) := by
  unfold qconv
  split
  · rename_i j k k' l n hs hd
    have hrun : ∀ w, (convert src dst (.int k' n)).run P w = .ok (.int k (k.wrap n)) w := fun w => by
      simp only [convert, Sem.run_bind, run_und hs, run_und hd, Result.andThen_ok]; rfl
    split
    · exact qarith_ok fun E w ρ hc hr => by rw [hr x _ hx]; exact hrun w
    · exact QOk.atom fun hb => QOk.v _ fun E w ρ hc hr => by rw [hr x _ hx]; simp only [SV.val]; rw [hrun w, wrap_in hb]
  · rename_i l s hs hd
    exact QOk.v _ fun E w ρ hc hr => by
      rw [hr x _ hx]; simp only [SV.val, convert, Sem.run_bind, run_und hs, run_und hd, Result.andThen_ok]; rfl
  · exact QOk.fail _

/-! ### Interfaces, functions, tuples, structs by value -/
def qmakeIface (P : Program) (t : TypeId) (x : SV) (K : Option SV → VC) : VC :=
  match P.concrete t with
  | true => K (some (.iface t x))
  | false => .fail "makeInterface"
theorem qmakeIface_ok {t : TypeId} {x : Operand} {a : SV} (hx : σ x = some a) : QOk P look σ (fun ρ => Instr.makeInterface t (ρ x)) (qmakeIface P t a) := by
  unfold qmakeIface
  split
  · rename_i h
    exact QOk.v _ fun E w ρ hc hr => by rw [hr x _ hx, run_makeInterface w t _ h]; rfl
  · exact QOk.fail _
def evs (σ : Operand → Option SV) : List Operand → Option (List SV)
  | [] => some []
  | x :: r => match σ x, evs σ r with
    | some v, some l => some (v :: l)
    | _, _ => none
theorem evs_val {σ : Operand → Option SV} {E : Nat → Nat} {ρ : Operand → Value} (hr : Reads E σ ρ) : ∀ {xs : List Operand} {l : List SV}, evs σ xs = some l → xs.map ρ = SV.vals E l
  | [], l, h => by simp [evs] at h; subst h; rfl
  | x :: r, l, h => by
    simp only [evs] at h
    split at h
    · rename_i v l' hv hl
      injection h with h; subst h
      simp [SV.vals, hr x v hv, evs_val hr hl]
    · cases h
theorem evs_arr {σ : Operand → Option SV} {E : Nat → Nat} {ρ : Operand → Value} (hr : Reads E σ ρ) {xs : Array Operand} {l : List SV} (h : evs σ xs.toList = some l) :
    xs.map ρ = (SV.vals E l).toArray := by
  rw [← evs_val hr h]; apply Array.ext'; simp
def qmakeFunc (fn : Fn) (a b : Option (List SV)) (K : Option SV → VC) : VC :=
  match a, b with
  | some a, some b => K (some (.func fn a b))
  | _, _ => .fail "makeFunc"
theorem qmakeFunc_ok {fn : Fn} {xs ys : Array Operand} : QOk P look σ (fun ρ => Instr.makeFunc fn (xs.map ρ) (ys.map ρ)) (qmakeFunc fn (evs σ xs.toList) (evs σ ys.toList)) := by
  unfold qmakeFunc
  split
  · rename_i a b ha hb
    exact QOk.v _ fun E w ρ hc hr => by rw [evs_arr hr ha, evs_arr hr hb]; rfl
  · exact QOk.fail _
def qextract (x : SV) (i : Nat) (K : Option SV → VC) : VC :=
  match x with
  | .tup vs => (match vs[i]? with
    | some v => K (some v)
    | none => .fail "extract")
  | _ => .fail "extract: no tuple"
theorem qextract_ok {x : Operand} {a : SV} {i : Nat} (hx : σ x = some a) : QOk P look σ (fun ρ => Instr.extract (ρ x) i) (qextract a i) := by
  unfold qextract
  split
  · rename_i vs
    split
    · rename_i v hv
      refine QOk.v _ fun E w ρ hc hr => ?_
      rw [hr x _ hx]; simp [SV.val, Instr.extract, SV.vals_eq, hv]
    · exact QOk.fail _
  · exact QOk.fail _
def qfield (P : Program) (t : TypeId) (x : SV) (f : Nat) (K : Option SV → VC) : VC :=
  match P.underlying t, x with
  | some (.struct fs), .agg cs => (match fs[f]? with
    | some fd => (match partOf P fd.type cs fd.offset with
      | some v => K (some v)
      | none => .fail "field: no such part")
    | none => .fail "field: no such field")
  | _, _ => .fail "field"
theorem qfield_ok {t : TypeId} {x : Operand} {a : SV} {f : Nat} (hx : σ x = some a) : QOk P look σ (fun ρ => Instr.field t (ρ x) f) (qfield P t a f) := by
  unfold qfield
  split
  · rename_i fs cs hd
    split
    · rename_i fd hf
      split
      · rename_i v hv
        refine QOk.v _ fun E w ρ hc hr => ?_
        rw [hr x _ hx]; simp [SV.val, Instr.field, run_und hd, hf, asAgg, partOf_run hv]
      · exact QOk.fail _
    · exact QOk.fail _
  · exact QOk.fail _

/-- The byte at a place. -/
def byteAt (s : List UInt8) (i : Int) : Int := ((s.getD i.toNat 0).toNat : Int)
def qindex (P : Program) (t : TypeId) (x i : SV) (K : Option SV → VC) : VC :=
  match P.underlying t, x, i with
  | some .string, .str l s, .int _ l' n => (match l && l' with
    | true => if 0 ≤ n ∧ n < s.length then K (some (.int .u8 true (byteAt s n))) else .fail "index out of range"
    | false => .and (.atom (0 ≤ n ∧ n < s.length)) (K (some (.int .u8 false (byteAt s n)))))
  | some (.array len e), .agg cs, .int _ true n => (match sz P e with
    | some m => if 0 ≤ n ∧ n < len then (match partOf P e cs (n.toNat * m) with
      | some v => K (some v)
      | none => .fail "index: no such part") else .fail "index out of range"
    | none => .fail "index")
  | _, _, _ => .fail "index"
theorem string_index {E : Nat → Nat} {w : World} {t : TypeId} (hd : P.underlying t = some .string) {l : Bool} {s : List UInt8} {k : IntKind} {l' : Bool} {n : Int} (h : 0 ≤ n ∧ n < s.length) :
    (Instr.index t ((SV.str l s).val E) ((SV.int k l' n).val E)).run P w = .ok (.int .u8 (byteAt s n)) w := by
  have hn : n.toNat < s.length := by omega
  simp only [SV.val, Instr.index, asIntOf, Sem.run_bind, Sem.run_pure, Result.andThen_ok, run_und hd, h.1, if_true]
  have e : (ByteArray.mk s.toArray)[n.toNat]? = some s[n.toNat] := by
    rw [getElem?_pos (ByteArray.mk s.toArray) n.toNat (by simpa [ByteArray.size] using hn)]; rfl
  rw [e]
  simp [byteAt, List.getD_eq_getElem?_getD, hn]
theorem qindex_ok {t : TypeId} {x i : Operand} {a b : SV} (hx : σ x = some a) (hi : σ i = some b) : QOk P look σ (fun ρ => Instr.index t (ρ x) (ρ i)) (qindex P t a b) := by
  unfold qindex
  split
  · rename_i l s k l' n hd
    split
    · exact QOk.ite (fun h => QOk.v _ fun E w ρ hc hr => by rw [hr x _ hx, hr i _ hi]; exact string_index hd h) (fun _ => QOk.fail _)
    · exact QOk.atom fun h => QOk.v _ fun E w ρ hc hr => by rw [hr x _ hx, hr i _ hi]; exact string_index hd h
  · rename_i len e cs k n hd
    split
    · rename_i m hm
      refine QOk.ite (fun h => ?_) (fun _ => QOk.fail _)
      split
      · rename_i v hv
        refine QOk.v _ fun E w ρ hc hr => ?_
        rw [hr x _ hx, hr i _ hi]
        simp [SV.val, Instr.index, asIntOf, run_und hd, h.1, h.2, run_sz hm, partOf_run hv]
      · exact QOk.fail _
    · exact QOk.fail _
  · exact QOk.fail _
end
end Go.Proofs.Ytobbhdmbblhgaaa.Sx
