/-
  The framework's fourth part: the other operations that leave the world alone; 'qop'.
-/
import Derived.Test.YtkfdcapnogklfaaGreatDoorMa
import Derived.Laws.Build
import Derived.BigFrame
namespace Go.Proofs.YtkfdcapnogklfaaGreatDoor.Sx
open Go
section
variable {P : Program} {look : Look} {σ : Operand → Option SV}
/-! ### binOp, unOp, convert -/
def isConst : Operand → Bool
  | .const _ => true
  | _ => false
def SV.gen : SV → Bool
  | .int .. | .str .. | .raw _ => false
  | _ => true
def guardFree (P : Program) (t : TypeId) (c : Bool) (x y : SV) : Bool :=
  x.gen && y.gen && (match x, y with
  | .niliface, .niliface => c
  | .agg _, .agg _ => !P.eqGuardType P.depth t
  | _, _ => true)
theorem guardFree_run {E : Nat → Nat} {w : World} {op : BinOp} {t : TypeId} {x y : Operand} {a b : SV} (h : guardFree P t (isConst x || isConst y) a b = true) :
    (eqGuard op t x y (a.val E) (b.val E)).run P w = .ok () w := by
  unfold eqGuard guardFree at *
  cases op
  all_goals try rfl
  all_goals
    simp only [Bool.not_true, Bool.false_eq_true, if_false]
    split at h
    · simp only [Bool.and_eq_true] at h
      have := h.2
      simp only [SV.val]
      cases x <;> cases y <;> simp_all [isConst]
    · simp only [Bool.and_eq_true] at h
      have := h.2
      simp only [SV.val]
      simp at this
      simp [this]
    · rename_i h1 h2
      cases a <;> cases b <;> simp only [SV.val] <;> first
        | rfl
        | (exact (h1 rfl rfl).elim)
        | (exact (h2 _ _ rfl rfl).elim)
        | (simp [SV.gen] at h; done)
theorem binOp_eql {E : Nat → Nat} {t : TypeId} {a b : SV} (ha : a.gen = true) (_hb : b.gen = true) :
    binOp .eql t (a.val E) (b.val E) = (do pure (.bool (← Op.equal t (a.val E) (b.val E))) : Sem Value) ∧
    binOp .neq t (a.val E) (b.val E) = (do pure (.bool (!(← Op.equal t (a.val E) (b.val E)))) : Sem Value) := by
  cases a <;> first | (simp [SV.gen] at ha; done) | (simp only [SV.val]; exact ⟨rfl, rfl⟩)
def qbin (P : Program) (op : BinOp) (t : TypeId) (c : Bool) (x y : SV) (K : Option SV → VC) : VC :=
  match op, x, y with
  | .shl, .int k l a, .int _ l' b => qshift true k l a l' b K
  | .shr, .int k l a, .int _ l' b => qshift false k l a l' b K
  | op, .int k l a, .int k' l' b => if k = k' then qint op k l a l' b K else .fail "binOp: kinds"
  | op, .str l a, .str l' b => qstr op (l && l') a b K
  | .eql, x, y => if guardFree P t c x y then (match eqv P 50 t x y with
      | some (l, b) => K (some (.bool l b))
      | none => .fail "eql") else .fail "eql: guard"
  | .neq, x, y => if guardFree P t c x y then (match eqv P 50 t x y with
      | some (l, b) => K (some (.bool l (!b)))
      | none => .fail "neq") else .fail "neq: guard"
  | _, _, _ => .fail "binOp"
theorem qint_ok {s : (Operand → Value) → Sem Value} {op : BinOp} {k : IntKind} {l l' : Bool} {a b : Int} (h1 : op ≠ .shl) (h2 : op ≠ .shr)
    (h : ∀ E w ρ, Compat E look w → Reads E σ ρ → (s ρ).run P w = (binOp op 0 (.int k a) (.int k b)).run P w) : QOk P look σ s (qint op k l a l' b) := by
  unfold qint
  have hb : ∀ w, (binOp op 0 (.int k a) (.int k b)).run P w = (match op with
      | .add | .sub | .mul => Op.intArith op k a b
      | .quo | .rem => Op.intDiv op k a b
      | .and | .or | .xor | .andNot => Op.intBits op k a b
      | _ => Op.intCmp op a b : Sem Value).run P w := by
    intro w; cases op <;> first | (exact absurd rfl h1) | (exact absurd rfl h2) | simp [binOp]
  cases op
  case add => exact qarith_ok fun E w ρ hc hr => by rw [h E w ρ hc hr, hb]; simp [Op.intArith]
  case sub => exact qarith_ok fun E w ρ hc hr => by rw [h E w ρ hc hr, hb]; simp [Op.intArith]
  case mul => exact qarith_ok fun E w ρ hc hr => by rw [h E w ρ hc hr, hb]; simp [Op.intArith]
  case quo => exact qdiv_ok (rem := false) fun E w ρ hc hr => by rw [h E w ρ hc hr, hb]; rfl
  case rem => exact qdiv_ok (rem := true) fun E w ρ hc hr => by rw [h E w ρ hc hr, hb]; rfl
  case and => exact qbits_ok (.inl rfl) fun E w ρ hc hr => by rw [h E w ρ hc hr, hb]
  case or => exact qbits_ok (.inr (.inl rfl)) fun E w ρ hc hr => by rw [h E w ρ hc hr, hb]
  case xor => exact qbits_ok (.inr (.inr rfl)) fun E w ρ hc hr => by rw [h E w ρ hc hr, hb]
  case shl => exact absurd rfl h1
  case shr => exact absurd rfl h2
  case andNot => exact QOk.fail _
  all_goals (refine QOk.v _ fun E w ρ hc hr => ?_; rw [h E w ρ hc hr, hb]; simp [Op.intCmp, SV.val])
  all_goals (by_cases e : a = b <;> simp [e])
theorem binOp_type {op : BinOp} {t u : TypeId} {k k' : IntKind} {a b : Int} : binOp op t (.int k a) (.int k' b) = binOp op u (.int k a) (.int k' b) := by
  cases op <;> rfl
theorem qbin_ok {op : BinOp} {t _yt : TypeId} {x y : Operand} {a b : SV} (hx : σ x = some a) (hy : σ y = some b) :
    QOk P look σ (fun ρ => do eqGuard op t x y (ρ x) (ρ y); binOp op t (ρ x) (ρ y)) (qbin P op t (isConst x || isConst y) a b) := by
  have hi : ∀ {k k' : IntKind} {n m : Int} {w : World}, (do eqGuard op t x y (.int k n) (.int k' m); binOp op t (.int k n) (.int k' m) : Sem Value).run P w = (binOp op t (.int k n) (.int k' m)).run P w := by
    intro k k' n m w
    simp only [Sem.run_bind]
    have : (eqGuard op t x y (.int k n) (.int k' m)).run P w = .ok () w := by unfold eqGuard; split <;> simp
    rw [this]; rfl
  unfold qbin
  split
  · rename_i k l n k' l' m
    exact qshift_ok (left := true) (yk := k') fun E w ρ hc hr => by rw [hr x _ hx, hr y _ hy]; simp only [SV.val]; rw [hi]; rfl
  · rename_i k l n k' l' m
    exact qshift_ok (left := false) (yk := k') fun E w ρ hc hr => by rw [hr x _ hx, hr y _ hy]; simp only [SV.val]; rw [hi]; rfl
  · rename_i op' k l n k' l' m h1 h2
    refine QOk.ite (fun e => ?_) (fun _ => QOk.fail _)
    subst e
    exact qint_ok h1 h2 fun E w ρ hc hr => by rw [hr x _ hx, hr y _ hy]; simp only [SV.val]; rw [hi, binOp_type]
  · rename_i op' l n l' m
    refine qstr_ok fun E w ρ hc hr => ?_
    rw [hr x _ hx, hr y _ hy]; simp only [SV.val, Sem.run_bind]
    have : (eqGuard op t x y (.string ⟨n.toArray⟩) (.string ⟨m.toArray⟩)).run P w = .ok () w := by unfold eqGuard; split <;> simp
    rw [this]
    cases op <;> rfl
  · rename_i a' b' _ _
    refine QOk.ite (fun hg => ?_) (fun _ => QOk.fail _)
    split
    · rename_i l v he
      refine QOk.v _ fun E w ρ hc hr => ?_
      have hq := eqv_run (E := E) (w := w) 50 t a b l v he (Op.maxDepth - 50)
      have hg' := hg
      unfold guardFree at hg'
      simp only [Bool.and_eq_true] at hg'
      rw [hr x _ hx, hr y _ hy]
      simp only [Sem.run_bind, guardFree_run hg, Result.andThen_ok]
      rw [(binOp_eql hg'.1.1 hg'.1.2).1]
      simp only [Sem.run_bind, Op.equal]
      rw [show Op.maxDepth = 50 + (Op.maxDepth - 50) from rfl, hq]; rfl
    · exact QOk.fail _
  · rename_i a' b' _ _
    refine QOk.ite (fun hg => ?_) (fun _ => QOk.fail _)
    split
    · rename_i l v he
      refine QOk.v _ fun E w ρ hc hr => ?_
      have hq := eqv_run (E := E) (w := w) 50 t a b l v he (Op.maxDepth - 50)
      have hg' := hg
      unfold guardFree at hg'
      simp only [Bool.and_eq_true] at hg'
      rw [hr x _ hx, hr y _ hy]
      simp only [Sem.run_bind, guardFree_run hg, Result.andThen_ok]
      rw [(binOp_eql hg'.1.1 hg'.1.2).2]
      simp only [Sem.run_bind, Op.equal]
      rw [show Op.maxDepth = 50 + (Op.maxDepth - 50) from rfl, hq]; rfl
    · exact QOk.fail _
  · exact QOk.fail _
def qun (op : UnOp) (x : SV) (K : Option SV → VC) : VC :=
  match op, x with
  | .not, .bool l b => K (some (.bool l (!b)))
  | .neg, .int k l n => qarith k l (0 - n) K
  | .xor, .int k l n => (match k.signed with
    | false => qbits .xor k l (hi k) n K
    | true => .fail "unOp")
  | _, _ => .fail "unOp"
theorem max_hi {k : IntKind} (h : k.signed = false) : k.max = hi k := by
  cases k <;> first | rfl | (simp [IntKind.signed] at h; done)
theorem qun_ok {op : UnOp} {x : Operand} {a : SV} (hx : σ x = some a) : QOk P look σ (fun ρ => Op.unary op (ρ x)) (qun op a) := by
  unfold qun
  split
  · exact QOk.v _ fun E w ρ hc hr => by rw [hr x _ hx]; rfl
  · exact qarith_ok fun E w ρ hc hr => by rw [hr x _ hx]; rfl
  · rename_i k l n
    cases hs : k.signed with
    | true => exact QOk.fail _
    | false =>
      refine qbits_ok (.inr (.inr rfl)) fun E w ρ hc hr => ?_
      rw [hr x _ hx]
      simp only [SV.val, Op.unary, hs, max_hi hs]
      rfl
  · exact QOk.fail _
def fits : IntKind → IntKind → Bool
  | .u8, .u16 | .u8, .u32 | .u8, .u64 | .u16, .u32 | .u16, .u64 | .u32, .u64 => true
  | a, b => decide (a = b)
def qconv (P : Program) (src dst : TypeId) (x : SV) (K : Option SV → VC) : VC :=
  match P.underlying src, P.underlying dst, x with
  | some (.int j), some (.int k), .int _ l n => match l || !fits j k with
    | true => qarith k l n K
    | false => .and (.atom (lo k ≤ n ∧ n ≤ hi k)) (K (some (.int k false n)))
  | some .string, some .string, .str l s => K (some (.str l s))
  | _, _, _ => .fail "convert"
theorem qconv_ok {src dst : TypeId} {x : Operand} {a : SV} (hx : σ x = some a) : QOk P look σ (fun ρ => convert src dst (ρ x)) (qconv P src dst a) := by
  unfold qconv
  split
  · rename_i j k k' l n hs hd
    have hrun : ∀ w, (convert src dst (.int k' n)).run P w = .ok (.int k (k.wrap n)) w := fun w => by
      simp only [convert, Sem.run_bind, run_und hs, run_und hd, Result.andThen_ok]; rfl
    split
    · exact qarith_ok fun E w ρ hc hr => by rw [hr x _ hx]; exact hrun w
    · exact QOk.atom fun hb => QOk.v _ fun E w ρ hc hr => by rw [hr x _ hx]; simp only [SV.val]; rw [hrun w, wrap_in hb]
  · rename_i l s hs hd
    exact QOk.v _ fun E w ρ hc hr => by
      rw [hr x _ hx]; simp only [SV.val, convert, Sem.run_bind, run_und hs, run_und hd, Result.andThen_ok]; rfl
  · exact QOk.fail _
/-! ### Interfaces, functions, tuples, structs by value -/
def qmakeIface (P : Program) (t : TypeId) (x : SV) (K : Option SV → VC) : VC :=
  match P.concrete t with
  | true => K (some (.iface t x))
  | false => .fail "makeInterface"
theorem qmakeIface_ok {t : TypeId} {x : Operand} {a : SV} (hx : σ x = some a) : QOk P look σ (fun ρ => Instr.makeInterface t (ρ x)) (qmakeIface P t a) := by
  unfold qmakeIface
  split
  · rename_i h
    exact QOk.v _ fun E w ρ hc hr => by rw [hr x _ hx, run_makeInterface w t _ h]; rfl
  · exact QOk.fail _
def evs (σ : Operand → Option SV) : List Operand → Option (List SV)
  | [] => some []
  | x :: r => match σ x, evs σ r with
    | some v, some l => some (v :: l)
    | _, _ => none
theorem evs_val {σ : Operand → Option SV} {E : Nat → Nat} {ρ : Operand → Value} (hr : Reads E σ ρ) : ∀ {xs : List Operand} {l : List SV}, evs σ xs = some l → xs.map ρ = SV.vals E l
  | [], l, h => by simp [evs] at h; subst h; rfl
  | x :: r, l, h => by
    simp only [evs] at h
    split at h
    · rename_i v l' hv hl
      injection h with h; subst h
      simp [SV.vals, hr x v hv, evs_val hr hl]
    · cases h
theorem evs_arr {σ : Operand → Option SV} {E : Nat → Nat} {ρ : Operand → Value} (hr : Reads E σ ρ) {xs : Array Operand} {l : List SV} (h : evs σ xs.toList = some l) :
    xs.map ρ = (SV.vals E l).toArray := by
  rw [← evs_val hr h]; apply Array.ext'; simp
def qmakeFunc (fn : Fn) (a b : Option (List SV)) (K : Option SV → VC) : VC :=
  match a, b with
  | some a, some b => K (some (.func fn a b))
  | _, _ => .fail "makeFunc"
theorem qmakeFunc_ok {fn : Fn} {xs ys : Array Operand} : QOk P look σ (fun ρ => Instr.makeFunc fn (xs.map ρ) (ys.map ρ)) (qmakeFunc fn (evs σ xs.toList) (evs σ ys.toList)) := by
  unfold qmakeFunc
  split
  · rename_i a b ha hb
    exact QOk.v _ fun E w ρ hc hr => by rw [evs_arr hr ha, evs_arr hr hb]; rfl
  · exact QOk.fail _
def qextract (x : SV) (i : Nat) (K : Option SV → VC) : VC :=
  match x with
  | .tup vs => (match vs[i]? with
    | some v => K (some v)
    | none => .fail "extract")
  | _ => .fail "extract: no tuple"
theorem qextract_ok {x : Operand} {a : SV} {i : Nat} (hx : σ x = some a) : QOk P look σ (fun ρ => Instr.extract (ρ x) i) (qextract a i) := by
  unfold qextract
  split
  · rename_i vs
    split
    · rename_i v hv
      refine QOk.v _ fun E w ρ hc hr => ?_
      rw [hr x _ hx]; simp [SV.val, Instr.extract, SV.vals_eq, hv]
    · exact QOk.fail _
  · exact QOk.fail _
def qfield (P : Program) (t : TypeId) (x : SV) (f : Nat) (K : Option SV → VC) : VC :=
  match P.underlying t, x with
  | some (.struct fs), .agg cs => (match fs[f]? with
    | some fd => (match partOf P fd.type cs fd.offset with
      | some v => K (some v)
      | none => .fail "field: no such part")
    | none => .fail "field: no such field")
  | _, _ => .fail "field"
theorem qfield_ok {t : TypeId} {x : Operand} {a : SV} {f : Nat} (hx : σ x = some a) : QOk P look σ (fun ρ => Instr.field t (ρ x) f) (qfield P t a f) := by
  unfold qfield
  split
  · rename_i fs cs hd
    split
    · rename_i fd hf
      split
      · rename_i v hv
        refine QOk.v _ fun E w ρ hc hr => ?_
        rw [hr x _ hx]; simp [SV.val, Instr.field, run_und hd, hf, asAgg, partOf_run hv]
      · exact QOk.fail _
    · exact QOk.fail _
  · exact QOk.fail _
def byteAt (s : List UInt8) (i : Int) : Int := ((s.getD i.toNat 0).toNat : Int)
def qindex (P : Program) (t : TypeId) (x i : SV) (K : Option SV → VC) : VC :=
  match P.underlying t, x, i with
  | some .string, .str l s, .int _ l' n => (match l && l' with
    | true => if 0 ≤ n ∧ n < s.length then K (some (.int .u8 true (byteAt s n))) else .fail "index out of range"
    | false => .and (.atom (0 ≤ n ∧ n < s.length)) (K (some (.int .u8 false (byteAt s n)))))
  | some (.array len e), .agg cs, .int _ true n => (match sz P e with
    | some m => if 0 ≤ n ∧ n < len then (match partOf P e cs (n.toNat * m) with
      | some v => K (some v)
      | none => .fail "index: no such part") else .fail "index out of range"
    | none => .fail "index")
  | some (.array len e), .agg cs, .int _ false n => (match sz P e, P.underlying e with
    | some 1, some .string => (match strsAt cs with
      | some ss => .and (.atom (0 ≤ n ∧ n < len ∧ n < ss.length)) (K (some (.str false (selS ss n.toNat))))
      | none => .fail "index: no texts")
    | _, _ => .fail "index")
  | _, _, _ => .fail "index"
theorem string_index {E : Nat → Nat} {w : World} {t : TypeId} (hd : P.underlying t = some .string) {l : Bool} {s : List UInt8} {k : IntKind} {l' : Bool} {n : Int} (h : 0 ≤ n ∧ n < s.length) :
    (Instr.index t ((SV.str l s).val E) ((SV.int k l' n).val E)).run P w = .ok (.int .u8 (byteAt s n)) w := by
  have hn : n.toNat < s.length := by omega
  simp only [SV.val, Instr.index, asIntOf, Sem.run_bind, Sem.run_pure, Result.andThen_ok, run_und hd, h.1, if_true]
  have e : (ByteArray.mk s.toArray)[n.toNat]? = some s[n.toNat] := by
    rw [getElem?_pos (ByteArray.mk s.toArray) n.toNat (by simpa [ByteArray.size] using hn)]; rfl
  rw [e]
  simp [byteAt, List.getD_eq_getElem?_getD, hn]
theorem qindex_ok {t : TypeId} {x i : Operand} {a b : SV} (hx : σ x = some a) (hi : σ i = some b) : QOk P look σ (fun ρ => Instr.index t (ρ x) (ρ i)) (qindex P t a b) := by
  unfold qindex
  split
  · rename_i l s k l' n hd
    split
    · exact QOk.ite (fun h => QOk.v _ fun E w ρ hc hr => by rw [hr x _ hx, hr i _ hi]; exact string_index hd h) (fun _ => QOk.fail _)
    · exact QOk.atom fun h => QOk.v _ fun E w ρ hc hr => by rw [hr x _ hx, hr i _ hi]; exact string_index hd h
  · rename_i len e cs k n hd
    split
    · rename_i m hm
      refine QOk.ite (fun h => ?_) (fun _ => QOk.fail _)
      split
      · rename_i v hv
        refine QOk.v _ fun E w ρ hc hr => ?_
        rw [hr x _ hx, hr i _ hi]
        simp [SV.val, Instr.index, asIntOf, run_und hd, h.1, h.2, run_sz hm, partOf_run hv]
      · exact QOk.fail _
    · exact QOk.fail _
  · rename_i len e cs k n hd
    split
    · rename_i hm he
      split
      · rename_i ss hss
        refine QOk.atom fun h => QOk.v _ fun E w ρ hc hr => ?_
        have hl : n.toNat < cs.length := by rw [← strsAt_len hss]; omega
        obtain ⟨b, hb⟩ := strsAt_get hss n.toNat _ (List.getElem?_eq_getElem hl)
        have hv : partOf P e cs (n.toNat * 1) = some (.str b (selS ss n.toNat)) := by
          simp only [partOf, he, isAggD, Nat.mul_one]
          rw [List.getElem?_eq_getElem hl, hb]
        have hp := partOf_run (E := E) (w := w) hv
        rw [hr x _ hx, hr i _ hi]
        rw [Nat.mul_one] at hp
        simp [SV.val, Instr.index, asIntOf, run_und hd, h.1, h.2.1, run_sz hm, hp]
      · exact QOk.fail _
    · exact QOk.fail _
  · exact QOk.fail _
end
end Go.Proofs.YtkfdcapnogklfaaGreatDoor.Sx
/-
  The framework's fifth part: slices of slices, assertions, len and its like, composite literals; 'qop', all quiet operations.
-/
namespace Go.Proofs.YtkfdcapnogklfaaGreatDoor.Sx
open Go
section
variable {P : Program} {look : Look} {σ : Operand → Option SV}
/-! ### x[l:h] -/
def bound (σ : Operand → Option SV) (d : Bool × Int) : Option Operand → Option (Bool × Int)
  | none => some d
  | some x => match σ x with
    | some (.int _ l n) => some (l, n)
    | _ => none
def subStr (s : List UInt8) : Option Operand → Option Operand → Int → Int → List UInt8
  | none, none, _, _ => s
  | none, some _, _, h => s.take h.toNat
  | some _, none, l, _ => s.drop l.toNat
  | some _, some _, l, h => (s.drop l.toNat).take (h.toNat - l.toNat)
def chk (l : Bool) (c : Prop) [Decidable c] (t : VC) : VC :=
  match l with
  | true => if c then t else .fail "a bound"
  | false => .and (.atom c) t
theorem QOk.chk {s : (Operand → Value) → Sem Value} {l : Bool} {c : Prop} [Decidable c] {t : QT} (h : c → QOk P look σ s t) : QOk P look σ s (fun K => Sx.chk l c (t K)) := by
  unfold Sx.chk
  cases l
  · exact QOk.atom h
  · exact QOk.ite h (fun _ => QOk.fail _)
def qsliceStr (σ : Operand → Option SV) (l : Bool) (s : List UInt8) (lo hi : Option Operand) (K : Option SV → VC) : VC :=
  match bound σ (true, 0) lo, bound σ (l, s.length) hi with
  | some (l1, a), some (l2, b) => chk (l && l1 && l2) (0 ≤ a ∧ a ≤ b ∧ b ≤ s.length) (K (some (.str (l && l1 && l2) (subStr s lo hi a b))))
  | _, _ => .fail "slice of a text"
def qsliceSlc (σ : Operand → Option SV) (m : Nat) (_arr : Bool) (key o n : Nat) (cl : Bool) (c : Nat) (lo hi : Option Operand) (K : Option SV → VC) : VC :=
  match bound σ (true, 0) lo, bound σ (true, n) hi with
  | some (true, a), some (true, b) => chk true (0 ≤ a ∧ a ≤ b) (chk cl (b ≤ c) (match cl with
    | true => K (some (.slc key (if c = a.toNat then o else o + a.toNat * m) (b.toNat - a.toNat) cl (c - a.toNat)))
    | false => fork (decide (c = a.toNat)) (fun e => match e with
      | true => K (some (.slc key o (b.toNat - a.toNat) cl (c - a.toNat)))
      | false => K (some (.slc key (o + a.toNat * m) (b.toNat - a.toNat) cl (c - a.toNat))))))
  | _, _ => .fail "slice: bounds that are not known"
def qsliceRow (σ : Operand → Option SV) (key w i n c : Nat) (lo hi : Option Operand) (K : Option SV → VC) : VC :=
  match bound σ (true, 0) lo, bound σ (false, n) hi with
  | some (_, a), some (_, b) => .and (.atom (0 ≤ a ∧ a ≤ b ∧ b ≤ c)) (fork (decide (c = a.toNat)) (fun e => match e with
      | true => K (some (.rslc key w false i (b.toNat - a.toNat) (c - a.toNat)))
      | false => K (some (.rslc key w false (i + a.toNat) (b.toNat - a.toNat) (c - a.toNat)))))
  | _, _ => .fail "slice: bounds"
def litBounds (σ : Operand → Option SV) (n : Nat) (lo hi : Option Operand) : Bool :=
  match bound σ (true, 0) lo, bound σ (true, n) hi with
  | some (true, _), some (true, _) => true
  | _, _ => false
def qsliceArr (σ : Operand → Option SV) (key o n : Nat) (lo hi : Option Operand) (K : Option SV → VC) : VC :=
  match bound σ (true, 0) lo, bound σ (true, n) hi with
  | some (_, a), some (_, b) => .and (.atom (0 ≤ a ∧ a ≤ b ∧ b ≤ n)) (fork (decide (n = a.toNat)) (fun e => match e with
      | true => K (some (.rslc key 1 false o (b.toNat - a.toNat) (n - a.toNat)))
      | false => K (some (.rslc key 1 false (o + a.toNat) (b.toNat - a.toNat) (n - a.toNat)))))
  | _, _ => .fail "slice: bounds"
def qslice3 (σ : Operand → Option SV) (m : Nat) (key o n c : Nat) (lo hi : Option Operand) (mx : Operand) (K : Option SV → VC) : VC :=
  match hi, bound σ (true, 0) lo, bound σ (true, n) hi, bound σ (true, c) (some mx) with
  | some _, some (true, a), some (true, b), some (true, z) => chk true (0 ≤ a ∧ a ≤ b ∧ b ≤ z ∧ z ≤ c)
      (K (some (.slc key (if z.toNat = a.toNat then o else o + a.toNat * m) (b.toNat - a.toNat) true (z.toNat - a.toNat))))
  | _, _, _, _ => .fail "slice: bounds that are not known"
def qslice (P : Program) (σ : Operand → Option SV) (t : TypeId) (x : Option SV) (lo hi mx : Option Operand) (K : Option SV → VC) : VC :=
  match mx, P.underlying t, x with
  | none, some .string, some (.str l s) => qsliceStr σ l s lo hi K
  | none, some (.array n e), some (.ptr key true o) => (match sz P e with
    | some m => (match !litBounds σ n lo hi && Nat.beq m 1 with
      | true => qsliceArr σ key o n lo hi K
      | false => qsliceSlc σ m true key o n true n lo hi K)
    | none => .fail "slice")
  | some z, some (.array n e), some (.ptr key true o) => (match sz P e with
    | some m => qslice3 σ m key o n n lo hi z K
    | none => .fail "slice")
  | some z, some (.slice e), some (.slc key o n true c) => (match sz P e with
    | some m => qslice3 σ m key o n c lo hi z K
    | none => .fail "slice")
  | none, some (.slice e), some (.slc key o n cl c) => (match sz P e with
    | some m => qsliceSlc σ m false key o n cl c lo hi K
    | none => .fail "slice")
  | none, some (.slice e), some (.rslc key w false i n c) => (match sz P e with
    | some m => if m = w then qsliceRow σ key w i n c lo hi K else .fail "slice: another row"
    | none => .fail "slice")
  | _, _, _ => .fail "slice"
theorem bound_run {E : Nat → Nat} {w : World} {ρ : Operand → Value} (hr : Reads E σ ρ) {d : Bool × Int} {x : Operand} {l : Bool} {n : Int}
    (h : bound σ d (some x) = some (l, n)) {y : Nat} {code : BoundsCode} (h0 : 0 ≤ n) (h1 : n ≤ y) : (Instr.sliceBound (ρ x) y code).run P w = .ok n.toNat w := by
  simp only [bound] at h
  split at h
  · rename_i k l' n' hx
    injection h with h; injection h with _ h; subst h
    rw [hr x _ hx]
    simp [SV.val, Instr.sliceBound, asIntOf, h0, h1]
  · cases h
theorem bounds_run {E : Nat → Nat} {w : World} {ρ : Operand → Value} (hr : Reads E σ ρ) {isSlice : Bool} {n c : Nat} {lo hi : Option Operand} {la lb ld : Bool} {a b : Int}
    (ha : bound σ (true, 0) lo = some (la, a)) (hb : bound σ (ld, (n : Int)) hi = some (lb, b)) (h0 : 0 ≤ a) (h1 : a ≤ b) (h2 : b ≤ c) :
    (Instr.sliceBounds isSlice n c (lo.map ρ) (hi.map ρ) none).run P w = .ok (a.toNat, b.toNat, c) w := by
  cases hi with
  | none =>
    simp only [bound] at hb; injection hb with hb; injection hb with _ hb; subst hb
    cases lo with
    | none =>
      simp only [bound] at ha; injection ha with ha; injection ha with _ ha; subst ha
      simp [Instr.sliceBounds]
    | some x =>
      have hx := fun code => bound_run (P := P) (w := w) hr ha (y := n) (code := code) h0 h1
      simp [Instr.sliceBounds, hx]
  | some y =>
    have hy := fun code => bound_run (P := P) (w := w) hr hb (y := c) (code := code) (by omega) h2
    cases lo with
    | none =>
      simp only [bound] at ha; injection ha with ha; injection ha with _ ha; subst ha
      simp [Instr.sliceBounds, hy]
    | some x =>
      have hx := fun code => bound_run (P := P) (w := w) hr ha (y := b.toNat) (code := code) h0 (by omega)
      simp [Instr.sliceBounds, hy, hx]
theorem bounds3_run {E : Nat → Nat} {w : World} {ρ : Operand → Value} (hr : Reads E σ ρ) {isSlice : Bool} {n c : Nat} {lo : Option Operand} {hi mx : Operand} {la lb ld lz : Bool} {a b z : Int}
    (ha : bound σ (true, 0) lo = some (la, a)) (hb : bound σ (ld, (n : Int)) (some hi) = some (lb, b)) (hz : bound σ (true, (c : Int)) (some mx) = some (lz, z)) (h0 : 0 ≤ a) (h1 : a ≤ b) (h2 : b ≤ z) (h3 : z ≤ c) :
    (Instr.sliceBounds isSlice n c (lo.map ρ) (some (ρ hi)) (some (ρ mx))).run P w = .ok (a.toNat, b.toNat, z.toNat) w := by
  have hmz := fun code => bound_run (P := P) (w := w) hr hz (y := c) (code := code) (by omega) h3
  have hy := fun code => bound_run (P := P) (w := w) hr hb (y := z.toNat) (code := code) (by omega) (by omega)
  cases lo with
  | none =>
    simp only [bound] at ha; injection ha with ha; injection ha with _ ha; subst ha
    simp [Instr.sliceBounds, hmz, hy]
  | some x =>
    have hx := fun code => bound_run (P := P) (w := w) hr ha (y := b.toNat) (code := code) h0 (by omega)
    simp [Instr.sliceBounds, hmz, hy, hx]
theorem bytes_extract (s : List UInt8) (l h : Nat) : (ByteArray.mk s.toArray).extract l h = ⟨((s.drop l).take (h - l)).toArray⟩ := by
  apply ByteArray.ext
  rw [ByteArray.data_extract]
  simp
theorem subStr_eq {σ : Operand → Option SV} {s : List UInt8} {ls la lb : Bool} {lo hi : Option Operand} {a b : Int}
    (ha : bound σ (true, 0) lo = some (la, a)) (hb : bound σ (ls, (s.length : Int)) hi = some (lb, b)) (h : 0 ≤ a ∧ a ≤ b ∧ b ≤ s.length) :
    (s.drop a.toNat).take (b.toNat - a.toNat) = subStr s lo hi a b := by
  cases lo with
  | none =>
    simp only [bound] at ha; injection ha with ha; injection ha with _ ha; subst ha
    cases hi with
    | none => simp only [bound] at hb; injection hb with hb; injection hb with _ hb; subst hb; simp [subStr]
    | some y => simp [subStr]
  | some x =>
    cases hi with
    | none =>
      simp only [bound] at hb; injection hb with hb; injection hb with _ hb; subst hb
      simp only [subStr]
      rw [List.take_of_length_le]; simp
    | some y => rfl
theorem qslice_ok {t : TypeId} {x : Operand} {lo hi mx : Option Operand} :
    QOk P look σ (fun ρ => Instr.sliceAt t (ρ x) (lo.map ρ) (hi.map ρ) (mx.map ρ)) (qslice P σ t (σ x) lo hi mx) := by
  unfold qslice
  split
  · rename_i l s hd hx
    unfold qsliceStr
    split
    · rename_i l1 a l2 b ha hb
      refine QOk.chk fun h => QOk.v _ fun E w ρ hc hr => ?_
      have hs : (ByteArray.mk s.toArray).size = s.length := by simp [ByteArray.size]
      have := bounds_run (P := P) (w := w) hr (isSlice := false) (c := s.length) ha hb h.1 h.2.1 h.2.2
      simp only [hr x _ hx, SV.val, Instr.sliceAt, Sem.run_bind, run_und hd, Result.andThen_ok, Instr.slice, Option.map, hs]
      simp only [Option.map] at this
      simp only [Option.isSome_none, Bool.false_eq_true, if_false, Sem.run_bind]
      rw [this]
      simp only [Result.andThen_ok, Sem.run_pure, bytes_extract, subStr_eq ha hb h]
    · exact QOk.fail _
  · rename_i n e key o hd hx
    split
    · rename_i m hm
      split
      · rename_i hlit
        have hm1 : m = 1 := by simp at hlit; exact hlit.2
        subst hm1
        unfold qsliceArr
        split
        · rename_i l1 a l2 b ha hb
          refine QOk.atom fun h => QOk.fork ?_
          have main : ∀ E w ρ, Reads E σ ρ → (Instr.sliceAt t (ρ x) (lo.map ρ) (hi.map ρ) ((none : Option Operand).map ρ)).run P w =
              .ok ((SV.rslc key 1 false (if n = a.toNat then o else o + a.toNat) (b.toNat - a.toNat) (n - a.toNat)).val E) w := by
            intro E w ρ hr
            have := bounds_run (P := P) (w := w) hr (isSlice := false) (c := n) ha hb h.1 h.2.1 h.2.2
            simp only [Option.map] at this
            simp only [hr x _ hx, SV.val, Instr.sliceAt, Sem.run_bind, run_und hd, Result.andThen_ok, Option.map, Instr.sureAddr, Sem.run_pure, this, run_sz hm, add_none]
            split <;> simp
          by_cases hca : n = a.toNat
          · rw [decide_eq_true hca]
            refine QOk.v _ fun E w ρ hc hr => ?_
            have := main E w ρ hr
            rw [if_pos hca] at this; exact this
          · rw [decide_eq_false hca]
            refine QOk.v _ fun E w ρ hc hr => ?_
            have := main E w ρ hr
            rw [if_neg hca] at this; exact this
        · exact QOk.fail _
      · unfold qsliceSlc
        split
        · rename_i a b ha hb
          refine QOk.chk fun h => QOk.chk fun h' => QOk.v _ fun E w ρ hc hr => ?_
          have := bounds_run (P := P) (w := w) hr (isSlice := false) (c := n) ha hb h.1 h.2 h'
          simp only [Option.map] at this
          simp only [hr x _ hx, SV.val, Instr.sliceAt, Sem.run_bind, run_und hd, Result.andThen_ok, Option.map, Instr.sureAddr, Sem.run_pure, this, run_sz hm, add_none]
          split <;> rfl
        · exact QOk.fail _
    · exact QOk.fail _
  · rename_i z n e key o hd hx
    split
    · rename_i m hm
      unfold qslice3
      split
      · rename_i y a b c ha hz hb
        refine QOk.chk fun h => QOk.v _ fun E w ρ hc hr => ?_
        have := bounds3_run (P := P) (w := w) hr (isSlice := false) (c := n) ha hb hz h.1 h.2.1 h.2.2.1 h.2.2.2
        simp only [Option.map] at this
        simp only [hr x _ hx, SV.val, Instr.sliceAt, Sem.run_bind, run_und hd, Result.andThen_ok, Option.map, Instr.sureAddr, Sem.run_pure, this, run_sz hm, add_none]
        split <;> rfl
      · exact QOk.fail _
    · exact QOk.fail _
  · rename_i z e key o n c hd hx
    split
    · rename_i m hm
      unfold qslice3
      split
      · rename_i y a b c' ha hz hb
        refine QOk.chk fun h => QOk.v _ fun E w ρ hc hr => ?_
        have := bounds3_run (P := P) (w := w) hr (isSlice := true) (c := c) ha hb hz h.1 h.2.1 h.2.2.1 h.2.2.2
        simp only [Option.map] at this
        simp only [hr x _ hx, SV.val, Instr.sliceAt, Sem.run_bind, run_und hd, Result.andThen_ok, Option.map, Instr.slice, this, run_sz hm, add_none, Sem.run_pure]
        split <;> rfl
      · exact QOk.fail _
    · exact QOk.fail _
  · rename_i e key o n cl c hd hx
    split
    · rename_i m hm
      have main : ∀ {la lb : Bool} {a b : Int}, bound σ (true, 0) lo = some (la, a) → bound σ (true, (n : Int)) hi = some (lb, b) → 0 ≤ a → a ≤ b → b ≤ c →
          ∀ E w ρ, Reads E σ ρ → (Instr.sliceAt t (ρ x) (lo.map ρ) (hi.map ρ) ((none : Option Operand).map ρ)).run P w =
            .ok ((SV.slc key (if c = a.toNat then o else o + a.toNat * m) (b.toNat - a.toNat) cl (c - a.toNat)).val E) w := by
        intro la lb a b ha hb h0 h1 h2 E w ρ hr
        have := bounds_run (P := P) (w := w) hr (isSlice := true) (c := c) ha hb h0 h1 h2
        simp only [Option.map] at this
        simp only [hr x _ hx, SV.val, Instr.sliceAt, Sem.run_bind, run_und hd, Result.andThen_ok, Option.map, Instr.slice, this, run_sz hm, add_none, Sem.run_pure]
        split <;> rfl
      unfold qsliceSlc
      split
      · rename_i a b ha hb
        refine QOk.chk fun h => QOk.chk fun h' => ?_
        cases cl with
        | true => exact QOk.v _ fun E w ρ hc hr => main ha hb h.1 h.2 h' E w ρ hr
        | false =>
          refine QOk.fork ?_
          by_cases hca : c = a.toNat
          · rw [decide_eq_true hca]
            refine QOk.v _ fun E w ρ hc hr => ?_
            have := main ha hb h.1 h.2 h' E w ρ hr
            rw [if_pos hca] at this; exact this
          · rw [decide_eq_false hca]
            refine QOk.v _ fun E w ρ hc hr => ?_
            have := main ha hb h.1 h.2 h' E w ρ hr
            rw [if_neg hca] at this; exact this
      · exact QOk.fail _
    · exact QOk.fail _
  · rename_i e key w0 i n c hd hx
    split
    · rename_i m hm
      refine QOk.ite (fun hmw => ?_) (fun _ => QOk.fail _)
      subst hmw
      unfold qsliceRow
      split
      · rename_i l1 a l2 b ha hb
        refine QOk.atom fun h => QOk.fork ?_
        have main : ∀ E w ρ, Reads E σ ρ → (Instr.sliceAt t (ρ x) (lo.map ρ) (hi.map ρ) ((none : Option Operand).map ρ)).run P w =
            .ok ((SV.rslc key m false (if c = a.toNat then i else i + a.toNat) (b.toNat - a.toNat) (c - a.toNat)).val E) w := by
          intro E w ρ hr
          have := bounds_run (P := P) (w := w) hr (isSlice := true) (c := c) ha hb h.1 h.2.1 h.2.2
          simp only [Option.map] at this
          simp only [hr x _ hx, SV.val, Bool.false_and, cond_false, Instr.sliceAt, Sem.run_bind, run_und hd, Result.andThen_ok, Option.map, Instr.slice, this, run_sz hm, add_none, Sem.run_pure]
          split
          · rfl
          · simp [Nat.add_mul]
        by_cases hca : c = a.toNat
        · rw [decide_eq_true hca]
          refine QOk.v _ fun E w ρ hc hr => ?_
          have := main E w ρ hr
          rw [if_pos hca] at this; exact this
        · rw [decide_eq_false hca]
          refine QOk.v _ fun E w ρ hc hr => ?_
          have := main E w ρ hr
          rw [if_neg hca] at this; exact this
      · exact QOk.fail _
    · exact QOk.fail _
  · exact QOk.fail _
end
end Go.Proofs.YtkfdcapnogklfaaGreatDoor.Sx
/-
  The framework's sixth part: assertions, builtins, composite literals; 'qop', all quiet operations.
-/
namespace Go.Proofs.YtkfdcapnogklfaaGreatDoor.Sx
open Go
section
variable {P : Program} {look : Look} {σ : Operand → Option SV}
def zeroSV (P : Program) (t : TypeId) : Option SV :=
  match P.info? t with
  | some i => (match i.zero with
    | some v => SV.ofConst v
    | none => none)
  | none => none
theorem zeroSV_run {E : Nat → Nat} {w : World} {t : TypeId} {v : SV} (h : zeroSV P t = some v) : (zeroValue t).run P w = .ok (v.val E) w := by
  unfold zeroSV at h
  split at h
  · rename_i i hi
    split at h
    · rename_i z hz
      simp [zeroValue, run_info hi, hz, SV.ofConst_val (E := E) h]
    · cases h
  · cases h
/-! ### x.(T) -/
def asrHolds (ok : Bool) (v : SV) (K : Option SV → VC) : VC :=
  match ok with
  | true => K (some (.tup [v, .bool true true]))
  | false => K (some v)
def asrFails (P : Program) (at_ : TypeId) (ok : Bool) (K : Option SV → VC) : VC :=
  match ok with
  | true => (match zeroSV P at_ with
    | some z => K (some (.tup [z, .bool true false]))
    | none => .fail "typeAssert: no zero")
  | false => .fail "typeAssert fails"
theorem asrFails_ok {s : (Operand → Value) → Sem Value} {at_ : TypeId} {ok : Bool} (h : ∀ E w ρ, Reads E σ ρ → ok = true → ∀ z, (zeroValue at_).run P w = .ok z w → (s ρ).run P w = .ok (.tuple #[z, .bool false]) w) :
    QOk P look σ s (asrFails P at_ ok) := by
  unfold asrFails
  cases ok with
  | false => exact QOk.fail _
  | true =>
    cases hz : zeroSV P at_ with
    | none => exact QOk.fail _
    | some z => exact QOk.v _ fun E w ρ hc hr => by rw [h E w ρ hr rfl _ (zeroSV_run (E := E) hz)]; rfl
theorem asrHolds_ok {s : (Operand → Value) → Sem Value} {ok : Bool} (v : SV) (h : ∀ E w ρ, Reads E σ ρ → (s ρ).run P w = .ok (if ok then .tuple #[v.val E, .bool true] else v.val E) w) :
    QOk P look σ s (asrHolds ok v) := by
  unfold asrHolds
  cases ok with
  | false => exact QOk.v _ fun E w ρ hc hr => by rw [h E w ρ hr]; rfl
  | true => exact QOk.v _ fun E w ρ hc hr => by rw [h E w ρ hr]; rfl
def isIface : TypeDesc → Option (Array (String × TypeId))
  | .interface want => some want
  | _ => none
def lacks (want : Array (String × TypeId)) (got : Array Method) : Bool := want.toList.any fun x => !got.any fun m => m.name == x.1 && m.sig == x.2
theorem least_some {l : List String} (h : l ≠ []) : ∃ m, Instr.least l = some m := by
  cases l with
  | nil => exact absurd rfl h
  | cons s r => exact ⟨_, rfl⟩
def missingOf (missing : List String) : Option String :=
  Instr.least (missing.partition (·.contains '.')).2 <|> Instr.least ((missing.partition (·.contains '.')).1.map fun id => (id.splitOn ".").getLastD id)
theorem missing_eq (want : Array (String × TypeId)) (got : Array Method) : Instr.missingMethod want got = missingOf ((want.toList.filter fun (x : String × TypeId) => !got.any fun m => m.name == x.1 && m.sig == x.2).map (·.1)) := rfl
theorem lacks_false {want : Array (String × TypeId)} {got : Array Method} (h : lacks want got = false) : Instr.missingMethod want got = none := by
  have : (want.toList.filter fun (x : String × TypeId) => !got.any fun m => m.name == x.1 && m.sig == x.2) = [] := by
    rw [List.filter_eq_nil_iff]
    intro x hx hb
    unfold lacks at h
    rw [List.any_eq_false] at h
    exact h x hx hb
  rw [missing_eq, this]; rfl
theorem lacks_true {want : Array (String × TypeId)} {got : Array Method} (h : lacks want got = true) : ∃ m, Instr.missingMethod want got = some m := by
  unfold lacks at h
  rw [List.any_eq_true] at h
  obtain ⟨x, hx, hb⟩ := h
  have hmem : x.1 ∈ (want.toList.filter fun (x : String × TypeId) => !got.any fun m => m.name == x.1 && m.sig == x.2).map (·.1) := List.mem_map.2 ⟨x, List.mem_filter.2 ⟨hx, hb⟩, rfl⟩
  rw [missing_eq]
  unfold missingOf
  generalize (want.toList.filter fun (x : String × TypeId) => !got.any fun m => m.name == x.1 && m.sig == x.2).map (·.1) = missing at hmem
  rw [List.partition_eq_filter_filter]
  show ∃ m, (Instr.least (missing.filter (not ∘ fun s => s.contains '.')) <|> Instr.least ((missing.filter fun s => s.contains '.').map fun id => (id.splitOn ".").getLastD id)) = some m
  by_cases hd : x.1.contains '.' = true
  · have hne : (missing.filter fun s => s.contains '.') ≠ [] := by
      intro h0; rw [List.filter_eq_nil_iff] at h0; exact h0 _ hmem hd
    obtain ⟨m, hm⟩ := least_some (l := (missing.filter fun s => s.contains '.').map fun id => (id.splitOn ".").getLastD id) (by simpa using hne)
    cases hl : Instr.least (missing.filter (not ∘ fun s => s.contains '.')) with
    | none => exact ⟨m, by rw [hm]; rfl⟩
    | some q => exact ⟨q, rfl⟩
  · have hne : (missing.filter (not ∘ fun s => s.contains '.')) ≠ [] := by
      intro h0; rw [List.filter_eq_nil_iff] at h0; exact h0 _ hmem (by simpa using hd)
    obtain ⟨m, hm⟩ := least_some hne
    exact ⟨m, by rw [hm]; rfl⟩
def qassert (P : Program) (x : SV) (at_ : TypeId) (ok : Bool) (K : Option SV → VC) : VC :=
  match P.underlying at_, x with
  | some _, .niliface => asrFails P at_ ok K
  | some d, .iface u v => (match isIface d with
    | some want => (match P.info? u with
      | some i => (match lacks want i.methods with
        | false => asrHolds ok (.iface u v) K
        | true => asrFails P at_ ok K)
      | none => .fail "typeAssert")
    | none => if u = at_ then asrHolds ok v K else asrFails P at_ ok K)
  | _, _ => .fail "typeAssert"
theorem qassert_ok {x : Operand} {a : SV} {t at_ : TypeId} {ok : Bool} (hx : σ x = some a) : QOk P look σ (fun ρ => Instr.typeAssert (ρ x) t at_ ok) (qassert P a at_ ok) := by
  unfold qassert
  split
  · rename_i d hd
    exact asrFails_ok fun E w ρ hr hok z hz => by rw [hr x _ hx]; cases d <;> simp [SV.val, Instr.typeAssert, run_und hd, hok, hz]
  · rename_i d u v hd
    split
    · rename_i want hw
      have hd' : P.underlying at_ = some (.interface want) := by cases d <;> simp [isIface] at hw; subst hw; exact hd
      split
      · rename_i i hi
        split
        · rename_i hm
          have hm := lacks_false hm
          exact asrHolds_ok _ fun E w ρ hr => by
            rw [hr x _ hx]; simp only [SV.val, Instr.typeAssert, Sem.run_bind, run_und hd', Result.andThen_ok, run_info hi, hm]; cases ok <;> rfl
        · rename_i hm
          obtain ⟨m, hm⟩ := lacks_true hm
          exact asrFails_ok fun E w ρ hr hok z hz => by rw [hr x _ hx]; simp [SV.val, Instr.typeAssert, run_und hd', run_info hi, hm, hok, hz]
      · exact QOk.fail _
    · rename_i hw
      refine QOk.ite (fun e => ?_) (fun e => ?_)
      · subst e
        exact asrHolds_ok _ fun E w ρ hr => by
          rw [hr x _ hx]; cases d <;> simp only [isIface] at hw <;> first
            | (cases hw; done)
            | (simp only [SV.val, Instr.typeAssert, Sem.run_bind, run_und hd, Result.andThen_ok, if_true]; cases ok <;> rfl)
      · exact asrFails_ok fun E w ρ hr hok z hz => by
          rw [hr x _ hx]; cases d <;> simp only [isIface] at hw <;> first
            | (cases hw; done)
            | simp [SV.val, Instr.typeAssert, run_und hd, e, hok, hz]
  · exact QOk.fail _
/-! ### len, cap, min, max -/
def qlen (P : Program) (t : TypeId) (x : SV) (K : Option SV → VC) : VC :=
  match P.underlying t, x with
  | some .string, .str l s => K (some (.int .i64 l s.length))
  | some (.slice _), .slc _ _ n _ _ => K (some (.int .i64 true n))
  | some (.slice _), .rslc _ _ _ _ n _ => K (some (.int .i64 false n))
  | some (.slice _), .vslc _ _ _ _ _ n _ => K (some (.int .i64 false n))
  | some (.slice _), .nilslc => K (some (.int .i64 true 0))
  | some (.array n _), _ => K (some (.int .i64 true n))
  | some (.map _ _), .nilmap => K (some (.int .i64 true 0))
  | _, _ => .fail "len"
theorem qlen_ok {t : TypeId} {ats : Array TypeId} {ty : TypeId} {x : Operand} {a : SV} (hx : σ x = some a) (h0 : ats[0]? = some t) :
    QOk P look σ (fun ρ => Builtin.len_ ats ty #[ρ x]) (qlen P t a) := by
  unfold qlen
  have hs : ∀ s : List UInt8, (ByteArray.mk s.toArray).size = s.length := fun s => by simp [ByteArray.size]
  split <;> first
    | exact QOk.fail _
    | (rename_i hd; exact QOk.v _ fun E w ρ hc hr => by
        rw [hr x _ hx]
        simp only [SV.val, Builtin.len_, h0, List.getElem?_toArray, List.getElem?_cons_zero, Sem.run_bind, run_und hd, Result.andThen_ok]
        first
          | rfl
          | (show Result.ok (goInt (ByteArray.mk _).size) w = _; rw [hs]; rfl))
def qcap (P : Program) (t : TypeId) (x : SV) (K : Option SV → VC) : VC :=
  match P.underlying t, x with
  | some (.slice _), .slc _ _ _ l c => K (some (.int .i64 l c))
  | some (.slice _), .rslc _ _ false _ _ c => K (some (.int .i64 false c))
  | some (.slice _), .nilslc => K (some (.int .i64 true 0))
  | some (.array n _), _ => K (some (.int .i64 true n))
  | _, _ => .fail "cap"
theorem qcap_ok {t : TypeId} {ats : Array TypeId} {ty : TypeId} {x : Operand} {a : SV} (hx : σ x = some a) (h0 : ats[0]? = some t) :
    QOk P look σ (fun ρ => Builtin.cap_ ats ty #[ρ x]) (qcap P t a) := by
  unfold qcap
  split <;> first
    | exact QOk.fail _
    | (rename_i hd; exact QOk.v _ fun E w ρ hc hr => by rw [hr x _ hx]; simp [SV.val, Builtin.cap_, h0, run_und hd, goInt])
def qminmax (mx : Bool) (x y : SV) (K : Option SV → VC) : VC :=
  match x, y with
  | .int k l a, .int k' l' b => if k = k' then K (some (.int k (l && l') (match mx with | true => max a b | false => min a b))) else .fail "min, max: kinds"
  | _, _ => .fail "min, max"
theorem qmin_ok {ats : Array TypeId} {ty : TypeId} {x y : Operand} {a b : SV} (hx : σ x = some a) (hy : σ y = some b) :
    QOk P look σ (fun ρ => Builtin.min_ ats ty #[ρ x, ρ y]) (qminmax false a b) := by
  unfold qminmax
  split
  · rename_i k l m k' l' n
    refine QOk.ite (fun e => QOk.v _ fun E w ρ hc hr => ?_) (fun _ => QOk.fail _)
    subst e
    rw [hr x _ hx, hr y _ hy]
    simp only [SV.val, Builtin.min_, List.foldlM_cons, List.foldlM_nil, Builtin.min2, Sem.run_bind, Sem.run_pure, Result.andThen_ok]
    congr 2
    by_cases h : n < m
    · rw [if_pos h]; omega
    · rw [if_neg h]; omega
  · exact QOk.fail _
theorem qmax_ok {ats : Array TypeId} {ty : TypeId} {x y : Operand} {a b : SV} (hx : σ x = some a) (hy : σ y = some b) :
    QOk P look σ (fun ρ => Builtin.max_ ats ty #[ρ x, ρ y]) (qminmax true a b) := by
  unfold qminmax
  split
  · rename_i k l m k' l' n
    refine QOk.ite (fun e => QOk.v _ fun E w ρ hc hr => ?_) (fun _ => QOk.fail _)
    subst e
    rw [hr x _ hx, hr y _ hy]
    simp only [SV.val, Builtin.max_, List.foldlM_cons, List.foldlM_nil, Builtin.max2, Sem.run_bind, Sem.run_pure, Result.andThen_ok]
    congr 2
    by_cases h : n > m
    · rw [if_pos h]; omega
    · rw [if_neg h]; omega
  · exact QOk.fail _
/-! ### Composite literals -/
def setRange {α : Type} (cs : List α) (off : Nat) : List α → List α
  | [] => cs
  | v :: r => setRange (cs.set off v) (off + 1) r
theorem setRange_map {α β : Type} (f : α → β) : ∀ (vs cs : List α) (off : Nat), (setRange cs off vs).map f = setRange (cs.map f) off (vs.map f)
  | [], _, _ => rfl
  | v :: r, cs, off => by simp [setRange, setRange_map f r, List.map_set]
theorem foldl_setRange : ∀ (vs : List Value) (cells : Array Value) (off k : Nat),
    ((vs.zipIdx k).foldl (fun cs (x : Value × Nat) => cs.setIfInBounds (off + x.2) x.1) cells).toList = setRange cells.toList (off + k) vs
  | [], _, _, _ => rfl
  | v :: r, cells, off, k => by
    simp only [List.zipIdx_cons, List.foldl_cons, setRange]
    rw [foldl_setRange r]
    simp [Nat.add_assoc]
def fillS (place : Nat → Option (Nat × Nat)) (cells : List SV) : List (Nat × SV) → Option (List SV)
  | [] => some cells
  | (i, v) :: rest =>
    match place i with
    | none => none
    | some (off, size) =>
      if v.plain && decide (v.cells.length = size) && decide (off + size ≤ cells.length) then fillS place (setRange cells off v.cells) rest else none
theorem fillS_run {E : Nat → Nat} {place : Nat → Option (Nat × Nat)} : ∀ (parts : List (Nat × SV)) (cells out : List SV), fillS place cells parts = some out →
    Instr.fill place (SV.vals E cells).toArray (parts.map fun p => (p.1, p.2.val E)) = some (SV.vals E out).toArray
  | [], cells, out, h => by simp [fillS] at h; subst h; rfl
  | (i, v) :: rest, cells, out, h => by
    simp only [fillS] at h
    split at h
    · cases h
    · rename_i off size hp
      split at h
      · rename_i hc
        simp only [Bool.and_eq_true, decide_eq_true_eq] at hc
        obtain ⟨⟨h1, h2⟩, h3⟩ := hc
        have ih := fillS_run (E := E) rest _ out h
        simp only [List.map_cons, Instr.fill, hp]
        rw [SV.cells_val h1]
        rw [if_neg (by simp [h2, SV.vals_eq]; omega)]
        rw [← ih]
        congr 1
        apply Array.ext'
        rw [← Array.foldl_toList, Array.toList_zipIdx, foldl_setRange]
        simp [SV.vals_eq, setRange_map]
      · cases h
def partsOf (σ : Operand → Option SV) : List (Nat × Operand) → Option (List (Nat × SV))
  | [] => some []
  | (i, x) :: r => match σ x, partsOf σ r with
    | some v, some l => some ((i, v) :: l)
    | _, _ => none
theorem partsOf_val {σ : Operand → Option SV} {E : Nat → Nat} {ρ : Operand → Value} (hr : Reads E σ ρ) : ∀ {ps : List (Nat × Operand)} {l : List (Nat × SV)}, partsOf σ ps = some l →
    ps.map (fun p => (p.1, ρ p.2)) = l.map fun p => (p.1, p.2.val E)
  | [], l, h => by simp [partsOf] at h; subst h; rfl
  | (i, x) :: r, l, h => by
    simp only [partsOf] at h
    split at h
    · rename_i v l' hv hl
      injection h with h; subst h
      simp [hr x v hv, partsOf_val hr hl]
    · cases h
def fieldPlaces (P : Program) : List Field → Option (List (Nat × Nat))
  | [] => some []
  | f :: r => match sz P f.type, fieldPlaces P r with
    | some n, some l => some ((f.offset, n) :: l)
    | _, _ => none
theorem fieldPlaces_run {w : World} : ∀ {fs : List Field} {l : List (Nat × Nat)}, fieldPlaces P fs = some l →
    (fs.mapM (fun f => do pure (f.offset, ← sizeOf f.type)) : Sem (List (Nat × Nat))).run P w = .ok l w
  | [], l, h => by simp [fieldPlaces] at h; subst h; simp
  | f :: r, l, h => by
    simp only [fieldPlaces] at h
    split at h
    · rename_i n l' hn hl
      injection h with h; subst h
      have ih := fieldPlaces_run (w := w) hl
      simp at ih
      simp [List.mapM_cons, run_sz hn, ih]
    · cases h
def qbuild (P : Program) (σ : Operand → Option SV) (t : TypeId) (parts : List (Nat × Operand)) (K : Option SV → VC) : VC :=
  match P.underlying t, zeroSV P t, partsOf σ parts with
  | some (.struct fs), some (.agg zs), some ps => (match fieldPlaces P fs.toList with
    | some pl => (match fillS (fun i => pl[i]?) zs ps with
      | some out => K (some (.agg out))
      | none => .fail "build: fill")
    | none => .fail "build: places")
  | some (.array _ e), some (.agg zs), some ps => (match sz P e with
    | some m => (match fillS (fun i => some (i * m, m)) zs ps with
      | some out => K (some (.agg out))
      | none => .fail "build: fill")
    | none => .fail "build: places")
  | _, _, _ => .fail "build"
theorem qbuild_ok {t : TypeId} {parts : Array (Nat × Operand)} :
    QOk P look σ (fun ρ => Instr.build t (parts.map fun (i, x) => (i, ρ x))) (qbuild P σ t parts.toList) := by
  unfold qbuild
  split
  · rename_i fs zs ps hd hz hp
    split
    · rename_i pl hpl
      split
      · rename_i out hf
        refine QOk.v _ fun E w ρ hc hr => ?_
        have hm : (fs.mapM (fun f => do pure (f.offset, ← sizeOf f.type)) : Sem (Array (Nat × Nat))).run P w = .ok pl.toArray w := by
          have := fieldPlaces_run (P := P) (w := w) hpl
          rw [Array.mapM_eq_mapM_toList]
          simp only [Sem.run_map, this, Result.andThen_ok]
        have hfill := fillS_run (E := E) ps zs out hf
        have hparts := partsOf_val hr hp
        have hpp : (parts.map fun (x : Nat × Operand) => (x.1, ρ x.2)).toList = ps.map fun p => (p.1, p.2.val E) := by rw [← hparts]; simp
        simp only [Instr.build, Sem.run_bind, zeroSV_run (E := E) hz, Result.andThen_ok, run_und hd, hm]
        simp only [SV.val, Value.cells, hpp, List.getElem?_toArray, hfill]
        rfl
      · exact QOk.fail _
    · exact QOk.fail _
  · rename_i e zs ps hd hz hp
    split
    · rename_i m hm
      split
      · rename_i out hf
        refine QOk.v _ fun E w ρ hc hr => ?_
        have hfill := fillS_run (E := E) ps zs out hf
        have hparts := partsOf_val hr hp
        have hpp : (parts.map fun (x : Nat × Operand) => (x.1, ρ x.2)).toList = ps.map fun p => (p.1, p.2.val E) := by rw [← hparts]; simp
        simp only [Instr.build, Sem.run_bind, zeroSV_run (E := E) hz, Result.andThen_ok, run_und hd, run_sz hm]
        simp only [SV.val, Value.cells, hpp, hfill]
        rfl
      · exact QOk.fail _
    · exact QOk.fail _
  · exact QOk.fail _
end
end Go.Proofs.YtkfdcapnogklfaaGreatDoor.Sx
/-
  The framework's seventh part: 'qop': all quiet operations.
-/
namespace Go.Proofs.YtkfdcapnogklfaaGreatDoor.Sx
open Go
noncomputable section
/-! ### Bytes as a string -/
def bytesOf : List SV → Option (Bool × List UInt8)
  | [] => some (true, [])
  | .int .u8 l v :: r => (match bytesOf r with
    | some (l', bs) => some (l && l', UInt8.ofNat v.toNat :: bs)
    | none => none)
  | _ => none
def isBytes (P : Program) (t : TypeId) : Bool := match P.underlying t with
  | some (.slice e) => (match P.underlying e with
    | some (.int .u8) => true
    | _ => false)
  | _ => false
def bytesFrom (f : Nat → Int) (i n : Nat) : List UInt8 := (List.range n).map fun j => UInt8.ofNat (f (i + j)).toNat
theorem bytesOf_ints (g : Nat → Int) : ∀ l : List Nat, ∃ lt, bytesOf (l.map fun j => SV.int .u8 false (g j)) = some (lt, l.map fun j => UInt8.ofNat (g j).toNat)
  | [] => ⟨true, rfl⟩
  | a :: r => by
    obtain ⟨lt, h⟩ := bytesOf_ints g r
    exact ⟨false && lt, by simp only [List.map_cons, bytesOf, h]⟩
def qbytes (look : Look) (a : SV) (K : Option SV → VC) : VC := match a with
  | .nilslc => K (some (.str true []))
  | .slc key o n _ _ => (match look key with
    | some (.cells cs _ _) => (match takeAt cs o n with
      | some l => (match bytesOf l with
        | some (l', bs) => K (some (.str l' bs))
        | none => .fail "convert: bytes that are not known")
      | none => .fail "convert: a slice out of its block")
    | _ => .fail "convert: the block")
  | .rslc key 1 false i n _ => (match look key with
    | some (.rows false nb [.int .u8 f] _ _ _) => .and (.atom (i + n ≤ nb)) (K (some (.str false (bytesFrom f i n))))
    | _ => .fail "convert: the block")
  | _ => .fail "convert: a slice"
def qconvB (P : Program) (look : Look) (src dst : TypeId) (a : SV) (K : Option SV → VC) : VC := match isBytes P src, P.underlying dst with
  | true, some .string => qbytes look a K
  | _, _ => qconv P src dst a K
def pushByte (c : Value) (s : ByteArray) : Sem (ForInStep ByteArray) := do
  let .int .u8 n := c | stuck "bytesToString: byte expected"
  pure (.yield (s.push (UInt8.ofNat n.toNat)))
theorem bytesToString_eq (a : Addr) (n c : Nat) : Conv.bytesToString (.slice (some a) n c) = (do
    let s ← forIn (← loadCells a n) ByteArray.empty pushByte
    pure (.string s)) := rfl
theorem run_pushes {P : Program} {w : World} {E : Nat → Nat} : ∀ {l : List SV} {lt : Bool} {bs : List UInt8} (acc : List UInt8), bytesOf l = some (lt, bs) →
    (forIn (SV.vals E l) (⟨acc.toArray⟩ : ByteArray) pushByte).run P w = .ok ⟨(acc ++ bs).toArray⟩ w
  | [], lt, bs, acc, h => by
    simp only [bytesOf, Option.some.injEq, Prod.mk.injEq] at h
    obtain ⟨_, rfl⟩ := h
    simp [SV.vals]
  | x :: r, lt, bs, acc, h => by
    unfold bytesOf at h
    split at h
    · rename_i e; cases e
    · rename_i l v r' e
      injection e with e1 e2; subst e1; subst e2
      split at h
      · rename_i l' bs' hr
        simp only [Option.some.injEq, Prod.mk.injEq] at h
        obtain ⟨_, rfl⟩ := h
        simp only [SV.vals, SV.val, List.forIn_cons, Sem.run_bind]
        have : (pushByte (.int .u8 v) ⟨acc.toArray⟩).run P w = .ok (.yield ⟨(acc ++ [UInt8.ofNat v.toNat]).toArray⟩) w := by
          simp [pushByte, ByteArray.push]
        rw [this]
        simp only [Result.andThen_ok]
        rw [run_pushes (acc ++ [UInt8.ofNat v.toNat]) hr]
        simp
      · cases h
    · cases h
section
variable {P : Program} {look : Look} {σ : Operand → Option SV}
theorem run_convBytes {src dst : TypeId} {v : Value} {w : World} (hb : isBytes P src = true) (hd : P.underlying dst = some .string) (hv : ∀ k n, v ≠ .int k n) (hs : ∀ b, v ≠ .string b) :
    (convert src dst v).run P w = (Conv.bytesToString v).run P w := by
  unfold isBytes at hb
  split at hb
  · rename_i e he
    split at hb
    · rename_i he2
      simp only [convert, Sem.run_bind, run_und he, run_und hd, Result.andThen_ok]
      cases v <;> first
        | (rename_i k n; exact absurd rfl (hv k n))
        | (rename_i b; exact absurd rfl (hs b))
        | (simp only [run_und he2, Result.andThen_ok])
    · cases hb
  · cases hb
theorem qconvB_ok {src dst : TypeId} {x : Operand} {a : SV} (hx : σ x = some a) : QOk P look σ (fun ρ => convert src dst (ρ x)) (qconvB P look src dst a) := by
  unfold qconvB
  split
  · rename_i hb hd
    unfold qbytes
    split
    · exact QOk.v _ fun E w ρ hc hr => by
        rw [hr x _ hx, run_convBytes hb hd (fun _ _ h => by cases h) (fun _ h => by cases h)]
        rfl
    · rename_i key o n cl c
      split
      · rename_i cs tot ty hk
        split
        · rename_i l hl
          split
          · rename_i l' bs hbs
            refine QOk.v _ fun E w ρ hc hr => ?_
            obtain ⟨ob, ho, c0, fr, rfl, _, h2, _⟩ := hc.1 key _ hk rfl
            have hg := takeAt_get hl
            have hll := run_loadCells (P := P) ho o (SV.vals E l) (fun j v hj => by
              rw [SV.vals_eq, List.getElem?_map] at hj
              cases hjl : l[j]? with
              | none => rw [hjl] at hj; cases hj
              | some u => rw [hjl] at hj; injection hj with hj; subst hj; exact h2 _ _ (hg.2 j u hjl))
            have hlen : (SV.vals E l).length = n := by rw [SV.vals_eq, List.length_map, hg.1]
            rw [hlen] at hll
            rw [hr x _ hx, run_convBytes hb hd (fun _ _ h => by cases h) (fun _ h => by cases h)]
            simp only [SV.val, bytesToString_eq, Sem.run_bind, hll, Result.andThen_ok]
            rw [← Array.forIn_toList]
            have := run_pushes (P := P) (w := w) (E := E) [] hbs
            simp only [List.nil_append] at this
            exact (congrArg (fun r : Result ByteArray => r.andThen fun a w' => Sem.run P (pure (Value.string a)) w') this).trans rfl
          · exact QOk.fail _
        · exact QOk.fail _
      · exact QOk.fail _
    · rename_i key i n c
      split
      · rename_i nb f ro tot ty hk
        refine QOk.atom fun hin => QOk.v _ fun E w ρ hc hr => ?_
        obtain ⟨ob, ho, c0, fr, rfl, _, _, _, h2⟩ := hc.1 key _ hk rfl
        obtain ⟨lt, hbs⟩ := bytesOf_ints (fun j => f (i + j)) (List.range n)
        have hl : (SV.vals E ((List.range n).map fun j => SV.int .u8 false (f (i + j)))).length = n := by rw [SV.vals_eq, List.length_map, List.length_map, List.length_range]
        have hll := run_loadCells (P := P) ho (i * 1) (SV.vals E ((List.range n).map fun j => SV.int .u8 false (f (i + j)))) (fun j v hj => by
          rw [SV.vals_eq, List.map_map, List.getElem?_map] at hj
          by_cases hjn : j < n
          · rw [List.getElem?_range hjn] at hj
            injection hj with hj; subst hj
            have := h2 (i + j) 0 (.int .u8 f) (by omega) rfl
            rw [show i * 1 + j = (i + j) * [Col.int IntKind.u8 f].length + 0 by simp]
            exact this
          · rw [List.getElem?_eq_none (by simpa using hjn)] at hj; cases hj)
        rw [hl] at hll
        rw [hr x _ hx, run_convBytes hb hd (fun _ _ h => by cases h) (fun _ h => by cases h)]
        simp only [SV.val, Bool.false_and, cond_false, bytesToString_eq, Sem.run_bind, hll, Result.andThen_ok]
        rw [← Array.forIn_toList]
        have := run_pushes (P := P) (w := w) (E := E) [] hbs
        simp only [List.nil_append] at this
        exact (congrArg (fun r : Result ByteArray => r.andThen fun a w' => Sem.run P (pure (Value.string a)) w') this).trans rfl
      · exact QOk.fail _
    · exact QOk.fail _
  · exact qconv_ok hx
end
def quietConv (P : Program) (src dst : TypeId) : Bool :=
  match P.underlying src, P.underlying dst with
  | some (.int _), some (.int _) => true
  | some .string, some .string => true
  | _, some .string => isBytes P src
  | _, _ => false
def isQuiet (P : Program) : Op → Bool
  | .move _ | .assign _ | .pick .. | .load .. | .nilCheck _ | .binOp .. | .unOp .. | .makeInterface .. | .makeFunc .. | .slice .. | .fieldAddr .. | .field ..
  | .indexAddr .. | .index .. | .typeAssert .. | .extract .. | .build .. => true
  | .convert s d _ => quietConv P s d
  | .call c => (match c.callee with
    | .builtin .len | .builtin .cap | .builtin .min | .builtin .max => true
    | _ => false)
  | _ => false
def need (x : Option SV) (t : SV → VC) : VC :=
  match x with
  | some v => t v
  | none => .fail "a value that is not known"
def qnil (x : Option SV) (K : Option SV → VC) : VC :=
  match x with
  | some (.ptr a b c) => K (some (.ptr a b c))
  | some (.eptr a b c d) => K (some (.eptr a b c d))
  | some (.veptr a b c d e) => K (some (.veptr a b c d e))
  | some (.iface t v) => K (some (.iface t v))
  | some (.func (.func f) a b) => K (some (.func (.func f) a b))
  | _ => .fail "nilCheck"
def qpick (c a b : Option SV) (K : Option SV → VC) : VC :=
  match c with
  | some (.bool true v) => (match v with
    | true => K a
    | false => K b)
  | some (.bool false v) => fork v (fun e => match e with
    | true => K a
    | false => K b)
  | _ => .fail "pick"
def qcall (P : Program) (σ : Operand → Option SV) (b : Builtin) (ats : Array TypeId) (args : List Operand) (K : Option SV → VC) : VC :=
  match b, args with
  | .len, [x] => (match ats[0]? with
    | some t => need (σ x) (fun v => qlen P t v K)
    | none => .fail "len")
  | .cap, [x] => (match ats[0]? with
    | some t => need (σ x) (fun v => qcap P t v K)
    | none => .fail "cap")
  | .min, [x, y] => need (σ x) (fun v => need (σ y) (fun u => qminmax false v u K))
  | .max, [x, y] => need (σ x) (fun v => need (σ y) (fun u => qminmax true v u K))
  | _, _ => .fail "builtin"
def qop (P : Program) (look : Look) (σ : Operand → Option SV) (o : Op) (K : Option SV → VC) : VC :=
  match o with
  | .move x | .assign x => K (σ x)
  | .pick c a b => qpick (σ c) (σ a) (σ b) K
  | .load t a => qload P look t (σ a) K
  | .nilCheck x => qnil (σ x) K
  | .binOp op t x y _ => need (σ x) (fun a => need (σ y) (fun b => qbin P op t (isConst x || isConst y) a b K))
  | .unOp op _ x => need (σ x) (fun a => qun op a K)
  | .convert s d x => need (σ x) (fun a => qconvB P look s d a K)
  | .makeInterface t x => need (σ x) (fun a => qmakeIface P t a K)
  | .makeFunc fn a b => qmakeFunc fn (evs σ a.toList) (evs σ b.toList) K
  | .slice t x lo hi mx => qslice P σ t (σ x) lo hi mx K
  | .fieldAddr s x f => qfieldAddr P s (σ x) f K
  | .field t x f => need (σ x) (fun a => qfield P t a f K)
  | .indexAddr t x i => qindexAddr P t (σ x) (σ i) K
  | .index t x i => need (σ x) (fun a => need (σ i) (fun b => qindex P t a b K))
  | .typeAssert x _ at_ ok => need (σ x) (fun a => qassert P a at_ ok K)
  | .extract x i => need (σ x) (fun a => qextract a i K)
  | .build t parts => qbuild P σ t parts.toList K
  | .call c => (match c.callee with
    | .builtin b => qcall P σ b c.argTypes c.args.toList K
    | _ => .fail "call")
  | _ => .fail "no quiet operation"
def QOp (P : Program) (look : Look) (σ : Operand → Option SV) (o : Oper) (t : QT) : Prop :=
  ∃ (obl : Prop) (sv : Option SV), (∀ K, (t K).holds ↔ obl ∧ (K sv).holds) ∧
    (∀ E w ρ, Compat E look w → Reads E σ ρ → obl → ∃ r, (execOp ρ o).run P w = .ok (.value r) w ∧ ∀ v, sv = some v → r = v.val E)
section
variable {P : Program} {look : Look} {σ : Operand → Option SV}
theorem QOp.of {s : (Operand → Value) → Sem Value} {o : Oper} {t : QT} (h : QOk P look σ s t) (he : ∀ ρ, execOp ρ o = (do pure (.value (← s ρ)) : Sem Next)) : QOp P look σ o t := by
  obtain ⟨obl, sv, h1, h2⟩ := h
  refine ⟨obl, sv, h1, fun E w ρ hc hr ho => ?_⟩
  obtain ⟨r, hrun, hv⟩ := h2 E w ρ hc hr ho
  exact ⟨r, by rw [he, Sem.run_bind, hrun]; rfl, hv⟩
theorem QOp.fail {o : Oper} (why : String) : QOp P look σ o (fun _ => .fail why) :=
  ⟨False, none, fun _K => ⟨fun h => h.elim, fun h => h.1.elim⟩, fun _ _ _ _ _ h => h.elim⟩
theorem QOp.need {o : Oper} {x : Operand} {t : SV → QT} (h : ∀ v, σ x = some v → QOp P look σ o (t v)) : QOp P look σ o (fun K => need (σ x) (fun v => t v K)) := by
  unfold Sx.need
  cases hx : σ x with
  | none => exact QOp.fail _
  | some v => exact h v hx
theorem QOp.k {o : Oper} (x : Operand) (he : ∀ ρ, execOp ρ o = (pure (.value (ρ x)) : Sem Next)) : QOp P look σ o (fun K => K (σ x)) :=
  ⟨True, σ x, fun K => ⟨fun h => ⟨trivial, h⟩, fun h => h.2⟩, fun E w ρ _ hr _ => ⟨ρ x, by rw [he]; rfl, fun v hv => hr x v hv⟩⟩
theorem qop_ok (o : Oper) : QOp P look σ o (qop P look σ o.op) := by
  obtain ⟨dst, op, type, pos, after, guard⟩ := o
  cases op
  case move x => exact QOp.k x fun ρ => rfl
  case assign x => exact QOp.k x fun ρ => rfl
  case pick c a b =>
    show QOp P look σ _ (qpick (σ c) (σ a) (σ b))
    unfold qpick
    have key : ∀ l v, σ c = some (.bool l v) → QOp P look σ ⟨dst, .pick c a b, type, pos, after, guard⟩ (fun K => match v with | true => K (σ a) | false => K (σ b)) := by
      intro l v hc
      have he : ∀ E ρ w, Reads E σ ρ → (execOp ρ ⟨dst, .pick c a b, type, pos, after, guard⟩).run P w = .ok (.value (if v then ρ a else ρ b)) w := by
        intro E ρ w hr
        simp only [execOp, hr c _ hc, SV.val, asBool, Sem.run_bind, Sem.run_pure, Result.andThen_ok]
      cases v with
      | true => exact ⟨True, σ a, fun K => ⟨fun h => ⟨trivial, h⟩, fun h => h.2⟩, fun E w ρ _ hr _ => ⟨ρ a, by rw [he E ρ w hr]; rfl, fun v hv => hr a v hv⟩⟩
      | false => exact ⟨True, σ b, fun K => ⟨fun h => ⟨trivial, h⟩, fun h => h.2⟩, fun E w ρ _ hr _ => ⟨ρ b, by rw [he E ρ w hr]; rfl, fun v hv => hr b v hv⟩⟩
    split
    · rename_i v hc; exact key _ _ hc
    · rename_i v hc
      obtain ⟨obl, sv, h1, h2⟩ := key _ _ hc
      exact ⟨obl, sv, fun K => by rw [fork_iff]; exact h1 K, h2⟩
    · exact QOp.fail _
  case load t a => exact QOp.of (qload_ok t a) fun ρ => rfl
  case nilCheck x =>
    show QOp P look σ _ (qnil (σ x))
    unfold qnil
    split
    all_goals first
      | exact QOp.fail _
      | (rename_i hx; exact ⟨True, _, fun K => ⟨fun h => ⟨trivial, h⟩, fun h => h.2⟩, fun E w ρ _ hr _ => ⟨_, by simp only [execOp, hr x _ hx, SV.val]; rfl, fun v hv => by injection hv with hv; subst hv; rfl⟩⟩)
  case binOp op t x y yt => exact QOp.need fun a ha => QOp.need fun b hb => QOp.of (qbin_ok (_yt := yt) ha hb) fun ρ => rfl
  case unOp op t x => exact QOp.need fun a ha => QOp.of (qun_ok ha) fun ρ => rfl
  case convert s d x => exact QOp.need fun a ha => QOp.of (qconvB_ok ha) fun ρ => rfl
  case makeInterface t x => exact QOp.need fun a ha => QOp.of (qmakeIface_ok ha) fun ρ => rfl
  case makeFunc fn a b => exact QOp.of qmakeFunc_ok fun ρ => rfl
  case slice t x lo hi mx => exact QOp.of qslice_ok fun ρ => rfl
  case fieldAddr s x f => exact QOp.of (qfieldAddr_ok s x f) fun ρ => rfl
  case field t x f => exact QOp.need fun a ha => QOp.of (qfield_ok ha) fun ρ => rfl
  case indexAddr t x i => exact QOp.of (qindexAddr_ok t x i) fun ρ => rfl
  case index t x i => exact QOp.need fun a ha => QOp.need fun b hb => QOp.of (qindex_ok ha hb) fun ρ => rfl
  case typeAssert x t at_ ok => exact QOp.need fun a ha => QOp.of (qassert_ok (t := t) ha) fun ρ => rfl
  case extract x i => exact QOp.need fun a ha => QOp.of (qextract_ok ha) fun ρ => rfl
  case build t parts => exact QOp.of qbuild_ok fun ρ => rfl
  case call c =>
    obtain ⟨callee, args, ats⟩ := c
    cases callee with
    | value f => exact QOp.fail _
    | invoke r m => exact QOp.fail _
    | builtin b =>
      show QOp P look σ _ (qcall P σ b ats args.toList)
      unfold qcall
      have harr : ∀ {l : List Operand}, args.toList = l → args = l.toArray := fun h => by rw [← h]
      split
      · rename_i x hx
        have := harr hx; subst this
        split
        · rename_i t ht
          exact QOp.need fun a ha => QOp.of (qlen_ok (ty := type) ha ht) fun ρ => (BigFrame.execOp_builtin ..).trans (by rw [BigFrame.builtin_len]; simp)
        · exact QOp.fail _
      · rename_i x hx
        have := harr hx; subst this
        split
        · rename_i t ht
          exact QOp.need fun a ha => QOp.of (qcap_ok (ty := type) ha ht) fun ρ => (BigFrame.execOp_builtin ..).trans (by rw [BigFrame.builtin_cap]; simp)
        · exact QOp.fail _
      · rename_i x y hx
        have := harr hx; subst this
        exact QOp.need fun a ha => QOp.need fun b hb => QOp.of (qmin_ok (ats := ats) (ty := type) ha hb) fun ρ => (BigFrame.execOp_builtin ..).trans (by rw [BigFrame.builtin_min]; simp)
      · rename_i x y hx
        have := harr hx; subst this
        exact QOp.need fun a ha => QOp.need fun b hb => QOp.of (qmax_ok (ats := ats) (ty := type) ha hb) fun ρ => (BigFrame.execOp_builtin ..).trans (by rw [BigFrame.builtin_max]; simp)
      · exact QOp.fail _
  all_goals exact QOp.fail _
end
end
end Go.Proofs.YtkfdcapnogklfaaGreatDoor.Sx
