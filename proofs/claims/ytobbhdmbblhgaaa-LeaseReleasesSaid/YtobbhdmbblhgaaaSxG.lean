/-
  The framework's seventh part: 'qop': all quiet operations.
-/
import Derived.Test.YtobbhdmbblhgaaaSxF
namespace Go.Proofs.Ytobbhdmbblhgaaa.Sx
open Go

def quietConv (P : Program) (src dst : TypeId) : Bool :=
  match P.underlying src, P.underlying dst with
  | some (.int _), some (.int _) => true
  | some .string, some .string => true
  | _, _ => false
def isQuiet (P : Program) : Op → Bool
  | .move _ | .assign _ | .pick .. | .load .. | .nilCheck _ | .binOp .. | .unOp .. | .makeInterface .. | .makeFunc .. | .slice .. | .fieldAddr .. | .field ..
  | .indexAddr .. | .index .. | .typeAssert .. | .extract .. | .build .. => true
  | .convert s d _ => quietConv P s d
  | .call c => (match c.callee with
    | .builtin .len | .builtin .cap | .builtin .min | .builtin .max => true
    | _ => false)
  | _ => false

def need (x : Option SV) (t : SV → VC) : VC :=
  match x with
  | some v => t v
  | none => .fail "a value that is not known"
def qnil (x : Option SV) (K : Option SV → VC) : VC :=
  match x with
  | some (.ptr a b c) => K (some (.ptr a b c))
  | some (.eptr a b c d) => K (some (.eptr a b c d))
  | some (.veptr a b c d e) => K (some (.veptr a b c d e))
  | some (.iface t v) => K (some (.iface t v))
  | some (.func (.func f) a b) => K (some (.func (.func f) a b))
  | _ => .fail "nilCheck"
def qpick (c a b : Option SV) (K : Option SV → VC) : VC :=
  match c with
  | some (.bool true v) => (match v with
    | true => K a
    | false => K b)
  | some (.bool false v) => fork v (fun e => match e with
    | true => K a
    | false => K b)
  | _ => .fail "pick"
def qcall (P : Program) (σ : Operand → Option SV) (b : Builtin) (ats : Array TypeId) (args : List Operand) (K : Option SV → VC) : VC :=
  match b, args with
  | .len, [x] => (match ats[0]? with
    | some t => need (σ x) (fun v => qlen P t v K)
    | none => .fail "len")
  | .cap, [x] => (match ats[0]? with
    | some t => need (σ x) (fun v => qcap P t v K)
    | none => .fail "cap")
  | .min, [x, y] => need (σ x) (fun v => need (σ y) (fun u => qminmax false v u K))
  | .max, [x, y] => need (σ x) (fun v => need (σ y) (fun u => qminmax true v u K))
  | _, _ => .fail "builtin"
def qop (P : Program) (look : Look) (σ : Operand → Option SV) (o : Op) (K : Option SV → VC) : VC :=
  match o with
  | .move x | .assign x => K (σ x)
  | .pick c a b => qpick (σ c) (σ a) (σ b) K
  | .load t a => qload P look t (σ a) K
  | .nilCheck x => qnil (σ x) K
  | .binOp op t x y _ => need (σ x) (fun a => need (σ y) (fun b => qbin P op t (isConst x || isConst y) a b K))
  | .unOp op _ x => need (σ x) (fun a => qun op a K)
  | .convert s d x => need (σ x) (fun a => qconv P s d a K)
  | .makeInterface t x => need (σ x) (fun a => qmakeIface P t a K)
  | .makeFunc fn a b => qmakeFunc fn (evs σ a.toList) (evs σ b.toList) K
  | .slice t x lo hi mx => qslice P σ t (σ x) lo hi mx K
  | .fieldAddr s x f => qfieldAddr P s (σ x) f K
  | .field t x f => need (σ x) (fun a => qfield P t a f K)
  | .indexAddr t x i => qindexAddr P t (σ x) (σ i) K
  | .index t x i => need (σ x) (fun a => need (σ i) (fun b => qindex P t a b K))
  | .typeAssert x _ at_ ok => need (σ x) (fun a => qassert P a at_ ok K)
  | .extract x i => need (σ x) (fun a => qextract a i K)
  | .build t parts => qbuild P σ t parts.toList K
  | .call c => (match c.callee with
    | .builtin b => qcall P σ b c.argTypes c.args.toList K
    | _ => .fail "call")
  | _ => .fail "no quiet operation"

/-- What a quiet operation comes down to. -/
def QOp (P : Program) (look : Look) (σ : Operand → Option SV) (o : Oper) (t : QT) : Prop :=
  ∃ (obl : Prop) (sv : Option SV), (∀ K, (t K).holds ↔ obl ∧ (K sv).holds) ∧
    (∀ E w ρ, Compat E look w → Reads E σ ρ → obl → ∃ r, (execOp ρ o).run P w = .ok (.value r) w ∧ ∀ v, sv = some v → r = v.val E)

section
variable {P : Program} {look : Look} {σ : Operand → Option SV}
theorem QOp.of {s : (Operand → Value) → Sem Value} {o : Oper} {t : QT} (h : QOk P look σ s t) (he : ∀ ρ, execOp ρ o = (do pure (.value (← s ρ)) : Sem Next)) : QOp P look σ o t := by
  obtain ⟨obl, sv, h1, h2⟩ := h
  refine ⟨obl, sv, h1, fun E w ρ hc hr ho => ?_⟩
  obtain ⟨r, hrun, hv⟩ := h2 E w ρ hc hr ho
  exact ⟨r, by rw [he, Sem.run_bind, hrun]; rfl, hv⟩
theorem QOp.fail {o : Oper} (why : String) : QOp P look σ o (fun _ => .fail why) :=
  ⟨False, none, fun K => ⟨fun h => h.elim, fun h => h.1.elim⟩, fun _ _ _ _ _ h => h.elim⟩
theorem QOp.need {o : Oper} {x : Operand} {t : SV → QT} (h : ∀ v, σ x = some v → QOp P look σ o (t v)) : QOp P look σ o (fun K => need (σ x) (fun v => t v K)) := by
  unfold Sx.need
  cases hx : σ x with
  | none => exact QOp.fail _
  | some v => exact h v hx
theorem QOp.k {o : Oper} (x : Operand) (he : ∀ ρ, execOp ρ o = (pure (.value (ρ x)) : Sem Next)) : QOp P look σ o (fun K => K (σ x)) :=
  ⟨True, σ x, fun K => ⟨fun h => ⟨trivial, h⟩, fun h => h.2⟩, fun E w ρ _ hr _ => ⟨ρ x, by rw [he]; rfl, fun v hv => hr x v hv⟩⟩

theorem qop_ok (o : Oper) : QOp P look σ o (qop P look σ o.op) := by
  obtain ⟨dst, op, type, pos, after, guard⟩ := o
  cases op
  case move x => exact QOp.k x fun ρ => rfl
  case assign x => exact QOp.k x fun ρ => rfl
  case pick c a b =>
    show QOp P look σ _ (qpick (σ c) (σ a) (σ b))
    unfold qpick
    have key : ∀ l v, σ c = some (.bool l v) → QOp P look σ ⟨dst, .pick c a b, type, pos, after, guard⟩ (fun K => match v with | true => K (σ a) | false => K (σ b)) := by
      intro l v hc
      have he : ∀ E ρ w, Reads E σ ρ → (execOp ρ ⟨dst, .pick c a b, type, pos, after, guard⟩).run P w = .ok (.value (if v then ρ a else ρ b)) w := by
        intro E ρ w hr
        simp only [execOp, hr c _ hc, SV.val, asBool, Sem.run_bind, Sem.run_pure, Result.andThen_ok]
      cases v with
      | true => exact ⟨True, σ a, fun K => ⟨fun h => ⟨trivial, h⟩, fun h => h.2⟩, fun E w ρ _ hr _ => ⟨ρ a, by rw [he E ρ w hr]; rfl, fun v hv => hr a v hv⟩⟩
      | false => exact ⟨True, σ b, fun K => ⟨fun h => ⟨trivial, h⟩, fun h => h.2⟩, fun E w ρ _ hr _ => ⟨ρ b, by rw [he E ρ w hr]; rfl, fun v hv => hr b v hv⟩⟩
    split
    · rename_i v hc; exact key _ _ hc
    · rename_i v hc
      obtain ⟨obl, sv, h1, h2⟩ := key _ _ hc
      exact ⟨obl, sv, fun K => by rw [fork_iff]; exact h1 K, h2⟩
    · exact QOp.fail _
  case load t a => exact QOp.of (qload_ok t a) fun ρ => rfl
  case nilCheck x =>
    show QOp P look σ _ (qnil (σ x))
    unfold qnil
    split
    all_goals first
      | exact QOp.fail _
      | (rename_i hx; exact ⟨True, _, fun K => ⟨fun h => ⟨trivial, h⟩, fun h => h.2⟩, fun E w ρ _ hr _ => ⟨_, by simp only [execOp, hr x _ hx, SV.val]; rfl, fun v hv => by injection hv with hv; subst hv; rfl⟩⟩)
  case binOp op t x y yt => exact QOp.need fun a ha => QOp.need fun b hb => QOp.of (qbin_ok (yt := yt) ha hb) fun ρ => rfl
  case unOp op t x => exact QOp.need fun a ha => QOp.of (qun_ok ha) fun ρ => rfl
  case convert s d x => exact QOp.need fun a ha => QOp.of (qconv_ok ha) fun ρ => rfl
  case makeInterface t x => exact QOp.need fun a ha => QOp.of (qmakeIface_ok ha) fun ρ => rfl
  case makeFunc fn a b => exact QOp.of qmakeFunc_ok fun ρ => rfl
  case slice t x lo hi mx => exact QOp.of qslice_ok fun ρ => rfl
  case fieldAddr s x f => exact QOp.of (qfieldAddr_ok s x f) fun ρ => rfl
  case field t x f => exact QOp.need fun a ha => QOp.of (qfield_ok ha) fun ρ => rfl
  case indexAddr t x i => exact QOp.of (qindexAddr_ok t x i) fun ρ => rfl
  case index t x i => exact QOp.need fun a ha => QOp.need fun b hb => QOp.of (qindex_ok ha hb) fun ρ => rfl
  case typeAssert x t at_ ok => exact QOp.need fun a ha => QOp.of (qassert_ok (t := t) ha) fun ρ => rfl
  case extract x i => exact QOp.need fun a ha => QOp.of (qextract_ok ha) fun ρ => rfl
  case build t parts => exact QOp.of qbuild_ok fun ρ => rfl
  case call c =>
    obtain ⟨callee, args, ats⟩ := c
    cases callee with
    | value f => exact QOp.fail _
    | invoke r m => exact QOp.fail _
    | builtin b =>
      show QOp P look σ _ (qcall P σ b ats args.toList)
      unfold qcall
      have harr : ∀ {l : List Operand}, args.toList = l → args = l.toArray := fun h => by rw [← h]
      split
      · rename_i x hx
        have := harr hx; subst this
        split
        · rename_i t ht
          exact QOp.need fun a ha => QOp.of (qlen_ok (ty := type) ha ht) fun ρ => (BigFrame.execOp_builtin ..).trans (by rw [BigFrame.builtin_len]; simp)
        · exact QOp.fail _
      · rename_i x hx
        have := harr hx; subst this
        split
        · rename_i t ht
          exact QOp.need fun a ha => QOp.of (qcap_ok (ty := type) ha ht) fun ρ => (BigFrame.execOp_builtin ..).trans (by rw [BigFrame.builtin_cap]; simp)
        · exact QOp.fail _
      · rename_i x y hx
        have := harr hx; subst this
        exact QOp.need fun a ha => QOp.need fun b hb => QOp.of (qmin_ok (ats := ats) (ty := type) ha hb) fun ρ => (BigFrame.execOp_builtin ..).trans (by rw [BigFrame.builtin_min]; simp)
      · rename_i x y hx
        have := harr hx; subst this
        exact QOp.need fun a ha => QOp.need fun b hb => QOp.of (qmax_ok (ats := ats) (ty := type) ha hb) fun ρ => (BigFrame.execOp_builtin ..).trans (by rw [BigFrame.builtin_max]; simp)
      · exact QOp.fail _
  all_goals exact QOp.fail _
end
end Go.Proofs.Ytobbhdmbblhgaaa.Sx
