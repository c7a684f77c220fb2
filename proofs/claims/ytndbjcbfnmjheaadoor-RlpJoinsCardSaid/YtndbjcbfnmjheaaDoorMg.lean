/-
  The framework's part 21: functions that reach no memory of their caller's: what they answer is all that is said.
-/
import Derived.Test.YtndbjcbfnmjheaaDoorMf
namespace Go.Proofs.YtndbjcbfnmjheaaDoor.Sx
open Go

/-- Whether a value is written out is not looked at. -/
def unlit : SV → SV
  | .int k _ n => .int k false n
  | .bool _ b => .bool false b
  | .str _ s => .str false s
  | v => v
theorem unlit_val (E : Nat → Nat) (v : SV) : (unlit v).val E = v.val E := by cases v <;> rfl
theorem unlit_vals (E : Nat → Nat) : ∀ l : List SV, SV.vals E (l.map unlit) = SV.vals E l
  | [] => rfl
  | v :: r => by simp only [List.map_cons, SV.vals, unlit_val, unlit_vals E r]
/-- A call of such a function: what it asks for, and its answer, by its arguments. -/
noncomputable def purePT (spec : List SV → Option (Prop × SV)) : PT := fun args m nx K => match spec (args.map unlit) with
  | some (p, r) => .and (.atom p) (K r m nx)
  | none => .fail "arguments that nothing is said of"
/-- The answer is the one that is told. -/
def sameVal (v r : SV) : Prop := ∀ E, v.val E = r.val E
theorem purePT_mono (spec : List SV → Option (Prop × SV)) : MonoPT (purePT spec) := by
  intro args m nx K K' hK h
  unfold purePT at h ⊢
  split at h
  · exact ⟨h.1, hK _ _ _ h.2⟩
  · exact h
theorem pure_ok {P : Program} {cfg : Cfg} (hg : Good P cfg) {f : FuncId} {fn : Func} (hf : P.funcs[f]? = some fn) (hn : (fn.name == "runtime.NumGoroutine") = false) (hb : fn.body.isSome = true) {n : Nat} {spec : List SV → Option (Prop × SV)}
    (h : ∀ args p r, spec args = some (p, r) → p → SV.wfs 0 args = true ∧ r.wf 0 = true ∧ Holds (runFn P (calling P cfg n) [] (cfg.anns f) cfg.rounds fn args [] 0 (fun v _ _ => .atom (sameVal v r)))) : CallOk P f (purePT spec) := by
  intro args m nx K hk hwf hargs Γ E w hs
  unfold purePT at hk
  split at hk
  · rename_i p r hr
    obtain ⟨hp, hk⟩ := hk
    obtain ⟨h1, h2, h3⟩ := h _ _ _ hr hp
    have hc := calls_of_holds hg hf hn hb h3 rfl h1 (SatM.none w hs.glob)
    rw [SV.vals_pure h1 (fun _ => 0) E, unlit_vals] at hc
    refine out_of_calls hf hn hb (hc.mono ?_)
    rintro e w' ⟨v, rfl, E', sv, m', nx', _, _, g3, g4, g5⟩
    refine ⟨v, rfl, ?_⟩
    cases sv with
    | none => exact g5.elim
    | some u =>
      have hu : sameVal u r := g5
      refine ⟨E, some r, m, nx, fun _ _ => rfl, Nat.le_refl _, fun x hx => ?_, hs.still g4.ext, hk⟩
      injection hx with hx; subst hx
      rw [g3 u rfl, hu E', SV.val_pure h2 E' E]
  · exact hk.elim
end Go.Proofs.YtndbjcbfnmjheaaDoor.Sx
/-
  The framework's part 22: functions that read no memory of their caller's: what they answer, by cases, maybe in a new block.
-/
namespace Go.Proofs.YtndbjcbfnmjheaaDoor.Sx
open Go

/-- An answer: a value; or one that points to a new block; by cases; for some number. -/
inductive Ans : Type 1 where
  | ret (v : SV)
  | new (v : Nat → SV) (B : SB)
  | all (α : Type) (f : α → Ans)
  | req (p : Prop) (a : Ans)
  | fork (b : Bool) (f : Bool → Ans)
def Ans.vc (m : Mem) (nx : Nat) (K : SV → Mem → Nat → VC) : Ans → VC
  | .ret v => K v m nx
  | .new v B => K (v nx) ((nx, B) :: m) (nx + 1)
  | .all α f => .all α fun x => (f x).vc m nx K
  | .req p a => .imp p (a.vc m nx K)
  | .fork b f => Sx.fork b fun b => (f b).vc m nx K
/-- What an answer must be, that it can be told. -/
def Ans.Ok : Ans → Prop
  | .ret v => v.wf 0 = true
  | .new v B => B.wf 0 = true ∧ B.ro = false ∧ (∀ k, (v k).wf (k + 1) = true) ∧ ∀ (E E' : Nat → Nat) k k', (B.no = false → E k = E' k') → (v k).val E = (v k').val E'
  | .all α f => ∀ x, (f x).Ok
  | .req _ a => a.Ok
  | .fork _ f => ∀ b, (f b).Ok
mutual
def SV.key : SV → Option Nat
  | .ptr k _ _ => some k
  | .slc k _ _ _ _ => some k
  | .rslc k _ _ _ _ _ => some k
  | .tup vs => SV.keys vs
  | .agg vs => SV.keys vs
  | .iface _ v => v.key
  | _ => none
def SV.keys : List SV → Option Nat
  | [] => none
  | v :: r => match v.key with
    | some k => some k
    | none => SV.keys r
end
/-- Does what was returned fit an answer? -/
def Ans.fit (v : SV) (m : Mem) : Ans → VC
  | .ret r => .atom (sameVal v r)
  | .new r B => (match v.key with
    | some k => (match m.get k with
      | some X => .and (.atom (SBle X B)) (.atom (sameVal v (r k)))
      | none => .fail "no block")
    | none => .fail "no key")
  | .all α f => .ex α fun x => (f x).fit v m
  | .req p a => .and (.atom p) (a.fit v m)
  | .fork b f => Sx.fork b fun b => (f b).fit v m
noncomputable def ansPT (spec : List SV → Option (Prop × Ans)) : PT := fun args m nx K => match spec (args.map unlit) with
  | some (p, a) => .and (.atom p) (a.vc m nx K)
  | none => .fail "arguments that nothing is said of"
theorem Ans.vc_mono {m : Mem} {nx : Nat} {K K' : SV → Mem → Nat → VC} (hK : ∀ v m nx, (K v m nx).holds → (K' v m nx).holds) : ∀ {a : Ans}, (a.vc m nx K).holds → (a.vc m nx K').holds
  | .ret _, h => hK _ _ _ h
  | .new _ _, h => hK _ _ _ h
  | .all _ _, h => fun x => Ans.vc_mono hK (h x)
  | .req _ _, h => fun x => Ans.vc_mono hK (h x)
  | .fork _ _, h => fork_iff.2 (Ans.vc_mono hK (fork_iff.1 h))
theorem ansPT_mono (spec : List SV → Option (Prop × Ans)) : MonoPT (ansPT spec) := by
  intro args m nx K K' hK h
  unfold ansPT at h ⊢
  split at h
  · exact ⟨h.1, Ans.vc_mono hK h.2⟩
  · exact h
theorem BlkOk.le {E : Nat → Nat} {X B : SB} {o : Obj} (h : SBle X B) (hn : B.no = false) (hb : BlkOk E X o) : BlkOk E B o := (h hn).2.1 E o hb
theorem SatM.new {Γ E m nx w} (h : SatM Γ E m nx w) (hw : Mem.wf nx m = true) {E1 : Nat → Nat} {m1 : Mem} {nx1 : Nat} {w' : World}
    {gl gm} (h1 : SatM (Base.at w (fun _ => False) gl gm) E1 m1 nx1 w') {j : Nat} {X B : SB} (hX : m1.get j = some X) (hle : SBle X B) (hw2 : B.wf 0 = true) (hr2 : B.ro = false) :
    ∃ E', (∀ i, i < nx → E' i = E i) ∧ (B.no = false → E' nx = E1 j) ∧ SatM Γ E' ((nx, B) :: m) (nx + 1) w' := by
  have hf := h.still h1.ext
  have hlt : ∀ i X, m.get i = some X → X.no = false → E i < w.heap.size := fun i X hi hX => by
    obtain ⟨o, ho, _⟩ := h.blk i X hi hX
    exact (Array.getElem?_eq_some_iff.1 ho).1
  cases hno : B.no with
  | true =>
    refine ⟨fun i => if i = nx then w.heap.size else E i, fun i hi => by simp [Nat.ne_of_lt hi], (fun h => by cases h), ?_⟩
    exact hf.push hw (fun _ _ h => h) (fun i X hi hX => Nat.ne_of_lt (hlt i X hi hX)) (fun _ _ _ => rfl) hf.ext (fun hx => by rw [hno] at hx; cases hx) (fun D hD => Nat.ne_of_lt (Array.getElem?_eq_some_iff.1 (h.kp D hD)).1) (fun hx => by rw [hno] at hx; cases hx)
  | false =>
    obtain ⟨g1, g2, g3⟩ := hle hno
    obtain ⟨o, ho, hb⟩ := h1.blk j X hX g1
    have hge : w.heap.size ≤ E1 j := by
      rcases h1.own j X hX g1 (g3 hr2) with e | e
      · exact e.elim
      · exact e
    refine ⟨fun i => if i = nx then E1 j else E i, fun i hi => by simp [Nat.ne_of_lt hi], fun _ => by simp, ?_⟩
    refine hf.push hw (fun _ _ h => h) (fun i X hi hX e => ?_) (fun _ _ _ => rfl) hf.ext (fun _ _ => .inr (Nat.le_trans h.ext.size hge)) (fun D hD => Nat.ne_of_lt (Nat.lt_of_lt_of_le (Array.getElem?_eq_some_iff.1 (h.kp D hD)).1 hge)) (fun _ => ⟨o, ho, (g2 E1 o hb).pure hw2⟩)
    have := hlt i X hi hX
    omega
theorem Ans.told {Γ E m nx w} (h : SatM Γ E m nx w) (hw : Mem.wf nx m = true) {E1 : Nat → Nat} {m1 : Mem} {nx1 : Nat} {w' : World}
    {gl gm} (h1 : SatM (Base.at w (fun _ => False) gl gm) E1 m1 nx1 w') {v : SV} {K : SV → Mem → Nat → VC} : ∀ {a : Ans}, a.Ok → (a.fit v m1).holds → (a.vc m nx K).holds → After (lift K) Γ E nx (v.val E1) w'
  | .ret r, hO, hf, hK => ⟨E, some r, m, nx, fun _ _ => rfl, Nat.le_refl _, fun x hx => by
      injection hx with hx; subst hx
      have hf : sameVal v r := hf
      rw [hf E1]; exact SV.val_pure hO E1 E, h.still h1.ext, hK⟩
  | .new r B, hO, hf, hK => by
    obtain ⟨o1, o2, o3, o4⟩ := hO
    simp only [Ans.fit] at hf
    split at hf
    · rename_i k hk
      split at hf
      · rename_i X hX
        obtain ⟨f1, f2⟩ := hf
        have f1 : SBle X B := f1
        have f2 : sameVal v (r k) := f2
        obtain ⟨E', e1, e2, e3⟩ := SatM.new h hw h1 hX f1 o1 o2
        refine ⟨E', some (r nx), _, nx + 1, e1, Nat.le_succ _, fun x hx => ?_, e3, hK⟩
        injection hx with hx; subst hx
        rw [f2 E1]
        exact o4 E1 E' k nx fun hb => (e2 hb).symm
      · exact hf.elim
    · exact hf.elim
  | .all _ f, hO, ⟨x, hx⟩, hK => Ans.told h hw h1 (hO x) hx (hK x)
  | .req _ a, hO, hf, hK => Ans.told (a := a) h hw h1 hO hf.2 (hK hf.1)
  | .fork _ _, hO, hf, hK => Ans.told h hw h1 (hO _) (fork_iff.1 hf) (fork_iff.1 hK)
theorem ans_ok {P : Program} {f : FuncId} {fn : Func} (hf : P.funcs[f]? = some fn) (hn : (fn.name == "runtime.NumGoroutine") = false) (hb : fn.body.isSome = true) {n : Nat} {spec : List SV → Option (Prop × Ans)}
    (h : ∀ args p a, spec args = some (p, a) → p → ∃ cfg, Good P cfg ∧ SV.wfs 0 args = true ∧ a.Ok ∧ Holds (runFn P (calling P cfg n) [] (cfg.anns f) cfg.rounds fn args [] 0 (fun v m _ => a.fit v m))) : CallOk P f (ansPT spec) := by
  intro args m nx K hk hwf hargs Γ E w hs
  unfold ansPT at hk
  split at hk
  · rename_i p a hr
    obtain ⟨hp, hk⟩ := hk
    obtain ⟨cfg, hg, h1, h2, h3⟩ := h _ _ _ hr hp
    have hc := calls_of_holds hg hf hn hb h3 rfl h1 (SatM.none w hs.glob)
    rw [SV.vals_pure h1 (fun _ => 0) E, unlit_vals] at hc
    refine out_of_calls hf hn hb (hc.mono ?_)
    rintro e w' ⟨v, rfl, E', sv, m', nx', _, _, g3, g4, g5⟩
    refine ⟨v, rfl, ?_⟩
    cases sv with
    | none => exact g5.elim
    | some u => rw [g3 u rfl]; exact Ans.told hs hwf g4 h2 g5 hk
  · exact hk.elim
theorem SV.wfs_append {nx : Nat} : ∀ {a b : List SV}, SV.wfs nx a = true → SV.wfs nx b = true → SV.wfs nx (a ++ b) = true
  | [], _, _, h => h
  | x :: a, b, h, h' => by
    simp only [SV.wfs, Bool.and_eq_true] at h
    simp only [List.cons_append, SV.wfs, Bool.and_eq_true]
    exact ⟨h.1, SV.wfs_append h.2 h'⟩
end Go.Proofs.YtndbjcbfnmjheaaDoor.Sx
/-
  The framework's part 23: contracts at arguments that are written out.
-/
namespace Go.Proofs.YtndbjcbfnmjheaaDoor.Sx
open Go

mutual
/-- As one that is written out. -/
def lit : SV → SV
  | .int k _ n => .int k true n
  | .bool _ b => .bool true b
  | .str _ s => .str true s
  | .tup vs => .tup (lits vs)
  | v => v
def lits : List SV → List SV
  | [] => []
  | v :: r => lit v :: lits r
end
mutual
theorem lit_val (E : Nat → Nat) : ∀ v : SV, (lit v).val E = v.val E
  | .tup vs => by simp only [lit, SV.val, lits_val E vs]
  | .int .. => rfl
  | .bool .. => rfl
  | .str .. => rfl
  | .ptr .. => rfl
  | .eptr .. => rfl
  | .aptr .. => rfl
  | .nilptr => rfl
  | .slc .. => rfl
  | .rslc .. => rfl
  | .vslc .. => rfl
  | .veptr .. => rfl
  | .nilslc => rfl
  | .agg .. => rfl
  | .iface .. => rfl
  | .niliface => rfl
  | .func .. => rfl
  | .nilfunc => rfl
  | .yield .. => rfl
  | .map .. => rfl
  | .nilmap => rfl
  | .raw .. => rfl
theorem lits_val (E : Nat → Nat) : ∀ l : List SV, SV.vals E (lits l) = SV.vals E l
  | [] => rfl
  | v :: r => by simp only [lits, SV.vals, lit_val E v, lits_val E r]
end
def isLit : SV → Bool
  | .int _ l _ => l
  | .bool l _ => l
  | .str l _ => l
  | _ => false
def allLit : List SV → Bool
  | [] => true
  | v :: r => isLit v && allLit r
def Ans.vcl (m : Mem) (nx : Nat) (K : SV → Mem → Nat → VC) : Ans → VC
  | .ret v => K v m nx
  | .new v B => K (v nx) ((nx, B) :: m) (nx + 1)
  | .all α f => .all α fun x => (f x).vcl m nx K
  | .req p a => .imp p (a.vcl m nx K)
  | .fork b f => match b with
    | true => (f true).vcl m nx K
    | false => (f false).vcl m nx K
theorem Ans.vcl_iff {m : Mem} {nx : Nat} {K : SV → Mem → Nat → VC} : ∀ {a : Ans}, (a.vcl m nx K).holds → (a.vc m nx K).holds
  | .ret _, h => h
  | .new _ _, h => h
  | .all _ _, h => fun x => Ans.vcl_iff (h x)
  | .req _ a, h => fun x => Ans.vcl_iff (a := a) (h x)
  | .fork b f, h => fork_iff.2 (by
      cases b with
      | true => exact Ans.vcl_iff (a := f true) h
      | false => exact Ans.vcl_iff (a := f false) h)
theorem Ans.vcl_mono {m : Mem} {nx : Nat} {K K' : SV → Mem → Nat → VC} (hK : ∀ v m nx, (K v m nx).holds → (K' v m nx).holds) : ∀ {a : Ans}, (a.vcl m nx K).holds → (a.vcl m nx K').holds
  | .ret _, h => hK _ _ _ h
  | .new _ _, h => hK _ _ _ h
  | .all _ _, h => fun x => Ans.vcl_mono hK (h x)
  | .req _ a, h => fun x => Ans.vcl_mono (a := a) hK (h x)
  | .fork b f, h => by
    cases b with
    | true => exact Ans.vcl_mono (a := f true) hK h
    | false => exact Ans.vcl_mono (a := f false) hK h
/-- The contract; where the arguments are written out, its tests are decided. -/
noncomputable def ansLPT (spec : List SV → Option (Prop × Ans)) : PT := fun args m nx K => match allLit args with
  | true => (match spec (args.map unlit) with
    | some (p, a) => .and (.atom p) (a.vcl m nx (fun v m nx => K (lit v) m nx))
    | none => .fail "arguments that nothing is said of")
  | false => ansPT spec args m nx K
theorem ansLPT_mono (spec : List SV → Option (Prop × Ans)) : MonoPT (ansLPT spec) := by
  intro args m nx K K' hK h
  unfold ansLPT at h ⊢
  split at h
  · split at h
    · exact ⟨h.1, Ans.vcl_mono (fun v m nx => hK _ _ _) h.2⟩
    · exact h
  · exact ansPT_mono spec _ _ _ _ _ hK h
theorem After.relit {Γ : Base} {E : Nat → Nat} {nx : Nat} {r : Value} {w : World} {K : SV → Mem → Nat → VC} (h : After (lift (fun v m nx => K (lit v) m nx)) Γ E nx r w) : After (lift K) Γ E nx r w := by
  obtain ⟨E', sv, m', nx', h1, h2, h3, h4, h5⟩ := h
  cases sv with
  | none => exact h5.elim
  | some v => exact ⟨E', some (lit v), m', nx', h1, h2, fun x hx => by injection hx with hx; subst hx; rw [lit_val]; exact h3 v rfl, h4, h5⟩
theorem ansL_ok {P : Program} {f : FuncId} {spec : List SV → Option (Prop × Ans)} (h : CallOk P f (ansPT spec)) : CallOk P f (ansLPT spec) := by
  intro args m nx K hk hwf hargs Γ E w hs
  unfold ansLPT at hk
  split at hk
  · have : (ansPT spec args m nx (fun v m nx => K (lit v) m nx)).holds := by
      unfold ansPT
      split at hk
      · rename_i p a hsp
        first
          | exact ⟨hk.1, Ans.vcl_iff hk.2⟩
          | (rw [hsp]; exact ⟨hk.1, Ans.vcl_iff hk.2⟩)
      · exact hk.elim
    exact (h args m nx _ this hwf hargs Γ E w hs).mono fun e w' hh => After.relit hh
  · exact h args m nx K hk hwf hargs Γ E w hs
noncomputable def pureLPT (spec : List SV → Option (Prop × SV)) : PT := fun args m nx K => match allLit args with
  | true => purePT spec args m nx (fun v m nx => K (lit v) m nx)
  | false => purePT spec args m nx K
theorem pureLPT_mono (spec : List SV → Option (Prop × SV)) : MonoPT (pureLPT spec) := by
  intro args m nx K K' hK h
  unfold pureLPT at h ⊢
  split at h
  · exact purePT_mono spec _ _ _ _ _ (fun v m nx => hK _ _ _) h
  · exact purePT_mono spec _ _ _ _ _ hK h
theorem pureL_ok {P : Program} {f : FuncId} {spec : List SV → Option (Prop × SV)} (h : CallOk P f (purePT spec)) : CallOk P f (pureLPT spec) := by
  intro args m nx K hk hwf hargs Γ E w hs
  unfold pureLPT at hk
  split at hk
  · exact (h args m nx _ hk hwf hargs Γ E w hs).mono fun e w' hh => After.relit hh
  · exact h args m nx K hk hwf hargs Γ E w hs
/-- A contract whose answer is written out where a test says so. -/
def litIf (t : List SV → Mem → Bool) (pt : PT) : PT := fun args m nx K => match t args m with
  | true => pt args m nx (fun v m nx => K (lit v) m nx)
  | false => pt args m nx K
theorem litIf_mono {t : List SV → Mem → Bool} {pt : PT} (h : MonoPT pt) : MonoPT (litIf t pt) := by
  intro args m nx K K' hK hh
  unfold litIf at hh ⊢
  split at hh
  · exact h _ _ _ _ _ (fun v m nx => hK _ _ _) hh
  · exact h _ _ _ _ _ hK hh
theorem litIf_ok {P : Program} {f : FuncId} {t : List SV → Mem → Bool} {pt : PT} (h : CallOk P f pt) : CallOk P f (litIf t pt) := by
  intro args m nx K hk hwf hargs Γ E w hs
  unfold litIf at hk
  split at hk
  · exact (h args m nx _ hk hwf hargs Γ E w hs).mono fun e w' hh => After.relit hh
  · exact h args m nx K hk hwf hargs Γ E w hs
/-- Are the cells of a slice written out? -/
def litCells (m : Mem) : SV → Bool
  | .nilslc => true
  | .slc key o n _ _ => (match m.get key with
    | some (.cells cs _ _) => allLit ((cs.drop o).take n)
    | _ => false)
  | _ => false
end Go.Proofs.YtndbjcbfnmjheaaDoor.Sx
