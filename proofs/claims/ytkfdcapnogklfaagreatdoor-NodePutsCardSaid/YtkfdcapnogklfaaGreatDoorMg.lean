/-
  The framework's part 21: functions that reach no memory of their caller's: what they answer is all that is said.
-/
import Derived.Test.YtkfdcapnogklfaaGreatDoorMf
namespace Go.Proofs.YtkfdcapnogklfaaGreatDoor.Sx
open Go
def unlit1 : SV → SV
  | .int k _ n => .int k false n
  | .bool _ b => .bool false b
  | .str _ s => .str false s
  | v => v
def unlit : SV → SV
  | .agg cs => .agg (cs.map unlit1)
  | v => unlit1 v
theorem unlit1_val (E : Nat → Nat) (v : SV) : (unlit1 v).val E = v.val E := by cases v <;> rfl
theorem unlit1_vals (E : Nat → Nat) : ∀ l : List SV, SV.vals E (l.map unlit1) = SV.vals E l
  | [] => rfl
  | v :: r => by simp only [List.map_cons, SV.vals, unlit1_val, unlit1_vals E r]
theorem unlit_val (E : Nat → Nat) (v : SV) : (unlit v).val E = v.val E := by
  cases v <;> first | rfl | simp only [unlit, SV.val, unlit1_vals]
theorem unlit_vals (E : Nat → Nat) : ∀ l : List SV, SV.vals E (l.map unlit) = SV.vals E l
  | [] => rfl
  | v :: r => by simp only [List.map_cons, SV.vals, unlit_val, unlit_vals E r]
noncomputable def purePT (spec : List SV → Option (Prop × SV)) : PT := fun args m nx K => match spec (args.map unlit) with
  | some (p, r) => .and (.atom p) (K r m nx)
  | none => .fail "arguments that nothing is said of"
def sameVal (v r : SV) : Prop := ∀ E, v.val E = r.val E
theorem purePT_mono (spec : List SV → Option (Prop × SV)) : MonoPT (purePT spec) := by
  intro args m nx K K' hK h
  unfold purePT at h ⊢
  split at h
  · exact ⟨h.1, hK _ _ _ h.2⟩
  · exact h
theorem pure_ok {P : Program} {cfg : Cfg} (hg : Good P cfg) {f : FuncId} {fn : Func} (hf : P.funcs[f]? = some fn) (hn : (fn.name == "runtime.NumGoroutine") = false) (hb : fn.body.isSome = true) {n : Nat} {spec : List SV → Option (Prop × SV)}
    (h : ∀ args p r, spec args = some (p, r) → p → SV.wfs 0 args = true ∧ r.wf 0 = true ∧ Holds (runFn P (calling P cfg n) [] (cfg.anns f) cfg.rounds fn args [] 0 (fun v _ _ => .atom (sameVal v r)))) : CallOk P f (purePT spec) := by
  intro args m nx K hk hwf hargs Γ E w hs
  unfold purePT at hk
  split at hk
  · rename_i p r hr
    obtain ⟨hp, hk⟩ := hk
    obtain ⟨h1, h2, h3⟩ := h _ _ _ hr hp
    have hc := calls_of_holds hg hf hn hb h3 rfl h1 (SatM.none w hs.glob)
    rw [SV.vals_pure h1 (fun _ => 0) E, unlit_vals] at hc
    refine out_of_calls hf hn hb (hc.mono ?_)
    rintro e w' ⟨v, rfl, E', sv, m', nx', _, _, g3, g4, g5⟩
    refine ⟨v, rfl, ?_⟩
    cases sv with
    | none => exact g5.elim
    | some u =>
      have hu : sameVal u r := g5
      refine ⟨E, some r, m, nx, fun _ _ => rfl, Nat.le_refl _, fun x hx => ?_, hs.still g4.ext, hk⟩
      injection hx with hx; subst hx
      rw [g3 u rfl, hu E', SV.val_pure h2 E' E]
  · exact hk.elim
end Go.Proofs.YtkfdcapnogklfaaGreatDoor.Sx
/-
  The framework's part 22: functions that read no memory of their caller's: what they answer, by cases, maybe in a new block.
-/
namespace Go.Proofs.YtkfdcapnogklfaaGreatDoor.Sx
open Go
inductive Ans : Type 1 where
  | ret (v : SV)
  | new (v : Nat → SV) (B : SB)
  | all (α : Type) (f : α → Ans)
  | req (p : Prop) (a : Ans)
  | fork (b : Bool) (f : Bool → Ans)
def Ans.vc (m : Mem) (nx : Nat) (K : SV → Mem → Nat → VC) : Ans → VC
  | .ret v => K v m nx
  | .new v B => K (v nx) ((nx, B) :: m) (nx + 1)
  | .all α f => .all α fun x => (f x).vc m nx K
  | .req p a => .imp p (a.vc m nx K)
  | .fork b f => Sx.fork b fun b => (f b).vc m nx K
def Ans.Ok : Ans → Prop
  | .ret v => v.wf 0 = true
  | .new v B => B.wf 0 = true ∧ B.ro = false ∧ (∀ k, (v k).wf (k + 1) = true) ∧ ∀ (E E' : Nat → Nat) k k', (B.no = false → E k = E' k') → (v k).val E = (v k').val E'
  | .all _α f => ∀ x, (f x).Ok
  | .req _ a => a.Ok
  | .fork _ f => ∀ b, (f b).Ok
mutual
def SV.key : SV → Option Nat
  | .ptr k _ _ => some k
  | .slc k _ _ _ _ => some k
  | .rslc k _ _ _ _ _ => some k
  | .tup vs => SV.keys vs
  | .agg vs => SV.keys vs
  | .iface _ v => v.key
  | _ => none
def SV.keys : List SV → Option Nat
  | [] => none
  | v :: r => match v.key with
    | some k => some k
    | none => SV.keys r
end
def Ans.fit (v : SV) (m : Mem) : Ans → VC
  | .ret r => .atom (sameVal v r)
  | .new r B => (match v.key with
    | some k => (match m.get k with
      | some X => .and (.atom (SBle X B)) (.atom (sameVal v (r k)))
      | none => .fail "no block")
    | none => .fail "no key")
  | .all α f => .ex α fun x => (f x).fit v m
  | .req p a => .and (.atom p) (a.fit v m)
  | .fork b f => Sx.fork b fun b => (f b).fit v m
noncomputable def ansPT (spec : List SV → Option (Prop × Ans)) : PT := fun args m nx K => match spec (args.map unlit) with
  | some (p, a) => .and (.atom p) (a.vc m nx K)
  | none => .fail "arguments that nothing is said of"
theorem Ans.vc_mono {m : Mem} {nx : Nat} {K K' : SV → Mem → Nat → VC} (hK : ∀ v m nx, (K v m nx).holds → (K' v m nx).holds) : ∀ {a : Ans}, (a.vc m nx K).holds → (a.vc m nx K').holds
  | .ret _, h => hK _ _ _ h
  | .new _ _, h => hK _ _ _ h
  | .all _ _, h => fun x => Ans.vc_mono hK (h x)
  | .req _ _, h => fun x => Ans.vc_mono hK (h x)
  | .fork _ _, h => fork_iff.2 (Ans.vc_mono hK (fork_iff.1 h))
theorem ansPT_mono (spec : List SV → Option (Prop × Ans)) : MonoPT (ansPT spec) := by
  intro args m nx K K' hK h
  unfold ansPT at h ⊢
  split at h
  · exact ⟨h.1, Ans.vc_mono hK h.2⟩
  · exact h
theorem BlkOk.le {E : Nat → Nat} {X B : SB} {o : Obj} (h : SBle X B) (hn : B.no = false) (hb : BlkOk E X o) : BlkOk E B o := (h hn).2.1 E o hb
theorem SatM.new {Γ E m nx w} (h : SatM Γ E m nx w) (hw : Mem.wf nx m = true) {E1 : Nat → Nat} {m1 : Mem} {nx1 : Nat} {w' : World}
    {gl gm} (h1 : SatM (Base.at w (fun _ => False) gl gm) E1 m1 nx1 w') {j : Nat} {X B : SB} (hX : m1.get j = some X) (hle : SBle X B) (hw2 : B.wf 0 = true) (hr2 : B.ro = false) :
    ∃ E', (∀ i, i < nx → E' i = E i) ∧ (B.no = false → E' nx = E1 j) ∧ SatM Γ E' ((nx, B) :: m) (nx + 1) w' := by
  have hf := h.still h1.ext
  have hlt : ∀ i X, m.get i = some X → X.no = false → E i < w.heap.size := fun i X hi hX => by
    obtain ⟨o, ho, _⟩ := h.blk i X hi hX
    exact (Array.getElem?_eq_some_iff.1 ho).1
  cases hno : B.no with
  | true =>
    refine ⟨fun i => if i = nx then w.heap.size else E i, fun i hi => by simp [Nat.ne_of_lt hi], (fun h => by cases h), ?_⟩
    exact hf.push hw (fun _ _ h => h) (fun i X hi hX => Nat.ne_of_lt (hlt i X hi hX)) (fun _ _ _ => rfl) hf.ext (fun hx => by rw [hno] at hx; cases hx) (fun D hD => Nat.ne_of_lt (Array.getElem?_eq_some_iff.1 (h.kp D hD)).1) (fun hx => by rw [hno] at hx; cases hx)
  | false =>
    obtain ⟨g1, g2, g3⟩ := hle hno
    obtain ⟨o, ho, hb⟩ := h1.blk j X hX g1
    have hge : w.heap.size ≤ E1 j := by
      rcases h1.own j X hX g1 (g3 hr2) with e | e
      · exact e.elim
      · exact e
    refine ⟨fun i => if i = nx then E1 j else E i, fun i hi => by simp [Nat.ne_of_lt hi], fun _ => by simp, ?_⟩
    refine hf.push hw (fun _ _ h => h) (fun i X hi hX e => ?_) (fun _ _ _ => rfl) hf.ext (fun _ _ => .inr (Nat.le_trans h.ext.size hge)) (fun D hD => Nat.ne_of_lt (Nat.lt_of_lt_of_le (Array.getElem?_eq_some_iff.1 (h.kp D hD)).1 hge)) (fun _ => ⟨o, ho, (g2 E1 o hb).pure hw2⟩)
    have := hlt i X hi hX
    omega
theorem Ans.told {Γ E m nx w} (h : SatM Γ E m nx w) (hw : Mem.wf nx m = true) {E1 : Nat → Nat} {m1 : Mem} {nx1 : Nat} {w' : World}
    {gl gm} (h1 : SatM (Base.at w (fun _ => False) gl gm) E1 m1 nx1 w') {v : SV} {K : SV → Mem → Nat → VC} : ∀ {a : Ans}, a.Ok → (a.fit v m1).holds → (a.vc m nx K).holds → After (lift K) Γ E nx (v.val E1) w'
  | .ret r, hO, hf, hK => ⟨E, some r, m, nx, fun _ _ => rfl, Nat.le_refl _, fun x hx => by
      injection hx with hx; subst hx
      have hf : sameVal v r := hf
      rw [hf E1]; exact SV.val_pure hO E1 E, h.still h1.ext, hK⟩
  | .new r B, hO, hf, hK => by
    obtain ⟨o1, o2, o3, o4⟩ := hO
    simp only [Ans.fit] at hf
    split at hf
    · rename_i k hk
      split at hf
      · rename_i X hX
        obtain ⟨f1, f2⟩ := hf
        have f1 : SBle X B := f1
        have f2 : sameVal v (r k) := f2
        obtain ⟨E', e1, e2, e3⟩ := SatM.new h hw h1 hX f1 o1 o2
        refine ⟨E', some (r nx), _, nx + 1, e1, Nat.le_succ _, fun x hx => ?_, e3, hK⟩
        injection hx with hx; subst hx
        rw [f2 E1]
        exact o4 E1 E' k nx fun hb => (e2 hb).symm
      · exact hf.elim
    · exact hf.elim
  | .all _ f, hO, ⟨x, hx⟩, hK => Ans.told h hw h1 (hO x) hx (hK x)
  | .req _ a, hO, hf, hK => Ans.told (a := a) h hw h1 hO hf.2 (hK hf.1)
  | .fork _ _, hO, hf, hK => Ans.told h hw h1 (hO _) (fork_iff.1 hf) (fork_iff.1 hK)
theorem ans_ok {P : Program} {f : FuncId} {fn : Func} (hf : P.funcs[f]? = some fn) (hn : (fn.name == "runtime.NumGoroutine") = false) (hb : fn.body.isSome = true) {n : Nat} {spec : List SV → Option (Prop × Ans)}
    (h : ∀ args p a, spec args = some (p, a) → p → ∃ cfg, Good P cfg ∧ SV.wfs 0 args = true ∧ a.Ok ∧ Holds (runFn P (calling P cfg n) [] (cfg.anns f) cfg.rounds fn args [] 0 (fun v m _ => a.fit v m))) : CallOk P f (ansPT spec) := by
  intro args m nx K hk hwf hargs Γ E w hs
  unfold ansPT at hk
  split at hk
  · rename_i p a hr
    obtain ⟨hp, hk⟩ := hk
    obtain ⟨cfg, hg, h1, h2, h3⟩ := h _ _ _ hr hp
    have hc := calls_of_holds hg hf hn hb h3 rfl h1 (SatM.none w hs.glob)
    rw [SV.vals_pure h1 (fun _ => 0) E, unlit_vals] at hc
    refine out_of_calls hf hn hb (hc.mono ?_)
    rintro e w' ⟨v, rfl, E', sv, m', nx', _, _, g3, g4, g5⟩
    refine ⟨v, rfl, ?_⟩
    cases sv with
    | none => exact g5.elim
    | some u => rw [g3 u rfl]; exact Ans.told hs hwf g4 h2 g5 hk
  · exact hk.elim
theorem SV.wfs_append {nx : Nat} : ∀ {a b : List SV}, SV.wfs nx a = true → SV.wfs nx b = true → SV.wfs nx (a ++ b) = true
  | [], _, _, h => h
  | x :: a, b, h, h' => by
    simp only [SV.wfs, Bool.and_eq_true] at h
    simp only [List.cons_append, SV.wfs, Bool.and_eq_true]
    exact ⟨h.1, SV.wfs_append h.2 h'⟩
end Go.Proofs.YtkfdcapnogklfaaGreatDoor.Sx
/-
  The framework's part 23: contracts at arguments that are written out.
-/
namespace Go.Proofs.YtkfdcapnogklfaaGreatDoor.Sx
open Go
def lit1 : SV → SV
  | .int k _ n => .int k true n
  | .bool _ b => .bool true b
  | .str _ s => .str true s
  | v => v
def lit2 : SV → SV
  | .agg cs => .agg (cs.map lit1)
  | v => lit1 v
def lit : SV → SV
  | .tup vs => .tup (vs.map lit2)
  | v => lit2 v
theorem vals_map {f : SV → SV} {E : Nat → Nat} (hf : ∀ v, (f v).val E = v.val E) : ∀ l : List SV, SV.vals E (l.map f) = SV.vals E l
  | [] => rfl
  | v :: r => by simp only [List.map_cons, SV.vals, hf, vals_map hf r]
theorem lit1_val (E : Nat → Nat) (v : SV) : (lit1 v).val E = v.val E := by cases v <;> rfl
theorem lit2_val (E : Nat → Nat) (v : SV) : (lit2 v).val E = v.val E := by
  cases v <;> first | rfl | simp only [lit2, SV.val, vals_map (lit1_val E)]
theorem lit_val (E : Nat → Nat) (v : SV) : (lit v).val E = v.val E := by
  cases v <;> first | rfl | simp only [lit, lit2, SV.val, vals_map (lit1_val E), vals_map (lit2_val E)]
def isLit1 : SV → Bool
  | .int _ l _ => l
  | .bool l _ => l
  | .str l _ => l
  | _ => false
def isLit : SV → Bool
  | .agg cs => cs.all isLit1
  | v => isLit1 v
def allLit : List SV → Bool
  | [] => true
  | v :: r => isLit v && allLit r
/-! ### A row whose number of elements is written out, as cells -/
def rowCells (cols : List Col) (i : Nat) : Nat → List SV
  | 0 => []
  | n + 1 => cols.map (fun c => lit (c.at i)) ++ rowCells cols (i + 1) n
theorem rowCells_get {cols : List Col} : ∀ {n i0 j : Nat} {v : SV}, (rowCells cols i0 n)[j]? = some v → ∃ i k col, j = i * cols.length + k ∧ i < n ∧ cols[k]? = some col ∧ v = lit (col.at (i0 + i))
  | 0, _, _, _, h => by simp [rowCells] at h
  | n + 1, i0, j, v, h => by
    simp only [rowCells] at h
    by_cases hj : j < cols.length
    · rw [List.getElem?_append_left (by simpa using hj), List.getElem?_map] at h
      cases hc : cols[j]? with
      | none => rw [hc] at h; cases h
      | some c => rw [hc] at h; injection h with h; exact ⟨0, j, c, by simp, by omega, hc, h.symm⟩
    · rw [List.getElem?_append_right (by simpa using hj)] at h
      obtain ⟨i, k, col, h1, h2, h3, h4⟩ := rowCells_get h
      simp only [List.length_map] at h1
      refine ⟨i + 1, k, col, by rw [Nat.add_mul]; omega, by omega, h3, ?_⟩
      rw [h4]; congr 2; omega
def fixB : SB → SB
  | .rows true 0 cols ro tot ty => .rows true 0 cols ro tot ty
  | .rows _z n cols false tot ty => .cells (rowCells cols 0 n) tot ty
  | B => B
def fixV1 : SV → SV
  | .rslc _ _ true _ 0 _ => .nilslc
  | .rslc k _ _ 0 n c => .slc k 0 n false c
  | v => v
def fixV2 : SV → SV
  | .agg cs => .agg (cs.map fixV1)
  | v => fixV1 v
def fixV : SV → SV
  | .tup vs => .tup (vs.map fixV2)
  | v => fixV2 v
theorem fixB_le (B : SB) : SBle B (fixB B) := by
  unfold fixB
  split
  · exact SBle.refl _
  · rename_i z n cols tot ty hne
    intro _
    have hno : (SB.rows z n cols false tot ty).no = false := by
      cases z with
      | false => rfl
      | true =>
        cases n with
        | zero => exact (hne rfl rfl).elim
        | succ n => rfl
    refine ⟨hno, fun E o ⟨c, fr, h1, h2, h3, h4, h5⟩ => ⟨c, fr, h1, h2 rfl, fun j v hv => ?_, h4⟩, fun _ => rfl⟩
    obtain ⟨i, k, col, g1, g2, g3, g4⟩ := rowCells_get hv
    rw [g4, lit_val, Nat.zero_add, g1]
    exact h5 i k col g2 g3
  · exact SBle.refl _
theorem fixV1_val (E : Nat → Nat) (v : SV) : (fixV1 v).val E = v.val E := by
  unfold fixV1
  split
  · rfl
  · rename_i k w z n c hne
    have hz : (z && Nat.beq n 0) = false := by
      cases z with
      | false => rfl
      | true =>
        cases n with
        | zero => exact (hne rfl rfl).elim
        | succ n => rfl
    simp [SV.val, hz]
  · rfl
theorem fixV2_val (E : Nat → Nat) (v : SV) : (fixV2 v).val E = v.val E := by
  unfold fixV2
  split
  · simp only [SV.val, vals_map (fixV1_val E)]
  · exact fixV1_val E _
theorem fixV_val (E : Nat → Nat) (v : SV) : (fixV v).val E = v.val E := by
  unfold fixV
  split
  · simp only [SV.val, vals_map (fixV2_val E)]
  · exact fixV2_val E _
theorem SatM.swapHead {Γ E k B B' m nx w} (h : SatM Γ E ((k, B) :: m) nx w) (hle : SBle B B') : SatM Γ E ((k, B') :: m) nx w := by
  have back : ∀ j X, Mem.get j ((k, B') :: m) = some X → X.no = false → ∃ Y, Mem.get j ((k, B) :: m) = some Y ∧ Y.no = false ∧ (∀ E o, BlkOk E Y o → BlkOk E X o) ∧ (X.ro = false → Y.ro = false) := by
    intro j X hj hn
    by_cases e : k = j
    · simp only [Mem.get, e, if_true, Option.some.injEq] at hj ⊢
      subst hj
      obtain ⟨a, b, c⟩ := hle hn
      exact ⟨B, rfl, a, b, c⟩
    · simp only [Mem.get, e, if_false] at hj ⊢
      exact ⟨X, hj, hn, fun _ _ h => h, id⟩
  refine ⟨fun j X hj hn => ?_, fun j j' X X' hj hn hj' hn' hr he => ?_, fun j X hj => ?_, fun j X hj hn hro => ?_, h.ext, h.cx, h.kp⟩
  · obtain ⟨Y, h1, h2, h3, _⟩ := back j X hj hn
    obtain ⟨o, ho, hb⟩ := h.blk j Y h1 h2
    exact ⟨o, ho, h3 _ _ hb⟩
  · obtain ⟨Y, h1, h2, _, h4⟩ := back j X hj hn
    obtain ⟨Y', h1', h2', _, h4'⟩ := back j' X' hj' hn'
    exact h.inj j j' Y Y' h1 h2 h1' h2' (hr.imp h4 h4') he
  · by_cases e : k = j
    · exact h.lt j B (by simp only [Mem.get, e, if_true])
    · exact h.lt j X (by simp only [Mem.get, e, if_false] at hj ⊢; exact hj)
  · obtain ⟨Y, h1, h2, _, h4⟩ := back j X hj hn
    exact h.own j Y h1 h2 (h4 hro)
def Ans.vcl (m : Mem) (nx : Nat) (K : SV → Mem → Nat → VC) : Ans → VC
  | .ret v => K (lit v) m nx
  | .new v B => K (lit (fixV (v nx))) ((nx, fixB B) :: m) (nx + 1)
  | .all α f => .all α fun x => (f x).vcl m nx K
  | .req p a => .imp p (a.vcl m nx K)
  | .fork b f => match b with
    | true => (f true).vcl m nx K
    | false => (f false).vcl m nx K
def semK (Γ : Base) (E : Nat → Nat) (nx : Nat) (K : SV → Mem → Nat → VC) : SV → Mem → Nat → VC := fun v m' nx' =>
  .atom (∀ (E' : Nat → Nat) (w' : World), (∀ k, k < nx → E' k = E k) → nx ≤ nx' → SatM Γ E' m' nx' w' → After (lift K) Γ E nx (v.val E') w')
theorem Ans.vcl_sem {Γ : Base} {E : Nat → Nat} {m : Mem} {nx : Nat} {K : SV → Mem → Nat → VC} : ∀ {a : Ans}, (a.vcl m nx K).holds → (a.vc m nx (semK Γ E nx K)).holds
  | .ret v, h => fun E' w' h1 h2 hs => ⟨E', some (lit v), m, nx, h1, h2, fun x hx => by injection hx with hx; subst hx; rw [lit_val], hs, h⟩
  | .new v B, h => fun E' w' h1 h2 hs => ⟨E', some (lit (fixV (v nx))), _, nx + 1, h1, h2, fun x hx => by injection hx with hx; subst hx; rw [lit_val, fixV_val], hs.swapHead (fixB_le B), h⟩
  | .all _ f, h => fun x => Ans.vcl_sem (a := f x) (h x)
  | .req _ a, h => fun x => Ans.vcl_sem (a := a) (h x)
  | .fork b f, h => fork_iff.2 (by
      cases b with
      | true => exact Ans.vcl_sem (a := f true) h
      | false => exact Ans.vcl_sem (a := f false) h)
theorem Ans.vcl_mono {m : Mem} {nx : Nat} {K K' : SV → Mem → Nat → VC} (hK : ∀ v m nx, (K v m nx).holds → (K' v m nx).holds) : ∀ {a : Ans}, (a.vcl m nx K).holds → (a.vcl m nx K').holds
  | .ret _, h => hK _ _ _ h
  | .new _ _, h => hK _ _ _ h
  | .all _ f, h => fun x => Ans.vcl_mono (a := f x) hK (h x)
  | .req _ a, h => fun x => Ans.vcl_mono (a := a) hK (h x)
  | .fork b f, h => by
    cases b with
    | true => exact Ans.vcl_mono (a := f true) hK h
    | false => exact Ans.vcl_mono (a := f false) hK h
noncomputable def ansLPT (spec : List SV → Option (Prop × Ans)) : PT := fun args m nx K => match allLit args with
  | true => (match spec (args.map unlit) with
    | some (p, a) => .and (.atom p) (a.vcl m nx K)
    | none => .fail "arguments that nothing is said of")
  | false => ansPT spec args m nx K
theorem ansLPT_mono (spec : List SV → Option (Prop × Ans)) : MonoPT (ansLPT spec) := by
  intro args m nx K K' hK h
  unfold ansLPT at h ⊢
  split at h
  · split at h
    · exact ⟨h.1, Ans.vcl_mono hK h.2⟩
    · exact h
  · exact ansPT_mono spec _ _ _ _ _ hK h
theorem After.relit {Γ : Base} {E : Nat → Nat} {nx : Nat} {r : Value} {w : World} {K : SV → Mem → Nat → VC} (h : After (lift (fun v m nx => K (lit v) m nx)) Γ E nx r w) : After (lift K) Γ E nx r w := by
  obtain ⟨E', sv, m', nx', h1, h2, h3, h4, h5⟩ := h
  cases sv with
  | none => exact h5.elim
  | some v => exact ⟨E', some (lit v), m', nx', h1, h2, fun x hx => by injection hx with hx; subst hx; rw [lit_val]; exact h3 v rfl, h4, h5⟩
theorem ansL_ok {P : Program} {f : FuncId} {spec : List SV → Option (Prop × Ans)} (h : CallOk P f (ansPT spec)) : CallOk P f (ansLPT spec) := by
  intro args m nx K hk hwf hargs Γ E w hs
  unfold ansLPT at hk
  split at hk
  · have : (ansPT spec args m nx (semK Γ E nx K)).holds := by
      unfold ansPT
      split at hk
      · rename_i p a hsp
        first
          | exact ⟨hk.1, Ans.vcl_sem hk.2⟩
          | (rw [hsp]; exact ⟨hk.1, Ans.vcl_sem hk.2⟩)
      · exact hk.elim
    refine (h args m nx _ this hwf hargs Γ E w hs).mono fun e w' hh => ?_
    obtain ⟨E', sv, m', nx', h1, h2, h3, h4, h5⟩ := hh
    cases sv with
    | none => exact h5.elim
    | some v => rw [h3 v rfl]; exact h5 E' w' h1 h2 h4
  · exact h args m nx K hk hwf hargs Γ E w hs
noncomputable def pureLPT (spec : List SV → Option (Prop × SV)) : PT := fun args m nx K => match allLit args with
  | true => purePT spec args m nx (fun v m nx => K (lit v) m nx)
  | false => purePT spec args m nx K
theorem pureLPT_mono (spec : List SV → Option (Prop × SV)) : MonoPT (pureLPT spec) := by
  intro args m nx K K' hK h
  unfold pureLPT at h ⊢
  split at h
  · exact purePT_mono spec _ _ _ _ _ (fun v m nx => hK _ _ _) h
  · exact purePT_mono spec _ _ _ _ _ hK h
theorem pureL_ok {P : Program} {f : FuncId} {spec : List SV → Option (Prop × SV)} (h : CallOk P f (purePT spec)) : CallOk P f (pureLPT spec) := by
  intro args m nx K hk hwf hargs Γ E w hs
  unfold pureLPT at hk
  split at hk
  · exact (h args m nx _ hk hwf hargs Γ E w hs).mono fun e w' hh => After.relit hh
  · exact h args m nx K hk hwf hargs Γ E w hs
def litIf (t : List SV → Mem → Bool) (pt : PT) : PT := fun args m nx K => match t args m with
  | true => pt args m nx (fun v m nx => K (lit v) m nx)
  | false => pt args m nx K
theorem litIf_mono {t : List SV → Mem → Bool} {pt : PT} (h : MonoPT pt) : MonoPT (litIf t pt) := by
  intro args m nx K K' hK hh
  unfold litIf at hh ⊢
  split at hh
  · exact h _ _ _ _ _ (fun v m nx => hK _ _ _) hh
  · exact h _ _ _ _ _ hK hh
theorem litIf_ok {P : Program} {f : FuncId} {t : List SV → Mem → Bool} {pt : PT} (h : CallOk P f pt) : CallOk P f (litIf t pt) := by
  intro args m nx K hk hwf hargs Γ E w hs
  unfold litIf at hk
  split at hk
  · exact (h args m nx _ hk hwf hargs Γ E w hs).mono fun e w' hh => After.relit hh
  · exact h args m nx K hk hwf hargs Γ E w hs
def litCells (m : Mem) : SV → Bool
  | .nilslc => true
  | .slc key o n _ _ => (match m.get key with
    | some (.cells cs _ _) => allLit ((cs.drop o).take n)
    | _ => false)
  | _ => false
end Go.Proofs.YtkfdcapnogklfaaGreatDoor.Sx
/-
  The framework's part 25: a slice among a call's arguments, as a view: whatever the caller holds it by.
-/
namespace Go.Proofs.YtkfdcapnogklfaaGreatDoor.Sx
open Go
theorem Col.at_val (c : Col) (i : Nat) (E E' : Nat → Nat) : (c.at i).val E = (c.at i).val E' := by cases c <;> rfl
structure Seen where
  key : Option Nat
  z : Bool
  o : Nat
  n : Nat
  c : Nat
  cols : List Col
def Seen.B (s : Seen) : SB := .view s.z s.o s.n s.cols
def Seen.sv (j : Nat) (s : Seen) : SV := .vslc j s.cols.length s.z s.o 0 s.n s.c
def Seen.Stands (m : Mem) (s : Seen) : Prop := ∀ Γ E nx w, SatM Γ E m nx w → s.B.no = false → ∃ key X, s.key = some key ∧ m.get key = some X ∧ X.no = false ∧ ∃ ob, w.heap[E key]? = some ob ∧ ∀ E', BlkOk E' s.B ob
def SeenOf (m : Mem) (v : SV) (s : Seen) : Prop := (∀ (E E' : Nat → Nat) (j : Nat), (∀ key, s.key = some key → E' j = E key) → v.val E = (s.sv j).val E') ∧ s.Stands m
theorem view_ok_of {z : Bool} {o n : Nat} {cols : List Col} {ce : Array Value} {ty : TypeId} {fr : Nat × Nat} (h : ∀ (i k : Nat) (col : Col), i < n → cols[k]? = some col → ce[o + i * cols.length + k]? = some ((col.at i).val (fun _ => 0))) (E' : Nat → Nat) :
    BlkOk E' (.view z o n cols) (.cells ce ty fr) := ⟨ce, ty, fr, rfl, fun i k col hi hk => by rw [Col.at_val col i E' (fun _ => 0)]; exact h i k col hi hk⟩
theorem seen_nil (m : Mem) (cols : List Col) : SeenOf m .nilslc ⟨none, true, 0, 0, 0, cols⟩ := ⟨fun _ _ _ _ => rfl, fun _ _ _ _ _ h => by cases h⟩
theorem shiftCols_map (i : Nat) (cols : List Col) (k : Nat) (col : Col) (h : (shiftCols i cols)[k]? = some col) : ∃ d, cols[k]? = some d ∧ ∀ (j : Nat) (E : Nat → Nat), (col.at j).val E = (d.at (i + j)).val E := by
  obtain ⟨d, h1, h2⟩ := shiftCols_get h
  exact ⟨d, h1, fun j E => by rw [h2 j]⟩
theorem seen_rows {m : Mem} {key i n c n' : Nat} {z : Bool} {cols : List Col} {ro : Bool} {tot : Nat} {ty : TypeId} (hk : m.get key = some (SB.rows z n' cols ro tot ty)) (hn : i + n ≤ n') :
    SeenOf m (.rslc key cols.length z i n c) ⟨some key, z, i * cols.length, n, c, shiftCols i cols⟩ := by
  refine ⟨fun E E' j h => by simp [SV.val, Seen.sv, h key rfl], fun Γ E nx w hs h => ?_⟩
  have hno : (SB.rows z n' cols ro tot ty).no = false := by
    cases n with
    | zero =>
      have hz : z = false := by
        cases z with
        | false => rfl
        | true => cases h
      subst hz; rfl
    | succ n => exact SB.no_rows (i := 0) (by omega)
  obtain ⟨ob, ho, ce, fr, rfl, _, _, _, h4⟩ := hs.blk key _ hk hno
  refine ⟨key, _, rfl, hk, hno, _, ho, view_ok_of fun a b col ha hb => ?_⟩
  obtain ⟨d, h1, h2⟩ := shiftCols_map _ _ _ _ hb
  have := h4 (i + a) b d (by simp only at ha; omega) h1
  rw [h2 a, Col.at_val d _ _ E, shiftCols_len, ← this]
  congr 1
  rw [Nat.add_mul]
theorem seen_view {m : Mem} {key o i n c n' : Nat} {z : Bool} {cols : List Col} (hk : m.get key = some (SB.view z o n' cols)) (hn : i + n ≤ n') :
    SeenOf m (.vslc key cols.length z o i n c) ⟨some key, z, o + i * cols.length, n, c, shiftCols i cols⟩ := by
  refine ⟨fun E E' j h => by simp [SV.val, Seen.sv, h key rfl], fun Γ E nx w hs h => ?_⟩
  have hno : (SB.view z o n' cols).no = false := by
    cases n with
    | zero =>
      have hz : z = false := by
        cases z with
        | false => rfl
        | true => cases h
      subst hz; rfl
    | succ n => exact SB.no_view (i := 0) (by omega)
  obtain ⟨ob, ho, ce, ty, fr, rfl, h4⟩ := hs.blk key _ hk hno
  refine ⟨key, _, rfl, hk, hno, _, ho, view_ok_of fun a b col ha hb => ?_⟩
  obtain ⟨d, h1, h2⟩ := shiftCols_map _ _ _ _ hb
  have := h4 (i + a) b d (by simp only at ha; omega) h1
  rw [h2 a, Col.at_val d _ _ E, shiftCols_len, ← this]
  congr 1
  show o + i * cols.length + a * cols.length + b = o + (i + a) * cols.length + b
  rw [Nat.add_mul]; omega
/-! ### Cells that are written out, by columns -/
def svInt : SV → Int
  | .int _ _ n => n
  | _ => 0
def svBool : SV → Bool
  | .bool _ b => b
  | _ => false
def svStr : SV → List UInt8
  | .str _ s => s
  | _ => []
def colAt (l : List SV) (w j : Nat) : Option Col := match l[j]? with
  | some (.int k _ _) => some (.int k fun i => svInt (l.getD (i * w + j) .nilptr))
  | some (.bool _ _) => some (.bool fun i => svBool (l.getD (i * w + j) .nilptr))
  | some (.str _ _) => some (.str fun i => svStr (l.getD (i * w + j) .nilptr))
  | _ => none
def kindOk : Col → SV → Bool
  | .int k _, .int k' _ _ => decide (k = k')
  | .bool _, .bool _ _ => true
  | .str _, .str _ _ => true
  | _, _ => false
theorem colAt_val {l : List SV} {w j i : Nat} {col : Col} (h : colAt l w j = some col) (hk : kindOk col (l.getD (i * w + j) .nilptr) = true) (E : Nat → Nat) : (l.getD (i * w + j) .nilptr).val E = (col.at i).val E := by
  unfold colAt at h
  split at h
  · injection h with h; subst h
    unfold kindOk at hk
    split at hk
    · rename_i e1 e2
      injection e1 with e1 _; subst e1
      simp only [decide_eq_true_eq] at hk
      rw [e2]; simp only [Col.at, e2, svInt, SV.val, hk]
    · cases ‹Col.int _ _ = Col.bool _›
    · cases ‹Col.int _ _ = Col.str _›
    · cases hk
  · injection h with h; subst h
    unfold kindOk at hk
    split at hk
    · cases ‹Col.bool _ = Col.int _ _›
    · rename_i e1 e2
      rw [e2]; simp only [Col.at, e2, svBool, SV.val]
    · cases ‹Col.bool _ = Col.str _›
    · cases hk
  · injection h with h; subst h
    unfold kindOk at hk
    split at hk
    · cases ‹Col.str _ = Col.int _ _›
    · cases ‹Col.str _ = Col.bool _›
    · rename_i e1 e2
      rw [e2]; simp only [Col.at, e2, svStr, SV.val]
    · cases hk
  · cases h
theorem seen_cells {m : Mem} {key o n c tot : Nat} {cl : Bool} {ty : TypeId} {cs : List SV} {cols : List Col} (hk : m.get key = some (.cells cs tot ty))
    (hc : ∀ (i j : Nat) (col : Col), i < n → cols[j]? = some col → ∃ v, cs[o + i * cols.length + j]? = some v ∧ ∀ E, v.val E = (col.at i).val E) : SeenOf m (.slc key o n cl c) ⟨some key, false, o, n, c, cols⟩ := by
  refine ⟨fun E E' j h => by simp [SV.val, Seen.sv, h key rfl], fun Γ E nx w hs _ => ?_⟩
  obtain ⟨ob, ho, ce, fr, rfl, _, h4, _⟩ := hs.blk key _ hk rfl
  refine ⟨key, _, rfl, hk, rfl, _, ho, view_ok_of fun i j col hi hj => ?_⟩
  obtain ⟨v, g1, g2⟩ := hc i j col hi hj
  rw [h4 _ _ g1, g2 E, Col.at_val col i E (fun _ => 0)]
def colsAt (l : List SV) (w : Nat) : Nat → Nat → Option (List Col)
  | _, 0 => some []
  | j, r + 1 => match colAt l w j, colsAt l w (j + 1) r with
    | some c, some cs => some (c :: cs)
    | _, _ => none
theorem colsAt_get {l : List SV} {w : Nat} : ∀ {r j : Nat} {cols : List Col}, colsAt l w j r = some cols → cols.length = r ∧ ∀ (k : Nat) (c : Col), cols[k]? = some c → colAt l w (j + k) = some c
  | 0, _, _, h => by injection h with h; subst h; exact ⟨rfl, fun k c hc => by simp at hc⟩
  | r + 1, j, cols, h => by
    unfold colsAt at h
    split at h
    · rename_i c cs h1 h2
      injection h with h; subst h
      obtain ⟨g1, g2⟩ := colsAt_get h2
      refine ⟨by simp [g1], fun k d hd => ?_⟩
      cases k with
      | zero => injection hd with hd; subst hd; exact h1
      | succ k =>
        have := g2 k d (by simpa using hd)
        rw [show j + (k + 1) = j + 1 + k by omega]; exact this
    · cases h
def cellsOk (l : List SV) (w i j : Nat) : List Col → Bool
  | [] => true
  | col :: r => Nat.blt (i * w + j) l.length && kindOk col (l.getD (i * w + j) .nilptr) && cellsOk l w i (j + 1) r
theorem cellsOk_get {l : List SV} {w i : Nat} : ∀ {cols : List Col} {j : Nat}, cellsOk l w i j cols = true → ∀ (k : Nat) (c : Col), cols[k]? = some c → i * w + (j + k) < l.length ∧ kindOk c (l.getD (i * w + (j + k)) .nilptr) = true
  | [], _, _, k, c, hc => by simp at hc
  | d :: r, j, h, k, c, hc => by
    simp only [cellsOk, Bool.and_eq_true, Nat.blt_eq] at h
    obtain ⟨⟨h1, h2⟩, h3⟩ := h
    cases k with
    | zero => injection hc with hc; subst hc; exact ⟨h1, h2⟩
    | succ k =>
      have := cellsOk_get h3 k c (by simpa using hc)
      rw [show j + (k + 1) = j + 1 + k by omega]; exact this
def allOk (l : List SV) (w : Nat) (cols : List Col) : Nat → Bool
  | 0 => true
  | i + 1 => cellsOk l w i 0 cols && allOk l w cols i
theorem allOk_get {l : List SV} {w : Nat} {cols : List Col} : ∀ {n : Nat}, allOk l w cols n = true → ∀ i, i < n → cellsOk l w i 0 cols = true
  | 0, _, i, hi => absurd hi (Nat.not_lt_zero _)
  | n + 1, h, i, hi => by
    simp only [allOk, Bool.and_eq_true] at h
    by_cases e : i = n
    · subst e; exact h.1
    · exact allOk_get h.2 i (by omega)
def viewIn (d : List Col) (m : Mem) : SV → Option (Prop × Seen)
  | .nilslc => some (True, ⟨none, true, 0, 0, 0, d⟩)
  | .rslc key w z i n c => (match m.get key with
    | some (.rows z' n' cols _ _ _) => if w = cols.length then some (z = z' ∧ i + n ≤ n', ⟨some key, z, i * w, n, c, shiftCols i cols⟩) else none
    | _ => none)
  | .vslc key w z o i n c => (match m.get key with
    | some (.view z' o' n' cols) => if w = cols.length then some (z = z' ∧ o' = o ∧ i + n ≤ n', ⟨some key, z, o + i * w, n, c, shiftCols i cols⟩) else none
    | _ => none)
  | .slc key o n _ c => (match m.get key with
    | some (.cells cs _ _) => (match n with
      | 0 => some (True, ⟨some key, false, o, 0, c, d⟩)
      | n + 1 => (match colsAt (cs.drop o) d.length 0 d.length with
        | some cols => if allOk (cs.drop o) d.length cols (n + 1) = true then some (True, ⟨some key, false, o, n + 1, c, cols⟩) else none
        | none => none))
    | _ => none)
  | _ => none
theorem viewIn_ok {d : List Col} {m : Mem} {v : SV} {p : Prop} {s : Seen} (h : viewIn d m v = some (p, s)) (hp : p) : SeenOf m v s := by
  unfold viewIn at h
  split at h
  · injection h with h; injection h with h1 h2; subst h2; exact seen_nil m d
  · rename_i key w z i n c
    split at h
    · rename_i z' n' cols ro tot ty hk
      split at h
      · rename_i hc
        subst hc
        injection h with h; injection h with h1 h2; subst h1; subst h2
        obtain ⟨rfl, hp⟩ := hp
        exact seen_rows hk hp
      · cases h
    · cases h
  · rename_i key w z o i n c
    split at h
    · rename_i z' o' n' cols hk
      split at h
      · rename_i hc
        subst hc
        injection h with h; injection h with h1 h2; subst h1; subst h2
        obtain ⟨rfl, rfl, hp⟩ := hp
        exact seen_view hk hp
      · cases h
    · cases h
  · rename_i key o n cl c
    split at h
    · rename_i cs tot ty hk
      split at h
      · injection h with h; injection h with h1 h2; subst h2
        exact seen_cells hk fun i j col hi => absurd hi (Nat.not_lt_zero _)
      · rename_i n
        split at h
        · rename_i cols hcols
          split at h
          · rename_i hall
            injection h with h; injection h with h1 h2; subst h2
            obtain ⟨g1, g2⟩ := colsAt_get hcols
            refine seen_cells hk fun i j col hi hj => ?_
            have h1 := g2 j col hj
            obtain ⟨h2, h3⟩ := cellsOk_get (allOk_get hall i hi) j col hj
            rw [Nat.zero_add] at h1 h2 h3
            have h4 := colAt_val h1 h3
            refine ⟨(cs.drop o).getD (i * d.length + j) .nilptr, ?_, h4⟩
            rw [g1, Nat.add_assoc, ← List.getElem?_drop, List.getD_eq_getElem?_getD, List.getElem?_eq_getElem h2]
            rfl
          · cases h
        · cases h
    · cases h
  · cases h
/-! ### Calls whose arguments hold slices that are read -/
inductive Sh1 where
  | one
  | slice (d : List Col)
inductive Sh2 where
  | of (h : Sh1)
  | agg (l : List Sh1)
abbrev Pk (α : Type) := Option (α × Prop × List Seen)
def pick1 (m : Mem) (j : Nat) (h : Sh1) (v : SV) : Pk SV := match h with
  | .one => if v.wf 0 = true then some (unlit v, True, []) else none
  | .slice d => match viewIn d m v with
    | some (p, s) => some (s.sv j, p, [s])
    | none => none
def picks1 (m : Mem) : Nat → List Sh1 → List SV → Pk (List SV)
  | _, [], [] => some ([], True, [])
  | j, h :: hs, v :: vs => (match pick1 m j h v with
    | some (v', p, l) => (match picks1 m (j + l.length) hs vs with
      | some (vs', q, r) => some (v' :: vs', p ∧ q, l ++ r)
      | none => none)
    | none => none)
  | _, _, _ => none
def pick2 (m : Mem) (j : Nat) (h : Sh2) (v : SV) : Pk SV := match h, v with
  | .of h, v => pick1 m j h v
  | .agg hs, .agg vs => (match picks1 m j hs vs with
    | some (vs', p, l) => some (.agg vs', p, l)
    | none => none)
  | _, _ => none
def picks2 (m : Mem) : Nat → List Sh2 → List SV → Pk (List SV)
  | _, [], [] => some ([], True, [])
  | j, h :: hs, v :: vs => (match pick2 m j h v with
    | some (v', p, l) => (match picks2 m (j + l.length) hs vs with
      | some (vs', q, r) => some (v' :: vs', p ∧ q, l ++ r)
      | none => none)
    | none => none)
  | _, _, _ => none
def Names (E E' : Nat → Nat) (j : Nat) (l : List Seen) : Prop := ∀ (i : Nat) (s : Seen), l[i]? = some s → ∀ key, s.key = some key → E' (j + i) = E key
theorem Names.left {E E' : Nat → Nat} {j : Nat} {l r : List Seen} (h : Names E E' j (l ++ r)) : Names E E' j l := fun i s hi => h i s (by
  rw [List.getElem?_append_left (List.getElem?_eq_some_iff.1 hi).1]; exact hi)
theorem Names.right {E E' : Nat → Nat} {j : Nat} {l r : List Seen} (h : Names E E' j (l ++ r)) : Names E E' (j + l.length) r := fun i s hi => by
  rw [Nat.add_assoc]
  exact h (l.length + i) s (by rw [List.getElem?_append_right (by omega)]; rw [Nat.add_sub_cancel_left]; exact hi)
theorem pick1_ok {m : Mem} {j : Nat} {h : Sh1} {v v' : SV} {p : Prop} {l : List Seen} (e : pick1 m j h v = some (v', p, l)) (hp : p) : (∀ E E', Names E E' j l → v.val E = v'.val E') ∧ ∀ s ∈ l, s.Stands m := by
  unfold pick1 at e
  split at e
  · split at e
    · rename_i hw
      injection e with e; injection e with e1 e; injection e with e2 e3; subst e1; subst e3
      exact ⟨fun E E' _ => by rw [unlit_val]; exact SV.val_pure hw E E', fun s hs => by cases hs⟩
    · cases e
  · split at e
    · rename_i q s hq
      injection e with e; injection e with e1 e; injection e with e2 e3; subst e1; subst e2; subst e3
      obtain ⟨h1, h2⟩ := viewIn_ok hq hp
      exact ⟨fun E E' hn => h1 E E' j fun key hk => hn 0 s rfl key hk, fun t ht => by rw [List.mem_singleton] at ht; subst ht; exact h2⟩
    · cases e
theorem picks1_ok {m : Mem} : ∀ {hs : List Sh1} {j : Nat} {vs vs' : List SV} {p : Prop} {l : List Seen}, picks1 m j hs vs = some (vs', p, l) → p → (∀ E E', Names E E' j l → SV.vals E vs = SV.vals E' vs') ∧ ∀ s ∈ l, s.Stands m
  | [], _, [], _, _, _, e, _ => by
    injection e with e; injection e with e1 e; injection e with e2 e3; subst e1; subst e3
    exact ⟨fun _ _ _ => rfl, fun s hs => by cases hs⟩
  | h :: hs, j, v :: vs, vs', p, l, e, hp => by
    simp only [picks1] at e
    split at e
    · rename_i v1 p1 l1 h1
      split at e
      · rename_i vs2 p2 l2 h2
        injection e with e; injection e with e1 e; injection e with e2 e3; subst e1; subst e2; subst e3
        obtain ⟨a1, a2⟩ := pick1_ok h1 hp.1
        obtain ⟨b1, b2⟩ := picks1_ok h2 hp.2
        refine ⟨fun E E' hn => by simp only [SV.vals]; rw [a1 E E' hn.left, b1 E E' hn.right], fun s hs => ?_⟩
        rcases List.mem_append.1 hs with hs | hs
        · exact a2 s hs
        · exact b2 s hs
      · cases e
    · cases e
  | [], _, _ :: _, _, _, _, e, _ => by cases e
  | _ :: _, _, [], _, _, _, e, _ => by cases e
theorem pick2_ok {m : Mem} {j : Nat} {h : Sh2} {v v' : SV} {p : Prop} {l : List Seen} (e : pick2 m j h v = some (v', p, l)) (hp : p) : (∀ E E', Names E E' j l → v.val E = v'.val E') ∧ ∀ s ∈ l, s.Stands m := by
  unfold pick2 at e
  split at e
  · exact pick1_ok e hp
  · split at e
    · rename_i vs' p' l' h'
      injection e with e; injection e with e1 e; injection e with e2 e3; subst e1; subst e2; subst e3
      obtain ⟨a1, a2⟩ := picks1_ok h' hp
      exact ⟨fun E E' hn => by simp only [SV.val]; rw [a1 E E' hn], a2⟩
    · cases e
  · cases e
theorem picks2_ok {m : Mem} : ∀ {hs : List Sh2} {j : Nat} {vs vs' : List SV} {p : Prop} {l : List Seen}, picks2 m j hs vs = some (vs', p, l) → p → (∀ E E', Names E E' j l → SV.vals E vs = SV.vals E' vs') ∧ ∀ s ∈ l, s.Stands m
  | [], _, [], _, _, _, e, _ => by
    injection e with e; injection e with e1 e; injection e with e2 e3; subst e1; subst e3
    exact ⟨fun _ _ _ => rfl, fun s hs => by cases hs⟩
  | h :: hs, j, v :: vs, vs', p, l, e, hp => by
    simp only [picks2] at e
    split at e
    · rename_i v1 p1 l1 h1
      split at e
      · rename_i vs2 p2 l2 h2
        injection e with e; injection e with e1 e; injection e with e2 e3; subst e1; subst e2; subst e3
        obtain ⟨a1, a2⟩ := pick2_ok h1 hp.1
        obtain ⟨b1, b2⟩ := picks2_ok h2 hp.2
        refine ⟨fun E E' hn => by simp only [SV.vals]; rw [a1 E E' hn.left, b1 E E' hn.right], fun s hs => ?_⟩
        rcases List.mem_append.1 hs with hs | hs
        · exact a2 s hs
        · exact b2 s hs
      · cases e
    · cases e
  | [], _, _ :: _, _, _, _, e, _ => by cases e
  | _ :: _, _, [], _, _, _, e, _ => by cases e
def fill1 (j : Nat) (h : Sh1) (v : SV) (l : List Seen) : SV × Nat × List Seen := match h, l with
  | .slice _, s :: r => (s.sv j, j + 1, r)
  | _, l => (v, j, l)
def fills1 : Nat → List Sh1 → List SV → List Seen → List SV × Nat × List Seen
  | j, h :: hs, v :: vs, l => match fill1 j h v l with
    | (v', j', l') => match fills1 j' hs vs l' with
      | (vs', j'', l'') => (v' :: vs', j'', l'')
  | j, _, vs, l => (vs, j, l)
def fill2 (j : Nat) (h : Sh2) (v : SV) (l : List Seen) : SV × Nat × List Seen := match h, v with
  | .of h, v => fill1 j h v l
  | .agg hs, .agg vs => (match fills1 j hs vs l with
    | (vs', j', l') => (.agg vs', j', l'))
  | _, v => (v, j, l)
def fills2 : Nat → List Sh2 → List SV → List Seen → List SV × Nat × List Seen
  | j, h :: hs, v :: vs, l => match fill2 j h v l with
    | (v', j', l') => match fills2 j' hs vs l' with
      | (vs', j'', l'') => (v' :: vs', j'', l'')
  | j, _, vs, l => (vs, j, l)
theorem fill1_eq {m : Mem} {j : Nat} {h : Sh1} {v v' : SV} {p : Prop} {l : List Seen} (e : pick1 m j h v = some (v', p, l)) (r : List Seen) : fill1 j h v' (l ++ r) = (v', j + l.length, r) := by
  unfold pick1 at e
  split at e
  · split at e
    · injection e with e; injection e with e1 e; injection e with e2 e3; subst e1; subst e3; rfl
    · cases e
  · split at e
    · injection e with e; injection e with e1 e; injection e with e2 e3; subst e1; subst e3; rfl
    · cases e
theorem fills1_eq {m : Mem} : ∀ {hs : List Sh1} {j : Nat} {vs vs' : List SV} {p : Prop} {l : List Seen}, picks1 m j hs vs = some (vs', p, l) → ∀ r, fills1 j hs vs' (l ++ r) = (vs', j + l.length, r)
  | [], _, [], _, _, _, e, r => by
    injection e with e; injection e with e1 e; injection e with e2 e3; subst e1; subst e3; rfl
  | h :: hs, j, v :: vs, vs', p, l, e, r => by
    simp only [picks1] at e
    split at e
    · rename_i v1 p1 l1 h1
      split at e
      · rename_i vs2 p2 l2 h2
        injection e with e; injection e with e1 e; injection e with e2 e3; subst e1; subst e2; subst e3
        have a := fill1_eq h1 (l2 ++ r)
        have b := fills1_eq h2 r
        rw [List.append_assoc]
        simp only [fills1, a, b, List.length_append, Nat.add_assoc]
      · cases e
    · cases e
  | [], _, _ :: _, _, _, _, e, _ => by cases e
  | _ :: _, _, [], _, _, _, e, _ => by cases e
theorem fill2_eq {m : Mem} {j : Nat} {h : Sh2} {v v' : SV} {p : Prop} {l : List Seen} (e : pick2 m j h v = some (v', p, l)) (r : List Seen) : fill2 j h v' (l ++ r) = (v', j + l.length, r) := by
  unfold pick2 at e
  split at e
  · exact fill1_eq e r
  · split at e
    · rename_i vs' p' l' h'
      injection e with e; injection e with e1 e; injection e with e2 e3; subst e1; subst e2; subst e3
      have a := fills1_eq h' r
      simp only [fill2, a]
    · cases e
  · cases e
theorem fills2_eq {m : Mem} : ∀ {hs : List Sh2} {j : Nat} {vs vs' : List SV} {p : Prop} {l : List Seen}, picks2 m j hs vs = some (vs', p, l) → ∀ r, fills2 j hs vs' (l ++ r) = (vs', j + l.length, r)
  | [], _, [], _, _, _, e, r => by
    injection e with e; injection e with e1 e; injection e with e2 e3; subst e1; subst e3; rfl
  | h :: hs, j, v :: vs, vs', p, l, e, r => by
    simp only [picks2] at e
    split at e
    · rename_i v1 p1 l1 h1
      split at e
      · rename_i vs2 p2 l2 h2
        injection e with e; injection e with e1 e; injection e with e2 e3; subst e1; subst e2; subst e3
        have a := fill2_eq h1 (l2 ++ r)
        have b := fills2_eq h2 r
        rw [List.append_assoc]
        simp only [fills2, a, b, List.length_append, Nat.add_assoc]
      · cases e
    · cases e
  | [], _, _ :: _, _, _, _, e, _ => by cases e
  | _ :: _, _, [], _, _, _, e, _ => by cases e
def filled (sh : List Sh2) (vs : List SV) (l : List Seen) : List SV := (fills2 0 sh vs l).1
theorem filled_eq {m : Mem} {hs : List Sh2} {vs vs' : List SV} {p : Prop} {l : List Seen} (e : picks2 m 0 hs vs = some (vs', p, l)) : filled hs vs' l = vs' := by
  have := fills2_eq e []
  rw [List.append_nil] at this
  unfold filled
  rw [this]
def seenMem : Nat → List Seen → Mem
  | _, [] => []
  | j, s :: r => (j, s.B) :: seenMem (j + 1) r
theorem seenMem_get : ∀ {l : List Seen} {j k : Nat} {B : SB}, (seenMem j l).get k = some B → ∃ i s, k = j + i ∧ l[i]? = some s ∧ B = s.B
  | [], _, _, _, h => by cases h
  | s :: r, j, k, B, h => by
    rcases Mem.get_cons h with ⟨rfl, rfl⟩ | ⟨_, h⟩
    · exact ⟨0, s, rfl, rfl, rfl⟩
    · obtain ⟨i, t, e1, e2, e3⟩ := seenMem_get h
      exact ⟨i + 1, t, by omega, by simpa using e2, e3⟩
def seenE (E : Nat → Nat) (l : List Seen) (j : Nat) : Nat := match l[j]? with
  | some s => (match s.key with
    | some k => E k
    | none => 0)
  | none => 0
theorem names_seenE (E : Nat → Nat) (l : List Seen) : Names E (seenE E l) 0 l := fun i s hi key hk => by simp only [seenE, Nat.zero_add, hi, hk]
theorem seen_sat {m : Mem} {l : List Seen} (h : ∀ s ∈ l, s.Stands m) {Γ : Base} {E : Nat → Nat} {nx : Nat} {w : World} (hs : SatM Γ E m nx w) :
    SatM (Base.at w (fun _ => False) hs.glob (fun _ _ h => h)) (seenE E l) (seenMem 0 l) l.length w := by
  refine ⟨fun j B hj hn => ?_, fun j j' B B' hj hn hj' hn' hr he => ?_, fun j B hj => ?_, fun j B hj hn hro => ?_, Ext.refl _ _, ⟨Nat.zero_le _, fun k hk => absurd hk (Nat.not_lt_zero _)⟩, fun D hD => by cases hD⟩
  · obtain ⟨i, s, e1, e2, rfl⟩ := seenMem_get hj
    rw [Nat.zero_add] at e1; subst e1
    obtain ⟨key, X, g1, g2, g3, ob, g4, g5⟩ := h s (List.mem_of_getElem? e2) Γ E nx w hs hn
    exact ⟨ob, by simp only [seenE, e2, g1]; exact g4, g5 _⟩
  · obtain ⟨i, s, e1, e2, rfl⟩ := seenMem_get hj
    obtain ⟨i', s', e1', e2', rfl⟩ := seenMem_get hj'
    rcases hr with hr | hr <;> cases hr
  · obtain ⟨i, s, e1, e2, rfl⟩ := seenMem_get hj
    have := (List.getElem?_eq_some_iff.1 e2).1
    omega
  · obtain ⟨i, s, e1, e2, rfl⟩ := seenMem_get hj
    cases hro
noncomputable def ansVPT (sh : List Sh2) (spec : List SV → List Seen → Option (Prop × Ans)) : PT := fun args m nx K => match picks2 m 0 sh args with
  | some (vs, p, l) => (match spec vs l with
    | some (q, a) => .and (.atom (p ∧ q)) (a.vc m nx K)
    | none => .fail "arguments that nothing is said of")
  | none => .fail "a slice that is not known"
theorem ansV_ok {P : Program} {f : FuncId} {fn : Func} (hf : P.funcs[f]? = some fn) (hn : (fn.name == "runtime.NumGoroutine") = false) (hb : fn.body.isSome = true) {n : Nat} {sh : List Sh2}
    {spec : List SV → List Seen → Option (Prop × Ans)}
    (h : ∀ vs l q a, spec vs l = some (q, a) → q → ∃ cfg, Good P cfg ∧ SV.wfs l.length (filled sh vs l) = true ∧ a.Ok ∧ Holds (runFn P (calling P cfg n) [] (cfg.anns f) cfg.rounds fn (filled sh vs l) (seenMem 0 l) l.length (fun v m _ => a.fit v m))) : CallOk P f (ansVPT sh spec) := by
  intro args m nx K hk hwf hargs Γ E w hs
  unfold ansVPT at hk
  split at hk
  · rename_i vs p l hx
    split at hk
    · rename_i q a hq
      obtain ⟨⟨hxp, hqq⟩, hk⟩ := hk
      obtain ⟨cfg, hg, h1, h2, h3⟩ := h _ _ _ _ hq hqq
      rw [filled_eq hx] at h1 h3
      obtain ⟨e1, e2⟩ := picks2_ok hx hxp
      have hwm : ∀ (j : Nat) (l : List Seen), Mem.wf l.length (seenMem j l) = true := by
        intro j l
        have : ∀ (j n : Nat) (l : List Seen), Mem.wf n (seenMem j l) = true := by
          intro j n l
          induction l generalizing j with
          | nil => rfl
          | cons s r ih => simp only [seenMem, Mem.wf, Bool.and_eq_true]; exact ⟨rfl, ih _⟩
        exact this j _ l
      have hc := calls_of_holds hg hf hn hb h3 (hwm 0 l) h1 (seen_sat e2 hs)
      rw [← e1 E _ (names_seenE E l)] at hc
      refine out_of_calls hf hn hb (hc.mono ?_)
      rintro e w' ⟨v, rfl, E', sv, m', nx', _, _, g3, g4, g5⟩
      refine ⟨v, rfl, ?_⟩
      cases sv with
      | none => exact g5.elim
      | some u => rw [g3 u rfl]; exact Ans.told hs hwf g4 h2 g5 hk
    · exact hk.elim
  · exact hk.elim
/-! ### .. at arguments that are written out -/
end Go.Proofs.YtkfdcapnogklfaaGreatDoor.Sx
/-
  The framework's part 27: contracts of which the way is told beforehand: it is asked for, and the other ways are not run.
-/
namespace Go.Proofs.YtkfdcapnogklfaaGreatDoor.Sx
open Go
def Ans.vcs (c : Bool) (m : Mem) (nx : Nat) (K : SV → Mem → Nat → VC) : Ans → VC
  | .ret v => K v m nx
  | .new v B => K (v nx) ((nx, B) :: m) (nx + 1)
  | .all α f => .all α fun x => (f x).vcs c m nx K
  | .req p a => .imp p (a.vcs c m nx K)
  | .fork b f => .and (.atom (b = c)) ((f c).vcs c m nx K)
theorem Ans.vcs_vc {c : Bool} {m : Mem} {nx : Nat} {K : SV → Mem → Nat → VC} : ∀ {a : Ans}, (a.vcs c m nx K).holds → (a.vc m nx K).holds
  | .ret _, h => h
  | .new _ _, h => h
  | .all _ f, h => fun x => Ans.vcs_vc (a := f x) (h x)
  | .req _ a, h => fun x => Ans.vcs_vc (a := a) (h x)
  | .fork b f, h => fork_iff.2 (by
      obtain ⟨h1, h2⟩ := h
      have h1 : b = c := h1
      subst h1
      exact Ans.vcs_vc (a := f b) h2)
theorem Ans.vcs_mono {c : Bool} {m : Mem} {nx : Nat} {K K' : SV → Mem → Nat → VC} (hK : ∀ v m nx, (K v m nx).holds → (K' v m nx).holds) : ∀ {a : Ans}, (a.vcs c m nx K).holds → (a.vcs c m nx K').holds
  | .ret _, h => hK _ _ _ h
  | .new _ _, h => hK _ _ _ h
  | .all _ f, h => fun x => Ans.vcs_mono (a := f x) hK (h x)
  | .req _ a, h => fun x => Ans.vcs_mono (a := a) hK (h x)
  | .fork _ f, h => ⟨h.1, Ans.vcs_mono (a := f c) hK h.2⟩
noncomputable def sureLPT (c : Bool) (spec : List SV → Option (Prop × Ans)) : PT := fun args m nx K => match allLit args with
  | true => ansLPT spec args m nx K
  | false => (match spec (args.map unlit) with
    | some (p, a) => .and (.atom p) (a.vcs c m nx K)
    | none => .fail "arguments that nothing is said of")
theorem sureLPT_mono (c : Bool) (spec : List SV → Option (Prop × Ans)) : MonoPT (sureLPT c spec) := by
  intro args m nx K K' hK h
  unfold sureLPT at h ⊢
  split at h
  · exact ansLPT_mono spec _ _ _ _ _ hK h
  · split at h
    · exact ⟨h.1, Ans.vcs_mono hK h.2⟩
    · exact h
theorem sureL_ok {P : Program} {f : FuncId} {c : Bool} {spec : List SV → Option (Prop × Ans)} (h : CallOk P f (ansPT spec)) : CallOk P f (sureLPT c spec) := by
  intro args m nx K hk hwf hargs Γ E w hs
  unfold sureLPT at hk
  split at hk
  · exact ansL_ok h args m nx K hk hwf hargs Γ E w hs
  · have : (ansPT spec args m nx K).holds := by
      unfold ansPT
      split at hk
      · rename_i p a hsp
        first
          | exact ⟨hk.1, Ans.vcs_vc hk.2⟩
          | (rw [hsp]; exact ⟨hk.1, Ans.vcs_vc hk.2⟩)
      · exact hk.elim
    exact h args m nx K this hwf hargs Γ E w hs
end Go.Proofs.YtkfdcapnogklfaaGreatDoor.Sx
/-
  The framework's part 28: contracts shown at arguments that say the same in other words.
-/
namespace Go.Proofs.YtkfdcapnogklfaaGreatDoor.Sx
open Go
theorem ansW_ok {P : Program} {f : FuncId} {fn : Func} (hf : P.funcs[f]? = some fn) (hn : (fn.name == "runtime.NumGoroutine") = false) (hb : fn.body.isSome = true) {n : Nat} {spec : List SV → Option (Prop × Ans)}
    (h : ∀ args p a, spec args = some (p, a) → p → ∃ cfg args', Good P cfg ∧ (∀ E, SV.vals E args' = SV.vals E args) ∧ SV.wfs 0 args' = true ∧ a.Ok ∧ Holds (runFn P (calling P cfg n) [] (cfg.anns f) cfg.rounds fn args' [] 0 (fun v m _ => a.fit v m))) : CallOk P f (ansPT spec) := by
  intro args m nx K hk hwf hargs Γ E w hs
  unfold ansPT at hk
  split at hk
  · rename_i p a hr
    obtain ⟨hp, hk⟩ := hk
    obtain ⟨cfg, args', hg, e, h1, h2, h3⟩ := h _ _ _ hr hp
    have hc := calls_of_holds hg hf hn hb h3 rfl h1 (SatM.none w hs.glob)
    rw [SV.vals_pure h1 (fun _ => 0) E, e, unlit_vals] at hc
    refine out_of_calls hf hn hb (hc.mono ?_)
    rintro e w' ⟨v, rfl, E', sv, m', nx', _, _, g3, g4, g5⟩
    refine ⟨v, rfl, ?_⟩
    cases sv with
    | none => exact g5.elim
    | some u => rw [g3 u rfl]; exact Ans.told hs hwf g4 h2 g5 hk
  · exact hk.elim
theorem pure_of_ans {P : Program} {f : FuncId} {spec : List SV → Option (Prop × SV)} (h : CallOk P f (ansPT fun args => (spec args).map fun p => (p.1, .ret p.2))) : CallOk P f (purePT spec) := by
  intro args m nx K hk
  refine h args m nx K ?_
  unfold purePT at hk
  unfold ansPT
  split at hk
  · rename_i p r hr
    simp only [hr, Option.map_some]
    exact hk
  · exact hk.elim
end Go.Proofs.YtkfdcapnogklfaaGreatDoor.Sx
/-
  The framework's part 29: contracts of functions that reach one block of their caller's.
-/
namespace Go.Proofs.YtkfdcapnogklfaaGreatDoor.Sx
open Go
theorem SatM.swap {Γ E m nx w} (h : SatM Γ E m nx w) {j : Nat} {X Y : SB} (hX : m.get j = some X) (hle : SBle X Y) : SatM Γ E (m.put j Y) nx w := by
  refine ⟨fun i Z hi hz => ?_, fun i i' Z Z' hi hz hi' hz' hr e => ?_, fun i Z hi => ?_, fun i Z hi hz hr => ?_, h.ext, h.cx, h.kp⟩
  · rcases Mem.get_put hi with ⟨rfl, rfl, _⟩ | ⟨_, hi⟩
    · obtain ⟨h1, h2, _⟩ := hle hz
      obtain ⟨o, ho, hb⟩ := h.blk i X hX h1
      exact ⟨o, ho, h2 E o hb⟩
    · exact h.blk i Z hi hz
  · rcases Mem.get_put hi with ⟨e1, e3, _⟩ | ⟨_, hi1⟩ <;> rcases Mem.get_put hi' with ⟨e2, e4, _⟩ | ⟨_, hi2⟩
    · exact e1.trans e2.symm
    · subst e1; subst e3; exact h.inj _ _ _ _ hX (hle hz).1 hi2 hz' (hr.imp (hle hz).2.2 id) e
    · subst e2; subst e4; exact h.inj _ _ _ _ hi1 hz hX (hle hz').1 (hr.imp id (hle hz').2.2) e
    · exact h.inj _ _ _ _ hi1 hz hi2 hz' hr e
  · rcases Mem.get_put hi with ⟨rfl, _, _⟩ | ⟨_, hi⟩
    · exact h.lt _ _ hX
    · exact h.lt _ _ hi
  · rcases Mem.get_put hi with ⟨rfl, rfl, _⟩ | ⟨_, hi⟩
    · obtain ⟨h1, _, h3⟩ := hle hz
      exact h.own _ _ hX h1 (h3 hr)
    · exact h.own _ _ hi hz hr
def rekey (k : Nat) : SV → Option SV
  | .ptr j l o => (match Nat.beq j k with
    | true => some (.ptr 0 l o)
    | false => none)
  | .slc j o n l c => (match Nat.beq j k with
    | true => some (.slc 0 o n l c)
    | false => none)
  | .int a _ n => some (.int a false n)
  | .bool _ b => some (.bool false b)
  | .str _ s => some (.str false s)
  | _ => none
def rekeys (k : Nat) : List SV → Option (List SV)
  | [] => some []
  | v :: r => (match rekey k v, rekeys k r with
    | some x, some l => some (x :: l)
    | _, _ => none)
theorem rekey_val {k : Nat} {E : Nat → Nat} {v u : SV} (h : rekey k v = some u) : u.val (fun _ => E k) = v.val E ∧ u.wf 1 = true := by
  unfold rekey at h
  split at h <;> first
    | cases h; done
    | (injection h with h; subst h; exact ⟨rfl, rfl⟩)
    | skip
  · split at h
    · rename_i e
      injection h with h; subst h
      have e := Nat.eq_of_beq_eq_true e
      subst e
      exact ⟨rfl, rfl⟩
    · cases h
  · split at h
    · rename_i e
      injection h with h; subst h
      have e := Nat.eq_of_beq_eq_true e
      subst e
      exact ⟨rfl, rfl⟩
    · cases h
theorem rekeys_val {k : Nat} {E : Nat → Nat} : ∀ {l r : List SV}, rekeys k l = some r → SV.vals (fun _ => E k) r = SV.vals E l ∧ SV.wfs 1 r = true
  | [], r, h => by injection h with h; subst h; exact ⟨rfl, rfl⟩
  | v :: l, r, h => by
    unfold rekeys at h
    split at h
    · rename_i x l' hx hl
      injection h with h; subst h
      obtain ⟨g1, g2⟩ := rekey_val (E := E) hx
      obtain ⟨g3, g4⟩ := rekeys_val (E := E) hl
      exact ⟨by simp only [SV.vals, g1, g3], by simp only [SV.wfs, g2, g4, Bool.and_self]⟩
    · cases h
def boxKey : List SV → Option Nat
  | [] => none
  | .ptr j _ _ :: _ => some j
  | .slc j _ _ _ _ :: _ => some j
  | _ :: r => boxKey r
def unkey (k : Nat) : SV → SV
  | .ptr _ l o => .ptr k l o
  | v => v
def backOk : SV → Bool
  | .ptr j _ _ => Nat.beq j 0
  | v => v.wf 0
theorem unkey_val {v : SV} (h : backOk v = true) {k : Nat} {E E' : Nat → Nat} (he : E' 0 = E k) : (unkey k v).val E = v.val E' := by
  cases v
  case ptr j l o =>
    have e := Nat.eq_of_beq_eq_true h
    subst e
    simp only [unkey, SV.val, he]
  all_goals exact SV.val_pure (by exact h) _ _
noncomputable def boxPT {G H : Type} (sb : G → SB) (sp : List SV → Option (G → Prop × (H → Prop × SV × G))) : PT := fun args m nx K => match boxKey args with
  | some k => (match rekeys k args with
    | some l => (match sp l with
      | some g => (match m.get k with
        | some B => .ex G fun x => .and (.atom (SBle B (sb x))) (.and (.atom (g x).1) (.all H fun y => .imp ((g x).2 y).1 (K (unkey k ((g x).2 y).2.1) (m.put k (sb ((g x).2 y).2.2)) nx)))
        | none => .fail "a call's block")
      | none => .fail "a call's arguments")
    | none => .fail "a call's arguments")
  | none => .fail "a call's arguments"
theorem boxPT_mono {G H : Type} (sb : G → SB) (sp : List SV → Option (G → Prop × (H → Prop × SV × G))) : MonoPT (boxPT sb sp) := by
  intro args m nx K K' hK h
  unfold boxPT at h ⊢
  split at h
  · split at h
    · split at h
      · split at h
        · obtain ⟨x, h1, h2, h3⟩ := h
          exact ⟨x, h1, h2, fun y hy => hK _ _ _ (h3 y hy)⟩
        · exact h.elim
      · exact h.elim
    · exact h.elim
  · exact h.elim
def boxFit {G H : Type} (sb : G → SB) (g : H → Prop × SV × G) (v : SV) (m : Mem) : VC := match m.get 0 with
  | some X => .ex H fun y => .and (.atom (g y).1) (.and (.atom (SBle X (sb (g y).2.2))) (.atom (sameVal v (g y).2.1)))
  | none => .fail "no block"
theorem box_ok {P : Program} {f : FuncId} {fn : Func} (hf : P.funcs[f]? = some fn) (hn : (fn.name == "runtime.NumGoroutine") = false) (hb : fn.body.isSome = true) {n : Nat} {G H : Type} {sb : G → SB} {sp : List SV → Option (G → Prop × (H → Prop × SV × G))}
    (hsb : ∀ x, (sb x).wf 0 = true ∧ (sb x).ro = false ∧ (sb x).no = false)
    (h : ∀ args g x, sp args = some g → (g x).1 → ∃ cfg args', Good P cfg ∧ (∀ E, SV.vals E args' = SV.vals E args) ∧ SV.wfs 1 args' = true ∧ (∀ y, backOk ((g x).2 y).2.1 = true) ∧
      Holds (runFn P (calling P cfg n) [] (cfg.anns f) cfg.rounds fn args' [(0, sb x)] 1 (fun v m _ => boxFit sb (g x).2 v m))) : CallOk P f (boxPT sb sp) := by
  intro args m nx K hk hwf hargs Γ E w hs
  unfold boxPT at hk
  split at hk
  · rename_i k hkey
    split at hk
    · rename_i l hl
      split at hk
      · rename_i g hg
        split at hk
        · rename_i B hB
          obtain ⟨x, h1, h2, h3⟩ := hk
          have h1 : SBle B (sb x) := h1
          obtain ⟨cfg, args', c1, c2, c3, c4, c5⟩ := h _ _ x hg h2
          obtain ⟨s1, s2, s3⟩ := hsb x
          have hone := hs.one hB h1 s3 s2 s1
          have hc := calls_of_holds c1 hf hn hb c5 (by simp only [Mem.wf, Bool.and_true]; cases hx : sb x with
            | cells cs tot ty => rw [hx] at s1; exact SV.wfs_mono (Nat.zero_le _) _ s1
            | rows => rfl
            | view => rfl
            | loop => rfl) c3 hone
          rw [c2, (rekeys_val (E := E) hl).1] at hc
          refine out_of_calls hf hn hb (hc.mono ?_)
          rintro e w' ⟨v, rfl, E1, u, m1, nx1, g1, g2, g3, g4, g5⟩
          refine ⟨v, rfl, ?_⟩
          cases u with
          | none => exact g5.elim
          | some u =>
            simp only [lift, boxFit] at g5
            split at g5
            · rename_i X hX
              obtain ⟨y, y1, y2, y3⟩ := g5
              have y2 : SBle X (sb ((g x).2 y).2.2) := y2
              have y3 : sameVal u ((g x).2 y).2.1 := y3
              obtain ⟨t1, t2, t3⟩ := hsb ((g x).2 y).2.2
              have hsw := g4.swap hX y2
              have hE0 : E1 0 = E k := g1 0 (by omega)
              have hfr := hs.frame hB (h1 s3).1 ((h1 s3).2.2 s2) hsw hE0 (Mem.get_putEq hX) t3 t2 t1
              refine ⟨E, some (unkey k ((g x).2 y).2.1), _, nx, fun _ _ => rfl, Nat.le_refl _, fun z hz => ?_, hfr, h3 y y1⟩
              injection hz with hz; subst hz
              rw [g3 u rfl, y3 E1]
              exact (unkey_val (c4 y) hE0).symm
            · exact g5.elim
        · exact hk.elim
      · exact hk.elim
    · exact hk.elim
  · exact hk.elim
end Go.Proofs.YtkfdcapnogklfaaGreatDoor.Sx
