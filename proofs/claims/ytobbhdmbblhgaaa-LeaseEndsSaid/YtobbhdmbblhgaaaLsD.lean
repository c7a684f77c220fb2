/-
  Lease: summaries of the methods; of 'works', 'few', 'same'.
-/
import Derived.Test.YtobbhdmbblhgaaaLsW3
namespace Go.Proofs.Ytobbhdmbblhgaaa
open Go Sx

/-! ### Calls that only read -/
theorem Sx.SatM.view {w0 : World} {M0 : Nat → Prop} {E : Nat → Nat} {m : Mem} {nx : Nat} {w : World} (h : SatM w0 M0 E m nx w) {k : Nat} {B B' : SB} (hk : m.get k = some B) (hB : SBle B B') (hw : B'.wf 0 = true) (hr : B'.ro = true) : SatM w (fun _ => False) (fun _ => E k) [(0, B')] 1 w := by
  refine ⟨fun j X hj hx => ?_, fun j j' X X' hj _ hj' _ _ => ?_, fun j X hj => ?_, fun j X hj _ hx => ?_, Ext.refl _ _⟩
  · rcases Mem.get_cons hj with ⟨rfl, rfl⟩ | ⟨_, hj⟩
    · obtain ⟨h1, h2, _⟩ := hB hx
      obtain ⟨o, ho, hb⟩ := h.blk k B hk h1
      exact ⟨o, ho, (h2 E o hb).pure hw⟩
    · cases hj
  · rcases Mem.get_cons hj with ⟨e, _⟩ | ⟨_, hj⟩
    · rcases Mem.get_cons hj' with ⟨e', _⟩ | ⟨_, hj'⟩
      · exact e.trans e'.symm
      · cases hj'
    · cases hj
  · rcases Mem.get_cons hj with ⟨rfl, _⟩ | ⟨_, hj⟩
    · omega
    · cases hj
  · rcases Mem.get_cons hj with ⟨rfl, rfl⟩ | ⟨_, hj⟩
    · rw [hr] at hx; cases hx
    · cases hj
theorem Sx.SatM.view2 {w0 : World} {M0 : Nat → Prop} {E : Nat → Nat} {m : Mem} {nx : Nat} {w : World} (h : SatM w0 M0 E m nx w) {k k' : Nat} {B B' C C' : SB} (hk : m.get k = some B) (hB : SBle B B') (hw : B'.wf 0 = true) (hr : B'.ro = true)
    (hk' : m.get k' = some C) (hC : SBle C C') (hw' : C'.wf 0 = true) (hr' : C'.ro = true) (hne : k ≠ k') : SatM w (fun _ => False) (fun i => if i = 0 then E k else E k') [(0, B'), (1, C')] 2 w := by
  have g0 : ∀ j X, Mem.get j [(0, B'), (1, C')] = some X → (j = 0 ∧ X = B') ∨ (j = 1 ∧ X = C') := by
    intro j X hj
    rcases Mem.get_cons hj with ⟨rfl, rfl⟩ | ⟨_, hj⟩
    · exact .inl ⟨rfl, rfl⟩
    · rcases Mem.get_cons hj with ⟨rfl, rfl⟩ | ⟨_, hj⟩
      · exact .inr ⟨rfl, rfl⟩
      · cases hj
  refine ⟨fun j X hj hx => ?_, fun j j' X X' hj hx hj' hx' he => ?_, fun j X hj => ?_, fun j X hj _ hx => ?_, Ext.refl _ _⟩
  · rcases g0 j X hj with ⟨rfl, rfl⟩ | ⟨rfl, rfl⟩
    · obtain ⟨h1, h2, _⟩ := hB hx
      obtain ⟨o, ho, hb⟩ := h.blk k B hk h1
      exact ⟨o, ho, (h2 E o hb).pure hw⟩
    · obtain ⟨h1, h2, _⟩ := hC hx
      obtain ⟨o, ho, hb⟩ := h.blk k' C hk' h1
      exact ⟨o, ho, (h2 E o hb).pure hw'⟩
  · rcases g0 j X hj with ⟨rfl, rfl⟩ | ⟨rfl, rfl⟩ <;> rcases g0 j' X' hj' with ⟨rfl, rfl⟩ | ⟨rfl, rfl⟩
    · rfl
    · exact absurd (h.inj k k' B C hk (hB hx).1 hk' (hC hx').1 he) hne
    · exact absurd (h.inj k k' B C hk (hB hx').1 hk' (hC hx).1 he.symm) hne
    · rfl
  · rcases g0 j X hj with ⟨rfl, rfl⟩ | ⟨rfl, rfl⟩ <;> omega
  · rcases g0 j X hj with ⟨rfl, rfl⟩ | ⟨rfl, rfl⟩
    · rw [hr] at hx; cases hx
    · rw [hr'] at hx; cases hx
noncomputable def quietVC (P : Program) (cfg : Cfg) (f : FuncId) (fn : Func) (args : List SV) (m : Mem) (nx : Nat) (p : SV → Prop) : VC := runFn P (callOf P cfg 30) (cfg.anns f) cfg.rounds fn args m nx (fun v _ _ => .atom (p v))
/-- A call that changes nothing and gives a plain value. -/
theorem quiet_out {P : Program} {cfg : Cfg} (hg : Good P cfg) {f : FuncId} {fn : Func} (hf : P.funcs[f]? = some fn) (hn : (fn.name == "runtime.NumGoroutine") = false) (hb : fn.body.isSome = true) {args : List SV} {m1 : Mem} {nx1 : Nat} {p : SV → Prop}
    (h : Holds (quietVC P cfg f fn args m1 nx1 p)) (hm : Mem.wf nx1 m1 = true) (ha : SV.wfs nx1 args = true)
    {w0 : World} {M0 : Nat → Prop} {E E1 : Nat → Nat} {m : Mem} {nx : Nat} {w : World} (hs : SatM w0 M0 E m nx w) (h1 : SatM w (fun _ => False) E1 m1 nx1 w) {args' : Array Value} (hargs : args' = (SV.vals E1 args).toArray) {K : SV → Mem → Nat → VC}
    (hK : ∀ v, p v → ∃ u, (∀ E' : Nat → Nat, v.val E' = u.val E) ∧ (K u m nx).holds) : Out P (After (lift K) w0 M0 E nx) ((callFunc f args').run P w) := by
  subst hargs
  have hc := calls_of_run hg hf hn hb h.out hm ha h1
  refine out_of_calls hf hn hb (Calls.mono hc ?_)
  rintro e w' ⟨v, rfl, E2, u, m2, nx2, g1, g2, g3, g4, g5⟩
  refine ⟨v, rfl, ?_⟩
  cases u with
  | none => exact g5.elim
  | some u =>
    obtain ⟨u', h3, h4⟩ := hK u g5
    refine ⟨E, some u', m, nx, fun _ _ => rfl, Nat.le_refl _, fun y hy => ?_, hs.still g4.ext, h4⟩
    injection hy with hy; subst hy
    rw [g3 u rfl]; exact h3 E2

/-! ### works -/
noncomputable def worksPT : PT := fun args m nx K => match args with
  | [] => K (.bool true true) m nx
  | _ => .fail "works"
theorem works_vc (p : SV → Prop) : (quietVC Try.prog cfg0 7 Try.f7 [] [] 0 p).holds = (∀ (c : Nat), (1 : Nat) ≤ c → p (SV.bool true (decide ((0 : Int) = (0 : Int))))) := by kernel_rfl
theorem works_ok : CallOk Try.prog 7 worksPT := by
  intro args m nx K h hw ha w0 M0 E w hs
  unfold worksPT at h
  split at h
  · have hv := Holds.of_eq (works_vc (fun v => v = SV.bool true true)) (fun c _ => rfl)
    exact quiet_out good0 Try.func7 (by kernel_rfl) (by kernel_rfl) hv rfl rfl hs (SatM.none w) rfl fun v hv => ⟨_, fun _ => by subst hv; rfl, h⟩
  · exact h.elim
theorem works_mono : MonoPT worksPT := by
  intro args m nx K K' hK h
  unfold worksPT at h ⊢
  split at h
  · exact hK _ _ _ h
  · exact h.elim

/-! ### few -/
/-- An act. -/
structure Ac where
  k : Int
  id : Int
  block : Int
  clock : Int
  seq : Int
  text : List UInt8
def acCols (g : Nat → Ac) : List Col := [.int .i64 (fun i => (g i).k), .int .i64 (fun i => (g i).id), .int .i64 (fun i => (g i).block), .int .i64 (fun i => (g i).clock), .int .i64 (fun i => (g i).seq), .str (fun i => (g i).text)]
abbrev actT : TypeId := 35
def Few (n : Nat) (g : Nat → Ac) : Prop := n ≤ 60 ∧ ∀ i, i < n → okClock (g i).clock
noncomputable def annFew (n : Nat) (g : Nat → Ac) : LoopAnn :=
  { α := Nat, pre := fun _ i => i ≤ n ∧ i ≤ 61 ∧ ∀ j, j < i → okClock (g j).clock, mea := fun _ i => n - i, fresh := 0, slots := fun _ i => [(3, .int .i64 false i)], mem := fun _ _ => [] }
noncomputable def cfgF (n : Nat) (g : Nat → Ac) : Cfg := { summ := baseSumm, fns := fun f => Try.prog.funcs[f]?, anns := fun f => if f = 9 then [(2, always (annFew n g))] else [], rounds := 100 }
theorem goodF (n : Nat) (g : Nat → Ac) : Good Try.prog (cfgF n g) := ⟨mixes, baseSumm_ok, fns_ok⟩
noncomputable def fewVC (z : Bool) (o n c : Nat) (g : Nat → Ac) (post : SV → Prop) : VC := quietVC Try.prog (cfgF n g) 9 Try.f9 [.vslc 0 6 z o 0 n c] [(0, .view z o n (acCols g))] 1 post

/-! ### same -/
noncomputable def annSame (a b : List Sl) : LoopAnn :=
  { α := Nat, pre := fun _ i => i ≤ a.length ∧ ∀ j, j < i → (a.getD j Sl.zero).bare = (b.getD j Sl.zero).bare, mea := fun _ i => a.length - i, fresh := 0, slots := fun _ i => [(5, .int .i64 false i)], mem := fun _ _ => [] }
noncomputable def cfgS (a b : List Sl) : Cfg := { summ := baseSumm, fns := fun f => Try.prog.funcs[f]?, anns := fun f => if f = 16 then [(4, always (annSame a b))] else [], rounds := 100 }
theorem goodS (a b : List Sl) : Good Try.prog (cfgS a b) := ⟨mixes, baseSumm_ok, fns_ok⟩
noncomputable def sameVC (z z' : Bool) (a b : List Sl) (c c' tot tot' : Nat) (post : SV → Prop) : VC := quietVC Try.prog (cfgS a b) 16 Try.f16 [.rslc 0 4 z 0 a.length c, .rslc 1 4 z' 0 b.length c'] [(0, .rows z a.length (sessCols a) true tot sessT), (1, .rows z' b.length (sessCols b) true tot' sessT)] 2 post
end Go.Proofs.Ytobbhdmbblhgaaa
