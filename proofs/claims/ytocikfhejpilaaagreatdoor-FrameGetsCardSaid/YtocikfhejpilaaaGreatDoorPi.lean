/-
  Frame: an answer that is true.
-/
import Derived.Test.YtocikfhejpilaaaGreatDoorPh
import Derived.Test.YtocikfhejpilaaaGreatDoorMh
import Derived.Test.YtocikfhejpilaaaGreatDoorRows
import Derived.Stop.Joined
namespace Go.Proofs.YtocikfhejpilaaaGreatDoor
open Go Sx

theorem sure {l b : Bool} (h : b = true) : sameVal (.bool l b) (.bool false true) := fun E => by subst h; rfl
end Go.Proofs.YtocikfhejpilaaaGreatDoor
/-
  Frame: the rows' set-up: what is laid; a world where it is; calls.
-/
namespace Go.Proofs.YtocikfhejpilaaaGreatDoor
open Go Sx Go.RowKit Go.WideShapes Go.ChangeShapes

set_option maxRecDepth 100000
theorem Tryz.own : ownKnob Tryz.prog.godebug = none := by kernel_rfl
theorem Tryz.laidOut : laidOutB Tryz.prog = true := by kernel_rfl
theorem Tryz.et : Tryz.prog.globalNamed "errors.errorType" = some 0 := by kernel_rfl
theorem Tryz.rt : (Tryz.prog.cutTypes.find? (·.1 == "internal/reflectlite.rtype")).map (·.2) = some 152 := by kernel_rfl
theorem Tryz.oneRow : ((List.range Tryz.prog.types.size).filter fun t => Tryz.prog.rowNamed t [101, 114, 114, 111, 114]) = [95] := by kernel_rfl
abbrev laidL : List (String × DataW Unit) := [("errors.errorType", Rows.laid_errors_errorType)]
/-- What the condition gives: the variable's cell. -/
theorem glob_of_laid {W : World} (h : laidMetH Tryz.prog laidL W) : GlobOk W := by
  have h' : laidMet Tryz.prog [] W ∧ handlesMet Tryz.prog laidL W := h
  obtain ⟨name, u, ty, e1, e2, e3, e4, e5⟩ := h'.2 _ (List.mem_singleton.2 rfl)
  have en : name = [101, 114, 114, 111, 114] := (Option.some.inj e1).symm
  subst en
  obtain rfl := Option.some.inj (Tryz.rt.symm.trans e2)
  have hm : ty ∈ (List.range Tryz.prog.types.size).filter fun t => Tryz.prog.rowNamed t [101, 114, 114, 111, 114] := List.mem_filter.2 ⟨List.mem_range.2 e3, e4⟩
  rw [Tryz.oneRow] at hm
  obtain rfl := List.mem_singleton.1 hm
  have hh : typeHandle Tryz.prog 95 = .pointer (some ⟨Tryz.prog.globals.size, 95, none⟩) := by kernel_rfl
  rw [hh] at e5
  have hc : W.cell? ⟨0, 0, none⟩ = some (.iface 152 (.agg #[.pointer (some ⟨Tryz.prog.globals.size, 95, none⟩)])) := by
    simpa using World.var?_cell Tryz.et e5 0
  obtain ⟨c, tyy, fr, g1, g2⟩ := Sx.cells_of_cell hc
  intro p hp
  have hp' : p = (0, #[.iface 152 (.agg #[.pointer (some ⟨Tryz.prog.globals.size, 95, none⟩)])]) := List.mem_singleton.1 hp
  rw [hp']
  refine ⟨c, tyy, fr, g1, fun i v hv => ?_⟩
  cases i with
  | zero => simp only [List.getElem?_toArray, List.getElem?_cons_zero, Option.some.injEq] at hv; rw [← hv]; exact g2
  | succ i => simp at hv
/-- A world that meets the condition. -/
noncomputable def laidWorld (os : Os) : World :=
  let w0 := World.holding Tryz.prog os ⟨#[], #[], []⟩
  { w0 with heap := w0.heap.modify 0 fun
      | .cells _ t frozen => .cells #[.iface 152 (.agg #[.pointer (some ⟨Tryz.prog.globals.size, 95, none⟩)])] t frozen
      | o => o }
theorem laidWorld_met (os : Os) (args : Array Value) : laidMetH Tryz.prog laidL ((laidWorld os).forCall (fun _ _ => 0) ⟨#[], args, []⟩).memory :=
  laidMetH_of_parts (laidMet_nil _ _) (by kernel_rfl)
theorem run_calls {cfg : Cfg} (hg : Sx.Good Tryz.prog cfg) {f : FuncId} {fn : Func} (hf : Tryz.prog.funcs[f]? = some fn) (hn : (fn.name == "runtime.NumGoroutine") = false) (hb : fn.body.isSome = true) {args : List SV}
    (h : Holds (runA cfg f fn args (.ret (.bool false true)))) (hw : SV.wfs 0 args = true) {W : World} (hW : GlobOk W) (E : Nat → Nat) :
    Calls Tryz.prog f (SV.vals E args).toArray W fun e W' => e = .returned (.bool true) ∧ Below W.heap.size W W' := by
  have hc := calls_of_holds hg hf hn hb h rfl hw (SatM.none W hW)
  rw [SV.vals_pure hw (fun _ => 0) E] at hc
  refine hc.mono ?_
  rintro e w' ⟨v, rfl, E', sv, m', nx', _, _, g3, g4, g5⟩
  cases sv with
  | none => exact g5.elim
  | some u =>
    have hu : sameVal u (.bool false true) := g5
    exact ⟨by rw [g3 u rfl, hu E']; rfl, g4.ext.below fun _ h => h⟩
theorem cells_ask : Tryz.prog.cellTypes Tryz.prog.depth 23 = some [3, 3, 3, 3, 9, 9, 3] := by kernel_rfl
theorem open_ask {W : World} {base : Nat} {v : Value} (h : Value.okWide Tryz.prog W .any base 23 v) : ∃ x : Ak, v = x.sv.val (fun _ => 0) := by
  obtain ⟨cs, rfl, hs, hc⟩ := arg_row Tryz.underlying23 cells_ask (by kernel_rfl) h
  obtain ⟨x0, g0, o0⟩ := hc 0 _ rfl
  obtain ⟨x1, g1, o1⟩ := hc 1 _ rfl
  obtain ⟨x2, g2, o2⟩ := hc 2 _ rfl
  obtain ⟨x3, g3, o3⟩ := hc 3 _ rfl
  obtain ⟨x4, g4, o4⟩ := hc 4 _ rfl
  obtain ⟨x5, g5, o5⟩ := hc 5 _ rfl
  obtain ⟨x6, g6, o6⟩ := hc 6 _ rfl
  obtain ⟨k, rfl, _⟩ := cell_int Tryz.underlying3 o0
  obtain ⟨s, rfl, _⟩ := cell_int Tryz.underlying3 o1
  obtain ⟨q, rfl, _⟩ := cell_int Tryz.underlying3 o2
  obtain ⟨a, rfl, _⟩ := cell_int Tryz.underlying3 o3
  obtain ⟨key, rfl⟩ := cell_str Tryz.underlying9 o4
  obtain ⟨to, rfl⟩ := cell_str Tryz.underlying9 o5
  obtain ⟨l, rfl, _⟩ := cell_int Tryz.underlying3 o6
  refine ⟨⟨k, s, q, a, key, to, l⟩, ?_⟩
  have e := agg_of (cs := cs) (l := [.int .i64 k, .int .i64 s, .int .i64 q, .int .i64 a, .string ⟨key.toArray⟩, .string ⟨to.toArray⟩, .int .i64 l]) hs (fun j v hj => by
    match j, hj with
    | 0, hj => injection hj with hj; subst hj; exact g0
    | 1, hj => injection hj with hj; subst hj; exact g1
    | 2, hj => injection hj with hj; subst hj; exact g2
    | 3, hj => injection hj with hj; subst hj; exact g3
    | 4, hj => injection hj with hj; subst hj; exact g4
    | 5, hj => injection hj with hj; subst hj; exact g5
    | 6, hj => injection hj with hj; subst hj; exact g6)
  rw [e]; rfl
end Go.Proofs.YtocikfhejpilaaaGreatDoor
