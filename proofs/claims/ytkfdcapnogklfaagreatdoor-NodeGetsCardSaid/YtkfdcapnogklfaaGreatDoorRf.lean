/-
  Node: the rows' set-up: what is laid; a world where it is; calls; nodes among a law's arguments.
-/
import Derived.Test.YtkfdcapnogklfaaGreatDoorRd
import Derived.Test.YtkfdcapnogklfaaGreatDoorMh
import Derived.Test.YtkfdcapnogklfaaGreatDoorRows
import Derived.Stop.Joined
import Derived.Lib.LaidTab
namespace Go.Proofs.YtkfdcapnogklfaaGreatDoor
open Go Sx Go.RowKit Go.WideShapes Go.ChangeShapes
set_option maxRecDepth 100000
theorem Tryz.own : ownKnob Tryz.prog.godebug = none := by kernel_rfl
theorem Tryz.laidOut : laidOutB Tryz.prog = true := by kernel_rfl
theorem Tryz.et : Tryz.prog.globalNamed "errors.errorType" = some 1 := by kernel_rfl
theorem Tryz.cb : Tryz.prog.globalNamed "guilloche/sha.cubes" = some 0 := by kernel_rfl
theorem Tryz.cbt : (Tryz.prog.globals[0]?).map (·.type) = some 99 := by kernel_rfl
theorem Tryz.rt : (Tryz.prog.cutTypes.find? (·.1 == "internal/reflectlite.rtype")).map (·.2) = some 126 := by kernel_rfl
theorem Tryz.oneRow : ((List.range Tryz.prog.types.size).filter fun t => Tryz.prog.rowNamed t [101, 114, 114, 111, 114]) = [85] := by kernel_rfl
abbrev laidL : List (String × DataW Unit) := [("errors.errorType", Rows.laid_errors_errorType), ("guilloche/sha.cubes", Rows.laid_guilloche_sha_cubes)]
theorem glob_of_laid {W : World} (h : laidMetH Tryz.prog laidL W) : GlobOk W := by
  have h' : laidMet Tryz.prog [("guilloche/sha.cubes", Lib.tabData .u32 cubeL)] W ∧ handlesMet Tryz.prog [("errors.errorType", Rows.laid_errors_errorType)] W := h
  obtain ⟨name, u, ty, e1, e2, e3, e4, e5⟩ := h'.2 _ (List.mem_singleton.2 rfl)
  have en : name = [101, 114, 114, 111, 114] := (Option.some.inj e1).symm
  subst en
  obtain rfl := Option.some.inj (Tryz.rt.symm.trans e2)
  have hm : ty ∈ (List.range Tryz.prog.types.size).filter fun t => Tryz.prog.rowNamed t [101, 114, 114, 111, 114] := List.mem_filter.2 ⟨List.mem_range.2 e3, e4⟩
  rw [Tryz.oneRow] at hm
  obtain rfl := List.mem_singleton.1 hm
  have hh : typeHandle Tryz.prog 85 = .pointer (some ⟨Tryz.prog.globals.size, 85, none⟩) := by kernel_rfl
  rw [hh] at e5
  have hc : W.cell? ⟨1, 0, none⟩ = some (.iface 126 (.agg #[.pointer (some ⟨Tryz.prog.globals.size, 85, none⟩)])) := by
    simpa using World.var?_cell Tryz.et e5 0
  obtain ⟨c, tyy, fr, g1, g2⟩ := Sx.cells_of_cell hc
  have hT := Lib.tabIs_of_head Tryz.cb Tryz.cbt Tryz.underlying99 Tryz.underlying76 (by kernel_rfl) (by kernel_rfl) h'.1
  obtain ⟨c2, ty2, fr2, k1, k2⟩ := Sx.cells_of_cell (hT.cell Tryz.cb 0 (by decide))
  intro p hp
  have hp' : p = (1, #[.iface 126 (.agg #[.pointer (some ⟨Tryz.prog.globals.size, 85, none⟩)])]) ∨ p = (0, (cubeL.map fun z => Value.int .u32 z).toArray) := by
    rcases List.mem_cons.1 hp with e | hp
    · exact .inl e
    · exact .inr (List.mem_singleton.1 hp)
  rcases hp' with rfl | rfl
  · refine ⟨c, tyy, fr, g1, fun i v hv => ?_⟩
    cases i with
    | zero => simp only [List.getElem?_toArray, List.getElem?_cons_zero, Option.some.injEq] at hv; rw [← hv]; exact g2
    | succ i => simp at hv
  · refine ⟨c2, ty2, fr2, k1, fun i v hv => ?_⟩
    rw [List.getElem?_toArray, List.getElem?_map] at hv
    cases hi : cubeL[i]? with
    | none => rw [hi] at hv; cases hv
    | some z =>
      rw [hi] at hv
      injection hv with hv; subst hv
      have hl := (List.getElem?_eq_some_iff.1 hi).1
      have := hT.cell Tryz.cb i hl
      rw [cell_of k1, List.getD_eq_getElem?_getD, hi] at this
      exact this
noncomputable def laidWorld (os : Os) : World :=
  let w0 := World.holding Tryz.prog os ⟨#[], #[], []⟩
  { w0 with heap := (w0.heap.modify 1 fun
      | .cells _ t frozen => .cells #[.iface 126 (.agg #[.pointer (some ⟨Tryz.prog.globals.size, 85, none⟩)])] t frozen
      | o => o).modify 0 fun
      | .cells _ t frozen => .cells #[.int .u32 1116352408, .int .u32 1899447441, .int .u32 3049323471, .int .u32 3921009573, .int .u32 961987163, .int .u32 1508970993, .int .u32 2453635748, .int .u32 2870763221, .int .u32 3624381080, .int .u32 310598401, .int .u32 607225278, .int .u32 1426881987, .int .u32 1925078388, .int .u32 2162078206, .int .u32 2614888103, .int .u32 3248222580, .int .u32 3835390401, .int .u32 4022224774, .int .u32 264347078, .int .u32 604807628, .int .u32 770255983, .int .u32 1249150122, .int .u32 1555081692, .int .u32 1996064986, .int .u32 2554220882, .int .u32 2821834349, .int .u32 2952996808, .int .u32 3210313671, .int .u32 3336571891, .int .u32 3584528711, .int .u32 113926993, .int .u32 338241895, .int .u32 666307205, .int .u32 773529912, .int .u32 1294757372, .int .u32 1396182291, .int .u32 1695183700, .int .u32 1986661051, .int .u32 2177026350, .int .u32 2456956037, .int .u32 2730485921, .int .u32 2820302411, .int .u32 3259730800, .int .u32 3345764771, .int .u32 3516065817, .int .u32 3600352804, .int .u32 4094571909, .int .u32 275423344, .int .u32 430227734, .int .u32 506948616, .int .u32 659060556, .int .u32 883997877, .int .u32 958139571, .int .u32 1322822218, .int .u32 1537002063, .int .u32 1747873779, .int .u32 1955562222, .int .u32 2024104815, .int .u32 2227730452, .int .u32 2361852424, .int .u32 2428436474, .int .u32 2756734187, .int .u32 3204031479, .int .u32 3329325298] t frozen
      | o => o }
theorem laidWorld_met (os : Os) (args : Array Value) : laidMetH Tryz.prog laidL ((laidWorld os).forCall (fun _ _ => 0) ⟨#[], args, []⟩).memory :=
  laidMetH_of_parts (laidMet_of_run' 8 (by kernel_rfl) (by kernel_rfl)) (by kernel_rfl)
theorem run_calls {cfg : Cfg} (hg : Sx.Good Tryz.prog cfg) {f : FuncId} {fn : Func} (hf : Tryz.prog.funcs[f]? = some fn) (hn : (fn.name == "runtime.NumGoroutine") = false) (hb : fn.body.isSome = true) {args : List SV}
    (h : Holds (runA cfg f fn args (.ret (.bool false true)))) (hw : SV.wfs 0 args = true) {W : World} (hW : GlobOk W) (E : Nat → Nat) :
    Calls Tryz.prog f (SV.vals E args).toArray W fun e W' => e = .returned (.bool true) ∧ Below W.heap.size W W' := by
  have hc := calls_of_holds hg hf hn hb h rfl hw (SatM.none W hW)
  rw [SV.vals_pure hw (fun _ => 0) E] at hc
  refine hc.mono ?_
  rintro e w' ⟨v, rfl, E', sv, m', nx', _, _, g3, g4, g5⟩
  cases sv with
  | none => exact g5.elim
  | some u =>
    have hu : sameVal u (.bool false true) := g5
    exact ⟨by rw [g3 u rfl, hu E']; rfl, g4.ext.below fun _ h => h⟩
theorem cells_node : Tryz.prog.cellTypes Tryz.prog.depth 25 = some [22, 9, 9, 9, 9, 9, 9, 9, 9, 9, 9, 9, 9, 9, 9, 9, 9, 9, 9] := by kernel_rfl
theorem open_node {W : World} {base : Nat} {v : Value} (h : Value.okWide Tryz.prog W .any base 25 v) : ∃ x : Nd, v = x.sv.val (fun _ => 0) := by
  obtain ⟨cs, rfl, hs, hc⟩ := arg_row Tryz.underlying25 cells_node (by kernel_rfl) h
  obtain ⟨x0, g0, o0⟩ := hc 0 _ rfl
  obtain ⟨x1, g1, o1⟩ := hc 1 _ rfl
  obtain ⟨x2, g2, o2⟩ := hc 2 _ rfl
  obtain ⟨x3, g3, o3⟩ := hc 3 _ rfl
  obtain ⟨x4, g4, o4⟩ := hc 4 _ rfl
  obtain ⟨x5, g5, o5⟩ := hc 5 _ rfl
  obtain ⟨x6, g6, o6⟩ := hc 6 _ rfl
  obtain ⟨x7, g7, o7⟩ := hc 7 _ rfl
  obtain ⟨x8, g8, o8⟩ := hc 8 _ rfl
  obtain ⟨x9, g9, o9⟩ := hc 9 _ rfl
  obtain ⟨x10, g10, o10⟩ := hc 10 _ rfl
  obtain ⟨x11, g11, o11⟩ := hc 11 _ rfl
  obtain ⟨x12, g12, o12⟩ := hc 12 _ rfl
  obtain ⟨x13, g13, o13⟩ := hc 13 _ rfl
  obtain ⟨x14, g14, o14⟩ := hc 14 _ rfl
  obtain ⟨x15, g15, o15⟩ := hc 15 _ rfl
  obtain ⟨x16, g16, o16⟩ := hc 16 _ rfl
  obtain ⟨x17, g17, o17⟩ := hc 17 _ rfl
  obtain ⟨x18, g18, o18⟩ := hc 18 _ rfl
  obtain ⟨k, rfl, _⟩ := cell_int Tryz.underlying22 o0
  obtain ⟨s1, rfl⟩ := cell_str Tryz.underlying9 o1
  obtain ⟨s2, rfl⟩ := cell_str Tryz.underlying9 o2
  obtain ⟨s3, rfl⟩ := cell_str Tryz.underlying9 o3
  obtain ⟨s4, rfl⟩ := cell_str Tryz.underlying9 o4
  obtain ⟨s5, rfl⟩ := cell_str Tryz.underlying9 o5
  obtain ⟨s6, rfl⟩ := cell_str Tryz.underlying9 o6
  obtain ⟨s7, rfl⟩ := cell_str Tryz.underlying9 o7
  obtain ⟨s8, rfl⟩ := cell_str Tryz.underlying9 o8
  obtain ⟨s9, rfl⟩ := cell_str Tryz.underlying9 o9
  obtain ⟨s10, rfl⟩ := cell_str Tryz.underlying9 o10
  obtain ⟨s11, rfl⟩ := cell_str Tryz.underlying9 o11
  obtain ⟨s12, rfl⟩ := cell_str Tryz.underlying9 o12
  obtain ⟨s13, rfl⟩ := cell_str Tryz.underlying9 o13
  obtain ⟨s14, rfl⟩ := cell_str Tryz.underlying9 o14
  obtain ⟨s15, rfl⟩ := cell_str Tryz.underlying9 o15
  obtain ⟨s16, rfl⟩ := cell_str Tryz.underlying9 o16
  obtain ⟨s17, rfl⟩ := cell_str Tryz.underlying9 o17
  obtain ⟨s18, rfl⟩ := cell_str Tryz.underlying9 o18
  refine ⟨⟨k, s1, s2, refs16 s3 s4 s5 s6 s7 s8 s9 s10 s11 s12 s13 s14 s15 s16 s17 s18⟩, ?_⟩
  have e := agg_of (cs := cs) (l := [.int .i64 k, .string ⟨s1.toArray⟩, .string ⟨s2.toArray⟩, .string ⟨s3.toArray⟩, .string ⟨s4.toArray⟩, .string ⟨s5.toArray⟩, .string ⟨s6.toArray⟩, .string ⟨s7.toArray⟩, .string ⟨s8.toArray⟩, .string ⟨s9.toArray⟩, .string ⟨s10.toArray⟩, .string ⟨s11.toArray⟩, .string ⟨s12.toArray⟩, .string ⟨s13.toArray⟩, .string ⟨s14.toArray⟩, .string ⟨s15.toArray⟩, .string ⟨s16.toArray⟩, .string ⟨s17.toArray⟩, .string ⟨s18.toArray⟩]) hs (fun j v hj => by
    match j, hj with
    | 0, hj => injection hj with hj; subst hj; exact g0
    | 1, hj => injection hj with hj; subst hj; exact g1
    | 2, hj => injection hj with hj; subst hj; exact g2
    | 3, hj => injection hj with hj; subst hj; exact g3
    | 4, hj => injection hj with hj; subst hj; exact g4
    | 5, hj => injection hj with hj; subst hj; exact g5
    | 6, hj => injection hj with hj; subst hj; exact g6
    | 7, hj => injection hj with hj; subst hj; exact g7
    | 8, hj => injection hj with hj; subst hj; exact g8
    | 9, hj => injection hj with hj; subst hj; exact g9
    | 10, hj => injection hj with hj; subst hj; exact g10
    | 11, hj => injection hj with hj; subst hj; exact g11
    | 12, hj => injection hj with hj; subst hj; exact g12
    | 13, hj => injection hj with hj; subst hj; exact g13
    | 14, hj => injection hj with hj; subst hj; exact g14
    | 15, hj => injection hj with hj; subst hj; exact g15
    | 16, hj => injection hj with hj; subst hj; exact g16
    | 17, hj => injection hj with hj; subst hj; exact g17
    | 18, hj => injection hj with hj; subst hj; exact g18)
  rw [e]; rfl
end Go.Proofs.YtkfdcapnogklfaaGreatDoor
