/-
  Frame: replies and notices among the arguments.
-/
import Derived.Test.YtocikfhejpilaaaGreatDoorPi
namespace Go.Proofs.YtocikfhejpilaaaGreatDoor
open Go Sx Go.RowKit Go.WideShapes Go.ChangeShapes
set_option maxRecDepth 100000

theorem size_entry : Tryz.prog.cellsOf 52 = 2 := by kernel_rfl
theorem size_change : Tryz.prog.cellsOf 54 = 3 := by kernel_rfl
theorem size_str : Tryz.prog.cellsOf 9 = 1 := by kernel_rfl
theorem size_bool : Tryz.prog.cellsOf 4 = 1 := by kernel_rfl
theorem size_entries : Tryz.prog.cellsOf 25 = 1 := by kernel_rfl
theorem size_changes : Tryz.prog.cellsOf 28 = 1 := by kernel_rfl
/-- A slice of entries among the cells. -/
theorem open_entries {W : World} {base : Nat} {H : Type} {enc : TypeId × Value → H} {x : Value} {m : Nat} {y : DataW H × List MemPlace} (h : Cell.okWide Tryz.prog W .any base 25 x)
    (hd : DataW.trod enc Tryz.prog W 0 (fun _ => true) true m 25 [x] = some y) :
    ∃ (z : Bool) (b o n c : Nat) (f g : Nat → List UInt8), x = (SV.vslc 0 2 z o 0 n c).val (fun _ => b) ∧ n ≤ maxLen ∧ Stood W b (.view z o n (colsE f g)) := by
  obtain ⟨z, b, o, n, c, hv, hn, hc⟩ := slice_cell Tryz.underlying25 h hd
  rw [size_entry] at hv hc
  cases hz : z && Nat.beq n 0 with
  | true => exact ⟨z, b, o, n, c, fun _ => [], fun _ => [], hv, hn, fun hh => by rw [show SB.no _ = (z && Nat.beq n 0) from rfl, hz] at hh; cases hh⟩
  | false =>
    obtain ⟨cs, ty, fr, hblk, hel⟩ := hc hz
    refine ⟨z, b, o, n, c, fun i => strAt cs (o + i * 2), fun i => strAt cs (o + i * 2 + 1), hv, hn, fun _ => ⟨_, hblk, view_ok_of fun i k col hi hk => ?_⟩⟩
    obtain ⟨xs, y, m, hl, hget, ht⟩ := hel i hi
    have x0 := hget 0 (by omega)
    have x1 := hget 1 (by omega)
    rw [List.getElem?_eq_getElem (by omega)] at x0 x1
    obtain ⟨m0, y0, f0⟩ := elem_field Tryz.underlying52 ht (i := 0) rfl size_str (List.getElem?_eq_getElem (by show 0 < xs.length; omega))
    obtain ⟨m1, y1, f1⟩ := elem_field Tryz.underlying52 ht (i := 1) rfl size_str (List.getElem?_eq_getElem (by show 1 < xs.length; omega))
    match k, hk with
    | 0, hk => obtain rfl := Option.some.inj hk; exact (trod_str_cell Tryz.underlying9 f0 x0).1
    | 1, hk => obtain rfl := Option.some.inj hk; exact (trod_str_cell Tryz.underlying9 f1 x1).1
theorem open_changes {W : World} {base : Nat} {H : Type} {enc : TypeId × Value → H} {x : Value} {m : Nat} {y : DataW H × List MemPlace} (h : Cell.okWide Tryz.prog W .any base 28 x)
    (hd : DataW.trod enc Tryz.prog W 0 (fun _ => true) true m 28 [x] = some y) :
    ∃ (z : Bool) (b o n c : Nat) (f g : Nat → List UInt8) (k : Nat → Bool), x = (SV.vslc 0 3 z o 0 n c).val (fun _ => b) ∧ n ≤ maxLen ∧ Stood W b (.view z o n (colsC f g k)) := by
  obtain ⟨z, b, o, n, c, hv, hn, hc⟩ := slice_cell Tryz.underlying28 h hd
  rw [size_change] at hv hc
  cases hz : z && Nat.beq n 0 with
  | true => exact ⟨z, b, o, n, c, fun _ => [], fun _ => [], fun _ => false, hv, hn, fun hh => by rw [show SB.no _ = (z && Nat.beq n 0) from rfl, hz] at hh; cases hh⟩
  | false =>
    obtain ⟨cs, ty, fr, hblk, hel⟩ := hc hz
    refine ⟨z, b, o, n, c, fun i => strAt cs (o + i * 3), fun i => strAt cs (o + i * 3 + 1), fun i => boolAt cs (o + i * 3 + 2), hv, hn, fun _ => ⟨_, hblk, view_ok_of fun i k col hi hk => ?_⟩⟩
    obtain ⟨xs, y, m, hl, hget, ht⟩ := hel i hi
    have x0 := hget 0 (by omega)
    have x1 := hget 1 (by omega)
    have x2 := hget 2 (by omega)
    rw [List.getElem?_eq_getElem (by omega)] at x0 x1 x2
    obtain ⟨m0, y0, f0⟩ := elem_field Tryz.underlying54 ht (i := 0) rfl size_str (List.getElem?_eq_getElem (by show 0 < xs.length; omega))
    obtain ⟨m1, y1, f1⟩ := elem_field Tryz.underlying54 ht (i := 1) rfl size_str (List.getElem?_eq_getElem (by show 1 < xs.length; omega))
    obtain ⟨m2, y2, f2⟩ := elem_field Tryz.underlying54 ht (i := 2) rfl size_bool (List.getElem?_eq_getElem (by show 2 < xs.length; omega))
    match k, hk with
    | 0, hk => obtain rfl := Option.some.inj hk; exact (trod_str_cell Tryz.underlying9 f0 x0).1
    | 1, hk => obtain rfl := Option.some.inj hk; exact (trod_str_cell Tryz.underlying9 f1 x1).1
    | 2, hk => obtain rfl := Option.some.inj hk; exact trod_bool_cell Tryz.underlying4 f2 x2
theorem cells_reply : Tryz.prog.cellTypes Tryz.prog.depth 27 = some [3, 3, 24, 3, 9, 25, 9, 4] := by kernel_rfl
theorem cells_notice : Tryz.prog.cellTypes Tryz.prog.depth 30 = some [3, 24, 3, 9, 28] := by kernel_rfl
theorem open_reply {W : World} {base : Nat} {v : Value} {H : Type} {enc : TypeId × Value → H} {d : DataW H} {ps : List MemPlace} (h : Value.okWide Tryz.prog W .any base 27 v) (hd : DataW.Trod enc Tryz.prog W 0 (fun _ => true) true 27 v d ps) :
    ∃ (x : Rp) (z : Bool) (b o c : Nat), (∀ (k : Nat) (E : Nat → Nat), E k = b → v = (x.sv (.vslc k 2 z o 0 x.n c)).val E) ∧ Stood W b (.view z o x.n (colsE x.f x.g)) ∧ x.n ≤ maxLen := by
  obtain ⟨cs, rfl, hs, hc⟩ := arg_row Tryz.underlying27 cells_reply (by kernel_rfl) h
  obtain ⟨x0, g0, o0⟩ := hc 0 _ rfl
  obtain ⟨x1, g1, o1⟩ := hc 1 _ rfl
  obtain ⟨x2, g2, o2⟩ := hc 2 _ rfl
  obtain ⟨x3, g3, o3⟩ := hc 3 _ rfl
  obtain ⟨x4, g4, o4⟩ := hc 4 _ rfl
  obtain ⟨x5, g5, o5⟩ := hc 5 _ rfl
  obtain ⟨x6, g6, o6⟩ := hc 6 _ rfl
  obtain ⟨x7, g7, o7⟩ := hc 7 _ rfl
  obtain ⟨fuel, hd⟩ := hd
  obtain ⟨m, y, ht⟩ := elem_field Tryz.underlying27 hd (i := 5) (x := x5) rfl size_entries (by rw [← g5, Array.getElem?_toList]; rfl)
  obtain ⟨s, rfl, _⟩ := cell_int Tryz.underlying3 o0
  obtain ⟨q, rfl, _⟩ := cell_int Tryz.underlying3 o1
  obtain ⟨e, rfl, _⟩ := cell_int Tryz.underlying24 o2
  obtain ⟨v, rfl, _⟩ := cell_int Tryz.underlying3 o3
  obtain ⟨root, rfl⟩ := cell_str Tryz.underlying9 o4
  obtain ⟨z, b, o, n, c, f, g, hv, hn, hst⟩ := open_entries o5 ht
  obtain ⟨proof, rfl⟩ := cell_str Tryz.underlying9 o6
  obtain ⟨more, rfl⟩ := cell_bool Tryz.underlying4 o7
  refine ⟨⟨s, q, e, v, root, n, f, g, proof, more⟩, z, b, o, c, fun k E hk => ?_, hst, hn⟩
  have hv' : x5 = (SV.vslc k 2 z o 0 n c).val E := by rw [hv]; simp only [SV.val, hk]
  have e := agg_of (cs := cs) (l := [.int .i64 s, .int .i64 q, .int .i64 e, .int .i64 v, .string ⟨root.toArray⟩, x5, .string ⟨proof.toArray⟩, .bool more]) hs (fun j v hj => by
    match j, hj with
    | 0, hj => injection hj with hj; subst hj; exact g0
    | 1, hj => injection hj with hj; subst hj; exact g1
    | 2, hj => injection hj with hj; subst hj; exact g2
    | 3, hj => injection hj with hj; subst hj; exact g3
    | 4, hj => injection hj with hj; subst hj; exact g4
    | 5, hj => injection hj with hj; subst hj; exact g5
    | 6, hj => injection hj with hj; subst hj; exact g6
    | 7, hj => injection hj with hj; subst hj; exact g7)
  rw [e, hv']; rfl
theorem open_notice {W : World} {base : Nat} {v : Value} {H : Type} {enc : TypeId × Value → H} {d : DataW H} {ps : List MemPlace} (h : Value.okWide Tryz.prog W .any base 30 v) (hd : DataW.Trod enc Tryz.prog W 0 (fun _ => true) true 30 v d ps) :
    ∃ (x : Nt) (z : Bool) (b o c : Nat), (∀ (k : Nat) (E : Nat → Nat), E k = b → v = (x.sv (.vslc k 3 z o 0 x.n c)).val E) ∧ Stood W b (.view z o x.n (colsC x.f x.g x.h)) ∧ x.n ≤ maxLen := by
  obtain ⟨cs, rfl, hs, hc⟩ := arg_row Tryz.underlying30 cells_notice (by kernel_rfl) h
  obtain ⟨x0, g0, o0⟩ := hc 0 _ rfl
  obtain ⟨x1, g1, o1⟩ := hc 1 _ rfl
  obtain ⟨x2, g2, o2⟩ := hc 2 _ rfl
  obtain ⟨x3, g3, o3⟩ := hc 3 _ rfl
  obtain ⟨x4, g4, o4⟩ := hc 4 _ rfl
  obtain ⟨fuel, hd⟩ := hd
  obtain ⟨m, y, ht⟩ := elem_field Tryz.underlying30 hd (i := 4) (x := x4) rfl size_changes (by rw [← g4, Array.getElem?_toList]; rfl)
  obtain ⟨s, rfl, _⟩ := cell_int Tryz.underlying3 o0
  obtain ⟨e, rfl, _⟩ := cell_int Tryz.underlying24 o1
  obtain ⟨bl, rfl, _⟩ := cell_int Tryz.underlying3 o2
  obtain ⟨root, rfl⟩ := cell_str Tryz.underlying9 o3
  obtain ⟨z, b, o, n, c, f, g, k, hv, hn, hst⟩ := open_changes o4 ht
  refine ⟨⟨s, e, bl, root, n, f, g, k⟩, z, b, o, c, fun k E hk => ?_, hst, hn⟩
  have hv' : x4 = (SV.vslc k 3 z o 0 n c).val E := by rw [hv]; simp only [SV.val, hk]
  have e := agg_of (cs := cs) (l := [.int .i64 s, .int .i64 e, .int .i64 bl, .string ⟨root.toArray⟩, x4]) hs (fun j v hj => by
    match j, hj with
    | 0, hj => injection hj with hj; subst hj; exact g0
    | 1, hj => injection hj with hj; subst hj; exact g1
    | 2, hj => injection hj with hj; subst hj; exact g2
    | 3, hj => injection hj with hj; subst hj; exact g3
    | 4, hj => injection hj with hj; subst hj; exact g4)
  rw [e, hv']; rfl
/-- Two slices that are read: the memory that a law's run begins with. -/
theorem two_views {W : World} (hg : GlobOk W) {b1 b2 : Nat} {s1 s2 : Seen} (h1 : Stood W b1 s1.B) (h2 : Stood W b2 s2.B) :
    SatM (Base.at W (fun _ => False) hg (fun _ _ h => h)) (fun k => if k = 0 then b1 else b2) (seenMem 0 [s1, s2]) 2 W := by
  refine ⟨fun j B hj hn => ?_, fun j j' B B' hj hn hj' hn' hr he => ?_, fun j B hj => ?_, fun j B hj hn hro => ?_, Ext.refl _ _, ⟨Nat.zero_le _, fun k hk => absurd hk (Nat.not_lt_zero _)⟩, fun D hD => by cases hD⟩
  · rcases Mem.get_cons hj with ⟨rfl, rfl⟩ | ⟨_, hj⟩
    · obtain ⟨ob, a, b⟩ := h1 hn; exact ⟨ob, a, b _⟩
    · rcases Mem.get_cons hj with ⟨rfl, rfl⟩ | ⟨_, hj⟩
      · obtain ⟨ob, a, b⟩ := h2 hn; exact ⟨ob, a, b _⟩
      · cases hj
  · exfalso
    obtain ⟨i, s, e1, e2, rfl⟩ := seenMem_get hj
    obtain ⟨i', s', e1', e2', rfl⟩ := seenMem_get hj'
    rcases hr with hr | hr <;> cases hr
  · obtain ⟨i, s, e1, e2, rfl⟩ := seenMem_get hj
    have := (List.getElem?_eq_some_iff.1 e2).1
    simp at this; omega
  · obtain ⟨i, s, e1, e2, rfl⟩ := seenMem_get hj
    cases hro
theorem run_views {cfg : Cfg} (hg : Sx.Good Tryz.prog cfg) {f : FuncId} {fn : Func} (hf : Tryz.prog.funcs[f]? = some fn) (hn : (fn.name == "runtime.NumGoroutine") = false) (hb : fn.body.isSome = true) {args : List SV} {s1 s2 : Seen}
    (h : Holds (runV cfg f fn args [s1, s2] (.ret (.bool false true)))) (hw : SV.wfs 2 args = true) {W : World} (hW : GlobOk W) {b1 b2 : Nat} (h1 : Stood W b1 s1.B) (h2 : Stood W b2 s2.B) :
    Calls Tryz.prog f (SV.vals (fun k => if k = 0 then b1 else b2) args).toArray W fun e W' => e = .returned (.bool true) ∧ Below W.heap.size W W' := by
  have hc := calls_of_holds hg hf hn hb h (by rfl) hw (two_views hW h1 h2)
  refine hc.mono ?_
  rintro e w' ⟨v, rfl, E', sv, m', nx', _, _, g3, g4, g5⟩
  cases sv with
  | none => exact g5.elim
  | some u =>
    have hu : sameVal u (.bool false true) := g5
    exact ⟨by rw [g3 u rfl, hu E']; rfl, g4.ext.below fun _ h => h⟩
end Go.Proofs.YtocikfhejpilaaaGreatDoor
