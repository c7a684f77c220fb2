/-
  Lease: acts among the arguments; from a law's run to its calls.
-/
import Derived.Test.YtobbhdmbblhgaaaLsH
import Derived.Test.YtobbhdmbblhgaaaSxU
namespace Go.Proofs.Ytobbhdmbblhgaaa
open Go Sx Go.RowKit Go.WideShapes Go.ChangeShapes

theorem Try.own : ownKnob Try.prog.godebug = none := by kernel_rfl
theorem Try.laid : laidOutB Try.prog = true := by kernel_rfl
theorem law_calls {cfg : Cfg} (hg : Sx.Good Try.prog cfg) {f : FuncId} {fn : Func} (hf : Try.prog.funcs[f]? = some fn) (hn : (fn.name == "runtime.NumGoroutine") = false) (hb : fn.body.isSome = true) {args : List SV} {m : Mem} {nx : Nat}
    (h : Holds (quietVC Try.prog cfg f fn args m nx fun v => ∃ l, v = .bool l true)) (hm : Mem.wf nx m = true) (ha : SV.wfs nx args = true) {E : Nat → Nat} {W : World} (hs : SatM W (fun _ => False) E m nx W) :
    Calls Try.prog f (SV.vals E args).toArray W fun e W' => e = .returned (.bool true) ∧ Below W.heap.size W W' := by
  refine (calls_of_holds hg hf hn hb h hm ha hs).mono ?_
  rintro e w' ⟨v, rfl, E1, u, m1, nx1, g1, g2, g3, g4, g5⟩
  cases u with
  | none => exact g5.elim
  | some u =>
    obtain ⟨l, rfl⟩ := (g5 : ∃ l, u = .bool l true)
    exact ⟨by rw [g3 _ rfl]; rfl, g4.ext.below fun _ h => h⟩
def acAt (cs : Array Value) (j : Nat) : Ac := ⟨intAt cs j, intAt cs (j + 1), intAt cs (j + 2), intAt cs (j + 3), intAt cs (j + 4), strAt cs (j + 5)⟩
abbrev actsT : TypeId := 22
theorem cells_act : Try.prog.cellsOf actT = 6 := by kernel_rfl
theorem cells_int : Try.prog.cellsOf 3 = 1 := by kernel_rfl
theorem cells_str : Try.prog.cellsOf 9 = 1 := by kernel_rfl
set_option maxRecDepth 100000 in
theorem open_acts {W : World} {base : Nat} {v : Value} {H : Type} {enc : TypeId × Value → H} {d : DataW H} {ps : List MemPlace} (hval : Value.okWide Try.prog W .any base actsT v) (hd : DataW.Trod enc Try.prog W 0 (fun _ => true) true actsT v d ps) :
    ∃ (z : Bool) (b o n c : Nat) (g : Nat → Ac), v = (SV.vslc 0 6 z o 0 n c).val (fun _ => b) ∧ SatM W (fun _ => False) (fun _ => b) [(0, .view z o n (acCols g))] 1 W := by
  obtain ⟨z, b, o, n, c, hv, hn, hc⟩ := mapOk Try.underlying22 hval hd
  rw [cells_act] at hv hc
  have mk : ∀ (g : Nat → Ac), ((z && Nat.beq n 0) = false → ∃ ob, W.heap[b]? = some ob ∧ BlkOk (fun _ => b) (.view z o n (acCols g)) ob) → SatM W (fun _ => False) (fun _ => b) [(0, .view z o n (acCols g))] 1 W := by
    intro g hg
    refine ⟨fun j X hj hx => ?_, fun j j' X X' hj _ hj' _ _ => ?_, fun j X hj => ?_, fun j X hj _ hx => ?_, Ext.refl _ _⟩
    · rcases Mem.get_cons hj with ⟨rfl, rfl⟩ | ⟨_, hj⟩
      · exact hg hx
      · cases hj
    · rcases Mem.get_cons hj with ⟨e, _⟩ | ⟨_, hj⟩
      · rcases Mem.get_cons hj' with ⟨e', _⟩ | ⟨_, hj'⟩
        · exact e.trans e'.symm
        · cases hj'
      · cases hj
    · rcases Mem.get_cons hj with ⟨rfl, _⟩ | ⟨_, hj⟩
      · omega
      · cases hj
    · rcases Mem.get_cons hj with ⟨rfl, rfl⟩ | ⟨_, hj⟩
      · cases hx
      · cases hj
  cases hz : z && Nat.beq n 0 with
  | true => exact ⟨z, b, o, n, c, fun _ => acAt #[] 0, hv, mk _ fun h => by rw [hz] at h; cases h⟩
  | false =>
    obtain ⟨cs, ty, fr, hblk, hel⟩ := hc hz
    refine ⟨z, b, o, n, c, fun i => acAt cs (o + i * 6), hv, mk _ fun _ => ⟨_, hblk, cs, ty, fr, rfl, fun i k col hi hk => ?_⟩⟩
    obtain ⟨xs, y, m, hl, hget, ht⟩ := hel i hi
    obtain ⟨ys, m', rfl, _, _, hyl, hfield⟩ := DataW.trod_struct Try.underlying35 ht
    match xs, hl with
    | [x0, x1, x2, x3, x4, x5], _ =>
      have f0 : DataW.trod enc Try.prog W 0 (fun _ => true) true m' 3 (List.take (Try.prog.cellsOf 3) [x0, x1, x2, x3, x4, x5]) = ys[0]? := hfield 0 _ rfl
      have f1 : DataW.trod enc Try.prog W 0 (fun _ => true) true m' 3 (List.take (Try.prog.cellsOf 3) [x1, x2, x3, x4, x5]) = ys[1]? := hfield 1 _ rfl
      have f2 : DataW.trod enc Try.prog W 0 (fun _ => true) true m' 3 (List.take (Try.prog.cellsOf 3) [x2, x3, x4, x5]) = ys[2]? := hfield 2 _ rfl
      have f3 : DataW.trod enc Try.prog W 0 (fun _ => true) true m' 3 (List.take (Try.prog.cellsOf 3) [x3, x4, x5]) = ys[3]? := hfield 3 _ rfl
      have f4 : DataW.trod enc Try.prog W 0 (fun _ => true) true m' 3 (List.take (Try.prog.cellsOf 3) [x4, x5]) = ys[4]? := hfield 4 _ rfl
      have f5 : DataW.trod enc Try.prog W 0 (fun _ => true) true m' 9 (List.take (Try.prog.cellsOf 9) [x5]) = ys[5]? := hfield 5 _ rfl
      rw [cells_int] at f0 f1 f2 f3 f4
      rw [cells_str] at f5
      simp only [List.take_succ_cons, List.take_zero] at f0 f1 f2 f3 f4 f5
      have hyl' : ys.length = 6 := hyl
      rw [List.getElem?_eq_getElem (by omega)] at f0 f1 f2 f3 f4 f5
      match k, hk with
      | 0, hk => obtain rfl := Option.some.inj hk; exact (trod_int_cell Try.underlying3 f0 (hget 0 (by omega))).1
      | 1, hk => obtain rfl := Option.some.inj hk; exact (trod_int_cell Try.underlying3 f1 (hget 1 (by omega))).1
      | 2, hk => obtain rfl := Option.some.inj hk; exact (trod_int_cell Try.underlying3 f2 (hget 2 (by omega))).1
      | 3, hk => obtain rfl := Option.some.inj hk; exact (trod_int_cell Try.underlying3 f3 (hget 3 (by omega))).1
      | 4, hk => obtain rfl := Option.some.inj hk; exact (trod_int_cell Try.underlying3 f4 (hget 4 (by omega))).1
      | 5, hk => obtain rfl := Option.some.inj hk; exact (trod_str_cell Try.underlying9 f5 (hget 5 (by omega))).1
      | k + 6, hk => simp [acCols] at hk
end Go.Proofs.Ytobbhdmbblhgaaa
