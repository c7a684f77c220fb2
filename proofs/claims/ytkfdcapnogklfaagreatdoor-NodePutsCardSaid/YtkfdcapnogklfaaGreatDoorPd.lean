/-
  Node: which nodes may be: the set-up.
-/
import Derived.Test.YtkfdcapnogklfaaGreatDoorPc
namespace Go.Proofs.YtkfdcapnogklfaaGreatDoor
open Go Sx
set_option maxRecDepth 20000
noncomputable def listN5 : List (FuncId × PT) := (32, ansPT readSpec) :: listN4
theorem listN5_ok : SummOk Tryz.prog (fun f => lookPT f listN5) := .cons read_ok (ansPT_mono _) listN4_ok
def Rel (L : Nat) (t : List UInt8) : Prop := (t.length < L ∨ 32 ≤ t.length) ∧ t.length < 9223372036854775808
def inlA (t : List UInt8) : Ans := .fork (inlB t) fun b => match b with
  | true => .ret (.tup [(getD t).sv, .bool true true])
  | false => .ret (.tup [zeroN, .bool true false])
def inlSpec (L : Nat) : List SV → Option (Prop × Ans)
  | [.str false t] => some (Rel L t, inlA t)
  | _ => none
noncomputable def listN6 (L : Nat) : List (FuncId × PT) := (18, ansPT (inlSpec L)) :: listN5
noncomputable def cfgN6 (L : Nat) : Cfg := { cfg0 with summ := fun f => lookPT f (listN6 L) }
noncomputable def annBr (x : Nd) : LoopAnn :=
  { α := Nat, pre := fun _ i => i ≤ 16 ∧ mays inlB x.r i = true, mea := fun _ i => 16 - i, fresh := 0, slots := fun _ i => [(7, .int .i64 false i)],
    mem := fun _ i => [(2, .cells [.int .i64 false (min (x.v.length : Int) 1 + fullN x.r i)] 1 3)] }
noncomputable def cfgBr (L : Nat) (x : Nd) : Cfg := { cfg0 with summ := fun f => lookPT f (listN6 L), anns := fun f => if f = 51 then [(1, always (annBr x))] else [] }
def RelR (L : Nat) (r : Nat → List UInt8) : Prop := ∀ j, j < 16 → Rel L (r j)
noncomputable def listN7 (L : Nat) : List (FuncId × PT) := (29, purePT (ndSpec fun x => some (Rel L (x.r 0), .bool false (extW inlB x)))) :: (30, purePT (ndSpec fun x => some (RelR L x.r, .bool false (branchW inlB x)))) :: listN5
noncomputable def cfgN7 (L : Nat) : Cfg := { cfg0 with summ := fun f => lookPT f (listN7 L) }
noncomputable def listN8 (L : Nat) : List (FuncId × PT) := (10, purePT (ndSpec fun x => some (RelR L x.r, .bool false (validB x)))) :: (23, purePT (ndSpec fun x => some ((0 ≤ x.k ∧ x.k ≤ 3) ∧ x.Few, .str false (putT x)))) :: listN5
noncomputable def cfgN8 (L : Nat) : Cfg := { cfg0 with summ := fun f => lookPT f (listN8 L) }
def getA' (s : List UInt8) : Ans := .fork (getB' s) fun b => match b with
  | true => .ret (.tup [(getD s).sv, .int .i64 true 0])
  | false => .ret (.tup [zeroN, .int .i64 true 2])
def getSpec' (L : Nat) : List SV → Option (Prop × Ans)
  | [.str false s] => some (s.length ≤ L ∧ s.length < 1099511627776, getA' s)
  | _ => none
noncomputable def cfgN9 (L : Nat) : Cfg := { cfg0 with summ := fun f => lookPT f ((14, ansPT (getSpec' L)) :: listN5) }
noncomputable def cfgNo : Cfg := { cfg0 with summ := fun f => lookPT f ((14, fun _ _ _ _ => .fail "not to be called") :: listN5) }
theorem goodNo : Sx.Good Tryz.prog cfgNo := ⟨mixes, SummOk.cons (fun _ _ _ _ h => h.elim) (fun _ _ _ _ _ _ h => h) listN5_ok, fns_ok⟩
end Go.Proofs.YtkfdcapnogklfaaGreatDoor
/-
  Conditions that the executor computes, written out by a program (vcgen.py).
-/
namespace Go.Proofs.YtkfdcapnogklfaaGreatDoor
open Go Sx
set_option maxRecDepth 20000
theorem vcText0 (x : Nd) (R : SV → Prop) : VC.holds (runP cfgN4 23 Tryz.f23 [x.svL true 0] R) = (True ∧
 R (SV.str false [(128 : UInt8)])) := by kernel_rfl
theorem vcText1 (x : Nd) (R : SV → Prop) : VC.holds (runP cfgN4 23 Tryz.f23 [x.svL true 1] R) = ({ k := (1 : Int), p := x.p, v := x.v, r := fun (i : Nat) => [x.r 0, x.r 1, x.r 2, x.r 3, x.r 4, x.r 5, x.r 6, x.r 7, x.r 8, x.r 9, x.r 10, x.r 11, x.r 12, x.r 13, x.r 14, x.r 15].getD i [] : Nd }.Few ∧
 R (SV.str false (leafT { k := (1 : Int), p := x.p, v := x.v, r := fun (i : Nat) => [x.r 0, x.r 1, x.r 2, x.r 3, x.r 4, x.r 5, x.r 6, x.r 7, x.r 8, x.r 9, x.r 10, x.r 11, x.r 12, x.r 13, x.r 14, x.r 15].getD i [] : Nd }))) := by kernel_rfl
theorem vcText2 (x : Nd) (R : SV → Prop) : VC.holds (runP cfgN4 23 Tryz.f23 [x.svL true 2] R) = ({ k := (2 : Int), p := x.p, v := x.v, r := fun (i : Nat) => [x.r 0, x.r 1, x.r 2, x.r 3, x.r 4, x.r 5, x.r 6, x.r 7, x.r 8, x.r 9, x.r 10, x.r 11, x.r 12, x.r 13, x.r 14, x.r 15].getD i [] : Nd }.Few ∧
 R (SV.str false (extT { k := (2 : Int), p := x.p, v := x.v, r := fun (i : Nat) => [x.r 0, x.r 1, x.r 2, x.r 3, x.r 4, x.r 5, x.r 6, x.r 7, x.r 8, x.r 9, x.r 10, x.r 11, x.r 12, x.r 13, x.r 14, x.r 15].getD i [] : Nd }))) := by kernel_rfl
theorem vcText3 (x : Nd) (R : SV → Prop) : VC.holds (runP cfgN4 23 Tryz.f23 [x.svL true 3] R) = ({ k := (3 : Int), p := x.p, v := x.v, r := fun (i : Nat) => [x.r 0, x.r 1, x.r 2, x.r 3, x.r 4, x.r 5, x.r 6, x.r 7, x.r 8, x.r 9, x.r 10, x.r 11, x.r 12, x.r 13, x.r 14, x.r 15].getD i [] : Nd }.Few ∧
 R (SV.str false (branchT { k := (3 : Int), p := x.p, v := x.v, r := fun (i : Nat) => [x.r 0, x.r 1, x.r 2, x.r 3, x.r 4, x.r 5, x.r 6, x.r 7, x.r 8, x.r 9, x.r 10, x.r 11, x.r 12, x.r 13, x.r 14, x.r 15].getD i [] : Nd }))) := by kernel_rfl
theorem vcExt (L : Nat) (x : Nd) (R : SV → Prop) : VC.holds (runP (cfgN6 L) 29 Tryz.f29 [x.sv] R) = (True ∧
 ((!pathB { k := x.k, p := x.p, v := x.v, r := fun (i : Nat) => [x.r 0, x.r 1, x.r 2, x.r 3, x.r 4, x.r 5, x.r 6, x.r 7, x.r 8, x.r 9, x.r 10, x.r 11, x.r 12, x.r 13, x.r 14, x.r 15].getD i [] : Nd } (1 : Int)) = true →
 R (SV.bool true false)) ∧
 ((!pathB { k := x.k, p := x.p, v := x.v, r := fun (i : Nat) => [x.r 0, x.r 1, x.r 2, x.r 3, x.r 4, x.r 5, x.r 6, x.r 7, x.r 8, x.r 9, x.r 10, x.r 11, x.r 12, x.r 13, x.r 14, x.r 15].getD i [] : Nd } (1 : Int)) = false →
 ((!decide (x.v = [])) = true →
 R (SV.bool true false)) ∧
 ((!decide (x.v = [])) = false →
 True ∧
 ((!decide (behindI (fun (i : Nat) => [x.r 0, x.r 1, x.r 2, x.r 3, x.r 4, x.r 5, x.r 6, x.r 7, x.r 8, x.r 9, x.r 10, x.r 11, x.r 12, x.r 13, x.r 14, x.r 15].getD i []) (16 : Nat) = (1 : Int))) = true →
 R (SV.bool true false)) ∧
 ((!decide (behindI (fun (i : Nat) => [x.r 0, x.r 1, x.r 2, x.r 3, x.r 4, x.r 5, x.r 6, x.r 7, x.r 8, x.r 9, x.r 10, x.r 11, x.r 12, x.r 13, x.r 14, x.r 15].getD i []) (16 : Nat) = (1 : Int))) = false →
 (x.r 0).length < (9223372036854775808 : Nat) ∧
 (hashB (x.r 0) = true →
 R (SV.bool true true)) ∧
 (hashB (x.r 0) = false →
 Rel L (x.r 0) ∧
 (inlB (x.r 0) = true →
 R (SV.bool (false && true) (decide ((getD (x.r 0)).k = (3 : Int))))) ∧
 (inlB (x.r 0) = false →
 R (SV.bool true false))))))) := by kernel_rfl
theorem vcBranch (L : Nat) (x : Nd) (R : SV → Prop) : VC.holds (runP (cfgBr L x) 30 Tryz.f30 [x.sv] R) = ((fun Q0 : SB => (((!decide (x.p = [])) = true →
 R (SV.bool true false)) ∧
 ((!decide (x.p = [])) = false →
 (decide ((80 : Int) < (↑x.v.length : Int)) = true →
 R (SV.bool true false)) ∧
 (decide ((80 : Int) < (↑x.v.length : Int)) = false →
 ∀ (R_1 : Loop), (∃ (y : Nat), (y ≤ (16 : Nat) ∧
 mays inlB x.r y = true) ∧
 (0 : Int) = (↑y : Int) ∧
 SBle (SB.cells [SV.int .i64 (false && true) (min (↑x.v.length : Int) 1)] 1 3) (SB.cells [SV.int .i64 false (min (↑x.v.length : Int) (1 : Int) + fullN x.r y)] 1 3) ∧
 SBle (SB.loop LoopState.ready none R_1) (SB.loop LoopState.ready none R_1) ∧
 SBle Q0 Q0 ∧
 SBle (SB.cells (SV.bool true false).cells 1 4) (SB.cells (SV.bool true false).cells 1 4) ∧
 SBle (SB.cells x.sv.cells 19 44) (SB.cells x.sv.cells 19 44) ∧
 True) ∧
 ∀ (x_3 : Nat), x_3 ≤ (16 : Nat) ∧
 mays inlB x.r x_3 = true →
 (decide ((↑x_3 : Int) < (16 : Int)) = true →
 ((0 : Int) ≤ (↑x_3 : Int) ∧
 (↑x_3 : Int) < (16 : Int) ∧
 (↑x_3 : Int) < (↑(16 : Nat) : Int)) ∧
 ((!decide (selS [x.r 0, x.r 1, x.r 2, x.r 3, x.r 4, x.r 5, x.r 6, x.r 7, x.r 8, x.r 9, x.r 10, x.r 11, x.r 12, x.r 13, x.r 14, x.r 15] (↑x_3 : Int).toNat = [])) = true →
 R_1 = R_1 ∧
 (selS [x.r 0, x.r 1, x.r 2, x.r 3, x.r 4, x.r 5, x.r 6, x.r 7, x.r 8, x.r 9, x.r 10, x.r 11, x.r 12, x.r 13, x.r 14, x.r 15] (↑x_3 : Int).toNat).length < (9223372036854775808 : Nat) ∧
 (hashB (selS [x.r 0, x.r 1, x.r 2, x.r 3, x.r 4, x.r 5, x.r 6, x.r 7, x.r 8, x.r 9, x.r 10, x.r 11, x.r 12, x.r 13, x.r 14, x.r 15] (↑x_3 : Int).toNat) = true →
 ((-9223372036854775808 : Int) ≤ min (↑x.v.length : Int) (1 : Int) + fullN x.r x_3 + (1 : Int) ∧
 min (↑x.v.length : Int) (1 : Int) + fullN x.r x_3 + (1 : Int) ≤ (9223372036854775807 : Int)) ∧
 ((-9223372036854775808 : Int) ≤ (↑x_3 : Int) + (1 : Int) ∧
 (↑x_3 : Int) + (1 : Int) ≤ (9223372036854775807 : Int)) ∧
 ∃ (y : Nat), ((y ≤ (16 : Nat) ∧
 mays inlB x.r y = true) ∧
 (16 : Nat) - y < (16 : Nat) - x_3) ∧
 (↑x_3 : Int) + (1 : Int) = (↑y : Int) ∧
 SBle (SB.cells [SV.int .i64 false (min (↑x.v.length : Int) (1 : Int) + fullN x.r x_3 + (1 : Int))] 1 3) (SB.cells [SV.int .i64 false (min (↑x.v.length : Int) (1 : Int) + fullN x.r y)] 1 3) ∧
 SBle (SB.loop LoopState.ready none R_1) (SB.loop LoopState.ready none R_1) ∧
 SBle Q0 Q0 ∧
 SBle (SB.cells (SV.bool true false).cells 1 4) (SB.cells (SV.bool true false).cells 1 4) ∧
 SBle (SB.cells x.sv.cells 19 44) (SB.cells x.sv.cells 19 44) ∧
 True) ∧
 (hashB (selS [x.r 0, x.r 1, x.r 2, x.r 3, x.r 4, x.r 5, x.r 6, x.r 7, x.r 8, x.r 9, x.r 10, x.r 11, x.r 12, x.r 13, x.r 14, x.r 15] (↑x_3 : Int).toNat) = false →
 Rel L (selS [x.r 0, x.r 1, x.r 2, x.r 3, x.r 4, x.r 5, x.r 6, x.r 7, x.r 8, x.r 9, x.r 10, x.r 11, x.r 12, x.r 13, x.r 14, x.r 15] (↑x_3 : Int).toNat) ∧
 (inlB (selS [x.r 0, x.r 1, x.r 2, x.r 3, x.r 4, x.r 5, x.r 6, x.r 7, x.r 8, x.r 9, x.r 10, x.r 11, x.r 12, x.r 13, x.r 14, x.r 15] (↑x_3 : Int).toNat) = true →
 ((-9223372036854775808 : Int) ≤ min (↑x.v.length : Int) (1 : Int) + fullN x.r x_3 + (1 : Int) ∧
 min (↑x.v.length : Int) (1 : Int) + fullN x.r x_3 + (1 : Int) ≤ (9223372036854775807 : Int)) ∧
 ((-9223372036854775808 : Int) ≤ (↑x_3 : Int) + (1 : Int) ∧
 (↑x_3 : Int) + (1 : Int) ≤ (9223372036854775807 : Int)) ∧
 ∃ (y : Nat), ((y ≤ (16 : Nat) ∧
 mays inlB x.r y = true) ∧
 (16 : Nat) - y < (16 : Nat) - x_3) ∧
 (↑x_3 : Int) + (1 : Int) = (↑y : Int) ∧
 SBle (SB.cells [SV.int .i64 false (min (↑x.v.length : Int) (1 : Int) + fullN x.r x_3 + (1 : Int))] 1 3) (SB.cells [SV.int .i64 false (min (↑x.v.length : Int) (1 : Int) + fullN x.r y)] 1 3) ∧
 SBle (SB.loop LoopState.ready none R_1) (SB.loop LoopState.ready none R_1) ∧
 SBle Q0 Q0 ∧
 SBle (SB.cells (SV.bool true false).cells 1 4) (SB.cells (SV.bool true false).cells 1 4) ∧
 SBle (SB.cells x.sv.cells 19 44) (SB.cells x.sv.cells 19 44) ∧
 True) ∧
 (inlB (selS [x.r 0, x.r 1, x.r 2, x.r 3, x.r 4, x.r 5, x.r 6, x.r 7, x.r 8, x.r 9, x.r 10, x.r 11, x.r 12, x.r 13, x.r 14, x.r 15] (↑x_3 : Int).toNat) = false →
 R (SV.bool true false)))) ∧
 ((!decide (selS [x.r 0, x.r 1, x.r 2, x.r 3, x.r 4, x.r 5, x.r 6, x.r 7, x.r 8, x.r 9, x.r 10, x.r 11, x.r 12, x.r 13, x.r 14, x.r 15] (↑x_3 : Int).toNat = [])) = false →
 ((-9223372036854775808 : Int) ≤ (↑x_3 : Int) + (1 : Int) ∧
 (↑x_3 : Int) + (1 : Int) ≤ (9223372036854775807 : Int)) ∧
 ∃ (y : Nat), ((y ≤ (16 : Nat) ∧
 mays inlB x.r y = true) ∧
 (16 : Nat) - y < (16 : Nat) - x_3) ∧
 (↑x_3 : Int) + (1 : Int) = (↑y : Int) ∧
 SBle (SB.cells [SV.int .i64 false (min (↑x.v.length : Int) (1 : Int) + fullN x.r x_3)] 1 3) (SB.cells [SV.int .i64 false (min (↑x.v.length : Int) (1 : Int) + fullN x.r y)] 1 3) ∧
 SBle (SB.loop LoopState.ready none R_1) (SB.loop LoopState.ready none R_1) ∧
 SBle Q0 Q0 ∧
 SBle (SB.cells (SV.bool true false).cells 1 4) (SB.cells (SV.bool true false).cells 1 4) ∧
 SBle (SB.cells x.sv.cells 19 44) (SB.cells x.sv.cells 19 44) ∧
 True)) ∧
 (decide ((↑x_3 : Int) < (16 : Int)) = false →
 R (SV.bool (false && true) (decide ((2 : Int) ≤ min (↑x.v.length : Int) (1 : Int) + fullN x.r x_3)))))))) (SB.cells (SV.agg [SV.int .i64 false x.k, SV.str false x.p, SV.str false x.v, SV.str false (x.r 0), SV.str false (x.r 1), SV.str false (x.r 2), SV.str false (x.r 3), SV.str false (x.r 4), SV.str false (x.r 5), SV.str false (x.r 6), SV.str false (x.r 7), SV.str false (x.r 8), SV.str false (x.r 9), SV.str false (x.r 10), SV.str false (x.r 11), SV.str false (x.r 12), SV.str false (x.r 13), SV.str false (x.r 14), SV.str false (x.r 15)]).cells 19 44)) := by kernel_rfl
theorem vcValid0 (L : Nat) (x : Nd) (R : SV → Prop) : VC.holds (runP (cfgN7 L) 10 Tryz.f10 [x.svL true 0] R) = (True ∧
 R (SV.bool false (noneB { k := (0 : Int), p := x.p, v := x.v, r := fun (i : Nat) => [x.r 0, x.r 1, x.r 2, x.r 3, x.r 4, x.r 5, x.r 6, x.r 7, x.r 8, x.r 9, x.r 10, x.r 11, x.r 12, x.r 13, x.r 14, x.r 15].getD i [] : Nd }))) := by kernel_rfl
theorem vcValid1 (L : Nat) (x : Nd) (R : SV → Prop) : VC.holds (runP (cfgN7 L) 10 Tryz.f10 [x.svL true 1] R) = (True ∧
 R (SV.bool false (leafB { k := (1 : Int), p := x.p, v := x.v, r := fun (i : Nat) => [x.r 0, x.r 1, x.r 2, x.r 3, x.r 4, x.r 5, x.r 6, x.r 7, x.r 8, x.r 9, x.r 10, x.r 11, x.r 12, x.r 13, x.r 14, x.r 15].getD i [] : Nd }))) := by kernel_rfl
theorem vcValid2 (L : Nat) (x : Nd) (R : SV → Prop) : VC.holds (runP (cfgN7 L) 10 Tryz.f10 [x.svL true 2] R) = (Rel L ([x.r 0, x.r 1, x.r 2, x.r 3, x.r 4, x.r 5, x.r 6, x.r 7, x.r 8, x.r 9, x.r 10, x.r 11, x.r 12, x.r 13, x.r 14, x.r 15].getD 0 []) ∧
 R (SV.bool false (extW inlB { k := (2 : Int), p := x.p, v := x.v, r := fun (i : Nat) => [x.r 0, x.r 1, x.r 2, x.r 3, x.r 4, x.r 5, x.r 6, x.r 7, x.r 8, x.r 9, x.r 10, x.r 11, x.r 12, x.r 13, x.r 14, x.r 15].getD i [] : Nd }))) := by kernel_rfl
theorem vcValid3 (L : Nat) (x : Nd) (R : SV → Prop) : VC.holds (runP (cfgN7 L) 10 Tryz.f10 [x.svL true 3] R) = ((RelR L fun (i : Nat) => [x.r 0, x.r 1, x.r 2, x.r 3, x.r 4, x.r 5, x.r 6, x.r 7, x.r 8, x.r 9, x.r 10, x.r 11, x.r 12, x.r 13, x.r 14, x.r 15].getD i []) ∧
 R (SV.bool false (branchW inlB { k := (3 : Int), p := x.p, v := x.v, r := fun (i : Nat) => [x.r 0, x.r 1, x.r 2, x.r 3, x.r 4, x.r 5, x.r 6, x.r 7, x.r 8, x.r 9, x.r 10, x.r 11, x.r 12, x.r 13, x.r 14, x.r 15].getD i [] : Nd }))) := by kernel_rfl
theorem vcValidS (L : Nat) (x : Nd) (R : SV → Prop) : VC.holds (runP (cfgN7 L) 10 Tryz.f10 [x.sv] R) = ((decide (x.k < (0 : Int)) = true →
 R (SV.bool true false)) ∧
 (decide (x.k < (0 : Int)) = false →
 (decide ((3 : Int) < x.k) = true →
 R (SV.bool true false)) ∧
 (decide ((3 : Int) < x.k) = false →
 ((0 : Int) ≤ x.k ∧
 x.k < (4 : Int)) ∧
 False))) := by kernel_rfl
theorem vcNodeGet (L : Nat) (s : List UInt8) : VC.holds (runA (cfgN8 L) 14 Tryz.f14 [.str false s] (getA' s)) = ((fun Q0 : SV => ((fun Q1 : SV => ((fun Q2 : SV => (s.length < (1099511627776 : Nat) ∧
 (decide (shapeK s = (0 : Int)) = true →
 (RelR L fun (i : Nat) => [[], [], [], [], [], [], [], [], [], [], [], [], [], [], [], []].getD i []) ∧
 ((!validB { k := (0 : Int), p := [], v := [], r := fun (i : Nat) => [[], [], [], [], [], [], [], [], [], [], [], [], [], [], [], []].getD i [] : Nd }) = true →
 (getB' s = true →
 sameVal Q0 Q1) ∧
 (getB' s = false →
 sameVal Q0 Q2)) ∧
 ((!validB { k := (0 : Int), p := [], v := [], r := fun (i : Nat) => [[], [], [], [], [], [], [], [], [], [], [], [], [], [], [], []].getD i [] : Nd }) = false →
 (((0 : Int) ≤ (0 : Int) ∧
 (0 : Int) ≤ (3 : Int)) ∧
 { k := (0 : Int), p := [], v := [], r := fun (i : Nat) => [[], [], [], [], [], [], [], [], [], [], [], [], [], [], [], []].getD i [] : Nd }.Few) ∧
 ((!decide (putT { k := (0 : Int), p := [], v := [], r := fun (i : Nat) => [[], [], [], [], [], [], [], [], [], [], [], [], [], [], [], []].getD i [] : Nd } = s)) = true →
 (getB' s = true →
 sameVal Q0 Q1) ∧
 (getB' s = false →
 sameVal Q0 Q2)) ∧
 ((!decide (putT { k := (0 : Int), p := [], v := [], r := fun (i : Nat) => [[], [], [], [], [], [], [], [], [], [], [], [], [], [], [], []].getD i [] : Nd } = s)) = false →
 (getB' s = true →
 sameVal (SV.tup [SV.agg [SV.int .i64 true 0, SV.str true [], SV.str true [], SV.str true [], SV.str true [], SV.str true [], SV.str true [], SV.str true [], SV.str true [], SV.str true [], SV.str true [], SV.str true [], SV.str true [], SV.str true [], SV.str true [], SV.str true [], SV.str true [], SV.str true [], SV.str true []], SV.int .i64 true 0]) Q1) ∧
 (getB' s = false →
 sameVal (SV.tup [SV.agg [SV.int .i64 true 0, SV.str true [], SV.str true [], SV.str true [], SV.str true [], SV.str true [], SV.str true [], SV.str true [], SV.str true [], SV.str true [], SV.str true [], SV.str true [], SV.str true [], SV.str true [], SV.str true [], SV.str true [], SV.str true [], SV.str true [], SV.str true []], SV.int .i64 true 0]) Q2)))) ∧
 (decide (shapeK s = (0 : Int)) = false →
 (decide (shapeK s = (1 : Int)) = true →
 (RelR L fun (i : Nat) => [noRefs 0, noRefs 1, noRefs 2, noRefs 3, noRefs 4, noRefs 5, noRefs 6, noRefs 7, noRefs 8, noRefs 9, noRefs 10, noRefs 11, noRefs 12, noRefs 13, noRefs 14, noRefs 15].getD i []) ∧
 ((!validB { k := (1 : Int), p := ngetP (cutIn (itemAt (cutIn s) 0)), v := cutIn (itemAt (cutIn s) 1), r := fun (i : Nat) => [noRefs 0, noRefs 1, noRefs 2, noRefs 3, noRefs 4, noRefs 5, noRefs 6, noRefs 7, noRefs 8, noRefs 9, noRefs 10, noRefs 11, noRefs 12, noRefs 13, noRefs 14, noRefs 15].getD i [] : Nd }) = true →
 (getB' s = true →
 sameVal Q0 Q1) ∧
 (getB' s = false →
 sameVal Q0 Q2)) ∧
 ((!validB { k := (1 : Int), p := ngetP (cutIn (itemAt (cutIn s) 0)), v := cutIn (itemAt (cutIn s) 1), r := fun (i : Nat) => [noRefs 0, noRefs 1, noRefs 2, noRefs 3, noRefs 4, noRefs 5, noRefs 6, noRefs 7, noRefs 8, noRefs 9, noRefs 10, noRefs 11, noRefs 12, noRefs 13, noRefs 14, noRefs 15].getD i [] : Nd }) = false →
 (((0 : Int) ≤ (1 : Int) ∧
 (1 : Int) ≤ (3 : Int)) ∧
 { k := (1 : Int), p := ngetP (cutIn (itemAt (cutIn s) 0)), v := cutIn (itemAt (cutIn s) 1), r := fun (i : Nat) => [noRefs 0, noRefs 1, noRefs 2, noRefs 3, noRefs 4, noRefs 5, noRefs 6, noRefs 7, noRefs 8, noRefs 9, noRefs 10, noRefs 11, noRefs 12, noRefs 13, noRefs 14, noRefs 15].getD i [] : Nd }.Few) ∧
 ((!decide (putT { k := (1 : Int), p := ngetP (cutIn (itemAt (cutIn s) 0)), v := cutIn (itemAt (cutIn s) 1), r := fun (i : Nat) => [noRefs 0, noRefs 1, noRefs 2, noRefs 3, noRefs 4, noRefs 5, noRefs 6, noRefs 7, noRefs 8, noRefs 9, noRefs 10, noRefs 11, noRefs 12, noRefs 13, noRefs 14, noRefs 15].getD i [] : Nd } = s)) = true →
 (getB' s = true →
 sameVal Q0 Q1) ∧
 (getB' s = false →
 sameVal Q0 Q2)) ∧
 ((!decide (putT { k := (1 : Int), p := ngetP (cutIn (itemAt (cutIn s) 0)), v := cutIn (itemAt (cutIn s) 1), r := fun (i : Nat) => [noRefs 0, noRefs 1, noRefs 2, noRefs 3, noRefs 4, noRefs 5, noRefs 6, noRefs 7, noRefs 8, noRefs 9, noRefs 10, noRefs 11, noRefs 12, noRefs 13, noRefs 14, noRefs 15].getD i [] : Nd } = s)) = false →
 (getB' s = true →
 sameVal (SV.tup [SV.agg [SV.int .i64 true 1, SV.str false (ngetP (cutIn (itemAt (cutIn s) 0))), SV.str false (cutIn (itemAt (cutIn s) 1)), SV.str false (noRefs 0), SV.str false (noRefs 1), SV.str false (noRefs 2), SV.str false (noRefs 3), SV.str false (noRefs 4), SV.str false (noRefs 5), SV.str false (noRefs 6), SV.str false (noRefs 7), SV.str false (noRefs 8), SV.str false (noRefs 9), SV.str false (noRefs 10), SV.str false (noRefs 11), SV.str false (noRefs 12), SV.str false (noRefs 13), SV.str false (noRefs 14), SV.str false (noRefs 15)], SV.int .i64 true 0]) Q1) ∧
 (getB' s = false →
 sameVal (SV.tup [SV.agg [SV.int .i64 true 1, SV.str false (ngetP (cutIn (itemAt (cutIn s) 0))), SV.str false (cutIn (itemAt (cutIn s) 1)), SV.str false (noRefs 0), SV.str false (noRefs 1), SV.str false (noRefs 2), SV.str false (noRefs 3), SV.str false (noRefs 4), SV.str false (noRefs 5), SV.str false (noRefs 6), SV.str false (noRefs 7), SV.str false (noRefs 8), SV.str false (noRefs 9), SV.str false (noRefs 10), SV.str false (noRefs 11), SV.str false (noRefs 12), SV.str false (noRefs 13), SV.str false (noRefs 14), SV.str false (noRefs 15)], SV.int .i64 true 0]) Q2)))) ∧
 (decide (shapeK s = (1 : Int)) = false →
 (decide (shapeK s = (2 : Int)) = true →
 (RelR L fun (i : Nat) => [oneRef (itemAt (cutIn s) 1) 0, oneRef (itemAt (cutIn s) 1) 1, oneRef (itemAt (cutIn s) 1) 2, oneRef (itemAt (cutIn s) 1) 3, oneRef (itemAt (cutIn s) 1) 4, oneRef (itemAt (cutIn s) 1) 5, oneRef (itemAt (cutIn s) 1) 6, oneRef (itemAt (cutIn s) 1) 7, oneRef (itemAt (cutIn s) 1) 8, oneRef (itemAt (cutIn s) 1) 9, oneRef (itemAt (cutIn s) 1) 10, oneRef (itemAt (cutIn s) 1) 11, oneRef (itemAt (cutIn s) 1) 12, oneRef (itemAt (cutIn s) 1) 13, oneRef (itemAt (cutIn s) 1) 14, oneRef (itemAt (cutIn s) 1) 15].getD i []) ∧
 ((!validB { k := (2 : Int), p := ngetP (cutIn (itemAt (cutIn s) 0)), v := [], r := fun (i : Nat) => [oneRef (itemAt (cutIn s) 1) 0, oneRef (itemAt (cutIn s) 1) 1, oneRef (itemAt (cutIn s) 1) 2, oneRef (itemAt (cutIn s) 1) 3, oneRef (itemAt (cutIn s) 1) 4, oneRef (itemAt (cutIn s) 1) 5, oneRef (itemAt (cutIn s) 1) 6, oneRef (itemAt (cutIn s) 1) 7, oneRef (itemAt (cutIn s) 1) 8, oneRef (itemAt (cutIn s) 1) 9, oneRef (itemAt (cutIn s) 1) 10, oneRef (itemAt (cutIn s) 1) 11, oneRef (itemAt (cutIn s) 1) 12, oneRef (itemAt (cutIn s) 1) 13, oneRef (itemAt (cutIn s) 1) 14, oneRef (itemAt (cutIn s) 1) 15].getD i [] : Nd }) = true →
 (getB' s = true →
 sameVal Q0 Q1) ∧
 (getB' s = false →
 sameVal Q0 Q2)) ∧
 ((!validB { k := (2 : Int), p := ngetP (cutIn (itemAt (cutIn s) 0)), v := [], r := fun (i : Nat) => [oneRef (itemAt (cutIn s) 1) 0, oneRef (itemAt (cutIn s) 1) 1, oneRef (itemAt (cutIn s) 1) 2, oneRef (itemAt (cutIn s) 1) 3, oneRef (itemAt (cutIn s) 1) 4, oneRef (itemAt (cutIn s) 1) 5, oneRef (itemAt (cutIn s) 1) 6, oneRef (itemAt (cutIn s) 1) 7, oneRef (itemAt (cutIn s) 1) 8, oneRef (itemAt (cutIn s) 1) 9, oneRef (itemAt (cutIn s) 1) 10, oneRef (itemAt (cutIn s) 1) 11, oneRef (itemAt (cutIn s) 1) 12, oneRef (itemAt (cutIn s) 1) 13, oneRef (itemAt (cutIn s) 1) 14, oneRef (itemAt (cutIn s) 1) 15].getD i [] : Nd }) = false →
 (((0 : Int) ≤ (2 : Int) ∧
 (2 : Int) ≤ (3 : Int)) ∧
 { k := (2 : Int), p := ngetP (cutIn (itemAt (cutIn s) 0)), v := [], r := fun (i : Nat) => [oneRef (itemAt (cutIn s) 1) 0, oneRef (itemAt (cutIn s) 1) 1, oneRef (itemAt (cutIn s) 1) 2, oneRef (itemAt (cutIn s) 1) 3, oneRef (itemAt (cutIn s) 1) 4, oneRef (itemAt (cutIn s) 1) 5, oneRef (itemAt (cutIn s) 1) 6, oneRef (itemAt (cutIn s) 1) 7, oneRef (itemAt (cutIn s) 1) 8, oneRef (itemAt (cutIn s) 1) 9, oneRef (itemAt (cutIn s) 1) 10, oneRef (itemAt (cutIn s) 1) 11, oneRef (itemAt (cutIn s) 1) 12, oneRef (itemAt (cutIn s) 1) 13, oneRef (itemAt (cutIn s) 1) 14, oneRef (itemAt (cutIn s) 1) 15].getD i [] : Nd }.Few) ∧
 ((!decide (putT { k := (2 : Int), p := ngetP (cutIn (itemAt (cutIn s) 0)), v := [], r := fun (i : Nat) => [oneRef (itemAt (cutIn s) 1) 0, oneRef (itemAt (cutIn s) 1) 1, oneRef (itemAt (cutIn s) 1) 2, oneRef (itemAt (cutIn s) 1) 3, oneRef (itemAt (cutIn s) 1) 4, oneRef (itemAt (cutIn s) 1) 5, oneRef (itemAt (cutIn s) 1) 6, oneRef (itemAt (cutIn s) 1) 7, oneRef (itemAt (cutIn s) 1) 8, oneRef (itemAt (cutIn s) 1) 9, oneRef (itemAt (cutIn s) 1) 10, oneRef (itemAt (cutIn s) 1) 11, oneRef (itemAt (cutIn s) 1) 12, oneRef (itemAt (cutIn s) 1) 13, oneRef (itemAt (cutIn s) 1) 14, oneRef (itemAt (cutIn s) 1) 15].getD i [] : Nd } = s)) = true →
 (getB' s = true →
 sameVal Q0 Q1) ∧
 (getB' s = false →
 sameVal Q0 Q2)) ∧
 ((!decide (putT { k := (2 : Int), p := ngetP (cutIn (itemAt (cutIn s) 0)), v := [], r := fun (i : Nat) => [oneRef (itemAt (cutIn s) 1) 0, oneRef (itemAt (cutIn s) 1) 1, oneRef (itemAt (cutIn s) 1) 2, oneRef (itemAt (cutIn s) 1) 3, oneRef (itemAt (cutIn s) 1) 4, oneRef (itemAt (cutIn s) 1) 5, oneRef (itemAt (cutIn s) 1) 6, oneRef (itemAt (cutIn s) 1) 7, oneRef (itemAt (cutIn s) 1) 8, oneRef (itemAt (cutIn s) 1) 9, oneRef (itemAt (cutIn s) 1) 10, oneRef (itemAt (cutIn s) 1) 11, oneRef (itemAt (cutIn s) 1) 12, oneRef (itemAt (cutIn s) 1) 13, oneRef (itemAt (cutIn s) 1) 14, oneRef (itemAt (cutIn s) 1) 15].getD i [] : Nd } = s)) = false →
 (getB' s = true →
 sameVal (SV.tup [SV.agg [SV.int .i64 true 2, SV.str false (ngetP (cutIn (itemAt (cutIn s) 0))), SV.str false [], SV.str false (oneRef (itemAt (cutIn s) 1) 0), SV.str false (oneRef (itemAt (cutIn s) 1) 1), SV.str false (oneRef (itemAt (cutIn s) 1) 2), SV.str false (oneRef (itemAt (cutIn s) 1) 3), SV.str false (oneRef (itemAt (cutIn s) 1) 4), SV.str false (oneRef (itemAt (cutIn s) 1) 5), SV.str false (oneRef (itemAt (cutIn s) 1) 6), SV.str false (oneRef (itemAt (cutIn s) 1) 7), SV.str false (oneRef (itemAt (cutIn s) 1) 8), SV.str false (oneRef (itemAt (cutIn s) 1) 9), SV.str false (oneRef (itemAt (cutIn s) 1) 10), SV.str false (oneRef (itemAt (cutIn s) 1) 11), SV.str false (oneRef (itemAt (cutIn s) 1) 12), SV.str false (oneRef (itemAt (cutIn s) 1) 13), SV.str false (oneRef (itemAt (cutIn s) 1) 14), SV.str false (oneRef (itemAt (cutIn s) 1) 15)], SV.int .i64 true 0]) Q1) ∧
 (getB' s = false →
 sameVal (SV.tup [SV.agg [SV.int .i64 true 2, SV.str false (ngetP (cutIn (itemAt (cutIn s) 0))), SV.str false [], SV.str false (oneRef (itemAt (cutIn s) 1) 0), SV.str false (oneRef (itemAt (cutIn s) 1) 1), SV.str false (oneRef (itemAt (cutIn s) 1) 2), SV.str false (oneRef (itemAt (cutIn s) 1) 3), SV.str false (oneRef (itemAt (cutIn s) 1) 4), SV.str false (oneRef (itemAt (cutIn s) 1) 5), SV.str false (oneRef (itemAt (cutIn s) 1) 6), SV.str false (oneRef (itemAt (cutIn s) 1) 7), SV.str false (oneRef (itemAt (cutIn s) 1) 8), SV.str false (oneRef (itemAt (cutIn s) 1) 9), SV.str false (oneRef (itemAt (cutIn s) 1) 10), SV.str false (oneRef (itemAt (cutIn s) 1) 11), SV.str false (oneRef (itemAt (cutIn s) 1) 12), SV.str false (oneRef (itemAt (cutIn s) 1) 13), SV.str false (oneRef (itemAt (cutIn s) 1) 14), SV.str false (oneRef (itemAt (cutIn s) 1) 15)], SV.int .i64 true 0]) Q2)))) ∧
 (decide (shapeK s = (2 : Int)) = false →
 (decide (shapeK s = (3 : Int)) = true →
 (RelR L fun (i : Nat) => [mk16 (rdRef (cutIn s)) 0, mk16 (rdRef (cutIn s)) 1, mk16 (rdRef (cutIn s)) 2, mk16 (rdRef (cutIn s)) 3, mk16 (rdRef (cutIn s)) 4, mk16 (rdRef (cutIn s)) 5, mk16 (rdRef (cutIn s)) 6, mk16 (rdRef (cutIn s)) 7, mk16 (rdRef (cutIn s)) 8, mk16 (rdRef (cutIn s)) 9, mk16 (rdRef (cutIn s)) 10, mk16 (rdRef (cutIn s)) 11, mk16 (rdRef (cutIn s)) 12, mk16 (rdRef (cutIn s)) 13, mk16 (rdRef (cutIn s)) 14, mk16 (rdRef (cutIn s)) 15].getD i []) ∧
 ((!validB { k := (3 : Int), p := [], v := cutIn (itemAt (cutIn s) 16), r := fun (i : Nat) => [mk16 (rdRef (cutIn s)) 0, mk16 (rdRef (cutIn s)) 1, mk16 (rdRef (cutIn s)) 2, mk16 (rdRef (cutIn s)) 3, mk16 (rdRef (cutIn s)) 4, mk16 (rdRef (cutIn s)) 5, mk16 (rdRef (cutIn s)) 6, mk16 (rdRef (cutIn s)) 7, mk16 (rdRef (cutIn s)) 8, mk16 (rdRef (cutIn s)) 9, mk16 (rdRef (cutIn s)) 10, mk16 (rdRef (cutIn s)) 11, mk16 (rdRef (cutIn s)) 12, mk16 (rdRef (cutIn s)) 13, mk16 (rdRef (cutIn s)) 14, mk16 (rdRef (cutIn s)) 15].getD i [] : Nd }) = true →
 (getB' s = true →
 sameVal Q0 Q1) ∧
 (getB' s = false →
 sameVal Q0 Q2)) ∧
 ((!validB { k := (3 : Int), p := [], v := cutIn (itemAt (cutIn s) 16), r := fun (i : Nat) => [mk16 (rdRef (cutIn s)) 0, mk16 (rdRef (cutIn s)) 1, mk16 (rdRef (cutIn s)) 2, mk16 (rdRef (cutIn s)) 3, mk16 (rdRef (cutIn s)) 4, mk16 (rdRef (cutIn s)) 5, mk16 (rdRef (cutIn s)) 6, mk16 (rdRef (cutIn s)) 7, mk16 (rdRef (cutIn s)) 8, mk16 (rdRef (cutIn s)) 9, mk16 (rdRef (cutIn s)) 10, mk16 (rdRef (cutIn s)) 11, mk16 (rdRef (cutIn s)) 12, mk16 (rdRef (cutIn s)) 13, mk16 (rdRef (cutIn s)) 14, mk16 (rdRef (cutIn s)) 15].getD i [] : Nd }) = false →
 (((0 : Int) ≤ (3 : Int) ∧
 (3 : Int) ≤ (3 : Int)) ∧
 { k := (3 : Int), p := [], v := cutIn (itemAt (cutIn s) 16), r := fun (i : Nat) => [mk16 (rdRef (cutIn s)) 0, mk16 (rdRef (cutIn s)) 1, mk16 (rdRef (cutIn s)) 2, mk16 (rdRef (cutIn s)) 3, mk16 (rdRef (cutIn s)) 4, mk16 (rdRef (cutIn s)) 5, mk16 (rdRef (cutIn s)) 6, mk16 (rdRef (cutIn s)) 7, mk16 (rdRef (cutIn s)) 8, mk16 (rdRef (cutIn s)) 9, mk16 (rdRef (cutIn s)) 10, mk16 (rdRef (cutIn s)) 11, mk16 (rdRef (cutIn s)) 12, mk16 (rdRef (cutIn s)) 13, mk16 (rdRef (cutIn s)) 14, mk16 (rdRef (cutIn s)) 15].getD i [] : Nd }.Few) ∧
 ((!decide (putT { k := (3 : Int), p := [], v := cutIn (itemAt (cutIn s) 16), r := fun (i : Nat) => [mk16 (rdRef (cutIn s)) 0, mk16 (rdRef (cutIn s)) 1, mk16 (rdRef (cutIn s)) 2, mk16 (rdRef (cutIn s)) 3, mk16 (rdRef (cutIn s)) 4, mk16 (rdRef (cutIn s)) 5, mk16 (rdRef (cutIn s)) 6, mk16 (rdRef (cutIn s)) 7, mk16 (rdRef (cutIn s)) 8, mk16 (rdRef (cutIn s)) 9, mk16 (rdRef (cutIn s)) 10, mk16 (rdRef (cutIn s)) 11, mk16 (rdRef (cutIn s)) 12, mk16 (rdRef (cutIn s)) 13, mk16 (rdRef (cutIn s)) 14, mk16 (rdRef (cutIn s)) 15].getD i [] : Nd } = s)) = true →
 (getB' s = true →
 sameVal Q0 Q1) ∧
 (getB' s = false →
 sameVal Q0 Q2)) ∧
 ((!decide (putT { k := (3 : Int), p := [], v := cutIn (itemAt (cutIn s) 16), r := fun (i : Nat) => [mk16 (rdRef (cutIn s)) 0, mk16 (rdRef (cutIn s)) 1, mk16 (rdRef (cutIn s)) 2, mk16 (rdRef (cutIn s)) 3, mk16 (rdRef (cutIn s)) 4, mk16 (rdRef (cutIn s)) 5, mk16 (rdRef (cutIn s)) 6, mk16 (rdRef (cutIn s)) 7, mk16 (rdRef (cutIn s)) 8, mk16 (rdRef (cutIn s)) 9, mk16 (rdRef (cutIn s)) 10, mk16 (rdRef (cutIn s)) 11, mk16 (rdRef (cutIn s)) 12, mk16 (rdRef (cutIn s)) 13, mk16 (rdRef (cutIn s)) 14, mk16 (rdRef (cutIn s)) 15].getD i [] : Nd } = s)) = false →
 (getB' s = true →
 sameVal (SV.tup [SV.agg [SV.int .i64 true 3, SV.str false [], SV.str false (cutIn (itemAt (cutIn s) 16)), SV.str false (mk16 (rdRef (cutIn s)) 0), SV.str false (mk16 (rdRef (cutIn s)) 1), SV.str false (mk16 (rdRef (cutIn s)) 2), SV.str false (mk16 (rdRef (cutIn s)) 3), SV.str false (mk16 (rdRef (cutIn s)) 4), SV.str false (mk16 (rdRef (cutIn s)) 5), SV.str false (mk16 (rdRef (cutIn s)) 6), SV.str false (mk16 (rdRef (cutIn s)) 7), SV.str false (mk16 (rdRef (cutIn s)) 8), SV.str false (mk16 (rdRef (cutIn s)) 9), SV.str false (mk16 (rdRef (cutIn s)) 10), SV.str false (mk16 (rdRef (cutIn s)) 11), SV.str false (mk16 (rdRef (cutIn s)) 12), SV.str false (mk16 (rdRef (cutIn s)) 13), SV.str false (mk16 (rdRef (cutIn s)) 14), SV.str false (mk16 (rdRef (cutIn s)) 15)], SV.int .i64 true 0]) Q1) ∧
 (getB' s = false →
 sameVal (SV.tup [SV.agg [SV.int .i64 true 3, SV.str false [], SV.str false (cutIn (itemAt (cutIn s) 16)), SV.str false (mk16 (rdRef (cutIn s)) 0), SV.str false (mk16 (rdRef (cutIn s)) 1), SV.str false (mk16 (rdRef (cutIn s)) 2), SV.str false (mk16 (rdRef (cutIn s)) 3), SV.str false (mk16 (rdRef (cutIn s)) 4), SV.str false (mk16 (rdRef (cutIn s)) 5), SV.str false (mk16 (rdRef (cutIn s)) 6), SV.str false (mk16 (rdRef (cutIn s)) 7), SV.str false (mk16 (rdRef (cutIn s)) 8), SV.str false (mk16 (rdRef (cutIn s)) 9), SV.str false (mk16 (rdRef (cutIn s)) 10), SV.str false (mk16 (rdRef (cutIn s)) 11), SV.str false (mk16 (rdRef (cutIn s)) 12), SV.str false (mk16 (rdRef (cutIn s)) 13), SV.str false (mk16 (rdRef (cutIn s)) 14), SV.str false (mk16 (rdRef (cutIn s)) 15)], SV.int .i64 true 0]) Q2)))) ∧
 (decide (shapeK s = (3 : Int)) = false →
 ∀ (_x : Nd), (getB' s = true →
 sameVal Q0 Q1) ∧
 (getB' s = false →
 sameVal Q0 Q2))))))) (SV.tup [zeroN, SV.int .i64 true 2]))) (SV.tup [(getD s).sv, SV.int .i64 true 0]))) (SV.tup [SV.agg [SV.int .i64 true 0, SV.str true [], SV.str true [], SV.str true [], SV.str true [], SV.str true [], SV.str true [], SV.str true [], SV.str true [], SV.str true [], SV.str true [], SV.str true [], SV.str true [], SV.str true [], SV.str true [], SV.str true [], SV.str true [], SV.str true [], SV.str true []], SV.int .i64 true 2])) := by kernel_rfl
theorem vcInline (L : Nat) (t : List UInt8) : VC.holds (runA (cfgN9 L) 18 Tryz.f18 [.str false t] (inlA t)) = ((fun Q0 : SV => ((decide ((32 : Int) ≤ (↑t.length : Int)) = true →
 (inlB t = true →
 sameVal Q0 (SV.tup [(getD t).sv, SV.bool true true])) ∧
 (inlB t = false →
 sameVal Q0 (SV.tup [zeroN, SV.bool true false]))) ∧
 (decide ((32 : Int) ≤ (↑t.length : Int)) = false →
 (t.length ≤ L ∧
 t.length < (1099511627776 : Nat)) ∧
 (getB' t = true →
 (decide ((getD t).k = (0 : Int)) = true →
 (inlB t = true →
 sameVal Q0 (SV.tup [(getD t).sv, SV.bool true true])) ∧
 (inlB t = false →
 sameVal Q0 (SV.tup [zeroN, SV.bool true false]))) ∧
 (decide ((getD t).k = (0 : Int)) = false →
 (inlB t = true →
 sameVal (SV.tup [SV.agg [SV.int .i64 false (getD t).k, SV.str false (getD t).p, SV.str false (getD t).v, SV.str false ((getD t).r 0), SV.str false ((getD t).r 1), SV.str false ((getD t).r 2), SV.str false ((getD t).r 3), SV.str false ((getD t).r 4), SV.str false ((getD t).r 5), SV.str false ((getD t).r 6), SV.str false ((getD t).r 7), SV.str false ((getD t).r 8), SV.str false ((getD t).r 9), SV.str false ((getD t).r 10), SV.str false ((getD t).r 11), SV.str false ((getD t).r 12), SV.str false ((getD t).r 13), SV.str false ((getD t).r 14), SV.str false ((getD t).r 15)], SV.bool true true]) (SV.tup [(getD t).sv, SV.bool true true])) ∧
 (inlB t = false →
 sameVal (SV.tup [SV.agg [SV.int .i64 false (getD t).k, SV.str false (getD t).p, SV.str false (getD t).v, SV.str false ((getD t).r 0), SV.str false ((getD t).r 1), SV.str false ((getD t).r 2), SV.str false ((getD t).r 3), SV.str false ((getD t).r 4), SV.str false ((getD t).r 5), SV.str false ((getD t).r 6), SV.str false ((getD t).r 7), SV.str false ((getD t).r 8), SV.str false ((getD t).r 9), SV.str false ((getD t).r 10), SV.str false ((getD t).r 11), SV.str false ((getD t).r 12), SV.str false ((getD t).r 13), SV.str false ((getD t).r 14), SV.str false ((getD t).r 15)], SV.bool true true]) (SV.tup [zeroN, SV.bool true false])))) ∧
 (getB' t = false →
 (inlB t = true →
 sameVal Q0 (SV.tup [(getD t).sv, SV.bool true true])) ∧
 (inlB t = false →
 sameVal Q0 (SV.tup [zeroN, SV.bool true false])))))) (SV.tup [SV.agg [SV.int .i64 true 0, SV.str true [], SV.str true [], SV.str true [], SV.str true [], SV.str true [], SV.str true [], SV.str true [], SV.str true [], SV.str true [], SV.str true [], SV.str true [], SV.str true [], SV.str true [], SV.str true [], SV.str true [], SV.str true [], SV.str true [], SV.str true []], SV.bool true false])) := by kernel_rfl
theorem vcInline0 (t : List UInt8) : VC.holds (runA cfgNo 18 Tryz.f18 [.str false t] (inlA t)) = ((decide ((32 : Int) ≤ (↑t.length : Int)) = true →
 (inlB t = true →
 sameVal (SV.tup [SV.agg [SV.int .i64 true 0, SV.str true [], SV.str true [], SV.str true [], SV.str true [], SV.str true [], SV.str true [], SV.str true [], SV.str true [], SV.str true [], SV.str true [], SV.str true [], SV.str true [], SV.str true [], SV.str true [], SV.str true [], SV.str true [], SV.str true [], SV.str true []], SV.bool true false]) (SV.tup [(getD t).sv, SV.bool true true])) ∧
 (inlB t = false →
 sameVal (SV.tup [SV.agg [SV.int .i64 true 0, SV.str true [], SV.str true [], SV.str true [], SV.str true [], SV.str true [], SV.str true [], SV.str true [], SV.str true [], SV.str true [], SV.str true [], SV.str true [], SV.str true [], SV.str true [], SV.str true [], SV.str true [], SV.str true [], SV.str true [], SV.str true []], SV.bool true false]) (SV.tup [zeroN, SV.bool true false]))) ∧
 (decide ((32 : Int) ≤ (↑t.length : Int)) = false →
 False)) := by kernel_rfl
end Go.Proofs.YtkfdcapnogklfaaGreatDoor
/-
  Node: which nodes may be: plain laws: a ref is shorter than what it is in; no text is long.
-/
namespace Go.Proofs.YtkfdcapnogklfaaGreatDoor
open Go Sx
set_option maxRecDepth 20000
theorem headOf_pos (b : Int) (n : Nat) : 1 ≤ (headOf b n).length := by
  unfold headOf
  split <;> simp
theorem list_lt {s : List UInt8} (h : cutB s = true) (hl : cutL s = true) : (cutIn s).length < s.length := by
  have := congrArg List.length (cut_only h)
  rw [hl] at this
  unfold againOf at this
  have hp := headOf_pos 192 (cutIn s).length
  simp only [cond_true, List.length_append] at this
  omega
theorem hash_len {t : List UInt8} (h : hashB t = true) : t.length = 33 := by
  obtain ⟨⟨h1, h2, h3⟩, h4⟩ := hash_iff.1 h
  have := congrArg List.length (cut_only h1)
  rw [h2, h3] at this
  unfold againOf textOf headOf at this
  simp only [cond_false, List.append_nil, h4] at this
  simp only [show ¬ ((32 : Nat) = 1 ∧ byteAt (cutIn t) 0 < 128) from by omega, if_false, List.length_append, h4] at this
  simpa using this.symm
theorem inlF_len {n : Nat} {t : List UInt8} (h : inlF n t = true) : t.length < 32 := by
  cases n with
  | zero => simp [inlF] at h
  | succ n =>
    simp only [inlF, Bool.and_eq_true, decide_eq_true_eq] at h
    exact h.1
theorem inl_len {t : List UInt8} (h : inlB t = true) : t.length < 32 := inlF_len h
theorem behindI_over {r : Nat → List UInt8} : ∀ {n j : Nat}, behindI r n ≤ (j : Int) → j < n → r j = []
  | 0, _, _, h => absurd h (Nat.not_lt_zero _)
  | n + 1, j, h, hj => by
    unfold behindI at h
    by_cases e : r n = []
    · rw [if_pos e] at h
      by_cases ej : j = n
      · subst ej; exact e
      · exact behindI_over h (by omega)
    · rw [if_neg e] at h; omega
theorem mays_get {inl : List UInt8 → Bool} {r : Nat → List UInt8} : ∀ {n j : Nat}, mays inl r n = true → j < n → r j = [] ∨ mayW inl (r j) = true
  | 0, _, _, h => absurd h (Nat.not_lt_zero _)
  | n + 1, j, h, hj => by
    simp only [mays, Bool.and_eq_true, Bool.or_eq_true, decide_eq_true_eq] at h
    by_cases ej : j = n
    · subst ej; exact h.2
    · exact mays_get h.1 (by omega)
theorem mays_not {inl : List UInt8 → Bool} {r : Nat → List UInt8} : ∀ {n j : Nat}, j < n → r j ≠ [] → mayW inl (r j) = false → mays inl r n = false
  | 0, _, h, _, _ => absurd h (Nat.not_lt_zero _)
  | n + 1, j, hj, h0, h1 => by
    simp only [mays]
    by_cases ej : j = n
    · subst ej
      rw [h1, show decide (r j = []) = false from decide_eq_false h0]; simp
    · rw [mays_not (n := n) (by omega) h0 h1]; rfl
theorem may_len {t : List UInt8} (h : mayW inlB t = true) : t.length ≤ 33 := by
  simp only [mayW, Bool.or_eq_true] at h
  rcases h with h | h
  · have := hash_len h; omega
  · have := inl_len h; omega
theorem path_len {x : Nd} {l : Int} (h : pathB x l = true) : x.p.length ≤ 12 := by
  simp only [pathB, Bool.and_eq_true, decide_eq_true_eq] at h
  omega
theorem leaf_parts {x : Nd} (h : leafB x = true) : x.p.length ≤ 12 ∧ x.v ≠ [] ∧ x.v.length ≤ 80 ∧ ∀ j, j < 16 → x.r j = [] := by
  simp only [leafB, Bool.and_eq_true, Bool.not_eq_true', decide_eq_true_eq, decide_eq_false_iff_not] at h
  obtain ⟨h1, h2, h3, h4⟩ := h
  exact ⟨path_len h1, h2, by omega, fun j hj => behindI_over (n := 16) (by omega) hj⟩
theorem ext_parts {x : Nd} {inl : List UInt8 → Bool} (h : extW inl x = true) : x.p.length ≤ 12 ∧ x.v = [] ∧ (∀ j, 1 ≤ j → j < 16 → x.r j = []) ∧ behindI x.r 16 = 1 ∧ (hashB (x.r 0) = true ∨ (inl (x.r 0) = true ∧ (getD (x.r 0)).k = 3)) := by
  simp only [extW, Bool.and_eq_true, Bool.or_eq_true, decide_eq_true_eq] at h
  obtain ⟨h1, h2, h3, h4⟩ := h
  exact ⟨path_len h1, h2, fun j h1 hj => behindI_over (n := 16) (by omega) hj, h3, h4⟩
theorem branch_parts {x : Nd} {inl : List UInt8 → Bool} (h : branchW inl x = true) : x.p = [] ∧ x.v.length ≤ 80 ∧ mays inl x.r 16 = true ∧ 2 ≤ min (x.v.length : Int) 1 + fullN x.r 16 := by
  simp only [branchW, Bool.and_eq_true, decide_eq_true_eq] at h
  obtain ⟨h1, h2, h3, h4⟩ := h
  exact ⟨h1, by omega, h3, h4⟩
theorem none_parts {x : Nd} (h : noneB x = true) : x.k = 0 ∧ x.p = [] ∧ x.v = [] ∧ ∀ j, j < 16 → x.r j = [] := by
  simp only [noneB, Bool.and_eq_true, decide_eq_true_eq, List.all_eq_true] at h
  exact ⟨h.1, h.2.1, h.2.2.1, fun j hj => h.2.2.2 j (List.mem_range.2 hj)⟩
theorem valid_cases {x : Nd} {inl : List UInt8 → Bool} (h : validW inl x = true) : (x.k = 0 ∧ noneB x = true) ∨ (x.k = 1 ∧ leafB x = true) ∨ (x.k = 2 ∧ extW inl x = true) ∨ (x.k = 3 ∧ branchW inl x = true) := by
  unfold validW at h
  split at h
  · exact .inl ⟨by assumption, h⟩
  · split at h
    · exact .inr (.inl ⟨by assumption, h⟩)
    · split at h
      · exact .inr (.inr (.inl ⟨by assumption, h⟩))
      · split at h
        · exact .inr (.inr (.inr ⟨by assumption, h⟩))
        · cases h
structure Nd.Short (x : Nd) : Prop where
  k : 0 ≤ x.k ∧ x.k ≤ 3
  p : x.p.length ≤ 12
  v : x.v.length ≤ 80
  r : ∀ j, j < 16 → x.r j = [] ∨ mayW inlB (x.r j) = true
theorem valid_short {x : Nd} (h : validB x = true) : x.Short := by
  rcases valid_cases h with ⟨hk, h⟩ | ⟨hk, h⟩ | ⟨hk, h⟩ | ⟨hk, h⟩
  · obtain ⟨_, h1, h2, h3⟩ := none_parts h
    exact ⟨by omega, by rw [h1]; simp, by rw [h2]; simp, fun j hj => .inl (h3 j hj)⟩
  · obtain ⟨h1, _, h2, h3⟩ := leaf_parts h
    exact ⟨by omega, h1, h2, fun j hj => .inl (h3 j hj)⟩
  · obtain ⟨h1, h2, h3, _, h4⟩ := ext_parts h
    refine ⟨by omega, h1, by rw [h2]; simp, fun j hj => ?_⟩
    by_cases e : j = 0
    · subst e
      refine .inr ?_
      simp only [mayW, Bool.or_eq_true]
      exact h4.imp id fun h => h.1
    · exact .inl (h3 j (by omega) hj)
  · obtain ⟨h1, h2, h3, _⟩ := branch_parts h
    exact ⟨by omega, by rw [h1]; simp, h2, fun j hj => mays_get h3 hj⟩
theorem Nd.Short.ref {x : Nd} (h : x.Short) (j : Nat) (hj : j < 16) : (x.r j).length ≤ 33 := by
  rcases h.r j hj with h | h
  · rw [h]; simp
  · exact may_len h
theorem Nd.Short.few {x : Nd} (h : x.Short) : x.Few := ⟨by have := h.p; omega, by have := h.v; omega, fun j hj => by have := h.ref j hj; omega⟩
/-! ### Fuel -/
theorem mays_congr {f g : List UInt8 → Bool} {r : Nat → List UInt8} : ∀ {n : Nat}, (∀ j, j < n → r j ≠ [] → f (r j) = g (r j)) → mays f r n = mays g r n
  | 0, _ => rfl
  | n + 1, h => by
    simp only [mays]
    rw [mays_congr fun j hj => h j (by omega)]
    by_cases e : r n = []
    · simp [e]
    · simp only [mayW, h n (by omega) e]
theorem valid_congr {f g : List UInt8 → Bool} {x : Nd} (h : ∀ j, j < 16 → x.r j ≠ [] → f (x.r j) = g (x.r j)) : validW f x = validW g x := by
  have e3 : branchW f x = branchW g x := by simp only [branchW, mays_congr h]
  have e2 : extW f x = extW g x := by
    by_cases e : x.r 0 = []
    · have hb : decide (behindI x.r 16 = 1) = false ∨ ∃ j, 1 ≤ j ∧ j < 16 ∧ x.r j ≠ [] := by
        by_cases hb : behindI x.r 16 = 1
        · exfalso
          have hz : ∀ n, n ≤ 16 → (∀ j, j < n → x.r j = []) → behindI x.r n = 0 := by
            intro n
            induction n with
            | zero => intro _ _; rfl
            | succ n ih => intro hn hj; rw [behindI, if_pos (hj n (by omega)), ih (by omega) fun j hj' => hj j (by omega)]
          have := hz 16 (by omega) fun j hj => by
            by_cases e0 : j = 0
            · subst e0; exact e
            · exact behindI_over (n := 16) (by omega) hj
          omega
        · exact .inl (decide_eq_false hb)
      by_cases hb : behindI x.r 16 = 1
      · rcases ‹_ ∨ _› with h1 | ⟨j, h1, h2, h3⟩
        · exact absurd hb (of_decide_eq_false h1)
        · exact absurd (behindI_over (n := 16) (by omega) h2) h3
      · simp only [extW, hb, decide_false, Bool.false_and, Bool.and_false]
    · simp only [extW, h 0 (by decide) e]
  simp only [validW, e2, e3]
theorem shape_list {s : List UInt8} (h : 1 ≤ shapeK s) : cutB s = true ∧ cutL s = true ∧ cutRest s = [] ∧ shapeK s = listK (cutIn s) := by
  unfold shapeK at h ⊢
  split at h
  · omega
  · rename_i hs
    cases h1 : cutB s <;> cases h2 : cutL s <;> cases h3 : decide (cutRest s = []) <;> simp only [h1, h2, h3, Bool.and_true, Bool.and_false, cond_false] at h <;> first
      | omega
      | exact ⟨rfl, rfl, of_decide_eq_true h3, by rw [if_neg hs]; rfl⟩
theorem refs_lt {s : List UInt8} (h : 0 ≤ shapeK s) (j : Nat) (hj : (getD s).r j ≠ []) : ((getD s).r j).length < s.length := by
  by_cases h1 : 1 ≤ shapeK s
  · obtain ⟨g1, g2, _, _⟩ := shape_list h1
    have hl := list_lt g1 g2
    have hit := itemAt_le (cutIn s)
    have key : ∀ (r : Nat → List UInt8), (∀ i, i < 16 → (r i).length ≤ (cutIn s).length) → (mk16 r j).length ≤ (cutIn s).length := by
      intro r hr
      by_cases h16 : j < 16
      · have : mk16 r j = r j := getD16 r j h16
        rw [this]; exact hr j h16
      · have : mk16 r j = [] := by
          unfold mk16 refs16
          rw [List.getD_eq_getElem?_getD, List.getElem?_eq_none (by simp; omega)]; rfl
        rw [this]; simp
    have e : ((getD s).r j).length ≤ (cutIn s).length := by
      unfold getD
      split
      · exact key noRefs fun i hi => by rw [show noRefs i = (fun _ => []) i from getD16 (fun _ => []) i hi]; simp
      · split
        · refine key (oneRef (itemAt (cutIn s) 1)) fun i hi => ?_
          have : oneRef (itemAt (cutIn s) 1) i = (fun i => if i = 0 then itemAt (cutIn s) 1 else []) i := getD16 (fun i => if i = 0 then itemAt (cutIn s) 1 else []) i hi
          rw [this]
          show (if i = 0 then itemAt (cutIn s) 1 else []).length ≤ _
          split
          · exact hit 1
          · simp
        · split
          · refine key (rdRef (cutIn s)) fun i _ => ?_
            unfold rdRef
            split
            · simp
            · exact hit i
          · exact key noRefs fun i hi => by rw [show noRefs i = (fun _ => []) i from getD16 (fun _ => []) i hi]; simp
    omega
  · exfalso
    apply hj
    have h0 : shapeK s = 0 := by omega
    unfold getD
    rw [if_neg (by omega), if_neg (by omega), if_neg (by omega)]
    show noRefs j = []
    by_cases h16 : j < 16
    · exact getD16 (fun _ => []) j h16
    · unfold noRefs refs16
      rw [List.getD_eq_getElem?_getD, List.getElem?_eq_none (by simp; omega)]; rfl
theorem getW_congr {f g : List UInt8 → Bool} {t : List UInt8} (h : ∀ r : List UInt8, r.length < t.length → f r = g r) : getW f t = getW g t := by
  unfold getW
  by_cases h0 : 0 ≤ shapeK t
  · rw [valid_congr (f := f) (g := g) fun j _ hr => h _ (refs_lt h0 j hr)]
  · rw [decide_eq_false h0]; rfl
theorem inlF_fuel : ∀ (n m : Nat) (t : List UInt8), t.length < n → t.length < m → inlF n t = inlF m t
  | 0, _, _, h, _ => absurd h (Nat.not_lt_zero _)
  | _, 0, _, _, h => absurd h (Nat.not_lt_zero _)
  | n + 1, m + 1, t, hn, hm => by
    simp only [inlF]
    rw [getW_congr (t := t) fun r hr => inlF_fuel n m r (by omega) (by omega)]
theorem inl_eq (t : List UInt8) : inlB t = (decide (t.length < 32) && (getB' t && !decide ((getD t).k = 0))) := by
  by_cases h : t.length < 32
  · unfold inlB getB'
    rw [show inlF 32 t = (decide (t.length < 32) && (getW (inlF 31) t && !decide ((getD t).k = 0))) from rfl]
    rw [getW_congr (t := t) (f := inlF 31) (g := inlB) fun r hr => inlF_fuel 31 32 r (by omega) (by omega)]
  · rw [decide_eq_false h, Bool.false_and]
    exact Bool.eq_false_iff.2 fun h' => h (inl_len h')
end Go.Proofs.YtkfdcapnogklfaaGreatDoor
/-
  Node: which nodes may be, the node that bytes are: the contracts.
-/
namespace Go.Proofs.YtkfdcapnogklfaaGreatDoor
open Go Sx
set_option maxRecDepth 20000
theorem nd_ok {f : FuncId} {fn : Func} (hf : Tryz.prog.funcs[f]? = some fn) (hn : (fn.name == "runtime.NumGoroutine") = false) (hb : fn.body.isSome = true) {g : Nd → Option (Prop × SV)}
    (H : ∀ x p v, g x = some (p, v) → p → ∃ cfg args', Sx.Good Tryz.prog cfg ∧ (∀ E, SV.vals E args' = SV.vals E [x.sv]) ∧ SV.wfs 0 args' = true ∧ v.wf 0 = true ∧ Holds (runP cfg f fn args' (fun u => sameVal u v))) : CallOk Tryz.prog f (purePT (ndSpec g)) := by
  refine pure_of_ans (ansW_ok (n := 20) hf hn hb ?_)
  intro args p a h hp
  obtain ⟨⟨p0, v0⟩, hq, hpa⟩ := Option.map_eq_some_iff.1 h
  obtain ⟨x, hx, hg⟩ := ndSpec_eq hq
  subst hx
  injection hpa with h1 h2; subst h1; subst h2
  obtain ⟨cfg, args', c1, c2, c3, c4, c5⟩ := H x _ _ hg hp
  exact ⟨cfg, args', c1, c2, c3, c4, c5⟩
theorem Nd.Few.kind {x : Nd} (h : x.Few) (k : Int) : Nd.Few { k := k, p := x.p, v := x.v, r := fun (i : Nat) => [x.r 0, x.r 1, x.r 2, x.r 3, x.r 4, x.r 5, x.r 6, x.r 7, x.r 8, x.r 9, x.r 10, x.r 11, x.r 12, x.r 13, x.r 14, x.r 15].getD i [] } :=
  ⟨h.p, h.v, fun j hj => by show ([x.r 0, x.r 1, x.r 2, x.r 3, x.r 4, x.r 5, x.r 6, x.r 7, x.r 8, x.r 9, x.r 10, x.r 11, x.r 12, x.r 13, x.r 14, x.r 15].getD j []).length ≤ 1000; rw [getD16 x.r j hj]; exact h.r j hj⟩
theorem svL_vals (x : Nd) {k : Int} (h : x.k = k) (E : Nat → Nat) : SV.vals E [x.svL true k] = SV.vals E [x.sv] := by
  subst h; rfl
theorem kinds4 {k : Int} (h : 0 ≤ k ∧ k ≤ 3) : k = 0 ∨ k = 1 ∨ k = 2 ∨ k = 3 := by omega
theorem ndtext_ok : CallOk Tryz.prog 23 (purePT (ndSpec fun x => some ((0 ≤ x.k ∧ x.k ≤ 3) ∧ x.Few, .str false (putT x)))) := by
  refine nd_ok Tryz.func23 (by kernel_rfl) (by kernel_rfl) fun x p v h hp => ?_
  injection h with h; injection h with h1 h2; subst h1; subst h2
  obtain ⟨hk, hf⟩ := hp
  rcases kinds4 hk with e | e | e | e
  · exact ⟨cfgN4, [x.svL true 0], goodN4, svL_vals x e, rfl, rfl, Holds.of_eq (vcText0 x _) ⟨trivial, fun E => by rw [putT, if_pos e]⟩⟩
  · exact ⟨cfgN4, [x.svL true 1], goodN4, svL_vals x e, rfl, rfl, Holds.of_eq (vcText1 x _) ⟨hf.kind 1, fun E => by rw [putT, if_neg (by omega), if_pos e]; rfl⟩⟩
  · exact ⟨cfgN4, [x.svL true 2], goodN4, svL_vals x e, rfl, rfl, Holds.of_eq (vcText2 x _) ⟨hf.kind 2, fun E => by rw [putT, if_neg (by omega), if_neg (by omega), if_pos e]; rfl⟩⟩
  · exact ⟨cfgN4, [x.svL true 3], goodN4, svL_vals x e, rfl, rfl, Holds.of_eq (vcText3 x _) ⟨hf.kind 3, fun E => by rw [putT, if_neg (by omega), if_neg (by omega), if_neg (by omega)]; rfl⟩⟩
section
variable {L : Nat} (hI : CallOk Tryz.prog 18 (ansPT (inlSpec L)))
include hI
theorem listN6_ok : SummOk Tryz.prog (fun f => lookPT f (listN6 L)) := .cons hI (ansPT_mono _) listN5_ok
theorem goodN6 : Sx.Good Tryz.prog (cfgN6 L) := ⟨mixes, listN6_ok hI, fns_ok⟩
theorem goodBr (x : Nd) : Sx.Good Tryz.prog (cfgBr L x) := ⟨mixes, listN6_ok hI, fns_ok⟩
theorem ext_ok : CallOk Tryz.prog 29 (purePT (ndSpec fun x => some (Rel L (x.r 0), .bool false (extW inlB x)))) := by
  refine nd_ok Tryz.func29 (by kernel_rfl) (by kernel_rfl) fun x p v h hp => ?_
  injection h with h; injection h with h1 h2; subst h1; subst h2
  refine ⟨cfgN6 L, [x.sv], goodN6 hI, fun E => rfl, rfl, rfl, Holds.of_eq (vcExt L x _) ?_⟩
  have e : pathB { k := x.k, p := x.p, v := x.v, r := fun (i : Nat) => [x.r 0, x.r 1, x.r 2, x.r 3, x.r 4, x.r 5, x.r 6, x.r 7, x.r 8, x.r 9, x.r 10, x.r 11, x.r 12, x.r 13, x.r 14, x.r 15].getD i [] : Nd } 1 = pathB x 1 := rfl
  rw [e, behindI_congr (getD16 x.r)]
  unfold extW
  have nn : ∀ {b : Bool}, (!b) = true → b = false := fun h => by simpa using h
  have nf : ∀ {b : Bool}, (!b) = false → b = true := fun h => by simpa using h
  refine ⟨trivial, fun a => bool_eq ?_, fun a => ⟨fun b => bool_eq ?_, fun b => ⟨trivial, fun c => bool_eq ?_, fun c => ⟨hp.2, fun d => bool_eq ?_, fun d => ⟨hp, fun f => bool_eq ?_, fun f => bool_eq ?_⟩⟩⟩⟩⟩
  · rw [nn a]; rfl
  · rw [nf a, nn b]; rfl
  · rw [nf a, nf b, nn c]; rfl
  · rw [nf a, nf b, nf c, d]; rfl
  · rw [nf a, nf b, nf c, d, f]; rfl
  · rw [nf a, nf b, nf c, d, f]; rfl
theorem branch_ok : CallOk Tryz.prog 30 (purePT (ndSpec fun x => some (RelR L x.r, .bool false (branchW inlB x)))) := by
  refine nd_ok Tryz.func30 (by kernel_rfl) (by kernel_rfl) fun x p v h hp => ?_
  injection h with h; injection h with h1 h2; subst h1; subst h2
  have hp : RelR L x.r := hp
  refine ⟨cfgBr L x, [x.sv], goodBr hI x, fun E => rfl, rfl, rfl, Holds.of_eq (vcBranch L x _) ?_⟩
  have nn : ∀ {b : Bool}, (!b) = true → b = false := fun h => by simpa using h
  have nf : ∀ {b : Bool}, (!b) = false → b = true := fun h => by simpa using h
  refine ⟨fun a => bool_eq ?_, fun a => ⟨fun b => bool_eq ?_, fun b R => ⟨⟨0, ⟨by omega, rfl⟩, rfl, cell1 (by simp [fullN]), SBle.refl _, SBle.refl _, SBle.refl _, SBle.refl _, trivial⟩, fun i hi => ⟨fun c => ?_, fun c => ?_⟩⟩⟩⟩
  · unfold branchW; rw [nn a]; rfl
  · have b := of_decide_eq_true b
    unfold branchW; rw [nf a, decide_eq_false (show ¬ (x.v.length : Int) ≤ 80 by omega)]; rfl
  · have c := of_decide_eq_true c
    have ei : i < 16 := by omega
    rw [Int.toNat_natCast, sel16 x.r ei]
    have hr := hp i ei
    have hfn : 0 ≤ fullN x.r i ∧ fullN x.r i ≤ i := by
      have : ∀ n, 0 ≤ fullN x.r n ∧ fullN x.r n ≤ n := by
        intro n
        induction n with
        | zero => exact ⟨Int.le_refl _, Int.le_refl _⟩
        | succ n ih => unfold fullN; split <;> omega
      exact this i
    refine ⟨by omega, fun d => ?_, fun d => ?_⟩
    · have d : ¬ x.r i = [] := of_decide_eq_false (nn d)
      have step : fullN x.r (i + 1) = fullN x.r i + 1 := by rw [fullN, if_neg d]
      refine ⟨rfl, hr.2, fun f => ⟨by omega, by omega, i + 1, ⟨⟨by omega, ?_⟩, by omega⟩, by omega, cell1 (by omega), SBle.refl _, SBle.refl _, SBle.refl _, SBle.refl _, trivial⟩, fun f => ⟨hr, fun g => ⟨by omega, by omega, i + 1, ⟨⟨by omega, ?_⟩, by omega⟩, by omega, cell1 (by omega), SBle.refl _, SBle.refl _, SBle.refl _, SBle.refl _, trivial⟩, fun g => bool_eq ?_⟩⟩
      · simp only [mays, hi.2, mayW, f, Bool.true_or, Bool.or_true, Bool.and_true]
      · simp only [mays, hi.2, mayW, g, Bool.or_true, Bool.and_true]
      · have hm : mays inlB x.r 16 = false := mays_not ei d (by rw [mayW, f, g]; rfl)
        unfold branchW
        rw [hm]; simp
    · have d : x.r i = [] := of_decide_eq_true (nf d)
      have step : fullN x.r (i + 1) = fullN x.r i := by rw [fullN, if_pos d]
      refine ⟨by omega, i + 1, ⟨⟨by omega, ?_⟩, by omega⟩, by omega, cell1 (by omega), SBle.refl _, SBle.refl _, SBle.refl _, SBle.refl _, trivial⟩
      simp only [mays, hi.2, d, decide_true, Bool.true_or, Bool.and_true]
  · have c := of_decide_eq_false c
    have hi1 := hi.1
    have e : i = 16 := by omega
    subst e
    have b := of_decide_eq_false b
    refine bool_eq ?_
    unfold branchW
    rw [nf a, hi.2, decide_eq_true (show (x.v.length : Int) ≤ 80 by omega)]; rfl
theorem listN7_ok : SummOk Tryz.prog (fun f => lookPT f (listN7 L)) := .cons (ext_ok hI) (purePT_mono _) (.cons (branch_ok hI) (purePT_mono _) listN5_ok)
theorem goodN7 : Sx.Good Tryz.prog (cfgN7 L) := ⟨mixes, listN7_ok hI, fns_ok⟩
theorem ndvalid_ok : CallOk Tryz.prog 10 (purePT (ndSpec fun x => some (RelR L x.r, .bool false (validB x)))) := by
  refine nd_ok Tryz.func10 (by kernel_rfl) (by kernel_rfl) fun x p v h hp => ?_
  injection h with h; injection h with h1 h2; subst h1; subst h2
  have hp : RelR L x.r := hp
  by_cases hk : 0 ≤ x.k ∧ x.k ≤ 3
  · have hm : RelR L (fun (i : Nat) => [x.r 0, x.r 1, x.r 2, x.r 3, x.r 4, x.r 5, x.r 6, x.r 7, x.r 8, x.r 9, x.r 10, x.r 11, x.r 12, x.r 13, x.r 14, x.r 15].getD i []) := fun j hj => by
      show Rel L ([x.r 0, x.r 1, x.r 2, x.r 3, x.r 4, x.r 5, x.r 6, x.r 7, x.r 8, x.r 9, x.r 10, x.r 11, x.r 12, x.r 13, x.r 14, x.r 15].getD j [])
      rw [getD16 x.r j hj]; exact hp j hj
    rcases kinds4 hk with e | e | e | e
    · refine ⟨cfgN7 L, [x.svL true 0], goodN7 hI, svL_vals x e, rfl, rfl, Holds.of_eq (vcValid0 L x _) ⟨trivial, bool_eq ?_⟩⟩
      rw [validB, validW, if_pos e]
      unfold noneB
      rw [e]
      congr 3
    · refine ⟨cfgN7 L, [x.svL true 1], goodN7 hI, svL_vals x e, rfl, rfl, Holds.of_eq (vcValid1 L x _) ⟨trivial, bool_eq ?_⟩⟩
      rw [validB, validW, if_neg (by omega), if_pos e]
      unfold leafB
      rw [behindI_congr (getD16 x.r)]; rfl
    · refine ⟨cfgN7 L, [x.svL true 2], goodN7 hI, svL_vals x e, rfl, rfl, Holds.of_eq (vcValid2 L x _) ⟨hp 0 (by decide), bool_eq ?_⟩⟩
      rw [validB, validW, if_neg (by omega), if_neg (by omega), if_pos e]
      unfold extW
      rw [behindI_congr (getD16 x.r)]; rfl
    · refine ⟨cfgN7 L, [x.svL true 3], goodN7 hI, svL_vals x e, rfl, rfl, Holds.of_eq (vcValid3 L x _) ⟨hm, bool_eq ?_⟩⟩
      rw [validB, validW, if_neg (by omega), if_neg (by omega), if_neg (by omega), if_pos e]
      unfold branchW
      have e1 : ∀ n, n ≤ 16 → mays inlB (fun (i : Nat) => [x.r 0, x.r 1, x.r 2, x.r 3, x.r 4, x.r 5, x.r 6, x.r 7, x.r 8, x.r 9, x.r 10, x.r 11, x.r 12, x.r 13, x.r 14, x.r 15].getD i []) n = mays inlB x.r n ∧ fullN (fun (i : Nat) => [x.r 0, x.r 1, x.r 2, x.r 3, x.r 4, x.r 5, x.r 6, x.r 7, x.r 8, x.r 9, x.r 10, x.r 11, x.r 12, x.r 13, x.r 14, x.r 15].getD i []) n = fullN x.r n := by
        intro n
        induction n with
        | zero => intro _; exact ⟨rfl, rfl⟩
        | succ n ih =>
          intro hn
          obtain ⟨i1, i2⟩ := ih (by omega)
          have g := getD16 x.r n (by omega)
          simp only [mays, fullN, i1, i2, g, and_self]
      obtain ⟨i1, i2⟩ := e1 16 (by omega)
      rw [i1, i2]
  · refine ⟨cfgN7 L, [x.sv], goodN7 hI, fun E => rfl, rfl, rfl, Holds.of_eq (vcValidS L x _) ?_⟩
    have hv : validB x = false := by rw [validB, validW, if_neg (by omega), if_neg (by omega), if_neg (by omega), if_neg (by omega)]
    rw [hv]
    exact ⟨fun _ _ => rfl, fun a => ⟨fun _ _ => rfl, fun b => absurd ⟨by have := of_decide_eq_false a; omega, by have := of_decide_eq_false b; omega⟩ hk⟩⟩
theorem listN8_ok : SummOk Tryz.prog (fun f => lookPT f (listN8 L)) := .cons (ndvalid_ok hI) (purePT_mono _) (.cons ndtext_ok (purePT_mono _) listN5_ok)
theorem goodN8 : Sx.Good Tryz.prog (cfgN8 L) := ⟨mixes, listN8_ok hI, fns_ok⟩
end
end Go.Proofs.YtkfdcapnogklfaaGreatDoor
/-
  Node: the node that bytes are; the node in a ref: the contracts.
-/
namespace Go.Proofs.YtkfdcapnogklfaaGreatDoor
open Go Sx
set_option maxRecDepth 20000
theorem shape_nil : ¬ 0 ≤ shapeK [] := by decide
theorem get_fit {L : Nat} {s : List UInt8} {X : Nd} (hX : getD s = X) (hk : 0 ≤ shapeK s) (hr : RelR L X.r) {V N : SV} (hV : sameVal V (.tup [X.sv, .int .i64 true 0])) (hN : sameVal N (.tup [zeroN, .int .i64 true 2])) :
    RelR L X.r ∧ ((!validB X) = true → (getB' s = true → sameVal N (.tup [(getD s).sv, .int .i64 true 0])) ∧ (getB' s = false → sameVal N (.tup [zeroN, .int .i64 true 2]))) ∧
      ((!validB X) = false → ((0 ≤ X.k ∧ X.k ≤ 3) ∧ X.Few) ∧ ((!decide (putT X = s)) = true → (getB' s = true → sameVal N (.tup [(getD s).sv, .int .i64 true 0])) ∧ (getB' s = false → sameVal N (.tup [zeroN, .int .i64 true 2]))) ∧
        ((!decide (putT X = s)) = false → (getB' s = true → sameVal V (.tup [(getD s).sv, .int .i64 true 0])) ∧ (getB' s = false → sameVal V (.tup [zeroN, .int .i64 true 2])))) := by
  have hB : getB' s = (validB X && decide (putT X = s)) := by
    unfold getB' getW
    rw [hX, decide_eq_true hk]; rfl
  refine ⟨hr, fun a => ?_, fun a => ?_⟩
  · have a : validB X = false := by simpa using a
    rw [hB, a]
    exact ⟨(fun h => by cases h), fun _ => hN⟩
  · have a : validB X = true := by simpa using a
    have hs := valid_short a
    refine ⟨⟨hs.k, hs.few⟩, fun b => ?_, fun b => ?_⟩
    · have b : decide (putT X = s) = false := by simpa using b
      rw [hB, a, b]
      exact ⟨(fun h => by cases h), fun _ => hN⟩
    · have b : decide (putT X = s) = true := by simpa using b
      rw [hB, a, b, hX]
      exact ⟨fun _ => hV, fun h => by cases h⟩
attribute [local irreducible] itemAt cutIn ngetP cutB cutRest rdRef
theorem lit_0 : ({ k := 0, p := [], v := [], r := fun (i : Nat) => [[], [], [], [], [], [], [], [], [], [], [], [], [], [], [], []].getD i [] } : Nd) = zeroNd := rfl
theorem litR_0 : (fun (i : Nat) => [[], [], [], [], [], [], [], [], [], [], [], [], [], [], [], []].getD i []) = (zeroNd).r := rfl
theorem lit_1 (s : List UInt8) : ({ k := 1, p := ngetP (cutIn (itemAt (cutIn s) 0)), v := cutIn (itemAt (cutIn s) 1), r := fun (i : Nat) => [noRefs 0, noRefs 1, noRefs 2, noRefs 3, noRefs 4, noRefs 5, noRefs 6, noRefs 7, noRefs 8, noRefs 9, noRefs 10, noRefs 11, noRefs 12, noRefs 13, noRefs 14, noRefs 15].getD i [] } : Nd) = rdLeaf s := rfl
theorem litR_1 (s : List UInt8) : (fun (i : Nat) => [noRefs 0, noRefs 1, noRefs 2, noRefs 3, noRefs 4, noRefs 5, noRefs 6, noRefs 7, noRefs 8, noRefs 9, noRefs 10, noRefs 11, noRefs 12, noRefs 13, noRefs 14, noRefs 15].getD i []) = (rdLeaf s).r := rfl
theorem lit_2 (s : List UInt8) : ({ k := 2, p := ngetP (cutIn (itemAt (cutIn s) 0)), v := [], r := fun (i : Nat) => [oneRef (itemAt (cutIn s) 1) 0, oneRef (itemAt (cutIn s) 1) 1, oneRef (itemAt (cutIn s) 1) 2, oneRef (itemAt (cutIn s) 1) 3, oneRef (itemAt (cutIn s) 1) 4, oneRef (itemAt (cutIn s) 1) 5, oneRef (itemAt (cutIn s) 1) 6, oneRef (itemAt (cutIn s) 1) 7, oneRef (itemAt (cutIn s) 1) 8, oneRef (itemAt (cutIn s) 1) 9, oneRef (itemAt (cutIn s) 1) 10, oneRef (itemAt (cutIn s) 1) 11, oneRef (itemAt (cutIn s) 1) 12, oneRef (itemAt (cutIn s) 1) 13, oneRef (itemAt (cutIn s) 1) 14, oneRef (itemAt (cutIn s) 1) 15].getD i [] } : Nd) = rdExt s := rfl
theorem litR_2 (s : List UInt8) : (fun (i : Nat) => [oneRef (itemAt (cutIn s) 1) 0, oneRef (itemAt (cutIn s) 1) 1, oneRef (itemAt (cutIn s) 1) 2, oneRef (itemAt (cutIn s) 1) 3, oneRef (itemAt (cutIn s) 1) 4, oneRef (itemAt (cutIn s) 1) 5, oneRef (itemAt (cutIn s) 1) 6, oneRef (itemAt (cutIn s) 1) 7, oneRef (itemAt (cutIn s) 1) 8, oneRef (itemAt (cutIn s) 1) 9, oneRef (itemAt (cutIn s) 1) 10, oneRef (itemAt (cutIn s) 1) 11, oneRef (itemAt (cutIn s) 1) 12, oneRef (itemAt (cutIn s) 1) 13, oneRef (itemAt (cutIn s) 1) 14, oneRef (itemAt (cutIn s) 1) 15].getD i []) = (rdExt s).r := rfl
theorem lit_3 (s : List UInt8) : ({ k := 3, p := [], v := cutIn (itemAt (cutIn s) 16), r := fun (i : Nat) => [mk16 (rdRef (cutIn s)) 0, mk16 (rdRef (cutIn s)) 1, mk16 (rdRef (cutIn s)) 2, mk16 (rdRef (cutIn s)) 3, mk16 (rdRef (cutIn s)) 4, mk16 (rdRef (cutIn s)) 5, mk16 (rdRef (cutIn s)) 6, mk16 (rdRef (cutIn s)) 7, mk16 (rdRef (cutIn s)) 8, mk16 (rdRef (cutIn s)) 9, mk16 (rdRef (cutIn s)) 10, mk16 (rdRef (cutIn s)) 11, mk16 (rdRef (cutIn s)) 12, mk16 (rdRef (cutIn s)) 13, mk16 (rdRef (cutIn s)) 14, mk16 (rdRef (cutIn s)) 15].getD i [] } : Nd) = rdBranch s := rfl
theorem litR_3 (s : List UInt8) : (fun (i : Nat) => [mk16 (rdRef (cutIn s)) 0, mk16 (rdRef (cutIn s)) 1, mk16 (rdRef (cutIn s)) 2, mk16 (rdRef (cutIn s)) 3, mk16 (rdRef (cutIn s)) 4, mk16 (rdRef (cutIn s)) 5, mk16 (rdRef (cutIn s)) 6, mk16 (rdRef (cutIn s)) 7, mk16 (rdRef (cutIn s)) 8, mk16 (rdRef (cutIn s)) 9, mk16 (rdRef (cutIn s)) 10, mk16 (rdRef (cutIn s)) 11, mk16 (rdRef (cutIn s)) 12, mk16 (rdRef (cutIn s)) 13, mk16 (rdRef (cutIn s)) 14, mk16 (rdRef (cutIn s)) 15].getD i []) = (rdBranch s).r := rfl
theorem shape_le (s : List UInt8) : shapeK s ≤ 3 := by
  have hp : pairK (cutIn s) ≤ 3 := by
    unfold pairK
    cases (plainB (itemAt (cutIn s) 0) && ngetB (cutIn (itemAt (cutIn s) 0))) <;> cases ngetLeaf (cutIn (itemAt (cutIn s) 0)) <;> cases plainB (itemAt (cutIn s) 1) <;> decide
  have hl : listK (cutIn s) ≤ 3 := by
    unfold listK
    cases itemsB (cutIn s) with
    | false => show (-1 : Int) ≤ 3; decide
    | true =>
      simp only [cond_true]
      split
      · exact hp
      · split
        · cases plainB (itemAt (cutIn s) 16) <;> decide
        · decide
  unfold shapeK
  split
  · decide
  · cases (cutB s && (cutL s && decide (cutRest s = []))) with
    | false => show (-1 : Int) ≤ 3; decide
    | true => exact hl
theorem get_no {s : List UInt8} (hk : ¬ 0 ≤ shapeK s) : getB' s = false := by
  unfold getB' getW
  rw [decide_eq_false hk]; rfl
theorem rel_lt {L : Nat} {s : List UInt8} (hs : s.length ≤ L ∧ s.length < 1099511627776) (hk : 0 ≤ shapeK s) : RelR L (getD s).r := by
  intro j _
  by_cases e : (getD s).r j = []
  · rw [e]
    have hp : 0 < s.length := by
      cases s with
      | nil => exact absurd hk shape_nil
      | cons a r => simp
    exact ⟨.inl (by simp; omega), by simp⟩
  · have := refs_lt hk j e
    exact ⟨.inl (by omega), by omega⟩
section
variable {L : Nat} (hI : CallOk Tryz.prog 18 (ansPT (inlSpec L)))
include hI
theorem nodeGet_ok : CallOk Tryz.prog 14 (ansPT (getSpec' L)) := by
  refine ans_ok (n := 20) (fn := Tryz.f14) Tryz.func14 (by kernel_rfl) (by kernel_rfl) ?_
  intro args p a h hp
  unfold getSpec' at h
  split at h
  · rename_i s
    injection h with h; injection h with h1 h2; subst h1; subst h2
    refine ⟨cfgN8 L, goodN8 hI, rfl, fun b => by cases b <;> exact rfl, Holds.of_eq (vcNodeGet L s) ?_⟩
    have hp : s.length ≤ L ∧ s.length < 1099511627776 := hp
    have hN : sameVal (SV.tup [zeroN, .int .i64 true 2]) (.tup [zeroN, .int .i64 true 2]) := fun _ => rfl
    refine ⟨hp.2, fun a => ?_, fun a => ⟨fun b => ?_, fun b => ⟨fun c => ?_, fun c => ⟨fun d => ?_, fun d => ?_⟩⟩⟩⟩
    · have a : shapeK s = 0 := of_decide_eq_true a
      have hX : getD s = zeroNd := by unfold getD; rw [if_neg (by omega), if_neg (by omega), if_neg (by omega)]
      have hr := rel_lt hp (by omega : 0 ≤ shapeK s)
      rw [hX] at hr
      rw [lit_0, litR_0]
      exact get_fit (L := L) (X := zeroNd) hX (by omega) hr (V := .tup [zeroN, .int .i64 true 0]) (fun _ => rfl) hN
    · have b : shapeK s = 1 := of_decide_eq_true b
      have hX : getD s = rdLeaf s := by unfold getD; rw [if_pos b]
      have hr := rel_lt hp (by omega : 0 ≤ shapeK s)
      rw [hX] at hr
      rw [lit_1 s, litR_1 s]
      exact get_fit (L := L) (X := rdLeaf s) hX (by omega) hr (V := .tup [(rdLeaf s).svL true 1, .int .i64 true 0]) (fun _ => rfl) hN
    · have c : shapeK s = 2 := of_decide_eq_true c
      have hX : getD s = rdExt s := by unfold getD; rw [if_neg (by omega), if_pos c]
      have hr := rel_lt hp (by omega : 0 ≤ shapeK s)
      rw [hX] at hr
      rw [lit_2 s, litR_2 s]
      exact get_fit (L := L) (X := rdExt s) hX (by omega) hr (V := .tup [(rdExt s).svL true 2, .int .i64 true 0]) (fun _ => rfl) hN
    · have d : shapeK s = 3 := of_decide_eq_true d
      have hX : getD s = rdBranch s := by unfold getD; rw [if_neg (by omega), if_neg (by omega), if_pos d]
      have hr := rel_lt hp (by omega : 0 ≤ shapeK s)
      rw [hX] at hr
      rw [lit_3 s, litR_3 s]
      exact get_fit (L := L) (X := rdBranch s) hX (by omega) hr (V := .tup [(rdBranch s).svL true 3, .int .i64 true 0]) (fun _ => rfl) hN
    · have a := of_decide_eq_false a
      have b := of_decide_eq_false b
      have c := of_decide_eq_false c
      have d := of_decide_eq_false d
      have hk : ¬ 0 ≤ shapeK s := fun h0 => by
        have := shape_le s
        omega
      exact fun x => ⟨(fun h => by rw [get_no hk] at h; cases h), fun _ => hN⟩
  · cases h
theorem inline_ok : CallOk Tryz.prog 18 (ansPT (inlSpec (L + 1))) := by
  refine ans_ok (n := 20) (fn := Tryz.f18) Tryz.func18 (by kernel_rfl) (by kernel_rfl) ?_
  intro args p a h hp
  unfold inlSpec at h
  split at h
  · rename_i t
    injection h with h; injection h with h1 h2; subst h1; subst h2
    refine ⟨cfgN9 L, ⟨mixes, SummOk.cons (nodeGet_ok hI) (ansPT_mono _) listN5_ok, fns_ok⟩, rfl, fun b => by cases b <;> exact rfl, Holds.of_eq (vcInline L t) ?_⟩
    have hp : Rel (L + 1) t := hp
    have hN : sameVal (SV.tup [zeroN, .bool true false]) (.tup [zeroN, .bool true false]) := fun _ => rfl
    refine ⟨fun a => ⟨fun b => ?_, fun _ => hN⟩, fun a => ⟨?_, fun b => ⟨fun c => ⟨fun d => ?_, fun _ => hN⟩, fun c => ⟨fun d => fun _ => rfl, fun d => ?_⟩⟩, fun b => ⟨fun d => ?_, fun _ => hN⟩⟩⟩
    · have a := of_decide_eq_true a
      have := inl_len b
      omega
    · have a := of_decide_eq_false a
      rcases hp.1 with h | h <;> omega
    · rw [inl_eq, c] at d
      simp at d
    · have a := of_decide_eq_false a
      rw [inl_eq, b, c, decide_eq_true (show t.length < 32 by omega)] at d
      simp at d
    · rw [inl_eq, b] at d
      simp at d
  · cases h
end
theorem inline_0 : CallOk Tryz.prog 18 (ansPT (inlSpec 0)) := by
  refine ans_ok (n := 20) (fn := Tryz.f18) Tryz.func18 (by kernel_rfl) (by kernel_rfl) ?_
  intro args p a h hp
  unfold inlSpec at h
  split at h
  · rename_i t
    injection h with h; injection h with h1 h2; subst h1; subst h2
    have hp : Rel 0 t := hp
    have h32 : 32 ≤ t.length := by rcases hp.1 with h | h; exact absurd h (Nat.not_lt_zero _); exact h
    refine ⟨cfgNo, goodNo, rfl, fun b => by cases b <;> exact rfl, Holds.of_eq (vcInline0 t) ?_⟩
    have hN : sameVal (SV.tup [zeroN, .bool true false]) (.tup [zeroN, .bool true false]) := fun _ => rfl
    refine ⟨fun a => ⟨fun b => ?_, fun _ => hN⟩, fun a => ?_⟩
    · have := inl_len b
      omega
    · have a := of_decide_eq_false a
      omega
  · cases h
theorem inline_all : ∀ L, CallOk Tryz.prog 18 (ansPT (inlSpec L))
  | 0 => inline_0
  | L + 1 => inline_ok (inline_all L)
end Go.Proofs.YtkfdcapnogklfaaGreatDoor
