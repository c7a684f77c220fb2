/-
  Conditions that the executor computes, written out by a program (vcgen.py).
-/
import Derived.Test.YtoalfimkkibpdaaGreatDoorMu
import Derived.Test.YtoalfimkkibpdaaGreatDoorMn
import Derived.Test.YtoalfimkkibpdaaGreatDoorMs
import Derived.Test.YtoalfimkkibpdaaGreatDoorMp
import Derived.Test.YtoalfimkkibpdaaGreatDoorMk
namespace Go.Proofs.YtoalfimkkibpdaaGreatDoor
open Go Sx
set_option maxRecDepth 20000
theorem vcNodePut (x : Nd) : VC.holds (runA cfgF1 127 Tryz.f127 [x.sv] (putA x)) = ((RelR 9223372036854775808 fun (i : Nat) => [x.r 0, x.r 1, x.r 2, x.r 3, x.r 4, x.r 5, x.r 6, x.r 7, x.r 8, x.r 9, x.r 10, x.r 11, x.r 12, x.r 13, x.r 14, x.r 15].getD i []) ∧
 ((!validB { k := x.k, p := x.p, v := x.v, r := fun (i : Nat) => [x.r 0, x.r 1, x.r 2, x.r 3, x.r 4, x.r 5, x.r 6, x.r 7, x.r 8, x.r 9, x.r 10, x.r 11, x.r 12, x.r 13, x.r 14, x.r 15].getD i [] : Nd }) = true →
 (validB x = true →
 sameVal (SV.tup [SV.str true [], SV.int .i64 true 1]) (SV.tup [SV.str false (putT x), SV.int .i64 true 0])) ∧
 (validB x = false →
 sameVal (SV.tup [SV.str true [], SV.int .i64 true 1]) (SV.tup [SV.str true [], SV.int .i64 true 1]))) ∧
 ((!validB { k := x.k, p := x.p, v := x.v, r := fun (i : Nat) => [x.r 0, x.r 1, x.r 2, x.r 3, x.r 4, x.r 5, x.r 6, x.r 7, x.r 8, x.r 9, x.r 10, x.r 11, x.r 12, x.r 13, x.r 14, x.r 15].getD i [] : Nd }) = false →
 (((0 : Int) ≤ x.k ∧
 x.k ≤ (3 : Int)) ∧
 { k := x.k, p := x.p, v := x.v, r := fun (i : Nat) => [x.r 0, x.r 1, x.r 2, x.r 3, x.r 4, x.r 5, x.r 6, x.r 7, x.r 8, x.r 9, x.r 10, x.r 11, x.r 12, x.r 13, x.r 14, x.r 15].getD i [] : Nd }.Few) ∧
 (validB x = true →
 sameVal (SV.tup [SV.str false (putT { k := x.k, p := x.p, v := x.v, r := fun (i : Nat) => [x.r 0, x.r 1, x.r 2, x.r 3, x.r 4, x.r 5, x.r 6, x.r 7, x.r 8, x.r 9, x.r 10, x.r 11, x.r 12, x.r 13, x.r 14, x.r 15].getD i [] : Nd }), SV.int .i64 true 0]) (SV.tup [SV.str false (putT x), SV.int .i64 true 0])) ∧
 (validB x = false →
 sameVal (SV.tup [SV.str false (putT { k := x.k, p := x.p, v := x.v, r := fun (i : Nat) => [x.r 0, x.r 1, x.r 2, x.r 3, x.r 4, x.r 5, x.r 6, x.r 7, x.r 8, x.r 9, x.r 10, x.r 11, x.r 12, x.r 13, x.r 14, x.r 15].getD i [] : Nd }), SV.int .i64 true 0]) (SV.tup [SV.str true [], SV.int .i64 true 1])))) := by kernel_rfl
theorem vcRef (s : List UInt8) (R : SV → Prop) : VC.holds (runP cfgF1 159 Tryz.f159 [.str false s] R) = ((decide ((↑s.length : Int) < (32 : Int)) = true →
 R (SV.str false s)) ∧
 (decide ((↑s.length : Int) < (32 : Int)) = false →
 (True ∧
 ofQ [s]) ∧
 (32 : Nat) < (1152921504606846976 : Nat) ∧
 R (SV.str false (textOf (shaL (flat [s])))))) := by kernel_rfl
theorem vcNear (L : Nat) (x : Nd) (R : SV → Prop) : VC.holds (runP (cfgNear L) 131 Tryz.f131 [x.sv] R) = ((fun Q0 : SB => ((RelR 9223372036854775808 fun (i : Nat) => [x.r 0, x.r 1, x.r 2, x.r 3, x.r 4, x.r 5, x.r 6, x.r 7, x.r 8, x.r 9, x.r 10, x.r 11, x.r 12, x.r 13, x.r 14, x.r 15].getD i []) ∧
 ((!validB { k := x.k, p := x.p, v := x.v, r := fun (i : Nat) => [x.r 0, x.r 1, x.r 2, x.r 3, x.r 4, x.r 5, x.r 6, x.r 7, x.r 8, x.r 9, x.r 10, x.r 11, x.r 12, x.r 13, x.r 14, x.r 15].getD i [] : Nd }) = true →
 R SV.nilslc) ∧
 ((!validB { k := x.k, p := x.p, v := x.v, r := fun (i : Nat) => [x.r 0, x.r 1, x.r 2, x.r 3, x.r 4, x.r 5, x.r 6, x.r 7, x.r 8, x.r 9, x.r 10, x.r 11, x.r 12, x.r 13, x.r 14, x.r 15].getD i [] : Nd }) = false →
 ∀ (R_1 : Loop), (∃ (y : Nat), y ≤ (16 : Nat) ∧
 (0 : Int) = (↑y : Int) ∧
 SBle (SB.loop LoopState.ready none R_1) (SB.loop LoopState.ready none R_1) ∧
 SBle Q0 Q0 ∧
 SBle (SB.cells SV.nilslc.cells 1 22) (SB.cells SV.nilslc.cells 1 22) ∧
 SBle (SB.cells x.sv.cells 19 116) (SB.cells x.sv.cells 19 116) ∧
 True) ∧
 ∀ (x_2 : Nat), x_2 ≤ (16 : Nat) →
 (decide ((↑x_2 : Int) < (16 : Int)) = true →
 ((0 : Int) ≤ (↑x_2 : Int) ∧
 (↑x_2 : Int) < (16 : Int) ∧
 (↑x_2 : Int) < (↑(16 : Nat) : Int)) ∧
 ((!decide (selS [x.r 0, x.r 1, x.r 2, x.r 3, x.r 4, x.r 5, x.r 6, x.r 7, x.r 8, x.r 9, x.r 10, x.r 11, x.r 12, x.r 13, x.r 14, x.r 15] (↑x_2 : Int).toNat = [])) = true →
 R_1 = R_1 ∧
 (selS [x.r 0, x.r 1, x.r 2, x.r 3, x.r 4, x.r 5, x.r 6, x.r 7, x.r 8, x.r 9, x.r 10, x.r 11, x.r 12, x.r 13, x.r 14, x.r 15] (↑x_2 : Int).toNat).length < (9223372036854775808 : Nat) ∧
 (hashB (selS [x.r 0, x.r 1, x.r 2, x.r 3, x.r 4, x.r 5, x.r 6, x.r 7, x.r 8, x.r 9, x.r 10, x.r 11, x.r 12, x.r 13, x.r 14, x.r 15] (↑x_2 : Int).toNat) = true →
 ∀ (c : Nat), (1 : Nat) ≤ c →
 ((-9223372036854775808 : Int) ≤ (↑x_2 : Int) + (1 : Int) ∧
 (↑x_2 : Int) + (1 : Int) ≤ (9223372036854775807 : Int)) ∧
 ∃ (y : Nat), (y ≤ (16 : Nat) ∧
 (16 : Nat) - y < (16 : Nat) - x_2) ∧
 (↑x_2 : Int) + (1 : Int) = (↑y : Int) ∧
 SBle (SB.loop LoopState.ready none R_1) (SB.loop LoopState.ready none R_1) ∧
 SBle Q0 Q0 ∧
 SBle (SB.cells [SV.slc ((0 : Nat) + (1 : Nat) + (1 : Nat) + (1 : Nat) + (1 : Nat) + (0 : Nat) + (1 : Nat)) 0 1 false c] 1 22) (SB.cells [SV.nilslc] 1 22) ∧
 SBle (SB.cells x.sv.cells 19 116) (SB.cells x.sv.cells 19 116) ∧
 True) ∧
 (hashB (selS [x.r 0, x.r 1, x.r 2, x.r 3, x.r 4, x.r 5, x.r 6, x.r 7, x.r 8, x.r 9, x.r 10, x.r 11, x.r 12, x.r 13, x.r 14, x.r 15] (↑x_2 : Int).toNat) = false →
 Rel 9223372036854775808 (selS [x.r 0, x.r 1, x.r 2, x.r 3, x.r 4, x.r 5, x.r 6, x.r 7, x.r 8, x.r 9, x.r 10, x.r 11, x.r 12, x.r 13, x.r 14, x.r 15] (↑x_2 : Int).toNat) ∧
 (inlB (selS [x.r 0, x.r 1, x.r 2, x.r 3, x.r 4, x.r 5, x.r 6, x.r 7, x.r 8, x.r 9, x.r 10, x.r 11, x.r 12, x.r 13, x.r 14, x.r 15] (↑x_2 : Int).toNat) = true →
 Near L { k := (getD (selS [x.r 0, x.r 1, x.r 2, x.r 3, x.r 4, x.r 5, x.r 6, x.r 7, x.r 8, x.r 9, x.r 10, x.r 11, x.r 12, x.r 13, x.r 14, x.r 15] (↑x_2 : Int).toNat)).k, p := (getD (selS [x.r 0, x.r 1, x.r 2, x.r 3, x.r 4, x.r 5, x.r 6, x.r 7, x.r 8, x.r 9, x.r 10, x.r 11, x.r 12, x.r 13, x.r 14, x.r 15] (↑x_2 : Int).toNat)).p, v := (getD (selS [x.r 0, x.r 1, x.r 2, x.r 3, x.r 4, x.r 5, x.r 6, x.r 7, x.r 8, x.r 9, x.r 10, x.r 11, x.r 12, x.r 13, x.r 14, x.r 15] (↑x_2 : Int).toNat)).v, r := fun (i : Nat) => [(getD (selS [x.r 0, x.r 1, x.r 2, x.r 3, x.r 4, x.r 5, x.r 6, x.r 7, x.r 8, x.r 9, x.r 10, x.r 11, x.r 12, x.r 13, x.r 14, x.r 15] (↑x_2 : Int).toNat)).r 0, (getD (selS [x.r 0, x.r 1, x.r 2, x.r 3, x.r 4, x.r 5, x.r 6, x.r 7, x.r 8, x.r 9, x.r 10, x.r 11, x.r 12, x.r 13, x.r 14, x.r 15] (↑x_2 : Int).toNat)).r 1, (getD (selS [x.r 0, x.r 1, x.r 2, x.r 3, x.r 4, x.r 5, x.r 6, x.r 7, x.r 8, x.r 9, x.r 10, x.r 11, x.r 12, x.r 13, x.r 14, x.r 15] (↑x_2 : Int).toNat)).r 2, (getD (selS [x.r 0, x.r 1, x.r 2, x.r 3, x.r 4, x.r 5, x.r 6, x.r 7, x.r 8, x.r 9, x.r 10, x.r 11, x.r 12, x.r 13, x.r 14, x.r 15] (↑x_2 : Int).toNat)).r 3, (getD (selS [x.r 0, x.r 1, x.r 2, x.r 3, x.r 4, x.r 5, x.r 6, x.r 7, x.r 8, x.r 9, x.r 10, x.r 11, x.r 12, x.r 13, x.r 14, x.r 15] (↑x_2 : Int).toNat)).r 4, (getD (selS [x.r 0, x.r 1, x.r 2, x.r 3, x.r 4, x.r 5, x.r 6, x.r 7, x.r 8, x.r 9, x.r 10, x.r 11, x.r 12, x.r 13, x.r 14, x.r 15] (↑x_2 : Int).toNat)).r 5, (getD (selS [x.r 0, x.r 1, x.r 2, x.r 3, x.r 4, x.r 5, x.r 6, x.r 7, x.r 8, x.r 9, x.r 10, x.r 11, x.r 12, x.r 13, x.r 14, x.r 15] (↑x_2 : Int).toNat)).r 6, (getD (selS [x.r 0, x.r 1, x.r 2, x.r 3, x.r 4, x.r 5, x.r 6, x.r 7, x.r 8, x.r 9, x.r 10, x.r 11, x.r 12, x.r 13, x.r 14, x.r 15] (↑x_2 : Int).toNat)).r 7, (getD (selS [x.r 0, x.r 1, x.r 2, x.r 3, x.r 4, x.r 5, x.r 6, x.r 7, x.r 8, x.r 9, x.r 10, x.r 11, x.r 12, x.r 13, x.r 14, x.r 15] (↑x_2 : Int).toNat)).r 8, (getD (selS [x.r 0, x.r 1, x.r 2, x.r 3, x.r 4, x.r 5, x.r 6, x.r 7, x.r 8, x.r 9, x.r 10, x.r 11, x.r 12, x.r 13, x.r 14, x.r 15] (↑x_2 : Int).toNat)).r 9, (getD (selS [x.r 0, x.r 1, x.r 2, x.r 3, x.r 4, x.r 5, x.r 6, x.r 7, x.r 8, x.r 9, x.r 10, x.r 11, x.r 12, x.r 13, x.r 14, x.r 15] (↑x_2 : Int).toNat)).r 10, (getD (selS [x.r 0, x.r 1, x.r 2, x.r 3, x.r 4, x.r 5, x.r 6, x.r 7, x.r 8, x.r 9, x.r 10, x.r 11, x.r 12, x.r 13, x.r 14, x.r 15] (↑x_2 : Int).toNat)).r 11, (getD (selS [x.r 0, x.r 1, x.r 2, x.r 3, x.r 4, x.r 5, x.r 6, x.r 7, x.r 8, x.r 9, x.r 10, x.r 11, x.r 12, x.r 13, x.r 14, x.r 15] (↑x_2 : Int).toNat)).r 12, (getD (selS [x.r 0, x.r 1, x.r 2, x.r 3, x.r 4, x.r 5, x.r 6, x.r 7, x.r 8, x.r 9, x.r 10, x.r 11, x.r 12, x.r 13, x.r 14, x.r 15] (↑x_2 : Int).toNat)).r 13, (getD (selS [x.r 0, x.r 1, x.r 2, x.r 3, x.r 4, x.r 5, x.r 6, x.r 7, x.r 8, x.r 9, x.r 10, x.r 11, x.r 12, x.r 13, x.r 14, x.r 15] (↑x_2 : Int).toNat)).r 14, (getD (selS [x.r 0, x.r 1, x.r 2, x.r 3, x.r 4, x.r 5, x.r 6, x.r 7, x.r 8, x.r 9, x.r 10, x.r 11, x.r 12, x.r 13, x.r 14, x.r 15] (↑x_2 : Int).toNat)).r 15].getD i [] : Nd } ∧
 some (SB.cells SV.nilslc.cells 1 22) = some (SB.cells SV.nilslc.cells 1 22) ∧
 ((-9223372036854775808 : Int) ≤ (↑x_2 : Int) + (1 : Int) ∧
 (↑x_2 : Int) + (1 : Int) ≤ (9223372036854775807 : Int)) ∧
 ∃ (y : Nat), (y ≤ (16 : Nat) ∧
 (16 : Nat) - y < (16 : Nat) - x_2) ∧
 (↑x_2 : Int) + (1 : Int) = (↑y : Int) ∧
 SBle (SB.loop LoopState.ready none R_1) (SB.loop LoopState.ready none R_1) ∧
 SBle Q0 Q0 ∧
 SBle (SB.cells [SV.nilslc] 1 22) (SB.cells [SV.nilslc] 1 22) ∧
 SBle (SB.cells x.sv.cells 19 116) (SB.cells x.sv.cells 19 116) ∧
 True) ∧
 (inlB (selS [x.r 0, x.r 1, x.r 2, x.r 3, x.r 4, x.r 5, x.r 6, x.r 7, x.r 8, x.r 9, x.r 10, x.r 11, x.r 12, x.r 13, x.r 14, x.r 15] (↑x_2 : Int).toNat) = false →
 Near L { k := (0 : Int), p := [], v := [], r := fun (i : Nat) => [[], [], [], [], [], [], [], [], [], [], [], [], [], [], [], []].getD i [] : Nd } ∧
 some (SB.cells SV.nilslc.cells 1 22) = some (SB.cells SV.nilslc.cells 1 22) ∧
 ((-9223372036854775808 : Int) ≤ (↑x_2 : Int) + (1 : Int) ∧
 (↑x_2 : Int) + (1 : Int) ≤ (9223372036854775807 : Int)) ∧
 ∃ (y : Nat), (y ≤ (16 : Nat) ∧
 (16 : Nat) - y < (16 : Nat) - x_2) ∧
 (↑x_2 : Int) + (1 : Int) = (↑y : Int) ∧
 SBle (SB.loop LoopState.ready none R_1) (SB.loop LoopState.ready none R_1) ∧
 SBle Q0 Q0 ∧
 SBle (SB.cells [SV.nilslc] 1 22) (SB.cells [SV.nilslc] 1 22) ∧
 SBle (SB.cells x.sv.cells 19 116) (SB.cells x.sv.cells 19 116) ∧
 True))) ∧
 ((!decide (selS [x.r 0, x.r 1, x.r 2, x.r 3, x.r 4, x.r 5, x.r 6, x.r 7, x.r 8, x.r 9, x.r 10, x.r 11, x.r 12, x.r 13, x.r 14, x.r 15] (↑x_2 : Int).toNat = [])) = false →
 ((-9223372036854775808 : Int) ≤ (↑x_2 : Int) + (1 : Int) ∧
 (↑x_2 : Int) + (1 : Int) ≤ (9223372036854775807 : Int)) ∧
 ∃ (y : Nat), (y ≤ (16 : Nat) ∧
 (16 : Nat) - y < (16 : Nat) - x_2) ∧
 (↑x_2 : Int) + (1 : Int) = (↑y : Int) ∧
 SBle (SB.loop LoopState.ready none R_1) (SB.loop LoopState.ready none R_1) ∧
 SBle Q0 Q0 ∧
 SBle (SB.cells SV.nilslc.cells 1 22) (SB.cells SV.nilslc.cells 1 22) ∧
 SBle (SB.cells x.sv.cells 19 116) (SB.cells x.sv.cells 19 116) ∧
 True)) ∧
 (decide ((↑x_2 : Int) < (16 : Int)) = false →
 R SV.nilslc)))) (SB.cells (SV.agg [SV.int .i64 false x.k, SV.str false x.p, SV.str false x.v, SV.str false (x.r 0), SV.str false (x.r 1), SV.str false (x.r 2), SV.str false (x.r 3), SV.str false (x.r 4), SV.str false (x.r 5), SV.str false (x.r 6), SV.str false (x.r 7), SV.str false (x.r 8), SV.str false (x.r 9), SV.str false (x.r 10), SV.str false (x.r 11), SV.str false (x.r 12), SV.str false (x.r 13), SV.str false (x.r 14), SV.str false (x.r 15)]).cells 19 259)) := by kernel_rfl
theorem vcHashes (x : Nd) : VC.holds (runA (cfgHs x) 131 Tryz.f131 [x.sv] (hashesA x)) = ((fun Q0 : SB => ((RelR 9223372036854775808 fun (i : Nat) => [x.r 0, x.r 1, x.r 2, x.r 3, x.r 4, x.r 5, x.r 6, x.r 7, x.r 8, x.r 9, x.r 10, x.r 11, x.r 12, x.r 13, x.r 14, x.r 15].getD i []) ∧
 ((!validB { k := x.k, p := x.p, v := x.v, r := fun (i : Nat) => [x.r 0, x.r 1, x.r 2, x.r 3, x.r 4, x.r 5, x.r 6, x.r 7, x.r 8, x.r 9, x.r 10, x.r 11, x.r 12, x.r 13, x.r 14, x.r 15].getD i [] : Nd }) = true →
 (validB x = true →
 ∃ (x_3 : Nat), hashN x.r (16 : Nat) ≤ x_3 ∧
 False) ∧
 (validB x = false →
 sameVal SV.nilslc SV.nilslc)) ∧
 ((!validB { k := x.k, p := x.p, v := x.v, r := fun (i : Nat) => [x.r 0, x.r 1, x.r 2, x.r 3, x.r 4, x.r 5, x.r 6, x.r 7, x.r 8, x.r 9, x.r 10, x.r 11, x.r 12, x.r 13, x.r 14, x.r 15].getD i [] : Nd }) = false →
 ∀ (R : Loop), (∃ (y : Nat × Nat), (y.fst ≤ (16 : Nat) ∧
 hashN x.r y.fst ≤ y.snd) ∧
 (0 : Int) = (↑y.fst : Int) ∧
 (1 : Nat) = (1 : Nat) ∧
 hashN x.r y.fst = (0 : Nat) ∧
 (SB.rows true (hashN x.r y.fst) [Col.str (hashAt x.r y.fst)] false y.snd 9).no = true ∧
 SBle (SB.loop LoopState.ready none R) (SB.loop LoopState.ready none R) ∧
 SBle Q0 Q0 ∧
 SBle (SB.cells x.sv.cells 19 116) (SB.cells x.sv.cells 19 116) ∧
 True) ∧
 ∀ (x_2 : Nat × Nat), x_2.fst ≤ (16 : Nat) ∧
 hashN x.r x_2.fst ≤ x_2.snd →
 (decide ((↑x_2.fst : Int) < (16 : Int)) = true →
 ((0 : Int) ≤ (↑x_2.fst : Int) ∧
 (↑x_2.fst : Int) < (16 : Int) ∧
 (↑x_2.fst : Int) < (↑(16 : Nat) : Int)) ∧
 ((!decide (selS [x.r 0, x.r 1, x.r 2, x.r 3, x.r 4, x.r 5, x.r 6, x.r 7, x.r 8, x.r 9, x.r 10, x.r 11, x.r 12, x.r 13, x.r 14, x.r 15] (↑x_2.fst : Int).toNat = [])) = true →
 R = R ∧
 (selS [x.r 0, x.r 1, x.r 2, x.r 3, x.r 4, x.r 5, x.r 6, x.r 7, x.r 8, x.r 9, x.r 10, x.r 11, x.r 12, x.r 13, x.r 14, x.r 15] (↑x_2.fst : Int).toNat).length < (9223372036854775808 : Nat) ∧
 (hashB (selS [x.r 0, x.r 1, x.r 2, x.r 3, x.r 4, x.r 5, x.r 6, x.r 7, x.r 8, x.r 9, x.r 10, x.r 11, x.r 12, x.r 13, x.r 14, x.r 15] (↑x_2.fst : Int).toNat) = true →
 ((0 : Nat) + hashN x.r x_2.fst ≤ hashN x.r x_2.fst ∧
 True ∧
 (2 : Nat) * (hashN x.r x_2.fst + (1 : Nat)) * (16 : Nat) ≤ (281474976710656 : Nat) ∧
 hashN x.r x_2.fst + (1 : Nat) < (9223372036854775808 : Nat)) ∧
 x_2.snd = x_2.snd * (1 : Nat) ∧
 ∀ (c : Nat), hashN x.r x_2.fst + (1 : Nat) ≤ c →
 ((-9223372036854775808 : Int) ≤ (↑x_2.fst : Int) + (1 : Int) ∧
 (↑x_2.fst : Int) + (1 : Int) ≤ (9223372036854775807 : Int)) ∧
 ∃ (y : Nat × Nat), ((y.fst ≤ (16 : Nat) ∧
 hashN x.r y.fst ≤ y.snd) ∧
 (16 : Nat) - y.fst < (16 : Nat) - x_2.fst) ∧
 (↑x_2.fst : Int) + (1 : Int) = (↑y.fst : Int) ∧
 (1 : Nat) = (1 : Nat) ∧
 ((0 : Nat) = (0 : Nat) ∧
 hashN x.r x_2.fst + (1 : Nat) = hashN x.r y.fst ∧
 c = y.snd) ∧
 True ∧
 SBle (SB.rows true (hashN x.r x_2.fst + (1 : Nat)) [Col.str fun (j : Nat) => if j < hashN x.r x_2.fst then hashAt x.r x_2.fst j else selS [cutIn (selS [x.r 0, x.r 1, x.r 2, x.r 3, x.r 4, x.r 5, x.r 6, x.r 7, x.r 8, x.r 9, x.r 10, x.r 11, x.r 12, x.r 13, x.r 14, x.r 15] (↑x_2.fst : Int).toNat)] (j - hashN x.r x_2.fst)] false (c * (1 : Nat)) 9) (SB.rows true (hashN x.r y.fst) [Col.str (hashAt x.r y.fst)] false y.snd 9) ∧
 SBle (SB.loop LoopState.ready none R) (SB.loop LoopState.ready none R) ∧
 SBle Q0 Q0 ∧
 SBle (SB.cells x.sv.cells 19 116) (SB.cells x.sv.cells 19 116) ∧
 True) ∧
 (hashB (selS [x.r 0, x.r 1, x.r 2, x.r 3, x.r 4, x.r 5, x.r 6, x.r 7, x.r 8, x.r 9, x.r 10, x.r 11, x.r 12, x.r 13, x.r 14, x.r 15] (↑x_2.fst : Int).toNat) = false →
 Rel 9223372036854775808 (selS [x.r 0, x.r 1, x.r 2, x.r 3, x.r 4, x.r 5, x.r 6, x.r 7, x.r 8, x.r 9, x.r 10, x.r 11, x.r 12, x.r 13, x.r 14, x.r 15] (↑x_2.fst : Int).toNat) ∧
 (inlB (selS [x.r 0, x.r 1, x.r 2, x.r 3, x.r 4, x.r 5, x.r 6, x.r 7, x.r 8, x.r 9, x.r 10, x.r 11, x.r 12, x.r 13, x.r 14, x.r 15] (↑x_2.fst : Int).toNat) = true →
 Near 64 { k := (getD (selS [x.r 0, x.r 1, x.r 2, x.r 3, x.r 4, x.r 5, x.r 6, x.r 7, x.r 8, x.r 9, x.r 10, x.r 11, x.r 12, x.r 13, x.r 14, x.r 15] (↑x_2.fst : Int).toNat)).k, p := (getD (selS [x.r 0, x.r 1, x.r 2, x.r 3, x.r 4, x.r 5, x.r 6, x.r 7, x.r 8, x.r 9, x.r 10, x.r 11, x.r 12, x.r 13, x.r 14, x.r 15] (↑x_2.fst : Int).toNat)).p, v := (getD (selS [x.r 0, x.r 1, x.r 2, x.r 3, x.r 4, x.r 5, x.r 6, x.r 7, x.r 8, x.r 9, x.r 10, x.r 11, x.r 12, x.r 13, x.r 14, x.r 15] (↑x_2.fst : Int).toNat)).v, r := fun (i : Nat) => [(getD (selS [x.r 0, x.r 1, x.r 2, x.r 3, x.r 4, x.r 5, x.r 6, x.r 7, x.r 8, x.r 9, x.r 10, x.r 11, x.r 12, x.r 13, x.r 14, x.r 15] (↑x_2.fst : Int).toNat)).r 0, (getD (selS [x.r 0, x.r 1, x.r 2, x.r 3, x.r 4, x.r 5, x.r 6, x.r 7, x.r 8, x.r 9, x.r 10, x.r 11, x.r 12, x.r 13, x.r 14, x.r 15] (↑x_2.fst : Int).toNat)).r 1, (getD (selS [x.r 0, x.r 1, x.r 2, x.r 3, x.r 4, x.r 5, x.r 6, x.r 7, x.r 8, x.r 9, x.r 10, x.r 11, x.r 12, x.r 13, x.r 14, x.r 15] (↑x_2.fst : Int).toNat)).r 2, (getD (selS [x.r 0, x.r 1, x.r 2, x.r 3, x.r 4, x.r 5, x.r 6, x.r 7, x.r 8, x.r 9, x.r 10, x.r 11, x.r 12, x.r 13, x.r 14, x.r 15] (↑x_2.fst : Int).toNat)).r 3, (getD (selS [x.r 0, x.r 1, x.r 2, x.r 3, x.r 4, x.r 5, x.r 6, x.r 7, x.r 8, x.r 9, x.r 10, x.r 11, x.r 12, x.r 13, x.r 14, x.r 15] (↑x_2.fst : Int).toNat)).r 4, (getD (selS [x.r 0, x.r 1, x.r 2, x.r 3, x.r 4, x.r 5, x.r 6, x.r 7, x.r 8, x.r 9, x.r 10, x.r 11, x.r 12, x.r 13, x.r 14, x.r 15] (↑x_2.fst : Int).toNat)).r 5, (getD (selS [x.r 0, x.r 1, x.r 2, x.r 3, x.r 4, x.r 5, x.r 6, x.r 7, x.r 8, x.r 9, x.r 10, x.r 11, x.r 12, x.r 13, x.r 14, x.r 15] (↑x_2.fst : Int).toNat)).r 6, (getD (selS [x.r 0, x.r 1, x.r 2, x.r 3, x.r 4, x.r 5, x.r 6, x.r 7, x.r 8, x.r 9, x.r 10, x.r 11, x.r 12, x.r 13, x.r 14, x.r 15] (↑x_2.fst : Int).toNat)).r 7, (getD (selS [x.r 0, x.r 1, x.r 2, x.r 3, x.r 4, x.r 5, x.r 6, x.r 7, x.r 8, x.r 9, x.r 10, x.r 11, x.r 12, x.r 13, x.r 14, x.r 15] (↑x_2.fst : Int).toNat)).r 8, (getD (selS [x.r 0, x.r 1, x.r 2, x.r 3, x.r 4, x.r 5, x.r 6, x.r 7, x.r 8, x.r 9, x.r 10, x.r 11, x.r 12, x.r 13, x.r 14, x.r 15] (↑x_2.fst : Int).toNat)).r 9, (getD (selS [x.r 0, x.r 1, x.r 2, x.r 3, x.r 4, x.r 5, x.r 6, x.r 7, x.r 8, x.r 9, x.r 10, x.r 11, x.r 12, x.r 13, x.r 14, x.r 15] (↑x_2.fst : Int).toNat)).r 10, (getD (selS [x.r 0, x.r 1, x.r 2, x.r 3, x.r 4, x.r 5, x.r 6, x.r 7, x.r 8, x.r 9, x.r 10, x.r 11, x.r 12, x.r 13, x.r 14, x.r 15] (↑x_2.fst : Int).toNat)).r 11, (getD (selS [x.r 0, x.r 1, x.r 2, x.r 3, x.r 4, x.r 5, x.r 6, x.r 7, x.r 8, x.r 9, x.r 10, x.r 11, x.r 12, x.r 13, x.r 14, x.r 15] (↑x_2.fst : Int).toNat)).r 12, (getD (selS [x.r 0, x.r 1, x.r 2, x.r 3, x.r 4, x.r 5, x.r 6, x.r 7, x.r 8, x.r 9, x.r 10, x.r 11, x.r 12, x.r 13, x.r 14, x.r 15] (↑x_2.fst : Int).toNat)).r 13, (getD (selS [x.r 0, x.r 1, x.r 2, x.r 3, x.r 4, x.r 5, x.r 6, x.r 7, x.r 8, x.r 9, x.r 10, x.r 11, x.r 12, x.r 13, x.r 14, x.r 15] (↑x_2.fst : Int).toNat)).r 14, (getD (selS [x.r 0, x.r 1, x.r 2, x.r 3, x.r 4, x.r 5, x.r 6, x.r 7, x.r 8, x.r 9, x.r 10, x.r 11, x.r 12, x.r 13, x.r 14, x.r 15] (↑x_2.fst : Int).toNat)).r 15].getD i [] : Nd } ∧
 some (SB.cells [SV.rslc ((0 : Nat) + (1 : Nat) + (1 : Nat) + (1 : Nat) + (1 : Nat)) 1 true 0 (hashN x.r x_2.fst) x_2.snd] 1 22) = some (SB.cells [SV.rslc ((0 : Nat) + (1 : Nat) + (1 : Nat) + (1 : Nat) + (1 : Nat)) 1 true 0 (hashN x.r x_2.fst) x_2.snd] 1 22) ∧
 ((0 : Nat) + hashN x.r x_2.fst ≤ hashN x.r x_2.fst ∧
 True ∧
 (2 : Nat) * (hashN x.r x_2.fst + (0 : Nat)) * (16 : Nat) ≤ (281474976710656 : Nat) ∧
 hashN x.r x_2.fst + (0 : Nat) < (9223372036854775808 : Nat)) ∧
 x_2.snd = x_2.snd * (1 : Nat) ∧
 ∀ (c : Nat), hashN x.r x_2.fst + (0 : Nat) ≤ c →
 ((-9223372036854775808 : Int) ≤ (↑x_2.fst : Int) + (1 : Int) ∧
 (↑x_2.fst : Int) + (1 : Int) ≤ (9223372036854775807 : Int)) ∧
 ∃ (y : Nat × Nat), ((y.fst ≤ (16 : Nat) ∧
 hashN x.r y.fst ≤ y.snd) ∧
 (16 : Nat) - y.fst < (16 : Nat) - x_2.fst) ∧
 (↑x_2.fst : Int) + (1 : Int) = (↑y.fst : Int) ∧
 (1 : Nat) = (1 : Nat) ∧
 ((0 : Nat) = (0 : Nat) ∧
 hashN x.r x_2.fst + (0 : Nat) = hashN x.r y.fst ∧
 c = y.snd) ∧
 True ∧
 SBle (SB.rows true (hashN x.r x_2.fst + (0 : Nat)) [Col.str (hashAt x.r x_2.fst)] false (c * (1 : Nat)) 9) (SB.rows true (hashN x.r y.fst) [Col.str (hashAt x.r y.fst)] false y.snd 9) ∧
 SBle (SB.loop LoopState.ready none R) (SB.loop LoopState.ready none R) ∧
 SBle Q0 Q0 ∧
 SBle (SB.cells x.sv.cells 19 116) (SB.cells x.sv.cells 19 116) ∧
 True) ∧
 (inlB (selS [x.r 0, x.r 1, x.r 2, x.r 3, x.r 4, x.r 5, x.r 6, x.r 7, x.r 8, x.r 9, x.r 10, x.r 11, x.r 12, x.r 13, x.r 14, x.r 15] (↑x_2.fst : Int).toNat) = false →
 Near 64 { k := (0 : Int), p := [], v := [], r := fun (i : Nat) => [[], [], [], [], [], [], [], [], [], [], [], [], [], [], [], []].getD i [] : Nd } ∧
 some (SB.cells [SV.rslc ((0 : Nat) + (1 : Nat) + (1 : Nat) + (1 : Nat) + (1 : Nat)) 1 true 0 (hashN x.r x_2.fst) x_2.snd] 1 22) = some (SB.cells [SV.rslc ((0 : Nat) + (1 : Nat) + (1 : Nat) + (1 : Nat) + (1 : Nat)) 1 true 0 (hashN x.r x_2.fst) x_2.snd] 1 22) ∧
 ((0 : Nat) + hashN x.r x_2.fst ≤ hashN x.r x_2.fst ∧
 True ∧
 (2 : Nat) * (hashN x.r x_2.fst + (0 : Nat)) * (16 : Nat) ≤ (281474976710656 : Nat) ∧
 hashN x.r x_2.fst + (0 : Nat) < (9223372036854775808 : Nat)) ∧
 x_2.snd = x_2.snd * (1 : Nat) ∧
 ∀ (c : Nat), hashN x.r x_2.fst + (0 : Nat) ≤ c →
 ((-9223372036854775808 : Int) ≤ (↑x_2.fst : Int) + (1 : Int) ∧
 (↑x_2.fst : Int) + (1 : Int) ≤ (9223372036854775807 : Int)) ∧
 ∃ (y : Nat × Nat), ((y.fst ≤ (16 : Nat) ∧
 hashN x.r y.fst ≤ y.snd) ∧
 (16 : Nat) - y.fst < (16 : Nat) - x_2.fst) ∧
 (↑x_2.fst : Int) + (1 : Int) = (↑y.fst : Int) ∧
 (1 : Nat) = (1 : Nat) ∧
 ((0 : Nat) = (0 : Nat) ∧
 hashN x.r x_2.fst + (0 : Nat) = hashN x.r y.fst ∧
 c = y.snd) ∧
 True ∧
 SBle (SB.rows true (hashN x.r x_2.fst + (0 : Nat)) [Col.str (hashAt x.r x_2.fst)] false (c * (1 : Nat)) 9) (SB.rows true (hashN x.r y.fst) [Col.str (hashAt x.r y.fst)] false y.snd 9) ∧
 SBle (SB.loop LoopState.ready none R) (SB.loop LoopState.ready none R) ∧
 SBle Q0 Q0 ∧
 SBle (SB.cells x.sv.cells 19 116) (SB.cells x.sv.cells 19 116) ∧
 True))) ∧
 ((!decide (selS [x.r 0, x.r 1, x.r 2, x.r 3, x.r 4, x.r 5, x.r 6, x.r 7, x.r 8, x.r 9, x.r 10, x.r 11, x.r 12, x.r 13, x.r 14, x.r 15] (↑x_2.fst : Int).toNat = [])) = false →
 ((-9223372036854775808 : Int) ≤ (↑x_2.fst : Int) + (1 : Int) ∧
 (↑x_2.fst : Int) + (1 : Int) ≤ (9223372036854775807 : Int)) ∧
 ∃ (y : Nat × Nat), ((y.fst ≤ (16 : Nat) ∧
 hashN x.r y.fst ≤ y.snd) ∧
 (16 : Nat) - y.fst < (16 : Nat) - x_2.fst) ∧
 (↑x_2.fst : Int) + (1 : Int) = (↑y.fst : Int) ∧
 (1 : Nat) = (1 : Nat) ∧
 ((0 : Nat) = (0 : Nat) ∧
 hashN x.r x_2.fst = hashN x.r y.fst ∧
 x_2.snd = y.snd) ∧
 True ∧
 SBle (SB.rows true (hashN x.r x_2.fst) [Col.str (hashAt x.r x_2.fst)] false x_2.snd 9) (SB.rows true (hashN x.r y.fst) [Col.str (hashAt x.r y.fst)] false y.snd 9) ∧
 SBle (SB.loop LoopState.ready none R) (SB.loop LoopState.ready none R) ∧
 SBle Q0 Q0 ∧
 SBle (SB.cells x.sv.cells 19 116) (SB.cells x.sv.cells 19 116) ∧
 True)) ∧
 (decide ((↑x_2.fst : Int) < (16 : Int)) = false →
 (validB x = true →
 ∃ (x_6 : Nat), hashN x.r (16 : Nat) ≤ x_6 ∧
 SBle (SB.rows true (hashN x.r x_2.fst) [Col.str (hashAt x.r x_2.fst)] false x_2.snd 9) (SB.rows true (hashN x.r 16) [Col.str (hashAt x.r 16)] false x_6 9) ∧
 sameVal (SV.rslc ((0 : Nat) + (1 : Nat) + (1 : Nat) + (1 : Nat) + (1 : Nat)) 1 true 0 (hashN x.r x_2.fst) x_2.snd) (SV.rslc ((0 : Nat) + (1 : Nat) + (1 : Nat) + (1 : Nat) + (1 : Nat)) 1 true 0 (hashN x.r 16) x_6)) ∧
 (validB x = false →
 sameVal (SV.rslc ((0 : Nat) + (1 : Nat) + (1 : Nat) + (1 : Nat) + (1 : Nat)) 1 true 0 (hashN x.r x_2.fst) x_2.snd) SV.nilslc))))) (SB.cells (SV.agg [SV.int .i64 false x.k, SV.str false x.p, SV.str false x.v, SV.str false (x.r 0), SV.str false (x.r 1), SV.str false (x.r 2), SV.str false (x.r 3), SV.str false (x.r 4), SV.str false (x.r 5), SV.str false (x.r 6), SV.str false (x.r 7), SV.str false (x.r 8), SV.str false (x.r 9), SV.str false (x.r 10), SV.str false (x.r 11), SV.str false (x.r 12), SV.str false (x.r 13), SV.str false (x.r 14), SV.str false (x.r 15)]).cells 19 259)) := by kernel_rfl
end Go.Proofs.YtoalfimkkibpdaaGreatDoor
/-
  Node: Put, Ref, Collide, Hashes: the contracts.
-/
namespace Go.Proofs.YtoalfimkkibpdaaGreatDoor
open Go Sx
set_option maxRecDepth 20000
structure Nd.Same (x y : Nd) : Prop where
  k : x.k = y.k
  p : x.p = y.p
  v : x.v = y.v
  r : ∀ j, j < 16 → x.r j = y.r j
theorem mays_ext {inl : List UInt8 → Bool} {r r' : Nat → List UInt8} : ∀ {n : Nat}, (∀ j, j < n → r j = r' j) → mays inl r n = mays inl r' n ∧ fullN r n = fullN r' n
  | 0, _ => ⟨rfl, rfl⟩
  | n + 1, h => by
    obtain ⟨h1, h2⟩ := mays_ext (inl := inl) (n := n) fun j hj => h j (by omega)
    simp only [mays, fullN, h1, h2, h n (by omega), and_self]
theorem valid_ext {x y : Nd} (h : x.Same y) : validB x = validB y := by
  obtain ⟨h1, h2⟩ := mays_ext (inl := inlB) h.r
  have e0 : noneB x = noneB y := by
    unfold noneB
    rw [h.k, h.p, h.v]
    congr 3
    rw [Bool.eq_iff_iff, List.all_eq_true, List.all_eq_true]
    constructor
    · intro g j hj; rw [← h.r j (List.mem_range.1 hj)]; exact g j hj
    · intro g j hj; rw [h.r j (List.mem_range.1 hj)]; exact g j hj
  have e1 : leafB x = leafB y := by unfold leafB pathB; rw [h.p, h.v, behindI_congr h.r]
  have e2 : extW inlB x = extW inlB y := by unfold extW pathB; rw [h.p, h.v, behindI_congr h.r, h.r 0 (by decide)]
  have e3 : branchW inlB x = branchW inlB y := by unfold branchW; rw [h.p, h.v, h1, h2]
  unfold validB validW
  rw [h.k, e0, e1, e2, e3]
theorem put_ext {x y : Nd} (h : x.Same y) : putT x = putT y := by
  have e1 : leafT x = leafT y := by unfold leafT pathT; rw [h.p, h.v]
  have e2 : extT x = extT y := by unfold extT pathT; rw [h.p, h.r 0 (by decide)]
  have e3 : branchT x = branchT y := by
    have hb : ∀ j, j < 16 → brI x.r 16 j = brI y.r 16 j := fun j hj => by unfold brI; rw [h.r j hj]
    unfold branchT
    rw [hb 0 (by decide), hb 1 (by decide), hb 2 (by decide), hb 3 (by decide), hb 4 (by decide), hb 5 (by decide), hb 6 (by decide), hb 7 (by decide), hb 8 (by decide), hb 9 (by decide), hb 10 (by decide), hb 11 (by decide), hb 12 (by decide), hb 13 (by decide), hb 14 (by decide), hb 15 (by decide), h.v]
  unfold putT
  rw [h.k, e1, e2, e3]
theorem same_mk (x : Nd) : Nd.Same { k := x.k, p := x.p, v := x.v, r := fun (i : Nat) => [x.r 0, x.r 1, x.r 2, x.r 3, x.r 4, x.r 5, x.r 6, x.r 7, x.r 8, x.r 9, x.r 10, x.r 11, x.r 12, x.r 13, x.r 14, x.r 15].getD i [] } x := ⟨rfl, rfl, rfl, fun j hj => getD16 x.r j hj⟩
theorem Nd.Few.same {x y : Nd} (h : x.Same y) (hf : y.Few) : x.Few := ⟨by rw [h.p]; exact hf.p, by rw [h.v]; exact hf.v, fun j hj => by rw [h.r j hj]; exact hf.r j hj⟩
def Fits (x : Nd) : Prop := ∀ j, j < 16 → (x.r j).length < 9223372036854775808
theorem fits_rel {x : Nd} (h : Fits x) : RelR 9223372036854775808 (fun (i : Nat) => [x.r 0, x.r 1, x.r 2, x.r 3, x.r 4, x.r 5, x.r 6, x.r 7, x.r 8, x.r 9, x.r 10, x.r 11, x.r 12, x.r 13, x.r 14, x.r 15].getD i []) := fun j hj => by
  show Rel _ ([x.r 0, x.r 1, x.r 2, x.r 3, x.r 4, x.r 5, x.r 6, x.r 7, x.r 8, x.r 9, x.r 10, x.r 11, x.r 12, x.r 13, x.r 14, x.r 15].getD j [])
  rw [getD16 x.r j hj]
  exact ⟨.inl (h j hj), h j hj⟩
theorem nodePut_ok : CallOk Tryz.prog 127 (ansPT (ndSpecA fun x => some (Fits x, putA x))) := by
  refine ans_ok (n := 20) (fn := Tryz.f127) Tryz.func127 (by kernel_rfl) (by kernel_rfl) ?_
  intro args p a h hp
  obtain ⟨x, hx, hg⟩ := ndSpecA_eq h
  subst hx
  injection hg with hg; injection hg with h1 h2; subst h1; subst h2
  refine ⟨cfgF1, goodF1, rfl, fun b => by cases b <;> exact rfl, Holds.of_eq (vcNodePut x) ?_⟩
  have e := valid_ext (same_mk x)
  have e2 := put_ext (same_mk x)
  refine ⟨fits_rel hp, fun a => ?_, fun a => ?_⟩
  · rw [e] at a
    have a : validB x = false := by simpa using a
    rw [a]
    exact ⟨(fun h => by cases h), fun _ _ => rfl⟩
  · rw [e] at a
    have a : validB x = true := by simpa using a
    have hs := valid_short a
    rw [e2, a]
    exact ⟨⟨hs.k, Nd.Few.same (same_mk x) hs.few⟩, fun _ _ => rfl, fun h => by cases h⟩
theorem flat1 (s : List UInt8) : flat [s] = s := by simp [flat]
theorem ofQ1 {s : List UInt8} (h : s.length < 1152921504606846976) : True ∧ ofQ [s] := ⟨trivial, by rw [flat1]; exact h, by simp⟩
def refSpec : List SV → Option (Prop × SV)
  | [.str false s] => some (s.length < 1152921504606846976, .str false (refL s))
  | _ => none
theorem nodeRef_ok : CallOk Tryz.prog 159 (purePT refSpec) := by
  refine pure_ok goodF1 (n := 20) (fn := Tryz.f159) Tryz.func159 (by kernel_rfl) (by kernel_rfl) ?_
  intro args p r h hp
  unfold refSpec at h
  split at h
  · rename_i s
    injection h with h; injection h with h1 h2; subst h1; subst h2
    refine ⟨rfl, rfl, Holds.of_eq (vcRef s _) ⟨fun a => ?_, fun a => ⟨ofQ1 hp, by omega, ?_⟩⟩⟩
    · have a := of_decide_eq_true a
      exact str_same (by rw [refL, if_pos (by omega)])
    · have a := of_decide_eq_false a
      exact str_same (by rw [refL, if_neg (by omega), flat1])
  · cases h
theorem near_get {L : Nat} {x : Nd} (h : Near L x) : ∃ K, L = K + 1 ∧ ∀ j, j < 16 → x.r j = [] ∨ ((x.r j).length < K ∧ (x.r j).length < 32) := by
  cases L with
  | zero => exact h.elim
  | succ K => exact ⟨K, rfl, h⟩
theorem near_fits {L : Nat} {x : Nd} (h : Near L x) : Fits x := fun j hj => by
  obtain ⟨K, _, h⟩ := near_get h
  rcases h j hj with h | h
  · rw [h]; simp
  · omega
theorem near_in {L : Nat} {t : List UInt8} (hk : 0 ≤ shapeK t) (h : t.length < L) (h32 : t.length < 32) : Near L (getD t) := by
  cases L with
  | zero => exact absurd h (Nat.not_lt_zero _)
  | succ L =>
    intro j _
    by_cases e : (getD t).r j = []
    · exact .inl e
    · have := refs_lt hk j e
      exact .inr ⟨by omega, by omega⟩
theorem near_same {L : Nat} {x y : Nd} (h : x.Same y) (hn : Near L y) : Near L x := by
  cases L with
  | zero => exact hn.elim
  | succ L => intro j hj; rw [h.r j hj]; exact hn j hj
theorem near_zero {L : Nat} (h : 0 < L) : Near L zeroNd := by
  cases L with
  | zero => omega
  | succ L => intro j hj; exact .inl (getD16 (fun _ => []) j hj)
theorem inl_shape {t : List UInt8} (h : inlB t = true) : 0 ≤ shapeK t ∧ getB' t = true ∧ (getD t).k ≠ 0 := by
  rw [inl_eq] at h
  simp only [Bool.and_eq_true, decide_eq_true_eq, Bool.not_eq_true', decide_eq_false_iff_not] at h
  refine ⟨?_, h.2.1, h.2.2⟩
  by_cases g : 0 ≤ shapeK t
  · exact g
  · rw [get_no g] at h; exact absurd h.2.1 (by decide)
theorem near_step {L : Nat} (hH : CallOk Tryz.prog 131 (purePT (nearSpec L))) : CallOk Tryz.prog 131 (purePT (nearSpec (L + 1))) := by
  refine nd_ok Tryz.func131 (by kernel_rfl) (by kernel_rfl) fun x p v h hp => ?_
  injection h with h; injection h with h1 h2; subst h1; subst h2
  have hp : Near (L + 1) x := hp
  refine ⟨cfgNear L, [x.sv], ⟨mixes, SummOk.cons hH (purePT_mono _) listF1_ok, fns_ok⟩, fun E => rfl, rfl, rfl, Holds.of_eq (vcNear L x _) ?_⟩
  refine ⟨fits_rel (near_fits hp), fun _ _ => rfl, fun _ R => ⟨⟨0, by omega, rfl, SBle.refl _, SBle.refl _, SBle.refl _, SBle.refl _, trivial⟩, fun i hi => ⟨fun c => ?_, fun _ _ => rfl⟩⟩⟩
  have c := of_decide_eq_true c
  have ei : i < 16 := by omega
  rw [Int.toNat_natCast, sel16 x.r ei]
  refine ⟨by omega, fun d => ?_, fun d => ⟨by omega, i + 1, by omega, by omega, SBle.refl _, SBle.refl _, SBle.refl _, SBle.refl _, trivial⟩⟩
  have d : ¬ x.r i = [] := by simpa using d
  obtain ⟨hl, h32⟩ : (x.r i).length < L ∧ (x.r i).length < 32 := by
    rcases hp i ei with h | h
    · exact absurd h d
    · exact h
  have hlp : 0 < L := by omega
  refine ⟨rfl, by omega, fun e => ?_, fun e => ⟨⟨.inl (by omega), by omega⟩, fun f => ⟨?_, rfl, by omega, i + 1, by omega, by omega, SBle.refl _, SBle.refl _, SBle.refl _, SBle.refl _, trivial⟩, fun f => ⟨near_zero hlp, rfl, by omega, i + 1, by omega, by omega, SBle.refl _, SBle.refl _, SBle.refl _, SBle.refl _, trivial⟩⟩⟩
  · have := hash_len e
    omega
  · exact near_same (same_mk (getD (x.r i))) (near_in (inl_shape f).1 hl h32)
theorem near_all : ∀ L, CallOk Tryz.prog 131 (purePT (nearSpec L))
  | 0 => nd_ok Tryz.func131 (by kernel_rfl) (by kernel_rfl) fun x p v h hp => by
    injection h with h; injection h with h1 h2; subst h1
    exact hp.elim
  | L + 1 => near_step (near_all L)
theorem hashN_le (r : Nat → List UInt8) : ∀ i, hashN r i ≤ i
  | 0 => Nat.le_refl _
  | i + 1 => by
    have := hashN_le r i
    unfold hashN
    cases hashB (r i) <;> simp only [cond_true, cond_false] <;> omega
theorem goodHs (x : Nd) : Sx.Good Tryz.prog (cfgHs x) := ⟨mixes, SummOk.cons (near_all 64) (purePT_mono _) listF1_ok, fns_ok⟩
end Go.Proofs.YtoalfimkkibpdaaGreatDoor
/-
  Node: the hashes that a node refers to: the contract.
-/
namespace Go.Proofs.YtoalfimkkibpdaaGreatDoor
open Go Sx
set_option maxRecDepth 20000
theorem hashAt_step {r : Nat → List UInt8} {i : Nat} (h : hashB (r i) = true) (j : Nat) (hj : j < hashN r i + 1) : (if j < hashN r i then hashAt r i j else selS [cutIn (r i)] (j - hashN r i)) = hashAt r (i + 1) j := by
  show _ = (bif hashB (r i) then (if j = hashN r i then cutIn (r i) else hashAt r i j) else hashAt r i j)
  rw [h]
  simp only [cond_true]
  by_cases e : j < hashN r i
  · rw [if_pos e, if_neg (by omega)]
  · have e : j = hashN r i := by omega
    subst e
    rw [if_neg (by omega), if_pos rfl, Nat.sub_self]; rfl
theorem hashN_step {r : Nat → List UInt8} {i : Nat} (h : hashB (r i) = true) : hashN r (i + 1) = hashN r i + 1 := by rw [hashN, h]; rfl
theorem hashN_skip {r : Nat → List UInt8} {i : Nat} (h : hashB (r i) = false) : hashN r (i + 1) = hashN r i ∧ ∀ j, hashAt r (i + 1) j = hashAt r i j := by
  refine ⟨by rw [hashN, h]; rfl, fun j => ?_⟩
  show (bif hashB (r i) then (if j = hashN r i then cutIn (r i) else hashAt r i j) else hashAt r i j) = _
  rw [h]; rfl
theorem hashes_holds {x : Nd} (hp : Fits x) : Holds (runA (cfgHs x) 131 Tryz.f131 [x.sv] (hashesA x)) := by
  refine Holds.of_eq (vcHashes x) ?_
  have ev := valid_ext (same_mk x)
  rw [ev]
  refine ⟨fits_rel hp, fun a => ⟨fun b => ?_, fun _ _ => rfl⟩, fun a R => ⟨⟨(0, 0), ⟨Nat.zero_le _, Nat.le_refl _⟩, rfl, rfl, rfl, rfl, SBle.refl _, SBle.refl _, SBle.refl _, trivial⟩, fun g hg => ⟨fun c => ?_, fun c => ?_⟩⟩⟩
  · rw [b] at a; cases a
  · have c := of_decide_eq_true c
    have ei : g.1 < 16 := by omega
    rw [Int.toNat_natCast, sel16 x.r ei]
    have hf := hp g.1 ei
    have hn := hashN_le x.r g.1
    have hg2 := hg.2
    have hs : validB x = true := by simpa using a
    refine ⟨by omega, fun d => ?_, fun d => ?_⟩
    · have d : ¬ x.r g.1 = [] := by simpa using d
      refine ⟨rfl, hf, fun e => ?_, fun e => ⟨⟨.inl hf, hf⟩, fun f => ?_, fun f => ?_⟩⟩
      · refine ⟨⟨by omega, trivial, by omega, by omega⟩, by omega, fun cap hcap => ⟨by omega, (g.1 + 1, cap), ⟨⟨by show g.1 + 1 ≤ 16; omega, ?_⟩, by show 16 - (g.1 + 1) < _; omega⟩, by show (g.1 : Int) + 1 = ((g.1 + 1 : Nat) : Int); omega, rfl, ⟨rfl, (hashN_step e).symm, rfl⟩, trivial, ?_, SBle.refl _, SBle.refl _, SBle.refl _, trivial⟩⟩
        · show hashN x.r (g.1 + 1) ≤ cap
          rw [hashN_step e]; exact hcap
        · exact Sx.SBle.strRows (hashN_step e).symm (Nat.mul_one cap) fun j hj => hashAt_step e j hj
      · have hk := inl_shape f
        have hil := inl_len f
        refine ⟨near_same (same_mk (getD (x.r g.1))) (near_in hk.1 (by omega) hil), rfl, ⟨by omega, trivial, by omega, by omega⟩, by omega, fun cap hcap => ⟨by omega, (g.1 + 1, cap), ⟨⟨by show g.1 + 1 ≤ 16; omega, ?_⟩, by show 16 - (g.1 + 1) < _; omega⟩, by show (g.1 : Int) + 1 = ((g.1 + 1 : Nat) : Int); omega, rfl, ⟨rfl, (hashN_skip e).1.symm, rfl⟩, trivial, ?_, SBle.refl _, SBle.refl _, SBle.refl _, trivial⟩⟩
        · show hashN x.r (g.1 + 1) ≤ cap
          rw [(hashN_skip e).1]; exact hcap
        · exact Sx.SBle.strRows (hashN_skip e).1.symm (Nat.mul_one cap) fun j _ => ((hashN_skip e).2 j).symm
      · refine ⟨near_zero (by decide), rfl, ⟨by omega, trivial, by omega, by omega⟩, by omega, fun cap hcap => ⟨by omega, (g.1 + 1, cap), ⟨⟨by show g.1 + 1 ≤ 16; omega, ?_⟩, by show 16 - (g.1 + 1) < _; omega⟩, by show (g.1 : Int) + 1 = ((g.1 + 1 : Nat) : Int); omega, rfl, ⟨rfl, (hashN_skip e).1.symm, rfl⟩, trivial, ?_, SBle.refl _, SBle.refl _, SBle.refl _, trivial⟩⟩
        · show hashN x.r (g.1 + 1) ≤ cap
          rw [(hashN_skip e).1]; exact hcap
        · exact Sx.SBle.strRows (hashN_skip e).1.symm (Nat.mul_one cap) fun j _ => ((hashN_skip e).2 j).symm
    · have d : x.r g.1 = [] := by simpa using d
      have e : hashB (x.r g.1) = false := by rw [d]; rfl
      refine ⟨by omega, (g.1 + 1, g.2), ⟨⟨by show g.1 + 1 ≤ 16; omega, ?_⟩, by show 16 - (g.1 + 1) < _; omega⟩, by show (g.1 : Int) + 1 = ((g.1 + 1 : Nat) : Int); omega, rfl, ⟨rfl, (hashN_skip e).1.symm, rfl⟩, trivial, ?_, SBle.refl _, SBle.refl _, SBle.refl _, trivial⟩
      · show hashN x.r (g.1 + 1) ≤ g.2
        rw [(hashN_skip e).1]; exact hg2
      · exact Sx.SBle.strRows (hashN_skip e).1.symm rfl fun j _ => ((hashN_skip e).2 j).symm
  · have c := of_decide_eq_false c
    have hg1 := hg.1
    have e : g.1 = 16 := by omega
    have hg2 := hg.2
    rw [e] at hg2 ⊢
    exact ⟨fun _ => ⟨g.2, hg2, SBle.refl _, fun _ => rfl⟩, fun h => by rw [h] at a; cases a⟩
theorem hashes_ok : CallOk Tryz.prog 131 (ansPT (ndSpecA fun x => some (Fits x, hashesA x))) := by
  refine ans_ok (n := 20) (fn := Tryz.f131) Tryz.func131 (by kernel_rfl) (by kernel_rfl) ?_
  intro args p a h hp
  obtain ⟨x, hx, hg⟩ := ndSpecA_eq h
  subst hx
  injection hg with hg; injection hg with h1 h2; subst h1; subst h2
  refine ⟨cfgHs x, goodHs x, rfl, fun b => ?_, hashes_holds hp⟩
  cases b with
  | false => exact rfl
  | true =>
    intro c
    refine ⟨rfl, rfl, fun k => by simp [SV.wf, Nat.blt_eq], fun E E' k k' h => ?_⟩
    cases hn : hashN x.r 16 with
    | zero => rfl
    | succ n =>
      rw [hn] at h
      have hk : E k = E' k' := h rfl
      simp [SV.val, hk]
end Go.Proofs.YtoalfimkkibpdaaGreatDoor
/-
  The framework's part 27: contracts of which the way is told beforehand: it is asked for, and the other ways are not run.
-/
namespace Go.Proofs.YtoalfimkkibpdaaGreatDoor.Sx
open Go
end Go.Proofs.YtoalfimkkibpdaaGreatDoor.Sx
/-
  Node: the statements: which nodes are looked at, the examples: the set-up.
-/
namespace Go.Proofs.YtoalfimkkibpdaaGreatDoor
open Go Sx
set_option maxRecDepth 20000
def shortArg (args : List SV) (_ : Mem) : Bool := match args with
  | [.str true s] => decide (s.length < 32)
  | _ => false
noncomputable def listL0 : List (FuncId × PT) := (64, strsPT ofQ ofG) :: (159, litIf shortArg (purePT refSpec)) :: (135, ansLPT hashSpec) :: (136, ansLPT (inlSpec 9223372036854775808)) :: (130, ansLPT (getSpec' 9223372036854775808)) ::
  (127, ansLPT (ndSpecA fun x => some (Fits x, putA x))) :: (160, pureLPT (ndSpec fun x => some (RelR 9223372036854775808 x.r, .bool false (validB x)))) :: (131, ansLPT (ndSpecA fun x => some (Fits x, hashesA x))) :: listN5
theorem listL0_ok : SummOk Tryz.prog (fun f => lookPT f listL0) := .cons of_ok (strsPT_mono _ _) (.cons (litIf_ok nodeRef_ok) (litIf_mono (purePT_mono _)) (.cons (ansL_ok hash_ok) (ansLPT_mono _) (.cons (ansL_ok (inline_all _)) (ansLPT_mono _) (.cons (ansL_ok (nodeGet_ok (inline_all _))) (ansLPT_mono _)
  (.cons (ansL_ok nodePut_ok) (ansLPT_mono _) (.cons (pureL_ok (ndvalid_ok (inline_all _))) (pureLPT_mono _) (.cons (ansL_ok hashes_ok) (ansLPT_mono _) listN5_ok)))))))
noncomputable def cfgL0 : Cfg := { cfg0 with summ := fun f => lookPT f listL0 }
theorem goodL0 : Sx.Good Tryz.prog cfgL0 := ⟨mixes, listL0_ok, fns_ok⟩
end Go.Proofs.YtoalfimkkibpdaaGreatDoor
/-
  Contracts at an example: one block that is written out is read; a value, or a new block, is handed back.
-/
namespace Go.Proofs.YtoalfimkkibpdaaGreatDoor.Sx
open Go
noncomputable section
def exNewPT (ca : List SV → Option Nat) (cb : SB → Bool) (B : SB) (p : Nat → Prop) (r : Nat → Nat → SV) (B2 : Nat → SB) : PT := fun args m nx K => match ca args with
  | some key => (match m.get key with
    | some X => (match cb X with
      | true => .all Nat fun c => .imp (p c) (K (r c nx) ((nx, B2 c) :: m.put key B) (nx + 1))
      | false => .fail "another example")
    | none => .fail "another example")
  | none => .fail "another example"
theorem exNewPT_mono {ca cb B p r B2} : MonoPT (exNewPT ca cb B p r B2) := by
  intro args m nx K K' hK h
  unfold exNewPT at h ⊢
  split at h
  · split at h
    · split at h
      · exact fun c hc => hK _ _ _ (h c hc)
      · exact h
    · exact h
  · exact h
def exNewK (B : SB) (p : Nat → Prop) (r : Nat → Nat → SV) (B2 : Nat → SB) : SV → Mem → Nat → VC := fun v m _ => match m.get 0, v.key with
  | some X, some k => (match m.get k, Nat.beq k 0 with
    | some Y, false => .and (.atom (SBle X B)) (.ex Nat fun c => .and (.atom (p c)) (.and (.atom (SBle Y (B2 c))) (.atom (sameVal v (r c k)))))
    | _, _ => .fail "no block")
  | _, _ => .fail "no block"
structure ExB (B : SB) : Prop where
  wf : B.wf 0 = true
  ro : B.ro = false
  no : B.no = false
theorem exNew_ok {P : Program} {cfg : Cfg} (hg : Good P cfg) {f : FuncId} {fn : Func} (hf : P.funcs[f]? = some fn) (hn : (fn.name == "runtime.NumGoroutine") = false) (hb : fn.body.isSome = true) {n : Nat} {ca : List SV → Option Nat} {cb : SB → Bool} {B : SB} {p : Nat → Prop} {r : Nat → Nat → SV} {B2 : Nat → SB} {args0 : List SV}
    (hB : ExB B) (hB2 : ∀ c, ExB (B2 c)) (hr : ∀ c (E E' : Nat → Nat) k k', E k = E' k' → (r c k).val E = (r c k').val E') (hw0 : SV.wfs 1 args0 = true) (hca : ∀ args key, ca args = some key → ∀ E, SV.vals E args = SV.vals (fun _ => E key) args0) (hcb : ∀ X, cb X = true → SBle X B)
    (h : Holds (runFn P (calling P cfg n) [] noP (cfg.anns f) cfg.rounds fn args0 [(0, B)] 1 (exNewK B p r B2))) : CallOk P f (exNewPT ca cb B p r B2) := by
  intro args m nx K hk hwf hargs Γ E w hs
  unfold exNewPT at hk
  split at hk
  · rename_i key hkey
    split at hk
    · rename_i X hX
      split at hk
      · rename_i hb2
        have hle := hcb X hb2
        have hone := hs.one hX hle hB.no hB.ro hB.wf
        have hc := calls_of_holds hg hf hn hb h (by simp only [Mem.wf, Bool.and_true]; exact SB.wf_mono (Nat.zero_le _) hB.wf) hw0 hone
        rw [← hca _ _ hkey E] at hc
        refine out_of_calls hf hn hb (hc.mono ?_)
        rintro e w' ⟨v, rfl, E1, u, m1, nx1, g1, g2, g3, g4, g5⟩
        refine ⟨v, rfl, ?_⟩
        cases u with
        | none => exact g5.elim
        | some u =>
          simp only [lift, exNewK] at g5
          split at g5
          · rename_i Y k hY hkk
            split at g5
            · rename_i Z hZ hk0
              obtain ⟨y1, c, y2, y3, y4⟩ := g5
              have y1 : SBle Y B := y1
              have y2 : p c := y2
              have y3 : SBle Z (B2 c) := y3
              have y4 : sameVal u (r c k) := y4
              have hne : k ≠ 0 := fun e => by subst e; cases hk0
              have hE0 : E1 0 = E key := g1 0 (by omega)
              have hs1 := (g4.swap hY y1).swap (j := k) (X := Z) (by rw [Mem.get_putNe hne]; exact hZ) y3
              have e1 : ((m1.put 0 B).put k (B2 c)).get 0 = some B := by rw [Mem.get_putNe (fun e => hne e.symm)]; exact Mem.get_putEq hY
              have e2 : ((m1.put 0 B).put k (B2 c)).get k = some (B2 c) := Mem.get_putEq (X := Z) (by rw [Mem.get_putNe hne]; exact hZ)
              obtain ⟨E', q1, q2, q3⟩ := hs.frame2 hwf hX (hle hB.no).1 ((hle hB.no).2.2 hB.ro) hs1 hE0 e1 hB.no hB.ro hB.wf hne e2 (hB2 c).wf (hB2 c).ro
              exact ⟨E', some (r c nx), _, nx + 1, q1, Nat.le_succ _, fun z hz => by injection hz with hz; subst hz; rw [g3 u rfl, y4 E1]; exact hr c _ _ _ _ (q2 (hB2 c).no).symm, q3, hk c y2⟩
            · exact g5.elim
          · exact g5.elim
      · exact hk.elim
    · exact hk.elim
  · exact hk.elim
end
end Go.Proofs.YtoalfimkkibpdaaGreatDoor.Sx
/-
  Wire: the examples: the set-up; the nodes of a map of two.
-/
namespace Go.Proofs.YtoalfimkkibpdaaGreatDoor
open Go Sx
set_option maxRecDepth 20000
def exEnts : SB := .cells [.str true [97], .str true [49], .str true [98], .str true [50]] 4 60
def exText : List UInt8 := [215, 22, 213, 128, 194, 32, 49, 194, 32, 50, 128, 128, 128, 128, 128, 128, 128, 128, 128, 128, 128, 128, 128, 128]
def exTexts (c : Nat) : SB := .cells [.str true exText] c 9
def exSlc (n : Nat) : List SV → Option Nat
  | [.slc key 0 k true k'] => (match Nat.beq k n && Nat.beq k' n with
    | true => some key
    | false => none)
  | _ => none
def isEnts : SB → Bool
  | .cells [.str _ a, .str _ b, .str _ c, .str _ d] tot ty => decide (a = [97]) && decide (b = [49]) && decide (c = [98]) && decide (d = [50]) && Nat.beq tot 4 && Nat.beq ty 60
  | _ => false
theorem isEnts_le {X : SB} (h : isEnts X = true) : SBle X exEnts := by
  unfold isEnts at h
  split at h
  · rename_i la a lb b lc c ld d tot ty
    simp only [Bool.and_eq_true, decide_eq_true_eq] at h
    obtain ⟨⟨⟨⟨⟨rfl, rfl⟩, rfl⟩, rfl⟩, ht⟩, hy⟩ := h
    obtain rfl := Nat.eq_of_beq_eq_true ht
    obtain rfl := Nat.eq_of_beq_eq_true hy
    exact SBle.cells (fun E => rfl) rfl
  · cases h
theorem exSlc_vals {n : Nat} {args : List SV} {key : Nat} (h : exSlc n args = some key) (E : Nat → Nat) : SV.vals E args = SV.vals (fun _ => E key) [.slc 0 0 n true n] := by
  unfold exSlc at h
  split at h
  · rename_i key' k k'
    split at h
    · rename_i hk
      injection h with h; subst h
      simp only [Bool.and_eq_true] at hk
      obtain rfl := Nat.eq_of_beq_eq_true hk.1
      obtain rfl := Nat.eq_of_beq_eq_true hk.2
      rfl
    · cases h
  · cases h
theorem exEnts_ok : ExB exEnts := ⟨rfl, rfl, rfl⟩
theorem exTexts_ok (c : Nat) : ExB (exTexts c) := ⟨rfl, rfl, rfl⟩
def exNodesR (c k : Nat) : SV := .tup [.slc k 0 1 false c, .int .i64 true 0]
noncomputable def exNodesPT : PT := exNewPT (exSlc 2) isEnts exEnts (fun c => 1 ≤ c) exNodesR exTexts
noncomputable def runExN (cfg : Cfg) (f : Nat) (fn : Func) (args0 : List SV) (B : SB) (p : Nat → Prop) (r : Nat → Nat → SV) (B2 : Nat → SB) : VC := runFn Tryz.prog (calling Tryz.prog cfg 30) [] noP (cfg.anns f) cfg.rounds fn args0 [(0, B)] 1 (exNewK B p r B2)
end Go.Proofs.YtoalfimkkibpdaaGreatDoor
/-
  Conditions that the executor computes, written out by a program (vcgen.py).
-/
namespace Go.Proofs.YtoalfimkkibpdaaGreatDoor
open Go Sx
set_option maxRecDepth 20000
theorem vcExNodes  : VC.holds (runExN cfgL0 49 Tryz.f49 [.slc 0 0 2 true 2] exEnts (fun c => 1 ≤ c) exNodesR exTexts) = ((fun P0 : SB => ((fun P1 : SB => ((fun P2 : SB => ((fun P3 : SB => ((fun P4 : SB => ((fun P5 : SB => ((fun P6 : SB => ((fun P7 : SB => ((fun P8 : SB => ((fun P9 : SB => ((fun P10 : SB => ((fun P11 : SB => ((fun P12 : SB => ((fun P13 : SB => ((fun P14 : SB => ((fun P15 : SB => ((some (SB.cells (setRange (SV.agg [SV.str true [], SV.str true []]).cells 0 (SV.agg [SV.str true [(97 : UInt8)], SV.str true [(49 : UInt8)]]).cells) 2 60) = some (SB.cells (setRange (SV.agg [SV.str true [], SV.str true []]).cells 0 (SV.agg [SV.str true [(97 : UInt8)], SV.str true [(49 : UInt8)]]).cells) 2 60) ∧ some (SB.cells (setRange (SV.agg [SV.str true [], SV.str true []]).cells 0 (SV.agg [SV.str true [(98 : UInt8)], SV.str true [(50 : UInt8)]]).cells) 2 60) = some (SB.cells (setRange (SV.agg [SV.str true [], SV.str true []]).cells 0 (SV.agg [SV.str true [(98 : UInt8)], SV.str true [(50 : UInt8)]]).cells) 2 60) ∧ some P6 = some P6 ∧ some P6 = some P6 ∧ some P6 = some P6 ∧ ∀ (u17 : Nat), 1 ≤ u17 → some P7 = some P7 ∧ some P7 = some P7 ∧ Fits { k := (1 : Int), p := subStr (subStr [UInt8.ofNat 6, UInt8.ofNat 1] (some (Operand.tmp 20)) none 1 2) (some (Operand.tmp 20)) none 1 1, v := [(49 : UInt8)], r := fun (u16 : Nat) => [[], [], [], [], [], [], [], [], [], [], [], [], [], [], [], []].getD u16 [] : Nd } ∧ (3 : Nat) < (1152921504606846976 : Nat) ∧ (3 : Nat) < (9223372036854775808 : Nat) ∧ some P7 = some P7 ∧ ∀ (u15 : Nat), 1 ≤ u15 → some P8 = some P8 ∧ some P8 = some P8 ∧
 Fits { k := (1 : Int), p := subStr (subStr [UInt8.ofNat 6, UInt8.ofNat 2] (some (Operand.tmp 20)) none 1 2) (some (Operand.tmp 20)) none 1 1, v := [(50 : UInt8)], r := fun (u14 : Nat) => [[], [], [], [], [], [], [], [], [], [], [], [], [], [], [], []].getD u14 [] : Nd } ∧ (3 : Nat) < (1152921504606846976 : Nat) ∧ (3 : Nat) < (9223372036854775808 : Nat) ∧ some P8 = some P8 ∧ some P9 = some P9 ∧ some P9 = some P9 ∧ some P9 = some P9 ∧ some P10 = some P10 ∧ some P10 = some P10 ∧ some P10 = some P10 ∧ some P11 = some P11 ∧ some P11 = some P11 ∧ some P11 = some P11 ∧ some P12 = some P12 ∧ some P12 = some P12 ∧ some P12 = some P12 ∧ some P13 = some P13 ∧ some P13 = some P13 ∧ some P13 = some P13 ∧ some P14 = some P14 ∧ some P14 = some P14 ∧ some P14 = some P14 ∧ some P15 = some P15 ∧ some P15 = some P15 ∧ some P15 = some P15 ∧ some P0 = some P0 ∧ some P0 = some P0 ∧ some P0 = some P0 ∧ some P1 = some P1 ∧ some P1 = some P1 ∧ some P1 = some P1 ∧ some P2 = some P2 ∧ some P2 = some P2 ∧ some P2 = some P2 ∧ some P3 = some P3 ∧ some P3 = some P3 ∧ some P3 = some P3 ∧ some P4 = some P4 ∧ some P4 = some P4 ∧ some P4 = some P4 ∧ some P5 = some P5 ∧ some P5 = some P5 ∧ some P5 = some P5 ∧
 Fits { k := (3 : Int), p := [], v := [], r := fun (u13 : Nat) => [[], refL (putT { k := (1 : Int), p := subStr (subStr [UInt8.ofNat 6, UInt8.ofNat 1] (some (Operand.tmp 20)) none 1 2) (some (Operand.tmp 20)) none 1 1, v := [(49 : UInt8)], r := fun (u12 : Nat) => [[], [], [], [], [], [], [], [], [], [], [], [], [], [], [], []].getD u12 [] : Nd }), refL (putT { k := (1 : Int), p := subStr (subStr [UInt8.ofNat 6, UInt8.ofNat 2] (some (Operand.tmp 20)) none 1 2) (some (Operand.tmp 20)) none 1 1, v := [(50 : UInt8)], r := fun (u11 : Nat) => [[], [], [], [], [], [], [], [], [], [], [], [], [], [], [], []].getD u11 [] : Nd }), [], [], [], [], [], [], [], [], [], [], [], [], []].getD u13 [] : Nd } ∧ (22 : Nat) < (1152921504606846976 : Nat) ∧ (22 : Nat) < (9223372036854775808 : Nat) ∧
 Fits { k := (2 : Int), p := subStr [UInt8.ofNat 6, UInt8.ofNat 1] none (some (Operand.tmp 81)) 0 1, v := [], r := fun (u10 : Nat) => [refL (putT { k := (3 : Int), p := [], v := [], r := fun (u9 : Nat) => [[], refL (putT { k := (1 : Int), p := subStr (subStr [UInt8.ofNat 6, UInt8.ofNat 1] (some (Operand.tmp 20)) none 1 2) (some (Operand.tmp 20)) none 1 1, v := [(49 : UInt8)], r := fun (u8 : Nat) => [[], [], [], [], [], [], [], [], [], [], [], [], [], [], [], []].getD u8 [] : Nd }), refL (putT { k := (1 : Int), p := subStr (subStr [UInt8.ofNat 6, UInt8.ofNat 2] (some (Operand.tmp 20)) none 1 2) (some (Operand.tmp 20)) none 1 1, v := [(50 : UInt8)], r := fun (u7 : Nat) => [[], [], [], [], [], [], [], [], [], [], [], [], [], [], [], []].getD u7 [] : Nd }), [], [], [], [], [], [], [], [], [], [], [], [], []].getD u9 [] : Nd }), [], [], [], [], [], [], [], [], [], [], [], [], [], [], []].getD u10 [] : Nd } ∧ ∀ (u6 : Loop), u6 = u6 ∧ ∀ (u5 : Nat), 1 ≤ u5 → SBle exEnts exEnts ∧ ∃ (u4 : Nat), 1 ≤ u4 ∧
 SBle (SB.cells [SV.str true (putT { k := (2 : Int), p := subStr [UInt8.ofNat 6, UInt8.ofNat 1] none (some (Operand.tmp 81)) 0 1, v := [], r := fun (u3 : Nat) => [refL (putT { k := (3 : Int), p := [], v := [], r := fun (u2 : Nat) => [[], refL (putT { k := (1 : Int), p := subStr (subStr [UInt8.ofNat 6, UInt8.ofNat 1] (some (Operand.tmp 20)) none 1 2) (some (Operand.tmp 20)) none 1 1, v := [(49 : UInt8)], r := fun (u1 : Nat) => [[], [], [], [], [], [], [], [], [], [], [], [], [], [], [], []].getD u1 [] : Nd }), refL (putT { k := (1 : Int), p := subStr (subStr [UInt8.ofNat 6, UInt8.ofNat 2] (some (Operand.tmp 20)) none 1 2) (some (Operand.tmp 20)) none 1 1, v := [(50 : UInt8)], r := fun (u0 : Nat) => [[], [], [], [], [], [], [], [], [], [], [], [], [], [], [], []].getD u0 [] : Nd }), [], [], [], [], [], [], [], [], [], [], [], [], []].getD u2 [] : Nd }), [], [], [], [], [], [], [], [], [], [], [], [], [], [], []].getD u3 [] : Nd })] (u5 * 1) 9) (exTexts u4) ∧ sameVal (SV.tup [SV.slc ((16 : Nat) + (1 : Nat) + (1 : Nat) + (1 : Nat)) 0 1 false u5, SV.int .i64 true 0]) (exNodesR u4 ((16 : Nat) + (1 : Nat) + (1 : Nat) + (1 : Nat)))))) (SB.cells (setRange (SV.int .i64 true 0).cells 0 (SV.int .i64 true 9).cells) 1 3))) (SB.cells (setRange (SV.int .i64 true 0).cells 0 (SV.int .i64 true 8).cells) 1 3))) (SB.cells (setRange (SV.int .i64 true 0).cells 0 (SV.int .i64 true 7).cells) 1 3))) (SB.cells (setRange (SV.int .i64 true 0).cells 0 (SV.int .i64 true 6).cells) 1 3))) (SB.cells (setRange (SV.int .i64 true 0).cells 0 (SV.int .i64 true 5).cells) 1 3))) (SB.cells (setRange (SV.int .i64 true 0).cells 0 (SV.int .i64 true 4).cells) 1 3))) (SB.cells (setRange (SV.int .i64 true 0).cells 0 (SV.int .i64 true 3).cells) 1 3))) (SB.cells (setRange (SV.int .i64 true 0).cells 0 (SV.int .i64 true 2).cells) 1 3))) (SB.cells (setRange (SV.int .i64 true 0).cells 0 (SV.int .i64 true 1).cells) 1 3))) (SB.cells (setRange (SV.int .i64 true 0).cells 0 (SV.int .i64 true 0).cells) 1 3))) (SB.cells (setRange (SV.int .i64 true 0).cells 0 (SV.int .i64 true 15).cells) 1 3))) (SB.cells (setRange (SV.int .i64 true 0).cells 0 (SV.int .i64 true 14).cells) 1 3))) (SB.cells (setRange (SV.int .i64 true 0).cells 0 (SV.int .i64 true 13).cells) 1 3))) (SB.cells (setRange (SV.int .i64 true 0).cells 0 (SV.int .i64 true 12).cells) 1 3))) (SB.cells (setRange (SV.int .i64 true 0).cells 0 (SV.int .i64 true 11).cells) 1 3))) (SB.cells (setRange (SV.int .i64 true 0).cells 0 (SV.int .i64 true 10).cells) 1 3)) := by kernel_rfl
end Go.Proofs.YtoalfimkkibpdaaGreatDoor
/-
  Wire: the nodes of the examples' map: the contract; the examples: the set-up.
-/
namespace Go.Proofs.YtoalfimkkibpdaaGreatDoor
open Go Sx
set_option maxRecDepth 20000
theorem fits_of {x : Nd} (h : (List.range 16).all (fun j => decide ((x.r j).length < 9223372036854775808)) = true) : Fits x := fun j hj => by
  have := List.all_eq_true.1 h j (List.mem_range.2 hj)
  simpa using this
theorem exTexts_le {t : List UInt8} {c : Nat} (h : t = exText) : SBle (SB.cells [SV.str true t] (c * 1) 9) (exTexts c) := by
  subst h
  exact SBle.cells (fun E => rfl) (by omega)
theorem exNodes_ok : CallOk Tryz.prog 49 exNodesPT := by
  refine exNew_ok goodL0 (n := 30) (fn := Tryz.f49) Tryz.func49 (by kernel_rfl) (by kernel_rfl) exEnts_ok exTexts_ok (fun c E E' k k' h => by simp only [exNodesR, SV.val, SV.vals, h]) rfl (fun _ _ h E => exSlc_vals h E) (fun _ h => isEnts_le h) (Holds.of_eq vcExNodes ?_)
  repeat' first
    | exact trivial
    | exact SBle.refl _
    | exact fits_of (by decide +kernel)
    | exact rfl
    | refine And.intro ?_ ?_
    | omega
    | intro (_ : Loop)
    | intro (_ : Nat)
    | intro (_ : _ ≤ _)
    | refine ⟨_, ?_, exTexts_le (by decide +kernel), fun _ => rfl⟩
    | fail
def litOne (args : List SV) (m : Mem) : Bool := match args with
  | [x] => litCells m x
  | _ => false
noncomputable def listQ0 : List (FuncId × PT) := (49, exNodesPT) :: (21, ansLPT pgetSpec) :: (64, litIf litOne (strsPT ofQ ofG)) :: listL0
theorem listQ0_ok : SummOk Tryz.prog (fun f => lookPT f listQ0) := .cons exNodes_ok exNewPT_mono (.cons (ansL_ok pget_ok) (ansLPT_mono _) (.cons (litIf_ok of_ok) (litIf_mono (strsPT_mono _ _)) listL0_ok))
noncomputable def cfgQ0 : Cfg := { cfg0 with summ := fun f => lookPT f listQ0 }
theorem goodQ0 : Sx.Good Tryz.prog cfgQ0 := ⟨mixes, listQ0_ok, fns_ok⟩
noncomputable def runA4 (cfg : Cfg) (f : Nat) (fn : Func) (args : List SV) (a : Ans) : VC := runFn Tryz.prog (calling Tryz.prog cfg 40) [] noP (cfg.anns f) cfg.rounds fn args [] 0 (fun v m _ => a.fit v m)
end Go.Proofs.YtoalfimkkibpdaaGreatDoor
/-
  Conditions that the executor computes, written out by a program (vcgen.py).
-/
namespace Go.Proofs.YtoalfimkkibpdaaGreatDoor
open Go Sx
set_option maxRecDepth 20000
theorem vcWWorks  : VC.holds (runA4 cfgQ0 9 Tryz.f9 [] (.ret (.bool true true))) = ((fun P0 : Nat → List SV => ((fun P1 : SB => ((fun P2 : Nat → SB => ((fun P3 : List UInt8 => ((fun P4 : Nat → SB => ((fun P5 : List UInt8 => ((fun P6 : Nat → SB => ((fun P7 : List UInt8 => ((∀ (u15 : Nat), 1 ≤ u15 → (True ∧ ofQ [exText]) ∧ ∀ (u14 : Nat), 1 ≤ u14 → ((24 : Nat) ≤ (9223372036854775808 : Nat) ∧ (24 : Nat) < (1099511627776 : Nat)) ∧ (True ∧ ofQ [exText]) ∧ Fits { k := (2 : Int), p := ngetP (cutIn (itemAt (cutIn exText) 0)), v := [], r := fun (u13 : Nat) => [oneRef P5 0, oneRef P5 1, oneRef P5 2, oneRef P5 3, oneRef P5 4, oneRef P5 5, oneRef P5 6, oneRef P5 7, oneRef P5 8, oneRef P5 9, oneRef P5 10, oneRef P5 11, oneRef P5 12, oneRef P5 13, oneRef P5 14, oneRef P5 15].getD u13 [] : Nd } ∧ ∀ (u12 : Nat), 0 ≤ u12 → (True ∧ ofQ [exText]) ∧ ∀ (u11 : Nat), 1 ≤ u11 → ∀ (u10 : Nat), 1 ≤ u10 → ((24 : Nat) ≤ (9223372036854775808 : Nat) ∧ (24 : Nat) < (1099511627776 : Nat)) ∧ (22 : Nat) < (9223372036854775808 : Nat) ∧ Rel 9223372036854775808 (oneRef P5 0) ∧ (3 : Nat) < (9223372036854775808 : Nat) ∧ Rel 9223372036854775808 ((getD (oneRef P5 0)).r 2) ∧ (24 : Nat) < (1152921504606846976 : Nat) ∧ ((0 : Int) ≤ (0 : Int) ∧ (0 : Int) < (18446744073709551616 : Int)) ∧ some (P2 u10) = some (P2 u10) ∧ some (P2 u10) = some (P2 u10) ∧ some (P2 u10) = some (P2 u10) ∧ (32 : Nat) < (1152921504606846976 : Nat) ∧ some (P2 u10) = some (P2 u10) ∧ some (P2 u10) = some (P2 u10) ∧
 (1 : Nat) < (1152921504606846976 : Nat) ∧ some (P2 u10) = some (P2 u10) ∧ (0 : Nat) < (1152921504606846976 : Nat) ∧ (((1 : Nat) = (1 : Nat) ∧ (1 : Nat) ≤ (1 : Nat)) ∧ (1 : Nat) ≤ (140737488355328 : Nat) ∧ (25 : Nat) ≤ (140737488355328 : Nat)) ∧ (((0 : Int) ≤ (192 : Int) ∧ (192 : Int) ≤ (192 : Int)) ∧ (0 : Int) ≤ (25 : Int) ∧ (25 : Int) < (1152921504606846976 : Int)) ∧ (((5 : Nat) = (5 : Nat) ∧ (5 : Nat) ≤ (5 : Nat)) ∧ (5 : Nat) ≤ (140737488355328 : Nat) ∧ (62 : Nat) ≤ (140737488355328 : Nat)) ∧ (((0 : Int) ≤ (192 : Int) ∧ (192 : Int) ≤ (192 : Int)) ∧ (0 : Int) ≤ (62 : Int) ∧ (62 : Int) < (1152921504606846976 : Int)) ∧ True ∧ ∀ (u9 : Nat), 1 ≤ u9 → ∀ (u8 : Loop), ((True ∧ ofQ [cutIn (itemAt P3 0)]) ∧ (((24 : Nat) ≤ (9223372036854775808 : Nat) ∧ (24 : Nat) < (1099511627776 : Nat)) ∧ some (fixB (SB.rows true 1 [Col.str fun (u7 : Nat) => cutIn (itemAt P3 u7)] false u9 9)) = some (fixB (SB.rows true 1 [Col.str fun (u6 : Nat) => cutIn (itemAt P3 u6)] false u9 9)) ∧ some (P6 u9) = some (P6 u9) ∧ some (P6 u9) = some (P6 u9) ∧ some (P4 u9) = some (P4 u9) ∧ some P1 = some P1 ∧ some P1 = some P1 ∧ u8 = u8 ∧ Rel 9223372036854775808 (oneRef P7 0) ∧ u8 = u8 ∧
 Rel 9223372036854775808 ((getD (oneRef P7 0)).r 2) ∧ u8 = u8 ∧ some (P4 u9) = some (P4 u9) ∧ True ∧ sameVal (SV.bool true true) (SV.bool true true)) ∧ some (fixB (SB.rows true 1 [Col.str fun (u5 : Nat) => cutIn (itemAt P3 u5)] false u9 9)) = some (fixB (SB.rows true 1 [Col.str fun (u4 : Nat) => cutIn (itemAt P3 u4)] false u9 9)) ∧ some (P6 u9) = some (P6 u9) ∧ some (P6 u9) = some (P6 u9) ∧ ((24 : Nat) ≤ (9223372036854775808 : Nat) ∧ (24 : Nat) < (1099511627776 : Nat)) ∧ some (P4 u9) = some (P4 u9) ∧ some P1 = some P1 ∧ some P1 = some P1 ∧ u8 = u8 ∧ Rel 9223372036854775808 (oneRef P7 0) ∧ u8 = u8 ∧ Rel 9223372036854775808 ((getD (oneRef P7 0)).r 2) ∧ u8 = u8 ∧ some (P4 u9) = some (P4 u9) ∧ True ∧ sameVal (SV.bool true true) (SV.bool true true)) ∧ some (P6 u9) = some (P6 u9) ∧ some P1 = some P1 ∧ some P1 = some P1 ∧ (True ∧ ofQ [cutIn (itemAt P3 0)]) ∧ (((24 : Nat) ≤ (9223372036854775808 : Nat) ∧ (24 : Nat) < (1099511627776 : Nat)) ∧ some (fixB (SB.rows true 1 [Col.str fun (u3 : Nat) => cutIn (itemAt P3 u3)] false u9 9)) = some (fixB (SB.rows true 1 [Col.str fun (u2 : Nat) => cutIn (itemAt P3 u2)] false u9 9)) ∧ some (P6 u9) = some (P6 u9) ∧ some (P6 u9) = some (P6 u9) ∧ u8 = u8 ∧
 Rel 9223372036854775808 (oneRef P7 0) ∧ u8 = u8 ∧ Rel 9223372036854775808 ((getD (oneRef P7 0)).r 2) ∧ u8 = u8 ∧ some (P4 u9) = some (P4 u9) ∧ True ∧ sameVal (SV.bool true true) (SV.bool true true)) ∧ some (fixB (SB.rows true 1 [Col.str fun (u1 : Nat) => cutIn (itemAt P3 u1)] false u9 9)) = some (fixB (SB.rows true 1 [Col.str fun (u0 : Nat) => cutIn (itemAt P3 u0)] false u9 9)) ∧ some (P6 u9) = some (P6 u9) ∧ some (P6 u9) = some (P6 u9) ∧ ((24 : Nat) ≤ (9223372036854775808 : Nat) ∧ (24 : Nat) < (1099511627776 : Nat)) ∧ u8 = u8 ∧ Rel 9223372036854775808 (oneRef P7 0) ∧ u8 = u8 ∧ Rel 9223372036854775808 ((getD (oneRef P7 0)).r 2) ∧ u8 = u8 ∧ some (P4 u9) = some (P4 u9) ∧ True ∧ sameVal (SV.bool true true) (SV.bool true true)))) (itemAt (cutIn (cutIn (itemAt P3 0))) 1))) (fun (u9 : Nat) => (SB.cells (P0 u9) 4 180)))) (itemAt (cutIn exText) 1))) (fun (u9 : Nat) => (SB.cells (setRange (P0 u9) 2 (SV.int .i64 true 1).cells) 4 180)))) (cutIn (itOf (headOf 192 62 ++ flat [textOf (digits 0), textOf (shaL (flat [exText])), textOf [(98 : UInt8)], textOf [], headOf 192 25 ++ flat [textOf exText]]) 4)))) (fun (u10 : Nat) => (SB.cells (SV.agg [SV.int .i64 true 0, lit (ofG [exText]), SV.str true [(98 : UInt8)], SV.str true [], SV.slc ((2 : Nat) + (1 : Nat) + (1 : Nat) + (1 : Nat) + (1 : Nat) + (1 : Nat) + (1 : Nat) + (1 : Nat) + (1 : Nat) + (1 : Nat) + (1 : Nat) + (1 : Nat) + (1 : Nat) + (1 : Nat) + (1 : Nat) + (1 : Nat) + (1 : Nat) + (1 : Nat) + (1 : Nat)) 0 1 false u10]).cells 5 24)))) (SB.cells (SV.ptr ((2 : Nat) + (1 : Nat) + (1 : Nat) + (1 : Nat) + (1 : Nat) + (1 : Nat) + (1 : Nat) + (1 : Nat) + (1 : Nat) + (1 : Nat) + (1 : Nat) + (1 : Nat) + (1 : Nat) + (1 : Nat) + (1 : Nat) + (1 : Nat) + (1 : Nat) + (1 : Nat) + (1 : Nat) + (1 : Nat) + (1 : Nat) + (1 : Nat) + (1 : Nat) + (1 : Nat) + (1 : Nat) + (1 : Nat) + (1 : Nat) + (1 : Nat)) true 0).cells 1 240))) (fun (u9 : Nat) => (setRange (SV.agg [SV.str true [], SV.nilslc, SV.int .i64 true 0, SV.niliface]).cells 0 (SV.agg (setRange (setRange [SV.str true [], SV.nilslc, SV.int .i64 true 0, SV.niliface] 0 (lit1 (fixV1 (SV.str false (cutIn (itOf (headOf 192 62 ++ flat [textOf (digits 0), textOf (shaL (flat [exText])), textOf [(98 : UInt8)], textOf [], headOf 192 25 ++ flat [textOf exText]]) 1))))).cells) 1 (lit1 (fixV1 (SV.rslc ((2 : Nat) + (1 : Nat) + (1 : Nat) + (1 : Nat) + (1 : Nat) + (1 : Nat) + (1 : Nat) + (1 : Nat) + (1 : Nat) + (1 : Nat) + (1 : Nat) + (1 : Nat) + (1 : Nat) + (1 : Nat) + (1 : Nat) + (1 : Nat) + (1 : Nat) + (1 : Nat) + (1 : Nat) + (1 : Nat) + (1 : Nat) + (1 : Nat) + (1 : Nat)) 1 true 0 1 u9))).cells)).cells))) := by kernel_rfl
end Go.Proofs.YtoalfimkkibpdaaGreatDoor
/-
  Wire: the examples: the contract.
-/
namespace Go.Proofs.YtoalfimkkibpdaaGreatDoor
open Go Sx
set_option maxRecDepth 20000
theorem wworks_holds : Holds (runA4 cfgQ0 9 Tryz.f9 [] (.ret (.bool true true))) := by
  refine Holds.of_eq vcWWorks ?_
  repeat' first
    | exact trivial
    | exact SBle.refl _
    | exact fits_of (by decide +kernel)
    | exact rfl
    | refine And.intro ?_ ?_
    | omega
    | intro (_ : Loop)
    | intro (_ : Nat)
    | intro (_ : _ ≤ _)
    | decide +kernel
    | exact fun _ => rfl
    | exact ⟨rfl, rfl⟩
    | fail
theorem wworks_ok : WorksOk := by
  refine ans_ok (n := 40) (fn := Tryz.f9) Tryz.func9 (by kernel_rfl) (by kernel_rfl) ?_
  intro vs q a h hq
  match vs, h with
  | [], h =>
    injection h with h; injection h with h1 h2; subst h1; subst h2
    exact ⟨_, goodQ0, rfl, rfl, wworks_holds⟩
end Go.Proofs.YtoalfimkkibpdaaGreatDoor
/-
  The framework's part 26: a law's arguments that are structs: their cells, one by one.
-/
namespace Go.Proofs.YtoalfimkkibpdaaGreatDoor.Sx
open Go Go.RowKit Go.WideShapes Go.ChangeShapes
theorem cell_int {P : Program} {w : World} {base : Nat} {u : TypeId} {k : IntKind} {x : Value} (hu : P.underlying u = some (.int k)) (h : Cell.okWide P w .any base u x) : ∃ n, x = .int k n ∧ k.has n := by
  unfold Cell.okWide Cell.ok at h
  rw [hu] at h
  cases x <;> simp only at h
  all_goals first
    | exact h.elim
    | (obtain ⟨rfl, h⟩ := h; exact ⟨_, rfl, h⟩)
theorem cell_str {P : Program} {w : World} {base : Nat} {u : TypeId} {x : Value} (hu : P.underlying u = some .string) (h : Cell.okWide P w .any base u x) : ∃ s : List UInt8, x = .string ⟨s.toArray⟩ := by
  unfold Cell.okWide Cell.ok at h
  rw [hu] at h
  cases x <;> simp only at h
  all_goals first
    | exact h.elim
    | (rename_i s; exact ⟨s.data.toList, by simp⟩)
theorem arg_row {P : Program} {w : World} {base : Nat} {t : TypeId} {fs : Array Field} {ts : List TypeId} {v : Value} (ht : P.underlying t = some (.struct fs)) (hts : P.cellTypes P.depth t = some ts) (hl : P.cellsOf t = ts.length)
    (h : Value.okWide P w .any base t v) : ∃ cs, v = .agg cs ∧ cs.size = ts.length ∧ ∀ (j : Nat) (u : TypeId), ts[j]? = some u → ∃ x, cs[j]? = some x ∧ Cell.okWide P w .any base u x := by
  unfold Value.okWide at h
  rw [ht] at h
  obtain ⟨cs, rfl, hs, ts', hts', _, hc⟩ := h
  rw [hts] at hts'; injection hts' with hts'; subst hts'
  refine ⟨cs, rfl, hs.trans hl, fun j u hu => ?_⟩
  have hj := (List.getElem?_eq_some_iff.1 hu).1
  have hj2 : j < cs.size := by omega
  obtain ⟨u', hu', hok⟩ := hc j cs[j] (Array.getElem?_eq_getElem hj2)
  rw [Nat.mod_eq_of_lt hj, hu] at hu'
  injection hu' with hu'; subst hu'
  exact ⟨_, Array.getElem?_eq_getElem hj2, hok⟩
theorem agg_of {cs : Array Value} {l : List Value} (hs : cs.size = l.length) (h : ∀ (j : Nat) (v : Value), l[j]? = some v → cs[j]? = some v) : cs = l.toArray := by
  refine Array.ext hs fun i h1 h2 => ?_
  have := h i l[i] (List.getElem?_eq_getElem (by omega))
  rw [Array.getElem?_eq_getElem h1] at this
  injection this with this
theorem elem_field {P : Program} {W : World} {H : Type} {enc : TypeId × Value → H} {e : TypeId} {fs : Array Field} {xs : List Value} {y : DataW H × List MemPlace} {m : Nat} (he : P.underlying e = some (.struct fs))
    (h : DataW.trod enc P W 0 (fun _ => true) true m e xs = some y) {i : Nat} {f : Field} (hf : fs[i]? = some f) (h1 : P.cellsOf f.type = 1) {x : Value} (hx : xs[f.offset]? = some x) :
    ∃ m' y', DataW.trod enc P W 0 (fun _ => true) true m' f.type [x] = some y' := by
  obtain ⟨ys, m', rfl, _, _, hyl, hfield⟩ := DataW.trod_struct he h
  have := hfield i f hf
  rw [h1] at this
  have hd : (xs.drop f.offset).take 1 = [x] := by
    rw [List.take_one, List.head?_drop, hx]; rfl
  rw [hd, List.getElem?_eq_getElem (by rw [hyl]; exact (Array.getElem?_eq_some_iff.1 hf).1)] at this
  exact ⟨m', _, this⟩
theorem okWide_cell {P : Program} {W : World} {base : Nat} {t e : TypeId} {v : Value} (ht : P.underlying t = some (.slice e)) (h : Cell.okWide P W .any base t v) : Value.okWide P W .any base t v := by
  unfold Value.okWide
  rw [ht]; exact h
theorem cells_slice (a : Option Addr) (n c : Nat) : (Value.slice a n c).cells.toList = [.slice a n c] := rfl
def Stood (W : World) (b : Nat) (B : SB) : Prop := B.no = false → ∃ ob, W.heap[b]? = some ob ∧ ∀ E, BlkOk E B ob
theorem slice_cell {P : Program} {W : World} {base : Nat} {H : Type} {enc : TypeId × Value → H} {t e : TypeId} {x : Value} {m : Nat} {y : DataW H × List MemPlace} (ht : P.underlying t = some (.slice e)) (h : Cell.okWide P W .any base t x)
    (hd : DataW.trod enc P W 0 (fun _ => true) true m t [x] = some y) :
    ∃ (z : Bool) (b o n c : Nat), x = (SV.vslc 0 (P.cellsOf e) z o 0 n c).val (fun _ => b) ∧ n ≤ maxLen ∧ ((z && Nat.beq n 0) = false → ∃ cs ty fr, W.heap[b]? = some (.cells cs ty fr) ∧
      ∀ i, i < n → ∃ (xs : List Value) (y : DataW H × List MemPlace) (m : Nat), xs.length = P.cellsOf e ∧ (∀ k, k < P.cellsOf e → cs[o + i * P.cellsOf e + k]? = xs[k]?) ∧ DataW.trod enc P W 0 (fun _ => true) true m e xs = some y) := by
  have hw := okWide_cell ht h
  obtain ⟨a, n, c, rfl⟩ := okWide_slice ht hw
  exact mapOk (ps := y.2) (d := y.1) ht hw ⟨m, by rw [cells_slice]; exact hd⟩
end Go.Proofs.YtoalfimkkibpdaaGreatDoor.Sx
