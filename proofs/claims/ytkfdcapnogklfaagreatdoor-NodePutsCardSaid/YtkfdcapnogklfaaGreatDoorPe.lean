/-
  Node: Put, Ref, Hashes: the set-up.
-/
import Derived.Test.YtkfdcapnogklfaaGreatDoorPd
import Derived.Test.YtkfdcapnogklfaaGreatDoorQc
namespace Go.Proofs.YtkfdcapnogklfaaGreatDoor
open Go Sx
set_option maxRecDepth 20000
noncomputable def listF1 : List (FuncId × PT) := (22, strsPT ofQ ofG) :: (18, ansPT (inlSpec 9223372036854775808)) :: (14, ansPT (getSpec' 9223372036854775808)) :: listN8 9223372036854775808
theorem listF1_ok : SummOk Tryz.prog (fun f => lookPT f listF1) := .cons of_ok (strsPT_mono _ _) (.cons (inline_all _) (ansPT_mono _) (.cons (nodeGet_ok (inline_all _)) (ansPT_mono _) (listN8_ok (inline_all _))))
noncomputable def cfgF1 : Cfg := { cfg0 with summ := fun f => lookPT f listF1 }
theorem goodF1 : Sx.Good Tryz.prog cfgF1 := ⟨mixes, listF1_ok, fns_ok⟩
def putA (x : Nd) : Ans := .fork (validB x) fun b => match b with
  | true => .ret (.tup [.str false (putT x), .int .i64 true 0])
  | false => .ret (.tup [.str true [], .int .i64 true 1])
def ndSpecA (g : Nd → Option (Prop × Ans)) : List SV → Option (Prop × Ans)
  | [.agg l] => (match ndOf l with
    | some x => g x
    | none => none)
  | _ => none
theorem ndSpecA_eq {g : Nd → Option (Prop × Ans)} {args : List SV} {p : Prop} {v : Ans} (h : ndSpecA g args = some (p, v)) : ∃ x, args = [x.sv] ∧ g x = some (p, v) := by
  unfold ndSpecA at h
  split at h
  · split at h
    · rename_i x hx
      exact ⟨x, by rw [ndOf_eq hx], h⟩
    · cases h
  · cases h
def refL (s : List UInt8) : List UInt8 := if s.length < 32 then s else textOf (shaL s)
/-! ### The hashes that a node refers to -/
def hashN (r : Nat → List UInt8) : Nat → Nat
  | 0 => 0
  | i + 1 => bif hashB (r i) then hashN r i + 1 else hashN r i
def hashAt (r : Nat → List UInt8) : Nat → Nat → List UInt8
  | 0 => fun _ => []
  | i + 1 => fun j => bif hashB (r i) then (if j = hashN r i then cutIn (r i) else hashAt r i j) else hashAt r i j
def Near : Nat → Nd → Prop
  | 0, _ => False
  | L + 1, x => ∀ j, j < 16 → x.r j = [] ∨ ((x.r j).length < L ∧ (x.r j).length < 32)
def nearSpec (L : Nat) : List SV → Option (Prop × SV) := ndSpec fun x => some (Near L x, .nilslc)
noncomputable def annNear : LoopAnn :=
  { α := Nat, pre := fun _ i => i ≤ 16, mea := fun _ i => 16 - i, fresh := 0, slots := fun _ i => [(7, .int .i64 false i)], mem := fun _ _ => [] }
noncomputable def cfgNear (L : Nat) : Cfg := { cfg0 with summ := fun f => lookPT f ((12, purePT (nearSpec L)) :: listF1), anns := fun f => if f = 51 then [(1, always annNear)] else [] }
noncomputable def annHs (x : Nd) : LoopAnn :=
  { α := Nat × Nat, pre := fun _ g => g.1 ≤ 16 ∧ hashN x.r g.1 ≤ g.2, mea := fun _ g => 16 - g.1, fresh := 1, slots := fun _ g => [(7, .int .i64 false g.1)],
    mem := fun st g => [(1, .cells [.rslc st.nx 1 true 0 (hashN x.r g.1) g.2] 1 32), (st.nx, .rows true (hashN x.r g.1) [.str (hashAt x.r g.1)] false g.2 9)] }
noncomputable def cfgHs (x : Nd) : Cfg := { cfg0 with summ := fun f => lookPT f ((12, purePT (nearSpec 64)) :: listF1), anns := fun f => if f = 51 then [(1, always (annHs x))] else [] }
def hashesA (x : Nd) : Ans := .fork (validB x) fun b => match b with
  | true => .all Nat fun c => .req (hashN x.r 16 ≤ c) (.new (fun k => .rslc k 1 true 0 (hashN x.r 16) c) (.rows true (hashN x.r 16) [.str (hashAt x.r 16)] false c 9))
  | false => .ret .nilslc
end Go.Proofs.YtkfdcapnogklfaaGreatDoor
/-
  Conditions that the executor computes, written out by a program (vcgen.py).
-/
namespace Go.Proofs.YtkfdcapnogklfaaGreatDoor
open Go Sx
set_option maxRecDepth 20000
theorem vcNodePut (x : Nd) : VC.holds (runA cfgF1 7 Tryz.f7 [x.sv] (putA x)) = ((RelR 9223372036854775808 fun (i : Nat) => [x.r 0, x.r 1, x.r 2, x.r 3, x.r 4, x.r 5, x.r 6, x.r 7, x.r 8, x.r 9, x.r 10, x.r 11, x.r 12, x.r 13, x.r 14, x.r 15].getD i []) ∧
 ((!validB { k := x.k, p := x.p, v := x.v, r := fun (i : Nat) => [x.r 0, x.r 1, x.r 2, x.r 3, x.r 4, x.r 5, x.r 6, x.r 7, x.r 8, x.r 9, x.r 10, x.r 11, x.r 12, x.r 13, x.r 14, x.r 15].getD i [] : Nd }) = true →
 (validB x = true →
 sameVal (SV.tup [SV.str true [], SV.int .i64 true 1]) (SV.tup [SV.str false (putT x), SV.int .i64 true 0])) ∧
 (validB x = false →
 sameVal (SV.tup [SV.str true [], SV.int .i64 true 1]) (SV.tup [SV.str true [], SV.int .i64 true 1]))) ∧
 ((!validB { k := x.k, p := x.p, v := x.v, r := fun (i : Nat) => [x.r 0, x.r 1, x.r 2, x.r 3, x.r 4, x.r 5, x.r 6, x.r 7, x.r 8, x.r 9, x.r 10, x.r 11, x.r 12, x.r 13, x.r 14, x.r 15].getD i [] : Nd }) = false →
 (((0 : Int) ≤ x.k ∧
 x.k ≤ (3 : Int)) ∧
 { k := x.k, p := x.p, v := x.v, r := fun (i : Nat) => [x.r 0, x.r 1, x.r 2, x.r 3, x.r 4, x.r 5, x.r 6, x.r 7, x.r 8, x.r 9, x.r 10, x.r 11, x.r 12, x.r 13, x.r 14, x.r 15].getD i [] : Nd }.Few) ∧
 (validB x = true →
 sameVal (SV.tup [SV.str false (putT { k := x.k, p := x.p, v := x.v, r := fun (i : Nat) => [x.r 0, x.r 1, x.r 2, x.r 3, x.r 4, x.r 5, x.r 6, x.r 7, x.r 8, x.r 9, x.r 10, x.r 11, x.r 12, x.r 13, x.r 14, x.r 15].getD i [] : Nd }), SV.int .i64 true 0]) (SV.tup [SV.str false (putT x), SV.int .i64 true 0])) ∧
 (validB x = false →
 sameVal (SV.tup [SV.str false (putT { k := x.k, p := x.p, v := x.v, r := fun (i : Nat) => [x.r 0, x.r 1, x.r 2, x.r 3, x.r 4, x.r 5, x.r 6, x.r 7, x.r 8, x.r 9, x.r 10, x.r 11, x.r 12, x.r 13, x.r 14, x.r 15].getD i [] : Nd }), SV.int .i64 true 0]) (SV.tup [SV.str true [], SV.int .i64 true 1])))) := by kernel_rfl
theorem vcRef (s : List UInt8) (R : SV → Prop) : VC.holds (runP cfgF1 20 Tryz.f20 [.str false s] R) = ((decide ((↑s.length : Int) < (32 : Int)) = true →
 R (SV.str false s)) ∧
 (decide ((↑s.length : Int) < (32 : Int)) = false →
 (True ∧
 ofQ [s]) ∧
 (32 : Nat) < (1152921504606846976 : Nat) ∧
 R (SV.str false (textOf (shaL (flat [s])))))) := by kernel_rfl
theorem vcNear (L : Nat) (x : Nd) (R : SV → Prop) : VC.holds (runP (cfgNear L) 12 Tryz.f12 [x.sv] R) = ((fun Q0 : SB => ((RelR 9223372036854775808 fun (i : Nat) => [x.r 0, x.r 1, x.r 2, x.r 3, x.r 4, x.r 5, x.r 6, x.r 7, x.r 8, x.r 9, x.r 10, x.r 11, x.r 12, x.r 13, x.r 14, x.r 15].getD i []) ∧
 ((!validB { k := x.k, p := x.p, v := x.v, r := fun (i : Nat) => [x.r 0, x.r 1, x.r 2, x.r 3, x.r 4, x.r 5, x.r 6, x.r 7, x.r 8, x.r 9, x.r 10, x.r 11, x.r 12, x.r 13, x.r 14, x.r 15].getD i [] : Nd }) = true →
 R SV.nilslc) ∧
 ((!validB { k := x.k, p := x.p, v := x.v, r := fun (i : Nat) => [x.r 0, x.r 1, x.r 2, x.r 3, x.r 4, x.r 5, x.r 6, x.r 7, x.r 8, x.r 9, x.r 10, x.r 11, x.r 12, x.r 13, x.r 14, x.r 15].getD i [] : Nd }) = false →
 ∀ (R_1 : Loop), (∃ (y : Nat), y ≤ (16 : Nat) ∧
 (0 : Int) = (↑y : Int) ∧
 SBle (SB.loop LoopState.ready none R_1) (SB.loop LoopState.ready none R_1) ∧
 SBle Q0 Q0 ∧
 SBle (SB.cells SV.nilslc.cells 1 32) (SB.cells SV.nilslc.cells 1 32) ∧
 SBle (SB.cells x.sv.cells 19 25) (SB.cells x.sv.cells 19 25) ∧
 True) ∧
 ∀ (x_2 : Nat), x_2 ≤ (16 : Nat) →
 (decide ((↑x_2 : Int) < (16 : Int)) = true →
 ((0 : Int) ≤ (↑x_2 : Int) ∧
 (↑x_2 : Int) < (16 : Int) ∧
 (↑x_2 : Int) < (↑(16 : Nat) : Int)) ∧
 ((!decide (selS [x.r 0, x.r 1, x.r 2, x.r 3, x.r 4, x.r 5, x.r 6, x.r 7, x.r 8, x.r 9, x.r 10, x.r 11, x.r 12, x.r 13, x.r 14, x.r 15] (↑x_2 : Int).toNat = [])) = true →
 R_1 = R_1 ∧
 (selS [x.r 0, x.r 1, x.r 2, x.r 3, x.r 4, x.r 5, x.r 6, x.r 7, x.r 8, x.r 9, x.r 10, x.r 11, x.r 12, x.r 13, x.r 14, x.r 15] (↑x_2 : Int).toNat).length < (9223372036854775808 : Nat) ∧
 (hashB (selS [x.r 0, x.r 1, x.r 2, x.r 3, x.r 4, x.r 5, x.r 6, x.r 7, x.r 8, x.r 9, x.r 10, x.r 11, x.r 12, x.r 13, x.r 14, x.r 15] (↑x_2 : Int).toNat) = true →
 ∀ (c : Nat), (1 : Nat) ≤ c →
 ((-9223372036854775808 : Int) ≤ (↑x_2 : Int) + (1 : Int) ∧
 (↑x_2 : Int) + (1 : Int) ≤ (9223372036854775807 : Int)) ∧
 ∃ (y : Nat), (y ≤ (16 : Nat) ∧
 (16 : Nat) - y < (16 : Nat) - x_2) ∧
 (↑x_2 : Int) + (1 : Int) = (↑y : Int) ∧
 SBle (SB.loop LoopState.ready none R_1) (SB.loop LoopState.ready none R_1) ∧
 SBle Q0 Q0 ∧
 SBle (SB.cells [SV.slc ((0 : Nat) + (1 : Nat) + (1 : Nat) + (1 : Nat) + (1 : Nat) + (0 : Nat) + (1 : Nat)) 0 1 false c] 1 32) (SB.cells [SV.nilslc] 1 32) ∧
 SBle (SB.cells x.sv.cells 19 25) (SB.cells x.sv.cells 19 25) ∧
 True) ∧
 (hashB (selS [x.r 0, x.r 1, x.r 2, x.r 3, x.r 4, x.r 5, x.r 6, x.r 7, x.r 8, x.r 9, x.r 10, x.r 11, x.r 12, x.r 13, x.r 14, x.r 15] (↑x_2 : Int).toNat) = false →
 Rel 9223372036854775808 (selS [x.r 0, x.r 1, x.r 2, x.r 3, x.r 4, x.r 5, x.r 6, x.r 7, x.r 8, x.r 9, x.r 10, x.r 11, x.r 12, x.r 13, x.r 14, x.r 15] (↑x_2 : Int).toNat) ∧
 (inlB (selS [x.r 0, x.r 1, x.r 2, x.r 3, x.r 4, x.r 5, x.r 6, x.r 7, x.r 8, x.r 9, x.r 10, x.r 11, x.r 12, x.r 13, x.r 14, x.r 15] (↑x_2 : Int).toNat) = true →
 Near L { k := (getD (selS [x.r 0, x.r 1, x.r 2, x.r 3, x.r 4, x.r 5, x.r 6, x.r 7, x.r 8, x.r 9, x.r 10, x.r 11, x.r 12, x.r 13, x.r 14, x.r 15] (↑x_2 : Int).toNat)).k, p := (getD (selS [x.r 0, x.r 1, x.r 2, x.r 3, x.r 4, x.r 5, x.r 6, x.r 7, x.r 8, x.r 9, x.r 10, x.r 11, x.r 12, x.r 13, x.r 14, x.r 15] (↑x_2 : Int).toNat)).p, v := (getD (selS [x.r 0, x.r 1, x.r 2, x.r 3, x.r 4, x.r 5, x.r 6, x.r 7, x.r 8, x.r 9, x.r 10, x.r 11, x.r 12, x.r 13, x.r 14, x.r 15] (↑x_2 : Int).toNat)).v, r := fun (i : Nat) => [(getD (selS [x.r 0, x.r 1, x.r 2, x.r 3, x.r 4, x.r 5, x.r 6, x.r 7, x.r 8, x.r 9, x.r 10, x.r 11, x.r 12, x.r 13, x.r 14, x.r 15] (↑x_2 : Int).toNat)).r 0, (getD (selS [x.r 0, x.r 1, x.r 2, x.r 3, x.r 4, x.r 5, x.r 6, x.r 7, x.r 8, x.r 9, x.r 10, x.r 11, x.r 12, x.r 13, x.r 14, x.r 15] (↑x_2 : Int).toNat)).r 1, (getD (selS [x.r 0, x.r 1, x.r 2, x.r 3, x.r 4, x.r 5, x.r 6, x.r 7, x.r 8, x.r 9, x.r 10, x.r 11, x.r 12, x.r 13, x.r 14, x.r 15] (↑x_2 : Int).toNat)).r 2, (getD (selS [x.r 0, x.r 1, x.r 2, x.r 3, x.r 4, x.r 5, x.r 6, x.r 7, x.r 8, x.r 9, x.r 10, x.r 11, x.r 12, x.r 13, x.r 14, x.r 15] (↑x_2 : Int).toNat)).r 3, (getD (selS [x.r 0, x.r 1, x.r 2, x.r 3, x.r 4, x.r 5, x.r 6, x.r 7, x.r 8, x.r 9, x.r 10, x.r 11, x.r 12, x.r 13, x.r 14, x.r 15] (↑x_2 : Int).toNat)).r 4, (getD (selS [x.r 0, x.r 1, x.r 2, x.r 3, x.r 4, x.r 5, x.r 6, x.r 7, x.r 8, x.r 9, x.r 10, x.r 11, x.r 12, x.r 13, x.r 14, x.r 15] (↑x_2 : Int).toNat)).r 5, (getD (selS [x.r 0, x.r 1, x.r 2, x.r 3, x.r 4, x.r 5, x.r 6, x.r 7, x.r 8, x.r 9, x.r 10, x.r 11, x.r 12, x.r 13, x.r 14, x.r 15] (↑x_2 : Int).toNat)).r 6, (getD (selS [x.r 0, x.r 1, x.r 2, x.r 3, x.r 4, x.r 5, x.r 6, x.r 7, x.r 8, x.r 9, x.r 10, x.r 11, x.r 12, x.r 13, x.r 14, x.r 15] (↑x_2 : Int).toNat)).r 7, (getD (selS [x.r 0, x.r 1, x.r 2, x.r 3, x.r 4, x.r 5, x.r 6, x.r 7, x.r 8, x.r 9, x.r 10, x.r 11, x.r 12, x.r 13, x.r 14, x.r 15] (↑x_2 : Int).toNat)).r 8, (getD (selS [x.r 0, x.r 1, x.r 2, x.r 3, x.r 4, x.r 5, x.r 6, x.r 7, x.r 8, x.r 9, x.r 10, x.r 11, x.r 12, x.r 13, x.r 14, x.r 15] (↑x_2 : Int).toNat)).r 9, (getD (selS [x.r 0, x.r 1, x.r 2, x.r 3, x.r 4, x.r 5, x.r 6, x.r 7, x.r 8, x.r 9, x.r 10, x.r 11, x.r 12, x.r 13, x.r 14, x.r 15] (↑x_2 : Int).toNat)).r 10, (getD (selS [x.r 0, x.r 1, x.r 2, x.r 3, x.r 4, x.r 5, x.r 6, x.r 7, x.r 8, x.r 9, x.r 10, x.r 11, x.r 12, x.r 13, x.r 14, x.r 15] (↑x_2 : Int).toNat)).r 11, (getD (selS [x.r 0, x.r 1, x.r 2, x.r 3, x.r 4, x.r 5, x.r 6, x.r 7, x.r 8, x.r 9, x.r 10, x.r 11, x.r 12, x.r 13, x.r 14, x.r 15] (↑x_2 : Int).toNat)).r 12, (getD (selS [x.r 0, x.r 1, x.r 2, x.r 3, x.r 4, x.r 5, x.r 6, x.r 7, x.r 8, x.r 9, x.r 10, x.r 11, x.r 12, x.r 13, x.r 14, x.r 15] (↑x_2 : Int).toNat)).r 13, (getD (selS [x.r 0, x.r 1, x.r 2, x.r 3, x.r 4, x.r 5, x.r 6, x.r 7, x.r 8, x.r 9, x.r 10, x.r 11, x.r 12, x.r 13, x.r 14, x.r 15] (↑x_2 : Int).toNat)).r 14, (getD (selS [x.r 0, x.r 1, x.r 2, x.r 3, x.r 4, x.r 5, x.r 6, x.r 7, x.r 8, x.r 9, x.r 10, x.r 11, x.r 12, x.r 13, x.r 14, x.r 15] (↑x_2 : Int).toNat)).r 15].getD i [] : Nd } ∧
 some (SB.cells SV.nilslc.cells 1 32) = some (SB.cells SV.nilslc.cells 1 32) ∧
 ((-9223372036854775808 : Int) ≤ (↑x_2 : Int) + (1 : Int) ∧
 (↑x_2 : Int) + (1 : Int) ≤ (9223372036854775807 : Int)) ∧
 ∃ (y : Nat), (y ≤ (16 : Nat) ∧
 (16 : Nat) - y < (16 : Nat) - x_2) ∧
 (↑x_2 : Int) + (1 : Int) = (↑y : Int) ∧
 SBle (SB.loop LoopState.ready none R_1) (SB.loop LoopState.ready none R_1) ∧
 SBle Q0 Q0 ∧
 SBle (SB.cells [SV.nilslc] 1 32) (SB.cells [SV.nilslc] 1 32) ∧
 SBle (SB.cells x.sv.cells 19 25) (SB.cells x.sv.cells 19 25) ∧
 True) ∧
 (inlB (selS [x.r 0, x.r 1, x.r 2, x.r 3, x.r 4, x.r 5, x.r 6, x.r 7, x.r 8, x.r 9, x.r 10, x.r 11, x.r 12, x.r 13, x.r 14, x.r 15] (↑x_2 : Int).toNat) = false →
 Near L { k := (0 : Int), p := [], v := [], r := fun (i : Nat) => [[], [], [], [], [], [], [], [], [], [], [], [], [], [], [], []].getD i [] : Nd } ∧
 some (SB.cells SV.nilslc.cells 1 32) = some (SB.cells SV.nilslc.cells 1 32) ∧
 ((-9223372036854775808 : Int) ≤ (↑x_2 : Int) + (1 : Int) ∧
 (↑x_2 : Int) + (1 : Int) ≤ (9223372036854775807 : Int)) ∧
 ∃ (y : Nat), (y ≤ (16 : Nat) ∧
 (16 : Nat) - y < (16 : Nat) - x_2) ∧
 (↑x_2 : Int) + (1 : Int) = (↑y : Int) ∧
 SBle (SB.loop LoopState.ready none R_1) (SB.loop LoopState.ready none R_1) ∧
 SBle Q0 Q0 ∧
 SBle (SB.cells [SV.nilslc] 1 32) (SB.cells [SV.nilslc] 1 32) ∧
 SBle (SB.cells x.sv.cells 19 25) (SB.cells x.sv.cells 19 25) ∧
 True))) ∧
 ((!decide (selS [x.r 0, x.r 1, x.r 2, x.r 3, x.r 4, x.r 5, x.r 6, x.r 7, x.r 8, x.r 9, x.r 10, x.r 11, x.r 12, x.r 13, x.r 14, x.r 15] (↑x_2 : Int).toNat = [])) = false →
 ((-9223372036854775808 : Int) ≤ (↑x_2 : Int) + (1 : Int) ∧
 (↑x_2 : Int) + (1 : Int) ≤ (9223372036854775807 : Int)) ∧
 ∃ (y : Nat), (y ≤ (16 : Nat) ∧
 (16 : Nat) - y < (16 : Nat) - x_2) ∧
 (↑x_2 : Int) + (1 : Int) = (↑y : Int) ∧
 SBle (SB.loop LoopState.ready none R_1) (SB.loop LoopState.ready none R_1) ∧
 SBle Q0 Q0 ∧
 SBle (SB.cells SV.nilslc.cells 1 32) (SB.cells SV.nilslc.cells 1 32) ∧
 SBle (SB.cells x.sv.cells 19 25) (SB.cells x.sv.cells 19 25) ∧
 True)) ∧
 (decide ((↑x_2 : Int) < (16 : Int)) = false →
 R SV.nilslc)))) (SB.cells (SV.agg [SV.int .i64 false x.k, SV.str false x.p, SV.str false x.v, SV.str false (x.r 0), SV.str false (x.r 1), SV.str false (x.r 2), SV.str false (x.r 3), SV.str false (x.r 4), SV.str false (x.r 5), SV.str false (x.r 6), SV.str false (x.r 7), SV.str false (x.r 8), SV.str false (x.r 9), SV.str false (x.r 10), SV.str false (x.r 11), SV.str false (x.r 12), SV.str false (x.r 13), SV.str false (x.r 14), SV.str false (x.r 15)]).cells 19 44)) := by kernel_rfl
theorem vcHashes (x : Nd) : VC.holds (runA (cfgHs x) 12 Tryz.f12 [x.sv] (hashesA x)) = ((fun Q0 : SB => ((RelR 9223372036854775808 fun (i : Nat) => [x.r 0, x.r 1, x.r 2, x.r 3, x.r 4, x.r 5, x.r 6, x.r 7, x.r 8, x.r 9, x.r 10, x.r 11, x.r 12, x.r 13, x.r 14, x.r 15].getD i []) ∧
 ((!validB { k := x.k, p := x.p, v := x.v, r := fun (i : Nat) => [x.r 0, x.r 1, x.r 2, x.r 3, x.r 4, x.r 5, x.r 6, x.r 7, x.r 8, x.r 9, x.r 10, x.r 11, x.r 12, x.r 13, x.r 14, x.r 15].getD i [] : Nd }) = true →
 (validB x = true →
 ∃ (x_3 : Nat), hashN x.r (16 : Nat) ≤ x_3 ∧
 False) ∧
 (validB x = false →
 sameVal SV.nilslc SV.nilslc)) ∧
 ((!validB { k := x.k, p := x.p, v := x.v, r := fun (i : Nat) => [x.r 0, x.r 1, x.r 2, x.r 3, x.r 4, x.r 5, x.r 6, x.r 7, x.r 8, x.r 9, x.r 10, x.r 11, x.r 12, x.r 13, x.r 14, x.r 15].getD i [] : Nd }) = false →
 ∀ (R : Loop), (∃ (y : Nat × Nat), (y.fst ≤ (16 : Nat) ∧
 hashN x.r y.fst ≤ y.snd) ∧
 (0 : Int) = (↑y.fst : Int) ∧
 (1 : Nat) = (1 : Nat) ∧
 hashN x.r y.fst = (0 : Nat) ∧
 (SB.rows true (hashN x.r y.fst) [Col.str (hashAt x.r y.fst)] false y.snd 9).no = true ∧
 SBle (SB.loop LoopState.ready none R) (SB.loop LoopState.ready none R) ∧
 SBle Q0 Q0 ∧
 SBle (SB.cells x.sv.cells 19 25) (SB.cells x.sv.cells 19 25) ∧
 True) ∧
 ∀ (x_2 : Nat × Nat), x_2.fst ≤ (16 : Nat) ∧
 hashN x.r x_2.fst ≤ x_2.snd →
 (decide ((↑x_2.fst : Int) < (16 : Int)) = true →
 ((0 : Int) ≤ (↑x_2.fst : Int) ∧
 (↑x_2.fst : Int) < (16 : Int) ∧
 (↑x_2.fst : Int) < (↑(16 : Nat) : Int)) ∧
 ((!decide (selS [x.r 0, x.r 1, x.r 2, x.r 3, x.r 4, x.r 5, x.r 6, x.r 7, x.r 8, x.r 9, x.r 10, x.r 11, x.r 12, x.r 13, x.r 14, x.r 15] (↑x_2.fst : Int).toNat = [])) = true →
 R = R ∧
 (selS [x.r 0, x.r 1, x.r 2, x.r 3, x.r 4, x.r 5, x.r 6, x.r 7, x.r 8, x.r 9, x.r 10, x.r 11, x.r 12, x.r 13, x.r 14, x.r 15] (↑x_2.fst : Int).toNat).length < (9223372036854775808 : Nat) ∧
 (hashB (selS [x.r 0, x.r 1, x.r 2, x.r 3, x.r 4, x.r 5, x.r 6, x.r 7, x.r 8, x.r 9, x.r 10, x.r 11, x.r 12, x.r 13, x.r 14, x.r 15] (↑x_2.fst : Int).toNat) = true →
 ((0 : Nat) + hashN x.r x_2.fst ≤ hashN x.r x_2.fst ∧
 True ∧
 (2 : Nat) * (hashN x.r x_2.fst + (1 : Nat)) * (16 : Nat) ≤ (281474976710656 : Nat) ∧
 hashN x.r x_2.fst + (1 : Nat) < (9223372036854775808 : Nat)) ∧
 x_2.snd = x_2.snd * (1 : Nat) ∧
 ∀ (c : Nat), hashN x.r x_2.fst + (1 : Nat) ≤ c →
 ((-9223372036854775808 : Int) ≤ (↑x_2.fst : Int) + (1 : Int) ∧
 (↑x_2.fst : Int) + (1 : Int) ≤ (9223372036854775807 : Int)) ∧
 ∃ (y : Nat × Nat), ((y.fst ≤ (16 : Nat) ∧
 hashN x.r y.fst ≤ y.snd) ∧
 (16 : Nat) - y.fst < (16 : Nat) - x_2.fst) ∧
 (↑x_2.fst : Int) + (1 : Int) = (↑y.fst : Int) ∧
 (1 : Nat) = (1 : Nat) ∧
 ((0 : Nat) = (0 : Nat) ∧
 hashN x.r x_2.fst + (1 : Nat) = hashN x.r y.fst ∧
 c = y.snd) ∧
 True ∧
 SBle (SB.rows true (hashN x.r x_2.fst + (1 : Nat)) [Col.str fun (j : Nat) => if j < hashN x.r x_2.fst then hashAt x.r x_2.fst j else selS [cutIn (selS [x.r 0, x.r 1, x.r 2, x.r 3, x.r 4, x.r 5, x.r 6, x.r 7, x.r 8, x.r 9, x.r 10, x.r 11, x.r 12, x.r 13, x.r 14, x.r 15] (↑x_2.fst : Int).toNat)] (j - hashN x.r x_2.fst)] false (c * (1 : Nat)) 9) (SB.rows true (hashN x.r y.fst) [Col.str (hashAt x.r y.fst)] false y.snd 9) ∧
 SBle (SB.loop LoopState.ready none R) (SB.loop LoopState.ready none R) ∧
 SBle Q0 Q0 ∧
 SBle (SB.cells x.sv.cells 19 25) (SB.cells x.sv.cells 19 25) ∧
 True) ∧
 (hashB (selS [x.r 0, x.r 1, x.r 2, x.r 3, x.r 4, x.r 5, x.r 6, x.r 7, x.r 8, x.r 9, x.r 10, x.r 11, x.r 12, x.r 13, x.r 14, x.r 15] (↑x_2.fst : Int).toNat) = false →
 Rel 9223372036854775808 (selS [x.r 0, x.r 1, x.r 2, x.r 3, x.r 4, x.r 5, x.r 6, x.r 7, x.r 8, x.r 9, x.r 10, x.r 11, x.r 12, x.r 13, x.r 14, x.r 15] (↑x_2.fst : Int).toNat) ∧
 (inlB (selS [x.r 0, x.r 1, x.r 2, x.r 3, x.r 4, x.r 5, x.r 6, x.r 7, x.r 8, x.r 9, x.r 10, x.r 11, x.r 12, x.r 13, x.r 14, x.r 15] (↑x_2.fst : Int).toNat) = true →
 Near 64 { k := (getD (selS [x.r 0, x.r 1, x.r 2, x.r 3, x.r 4, x.r 5, x.r 6, x.r 7, x.r 8, x.r 9, x.r 10, x.r 11, x.r 12, x.r 13, x.r 14, x.r 15] (↑x_2.fst : Int).toNat)).k, p := (getD (selS [x.r 0, x.r 1, x.r 2, x.r 3, x.r 4, x.r 5, x.r 6, x.r 7, x.r 8, x.r 9, x.r 10, x.r 11, x.r 12, x.r 13, x.r 14, x.r 15] (↑x_2.fst : Int).toNat)).p, v := (getD (selS [x.r 0, x.r 1, x.r 2, x.r 3, x.r 4, x.r 5, x.r 6, x.r 7, x.r 8, x.r 9, x.r 10, x.r 11, x.r 12, x.r 13, x.r 14, x.r 15] (↑x_2.fst : Int).toNat)).v, r := fun (i : Nat) => [(getD (selS [x.r 0, x.r 1, x.r 2, x.r 3, x.r 4, x.r 5, x.r 6, x.r 7, x.r 8, x.r 9, x.r 10, x.r 11, x.r 12, x.r 13, x.r 14, x.r 15] (↑x_2.fst : Int).toNat)).r 0, (getD (selS [x.r 0, x.r 1, x.r 2, x.r 3, x.r 4, x.r 5, x.r 6, x.r 7, x.r 8, x.r 9, x.r 10, x.r 11, x.r 12, x.r 13, x.r 14, x.r 15] (↑x_2.fst : Int).toNat)).r 1, (getD (selS [x.r 0, x.r 1, x.r 2, x.r 3, x.r 4, x.r 5, x.r 6, x.r 7, x.r 8, x.r 9, x.r 10, x.r 11, x.r 12, x.r 13, x.r 14, x.r 15] (↑x_2.fst : Int).toNat)).r 2, (getD (selS [x.r 0, x.r 1, x.r 2, x.r 3, x.r 4, x.r 5, x.r 6, x.r 7, x.r 8, x.r 9, x.r 10, x.r 11, x.r 12, x.r 13, x.r 14, x.r 15] (↑x_2.fst : Int).toNat)).r 3, (getD (selS [x.r 0, x.r 1, x.r 2, x.r 3, x.r 4, x.r 5, x.r 6, x.r 7, x.r 8, x.r 9, x.r 10, x.r 11, x.r 12, x.r 13, x.r 14, x.r 15] (↑x_2.fst : Int).toNat)).r 4, (getD (selS [x.r 0, x.r 1, x.r 2, x.r 3, x.r 4, x.r 5, x.r 6, x.r 7, x.r 8, x.r 9, x.r 10, x.r 11, x.r 12, x.r 13, x.r 14, x.r 15] (↑x_2.fst : Int).toNat)).r 5, (getD (selS [x.r 0, x.r 1, x.r 2, x.r 3, x.r 4, x.r 5, x.r 6, x.r 7, x.r 8, x.r 9, x.r 10, x.r 11, x.r 12, x.r 13, x.r 14, x.r 15] (↑x_2.fst : Int).toNat)).r 6, (getD (selS [x.r 0, x.r 1, x.r 2, x.r 3, x.r 4, x.r 5, x.r 6, x.r 7, x.r 8, x.r 9, x.r 10, x.r 11, x.r 12, x.r 13, x.r 14, x.r 15] (↑x_2.fst : Int).toNat)).r 7, (getD (selS [x.r 0, x.r 1, x.r 2, x.r 3, x.r 4, x.r 5, x.r 6, x.r 7, x.r 8, x.r 9, x.r 10, x.r 11, x.r 12, x.r 13, x.r 14, x.r 15] (↑x_2.fst : Int).toNat)).r 8, (getD (selS [x.r 0, x.r 1, x.r 2, x.r 3, x.r 4, x.r 5, x.r 6, x.r 7, x.r 8, x.r 9, x.r 10, x.r 11, x.r 12, x.r 13, x.r 14, x.r 15] (↑x_2.fst : Int).toNat)).r 9, (getD (selS [x.r 0, x.r 1, x.r 2, x.r 3, x.r 4, x.r 5, x.r 6, x.r 7, x.r 8, x.r 9, x.r 10, x.r 11, x.r 12, x.r 13, x.r 14, x.r 15] (↑x_2.fst : Int).toNat)).r 10, (getD (selS [x.r 0, x.r 1, x.r 2, x.r 3, x.r 4, x.r 5, x.r 6, x.r 7, x.r 8, x.r 9, x.r 10, x.r 11, x.r 12, x.r 13, x.r 14, x.r 15] (↑x_2.fst : Int).toNat)).r 11, (getD (selS [x.r 0, x.r 1, x.r 2, x.r 3, x.r 4, x.r 5, x.r 6, x.r 7, x.r 8, x.r 9, x.r 10, x.r 11, x.r 12, x.r 13, x.r 14, x.r 15] (↑x_2.fst : Int).toNat)).r 12, (getD (selS [x.r 0, x.r 1, x.r 2, x.r 3, x.r 4, x.r 5, x.r 6, x.r 7, x.r 8, x.r 9, x.r 10, x.r 11, x.r 12, x.r 13, x.r 14, x.r 15] (↑x_2.fst : Int).toNat)).r 13, (getD (selS [x.r 0, x.r 1, x.r 2, x.r 3, x.r 4, x.r 5, x.r 6, x.r 7, x.r 8, x.r 9, x.r 10, x.r 11, x.r 12, x.r 13, x.r 14, x.r 15] (↑x_2.fst : Int).toNat)).r 14, (getD (selS [x.r 0, x.r 1, x.r 2, x.r 3, x.r 4, x.r 5, x.r 6, x.r 7, x.r 8, x.r 9, x.r 10, x.r 11, x.r 12, x.r 13, x.r 14, x.r 15] (↑x_2.fst : Int).toNat)).r 15].getD i [] : Nd } ∧
 some (SB.cells [SV.rslc ((0 : Nat) + (1 : Nat) + (1 : Nat) + (1 : Nat) + (1 : Nat)) 1 true 0 (hashN x.r x_2.fst) x_2.snd] 1 32) = some (SB.cells [SV.rslc ((0 : Nat) + (1 : Nat) + (1 : Nat) + (1 : Nat) + (1 : Nat)) 1 true 0 (hashN x.r x_2.fst) x_2.snd] 1 32) ∧
 ((0 : Nat) + hashN x.r x_2.fst ≤ hashN x.r x_2.fst ∧
 True ∧
 (2 : Nat) * (hashN x.r x_2.fst + (0 : Nat)) * (16 : Nat) ≤ (281474976710656 : Nat) ∧
 hashN x.r x_2.fst + (0 : Nat) < (9223372036854775808 : Nat)) ∧
 x_2.snd = x_2.snd * (1 : Nat) ∧
 ∀ (c : Nat), hashN x.r x_2.fst + (0 : Nat) ≤ c →
 ((-9223372036854775808 : Int) ≤ (↑x_2.fst : Int) + (1 : Int) ∧
 (↑x_2.fst : Int) + (1 : Int) ≤ (9223372036854775807 : Int)) ∧
 ∃ (y : Nat × Nat), ((y.fst ≤ (16 : Nat) ∧
 hashN x.r y.fst ≤ y.snd) ∧
 (16 : Nat) - y.fst < (16 : Nat) - x_2.fst) ∧
 (↑x_2.fst : Int) + (1 : Int) = (↑y.fst : Int) ∧
 (1 : Nat) = (1 : Nat) ∧
 ((0 : Nat) = (0 : Nat) ∧
 hashN x.r x_2.fst + (0 : Nat) = hashN x.r y.fst ∧
 c = y.snd) ∧
 True ∧
 SBle (SB.rows true (hashN x.r x_2.fst + (0 : Nat)) [Col.str (hashAt x.r x_2.fst)] false (c * (1 : Nat)) 9) (SB.rows true (hashN x.r y.fst) [Col.str (hashAt x.r y.fst)] false y.snd 9) ∧
 SBle (SB.loop LoopState.ready none R) (SB.loop LoopState.ready none R) ∧
 SBle Q0 Q0 ∧
 SBle (SB.cells x.sv.cells 19 25) (SB.cells x.sv.cells 19 25) ∧
 True) ∧
 (inlB (selS [x.r 0, x.r 1, x.r 2, x.r 3, x.r 4, x.r 5, x.r 6, x.r 7, x.r 8, x.r 9, x.r 10, x.r 11, x.r 12, x.r 13, x.r 14, x.r 15] (↑x_2.fst : Int).toNat) = false →
 Near 64 { k := (0 : Int), p := [], v := [], r := fun (i : Nat) => [[], [], [], [], [], [], [], [], [], [], [], [], [], [], [], []].getD i [] : Nd } ∧
 some (SB.cells [SV.rslc ((0 : Nat) + (1 : Nat) + (1 : Nat) + (1 : Nat) + (1 : Nat)) 1 true 0 (hashN x.r x_2.fst) x_2.snd] 1 32) = some (SB.cells [SV.rslc ((0 : Nat) + (1 : Nat) + (1 : Nat) + (1 : Nat) + (1 : Nat)) 1 true 0 (hashN x.r x_2.fst) x_2.snd] 1 32) ∧
 ((0 : Nat) + hashN x.r x_2.fst ≤ hashN x.r x_2.fst ∧
 True ∧
 (2 : Nat) * (hashN x.r x_2.fst + (0 : Nat)) * (16 : Nat) ≤ (281474976710656 : Nat) ∧
 hashN x.r x_2.fst + (0 : Nat) < (9223372036854775808 : Nat)) ∧
 x_2.snd = x_2.snd * (1 : Nat) ∧
 ∀ (c : Nat), hashN x.r x_2.fst + (0 : Nat) ≤ c →
 ((-9223372036854775808 : Int) ≤ (↑x_2.fst : Int) + (1 : Int) ∧
 (↑x_2.fst : Int) + (1 : Int) ≤ (9223372036854775807 : Int)) ∧
 ∃ (y : Nat × Nat), ((y.fst ≤ (16 : Nat) ∧
 hashN x.r y.fst ≤ y.snd) ∧
 (16 : Nat) - y.fst < (16 : Nat) - x_2.fst) ∧
 (↑x_2.fst : Int) + (1 : Int) = (↑y.fst : Int) ∧
 (1 : Nat) = (1 : Nat) ∧
 ((0 : Nat) = (0 : Nat) ∧
 hashN x.r x_2.fst + (0 : Nat) = hashN x.r y.fst ∧
 c = y.snd) ∧
 True ∧
 SBle (SB.rows true (hashN x.r x_2.fst + (0 : Nat)) [Col.str (hashAt x.r x_2.fst)] false (c * (1 : Nat)) 9) (SB.rows true (hashN x.r y.fst) [Col.str (hashAt x.r y.fst)] false y.snd 9) ∧
 SBle (SB.loop LoopState.ready none R) (SB.loop LoopState.ready none R) ∧
 SBle Q0 Q0 ∧
 SBle (SB.cells x.sv.cells 19 25) (SB.cells x.sv.cells 19 25) ∧
 True))) ∧
 ((!decide (selS [x.r 0, x.r 1, x.r 2, x.r 3, x.r 4, x.r 5, x.r 6, x.r 7, x.r 8, x.r 9, x.r 10, x.r 11, x.r 12, x.r 13, x.r 14, x.r 15] (↑x_2.fst : Int).toNat = [])) = false →
 ((-9223372036854775808 : Int) ≤ (↑x_2.fst : Int) + (1 : Int) ∧
 (↑x_2.fst : Int) + (1 : Int) ≤ (9223372036854775807 : Int)) ∧
 ∃ (y : Nat × Nat), ((y.fst ≤ (16 : Nat) ∧
 hashN x.r y.fst ≤ y.snd) ∧
 (16 : Nat) - y.fst < (16 : Nat) - x_2.fst) ∧
 (↑x_2.fst : Int) + (1 : Int) = (↑y.fst : Int) ∧
 (1 : Nat) = (1 : Nat) ∧
 ((0 : Nat) = (0 : Nat) ∧
 hashN x.r x_2.fst = hashN x.r y.fst ∧
 x_2.snd = y.snd) ∧
 True ∧
 SBle (SB.rows true (hashN x.r x_2.fst) [Col.str (hashAt x.r x_2.fst)] false x_2.snd 9) (SB.rows true (hashN x.r y.fst) [Col.str (hashAt x.r y.fst)] false y.snd 9) ∧
 SBle (SB.loop LoopState.ready none R) (SB.loop LoopState.ready none R) ∧
 SBle Q0 Q0 ∧
 SBle (SB.cells x.sv.cells 19 25) (SB.cells x.sv.cells 19 25) ∧
 True)) ∧
 (decide ((↑x_2.fst : Int) < (16 : Int)) = false →
 (validB x = true →
 ∃ (x_6 : Nat), hashN x.r (16 : Nat) ≤ x_6 ∧
 SBle (SB.rows true (hashN x.r x_2.fst) [Col.str (hashAt x.r x_2.fst)] false x_2.snd 9) (SB.rows true (hashN x.r 16) [Col.str (hashAt x.r 16)] false x_6 9) ∧
 sameVal (SV.rslc ((0 : Nat) + (1 : Nat) + (1 : Nat) + (1 : Nat) + (1 : Nat)) 1 true 0 (hashN x.r x_2.fst) x_2.snd) (SV.rslc ((0 : Nat) + (1 : Nat) + (1 : Nat) + (1 : Nat) + (1 : Nat)) 1 true 0 (hashN x.r 16) x_6)) ∧
 (validB x = false →
 sameVal (SV.rslc ((0 : Nat) + (1 : Nat) + (1 : Nat) + (1 : Nat) + (1 : Nat)) 1 true 0 (hashN x.r x_2.fst) x_2.snd) SV.nilslc))))) (SB.cells (SV.agg [SV.int .i64 false x.k, SV.str false x.p, SV.str false x.v, SV.str false (x.r 0), SV.str false (x.r 1), SV.str false (x.r 2), SV.str false (x.r 3), SV.str false (x.r 4), SV.str false (x.r 5), SV.str false (x.r 6), SV.str false (x.r 7), SV.str false (x.r 8), SV.str false (x.r 9), SV.str false (x.r 10), SV.str false (x.r 11), SV.str false (x.r 12), SV.str false (x.r 13), SV.str false (x.r 14), SV.str false (x.r 15)]).cells 19 44)) := by kernel_rfl
end Go.Proofs.YtkfdcapnogklfaaGreatDoor
/-
  Node: Put, Ref, Collide, Hashes: the contracts.
-/
namespace Go.Proofs.YtkfdcapnogklfaaGreatDoor
open Go Sx
set_option maxRecDepth 20000
structure Nd.Same (x y : Nd) : Prop where
  k : x.k = y.k
  p : x.p = y.p
  v : x.v = y.v
  r : ∀ j, j < 16 → x.r j = y.r j
theorem mays_ext {inl : List UInt8 → Bool} {r r' : Nat → List UInt8} : ∀ {n : Nat}, (∀ j, j < n → r j = r' j) → mays inl r n = mays inl r' n ∧ fullN r n = fullN r' n
  | 0, _ => ⟨rfl, rfl⟩
  | n + 1, h => by
    obtain ⟨h1, h2⟩ := mays_ext (inl := inl) (n := n) fun j hj => h j (by omega)
    simp only [mays, fullN, h1, h2, h n (by omega), and_self]
theorem valid_ext {x y : Nd} (h : x.Same y) : validB x = validB y := by
  obtain ⟨h1, h2⟩ := mays_ext (inl := inlB) h.r
  have e0 : noneB x = noneB y := by
    unfold noneB
    rw [h.k, h.p, h.v]
    congr 3
    rw [Bool.eq_iff_iff, List.all_eq_true, List.all_eq_true]
    constructor
    · intro g j hj; rw [← h.r j (List.mem_range.1 hj)]; exact g j hj
    · intro g j hj; rw [h.r j (List.mem_range.1 hj)]; exact g j hj
  have e1 : leafB x = leafB y := by unfold leafB pathB; rw [h.p, h.v, behindI_congr h.r]
  have e2 : extW inlB x = extW inlB y := by unfold extW pathB; rw [h.p, h.v, behindI_congr h.r, h.r 0 (by decide)]
  have e3 : branchW inlB x = branchW inlB y := by unfold branchW; rw [h.p, h.v, h1, h2]
  unfold validB validW
  rw [h.k, e0, e1, e2, e3]
theorem put_ext {x y : Nd} (h : x.Same y) : putT x = putT y := by
  have e1 : leafT x = leafT y := by unfold leafT pathT; rw [h.p, h.v]
  have e2 : extT x = extT y := by unfold extT pathT; rw [h.p, h.r 0 (by decide)]
  have e3 : branchT x = branchT y := by
    have hb : ∀ j, j < 16 → brI x.r 16 j = brI y.r 16 j := fun j hj => by unfold brI; rw [h.r j hj]
    unfold branchT
    rw [hb 0 (by decide), hb 1 (by decide), hb 2 (by decide), hb 3 (by decide), hb 4 (by decide), hb 5 (by decide), hb 6 (by decide), hb 7 (by decide), hb 8 (by decide), hb 9 (by decide), hb 10 (by decide), hb 11 (by decide), hb 12 (by decide), hb 13 (by decide), hb 14 (by decide), hb 15 (by decide), h.v]
  unfold putT
  rw [h.k, e1, e2, e3]
theorem same_mk (x : Nd) : Nd.Same { k := x.k, p := x.p, v := x.v, r := fun (i : Nat) => [x.r 0, x.r 1, x.r 2, x.r 3, x.r 4, x.r 5, x.r 6, x.r 7, x.r 8, x.r 9, x.r 10, x.r 11, x.r 12, x.r 13, x.r 14, x.r 15].getD i [] } x := ⟨rfl, rfl, rfl, fun j hj => getD16 x.r j hj⟩
theorem Nd.Few.same {x y : Nd} (h : x.Same y) (hf : y.Few) : x.Few := ⟨by rw [h.p]; exact hf.p, by rw [h.v]; exact hf.v, fun j hj => by rw [h.r j hj]; exact hf.r j hj⟩
def Fits (x : Nd) : Prop := ∀ j, j < 16 → (x.r j).length < 9223372036854775808
theorem fits_rel {x : Nd} (h : Fits x) : RelR 9223372036854775808 (fun (i : Nat) => [x.r 0, x.r 1, x.r 2, x.r 3, x.r 4, x.r 5, x.r 6, x.r 7, x.r 8, x.r 9, x.r 10, x.r 11, x.r 12, x.r 13, x.r 14, x.r 15].getD i []) := fun j hj => by
  show Rel _ ([x.r 0, x.r 1, x.r 2, x.r 3, x.r 4, x.r 5, x.r 6, x.r 7, x.r 8, x.r 9, x.r 10, x.r 11, x.r 12, x.r 13, x.r 14, x.r 15].getD j [])
  rw [getD16 x.r j hj]
  exact ⟨.inl (h j hj), h j hj⟩
theorem nodePut_ok : CallOk Tryz.prog 7 (ansPT (ndSpecA fun x => some (Fits x, putA x))) := by
  refine ans_ok (n := 20) (fn := Tryz.f7) Tryz.func7 (by kernel_rfl) (by kernel_rfl) ?_
  intro args p a h hp
  obtain ⟨x, hx, hg⟩ := ndSpecA_eq h
  subst hx
  injection hg with hg; injection hg with h1 h2; subst h1; subst h2
  refine ⟨cfgF1, goodF1, rfl, fun b => by cases b <;> exact rfl, Holds.of_eq (vcNodePut x) ?_⟩
  have e := valid_ext (same_mk x)
  have e2 := put_ext (same_mk x)
  refine ⟨fits_rel hp, fun a => ?_, fun a => ?_⟩
  · rw [e] at a
    have a : validB x = false := by simpa using a
    rw [a]
    exact ⟨(fun h => by cases h), fun _ _ => rfl⟩
  · rw [e] at a
    have a : validB x = true := by simpa using a
    have hs := valid_short a
    rw [e2, a]
    exact ⟨⟨hs.k, Nd.Few.same (same_mk x) hs.few⟩, fun _ _ => rfl, fun h => by cases h⟩
theorem flat1 (s : List UInt8) : flat [s] = s := by simp [flat]
theorem ofQ1 {s : List UInt8} (h : s.length < 1152921504606846976) : True ∧ ofQ [s] := ⟨trivial, by rw [flat1]; exact h, by simp⟩
def refSpec : List SV → Option (Prop × SV)
  | [.str false s] => some (s.length < 1152921504606846976, .str false (refL s))
  | _ => none
theorem nodeRef_ok : CallOk Tryz.prog 20 (purePT refSpec) := by
  refine pure_ok goodF1 (n := 20) (fn := Tryz.f20) Tryz.func20 (by kernel_rfl) (by kernel_rfl) ?_
  intro args p r h hp
  unfold refSpec at h
  split at h
  · rename_i s
    injection h with h; injection h with h1 h2; subst h1; subst h2
    refine ⟨rfl, rfl, Holds.of_eq (vcRef s _) ⟨fun a => ?_, fun a => ⟨ofQ1 hp, by omega, ?_⟩⟩⟩
    · have a := of_decide_eq_true a
      exact str_same (by rw [refL, if_pos (by omega)])
    · have a := of_decide_eq_false a
      exact str_same (by rw [refL, if_neg (by omega), flat1])
  · cases h
theorem near_get {L : Nat} {x : Nd} (h : Near L x) : ∃ K, L = K + 1 ∧ ∀ j, j < 16 → x.r j = [] ∨ ((x.r j).length < K ∧ (x.r j).length < 32) := by
  cases L with
  | zero => exact h.elim
  | succ K => exact ⟨K, rfl, h⟩
theorem near_fits {L : Nat} {x : Nd} (h : Near L x) : Fits x := fun j hj => by
  obtain ⟨K, _, h⟩ := near_get h
  rcases h j hj with h | h
  · rw [h]; simp
  · omega
theorem near_in {L : Nat} {t : List UInt8} (hk : 0 ≤ shapeK t) (h : t.length < L) (h32 : t.length < 32) : Near L (getD t) := by
  cases L with
  | zero => exact absurd h (Nat.not_lt_zero _)
  | succ L =>
    intro j _
    by_cases e : (getD t).r j = []
    · exact .inl e
    · have := refs_lt hk j e
      exact .inr ⟨by omega, by omega⟩
theorem near_same {L : Nat} {x y : Nd} (h : x.Same y) (hn : Near L y) : Near L x := by
  cases L with
  | zero => exact hn.elim
  | succ L => intro j hj; rw [h.r j hj]; exact hn j hj
theorem near_zero {L : Nat} (h : 0 < L) : Near L zeroNd := by
  cases L with
  | zero => omega
  | succ L => intro j hj; exact .inl (getD16 (fun _ => []) j hj)
theorem inl_shape {t : List UInt8} (h : inlB t = true) : 0 ≤ shapeK t ∧ getB' t = true ∧ (getD t).k ≠ 0 := by
  rw [inl_eq] at h
  simp only [Bool.and_eq_true, decide_eq_true_eq, Bool.not_eq_true', decide_eq_false_iff_not] at h
  refine ⟨?_, h.2.1, h.2.2⟩
  by_cases g : 0 ≤ shapeK t
  · exact g
  · rw [get_no g] at h; exact absurd h.2.1 (by decide)
theorem near_step {L : Nat} (hH : CallOk Tryz.prog 12 (purePT (nearSpec L))) : CallOk Tryz.prog 12 (purePT (nearSpec (L + 1))) := by
  refine nd_ok Tryz.func12 (by kernel_rfl) (by kernel_rfl) fun x p v h hp => ?_
  injection h with h; injection h with h1 h2; subst h1; subst h2
  have hp : Near (L + 1) x := hp
  refine ⟨cfgNear L, [x.sv], ⟨mixes, SummOk.cons hH (purePT_mono _) listF1_ok, fns_ok⟩, fun E => rfl, rfl, rfl, Holds.of_eq (vcNear L x _) ?_⟩
  refine ⟨fits_rel (near_fits hp), fun _ _ => rfl, fun _ R => ⟨⟨0, by omega, rfl, SBle.refl _, SBle.refl _, SBle.refl _, SBle.refl _, trivial⟩, fun i hi => ⟨fun c => ?_, fun _ _ => rfl⟩⟩⟩
  have c := of_decide_eq_true c
  have ei : i < 16 := by omega
  rw [Int.toNat_natCast, sel16 x.r ei]
  refine ⟨by omega, fun d => ?_, fun d => ⟨by omega, i + 1, by omega, by omega, SBle.refl _, SBle.refl _, SBle.refl _, SBle.refl _, trivial⟩⟩
  have d : ¬ x.r i = [] := by simpa using d
  obtain ⟨hl, h32⟩ : (x.r i).length < L ∧ (x.r i).length < 32 := by
    rcases hp i ei with h | h
    · exact absurd h d
    · exact h
  have hlp : 0 < L := by omega
  refine ⟨rfl, by omega, fun e => ?_, fun e => ⟨⟨.inl (by omega), by omega⟩, fun f => ⟨?_, rfl, by omega, i + 1, by omega, by omega, SBle.refl _, SBle.refl _, SBle.refl _, SBle.refl _, trivial⟩, fun f => ⟨near_zero hlp, rfl, by omega, i + 1, by omega, by omega, SBle.refl _, SBle.refl _, SBle.refl _, SBle.refl _, trivial⟩⟩⟩
  · have := hash_len e
    omega
  · exact near_same (same_mk (getD (x.r i))) (near_in (inl_shape f).1 hl h32)
theorem near_all : ∀ L, CallOk Tryz.prog 12 (purePT (nearSpec L))
  | 0 => nd_ok Tryz.func12 (by kernel_rfl) (by kernel_rfl) fun x p v h hp => by
    injection h with h; injection h with h1 h2; subst h1
    exact hp.elim
  | L + 1 => near_step (near_all L)
theorem hashN_le (r : Nat → List UInt8) : ∀ i, hashN r i ≤ i
  | 0 => Nat.le_refl _
  | i + 1 => by
    have := hashN_le r i
    unfold hashN
    cases hashB (r i) <;> simp only [cond_true, cond_false] <;> omega
theorem goodHs (x : Nd) : Sx.Good Tryz.prog (cfgHs x) := ⟨mixes, SummOk.cons (near_all 64) (purePT_mono _) listF1_ok, fns_ok⟩
end Go.Proofs.YtkfdcapnogklfaaGreatDoor
/-
  Node: the hashes that a node refers to: the contract.
-/
namespace Go.Proofs.YtkfdcapnogklfaaGreatDoor
open Go Sx
set_option maxRecDepth 20000
theorem hashAt_step {r : Nat → List UInt8} {i : Nat} (h : hashB (r i) = true) (j : Nat) (hj : j < hashN r i + 1) : (if j < hashN r i then hashAt r i j else selS [cutIn (r i)] (j - hashN r i)) = hashAt r (i + 1) j := by
  show _ = (bif hashB (r i) then (if j = hashN r i then cutIn (r i) else hashAt r i j) else hashAt r i j)
  rw [h]
  simp only [cond_true]
  by_cases e : j < hashN r i
  · rw [if_pos e, if_neg (by omega)]
  · have e : j = hashN r i := by omega
    subst e
    rw [if_neg (by omega), if_pos rfl, Nat.sub_self]; rfl
theorem hashN_step {r : Nat → List UInt8} {i : Nat} (h : hashB (r i) = true) : hashN r (i + 1) = hashN r i + 1 := by rw [hashN, h]; rfl
theorem hashN_skip {r : Nat → List UInt8} {i : Nat} (h : hashB (r i) = false) : hashN r (i + 1) = hashN r i ∧ ∀ j, hashAt r (i + 1) j = hashAt r i j := by
  refine ⟨by rw [hashN, h]; rfl, fun j => ?_⟩
  show (bif hashB (r i) then (if j = hashN r i then cutIn (r i) else hashAt r i j) else hashAt r i j) = _
  rw [h]; rfl
theorem hashes_holds {x : Nd} (hp : Fits x) : Holds (runA (cfgHs x) 12 Tryz.f12 [x.sv] (hashesA x)) := by
  refine Holds.of_eq (vcHashes x) ?_
  have ev := valid_ext (same_mk x)
  rw [ev]
  refine ⟨fits_rel hp, fun a => ⟨fun b => ?_, fun _ _ => rfl⟩, fun a R => ⟨⟨(0, 0), ⟨Nat.zero_le _, Nat.le_refl _⟩, rfl, rfl, rfl, rfl, SBle.refl _, SBle.refl _, SBle.refl _, trivial⟩, fun g hg => ⟨fun c => ?_, fun c => ?_⟩⟩⟩
  · rw [b] at a; cases a
  · have c := of_decide_eq_true c
    have ei : g.1 < 16 := by omega
    rw [Int.toNat_natCast, sel16 x.r ei]
    have hf := hp g.1 ei
    have hn := hashN_le x.r g.1
    have hg2 := hg.2
    have hs : validB x = true := by simpa using a
    refine ⟨by omega, fun d => ?_, fun d => ?_⟩
    · have d : ¬ x.r g.1 = [] := by simpa using d
      refine ⟨rfl, hf, fun e => ?_, fun e => ⟨⟨.inl hf, hf⟩, fun f => ?_, fun f => ?_⟩⟩
      · refine ⟨⟨by omega, trivial, by omega, by omega⟩, by omega, fun cap hcap => ⟨by omega, (g.1 + 1, cap), ⟨⟨by show g.1 + 1 ≤ 16; omega, ?_⟩, by show 16 - (g.1 + 1) < _; omega⟩, by show (g.1 : Int) + 1 = ((g.1 + 1 : Nat) : Int); omega, rfl, ⟨rfl, (hashN_step e).symm, rfl⟩, trivial, ?_, SBle.refl _, SBle.refl _, SBle.refl _, trivial⟩⟩
        · show hashN x.r (g.1 + 1) ≤ cap
          rw [hashN_step e]; exact hcap
        · exact Sx.SBle.strRows (hashN_step e).symm (Nat.mul_one cap) fun j hj => hashAt_step e j hj
      · have hk := inl_shape f
        have hil := inl_len f
        refine ⟨near_same (same_mk (getD (x.r g.1))) (near_in hk.1 (by omega) hil), rfl, ⟨by omega, trivial, by omega, by omega⟩, by omega, fun cap hcap => ⟨by omega, (g.1 + 1, cap), ⟨⟨by show g.1 + 1 ≤ 16; omega, ?_⟩, by show 16 - (g.1 + 1) < _; omega⟩, by show (g.1 : Int) + 1 = ((g.1 + 1 : Nat) : Int); omega, rfl, ⟨rfl, (hashN_skip e).1.symm, rfl⟩, trivial, ?_, SBle.refl _, SBle.refl _, SBle.refl _, trivial⟩⟩
        · show hashN x.r (g.1 + 1) ≤ cap
          rw [(hashN_skip e).1]; exact hcap
        · exact Sx.SBle.strRows (hashN_skip e).1.symm (Nat.mul_one cap) fun j _ => ((hashN_skip e).2 j).symm
      · refine ⟨near_zero (by decide), rfl, ⟨by omega, trivial, by omega, by omega⟩, by omega, fun cap hcap => ⟨by omega, (g.1 + 1, cap), ⟨⟨by show g.1 + 1 ≤ 16; omega, ?_⟩, by show 16 - (g.1 + 1) < _; omega⟩, by show (g.1 : Int) + 1 = ((g.1 + 1 : Nat) : Int); omega, rfl, ⟨rfl, (hashN_skip e).1.symm, rfl⟩, trivial, ?_, SBle.refl _, SBle.refl _, SBle.refl _, trivial⟩⟩
        · show hashN x.r (g.1 + 1) ≤ cap
          rw [(hashN_skip e).1]; exact hcap
        · exact Sx.SBle.strRows (hashN_skip e).1.symm (Nat.mul_one cap) fun j _ => ((hashN_skip e).2 j).symm
    · have d : x.r g.1 = [] := by simpa using d
      have e : hashB (x.r g.1) = false := by rw [d]; rfl
      refine ⟨by omega, (g.1 + 1, g.2), ⟨⟨by show g.1 + 1 ≤ 16; omega, ?_⟩, by show 16 - (g.1 + 1) < _; omega⟩, by show (g.1 : Int) + 1 = ((g.1 + 1 : Nat) : Int); omega, rfl, ⟨rfl, (hashN_skip e).1.symm, rfl⟩, trivial, ?_, SBle.refl _, SBle.refl _, SBle.refl _, trivial⟩
      · show hashN x.r (g.1 + 1) ≤ g.2
        rw [(hashN_skip e).1]; exact hg2
      · exact Sx.SBle.strRows (hashN_skip e).1.symm rfl fun j _ => ((hashN_skip e).2 j).symm
  · have c := of_decide_eq_false c
    have hg1 := hg.1
    have e : g.1 = 16 := by omega
    have hg2 := hg.2
    rw [e] at hg2 ⊢
    exact ⟨fun _ => ⟨g.2, hg2, SBle.refl _, fun _ => rfl⟩, fun h => by rw [h] at a; cases a⟩
theorem hashes_ok : CallOk Tryz.prog 12 (ansPT (ndSpecA fun x => some (Fits x, hashesA x))) := by
  refine ans_ok (n := 20) (fn := Tryz.f12) Tryz.func12 (by kernel_rfl) (by kernel_rfl) ?_
  intro args p a h hp
  obtain ⟨x, hx, hg⟩ := ndSpecA_eq h
  subst hx
  injection hg with hg; injection hg with h1 h2; subst h1; subst h2
  refine ⟨cfgHs x, goodHs x, rfl, fun b => ?_, hashes_holds hp⟩
  cases b with
  | false => exact rfl
  | true =>
    intro c
    refine ⟨rfl, rfl, fun k => by simp [SV.wf, Nat.blt_eq], fun E E' k k' h => ?_⟩
    cases hn : hashN x.r 16 with
    | zero => rfl
    | succ n =>
      rw [hn] at h
      have hk : E k = E' k' := h rfl
      simp [SV.val, hk]
end Go.Proofs.YtkfdcapnogklfaaGreatDoor
