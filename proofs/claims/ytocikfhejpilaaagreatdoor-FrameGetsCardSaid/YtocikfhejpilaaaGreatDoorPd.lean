/-
  Frame: replies and notices: the set-up.
-/
import Derived.Test.YtocikfhejpilaaaGreatDoorPc
import Derived.Test.YtocikfhejpilaaaGreatDoorMg
import Derived.Test.YtocikfhejpilaaaGreatDoorPa
namespace Go.Proofs.YtocikfhejpilaaaGreatDoor
open Go Sx
set_option maxRecDepth 20000

/-- A function's run with slices that are read. -/
noncomputable def runV (cfg : Cfg) (f : Nat) (fn : Func) (args : List SV) (l : List Seen) (a : Ans) : VC := runFn Tryz.prog (calling Tryz.prog cfg 20) [] (cfg.anns f) cfg.rounds fn args (seenMem 0 l) l.length (fun v m _ => a.fit v m)
/-- A reply, but for its entries' place. -/
structure Rp where
  s : Int
  q : Int
  e : Int
  v : Int
  root : List UInt8
  n : Nat
  f : Nat → List UInt8
  g : Nat → List UInt8
  proof : List UInt8
  more : Bool
def Rp.sv (x : Rp) (u : SV) : SV := .agg [.int .i64 false x.s, .int .i64 false x.q, .int .i64 false x.e, .int .i64 false x.v, .str false x.root, u, .str false x.proof, .bool false x.more]
/-- A notice. -/
structure Nt where
  s : Int
  e : Int
  b : Int
  root : List UInt8
  n : Nat
  f : Nat → List UInt8
  g : Nat → List UInt8
  h : Nat → Bool
def Nt.sv (x : Nt) (u : SV) : SV := .agg [.int .i64 false x.s, .int .i64 false x.e, .int .i64 false x.b, .str false x.root, u]
def colsE (f g : Nat → List UInt8) : List Col := [.str f, .str g]
def colsC (f g : Nat → List UInt8) (h : Nat → Bool) : List Col := [.str f, .str g, .bool h]
def rowOk (f g : Nat → List UInt8) (i : Nat) : Bool := !(decide ((6 : Int) < ((f i).length : Int)) || decide ((80 : Int) < ((g i).length : Int)))
def rowsOk (n : Nat) (f g : Nat → List UInt8) : Bool := (List.range n).all (rowOk f g)
def rootOk (s : List UInt8) : Bool := decide ((s.length : Int) = 0) || decide ((s.length : Int) = 32)
def Rp.ok (x : Rp) : Bool := inRange x.s 0 1048576 && inRange x.q 0 1048576 && inRange x.v 0 1048576 && !decide (x.e < 0) && !decide (12 < x.e) && rootOk x.root && !decide ((8 : Int) < (x.n : Int)) && !decide ((65536 : Int) < (x.proof.length : Int)) && rowsOk x.n x.f x.g
def Nt.ok (x : Nt) : Bool := inRange x.s 0 1048576 && inRange x.b 0 1048576 && (decide (x.e = 0) || decide (x.e = 11)) && rootOk x.root && !decide ((80 : Int) < (x.n : Int)) && rowsOk x.n x.f x.g
def flagB (b : Bool) : List UInt8 := bif b then [1] else [128]
def rowE (f g : Nat → List UInt8) (i : Nat) : List UInt8 := listOf [textOf (f i), textOf (g i)]
def rowC (f g : Nat → List UInt8) (h : Nat → Bool) (i : Nat) : List UInt8 := listOf [textOf (f i), textOf (g i), flagB (h i)]
def Rp.rows (x : Rp) : List (List UInt8) := rowL (rowE x.f x.g) 0 x.n
def Nt.rows (x : Nt) : List (List UInt8) := rowL (rowC x.f x.g x.h) 0 x.n
def Rp.items (x : Rp) : List (List UInt8) := [numOf 1, numOf x.s, numOf x.q, numOf x.e, numOf x.v, textOf x.root, listOf x.rows, textOf x.proof, flagB x.more]
def Rp.put (x : Rp) : List UInt8 := listOf x.items
def Nt.items (x : Nt) : List (List UInt8) := [numOf 2, numOf x.s, numOf x.e, numOf x.b, textOf x.root, listOf x.rows]
def Nt.put (x : Nt) : List UInt8 := listOf x.items
/-- A loop over elements of which one may end it. -/
structure Upto (n : Nat) (t : Nat → Bool) (i : Nat) : Prop where
  le : i ≤ n
  all : ∀ j, j < i → t j = true
noncomputable def annUpto (tmp : Nat) (n : Nat) (t : Nat → Bool) : LoopAnn :=
  { α := Nat, pre := fun _ i => Upto n t i, mea := fun _ i => n - i, fresh := 0, slots := fun _ i => [(tmp, .int .i64 false i)], mem := fun _ _ => [] }
/-- A row of texts that grows to so many. -/
structure Grow (n : Nat) (x : Nat × Nat) : Prop where
  le : x.1 ≤ n
  cap : x.1 ≤ x.2
noncomputable def annGrow (tmp slot : Nat) (n : Nat) (f : Nat → List UInt8) : LoopAnn :=
  { α := Nat × Nat, pre := fun _ x => Grow n x, mea := fun _ x => n - x.1, fresh := 1, slots := fun st x => [(tmp, .int .i64 false x.1), (slot, .rslc st.nx 1 false 0 x.1 x.2)],
    mem := fun st x => [(st.nx, .rows false x.1 [.str f] false x.2 9)] }
def seenR (z : Bool) (o c : Nat) (x : Rp) (key : Option Nat) : Seen := ⟨key, z, o, x.n, c, colsE x.f x.g⟩
def seenC (z : Bool) (o c : Nat) (x : Nt) (key : Option Nat) : Seen := ⟨key, z, o, x.n, c, colsC x.f x.g x.h⟩
end Go.Proofs.YtocikfhejpilaaaGreatDoor
/-
  Conditions that the executor computes, written out by a program (vcgen.py).
-/
namespace Go.Proofs.YtocikfhejpilaaaGreatDoor
open Go Sx
set_option maxRecDepth 20000

theorem vcFRoot (s : List UInt8) (R : SV → Prop) : VC.holds (runP cfgF3 40 Tryz.f40 [.str false s] R) = ((decide ((↑s.length : Int) = (0 : Int)) = true →
 R (SV.bool true true)) ∧
 (decide ((↑s.length : Int) = (0 : Int)) = false →
 R (SV.bool (false && true) (decide ((↑s.length : Int) = (32 : Int)))))) := by kernel_rfl
end Go.Proofs.YtocikfhejpilaaaGreatDoor
/-
  Frame: roots: the contract; ValidReply, ValidNotice: the set-up.
-/
namespace Go.Proofs.YtocikfhejpilaaaGreatDoor
open Go Sx
set_option maxRecDepth 20000

def rootSpec : List SV → Option (Prop × SV)
  | [.str false s] => some (True, .bool false (rootOk s))
  | _ => none
theorem root_ok : CallOk Tryz.prog 40 (purePT rootSpec) := by
  refine pure_ok goodF3 (n := 20) (fn := Tryz.f40) Tryz.func40 (by kernel_rfl) (by kernel_rfl) ?_
  intro args p r h hp
  unfold rootSpec at h
  split at h
  · rename_i s
    injection h with h; injection h with h1 h2; subst h1; subst h2
    refine ⟨rfl, rfl, Holds.of_eq (vcFRoot s _) ⟨fun h => bool_same (by rw [rootOk, h]; rfl), fun h => bool_same (by rw [rootOk, h]; rfl)⟩⟩
  · cases h
noncomputable def listF5 : List (FuncId × PT) := (40, purePT rootSpec) :: listF4
theorem listF5_ok : SummOk Tryz.prog (fun f => lookPT f listF5) := .cons root_ok (purePT_mono _) listF4_ok
noncomputable def cfgVR (x : Rp) : Cfg := { cfg0 with summ := fun f => lookPT f listF5, anns := fun f => if f = 17 then [(8, always (annUpto 48 x.n (rowOk x.f x.g)))] else [] }
noncomputable def cfgVN (x : Nt) : Cfg := { cfg0 with summ := fun f => lookPT f listF5, anns := fun f => if f = 18 then [(6, always (annUpto 38 x.n (rowOk x.f x.g)))] else [] }
theorem goodVR (x : Rp) : Sx.Good Tryz.prog (cfgVR x) := ⟨mixes, listF5_ok, fns_ok⟩
theorem goodVN (x : Nt) : Sx.Good Tryz.prog (cfgVN x) := ⟨mixes, listF5_ok, fns_ok⟩
end Go.Proofs.YtocikfhejpilaaaGreatDoor
/-
  Conditions that the executor computes, written out by a program (vcgen.py).
-/
namespace Go.Proofs.YtocikfhejpilaaaGreatDoor
open Go Sx
set_option maxRecDepth 20000

theorem vcFVR (x : Rp) (z : Bool) (o c : Nat) (key : Option Nat) : VC.holds (runV (cfgVR x) 17 Tryz.f17 [x.sv (.vslc 0 2 z o 0 x.n c)] [seenR z o c x key] (.ret (.bool false x.ok))) = (True ∧
 ((!inRange x.s (0 : Int) (1048576 : Int)) = true →
 sameVal (SV.bool true false) (SV.bool false x.ok)) ∧
 ((!inRange x.s (0 : Int) (1048576 : Int)) = false →
 True ∧
 ((!inRange x.q (0 : Int) (1048576 : Int)) = true →
 sameVal (SV.bool true false) (SV.bool false x.ok)) ∧
 ((!inRange x.q (0 : Int) (1048576 : Int)) = false →
 True ∧
 ((!inRange x.v (0 : Int) (1048576 : Int)) = true →
 sameVal (SV.bool true false) (SV.bool false x.ok)) ∧
 ((!inRange x.v (0 : Int) (1048576 : Int)) = false →
 (decide (x.e < (0 : Int)) = true →
 sameVal (SV.bool true false) (SV.bool false x.ok)) ∧
 (decide (x.e < (0 : Int)) = false →
 (decide ((12 : Int) < x.e) = true →
 sameVal (SV.bool true false) (SV.bool false x.ok)) ∧
 (decide ((12 : Int) < x.e) = false →
 True ∧
 ((!rootOk x.root) = true →
 sameVal (SV.bool true false) (SV.bool false x.ok)) ∧
 ((!rootOk x.root) = false →
 (decide ((8 : Int) < (↑x.n : Int)) = true →
 sameVal (SV.bool true false) (SV.bool false x.ok)) ∧
 (decide ((8 : Int) < (↑x.n : Int)) = false →
 (decide ((65536 : Int) < (↑x.proof.length : Int)) = true →
 sameVal (SV.bool true false) (SV.bool false x.ok)) ∧
 (decide ((65536 : Int) < (↑x.proof.length : Int)) = false →
 (∃ (y : Nat), Upto x.n (rowOk x.f x.g) y ∧
 (0 : Int) = (↑y : Int) ∧
 SBle (SB.cells (x.sv (SV.vslc (0 : Nat) (2 : Nat) z o (0 : Nat) x.n c)).cells (8 : Nat) (27 : Nat)) (SB.cells (x.sv (SV.vslc (0 : Nat) (2 : Nat) z o (0 : Nat) x.n c)).cells (8 : Nat) (27 : Nat)) ∧
 SBle (seenR z o c x key).B (seenR z o c x key).B ∧
 True) ∧
 ∀ (x_9 : Nat), Upto x.n (rowOk x.f x.g) x_9 →
 (decide ((↑x_9 : Int) < (↑x.n : Int)) = true →
 ((0 : Int) ≤ (↑x_9 : Int) ∧
 (↑x_9 : Int) < (↑x.n : Int)) ∧
 (o = o ∧
 (0 : Nat) + (↑x_9 : Int).toNat < x.n) ∧
 (decide ((6 : Int) < (↑(x.f ((0 : Nat) + (↑x_9 : Int).toNat)).length : Int)) = true →
 sameVal (SV.bool true false) (SV.bool false x.ok)) ∧
 (decide ((6 : Int) < (↑(x.f ((0 : Nat) + (↑x_9 : Int).toNat)).length : Int)) = false →
 (decide ((80 : Int) < (↑(x.g ((0 : Nat) + (↑x_9 : Int).toNat)).length : Int)) = true →
 sameVal (SV.bool true false) (SV.bool false x.ok)) ∧
 (decide ((80 : Int) < (↑(x.g ((0 : Nat) + (↑x_9 : Int).toNat)).length : Int)) = false →
 ((-9223372036854775808 : Int) ≤ (↑x_9 : Int) + (1 : Int) ∧
 (↑x_9 : Int) + (1 : Int) ≤ (9223372036854775807 : Int)) ∧
 ∃ (y : Nat), (Upto x.n (rowOk x.f x.g) y ∧
 x.n - y < x.n - x_9) ∧
 (↑x_9 : Int) + (1 : Int) = (↑y : Int) ∧
 SBle (SB.cells (x.sv (SV.vslc (0 : Nat) (2 : Nat) z o (0 : Nat) x.n c)).cells (8 : Nat) (27 : Nat)) (SB.cells (x.sv (SV.vslc (0 : Nat) (2 : Nat) z o (0 : Nat) x.n c)).cells (8 : Nat) (27 : Nat)) ∧
 SBle (seenR z o c x key).B (seenR z o c x key).B ∧
 True))) ∧
 (decide ((↑x_9 : Int) < (↑x.n : Int)) = false →
 sameVal (SV.bool true true) (SV.bool false x.ok))))))))))) := by kernel_rfl
theorem vcFVN (x : Nt) (z : Bool) (o c : Nat) (key : Option Nat) : VC.holds (runV (cfgVN x) 18 Tryz.f18 [x.sv (.vslc 0 3 z o 0 x.n c)] [seenC z o c x key] (.ret (.bool false x.ok))) = (True ∧
 ((!inRange x.s (0 : Int) (1048576 : Int)) = true →
 sameVal (SV.bool true false) (SV.bool false x.ok)) ∧
 ((!inRange x.s (0 : Int) (1048576 : Int)) = false →
 True ∧
 ((!inRange x.b (0 : Int) (1048576 : Int)) = true →
 sameVal (SV.bool true false) (SV.bool false x.ok)) ∧
 ((!inRange x.b (0 : Int) (1048576 : Int)) = false →
 ((!decide (x.e = (0 : Int))) = true →
 ((!decide (x.e = (11 : Int))) = true →
 sameVal (SV.bool true false) (SV.bool false x.ok)) ∧
 ((!decide (x.e = (11 : Int))) = false →
 True ∧
 ((!rootOk x.root) = true →
 sameVal (SV.bool true false) (SV.bool false x.ok)) ∧
 ((!rootOk x.root) = false →
 (decide ((80 : Int) < (↑x.n : Int)) = true →
 sameVal (SV.bool true false) (SV.bool false x.ok)) ∧
 (decide ((80 : Int) < (↑x.n : Int)) = false →
 (∃ (y : Nat), Upto x.n (rowOk x.f x.g) y ∧
 (0 : Int) = (↑y : Int) ∧
 SBle (SB.cells (x.sv (SV.vslc (0 : Nat) (3 : Nat) z o (0 : Nat) x.n c)).cells (5 : Nat) (30 : Nat)) (SB.cells (x.sv (SV.vslc (0 : Nat) (3 : Nat) z o (0 : Nat) x.n c)).cells (5 : Nat) (30 : Nat)) ∧
 SBle (seenC z o c x key).B (seenC z o c x key).B ∧
 True) ∧
 ∀ (x_7 : Nat), Upto x.n (rowOk x.f x.g) x_7 →
 (decide ((↑x_7 : Int) < (↑x.n : Int)) = true →
 ((0 : Int) ≤ (↑x_7 : Int) ∧
 (↑x_7 : Int) < (↑x.n : Int)) ∧
 (o = o ∧
 (0 : Nat) + (↑x_7 : Int).toNat < x.n) ∧
 (decide ((6 : Int) < (↑(x.f ((0 : Nat) + (↑x_7 : Int).toNat)).length : Int)) = true →
 sameVal (SV.bool true false) (SV.bool false x.ok)) ∧
 (decide ((6 : Int) < (↑(x.f ((0 : Nat) + (↑x_7 : Int).toNat)).length : Int)) = false →
 (decide ((80 : Int) < (↑(x.g ((0 : Nat) + (↑x_7 : Int).toNat)).length : Int)) = true →
 sameVal (SV.bool true false) (SV.bool false x.ok)) ∧
 (decide ((80 : Int) < (↑(x.g ((0 : Nat) + (↑x_7 : Int).toNat)).length : Int)) = false →
 ((-9223372036854775808 : Int) ≤ (↑x_7 : Int) + (1 : Int) ∧
 (↑x_7 : Int) + (1 : Int) ≤ (9223372036854775807 : Int)) ∧
 ∃ (y : Nat), (Upto x.n (rowOk x.f x.g) y ∧
 x.n - y < x.n - x_7) ∧
 (↑x_7 : Int) + (1 : Int) = (↑y : Int) ∧
 SBle (SB.cells (x.sv (SV.vslc (0 : Nat) (3 : Nat) z o (0 : Nat) x.n c)).cells (5 : Nat) (30 : Nat)) (SB.cells (x.sv (SV.vslc (0 : Nat) (3 : Nat) z o (0 : Nat) x.n c)).cells (5 : Nat) (30 : Nat)) ∧
 SBle (seenC z o c x key).B (seenC z o c x key).B ∧
 True))) ∧
 (decide ((↑x_7 : Int) < (↑x.n : Int)) = false →
 sameVal (SV.bool true true) (SV.bool false x.ok)))))) ∧
 ((!decide (x.e = (0 : Int))) = false →
 True ∧
 ((!rootOk x.root) = true →
 sameVal (SV.bool true false) (SV.bool false x.ok)) ∧
 ((!rootOk x.root) = false →
 (decide ((80 : Int) < (↑x.n : Int)) = true →
 sameVal (SV.bool true false) (SV.bool false x.ok)) ∧
 (decide ((80 : Int) < (↑x.n : Int)) = false →
 (∃ (y : Nat), Upto x.n (rowOk x.f x.g) y ∧
 (0 : Int) = (↑y : Int) ∧
 SBle (SB.cells (x.sv (SV.vslc (0 : Nat) (3 : Nat) z o (0 : Nat) x.n c)).cells (5 : Nat) (30 : Nat)) (SB.cells (x.sv (SV.vslc (0 : Nat) (3 : Nat) z o (0 : Nat) x.n c)).cells (5 : Nat) (30 : Nat)) ∧
 SBle (seenC z o c x key).B (seenC z o c x key).B ∧
 True) ∧
 ∀ (x_6 : Nat), Upto x.n (rowOk x.f x.g) x_6 →
 (decide ((↑x_6 : Int) < (↑x.n : Int)) = true →
 ((0 : Int) ≤ (↑x_6 : Int) ∧
 (↑x_6 : Int) < (↑x.n : Int)) ∧
 (o = o ∧
 (0 : Nat) + (↑x_6 : Int).toNat < x.n) ∧
 (decide ((6 : Int) < (↑(x.f ((0 : Nat) + (↑x_6 : Int).toNat)).length : Int)) = true →
 sameVal (SV.bool true false) (SV.bool false x.ok)) ∧
 (decide ((6 : Int) < (↑(x.f ((0 : Nat) + (↑x_6 : Int).toNat)).length : Int)) = false →
 (decide ((80 : Int) < (↑(x.g ((0 : Nat) + (↑x_6 : Int).toNat)).length : Int)) = true →
 sameVal (SV.bool true false) (SV.bool false x.ok)) ∧
 (decide ((80 : Int) < (↑(x.g ((0 : Nat) + (↑x_6 : Int).toNat)).length : Int)) = false →
 ((-9223372036854775808 : Int) ≤ (↑x_6 : Int) + (1 : Int) ∧
 (↑x_6 : Int) + (1 : Int) ≤ (9223372036854775807 : Int)) ∧
 ∃ (y : Nat), (Upto x.n (rowOk x.f x.g) y ∧
 x.n - y < x.n - x_6) ∧
 (↑x_6 : Int) + (1 : Int) = (↑y : Int) ∧
 SBle (SB.cells (x.sv (SV.vslc (0 : Nat) (3 : Nat) z o (0 : Nat) x.n c)).cells (5 : Nat) (30 : Nat)) (SB.cells (x.sv (SV.vslc (0 : Nat) (3 : Nat) z o (0 : Nat) x.n c)).cells (5 : Nat) (30 : Nat)) ∧
 SBle (seenC z o c x key).B (seenC z o c x key).B ∧
 True))) ∧
 (decide ((↑x_6 : Int) < (↑x.n : Int)) = false →
 sameVal (SV.bool true true) (SV.bool false x.ok)))))))) := by kernel_rfl
end Go.Proofs.YtocikfhejpilaaaGreatDoor
/-
  Frame: ValidReply, ValidNotice: the contracts.
-/
namespace Go.Proofs.YtocikfhejpilaaaGreatDoor
open Go Sx
set_option maxRecDepth 20000

theorem upto_all {n i : Nat} {t : Nat → Bool} (h : Upto n t i) (hi : ¬ (i : Int) < (n : Int)) : (List.range n).all t = true := by
  rw [List.all_eq_true]
  intro j hj
  have := List.mem_range.1 hj
  exact h.all j (by omega)
theorem upto_none {n i : Nat} {t : Nat → Bool} (hi : (i : Int) < (n : Int)) (ht : t i = false) : (List.range n).all t = false := by
  rw [List.all_eq_false]
  exact ⟨i, List.mem_range.2 (by omega), by rw [ht]; decide⟩
theorem upto_next {n i : Nat} {t : Nat → Bool} (h : Upto n t i) (hi : (i : Int) < (n : Int)) (ht : t i = true) : Upto n t (i + 1) := ⟨by omega, fun j hj => by
  by_cases e : j = i
  · subst e; exact ht
  · exact h.all j (by omega)⟩
theorem rowOk_true {f g : Nat → List UInt8} {i : Nat} (h1 : ¬ (6 : Int) < ((f i).length : Int)) (h2 : ¬ (80 : Int) < ((g i).length : Int)) : rowOk f g i = true := by
  rw [rowOk, decide_eq_false h1, decide_eq_false h2]; rfl
theorem rowOk_f {f g : Nat → List UInt8} {i : Nat} (h1 : (6 : Int) < ((f i).length : Int)) : rowOk f g i = false := by
  rw [rowOk, decide_eq_true h1]; rfl
theorem rowOk_g {f g : Nat → List UInt8} {i : Nat} (h1 : (80 : Int) < ((g i).length : Int)) : rowOk f g i = false := by
  rw [rowOk, decide_eq_true h1, Bool.or_true]; rfl
set_option maxHeartbeats 4000000 in
theorem fvr_holds (x : Rp) (z : Bool) (o c : Nat) (key : Option Nat) : Holds (runV (cfgVR x) 17 Tryz.f17 [x.sv (.vslc 0 2 z o 0 x.n c)] [seenR z o c x key] (.ret (.bool false x.ok))) := by
  refine Holds.of_eq (vcFVR x z o c key) ?_
  simp only [Int.toNat_natCast, Nat.zero_add]
  unfold Rp.ok
  generalize inRange x.s 0 1048576 = b1
  generalize inRange x.q 0 1048576 = b2
  generalize inRange x.v 0 1048576 = b3
  generalize decide (x.e < 0) = b4
  generalize decide (12 < x.e) = b5
  generalize rootOk x.root = b6
  generalize decide ((65536 : Int) < (x.proof.length : Int)) = b8
  generalize hr : rowsOk x.n x.f x.g = b9
  repeat' first
    | exact trivial
    | exact SBle.refl _
    | apply And.intro
    | intro (_ : _ = true)
    | intro (_ : _ = false)
    | refine ⟨0, ⟨Nat.zero_le _, fun j hj => absurd hj (Nat.not_lt_zero _)⟩, rfl, ?_⟩
    | intro (i : Nat) (hi : Upto _ _ i)
    | refine ⟨i + 1, ⟨upto_next hi ?_ ?_, ?_⟩, ?_, ?_⟩
    | fail
  all_goals try simp only [decide_eq_true_eq, decide_eq_false_iff_not] at *
  all_goals first
    | omega
    | exact rowOk_true (by assumption) (by assumption)
    | (apply bool_same; subst hr; rw [rowsOk, upto_all hi (by assumption)]; simp_all; done)
    | (apply bool_same; subst hr; rw [rowsOk, upto_none (i := i) (by assumption) (rowOk_f (by assumption))]; simp_all; done)
    | (apply bool_same; subst hr; rw [rowsOk, upto_none (i := i) (by assumption) (rowOk_g (by assumption))]; simp_all; done)
    | (apply bool_same; simp_all; done)
set_option maxHeartbeats 4000000 in
theorem fvn_holds (x : Nt) (z : Bool) (o c : Nat) (key : Option Nat) : Holds (runV (cfgVN x) 18 Tryz.f18 [x.sv (.vslc 0 3 z o 0 x.n c)] [seenC z o c x key] (.ret (.bool false x.ok))) := by
  refine Holds.of_eq (vcFVN x z o c key) ?_
  simp only [Int.toNat_natCast, Nat.zero_add]
  unfold Nt.ok
  generalize inRange x.s 0 1048576 = b1
  generalize inRange x.b 0 1048576 = b2
  generalize decide (x.e = 0) = b4
  generalize decide (x.e = 11) = b5
  generalize rootOk x.root = b6
  generalize hr : rowsOk x.n x.f x.g = b9
  repeat' first
    | exact trivial
    | exact SBle.refl _
    | apply And.intro
    | intro (_ : _ = true)
    | intro (_ : _ = false)
    | refine ⟨0, ⟨Nat.zero_le _, fun j hj => absurd hj (Nat.not_lt_zero _)⟩, rfl, ?_⟩
    | intro (i : Nat) (hi : Upto _ _ i)
    | refine ⟨i + 1, ⟨upto_next hi ?_ ?_, ?_⟩, ?_, ?_⟩
    | fail
  all_goals try simp only [decide_eq_true_eq, decide_eq_false_iff_not] at *
  all_goals first
    | omega
    | exact rowOk_true (by assumption) (by assumption)
    | (apply bool_same; subst hr; rw [rowsOk, upto_all hi (by assumption)]; simp_all; done)
    | (apply bool_same; subst hr; rw [rowsOk, upto_none (i := i) (by assumption) (rowOk_f (by assumption))]; simp_all; done)
    | (apply bool_same; subst hr; rw [rowsOk, upto_none (i := i) (by assumption) (rowOk_g (by assumption))]; simp_all; done)
    | (apply bool_same; simp_all; done)
def replyOf (vs : List SV) (l : List Seen) : Option (Rp × Bool × Nat × Nat × Option Nat) := match vs, l with
  | [.agg [.int .i64 false s, .int .i64 false q, .int .i64 false e, .int .i64 false v, .str false root, _, .str false proof, .bool false more]], [⟨key, z, o, n, c, [.str f, .str g]⟩] => some (⟨s, q, e, v, root, n, f, g, proof, more⟩, z, o, c, key)
  | _, _ => none
def noticeOf (vs : List SV) (l : List Seen) : Option (Nt × Bool × Nat × Nat × Option Nat) := match vs, l with
  | [.agg [.int .i64 false s, .int .i64 false e, .int .i64 false b, .str false root, _]], [⟨key, z, o, n, c, [.str f, .str g, .bool h]⟩] => some (⟨s, e, b, root, n, f, g, h⟩, z, o, c, key)
  | _, _ => none
def dE : List Col := [.str fun _ => [], .str fun _ => []]
def dC : List Col := [.str fun _ => [], .str fun _ => [], .bool fun _ => false]
def shR : List Sh2 := [.agg [.one, .one, .one, .one, .one, .slice dE, .one, .one]]
def shN : List Sh2 := [.agg [.one, .one, .one, .one, .slice dC]]
theorem replyOf_eq {vs : List SV} {l : List Seen} {x : Rp} {z : Bool} {o c : Nat} {key : Option Nat} (h : replyOf vs l = some (x, z, o, c, key)) : filled shR vs l = [x.sv (.vslc 0 2 z o 0 x.n c)] ∧ l = [seenR z o c x key] := by
  unfold replyOf at h
  split at h
  · injection h with h; injection h with h1 h; injection h with h2 h; injection h with h3 h; injection h with h4 h5
    subst h1; subst h2; subst h3; subst h4; subst h5
    exact ⟨rfl, rfl⟩
  · cases h
theorem noticeOf_eq {vs : List SV} {l : List Seen} {x : Nt} {z : Bool} {o c : Nat} {key : Option Nat} (h : noticeOf vs l = some (x, z, o, c, key)) : filled shN vs l = [x.sv (.vslc 0 3 z o 0 x.n c)] ∧ l = [seenC z o c x key] := by
  unfold noticeOf at h
  split at h
  · injection h with h; injection h with h1 h; injection h with h2 h; injection h with h3 h; injection h with h4 h5
    subst h1; subst h2; subst h3; subst h4; subst h5
    exact ⟨rfl, rfl⟩
  · cases h
def fvrSpec (vs : List SV) (l : List Seen) : Option (Prop × Ans) := match replyOf vs l with
  | some (x, _) => some (True, .ret (.bool false x.ok))
  | none => none
def fvnSpec (vs : List SV) (l : List Seen) : Option (Prop × Ans) := match noticeOf vs l with
  | some (x, _) => some (True, .ret (.bool false x.ok))
  | none => none
theorem fvr_ok : CallOk Tryz.prog 17 (ansVPT shR fvrSpec) := by
  refine ansV_ok (n := 20) (fn := Tryz.f17) Tryz.func17 (by kernel_rfl) (by kernel_rfl) ?_
  intro vs l q a h hq
  unfold fvrSpec at h
  split at h
  · rename_i x r hx
    obtain ⟨z, o, c, key⟩ := r
    injection h with h; injection h with h1 h2; subst h1; subst h2
    obtain ⟨e1, e2⟩ := replyOf_eq hx
    rw [e1, e2]
    exact ⟨_, goodVR x, rfl, rfl, fvr_holds x z o c key⟩
  · cases h
theorem fvn_ok : CallOk Tryz.prog 18 (ansVPT shN fvnSpec) := by
  refine ansV_ok (n := 20) (fn := Tryz.f18) Tryz.func18 (by kernel_rfl) (by kernel_rfl) ?_
  intro vs l q a h hq
  unfold fvnSpec at h
  split at h
  · rename_i x r hx
    obtain ⟨z, o, c, key⟩ := r
    injection h with h; injection h with h1 h2; subst h1; subst h2
    obtain ⟨e1, e2⟩ := noticeOf_eq hx
    rw [e1, e2]
    exact ⟨_, goodVN x, rfl, rfl, fvn_holds x z o c key⟩
  · cases h
noncomputable def listF6 : List (FuncId × PT) := (17, ansVPT shR fvrSpec) :: (18, ansVPT shN fvnSpec) :: listF5
theorem listF6_ok : SummOk Tryz.prog (fun f => lookPT f listF6) := .cons fvr_ok (ansVPT_mono _ _) (.cons fvn_ok (ansVPT_mono _ _) listF5_ok)
noncomputable def cfgPR (x : Rp) : Cfg := { cfg0 with summ := fun f => lookPT f listF6, anns := fun f => if f = 9 then [(5, always (annGrow 17 4 x.n (rowE x.f x.g)))] else [] }
noncomputable def cfgPN (x : Nt) : Cfg := { cfg0 with summ := fun f => lookPT f listF6, anns := fun f => if f = 11 then [(5, always (annGrow 17 4 x.n (rowC x.f x.g x.h)))] else [] }
theorem goodPR (x : Rp) : Sx.Good Tryz.prog (cfgPR x) := ⟨mixes, listF6_ok, fns_ok⟩
theorem goodPN (x : Nt) : Sx.Good Tryz.prog (cfgPN x) := ⟨mixes, listF6_ok, fns_ok⟩
def putRA (x : Rp) : Ans := .fork x.ok fun b => match b with
  | true => .ret (.tup [.str false x.put, .int .i64 true 0])
  | false => .ret (.tup [.str true [], .int .i64 true 1])
def putNA (x : Nt) : Ans := .fork x.ok fun b => match b with
  | true => .ret (.tup [.str false x.put, .int .i64 true 0])
  | false => .ret (.tup [.str true [], .int .i64 true 1])
end Go.Proofs.YtocikfhejpilaaaGreatDoor
/-
  Conditions that the executor computes, written out by a program (vcgen.py).
-/
namespace Go.Proofs.YtocikfhejpilaaaGreatDoor
open Go Sx
set_option maxRecDepth 20000

theorem vcFPR (x : Rp) (z : Bool) (o c : Nat) (key : Option Nat) : VC.holds (runV (cfgPR x) 9 Tryz.f9 [x.sv (.vslc 0 2 z o 0 x.n c)] [seenR z o c x key] (putRA x)) = ((((True ∧
 True ∧
 True ∧
 True ∧
 True ∧
 (z = z ∧
 o = o ∧
 (0 : Nat) + x.n ≤ x.n) ∧
 True ∧
 True ∧
 True) ∧
 True) ∧
 True) ∧
 ((!x.ok) = true →
 (x.ok = true →
 sameVal (SV.tup [SV.str true [], SV.int IntKind.i64 true (1 : Int)]) (SV.tup [SV.str false x.put, SV.int IntKind.i64 true (0 : Int)])) ∧
 (x.ok = false →
 sameVal (SV.tup [SV.str true [], SV.int IntKind.i64 true (1 : Int)]) (SV.tup [SV.str true [], SV.int IntKind.i64 true (1 : Int)]))) ∧
 ((!x.ok) = false →
 ((0 : Int) ≤ (↑x.n : Int) ∧
 (16 : Int) * (↑x.n : Int) ≤ (140737488355328 : Int) ∧
 (↑x.n : Int) ≤ (9223372036854775807 : Int)) ∧
 (∃ (y : Nat × Nat), Grow x.n y ∧
 (0 : Int) = (↑y.fst : Int) ∧
 ((0 : Nat) = (0 : Nat) ∧
 (0 : Nat) = y.fst ∧
 (↑x.n : Int).toNat = y.snd) ∧
 True ∧
 SBle (SB.cells [] ((↑x.n : Int).toNat * (1 : Nat)) (9 : Nat)) (SB.rows false y.fst [Col.str (rowE x.f x.g)] false y.snd (9 : TypeId)) ∧
 SBle (SB.cells (x.sv (SV.vslc (0 : Nat) (2 : Nat) z o (0 : Nat) x.n c)).cells (8 : Nat) (27 : Nat)) (SB.cells (x.sv (SV.vslc (0 : Nat) (2 : Nat) z o (0 : Nat) x.n c)).cells (8 : Nat) (27 : Nat)) ∧
 SBle (seenR z o c x key).B (seenR z o c x key).B ∧
 True) ∧
 ∀ (x_2 : Nat × Nat), Grow x.n x_2 →
 (decide ((↑x_2.fst : Int) < (↑x.n : Int)) = true →
 ((0 : Int) ≤ (↑x_2.fst : Int) ∧
 (↑x_2.fst : Int) < (↑x.n : Int)) ∧
 (o = o ∧
 (0 : Nat) + (↑x_2.fst : Int).toNat < x.n) ∧
 (x.f ((0 : Nat) + (↑x_2.fst : Int).toNat)).length < (1152921504606846976 : Nat) ∧
 some (SB.cells (setRange (SV.agg [SV.str true [], SV.str true []]).cells (0 : Nat) (SV.agg [Col.at ((0 : Nat) + (↑x_2.fst : Int).toNat) (Col.str x.f), Col.at ((0 : Nat) + (↑x_2.fst : Int).toNat) (Col.str x.g)]).cells) (2 : Nat) (52 : Nat)) = some (SB.cells (setRange (SV.agg [SV.str true [], SV.str true []]).cells (0 : Nat) (SV.agg [Col.at ((0 : Nat) + (↑x_2.fst : Int).toNat) (Col.str x.f), Col.at ((0 : Nat) + (↑x_2.fst : Int).toNat) (Col.str x.g)]).cells) (2 : Nat) (52 : Nat)) ∧
 (x.g ((0 : Nat) + (↑x_2.fst : Int).toNat)).length < (1152921504606846976 : Nat) ∧
 (((2 : Nat) = (2 : Nat) ∧
 (2 : Nat) ≤ (2 : Nat)) ∧
 (2 : Nat) ≤ (140737488355328 : Nat) ∧
 (flat [textOf (x.f ((0 : Nat) + (↑x_2.fst : Int).toNat)), textOf (x.g ((0 : Nat) + (↑x_2.fst : Int).toNat))]).length ≤ (140737488355328 : Nat)) ∧
 (((0 : Int) ≤ (192 : Int) ∧
 (192 : Int) ≤ (192 : Int)) ∧
 (0 : Int) ≤ (↑(flat [textOf (x.f ((0 : Nat) + (↑x_2.fst : Int).toNat)), textOf (x.g ((0 : Nat) + (↑x_2.fst : Int).toNat))]).length : Int) ∧
 (↑(flat [textOf (x.f ((0 : Nat) + (↑x_2.fst : Int).toNat)), textOf (x.g ((0 : Nat) + (↑x_2.fst : Int).toNat))]).length : Int) < (1152921504606846976 : Int)) ∧
 (↑(headOf (192 : Int) (↑(flat [textOf (x.f ((0 : Nat) + (↑x_2.fst : Int).toNat)), textOf (x.g ((0 : Nat) + (↑x_2.fst : Int).toNat))]).length : Int).toNat).length : Int) + (↑(flat [textOf (x.f ((0 : Nat) + (↑x_2.fst : Int).toNat)), textOf (x.g ((0 : Nat) + (↑x_2.fst : Int).toNat))]).length : Int) ≤ (9223372036854775807 : Int) ∧
 ((0 : Nat) + x_2.fst ≤ x_2.fst ∧
 True ∧
 (2 : Nat) * (x_2.fst + (1 : Nat)) * (16 : Nat) ≤ (281474976710656 : Nat) ∧
 x_2.fst + (1 : Nat) < (9223372036854775808 : Nat)) ∧
 x_2.snd = x_2.snd * (1 : Nat) ∧
 ∀ (c_1 : Nat), x_2.fst + (1 : Nat) ≤ c_1 →
 ((-9223372036854775808 : Int) ≤ (↑x_2.fst : Int) + (1 : Int) ∧
 (↑x_2.fst : Int) + (1 : Int) ≤ (9223372036854775807 : Int)) ∧
 ∃ (y : Nat × Nat), (Grow x.n y ∧
 x.n - y.fst < x.n - x_2.fst) ∧
 (↑x_2.fst : Int) + (1 : Int) = (↑y.fst : Int) ∧
 ((0 : Nat) = (0 : Nat) ∧
 x_2.fst + (1 : Nat) = y.fst ∧
 c_1 = y.snd) ∧
 True ∧
 SBle (SB.rows false (x_2.fst + (1 : Nat)) [Col.str fun (j : Nat) => if j < x_2.fst then rowE x.f x.g j else selS [cat (headOf (192 : Int) (↑(flat [textOf (x.f ((0 : Nat) + (↑x_2.fst : Int).toNat)), textOf (x.g ((0 : Nat) + (↑x_2.fst : Int).toNat))]).length : Int).toNat) (flat [textOf (x.f ((0 : Nat) + (↑x_2.fst : Int).toNat)), textOf (x.g ((0 : Nat) + (↑x_2.fst : Int).toNat))])] (j - x_2.fst)] false (c_1 * (1 : Nat)) (9 : Nat)) (SB.rows false y.fst [Col.str (rowE x.f x.g)] false y.snd (9 : TypeId)) ∧
 SBle (SB.cells (x.sv (SV.vslc (0 : Nat) (2 : Nat) z o (0 : Nat) x.n c)).cells (8 : Nat) (27 : Nat)) (SB.cells (x.sv (SV.vslc (0 : Nat) (2 : Nat) z o (0 : Nat) x.n c)).cells (8 : Nat) (27 : Nat)) ∧
 SBle (seenR z o c x key).B (seenR z o c x key).B ∧
 True) ∧
 (decide ((↑x_2.fst : Int) < (↑x.n : Int)) = false →
 ((0 : Int) ≤ (1 : Int) ∧
 (1 : Int) < (9223372036854775808 : Int)) ∧
 some (SB.cells (x.sv (SV.vslc (0 : Nat) (2 : Nat) z o (0 : Nat) x.n c)).cells (8 : Nat) (27 : Nat)) = some (SB.cells (x.sv (SV.vslc (0 : Nat) (2 : Nat) z o (0 : Nat) x.n c)).cells (8 : Nat) (27 : Nat)) ∧
 some (SB.cells (x.sv (SV.vslc (0 : Nat) (2 : Nat) z o (0 : Nat) x.n c)).cells (8 : Nat) (27 : Nat)) = some (SB.cells (x.sv (SV.vslc (0 : Nat) (2 : Nat) z o (0 : Nat) x.n c)).cells (8 : Nat) (27 : Nat)) ∧
 some (SB.cells (x.sv (SV.vslc (0 : Nat) (2 : Nat) z o (0 : Nat) x.n c)).cells (8 : Nat) (27 : Nat)) = some (SB.cells (x.sv (SV.vslc (0 : Nat) (2 : Nat) z o (0 : Nat) x.n c)).cells (8 : Nat) (27 : Nat)) ∧
 some (SB.cells (x.sv (SV.vslc (0 : Nat) (2 : Nat) z o (0 : Nat) x.n c)).cells (8 : Nat) (27 : Nat)) = some (SB.cells (x.sv (SV.vslc (0 : Nat) (2 : Nat) z o (0 : Nat) x.n c)).cells (8 : Nat) (27 : Nat)) ∧
 some (SB.cells (x.sv (SV.vslc (0 : Nat) (2 : Nat) z o (0 : Nat) x.n c)).cells (8 : Nat) (27 : Nat)) = some (SB.cells (x.sv (SV.vslc (0 : Nat) (2 : Nat) z o (0 : Nat) x.n c)).cells (8 : Nat) (27 : Nat)) ∧
 some (SB.cells (x.sv (SV.vslc (0 : Nat) (2 : Nat) z o (0 : Nat) x.n c)).cells (8 : Nat) (27 : Nat)) = some (SB.cells (x.sv (SV.vslc (0 : Nat) (2 : Nat) z o (0 : Nat) x.n c)).cells (8 : Nat) (27 : Nat)) ∧
 some (SB.cells (x.sv (SV.vslc (0 : Nat) (2 : Nat) z o (0 : Nat) x.n c)).cells (8 : Nat) (27 : Nat)) = some (SB.cells (x.sv (SV.vslc (0 : Nat) (2 : Nat) z o (0 : Nat) x.n c)).cells (8 : Nat) (27 : Nat)) ∧
 ((0 : Int) ≤ x.s ∧
 x.s < (9223372036854775808 : Int)) ∧
 some (SB.cells (x.sv (SV.vslc (0 : Nat) (2 : Nat) z o (0 : Nat) x.n c)).cells (8 : Nat) (27 : Nat)) = some (SB.cells (x.sv (SV.vslc (0 : Nat) (2 : Nat) z o (0 : Nat) x.n c)).cells (8 : Nat) (27 : Nat)) ∧
 some (SB.cells (x.sv (SV.vslc (0 : Nat) (2 : Nat) z o (0 : Nat) x.n c)).cells (8 : Nat) (27 : Nat)) = some (SB.cells (x.sv (SV.vslc (0 : Nat) (2 : Nat) z o (0 : Nat) x.n c)).cells (8 : Nat) (27 : Nat)) ∧
 some (SB.cells (x.sv (SV.vslc (0 : Nat) (2 : Nat) z o (0 : Nat) x.n c)).cells (8 : Nat) (27 : Nat)) = some (SB.cells (x.sv (SV.vslc (0 : Nat) (2 : Nat) z o (0 : Nat) x.n c)).cells (8 : Nat) (27 : Nat)) ∧
 some (SB.cells (x.sv (SV.vslc (0 : Nat) (2 : Nat) z o (0 : Nat) x.n c)).cells (8 : Nat) (27 : Nat)) = some (SB.cells (x.sv (SV.vslc (0 : Nat) (2 : Nat) z o (0 : Nat) x.n c)).cells (8 : Nat) (27 : Nat)) ∧
 some (SB.cells (x.sv (SV.vslc (0 : Nat) (2 : Nat) z o (0 : Nat) x.n c)).cells (8 : Nat) (27 : Nat)) = some (SB.cells (x.sv (SV.vslc (0 : Nat) (2 : Nat) z o (0 : Nat) x.n c)).cells (8 : Nat) (27 : Nat)) ∧
 some (SB.cells (x.sv (SV.vslc (0 : Nat) (2 : Nat) z o (0 : Nat) x.n c)).cells (8 : Nat) (27 : Nat)) = some (SB.cells (x.sv (SV.vslc (0 : Nat) (2 : Nat) z o (0 : Nat) x.n c)).cells (8 : Nat) (27 : Nat)) ∧
 ((0 : Int) ≤ x.q ∧
 x.q < (9223372036854775808 : Int)) ∧
 some (SB.cells (x.sv (SV.vslc (0 : Nat) (2 : Nat) z o (0 : Nat) x.n c)).cells (8 : Nat) (27 : Nat)) = some (SB.cells (x.sv (SV.vslc (0 : Nat) (2 : Nat) z o (0 : Nat) x.n c)).cells (8 : Nat) (27 : Nat)) ∧
 some (SB.cells (x.sv (SV.vslc (0 : Nat) (2 : Nat) z o (0 : Nat) x.n c)).cells (8 : Nat) (27 : Nat)) = some (SB.cells (x.sv (SV.vslc (0 : Nat) (2 : Nat) z o (0 : Nat) x.n c)).cells (8 : Nat) (27 : Nat)) ∧
 some (SB.cells (x.sv (SV.vslc (0 : Nat) (2 : Nat) z o (0 : Nat) x.n c)).cells (8 : Nat) (27 : Nat)) = some (SB.cells (x.sv (SV.vslc (0 : Nat) (2 : Nat) z o (0 : Nat) x.n c)).cells (8 : Nat) (27 : Nat)) ∧
 some (SB.cells (x.sv (SV.vslc (0 : Nat) (2 : Nat) z o (0 : Nat) x.n c)).cells (8 : Nat) (27 : Nat)) = some (SB.cells (x.sv (SV.vslc (0 : Nat) (2 : Nat) z o (0 : Nat) x.n c)).cells (8 : Nat) (27 : Nat)) ∧
 some (SB.cells (x.sv (SV.vslc (0 : Nat) (2 : Nat) z o (0 : Nat) x.n c)).cells (8 : Nat) (27 : Nat)) = some (SB.cells (x.sv (SV.vslc (0 : Nat) (2 : Nat) z o (0 : Nat) x.n c)).cells (8 : Nat) (27 : Nat)) ∧
 ((0 : Int) ≤ x.e ∧
 x.e < (9223372036854775808 : Int)) ∧
 some (SB.cells (x.sv (SV.vslc (0 : Nat) (2 : Nat) z o (0 : Nat) x.n c)).cells (8 : Nat) (27 : Nat)) = some (SB.cells (x.sv (SV.vslc (0 : Nat) (2 : Nat) z o (0 : Nat) x.n c)).cells (8 : Nat) (27 : Nat)) ∧
 some (SB.cells (x.sv (SV.vslc (0 : Nat) (2 : Nat) z o (0 : Nat) x.n c)).cells (8 : Nat) (27 : Nat)) = some (SB.cells (x.sv (SV.vslc (0 : Nat) (2 : Nat) z o (0 : Nat) x.n c)).cells (8 : Nat) (27 : Nat)) ∧
 some (SB.cells (x.sv (SV.vslc (0 : Nat) (2 : Nat) z o (0 : Nat) x.n c)).cells (8 : Nat) (27 : Nat)) = some (SB.cells (x.sv (SV.vslc (0 : Nat) (2 : Nat) z o (0 : Nat) x.n c)).cells (8 : Nat) (27 : Nat)) ∧
 some (SB.cells (x.sv (SV.vslc (0 : Nat) (2 : Nat) z o (0 : Nat) x.n c)).cells (8 : Nat) (27 : Nat)) = some (SB.cells (x.sv (SV.vslc (0 : Nat) (2 : Nat) z o (0 : Nat) x.n c)).cells (8 : Nat) (27 : Nat)) ∧
 ((0 : Int) ≤ x.v ∧
 x.v < (9223372036854775808 : Int)) ∧
 some (SB.cells (x.sv (SV.vslc (0 : Nat) (2 : Nat) z o (0 : Nat) x.n c)).cells (8 : Nat) (27 : Nat)) = some (SB.cells (x.sv (SV.vslc (0 : Nat) (2 : Nat) z o (0 : Nat) x.n c)).cells (8 : Nat) (27 : Nat)) ∧
 some (SB.cells (x.sv (SV.vslc (0 : Nat) (2 : Nat) z o (0 : Nat) x.n c)).cells (8 : Nat) (27 : Nat)) = some (SB.cells (x.sv (SV.vslc (0 : Nat) (2 : Nat) z o (0 : Nat) x.n c)).cells (8 : Nat) (27 : Nat)) ∧
 some (SB.cells (x.sv (SV.vslc (0 : Nat) (2 : Nat) z o (0 : Nat) x.n c)).cells (8 : Nat) (27 : Nat)) = some (SB.cells (x.sv (SV.vslc (0 : Nat) (2 : Nat) z o (0 : Nat) x.n c)).cells (8 : Nat) (27 : Nat)) ∧
 x.root.length < (1152921504606846976 : Nat) ∧
 some (SB.cells (x.sv (SV.vslc (0 : Nat) (2 : Nat) z o (0 : Nat) x.n c)).cells (8 : Nat) (27 : Nat)) = some (SB.cells (x.sv (SV.vslc (0 : Nat) (2 : Nat) z o (0 : Nat) x.n c)).cells (8 : Nat) (27 : Nat)) ∧
 some (SB.cells (x.sv (SV.vslc (0 : Nat) (2 : Nat) z o (0 : Nat) x.n c)).cells (8 : Nat) (27 : Nat)) = some (SB.cells (x.sv (SV.vslc (0 : Nat) (2 : Nat) z o (0 : Nat) x.n c)).cells (8 : Nat) (27 : Nat)) ∧
 (((0 : Nat) + x_2.fst ≤ x_2.fst ∧
 x_2.fst ≤ x_2.snd) ∧
 (rowL (rowE x.f x.g) (0 : Nat) x_2.fst).length ≤ (140737488355328 : Nat) ∧
 (flat (rowL (rowE x.f x.g) (0 : Nat) x_2.fst)).length ≤ (140737488355328 : Nat)) ∧
 (((0 : Int) ≤ (192 : Int) ∧
 (192 : Int) ≤ (192 : Int)) ∧
 (0 : Int) ≤ (↑(flat (rowL (rowE x.f x.g) (0 : Nat) x_2.fst)).length : Int) ∧
 (↑(flat (rowL (rowE x.f x.g) (0 : Nat) x_2.fst)).length : Int) < (1152921504606846976 : Int)) ∧
 (↑(headOf (192 : Int) (↑(flat (rowL (rowE x.f x.g) (0 : Nat) x_2.fst)).length : Int).toNat).length : Int) + (↑(flat (rowL (rowE x.f x.g) (0 : Nat) x_2.fst)).length : Int) ≤ (9223372036854775807 : Int) ∧
 some (SB.cells (x.sv (SV.vslc (0 : Nat) (2 : Nat) z o (0 : Nat) x.n c)).cells (8 : Nat) (27 : Nat)) = some (SB.cells (x.sv (SV.vslc (0 : Nat) (2 : Nat) z o (0 : Nat) x.n c)).cells (8 : Nat) (27 : Nat)) ∧
 some (SB.cells (x.sv (SV.vslc (0 : Nat) (2 : Nat) z o (0 : Nat) x.n c)).cells (8 : Nat) (27 : Nat)) = some (SB.cells (x.sv (SV.vslc (0 : Nat) (2 : Nat) z o (0 : Nat) x.n c)).cells (8 : Nat) (27 : Nat)) ∧
 x.proof.length < (1152921504606846976 : Nat) ∧
 some (SB.cells (x.sv (SV.vslc (0 : Nat) (2 : Nat) z o (0 : Nat) x.n c)).cells (8 : Nat) (27 : Nat)) = some (SB.cells (x.sv (SV.vslc (0 : Nat) (2 : Nat) z o (0 : Nat) x.n c)).cells (8 : Nat) (27 : Nat)) ∧
 True ∧
 (((9 : Nat) = (9 : Nat) ∧
 (9 : Nat) ≤ (9 : Nat)) ∧
 (9 : Nat) ≤ (140737488355328 : Nat) ∧
 (flat [numOf (1 : Int), numOf x.s, numOf x.q, numOf x.e, numOf x.v, textOf x.root, cat (headOf (192 : Int) (↑(flat (rowL (rowE x.f x.g) (0 : Nat) x_2.fst)).length : Int).toNat) (flat (rowL (rowE x.f x.g) (0 : Nat) x_2.fst)), textOf x.proof, bif x.more then [(1 : UInt8)] else [(128 : UInt8)]]).length ≤ (140737488355328 : Nat)) ∧
 (((0 : Int) ≤ (192 : Int) ∧
 (192 : Int) ≤ (192 : Int)) ∧
 (0 : Int) ≤ (↑(flat [numOf (1 : Int), numOf x.s, numOf x.q, numOf x.e, numOf x.v, textOf x.root, cat (headOf (192 : Int) (↑(flat (rowL (rowE x.f x.g) (0 : Nat) x_2.fst)).length : Int).toNat) (flat (rowL (rowE x.f x.g) (0 : Nat) x_2.fst)), textOf x.proof, bif x.more then [(1 : UInt8)] else [(128 : UInt8)]]).length : Int) ∧
 (↑(flat [numOf (1 : Int), numOf x.s, numOf x.q, numOf x.e, numOf x.v, textOf x.root, cat (headOf (192 : Int) (↑(flat (rowL (rowE x.f x.g) (0 : Nat) x_2.fst)).length : Int).toNat) (flat (rowL (rowE x.f x.g) (0 : Nat) x_2.fst)), textOf x.proof, bif x.more then [(1 : UInt8)] else [(128 : UInt8)]]).length : Int) < (1152921504606846976 : Int)) ∧
 (↑(headOf (192 : Int) (↑(flat [numOf (1 : Int), numOf x.s, numOf x.q, numOf x.e, numOf x.v, textOf x.root, cat (headOf (192 : Int) (↑(flat (rowL (rowE x.f x.g) (0 : Nat) x_2.fst)).length : Int).toNat) (flat (rowL (rowE x.f x.g) (0 : Nat) x_2.fst)), textOf x.proof, bif x.more then [(1 : UInt8)] else [(128 : UInt8)]]).length : Int).toNat).length : Int) + (↑(flat [numOf (1 : Int), numOf x.s, numOf x.q, numOf x.e, numOf x.v, textOf x.root, cat (headOf (192 : Int) (↑(flat (rowL (rowE x.f x.g) (0 : Nat) x_2.fst)).length : Int).toNat) (flat (rowL (rowE x.f x.g) (0 : Nat) x_2.fst)), textOf x.proof, bif x.more then [(1 : UInt8)] else [(128 : UInt8)]]).length : Int) ≤ (9223372036854775807 : Int) ∧
 (x.ok = true →
 sameVal (SV.tup [SV.str false (cat (headOf (192 : Int) (↑(flat [numOf (1 : Int), numOf x.s, numOf x.q, numOf x.e, numOf x.v, textOf x.root, cat (headOf (192 : Int) (↑(flat (rowL (rowE x.f x.g) (0 : Nat) x_2.fst)).length : Int).toNat) (flat (rowL (rowE x.f x.g) (0 : Nat) x_2.fst)), textOf x.proof, bif x.more then [(1 : UInt8)] else [(128 : UInt8)]]).length : Int).toNat) (flat [numOf (1 : Int), numOf x.s, numOf x.q, numOf x.e, numOf x.v, textOf x.root, cat (headOf (192 : Int) (↑(flat (rowL (rowE x.f x.g) (0 : Nat) x_2.fst)).length : Int).toNat) (flat (rowL (rowE x.f x.g) (0 : Nat) x_2.fst)), textOf x.proof, bif x.more then [(1 : UInt8)] else [(128 : UInt8)]])), SV.int IntKind.i64 true (0 : Int)]) (SV.tup [SV.str false x.put, SV.int IntKind.i64 true (0 : Int)])) ∧
 (x.ok = false →
 sameVal (SV.tup [SV.str false (cat (headOf (192 : Int) (↑(flat [numOf (1 : Int), numOf x.s, numOf x.q, numOf x.e, numOf x.v, textOf x.root, cat (headOf (192 : Int) (↑(flat (rowL (rowE x.f x.g) (0 : Nat) x_2.fst)).length : Int).toNat) (flat (rowL (rowE x.f x.g) (0 : Nat) x_2.fst)), textOf x.proof, bif x.more then [(1 : UInt8)] else [(128 : UInt8)]]).length : Int).toNat) (flat [numOf (1 : Int), numOf x.s, numOf x.q, numOf x.e, numOf x.v, textOf x.root, cat (headOf (192 : Int) (↑(flat (rowL (rowE x.f x.g) (0 : Nat) x_2.fst)).length : Int).toNat) (flat (rowL (rowE x.f x.g) (0 : Nat) x_2.fst)), textOf x.proof, bif x.more then [(1 : UInt8)] else [(128 : UInt8)]])), SV.int IntKind.i64 true (0 : Int)]) (SV.tup [SV.str true [], SV.int IntKind.i64 true (1 : Int)]))))) := by kernel_rfl
theorem vcFPN (x : Nt) (z : Bool) (o c : Nat) (key : Option Nat) : VC.holds (runV (cfgPN x) 11 Tryz.f11 [x.sv (.vslc 0 3 z o 0 x.n c)] [seenC z o c x key] (putNA x)) = ((((True ∧
 True ∧
 True ∧
 True ∧
 (z = z ∧
 o = o ∧
 (0 : Nat) + x.n ≤ x.n) ∧
 True) ∧
 True) ∧
 True) ∧
 ((!x.ok) = true →
 (x.ok = true →
 sameVal (SV.tup [SV.str true [], SV.int IntKind.i64 true (1 : Int)]) (SV.tup [SV.str false x.put, SV.int IntKind.i64 true (0 : Int)])) ∧
 (x.ok = false →
 sameVal (SV.tup [SV.str true [], SV.int IntKind.i64 true (1 : Int)]) (SV.tup [SV.str true [], SV.int IntKind.i64 true (1 : Int)]))) ∧
 ((!x.ok) = false →
 ((0 : Int) ≤ (↑x.n : Int) ∧
 (16 : Int) * (↑x.n : Int) ≤ (140737488355328 : Int) ∧
 (↑x.n : Int) ≤ (9223372036854775807 : Int)) ∧
 (∃ (y : Nat × Nat), Grow x.n y ∧
 (0 : Int) = (↑y.fst : Int) ∧
 ((0 : Nat) = (0 : Nat) ∧
 (0 : Nat) = y.fst ∧
 (↑x.n : Int).toNat = y.snd) ∧
 True ∧
 SBle (SB.cells [] ((↑x.n : Int).toNat * (1 : Nat)) (9 : Nat)) (SB.rows false y.fst [Col.str (rowC x.f x.g x.h)] false y.snd (9 : TypeId)) ∧
 SBle (SB.cells (x.sv (SV.vslc (0 : Nat) (3 : Nat) z o (0 : Nat) x.n c)).cells (5 : Nat) (30 : Nat)) (SB.cells (x.sv (SV.vslc (0 : Nat) (3 : Nat) z o (0 : Nat) x.n c)).cells (5 : Nat) (30 : Nat)) ∧
 SBle (seenC z o c x key).B (seenC z o c x key).B ∧
 True) ∧
 ∀ (x_2 : Nat × Nat), Grow x.n x_2 →
 (decide ((↑x_2.fst : Int) < (↑x.n : Int)) = true →
 ((0 : Int) ≤ (↑x_2.fst : Int) ∧
 (↑x_2.fst : Int) < (↑x.n : Int)) ∧
 (o = o ∧
 (0 : Nat) + (↑x_2.fst : Int).toNat < x.n) ∧
 (x.f ((0 : Nat) + (↑x_2.fst : Int).toNat)).length < (1152921504606846976 : Nat) ∧
 some (SB.cells (setRange (SV.agg [SV.str true [], SV.str true [], SV.bool true false]).cells (0 : Nat) (SV.agg [Col.at ((0 : Nat) + (↑x_2.fst : Int).toNat) (Col.str x.f), Col.at ((0 : Nat) + (↑x_2.fst : Int).toNat) (Col.str x.g), Col.at ((0 : Nat) + (↑x_2.fst : Int).toNat) (Col.bool x.h)]).cells) (3 : Nat) (54 : Nat)) = some (SB.cells (setRange (SV.agg [SV.str true [], SV.str true [], SV.bool true false]).cells (0 : Nat) (SV.agg [Col.at ((0 : Nat) + (↑x_2.fst : Int).toNat) (Col.str x.f), Col.at ((0 : Nat) + (↑x_2.fst : Int).toNat) (Col.str x.g), Col.at ((0 : Nat) + (↑x_2.fst : Int).toNat) (Col.bool x.h)]).cells) (3 : Nat) (54 : Nat)) ∧
 some (SB.cells (setRange (SV.agg [SV.str true [], SV.str true [], SV.bool true false]).cells (0 : Nat) (SV.agg [Col.at ((0 : Nat) + (↑x_2.fst : Int).toNat) (Col.str x.f), Col.at ((0 : Nat) + (↑x_2.fst : Int).toNat) (Col.str x.g), Col.at ((0 : Nat) + (↑x_2.fst : Int).toNat) (Col.bool x.h)]).cells) (3 : Nat) (54 : Nat)) = some (SB.cells (setRange (SV.agg [SV.str true [], SV.str true [], SV.bool true false]).cells (0 : Nat) (SV.agg [Col.at ((0 : Nat) + (↑x_2.fst : Int).toNat) (Col.str x.f), Col.at ((0 : Nat) + (↑x_2.fst : Int).toNat) (Col.str x.g), Col.at ((0 : Nat) + (↑x_2.fst : Int).toNat) (Col.bool x.h)]).cells) (3 : Nat) (54 : Nat)) ∧
 (x.g ((0 : Nat) + (↑x_2.fst : Int).toNat)).length < (1152921504606846976 : Nat) ∧
 some (SB.cells (setRange (SV.agg [SV.str true [], SV.str true [], SV.bool true false]).cells (0 : Nat) (SV.agg [Col.at ((0 : Nat) + (↑x_2.fst : Int).toNat) (Col.str x.f), Col.at ((0 : Nat) + (↑x_2.fst : Int).toNat) (Col.str x.g), Col.at ((0 : Nat) + (↑x_2.fst : Int).toNat) (Col.bool x.h)]).cells) (3 : Nat) (54 : Nat)) = some (SB.cells (setRange (SV.agg [SV.str true [], SV.str true [], SV.bool true false]).cells (0 : Nat) (SV.agg [Col.at ((0 : Nat) + (↑x_2.fst : Int).toNat) (Col.str x.f), Col.at ((0 : Nat) + (↑x_2.fst : Int).toNat) (Col.str x.g), Col.at ((0 : Nat) + (↑x_2.fst : Int).toNat) (Col.bool x.h)]).cells) (3 : Nat) (54 : Nat)) ∧
 True ∧
 (((3 : Nat) = (3 : Nat) ∧
 (3 : Nat) ≤ (3 : Nat)) ∧
 (3 : Nat) ≤ (140737488355328 : Nat) ∧
 (flat [textOf (x.f ((0 : Nat) + (↑x_2.fst : Int).toNat)), textOf (x.g ((0 : Nat) + (↑x_2.fst : Int).toNat)), bif x.h ((0 : Nat) + (↑x_2.fst : Int).toNat) then [(1 : UInt8)] else [(128 : UInt8)]]).length ≤ (140737488355328 : Nat)) ∧
 (((0 : Int) ≤ (192 : Int) ∧
 (192 : Int) ≤ (192 : Int)) ∧
 (0 : Int) ≤ (↑(flat [textOf (x.f ((0 : Nat) + (↑x_2.fst : Int).toNat)), textOf (x.g ((0 : Nat) + (↑x_2.fst : Int).toNat)), bif x.h ((0 : Nat) + (↑x_2.fst : Int).toNat) then [(1 : UInt8)] else [(128 : UInt8)]]).length : Int) ∧
 (↑(flat [textOf (x.f ((0 : Nat) + (↑x_2.fst : Int).toNat)), textOf (x.g ((0 : Nat) + (↑x_2.fst : Int).toNat)), bif x.h ((0 : Nat) + (↑x_2.fst : Int).toNat) then [(1 : UInt8)] else [(128 : UInt8)]]).length : Int) < (1152921504606846976 : Int)) ∧
 (↑(headOf (192 : Int) (↑(flat [textOf (x.f ((0 : Nat) + (↑x_2.fst : Int).toNat)), textOf (x.g ((0 : Nat) + (↑x_2.fst : Int).toNat)), bif x.h ((0 : Nat) + (↑x_2.fst : Int).toNat) then [(1 : UInt8)] else [(128 : UInt8)]]).length : Int).toNat).length : Int) + (↑(flat [textOf (x.f ((0 : Nat) + (↑x_2.fst : Int).toNat)), textOf (x.g ((0 : Nat) + (↑x_2.fst : Int).toNat)), bif x.h ((0 : Nat) + (↑x_2.fst : Int).toNat) then [(1 : UInt8)] else [(128 : UInt8)]]).length : Int) ≤ (9223372036854775807 : Int) ∧
 ((0 : Nat) + x_2.fst ≤ x_2.fst ∧
 True ∧
 (2 : Nat) * (x_2.fst + (1 : Nat)) * (16 : Nat) ≤ (281474976710656 : Nat) ∧
 x_2.fst + (1 : Nat) < (9223372036854775808 : Nat)) ∧
 x_2.snd = x_2.snd * (1 : Nat) ∧
 ∀ (c_1 : Nat), x_2.fst + (1 : Nat) ≤ c_1 →
 ((-9223372036854775808 : Int) ≤ (↑x_2.fst : Int) + (1 : Int) ∧
 (↑x_2.fst : Int) + (1 : Int) ≤ (9223372036854775807 : Int)) ∧
 ∃ (y : Nat × Nat), (Grow x.n y ∧
 x.n - y.fst < x.n - x_2.fst) ∧
 (↑x_2.fst : Int) + (1 : Int) = (↑y.fst : Int) ∧
 ((0 : Nat) = (0 : Nat) ∧
 x_2.fst + (1 : Nat) = y.fst ∧
 c_1 = y.snd) ∧
 True ∧
 SBle (SB.rows false (x_2.fst + (1 : Nat)) [Col.str fun (j : Nat) => if j < x_2.fst then rowC x.f x.g x.h j else selS [cat (headOf (192 : Int) (↑(flat [textOf (x.f ((0 : Nat) + (↑x_2.fst : Int).toNat)), textOf (x.g ((0 : Nat) + (↑x_2.fst : Int).toNat)), bif x.h ((0 : Nat) + (↑x_2.fst : Int).toNat) then [(1 : UInt8)] else [(128 : UInt8)]]).length : Int).toNat) (flat [textOf (x.f ((0 : Nat) + (↑x_2.fst : Int).toNat)), textOf (x.g ((0 : Nat) + (↑x_2.fst : Int).toNat)), bif x.h ((0 : Nat) + (↑x_2.fst : Int).toNat) then [(1 : UInt8)] else [(128 : UInt8)]])] (j - x_2.fst)] false (c_1 * (1 : Nat)) (9 : Nat)) (SB.rows false y.fst [Col.str (rowC x.f x.g x.h)] false y.snd (9 : TypeId)) ∧
 SBle (SB.cells (x.sv (SV.vslc (0 : Nat) (3 : Nat) z o (0 : Nat) x.n c)).cells (5 : Nat) (30 : Nat)) (SB.cells (x.sv (SV.vslc (0 : Nat) (3 : Nat) z o (0 : Nat) x.n c)).cells (5 : Nat) (30 : Nat)) ∧
 SBle (seenC z o c x key).B (seenC z o c x key).B ∧
 True) ∧
 (decide ((↑x_2.fst : Int) < (↑x.n : Int)) = false →
 ((0 : Int) ≤ (2 : Int) ∧
 (2 : Int) < (9223372036854775808 : Int)) ∧
 some (SB.cells (x.sv (SV.vslc (0 : Nat) (3 : Nat) z o (0 : Nat) x.n c)).cells (5 : Nat) (30 : Nat)) = some (SB.cells (x.sv (SV.vslc (0 : Nat) (3 : Nat) z o (0 : Nat) x.n c)).cells (5 : Nat) (30 : Nat)) ∧
 some (SB.cells (x.sv (SV.vslc (0 : Nat) (3 : Nat) z o (0 : Nat) x.n c)).cells (5 : Nat) (30 : Nat)) = some (SB.cells (x.sv (SV.vslc (0 : Nat) (3 : Nat) z o (0 : Nat) x.n c)).cells (5 : Nat) (30 : Nat)) ∧
 some (SB.cells (x.sv (SV.vslc (0 : Nat) (3 : Nat) z o (0 : Nat) x.n c)).cells (5 : Nat) (30 : Nat)) = some (SB.cells (x.sv (SV.vslc (0 : Nat) (3 : Nat) z o (0 : Nat) x.n c)).cells (5 : Nat) (30 : Nat)) ∧
 some (SB.cells (x.sv (SV.vslc (0 : Nat) (3 : Nat) z o (0 : Nat) x.n c)).cells (5 : Nat) (30 : Nat)) = some (SB.cells (x.sv (SV.vslc (0 : Nat) (3 : Nat) z o (0 : Nat) x.n c)).cells (5 : Nat) (30 : Nat)) ∧
 ((0 : Int) ≤ x.s ∧
 x.s < (9223372036854775808 : Int)) ∧
 some (SB.cells (x.sv (SV.vslc (0 : Nat) (3 : Nat) z o (0 : Nat) x.n c)).cells (5 : Nat) (30 : Nat)) = some (SB.cells (x.sv (SV.vslc (0 : Nat) (3 : Nat) z o (0 : Nat) x.n c)).cells (5 : Nat) (30 : Nat)) ∧
 some (SB.cells (x.sv (SV.vslc (0 : Nat) (3 : Nat) z o (0 : Nat) x.n c)).cells (5 : Nat) (30 : Nat)) = some (SB.cells (x.sv (SV.vslc (0 : Nat) (3 : Nat) z o (0 : Nat) x.n c)).cells (5 : Nat) (30 : Nat)) ∧
 some (SB.cells (x.sv (SV.vslc (0 : Nat) (3 : Nat) z o (0 : Nat) x.n c)).cells (5 : Nat) (30 : Nat)) = some (SB.cells (x.sv (SV.vslc (0 : Nat) (3 : Nat) z o (0 : Nat) x.n c)).cells (5 : Nat) (30 : Nat)) ∧
 ((0 : Int) ≤ x.e ∧
 x.e < (9223372036854775808 : Int)) ∧
 some (SB.cells (x.sv (SV.vslc (0 : Nat) (3 : Nat) z o (0 : Nat) x.n c)).cells (5 : Nat) (30 : Nat)) = some (SB.cells (x.sv (SV.vslc (0 : Nat) (3 : Nat) z o (0 : Nat) x.n c)).cells (5 : Nat) (30 : Nat)) ∧
 some (SB.cells (x.sv (SV.vslc (0 : Nat) (3 : Nat) z o (0 : Nat) x.n c)).cells (5 : Nat) (30 : Nat)) = some (SB.cells (x.sv (SV.vslc (0 : Nat) (3 : Nat) z o (0 : Nat) x.n c)).cells (5 : Nat) (30 : Nat)) ∧
 ((0 : Int) ≤ x.b ∧
 x.b < (9223372036854775808 : Int)) ∧
 some (SB.cells (x.sv (SV.vslc (0 : Nat) (3 : Nat) z o (0 : Nat) x.n c)).cells (5 : Nat) (30 : Nat)) = some (SB.cells (x.sv (SV.vslc (0 : Nat) (3 : Nat) z o (0 : Nat) x.n c)).cells (5 : Nat) (30 : Nat)) ∧
 x.root.length < (1152921504606846976 : Nat) ∧
 (((0 : Nat) + x_2.fst ≤ x_2.fst ∧
 x_2.fst ≤ x_2.snd) ∧
 (rowL (rowC x.f x.g x.h) (0 : Nat) x_2.fst).length ≤ (140737488355328 : Nat) ∧
 (flat (rowL (rowC x.f x.g x.h) (0 : Nat) x_2.fst)).length ≤ (140737488355328 : Nat)) ∧
 (((0 : Int) ≤ (192 : Int) ∧
 (192 : Int) ≤ (192 : Int)) ∧
 (0 : Int) ≤ (↑(flat (rowL (rowC x.f x.g x.h) (0 : Nat) x_2.fst)).length : Int) ∧
 (↑(flat (rowL (rowC x.f x.g x.h) (0 : Nat) x_2.fst)).length : Int) < (1152921504606846976 : Int)) ∧
 (↑(headOf (192 : Int) (↑(flat (rowL (rowC x.f x.g x.h) (0 : Nat) x_2.fst)).length : Int).toNat).length : Int) + (↑(flat (rowL (rowC x.f x.g x.h) (0 : Nat) x_2.fst)).length : Int) ≤ (9223372036854775807 : Int) ∧
 (((6 : Nat) = (6 : Nat) ∧
 (6 : Nat) ≤ (6 : Nat)) ∧
 (6 : Nat) ≤ (140737488355328 : Nat) ∧
 (flat [numOf (2 : Int), numOf x.s, numOf x.e, numOf x.b, textOf x.root, cat (headOf (192 : Int) (↑(flat (rowL (rowC x.f x.g x.h) (0 : Nat) x_2.fst)).length : Int).toNat) (flat (rowL (rowC x.f x.g x.h) (0 : Nat) x_2.fst))]).length ≤ (140737488355328 : Nat)) ∧
 (((0 : Int) ≤ (192 : Int) ∧
 (192 : Int) ≤ (192 : Int)) ∧
 (0 : Int) ≤ (↑(flat [numOf (2 : Int), numOf x.s, numOf x.e, numOf x.b, textOf x.root, cat (headOf (192 : Int) (↑(flat (rowL (rowC x.f x.g x.h) (0 : Nat) x_2.fst)).length : Int).toNat) (flat (rowL (rowC x.f x.g x.h) (0 : Nat) x_2.fst))]).length : Int) ∧
 (↑(flat [numOf (2 : Int), numOf x.s, numOf x.e, numOf x.b, textOf x.root, cat (headOf (192 : Int) (↑(flat (rowL (rowC x.f x.g x.h) (0 : Nat) x_2.fst)).length : Int).toNat) (flat (rowL (rowC x.f x.g x.h) (0 : Nat) x_2.fst))]).length : Int) < (1152921504606846976 : Int)) ∧
 (↑(headOf (192 : Int) (↑(flat [numOf (2 : Int), numOf x.s, numOf x.e, numOf x.b, textOf x.root, cat (headOf (192 : Int) (↑(flat (rowL (rowC x.f x.g x.h) (0 : Nat) x_2.fst)).length : Int).toNat) (flat (rowL (rowC x.f x.g x.h) (0 : Nat) x_2.fst))]).length : Int).toNat).length : Int) + (↑(flat [numOf (2 : Int), numOf x.s, numOf x.e, numOf x.b, textOf x.root, cat (headOf (192 : Int) (↑(flat (rowL (rowC x.f x.g x.h) (0 : Nat) x_2.fst)).length : Int).toNat) (flat (rowL (rowC x.f x.g x.h) (0 : Nat) x_2.fst))]).length : Int) ≤ (9223372036854775807 : Int) ∧
 (x.ok = true →
 sameVal (SV.tup [SV.str false (cat (headOf (192 : Int) (↑(flat [numOf (2 : Int), numOf x.s, numOf x.e, numOf x.b, textOf x.root, cat (headOf (192 : Int) (↑(flat (rowL (rowC x.f x.g x.h) (0 : Nat) x_2.fst)).length : Int).toNat) (flat (rowL (rowC x.f x.g x.h) (0 : Nat) x_2.fst))]).length : Int).toNat) (flat [numOf (2 : Int), numOf x.s, numOf x.e, numOf x.b, textOf x.root, cat (headOf (192 : Int) (↑(flat (rowL (rowC x.f x.g x.h) (0 : Nat) x_2.fst)).length : Int).toNat) (flat (rowL (rowC x.f x.g x.h) (0 : Nat) x_2.fst))])), SV.int IntKind.i64 true (0 : Int)]) (SV.tup [SV.str false x.put, SV.int IntKind.i64 true (0 : Int)])) ∧
 (x.ok = false →
 sameVal (SV.tup [SV.str false (cat (headOf (192 : Int) (↑(flat [numOf (2 : Int), numOf x.s, numOf x.e, numOf x.b, textOf x.root, cat (headOf (192 : Int) (↑(flat (rowL (rowC x.f x.g x.h) (0 : Nat) x_2.fst)).length : Int).toNat) (flat (rowL (rowC x.f x.g x.h) (0 : Nat) x_2.fst))]).length : Int).toNat) (flat [numOf (2 : Int), numOf x.s, numOf x.e, numOf x.b, textOf x.root, cat (headOf (192 : Int) (↑(flat (rowL (rowC x.f x.g x.h) (0 : Nat) x_2.fst)).length : Int).toNat) (flat (rowL (rowC x.f x.g x.h) (0 : Nat) x_2.fst))])), SV.int IntKind.i64 true (0 : Int)]) (SV.tup [SV.str true [], SV.int IntKind.i64 true (1 : Int)]))))) := by kernel_rfl
end Go.Proofs.YtocikfhejpilaaaGreatDoor
/-
  Frame: PutReply, PutNotice: the contracts.
-/
namespace Go.Proofs.YtocikfhejpilaaaGreatDoor
open Go Sx
set_option maxRecDepth 20000

theorem rowsOk_get {n : Nat} {f g : Nat → List UInt8} (h : rowsOk n f g = true) {i : Nat} (hi : i < n) : (f i).length ≤ 6 ∧ (g i).length ≤ 80 := by
  unfold rowsOk at h
  rw [List.all_eq_true] at h
  have := h i (List.mem_range.2 hi)
  simp only [rowOk, Bool.not_eq_true', Bool.or_eq_false_iff, decide_eq_false_iff_not] at this
  omega
theorem rootOk_len {s : List UInt8} (h : rootOk s = true) : s.length ≤ 32 := by
  simp only [rootOk, Bool.or_eq_true, decide_eq_true_eq] at h
  omega
/-- What may be is small. -/
structure Rp.Small (x : Rp) : Prop where
  s : 0 ≤ x.s ∧ x.s ≤ 1048576
  q : 0 ≤ x.q ∧ x.q ≤ 1048576
  e : 0 ≤ x.e ∧ x.e ≤ 12
  v : 0 ≤ x.v ∧ x.v ≤ 1048576
  root : x.root.length ≤ 32
  n : x.n ≤ 8
  row : ∀ i, i < x.n → (x.f i).length ≤ 6 ∧ (x.g i).length ≤ 80
  proof : x.proof.length ≤ 65536
theorem Rp.ok_small {x : Rp} (h : x.ok = true) : x.Small := by
  unfold Rp.ok at h
  simp only [Bool.and_eq_true, Bool.not_eq_true', decide_eq_false_iff_not] at h
  obtain ⟨⟨⟨⟨⟨⟨⟨⟨h1, h2⟩, h3⟩, h4⟩, h5⟩, h6⟩, h7⟩, h8⟩, h9⟩ := h
  rw [inRange_iff] at h1 h2 h3
  exact ⟨h1, h2, by omega, h3, rootOk_len h6, by omega, fun i hi => rowsOk_get h9 hi, by omega⟩
structure Nt.Small (x : Nt) : Prop where
  s : 0 ≤ x.s ∧ x.s ≤ 1048576
  e : 0 ≤ x.e ∧ x.e ≤ 11
  b : 0 ≤ x.b ∧ x.b ≤ 1048576
  root : x.root.length ≤ 32
  n : x.n ≤ 80
  row : ∀ i, i < x.n → (x.f i).length ≤ 6 ∧ (x.g i).length ≤ 80
theorem Nt.ok_small {x : Nt} (h : x.ok = true) : x.Small := by
  unfold Nt.ok at h
  simp only [Bool.and_eq_true, Bool.or_eq_true, Bool.not_eq_true', decide_eq_false_iff_not, decide_eq_true_eq] at h
  obtain ⟨⟨⟨⟨⟨h1, h2⟩, h4⟩, h6⟩, h7⟩, h9⟩ := h
  rw [inRange_iff] at h1 h2
  exact ⟨h1, by omega, h2, rootOk_len h6, by omega, fun i hi => rowsOk_get h9 hi⟩
theorem flat_clen (a : List UInt8) (l : List (List UInt8)) : (flat (a :: l)).length = a.length + (flat l).length := by simp [flat]
theorem flat_nlen : (flat []).length = 0 := rfl
theorem flagB_len (b : Bool) : (flagB b).length = 1 := by cases b <;> rfl
theorem listOf_len (l : List (List UInt8)) : (listOf l).length ≤ (flat l).length + 9 := by
  have := head_len 192 (flat l).length
  rw [listOf, List.length_append]; omega
theorem rowE_len {f g : Nat → List UInt8} {i : Nat} (h : (f i).length ≤ 6 ∧ (g i).length ≤ 80) : (flat [textOf (f i), textOf (g i)]).length ≤ 104 := by
  have := text_len (f i)
  have := text_len (g i)
  simp only [flat_clen, flat_nlen]; omega
theorem rowC_len {f g : Nat → List UInt8} {h : Nat → Bool} {i : Nat} (hh : (f i).length ≤ 6 ∧ (g i).length ≤ 80) : (flat [textOf (f i), textOf (g i), flagB (h i)]).length ≤ 105 := by
  have := text_len (f i)
  have := text_len (g i)
  have := flagB_len (h i)
  simp only [flat_clen, flat_nlen]; omega
theorem rowL_mem {f : Nat → List UInt8} {n : Nat} {y : List UInt8} (h : y ∈ rowL f 0 n) : ∃ i, i < n ∧ y = f i := by
  obtain ⟨j, hj⟩ := List.getElem?_of_mem h
  obtain ⟨h1, h2⟩ := rowL_get hj
  exact ⟨j, h1, by rw [← h2, Nat.zero_add]⟩
theorem Rp.rows_len {x : Rp} (h : x.Small) : (flat x.rows).length ≤ 904 := by
  have := flat_len (l := x.rows) (m := 113) fun y hy => by
    obtain ⟨i, hi, rfl⟩ := rowL_mem hy
    have := rowE_len (h.row i hi)
    have := listOf_len [textOf (x.f i), textOf (x.g i)]
    unfold rowE; omega
  have e : x.rows.length = x.n := rowL_len _ _ _
  have := h.n
  omega
theorem Nt.rows_len {x : Nt} (h : x.Small) : (flat x.rows).length ≤ 9120 := by
  have := flat_len (l := x.rows) (m := 114) fun y hy => by
    obtain ⟨i, hi, rfl⟩ := rowL_mem hy
    have := rowC_len (h := x.h) (h.row i hi)
    have := listOf_len [textOf (x.f i), textOf (x.g i), flagB (x.h i)]
    unfold rowC; omega
  have e : x.rows.length = x.n := rowL_len _ _ _
  have := h.n
  omega
theorem Rp.items_len {x : Rp} (h : x.Small) : (flat x.items).length ≤ 67000 := by
  have := Rp.rows_len h
  have := listOf_len x.rows
  have := text_len x.root
  have := text_len x.proof
  have := numOf_len 1
  have := numOf_len x.s
  have := numOf_len x.q
  have := numOf_len x.e
  have := numOf_len x.v
  have := flagB_len x.more
  have := h.root
  have := h.proof
  unfold Rp.items
  simp only [flat_clen, flat_nlen]; omega
theorem Nt.items_len {x : Nt} (h : x.Small) : (flat x.items).length ≤ 10000 := by
  have := Nt.rows_len h
  have := listOf_len x.rows
  have := text_len x.root
  have := numOf_len 2
  have := numOf_len x.s
  have := numOf_len x.e
  have := numOf_len x.b
  have := h.root
  unfold Nt.items
  simp only [flat_clen, flat_nlen]; omega
theorem Sx.SBle.empty {tot tot' : Nat} {ty : TypeId} {cols : List Col} {z : Bool} (h : tot = tot') : SBle (.cells [] tot ty) (.rows z 0 cols false tot' ty) := by
  subst h
  intro _
  refine ⟨rfl, fun E o ⟨c, fr, h1, h2, _, h4⟩ => ⟨c, fr, h1, fun _ => h2, by omega, h4, fun i k col hi => absurd hi (Nat.not_lt_zero _)⟩, fun _ => rfl⟩
theorem grow_row {_n : Nat} {F : Nat → List UInt8} {k : Nat} {v : List UInt8} (hv : v = F k) {c c' : Nat} (hc : c = c') :
    SBle (.rows false (k + 1) [.str fun j => if j < k then F j else selS [v] (j - k)] false (c * 1) 9) (.rows false (k + 1) [.str F] false c' 9) := by
  refine Sx.SBle.strRows rfl (by omega) fun i hi => ?_
  by_cases h : i < k
  · rw [if_pos h]
  · have e : i = k := by omega
    subst e
    rw [if_neg h, Nat.sub_self, hv]
    rfl
theorem grow_next {n c _k : Nat} {y : Nat × Nat} (_h : Grow n y) (hk : (y.1 : Int) < (n : Int)) (hc : y.1 + 1 ≤ c) : Grow n (y.1 + 1, c) := ⟨by show y.1 + 1 ≤ n; omega, hc⟩
set_option maxHeartbeats 4000000 in
theorem fpr_holds (x : Rp) (z : Bool) (o c : Nat) (key : Option Nat) : Holds (runV (cfgPR x) 9 Tryz.f9 [x.sv (.vslc 0 2 z o 0 x.n c)] [seenR z o c x key] (putRA x)) := by
  refine Holds.of_eq (vcFPR x z o c key) ?_
  cases hx : x.ok with
  | false =>
    refine ⟨by simp, fun _ => ⟨(fun h => by cases h), fun _ _ => rfl⟩, fun h => by cases h⟩
  | true =>
    have hs := Rp.ok_small hx
    have hl := Rp.items_len hs
    have hr := Rp.rows_len hs
    have hh := head_len 192 (flat x.items).length
    have hh2 := head_len 192 (flat x.rows).length
    have hrow : x.rows.length = x.n := rowL_len _ _ _
    obtain ⟨h1, h2, h3, h4, h5, h6, h7, h8⟩ := hs
    have hb : ∀ i, i < x.n → (x.f i).length ≤ 6 ∧ (x.g i).length ≤ 80 ∧ (flat [textOf (x.f i), textOf (x.g i)]).length ≤ 104 ∧ (headOf 192 (flat [textOf (x.f i), textOf (x.g i)]).length).length ≤ 9 := fun i hi => ⟨(h7 i hi).1, (h7 i hi).2, rowE_len (h7 i hi), head_len _ _⟩
    simp only [Nat.le_refl, Int.toNat_natCast, Nat.zero_add, Nat.mul_one, and_self, true_and, and_true, Bool.not_true, Bool.false_eq_true, Bool.true_eq_false, false_imp_iff, forall_const]
    refine ⟨by omega, ⟨(0, x.n), ⟨Nat.zero_le _, Nat.zero_le _⟩, rfl, ⟨rfl, rfl⟩, Sx.SBle.empty rfl, SBle.refl _, SBle.refl _⟩, fun y hy => ⟨fun hk => ?_, fun hk => ?_⟩⟩
    · simp only [decide_eq_true_eq] at hk
      have hk' : y.1 < x.n := by omega
      obtain ⟨b1, b2, b3, b4⟩ := hb y.1 hk'
      have hle := hy.le
      generalize hL : (flat [textOf (x.f y.1), textOf (x.g y.1)]).length = L at *
      refine ⟨by omega, by omega, by omega, by omega, by omega, by omega, by omega, by omega, fun c1 hc => ⟨by omega, (y.1 + 1, c1), ⟨grow_next (_k := 0) hy (by omega) hc, by show x.n - (y.1 + 1) < x.n - y.1; omega⟩, by simp, ⟨rfl, rfl⟩, ?_, SBle.refl _, SBle.refl _⟩⟩
      have := @grow_row x.n (rowE x.f x.g) y.1 (cat (headOf 192 L) (flat [textOf (x.f y.1), textOf (x.g y.1)])) (by rw [rowE, listOf, hL]; rfl) c1 c1 rfl
      rw [Nat.mul_one] at this
      exact this
    · simp only [decide_eq_false_iff_not] at hk
      have e : y.1 = x.n := by have := hy.le; omega
      have hc := hy.cap
      rw [e] at hc ⊢
      have e1 : rowL (rowE x.f x.g) 0 x.n = x.rows := rfl
      have e2 : cat (headOf 192 (flat x.rows).length) (flat x.rows) = listOf x.rows := rfl
      have e3 : flat [numOf 1, numOf x.s, numOf x.q, numOf x.e, numOf x.v, textOf x.root, listOf x.rows, textOf x.proof, bif x.more then [1] else [128]] = flat x.items := rfl
      rw [e1, e2, e3, hrow]
      generalize hL : (flat x.items).length = L at *
      refine ⟨by omega, by omega, by omega, by omega, by omega, by omega, by omega, by omega, by omega, by omega, by omega, by omega, by omega, ?_⟩
      intro E
      rw [Rp.put, listOf, hL]; rfl
set_option maxHeartbeats 4000000 in
theorem fpn_holds (x : Nt) (z : Bool) (o c : Nat) (key : Option Nat) : Holds (runV (cfgPN x) 11 Tryz.f11 [x.sv (.vslc 0 3 z o 0 x.n c)] [seenC z o c x key] (putNA x)) := by
  refine Holds.of_eq (vcFPN x z o c key) ?_
  cases hx : x.ok with
  | false =>
    refine ⟨by simp, fun _ => ⟨(fun h => by cases h), fun _ _ => rfl⟩, fun h => by cases h⟩
  | true =>
    have hs := Nt.ok_small hx
    have hl := Nt.items_len hs
    have hr := Nt.rows_len hs
    have hh := head_len 192 (flat x.items).length
    have hh2 := head_len 192 (flat x.rows).length
    have hrow : x.rows.length = x.n := rowL_len _ _ _
    obtain ⟨h1, h2, h3, h5, h6, h7⟩ := hs
    have hb : ∀ i, i < x.n → (x.f i).length ≤ 6 ∧ (x.g i).length ≤ 80 ∧ (flat [textOf (x.f i), textOf (x.g i), flagB (x.h i)]).length ≤ 105 ∧ (headOf 192 (flat [textOf (x.f i), textOf (x.g i), flagB (x.h i)]).length).length ≤ 9 := fun i hi => ⟨(h7 i hi).1, (h7 i hi).2, rowC_len (h7 i hi), head_len _ _⟩
    simp only [Nat.le_refl, Int.toNat_natCast, Nat.zero_add, Nat.mul_one, and_self, true_and, and_true, Bool.not_true, Bool.false_eq_true, Bool.true_eq_false, false_imp_iff, forall_const]
    refine ⟨by omega, ⟨(0, x.n), ⟨Nat.zero_le _, Nat.zero_le _⟩, rfl, ⟨rfl, rfl⟩, Sx.SBle.empty rfl, SBle.refl _, SBle.refl _⟩, fun y hy => ⟨fun hk => ?_, fun hk => ?_⟩⟩
    · simp only [decide_eq_true_eq] at hk
      have hk' : y.1 < x.n := by omega
      obtain ⟨b1, b2, b3, b4⟩ := hb y.1 hk'
      have hle := hy.le
      have ef : (bif x.h y.1 then [1] else [128] : List UInt8) = flagB (x.h y.1) := rfl
      rw [ef]
      generalize hL : (flat [textOf (x.f y.1), textOf (x.g y.1), flagB (x.h y.1)]).length = L at *
      refine ⟨by omega, by omega, by omega, by omega, by omega, by omega, by omega, by omega, fun c1 hc => ⟨by omega, (y.1 + 1, c1), ⟨grow_next (_k := 0) hy (by omega) hc, by show x.n - (y.1 + 1) < x.n - y.1; omega⟩, by simp, ⟨rfl, rfl⟩, ?_, SBle.refl _, SBle.refl _⟩⟩
      have := @grow_row x.n (rowC x.f x.g x.h) y.1 (cat (headOf 192 L) (flat [textOf (x.f y.1), textOf (x.g y.1), flagB (x.h y.1)])) (by rw [rowC, listOf, hL]; rfl) c1 c1 rfl
      rw [Nat.mul_one] at this
      exact this
    · simp only [decide_eq_false_iff_not] at hk
      have e : y.1 = x.n := by have := hy.le; omega
      have hc := hy.cap
      rw [e] at hc ⊢
      have e1 : rowL (rowC x.f x.g x.h) 0 x.n = x.rows := rfl
      have e2 : cat (headOf 192 (flat x.rows).length) (flat x.rows) = listOf x.rows := rfl
      have e3 : flat [numOf 2, numOf x.s, numOf x.e, numOf x.b, textOf x.root, listOf x.rows] = flat x.items := rfl
      rw [e1, e2, e3, hrow]
      generalize hL : (flat x.items).length = L at *
      refine ⟨by omega, by omega, by omega, by omega, by omega, by omega, by omega, by omega, by omega, by omega, by omega, ?_⟩
      intro E
      rw [Nt.put, listOf, hL]; rfl
def fprSpec (vs : List SV) (l : List Seen) : Option (Prop × Ans) := match replyOf vs l with
  | some (x, _) => some (True, putRA x)
  | none => none
def fpnSpec (vs : List SV) (l : List Seen) : Option (Prop × Ans) := match noticeOf vs l with
  | some (x, _) => some (True, putNA x)
  | none => none
theorem fpr_ok : CallOk Tryz.prog 9 (ansVPT shR fprSpec) := by
  refine ansV_ok (n := 20) (fn := Tryz.f9) Tryz.func9 (by kernel_rfl) (by kernel_rfl) ?_
  intro vs l q a h hq
  unfold fprSpec at h
  split at h
  · rename_i x r hx
    obtain ⟨z, o, c, key⟩ := r
    injection h with h; injection h with h1 h2; subst h1; subst h2
    obtain ⟨e1, e2⟩ := replyOf_eq hx
    rw [e1, e2]
    exact ⟨_, goodPR x, rfl, fun b => by cases b <;> exact rfl, fpr_holds x z o c key⟩
  · cases h
theorem fpn_ok : CallOk Tryz.prog 11 (ansVPT shN fpnSpec) := by
  refine ansV_ok (n := 20) (fn := Tryz.f11) Tryz.func11 (by kernel_rfl) (by kernel_rfl) ?_
  intro vs l q a h hq
  unfold fpnSpec at h
  split at h
  · rename_i x r hx
    obtain ⟨z, o, c, key⟩ := r
    injection h with h; injection h with h1 h2; subst h1; subst h2
    obtain ⟨e1, e2⟩ := noticeOf_eq hx
    rw [e1, e2]
    exact ⟨_, goodPN x, rfl, fun b => by cases b <;> exact rfl, fpn_holds x z o c key⟩
  · cases h
noncomputable def listF7 : List (FuncId × PT) := (9, ansVPT shR fprSpec) :: (11, ansVPT shN fpnSpec) :: listF6
theorem listF7_ok : SummOk Tryz.prog (fun f => lookPT f listF7) := .cons fpr_ok (ansVPT_mono _ _) (.cons fpn_ok (ansVPT_mono _ _) listF6_ok)
end Go.Proofs.YtocikfhejpilaaaGreatDoor
/-
  Frame: the reply, the notice that bytes are: the set-up.
-/
namespace Go.Proofs.YtocikfhejpilaaaGreatDoor
open Go Sx
set_option maxRecDepth 20000

/-- The j-th item of the i-th row of a list that an item is. -/
def subOf (t : List UInt8) (i j : Nat) : List UInt8 := itemAt (cutIn (itemAt (cutIn t) i)) j
/-- The reply that bytes would be. -/
def replyD (s : List UInt8) : Rp := ⟨numI (itOf s 1), numI (itOf s 2), numI (itOf s 3), numI (itOf s 4), cutIn (itOf s 5), itemsN (cutIn (itOf s 6)), fun i => cutIn (subOf (itOf s 6) i 0), fun i => cutIn (subOf (itOf s 6) i 1), cutIn (itOf s 7), decide (numI (itOf s 8) = 1)⟩
def getReplyB (s : List UInt8) : Bool := (replyD s).ok && decide ((replyD s).put = s)
def noReply : SV := .agg [.int .i64 true 0, .int .i64 true 0, .int .i64 true 0, .int .i64 true 0, .str true [], .nilslc, .str true [], .bool true false]
def getReplyA (s : List UInt8) : Ans := .fork (getReplyB s) fun b => match b with
  | true => .all Nat fun c => .req (itemsN (cutIn (itOf s 6)) ≤ c) (.new (fun k => .tup [(replyD s).sv (.rslc k 2 false 0 (itemsN (cutIn (itOf s 6))) c), .int .i64 true 0]) (.rows false (itemsN (cutIn (itOf s 6))) (colsE (replyD s).f (replyD s).g) false (c * 2) 52))
  | false => .ret (.tup [noReply, .int .i64 true 2])
/-- The notice that bytes would be. -/
def noticeD (s : List UInt8) : Nt := ⟨numI (itOf s 1), numI (itOf s 2), numI (itOf s 3), cutIn (itOf s 4), itemsN (cutIn (itOf s 5)), fun i => cutIn (subOf (itOf s 5) i 0), fun i => cutIn (subOf (itOf s 5) i 1), fun i => decide (numI (subOf (itOf s 5) i 2) = 1)⟩
def getNoticeB (s : List UInt8) : Bool := (noticeD s).ok && decide ((noticeD s).put = s)
def noNotice : SV := .agg [.int .i64 true 0, .int .i64 true 0, .int .i64 true 0, .str true [], .nilslc]
def getNoticeA (s : List UInt8) : Ans := .fork (getNoticeB s) fun b => match b with
  | true => .all Nat fun c => .req (itemsN (cutIn (itOf s 5)) ≤ c) (.new (fun k => .tup [(noticeD s).sv (.rslc k 3 false 0 (itemsN (cutIn (itOf s 5))) c), .int .i64 true 0]) (.rows false (itemsN (cutIn (itOf s 5))) (colsC (noticeD s).f (noticeD s).g (noticeD s).h) false (c * 3) 54))
  | false => .ret (.tup [noNotice, .int .i64 true 2])
noncomputable def annRows (tmp slot w : Nat) (ty : TypeId) (n : Nat) (cols : List Col) : LoopAnn :=
  { α := Nat × Nat, pre := fun _ x => Grow n x, mea := fun _ x => n - x.1, fresh := 1, slots := fun st x => [(tmp, .int .i64 false x.1), (slot, .rslc st.nx w false 0 x.1 x.2)],
    mem := fun st x => [(st.nx, .rows false x.1 cols false (x.2 * w) ty)] }
/-! ### Where ways come together: the reader has read what it should, or it has failed. The reader is block 3, what is filled block 1, the kind block 2. -/
def errW (n : Int) : SV := .iface 117 (.agg [.int .i64 true n, .iface 24 (.int .i64 true 2)])
def okSB : Option SB → Bool
  | some (.cells [_, _, .niliface] _ _) => true
  | _ => false
def okR (st : St) : Bool := okSB (st.m.get 3)
def tagR (st : St) : Nat := match slot st.tmps 6 with
  | some (.ptr k _ _) => (match okSB (st.m.get k) with
    | true => 0
    | false => 1)
  | _ => 1
def itemsR (st : St) : SV := match st.m.get 3 with
  | some (.cells (v :: _) _ _) => v
  | _ => .nilptr
def filledR (st : St) : List SV := match st.m.get 1 with
  | some (.cells cs _ _) => cs
  | _ => []
def rOk (st : St) (n : Int) : Nat × SB := (3, .cells [itemsR st, .int .i64 true n, .niliface] 3 97)
def rNo (st : St) (n : Int) : Nat × SB := (3, .cells [itemsR st, .int .i64 false n, errW n] 3 97)
/-- A way that is on; one that has failed. -/
def two (a b : LoopAnn) : Multi := ⟨[0, 1], tagR, fun t => match t with
  | 0 => a
  | _ => b⟩
def ifOk (a b : LoopAnn) : St → Option Multi := fun st => match okR st with
  | true => some (two a b)
  | false => none
noncomputable def aListed (l : List SV) : LoopAnn :=
  { α := Nat, pre := fun _ c => l.length ≤ c, mea := fun _ _ => 0, fresh := 2, slots := fun _ _ => [(6, .ptr 3 true 0)],
    mem := fun _ c => [(3, .cells [.slc 4 0 l.length false c, .int .i64 true 0, .niliface] 3 97), (4, .cells l c 9)] }
noncomputable def aUnlisted (B : Bool) : LoopAnn :=
  { α := Unit, pre := fun _ _ => B = false, mea := fun _ _ => 0, fresh := 1, slots := fun _ _ => [(6, .ptr 3 true 0)],
    mem := fun _ _ => [(3, .cells [.nilslc, .int .i64 true 0, errW 0] 3 97)] }
def aMem (m : St → Mem) : LoopAnn := { α := Unit, pre := fun _ _ => True, mea := fun _ _ => 0, fresh := 0, slots := fun _ _ => [], mem := fun st _ => m st }
def aFail (B : Bool) (α : Type) (m : St → α → Mem) : LoopAnn := { α := α, pre := fun _ _ => B = false, mea := fun _ _ => 0, fresh := 0, slots := fun _ _ => [], mem := m }
def aRows (n : Nat) (m : St → Nat → Mem) : LoopAnn := { α := Nat, pre := fun _ c => n ≤ c, mea := fun _ _ => 0, fresh := 1, slots := fun _ _ => [], mem := m }
def strs9 (s : List UInt8) : List SV := [.str false (itemAt (cutIn s) 0), .str false (itemAt (cutIn s) 1), .str false (itemAt (cutIn s) 2), .str false (itemAt (cutIn s) 3), .str false (itemAt (cutIn s) 4), .str false (itemAt (cutIn s) 5), .str false (itemAt (cutIn s) 6), .str false (itemAt (cutIn s) 7), .str false (itemAt (cutIn s) 8)]
def strs6 (s : List UInt8) : List SV := [.str false (itemAt (cutIn s) 0), .str false (itemAt (cutIn s) 1), .str false (itemAt (cutIn s) 2), .str false (itemAt (cutIn s) 3), .str false (itemAt (cutIn s) 4), .str false (itemAt (cutIn s) 5)]
def xr (cs : List SV) : Nat × SB := (1, .cells cs 8 27)
def xn (cs : List SV) : Nat × SB := (1, .cells cs 5 30)
def kindB (n : Int) : Nat × SB := (2, .cells [.int .i64 false n] 1 3)
noncomputable def joinsR (s : List UInt8) : Anns :=
  let B := getReplyB s
  let D := replyD s
  [(1003, fun _ => some (two (aListed (strs9 s)) (aUnlisted B))),
   (1004, ifOk (aMem fun st => [rOk st 3, xr (((filledR st).set 0 (.int .i64 false D.s)).set 1 (.int .i64 false D.q)), kindB (numI (itOf s 0))])
     (aFail B (Int × Int × Int × Int) fun st y => [rNo st y.1, xr (((filledR st).set 0 (.int .i64 false y.2.1)).set 1 (.int .i64 false y.2.2.1)), kindB y.2.2.2])),
   (1005, ifOk (aMem fun st => [rOk st 4, xr ((filledR st).set 2 (.int .i64 false D.e))]) (aFail B (Int × Int) fun st y => [rNo st y.1, xr ((filledR st).set 2 (.int .i64 false y.2))])),
   (1006, ifOk (aMem fun st => [rOk st 5, xr ((filledR st).set 3 (.int .i64 false D.v))]) (aFail B (Int × Int) fun st y => [rNo st y.1, xr ((filledR st).set 3 (.int .i64 false y.2))])),
   (1007, ifOk (aMem fun st => [rOk st 6, xr ((filledR st).set 4 (.str false D.root))]) (aFail B (Int × List UInt8) fun st y => [rNo st y.1, xr ((filledR st).set 4 (.str false y.2))])),
   (1008, ifOk (aRows D.n fun st c => [rOk st 7, xr ((filledR st).set 5 (.rslc st.nx 2 false 0 D.n c)), (st.nx, .rows false D.n (colsE D.f D.g) false (c * 2) 52)])
     (aFail B Int fun st y => [rNo st y])),
   (1009, ifOk (aMem fun st => [rOk st 8, xr ((filledR st).set 6 (.str false D.proof))]) (aFail B (Int × List UInt8) fun st y => [rNo st y.1, xr ((filledR st).set 6 (.str false y.2))])),
   (1010, ifOk (aMem fun st => [rOk st 9, xr ((filledR st).set 7 (.bool false D.more))]) (aFail B (Int × Bool) fun st y => [rNo st y.1, xr ((filledR st).set 7 (.bool false y.2))]))]
noncomputable def joinsN (s : List UInt8) : Anns :=
  let B := getNoticeB s
  let D := noticeD s
  [(1003, fun _ => some (two (aListed (strs6 s)) (aUnlisted B))),
   (1004, ifOk (aMem fun st => [rOk st 2, xn ((filledR st).set 0 (.int .i64 false D.s)), kindB (numI (itOf s 0))])
     (aFail B (Int × Int × Int) fun st y => [rNo st y.1, xn ((filledR st).set 0 (.int .i64 false y.2.1)), kindB y.2.2])),
   (1005, ifOk (aMem fun st => [rOk st 3, xn ((filledR st).set 1 (.int .i64 false D.e))]) (aFail B (Int × Int) fun st y => [rNo st y.1, xn ((filledR st).set 1 (.int .i64 false y.2))])),
   (1006, ifOk (aMem fun st => [rOk st 4, xn ((filledR st).set 2 (.int .i64 false D.b))]) (aFail B (Int × Int) fun st y => [rNo st y.1, xn ((filledR st).set 2 (.int .i64 false y.2))])),
   (1007, ifOk (aMem fun st => [rOk st 5, xn ((filledR st).set 3 (.str false D.root))]) (aFail B (Int × List UInt8) fun st y => [rNo st y.1, xn ((filledR st).set 3 (.str false y.2))])),
   (1008, ifOk (aRows D.n fun st c => [rOk st 6, xn ((filledR st).set 4 (.rslc st.nx 3 false 0 D.n c)), (st.nx, .rows false D.n (colsC D.f D.g D.h) false (c * 3) 54)])
     (aFail B Int fun st y => [rNo st y]))]
noncomputable def cfgGR (s : List UInt8) : Cfg := { cfg0 with summ := fun f => lookPT f listF7, anns := fun f => if f = 21 then joinsR s else
  if f = 52 then [(7, always (annRows 41 8 2 52 (replyD s).n (colsE (replyD s).f (replyD s).g)))] else [] }
noncomputable def cfgGN (s : List UInt8) : Cfg := { cfg0 with summ := fun f => lookPT f listF7, anns := fun f => if f = 23 then joinsN s else
  if f = 57 then [(7, always (annRows 41 8 3 54 (noticeD s).n (colsC (noticeD s).f (noticeD s).g (noticeD s).h)))] else [] }
theorem goodGR (s : List UInt8) : Sx.Good Tryz.prog (cfgGR s) := ⟨mixes, listF7_ok, fns_ok⟩
theorem goodGN (s : List UInt8) : Sx.Good Tryz.prog (cfgGN s) := ⟨mixes, listF7_ok, fns_ok⟩
end Go.Proofs.YtocikfhejpilaaaGreatDoor
/-
  Frame: plain laws: the bytes of a reply, of a notice tell it.
-/
namespace Go.Proofs.YtocikfhejpilaaaGreatDoor
open Go Sx
set_option maxRecDepth 20000

/-- A list's bytes, cut. -/
structure ListCut (t : List UInt8) (l : List (List UInt8)) : Prop where
  b : cutB t = true
  li : cutL t = true
  r : cutRest t = []
  i : cutIn t = flat l
  ib : itemsB (cutIn t) = true
  n : itemsN (cutIn t) = l.length
  at' : ∀ (k : Nat) (v : List UInt8), l[k]? = some v → itemAt (cutIn t) k = v
def Whole (y : List UInt8) : Prop := cutB y = true ∧ cutRest y = []
theorem listOf_cut {l : List (List UInt8)} (h : ∀ y ∈ l, Whole y) (hl : (flat l).length ≤ 1048576) : ListCut (listOf l) l := by
  obtain ⟨h1, h2, h3, h4⟩ := list_cut hl []
  rw [List.append_nil] at h1 h2 h3 h4
  have e : headOf 192 (flat l).length ++ flat l = listOf l := rfl
  rw [e] at h1 h2 h3 h4
  obtain ⟨g1, g2, g3⟩ := flat_items l h
  exact ⟨h1, h2, h4, h3, by rw [h3]; exact g1, by rw [h3]; exact g2, fun k v hk => by rw [h3]; exact g3 k v hk⟩
theorem ListCut.whole {t : List UInt8} {l : List (List UInt8)} (h : ListCut t l) : Whole t := ⟨h.b, h.r⟩
theorem numOf_whole {n : Int} (h0 : 0 ≤ n) (h : n < 18446744073709551616) : Whole (numOf n) := ⟨(numOf_get h0 h).2.1, (numOf_get h0 h).2.2.2.1⟩
theorem textOf_whole {b : List UInt8} (h : b.length ≤ 1048576) : Whole (textOf b) := ⟨(textOf_get h).1, (textOf_get h).2.2.1⟩
theorem flagB_num (b : Bool) : flagB b = numOf (bif b then 1 else 0) := by cases b <;> decide
theorem flagB_whole (b : Bool) : Whole (flagB b) := by
  rw [flagB_num]; cases b <;> exact numOf_whole (by decide) (by decide)
theorem flagB_get (b : Bool) : getB (flagB b) = true ∧ numI (flagB b) = (bif b then 1 else 0) := by
  rw [flagB_num]
  cases b <;> exact ⟨(numOf_get (by decide) (by decide)).1, (numOf_get (by decide) (by decide)).2.2.2.2⟩
theorem numI_eq (t : List UInt8) : num (cutIn t) = numI t := rfl
theorem rowE_cut {x : Rp} (h : x.Small) {i : Nat} (hi : i < x.n) : ListCut (rowE x.f x.g i) [textOf (x.f i), textOf (x.g i)] := by
  have := h.row i hi
  have hl := rowE_len this
  refine listOf_cut (fun y hy => ?_) (by omega)
  simp only [List.mem_cons, List.not_mem_nil, or_false] at hy
  rcases hy with rfl | rfl <;> exact textOf_whole (by omega)
theorem rowC_cut {x : Nt} (h : x.Small) {i : Nat} (hi : i < x.n) : ListCut (rowC x.f x.g x.h i) [textOf (x.f i), textOf (x.g i), flagB (x.h i)] := by
  have := h.row i hi
  have hl := rowC_len (h := x.h) this
  refine listOf_cut (fun y hy => ?_) (by omega)
  simp only [List.mem_cons, List.not_mem_nil, or_false] at hy
  rcases hy with rfl | rfl | rfl
  · exact textOf_whole (by omega)
  · exact textOf_whole (by omega)
  · exact flagB_whole _
theorem Rp.rows_cut {x : Rp} (h : x.Small) : ListCut (listOf x.rows) x.rows := by
  have := Rp.rows_len h
  refine listOf_cut (fun y hy => ?_) (by omega)
  obtain ⟨i, hi, rfl⟩ := rowL_mem hy
  exact (rowE_cut h hi).whole
theorem Nt.rows_cut {x : Nt} (h : x.Small) : ListCut (listOf x.rows) x.rows := by
  have := Nt.rows_len h
  refine listOf_cut (fun y hy => ?_) (by omega)
  obtain ⟨i, hi, rfl⟩ := rowL_mem hy
  exact (rowC_cut h hi).whole
theorem Rp.put_cut {x : Rp} (h : x.Small) : ListCut x.put x.items := by
  have := Rp.items_len h
  refine listOf_cut (fun y hy => ?_) (by omega)
  have r := (Rp.rows_cut h).whole
  obtain ⟨h1, h2, h3, h4, h5, h6, h7, h8⟩ := h
  simp only [Rp.items, List.mem_cons, List.not_mem_nil, or_false] at hy
  rcases hy with rfl | rfl | rfl | rfl | rfl | rfl | rfl | rfl | rfl
  all_goals first
    | exact numOf_whole (by omega) (by omega)
    | exact textOf_whole (by omega)
    | exact flagB_whole _
    | exact r
theorem Nt.put_cut {x : Nt} (h : x.Small) : ListCut x.put x.items := by
  have := Nt.items_len h
  refine listOf_cut (fun y hy => ?_) (by omega)
  have r := (Nt.rows_cut h).whole
  obtain ⟨h1, h2, h3, h5, h6, h7⟩ := h
  simp only [Nt.items, List.mem_cons, List.not_mem_nil, or_false] at hy
  rcases hy with rfl | rfl | rfl | rfl | rfl | rfl
  all_goals first
    | exact numOf_whole (by omega) (by omega)
    | exact textOf_whole (by omega)
    | exact r
theorem rowL_at {f : Nat → List UInt8} {n k : Nat} (h : k < n) : (rowL f 0 n)[k]? = some (f k) := by
  rw [rowL, List.getElem?_map, List.getElem?_range h]; simp
theorem rowL_congr {f g : Nat → List UInt8} {n : Nat} (h : ∀ i, i < n → f i = g i) : rowL f 0 n = rowL g 0 n := by
  unfold rowL
  apply List.map_congr_left
  intro i hi
  rw [Nat.zero_add]
  exact h i (List.mem_range.1 hi)
/-- Alike: the same, as far as there are rows. -/
structure Rp.Like (x y : Rp) : Prop where
  s : x.s = y.s
  q : x.q = y.q
  e : x.e = y.e
  v : x.v = y.v
  root : x.root = y.root
  n : x.n = y.n
  f : ∀ i, i < x.n → x.f i = y.f i
  g : ∀ i, i < x.n → x.g i = y.g i
  proof : x.proof = y.proof
  more : x.more = y.more
structure Nt.Like (x y : Nt) : Prop where
  s : x.s = y.s
  e : x.e = y.e
  b : x.b = y.b
  root : x.root = y.root
  n : x.n = y.n
  f : ∀ i, i < x.n → x.f i = y.f i
  g : ∀ i, i < x.n → x.g i = y.g i
  h : ∀ i, i < x.n → x.h i = y.h i
theorem rowsOk_congr {n : Nat} {f g f' g' : Nat → List UInt8} (h : ∀ i, i < n → f i = f' i) (h' : ∀ i, i < n → g i = g' i) : rowsOk n f g = rowsOk n f' g' := by
  unfold rowsOk
  rw [Bool.eq_iff_iff, List.all_eq_true, List.all_eq_true]
  constructor
  · intro a i hi
    have := a i hi
    rw [List.mem_range] at hi
    unfold rowOk at this ⊢
    rw [← h i hi, ← h' i hi]; exact this
  · intro a i hi
    have := a i hi
    rw [List.mem_range] at hi
    unfold rowOk at this ⊢
    rw [h i hi, h' i hi]; exact this
theorem Rp.Like.ok {x y : Rp} (h : x.Like y) : x.ok = y.ok := by
  unfold Rp.ok
  rw [rowsOk_congr h.f h.g, h.s, h.q, h.e, h.v, h.root, h.n, h.proof]
theorem Nt.Like.ok {x y : Nt} (h : x.Like y) : x.ok = y.ok := by
  unfold Nt.ok
  rw [rowsOk_congr h.f h.g, h.s, h.e, h.b, h.root, h.n]
theorem Rp.Like.put {x y : Rp} (h : x.Like y) : x.put = y.put := by
  have e : x.rows = y.rows := by
    unfold Rp.rows
    rw [rowL_congr (f := rowE x.f x.g) (g := rowE y.f y.g) (fun i hi => by rw [rowE, rowE, h.f i hi, h.g i hi]), h.n]
  unfold Rp.put Rp.items
  rw [e, h.s, h.q, h.e, h.v, h.root, h.proof, h.more]
theorem Nt.Like.put {x y : Nt} (h : x.Like y) : x.put = y.put := by
  have e : x.rows = y.rows := by
    unfold Nt.rows
    rw [rowL_congr (f := rowC x.f x.g x.h) (g := rowC y.f y.g y.h) (fun i hi => by rw [rowC, rowC, h.f i hi, h.g i hi, h.h i hi]), h.n]
  unfold Nt.put Nt.items
  rw [e, h.s, h.e, h.b, h.root]
/-- All that the reader of a reply's bytes meets. -/
structure ReplyMeets (s : List UInt8) (x : Rp) : Prop where
  c : ListCut s x.items
  small : x.Small
  i0 : itOf s 0 = numOf 1
  i1 : itOf s 1 = numOf x.s
  i2 : itOf s 2 = numOf x.q
  i3 : itOf s 3 = numOf x.e
  i4 : itOf s 4 = numOf x.v
  i5 : itOf s 5 = textOf x.root
  i6 : itOf s 6 = listOf x.rows
  i7 : itOf s 7 = textOf x.proof
  i8 : itOf s 8 = flagB x.more
  row : ∀ i, i < x.n → itemAt (cutIn (itOf s 6)) i = rowE x.f x.g i
theorem Rp.meets {x : Rp} (h : x.Small) : ReplyMeets x.put x := by
  have c := Rp.put_cut h
  have i6 : itOf x.put 6 = listOf x.rows := c.at' 6 _ rfl
  exact ⟨c, h, c.at' 0 _ rfl, c.at' 1 _ rfl, c.at' 2 _ rfl, c.at' 3 _ rfl, c.at' 4 _ rfl, c.at' 5 _ rfl, i6, c.at' 7 _ rfl, c.at' 8 _ rfl,
    fun i hi => by rw [i6]; exact (Rp.rows_cut h).at' i _ (rowL_at hi)⟩
structure NoticeMeets (s : List UInt8) (x : Nt) : Prop where
  c : ListCut s x.items
  small : x.Small
  i0 : itOf s 0 = numOf 2
  i1 : itOf s 1 = numOf x.s
  i2 : itOf s 2 = numOf x.e
  i3 : itOf s 3 = numOf x.b
  i4 : itOf s 4 = textOf x.root
  i5 : itOf s 5 = listOf x.rows
  row : ∀ i, i < x.n → itemAt (cutIn (itOf s 5)) i = rowC x.f x.g x.h i
theorem Nt.meets {x : Nt} (h : x.Small) : NoticeMeets x.put x := by
  have c := Nt.put_cut h
  have i5 : itOf x.put 5 = listOf x.rows := c.at' 5 _ rfl
  exact ⟨c, h, c.at' 0 _ rfl, c.at' 1 _ rfl, c.at' 2 _ rfl, c.at' 3 _ rfl, c.at' 4 _ rfl, i5,
    fun i hi => by rw [i5]; exact (Nt.rows_cut h).at' i _ (rowL_at hi)⟩
theorem numI_num {n : Int} (h0 : 0 ≤ n) (h : n < 18446744073709551616) : numI (numOf n) = n := (numOf_get h0 h).2.2.2.2
theorem cutIn_text {b : List UInt8} (h : b.length ≤ 1048576) : cutIn (textOf b) = b := (textOf_get h).2.2.2
theorem replyD_n (s : List UInt8) : (replyD s).n = itemsN (cutIn (itOf s 6)) := by simp only [replyD]
theorem noticeD_n (s : List UInt8) : (noticeD s).n = itemsN (cutIn (itOf s 5)) := by simp only [noticeD]
theorem replyD_like {s : List UInt8} {x : Rp} (m : ReplyMeets s x) : (replyD s).Like x := by
  obtain ⟨h1, h2, h3, h4, h5, h6, h7, h8⟩ := m.small
  have en : itemsN (cutIn (itOf s 6)) = x.n := by rw [m.i6, (Rp.rows_cut m.small).n]; exact rowL_len _ _ _
  constructor
  · simp only [replyD, m.i1]; exact numI_num (by omega) (by omega)
  · simp only [replyD, m.i2]; exact numI_num (by omega) (by omega)
  · simp only [replyD, m.i3]; exact numI_num (by omega) (by omega)
  · simp only [replyD, m.i4]; exact numI_num (by omega) (by omega)
  · simp only [replyD, m.i5]; exact cutIn_text (by omega)
  · simp only [replyD]; exact en
  · intro i hi
    rw [replyD_n, en] at hi
    have := h7 i hi
    simp only [replyD, subOf]
    rw [m.row i hi, (rowE_cut m.small hi).at' 0 _ rfl]; exact cutIn_text (by omega)
  · intro i hi
    rw [replyD_n, en] at hi
    have := h7 i hi
    simp only [replyD, subOf]
    rw [m.row i hi, (rowE_cut m.small hi).at' 1 _ rfl]; exact cutIn_text (by omega)
  · simp only [replyD, m.i7]; exact cutIn_text (by omega)
  · simp only [replyD]
    rw [m.i8, (flagB_get x.more).2]; cases x.more <;> rfl
theorem noticeD_like {s : List UInt8} {x : Nt} (m : NoticeMeets s x) : (noticeD s).Like x := by
  obtain ⟨h1, h2, h3, h5, h6, h7⟩ := m.small
  have en : itemsN (cutIn (itOf s 5)) = x.n := by rw [m.i5, (Nt.rows_cut m.small).n]; exact rowL_len _ _ _
  constructor
  · simp only [noticeD, m.i1]; exact numI_num (by omega) (by omega)
  · simp only [noticeD, m.i2]; exact numI_num (by omega) (by omega)
  · simp only [noticeD, m.i3]; exact numI_num (by omega) (by omega)
  · simp only [noticeD, m.i4]; exact cutIn_text (by omega)
  · simp only [noticeD]; exact en
  · intro i hi
    rw [noticeD_n, en] at hi
    have := h7 i hi
    simp only [noticeD, subOf]
    rw [m.row i hi, (rowC_cut m.small hi).at' 0 _ rfl]; exact cutIn_text (by omega)
  · intro i hi
    rw [noticeD_n, en] at hi
    have := h7 i hi
    simp only [noticeD, subOf]
    rw [m.row i hi, (rowC_cut m.small hi).at' 1 _ rfl]; exact cutIn_text (by omega)
  · intro i hi
    rw [noticeD_n, en] at hi
    simp only [noticeD, subOf]
    have e := (rowC_cut m.small hi).at' 2 _ rfl
    have q := (flagB_get (x.h i)).2
    simp only [m.row i hi, e, q]
    cases x.h i
    · simp only [cond_false]; decide
    · simp only [cond_true]; decide
theorem getReplyB_put {x : Rp} (h : x.ok = true) : getReplyB x.put = true ∧ (replyD x.put).Like x := by
  have l := replyD_like (Rp.meets (Rp.ok_small h))
  refine ⟨?_, l⟩
  unfold getReplyB
  rw [l.ok, l.put, h]
  simp
theorem getNoticeB_put {x : Nt} (h : x.ok = true) : getNoticeB x.put = true ∧ (noticeD x.put).Like x := by
  have l := noticeD_like (Nt.meets (Nt.ok_small h))
  refine ⟨?_, l⟩
  unfold getNoticeB
  rw [l.ok, l.put, h]
  simp
theorem getReplyB_iff {s : List UInt8} : getReplyB s = true ↔ (replyD s).ok = true ∧ (replyD s).put = s := by
  unfold getReplyB; simp only [Bool.and_eq_true, decide_eq_true_eq]
theorem getNoticeB_iff {s : List UInt8} : getNoticeB s = true ↔ (noticeD s).ok = true ∧ (noticeD s).put = s := by
  unfold getNoticeB; simp only [Bool.and_eq_true, decide_eq_true_eq]
theorem getReplyB_meets {s : List UInt8} (h : getReplyB s = true) : ReplyMeets s (replyD s) := by
  obtain ⟨h1, h2⟩ := getReplyB_iff.1 h
  have := Rp.meets (Rp.ok_small h1)
  rw [h2] at this; exact this
theorem getNoticeB_meets {s : List UInt8} (h : getNoticeB s = true) : NoticeMeets s (noticeD s) := by
  obtain ⟨h1, h2⟩ := getNoticeB_iff.1 h
  have := Nt.meets (Nt.ok_small h1)
  rw [h2] at this; exact this
end Go.Proofs.YtocikfhejpilaaaGreatDoor
