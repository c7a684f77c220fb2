/-
  Conditions that the executor computes, written out by a program (vcgen.py).
-/
import Derived.Test.YtocikfhejpilaaaGreatDoorSb
import Derived.Test.YtocikfhejpilaaaGreatDoorPf
namespace Go.Proofs.YtocikfhejpilaaaGreatDoor
open Go Sx
set_option maxRecDepth 20000

theorem vcPA2 (x : Ak) : VC.holds (runA cfgH2 8 Tryz.f8 [x.sv] (putA x)) = (True ∧
 ((!x.ok) = true →
 (x.ok = true →
 sameVal (SV.tup [SV.str true [], SV.int IntKind.i64 true (1 : Int)]) (SV.tup [SV.str false x.put, SV.int IntKind.i64 true (0 : Int)])) ∧
 (x.ok = false →
 sameVal (SV.tup [SV.str true [], SV.int IntKind.i64 true (1 : Int)]) (SV.tup [SV.str true [], SV.int IntKind.i64 true (1 : Int)]))) ∧
 ((!x.ok) = false →
 ((-9223372036854775808 : Int) ≤ x.a + (1 : Int) ∧
 x.a + (1 : Int) ≤ (9223372036854775807 : Int)) ∧
 ((0 : Int) ≤ (0 : Int) ∧
 (0 : Int) < (9223372036854775808 : Int)) ∧
 some (SB.cells x.sv.cells (7 : Nat) (23 : Nat)) = some (SB.cells x.sv.cells (7 : Nat) (23 : Nat)) ∧
 some (SB.cells x.sv.cells (7 : Nat) (23 : Nat)) = some (SB.cells x.sv.cells (7 : Nat) (23 : Nat)) ∧
 some (SB.cells x.sv.cells (7 : Nat) (23 : Nat)) = some (SB.cells x.sv.cells (7 : Nat) (23 : Nat)) ∧
 some (SB.cells x.sv.cells (7 : Nat) (23 : Nat)) = some (SB.cells x.sv.cells (7 : Nat) (23 : Nat)) ∧
 some (SB.cells x.sv.cells (7 : Nat) (23 : Nat)) = some (SB.cells x.sv.cells (7 : Nat) (23 : Nat)) ∧
 some (SB.cells x.sv.cells (7 : Nat) (23 : Nat)) = some (SB.cells x.sv.cells (7 : Nat) (23 : Nat)) ∧
 some (SB.cells x.sv.cells (7 : Nat) (23 : Nat)) = some (SB.cells x.sv.cells (7 : Nat) (23 : Nat)) ∧
 ((0 : Int) ≤ x.k ∧
 x.k < (9223372036854775808 : Int)) ∧
 some (SB.cells x.sv.cells (7 : Nat) (23 : Nat)) = some (SB.cells x.sv.cells (7 : Nat) (23 : Nat)) ∧
 some (SB.cells x.sv.cells (7 : Nat) (23 : Nat)) = some (SB.cells x.sv.cells (7 : Nat) (23 : Nat)) ∧
 some (SB.cells x.sv.cells (7 : Nat) (23 : Nat)) = some (SB.cells x.sv.cells (7 : Nat) (23 : Nat)) ∧
 some (SB.cells x.sv.cells (7 : Nat) (23 : Nat)) = some (SB.cells x.sv.cells (7 : Nat) (23 : Nat)) ∧
 some (SB.cells x.sv.cells (7 : Nat) (23 : Nat)) = some (SB.cells x.sv.cells (7 : Nat) (23 : Nat)) ∧
 some (SB.cells x.sv.cells (7 : Nat) (23 : Nat)) = some (SB.cells x.sv.cells (7 : Nat) (23 : Nat)) ∧
 ((0 : Int) ≤ x.s ∧
 x.s < (9223372036854775808 : Int)) ∧
 some (SB.cells x.sv.cells (7 : Nat) (23 : Nat)) = some (SB.cells x.sv.cells (7 : Nat) (23 : Nat)) ∧
 some (SB.cells x.sv.cells (7 : Nat) (23 : Nat)) = some (SB.cells x.sv.cells (7 : Nat) (23 : Nat)) ∧
 some (SB.cells x.sv.cells (7 : Nat) (23 : Nat)) = some (SB.cells x.sv.cells (7 : Nat) (23 : Nat)) ∧
 some (SB.cells x.sv.cells (7 : Nat) (23 : Nat)) = some (SB.cells x.sv.cells (7 : Nat) (23 : Nat)) ∧
 some (SB.cells x.sv.cells (7 : Nat) (23 : Nat)) = some (SB.cells x.sv.cells (7 : Nat) (23 : Nat)) ∧
 ((0 : Int) ≤ x.q ∧
 x.q < (9223372036854775808 : Int)) ∧
 some (SB.cells x.sv.cells (7 : Nat) (23 : Nat)) = some (SB.cells x.sv.cells (7 : Nat) (23 : Nat)) ∧
 some (SB.cells x.sv.cells (7 : Nat) (23 : Nat)) = some (SB.cells x.sv.cells (7 : Nat) (23 : Nat)) ∧
 some (SB.cells x.sv.cells (7 : Nat) (23 : Nat)) = some (SB.cells x.sv.cells (7 : Nat) (23 : Nat)) ∧
 some (SB.cells x.sv.cells (7 : Nat) (23 : Nat)) = some (SB.cells x.sv.cells (7 : Nat) (23 : Nat)) ∧
 ((0 : Int) ≤ x.a + (1 : Int) ∧
 x.a + (1 : Int) < (9223372036854775808 : Int)) ∧
 some (SB.cells x.sv.cells (7 : Nat) (23 : Nat)) = some (SB.cells x.sv.cells (7 : Nat) (23 : Nat)) ∧
 some (SB.cells x.sv.cells (7 : Nat) (23 : Nat)) = some (SB.cells x.sv.cells (7 : Nat) (23 : Nat)) ∧
 some (SB.cells x.sv.cells (7 : Nat) (23 : Nat)) = some (SB.cells x.sv.cells (7 : Nat) (23 : Nat)) ∧
 x.key.length < (1152921504606846976 : Nat) ∧
 some (SB.cells x.sv.cells (7 : Nat) (23 : Nat)) = some (SB.cells x.sv.cells (7 : Nat) (23 : Nat)) ∧
 some (SB.cells x.sv.cells (7 : Nat) (23 : Nat)) = some (SB.cells x.sv.cells (7 : Nat) (23 : Nat)) ∧
 x.to.length < (1152921504606846976 : Nat) ∧
 some (SB.cells x.sv.cells (7 : Nat) (23 : Nat)) = some (SB.cells x.sv.cells (7 : Nat) (23 : Nat)) ∧
 ((0 : Int) ≤ x.lim ∧
 x.lim < (9223372036854775808 : Int)) ∧
 (True ∧
 joinQ [numOf (0 : Int), numOf x.k, numOf x.s, numOf x.q, numOf (x.a + (1 : Int)), textOf x.key, textOf x.to, numOf x.lim]) ∧
 (x.ok = true →
 sameVal (SV.tup [listG [numOf (0 : Int), numOf x.k, numOf x.s, numOf x.q, numOf (x.a + (1 : Int)), textOf x.key, textOf x.to, numOf x.lim], SV.int IntKind.i64 true (0 : Int)]) (SV.tup [SV.str false x.put, SV.int IntKind.i64 true (0 : Int)])) ∧
 (x.ok = false →
 sameVal (SV.tup [listG [numOf (0 : Int), numOf x.k, numOf x.s, numOf x.q, numOf (x.a + (1 : Int)), textOf x.key, textOf x.to, numOf x.lim], SV.int IntKind.i64 true (0 : Int)]) (SV.tup [SV.str true [], SV.int IntKind.i64 true (1 : Int)])))) := by kernel_rfl
theorem vcPR2 (x : Rp) (z : Bool) (o c : Nat) (key : Option Nat) : VC.holds (runV (cfgPR2 x) 10 Tryz.f10 [x.sv (.vslc 0 2 z o 0 x.n c)] [seenR z o c x key] (putRA x)) = ((((True ∧
 True ∧
 True ∧
 True ∧
 True ∧
 (z = z ∧
 o = o ∧
 (0 : Nat) + x.n ≤ x.n) ∧
 True ∧
 True ∧
 True) ∧
 True) ∧
 x.n < (9223372036854775808 : Nat)) ∧
 ((!x.ok) = true →
 (x.ok = true →
 sameVal (SV.tup [SV.str true [], SV.int IntKind.i64 true (1 : Int)]) (SV.tup [SV.str false x.put, SV.int IntKind.i64 true (0 : Int)])) ∧
 (x.ok = false →
 sameVal (SV.tup [SV.str true [], SV.int IntKind.i64 true (1 : Int)]) (SV.tup [SV.str true [], SV.int IntKind.i64 true (1 : Int)]))) ∧
 ((!x.ok) = false →
 (∃ (y : Nat × Nat), Grow x.n y ∧
 (0 : Int) = (↑y.fst : Int) ∧
 y.fst = (0 : Nat) ∧
 (SB.rows true y.fst [Col.str (rowE x.f x.g)] false y.snd (9 : TypeId)).no = true ∧
 SBle (SB.cells (x.sv (SV.vslc (0 : Nat) (2 : Nat) z o (0 : Nat) x.n c)).cells (8 : Nat) (27 : Nat)) (SB.cells (x.sv (SV.vslc (0 : Nat) (2 : Nat) z o (0 : Nat) x.n c)).cells (8 : Nat) (27 : Nat)) ∧
 SBle (seenR z o c x key).B (seenR z o c x key).B ∧
 True) ∧
 ∀ (x_2 : Nat × Nat), Grow x.n x_2 →
 (decide ((↑x_2.fst : Int) < (↑x.n : Int)) = true →
 ((0 : Int) ≤ (↑x_2.fst : Int) ∧
 (↑x_2.fst : Int) < (↑x.n : Int)) ∧
 (o = o ∧
 (0 : Nat) + (↑x_2.fst : Int).toNat < x.n) ∧
 ((0 : Int) ≤ (↑x_2.fst : Int) ∧
 (↑x_2.fst : Int) < (↑x.n : Int)) ∧
 (o = o ∧
 (0 : Nat) + (↑x_2.fst : Int).toNat < x.n) ∧
 (x.f ((0 : Nat) + (↑x_2.fst : Int).toNat)).length < (1152921504606846976 : Nat) ∧
 some (seenR z o c x key).B = some (seenR z o c x key).B ∧
 some (SB.cells (x.sv (SV.vslc (0 : Nat) (2 : Nat) z o (0 : Nat) x.n c)).cells (8 : Nat) (27 : Nat)) = some (SB.cells (x.sv (SV.vslc (0 : Nat) (2 : Nat) z o (0 : Nat) x.n c)).cells (8 : Nat) (27 : Nat)) ∧
 (x.g ((0 : Nat) + (↑x_2.fst : Int).toNat)).length < (1152921504606846976 : Nat) ∧
 (True ∧
 joinQ [textOf (x.f ((0 : Nat) + (↑x_2.fst : Int).toNat)), textOf (x.g ((0 : Nat) + (↑x_2.fst : Int).toNat))]) ∧
 ((0 : Nat) + x_2.fst ≤ x_2.fst ∧
 True ∧
 (2 : Nat) * (x_2.fst + (1 : Nat)) * (16 : Nat) ≤ (281474976710656 : Nat) ∧
 x_2.fst + (1 : Nat) < (9223372036854775808 : Nat)) ∧
 x_2.snd = x_2.snd * (1 : Nat) ∧
 ∀ (c_1 : Nat), x_2.fst + (1 : Nat) ≤ c_1 →
 ((-9223372036854775808 : Int) ≤ (↑x_2.fst : Int) + (1 : Int) ∧
 (↑x_2.fst : Int) + (1 : Int) ≤ (9223372036854775807 : Int)) ∧
 ∃ (y : Nat × Nat), (Grow x.n y ∧
 x.n - y.fst < x.n - x_2.fst) ∧
 (↑x_2.fst : Int) + (1 : Int) = (↑y.fst : Int) ∧
 ((0 : Nat) = (0 : Nat) ∧
 x_2.fst + (1 : Nat) = y.fst ∧
 c_1 = y.snd) ∧
 True ∧
 SBle (SB.rows true (x_2.fst + (1 : Nat)) [Col.str fun (j : Nat) => if j < x_2.fst then rowE x.f x.g j else selS [headOf (192 : Int) (flat [textOf (x.f ((0 : Nat) + (↑x_2.fst : Int).toNat)), textOf (x.g ((0 : Nat) + (↑x_2.fst : Int).toNat))]).length ++ flat [textOf (x.f ((0 : Nat) + (↑x_2.fst : Int).toNat)), textOf (x.g ((0 : Nat) + (↑x_2.fst : Int).toNat))]] (j - x_2.fst)] false (c_1 * (1 : Nat)) (9 : Nat)) (SB.rows true y.fst [Col.str (rowE x.f x.g)] false y.snd (9 : TypeId)) ∧
 SBle (SB.cells (x.sv (SV.vslc (0 : Nat) (2 : Nat) z o (0 : Nat) x.n c)).cells (8 : Nat) (27 : Nat)) (SB.cells (x.sv (SV.vslc (0 : Nat) (2 : Nat) z o (0 : Nat) x.n c)).cells (8 : Nat) (27 : Nat)) ∧
 SBle (seenR z o c x key).B (seenR z o c x key).B ∧
 True) ∧
 (decide ((↑x_2.fst : Int) < (↑x.n : Int)) = false →
 ((0 : Int) ≤ (1 : Int) ∧
 (1 : Int) < (9223372036854775808 : Int)) ∧
 some (SB.cells (x.sv (SV.vslc (0 : Nat) (2 : Nat) z o (0 : Nat) x.n c)).cells (8 : Nat) (27 : Nat)) = some (SB.cells (x.sv (SV.vslc (0 : Nat) (2 : Nat) z o (0 : Nat) x.n c)).cells (8 : Nat) (27 : Nat)) ∧
 some (SB.cells (x.sv (SV.vslc (0 : Nat) (2 : Nat) z o (0 : Nat) x.n c)).cells (8 : Nat) (27 : Nat)) = some (SB.cells (x.sv (SV.vslc (0 : Nat) (2 : Nat) z o (0 : Nat) x.n c)).cells (8 : Nat) (27 : Nat)) ∧
 some (SB.cells (x.sv (SV.vslc (0 : Nat) (2 : Nat) z o (0 : Nat) x.n c)).cells (8 : Nat) (27 : Nat)) = some (SB.cells (x.sv (SV.vslc (0 : Nat) (2 : Nat) z o (0 : Nat) x.n c)).cells (8 : Nat) (27 : Nat)) ∧
 some (SB.cells (x.sv (SV.vslc (0 : Nat) (2 : Nat) z o (0 : Nat) x.n c)).cells (8 : Nat) (27 : Nat)) = some (SB.cells (x.sv (SV.vslc (0 : Nat) (2 : Nat) z o (0 : Nat) x.n c)).cells (8 : Nat) (27 : Nat)) ∧
 some (SB.cells (x.sv (SV.vslc (0 : Nat) (2 : Nat) z o (0 : Nat) x.n c)).cells (8 : Nat) (27 : Nat)) = some (SB.cells (x.sv (SV.vslc (0 : Nat) (2 : Nat) z o (0 : Nat) x.n c)).cells (8 : Nat) (27 : Nat)) ∧
 some (SB.cells (x.sv (SV.vslc (0 : Nat) (2 : Nat) z o (0 : Nat) x.n c)).cells (8 : Nat) (27 : Nat)) = some (SB.cells (x.sv (SV.vslc (0 : Nat) (2 : Nat) z o (0 : Nat) x.n c)).cells (8 : Nat) (27 : Nat)) ∧
 some (SB.cells (x.sv (SV.vslc (0 : Nat) (2 : Nat) z o (0 : Nat) x.n c)).cells (8 : Nat) (27 : Nat)) = some (SB.cells (x.sv (SV.vslc (0 : Nat) (2 : Nat) z o (0 : Nat) x.n c)).cells (8 : Nat) (27 : Nat)) ∧
 ((0 : Int) ≤ x.s ∧
 x.s < (9223372036854775808 : Int)) ∧
 some (SB.cells (x.sv (SV.vslc (0 : Nat) (2 : Nat) z o (0 : Nat) x.n c)).cells (8 : Nat) (27 : Nat)) = some (SB.cells (x.sv (SV.vslc (0 : Nat) (2 : Nat) z o (0 : Nat) x.n c)).cells (8 : Nat) (27 : Nat)) ∧
 some (SB.cells (x.sv (SV.vslc (0 : Nat) (2 : Nat) z o (0 : Nat) x.n c)).cells (8 : Nat) (27 : Nat)) = some (SB.cells (x.sv (SV.vslc (0 : Nat) (2 : Nat) z o (0 : Nat) x.n c)).cells (8 : Nat) (27 : Nat)) ∧
 some (SB.cells (x.sv (SV.vslc (0 : Nat) (2 : Nat) z o (0 : Nat) x.n c)).cells (8 : Nat) (27 : Nat)) = some (SB.cells (x.sv (SV.vslc (0 : Nat) (2 : Nat) z o (0 : Nat) x.n c)).cells (8 : Nat) (27 : Nat)) ∧
 some (SB.cells (x.sv (SV.vslc (0 : Nat) (2 : Nat) z o (0 : Nat) x.n c)).cells (8 : Nat) (27 : Nat)) = some (SB.cells (x.sv (SV.vslc (0 : Nat) (2 : Nat) z o (0 : Nat) x.n c)).cells (8 : Nat) (27 : Nat)) ∧
 some (SB.cells (x.sv (SV.vslc (0 : Nat) (2 : Nat) z o (0 : Nat) x.n c)).cells (8 : Nat) (27 : Nat)) = some (SB.cells (x.sv (SV.vslc (0 : Nat) (2 : Nat) z o (0 : Nat) x.n c)).cells (8 : Nat) (27 : Nat)) ∧
 some (SB.cells (x.sv (SV.vslc (0 : Nat) (2 : Nat) z o (0 : Nat) x.n c)).cells (8 : Nat) (27 : Nat)) = some (SB.cells (x.sv (SV.vslc (0 : Nat) (2 : Nat) z o (0 : Nat) x.n c)).cells (8 : Nat) (27 : Nat)) ∧
 ((0 : Int) ≤ x.q ∧
 x.q < (9223372036854775808 : Int)) ∧
 some (SB.cells (x.sv (SV.vslc (0 : Nat) (2 : Nat) z o (0 : Nat) x.n c)).cells (8 : Nat) (27 : Nat)) = some (SB.cells (x.sv (SV.vslc (0 : Nat) (2 : Nat) z o (0 : Nat) x.n c)).cells (8 : Nat) (27 : Nat)) ∧
 some (SB.cells (x.sv (SV.vslc (0 : Nat) (2 : Nat) z o (0 : Nat) x.n c)).cells (8 : Nat) (27 : Nat)) = some (SB.cells (x.sv (SV.vslc (0 : Nat) (2 : Nat) z o (0 : Nat) x.n c)).cells (8 : Nat) (27 : Nat)) ∧
 some (SB.cells (x.sv (SV.vslc (0 : Nat) (2 : Nat) z o (0 : Nat) x.n c)).cells (8 : Nat) (27 : Nat)) = some (SB.cells (x.sv (SV.vslc (0 : Nat) (2 : Nat) z o (0 : Nat) x.n c)).cells (8 : Nat) (27 : Nat)) ∧
 some (SB.cells (x.sv (SV.vslc (0 : Nat) (2 : Nat) z o (0 : Nat) x.n c)).cells (8 : Nat) (27 : Nat)) = some (SB.cells (x.sv (SV.vslc (0 : Nat) (2 : Nat) z o (0 : Nat) x.n c)).cells (8 : Nat) (27 : Nat)) ∧
 some (SB.cells (x.sv (SV.vslc (0 : Nat) (2 : Nat) z o (0 : Nat) x.n c)).cells (8 : Nat) (27 : Nat)) = some (SB.cells (x.sv (SV.vslc (0 : Nat) (2 : Nat) z o (0 : Nat) x.n c)).cells (8 : Nat) (27 : Nat)) ∧
 ((0 : Int) ≤ x.e ∧
 x.e < (9223372036854775808 : Int)) ∧
 some (SB.cells (x.sv (SV.vslc (0 : Nat) (2 : Nat) z o (0 : Nat) x.n c)).cells (8 : Nat) (27 : Nat)) = some (SB.cells (x.sv (SV.vslc (0 : Nat) (2 : Nat) z o (0 : Nat) x.n c)).cells (8 : Nat) (27 : Nat)) ∧
 some (SB.cells (x.sv (SV.vslc (0 : Nat) (2 : Nat) z o (0 : Nat) x.n c)).cells (8 : Nat) (27 : Nat)) = some (SB.cells (x.sv (SV.vslc (0 : Nat) (2 : Nat) z o (0 : Nat) x.n c)).cells (8 : Nat) (27 : Nat)) ∧
 some (SB.cells (x.sv (SV.vslc (0 : Nat) (2 : Nat) z o (0 : Nat) x.n c)).cells (8 : Nat) (27 : Nat)) = some (SB.cells (x.sv (SV.vslc (0 : Nat) (2 : Nat) z o (0 : Nat) x.n c)).cells (8 : Nat) (27 : Nat)) ∧
 some (SB.cells (x.sv (SV.vslc (0 : Nat) (2 : Nat) z o (0 : Nat) x.n c)).cells (8 : Nat) (27 : Nat)) = some (SB.cells (x.sv (SV.vslc (0 : Nat) (2 : Nat) z o (0 : Nat) x.n c)).cells (8 : Nat) (27 : Nat)) ∧
 ((0 : Int) ≤ x.v ∧
 x.v < (9223372036854775808 : Int)) ∧
 some (SB.cells (x.sv (SV.vslc (0 : Nat) (2 : Nat) z o (0 : Nat) x.n c)).cells (8 : Nat) (27 : Nat)) = some (SB.cells (x.sv (SV.vslc (0 : Nat) (2 : Nat) z o (0 : Nat) x.n c)).cells (8 : Nat) (27 : Nat)) ∧
 some (SB.cells (x.sv (SV.vslc (0 : Nat) (2 : Nat) z o (0 : Nat) x.n c)).cells (8 : Nat) (27 : Nat)) = some (SB.cells (x.sv (SV.vslc (0 : Nat) (2 : Nat) z o (0 : Nat) x.n c)).cells (8 : Nat) (27 : Nat)) ∧
 some (SB.cells (x.sv (SV.vslc (0 : Nat) (2 : Nat) z o (0 : Nat) x.n c)).cells (8 : Nat) (27 : Nat)) = some (SB.cells (x.sv (SV.vslc (0 : Nat) (2 : Nat) z o (0 : Nat) x.n c)).cells (8 : Nat) (27 : Nat)) ∧
 x.root.length < (1152921504606846976 : Nat) ∧
 some (SB.cells (x.sv (SV.vslc (0 : Nat) (2 : Nat) z o (0 : Nat) x.n c)).cells (8 : Nat) (27 : Nat)) = some (SB.cells (x.sv (SV.vslc (0 : Nat) (2 : Nat) z o (0 : Nat) x.n c)).cells (8 : Nat) (27 : Nat)) ∧
 some (SB.cells (x.sv (SV.vslc (0 : Nat) (2 : Nat) z o (0 : Nat) x.n c)).cells (8 : Nat) (27 : Nat)) = some (SB.cells (x.sv (SV.vslc (0 : Nat) (2 : Nat) z o (0 : Nat) x.n c)).cells (8 : Nat) (27 : Nat)) ∧
 ((true = true ∧
 (0 : Nat) + x_2.fst ≤ x_2.fst) ∧
 joinQ (rowL (rowE x.f x.g) (0 : Nat) x_2.fst)) ∧
 some (SB.cells (x.sv (SV.vslc (0 : Nat) (2 : Nat) z o (0 : Nat) x.n c)).cells (8 : Nat) (27 : Nat)) = some (SB.cells (x.sv (SV.vslc (0 : Nat) (2 : Nat) z o (0 : Nat) x.n c)).cells (8 : Nat) (27 : Nat)) ∧
 some (SB.cells (x.sv (SV.vslc (0 : Nat) (2 : Nat) z o (0 : Nat) x.n c)).cells (8 : Nat) (27 : Nat)) = some (SB.cells (x.sv (SV.vslc (0 : Nat) (2 : Nat) z o (0 : Nat) x.n c)).cells (8 : Nat) (27 : Nat)) ∧
 x.proof.length < (1152921504606846976 : Nat) ∧
 some (SB.cells (x.sv (SV.vslc (0 : Nat) (2 : Nat) z o (0 : Nat) x.n c)).cells (8 : Nat) (27 : Nat)) = some (SB.cells (x.sv (SV.vslc (0 : Nat) (2 : Nat) z o (0 : Nat) x.n c)).cells (8 : Nat) (27 : Nat)) ∧
 True ∧
 (True ∧
 joinQ [numOf (1 : Int), numOf x.s, numOf x.q, numOf x.e, numOf x.v, textOf x.root, headOf (192 : Int) (flat (rowL (rowE x.f x.g) (0 : Nat) x_2.fst)).length ++ flat (rowL (rowE x.f x.g) (0 : Nat) x_2.fst), textOf x.proof, bif x.more then [(1 : UInt8)] else [(128 : UInt8)]]) ∧
 (x.ok = true →
 sameVal (SV.tup [listG [numOf (1 : Int), numOf x.s, numOf x.q, numOf x.e, numOf x.v, textOf x.root, headOf (192 : Int) (flat (rowL (rowE x.f x.g) (0 : Nat) x_2.fst)).length ++ flat (rowL (rowE x.f x.g) (0 : Nat) x_2.fst), textOf x.proof, bif x.more then [(1 : UInt8)] else [(128 : UInt8)]], SV.int IntKind.i64 true (0 : Int)]) (SV.tup [SV.str false x.put, SV.int IntKind.i64 true (0 : Int)])) ∧
 (x.ok = false →
 sameVal (SV.tup [listG [numOf (1 : Int), numOf x.s, numOf x.q, numOf x.e, numOf x.v, textOf x.root, headOf (192 : Int) (flat (rowL (rowE x.f x.g) (0 : Nat) x_2.fst)).length ++ flat (rowL (rowE x.f x.g) (0 : Nat) x_2.fst), textOf x.proof, bif x.more then [(1 : UInt8)] else [(128 : UInt8)]], SV.int IntKind.i64 true (0 : Int)]) (SV.tup [SV.str true [], SV.int IntKind.i64 true (1 : Int)]))))) := by kernel_rfl
theorem vcPN2 (x : Nt) (z : Bool) (o c : Nat) (key : Option Nat) : VC.holds (runV (cfgPN2 x) 12 Tryz.f12 [x.sv (.vslc 0 3 z o 0 x.n c)] [seenC z o c x key] (putNA x)) = ((((True ∧
 True ∧
 True ∧
 True ∧
 (z = z ∧
 o = o ∧
 (0 : Nat) + x.n ≤ x.n) ∧
 True) ∧
 True) ∧
 x.n < (9223372036854775808 : Nat)) ∧
 ((!x.ok) = true →
 (x.ok = true →
 sameVal (SV.tup [SV.str true [], SV.int IntKind.i64 true (1 : Int)]) (SV.tup [SV.str false x.put, SV.int IntKind.i64 true (0 : Int)])) ∧
 (x.ok = false →
 sameVal (SV.tup [SV.str true [], SV.int IntKind.i64 true (1 : Int)]) (SV.tup [SV.str true [], SV.int IntKind.i64 true (1 : Int)]))) ∧
 ((!x.ok) = false →
 (∃ (y : Nat × Nat), Grow x.n y ∧
 (0 : Int) = (↑y.fst : Int) ∧
 y.fst = (0 : Nat) ∧
 (SB.rows true y.fst [Col.str (rowC x.f x.g x.h)] false y.snd (9 : TypeId)).no = true ∧
 SBle (SB.cells (x.sv (SV.vslc (0 : Nat) (3 : Nat) z o (0 : Nat) x.n c)).cells (5 : Nat) (30 : Nat)) (SB.cells (x.sv (SV.vslc (0 : Nat) (3 : Nat) z o (0 : Nat) x.n c)).cells (5 : Nat) (30 : Nat)) ∧
 SBle (seenC z o c x key).B (seenC z o c x key).B ∧
 True) ∧
 ∀ (x_2 : Nat × Nat), Grow x.n x_2 →
 (decide ((↑x_2.fst : Int) < (↑x.n : Int)) = true →
 ((0 : Int) ≤ (↑x_2.fst : Int) ∧
 (↑x_2.fst : Int) < (↑x.n : Int)) ∧
 (o = o ∧
 (0 : Nat) + (↑x_2.fst : Int).toNat < x.n) ∧
 (x.f ((0 : Nat) + (↑x_2.fst : Int).toNat)).length < (1152921504606846976 : Nat) ∧
 some (SB.cells (setRange (SV.agg [SV.str true [], SV.str true [], SV.bool true false]).cells (0 : Nat) (SV.agg [Col.at ((0 : Nat) + (↑x_2.fst : Int).toNat) (Col.str x.f), Col.at ((0 : Nat) + (↑x_2.fst : Int).toNat) (Col.str x.g), Col.at ((0 : Nat) + (↑x_2.fst : Int).toNat) (Col.bool x.h)]).cells) (3 : Nat) (54 : Nat)) = some (SB.cells (setRange (SV.agg [SV.str true [], SV.str true [], SV.bool true false]).cells (0 : Nat) (SV.agg [Col.at ((0 : Nat) + (↑x_2.fst : Int).toNat) (Col.str x.f), Col.at ((0 : Nat) + (↑x_2.fst : Int).toNat) (Col.str x.g), Col.at ((0 : Nat) + (↑x_2.fst : Int).toNat) (Col.bool x.h)]).cells) (3 : Nat) (54 : Nat)) ∧
 some (SB.cells (setRange (SV.agg [SV.str true [], SV.str true [], SV.bool true false]).cells (0 : Nat) (SV.agg [Col.at ((0 : Nat) + (↑x_2.fst : Int).toNat) (Col.str x.f), Col.at ((0 : Nat) + (↑x_2.fst : Int).toNat) (Col.str x.g), Col.at ((0 : Nat) + (↑x_2.fst : Int).toNat) (Col.bool x.h)]).cells) (3 : Nat) (54 : Nat)) = some (SB.cells (setRange (SV.agg [SV.str true [], SV.str true [], SV.bool true false]).cells (0 : Nat) (SV.agg [Col.at ((0 : Nat) + (↑x_2.fst : Int).toNat) (Col.str x.f), Col.at ((0 : Nat) + (↑x_2.fst : Int).toNat) (Col.str x.g), Col.at ((0 : Nat) + (↑x_2.fst : Int).toNat) (Col.bool x.h)]).cells) (3 : Nat) (54 : Nat)) ∧
 (x.g ((0 : Nat) + (↑x_2.fst : Int).toNat)).length < (1152921504606846976 : Nat) ∧
 some (SB.cells (setRange (SV.agg [SV.str true [], SV.str true [], SV.bool true false]).cells (0 : Nat) (SV.agg [Col.at ((0 : Nat) + (↑x_2.fst : Int).toNat) (Col.str x.f), Col.at ((0 : Nat) + (↑x_2.fst : Int).toNat) (Col.str x.g), Col.at ((0 : Nat) + (↑x_2.fst : Int).toNat) (Col.bool x.h)]).cells) (3 : Nat) (54 : Nat)) = some (SB.cells (setRange (SV.agg [SV.str true [], SV.str true [], SV.bool true false]).cells (0 : Nat) (SV.agg [Col.at ((0 : Nat) + (↑x_2.fst : Int).toNat) (Col.str x.f), Col.at ((0 : Nat) + (↑x_2.fst : Int).toNat) (Col.str x.g), Col.at ((0 : Nat) + (↑x_2.fst : Int).toNat) (Col.bool x.h)]).cells) (3 : Nat) (54 : Nat)) ∧
 True ∧
 (True ∧
 joinQ [textOf (x.f ((0 : Nat) + (↑x_2.fst : Int).toNat)), textOf (x.g ((0 : Nat) + (↑x_2.fst : Int).toNat)), bif x.h ((0 : Nat) + (↑x_2.fst : Int).toNat) then [(1 : UInt8)] else [(128 : UInt8)]]) ∧
 ((0 : Nat) + x_2.fst ≤ x_2.fst ∧
 True ∧
 (2 : Nat) * (x_2.fst + (1 : Nat)) * (16 : Nat) ≤ (281474976710656 : Nat) ∧
 x_2.fst + (1 : Nat) < (9223372036854775808 : Nat)) ∧
 x_2.snd = x_2.snd * (1 : Nat) ∧
 ∀ (c_1 : Nat), x_2.fst + (1 : Nat) ≤ c_1 →
 ((-9223372036854775808 : Int) ≤ (↑x_2.fst : Int) + (1 : Int) ∧
 (↑x_2.fst : Int) + (1 : Int) ≤ (9223372036854775807 : Int)) ∧
 ∃ (y : Nat × Nat), (Grow x.n y ∧
 x.n - y.fst < x.n - x_2.fst) ∧
 (↑x_2.fst : Int) + (1 : Int) = (↑y.fst : Int) ∧
 ((0 : Nat) = (0 : Nat) ∧
 x_2.fst + (1 : Nat) = y.fst ∧
 c_1 = y.snd) ∧
 True ∧
 SBle (SB.rows true (x_2.fst + (1 : Nat)) [Col.str fun (j : Nat) => if j < x_2.fst then rowC x.f x.g x.h j else selS [headOf (192 : Int) (flat [textOf (x.f ((0 : Nat) + (↑x_2.fst : Int).toNat)), textOf (x.g ((0 : Nat) + (↑x_2.fst : Int).toNat)), bif x.h ((0 : Nat) + (↑x_2.fst : Int).toNat) then [(1 : UInt8)] else [(128 : UInt8)]]).length ++ flat [textOf (x.f ((0 : Nat) + (↑x_2.fst : Int).toNat)), textOf (x.g ((0 : Nat) + (↑x_2.fst : Int).toNat)), bif x.h ((0 : Nat) + (↑x_2.fst : Int).toNat) then [(1 : UInt8)] else [(128 : UInt8)]]] (j - x_2.fst)] false (c_1 * (1 : Nat)) (9 : Nat)) (SB.rows true y.fst [Col.str (rowC x.f x.g x.h)] false y.snd (9 : TypeId)) ∧
 SBle (SB.cells (x.sv (SV.vslc (0 : Nat) (3 : Nat) z o (0 : Nat) x.n c)).cells (5 : Nat) (30 : Nat)) (SB.cells (x.sv (SV.vslc (0 : Nat) (3 : Nat) z o (0 : Nat) x.n c)).cells (5 : Nat) (30 : Nat)) ∧
 SBle (seenC z o c x key).B (seenC z o c x key).B ∧
 True) ∧
 (decide ((↑x_2.fst : Int) < (↑x.n : Int)) = false →
 ((0 : Int) ≤ (2 : Int) ∧
 (2 : Int) < (9223372036854775808 : Int)) ∧
 some (SB.cells (x.sv (SV.vslc (0 : Nat) (3 : Nat) z o (0 : Nat) x.n c)).cells (5 : Nat) (30 : Nat)) = some (SB.cells (x.sv (SV.vslc (0 : Nat) (3 : Nat) z o (0 : Nat) x.n c)).cells (5 : Nat) (30 : Nat)) ∧
 some (SB.cells (x.sv (SV.vslc (0 : Nat) (3 : Nat) z o (0 : Nat) x.n c)).cells (5 : Nat) (30 : Nat)) = some (SB.cells (x.sv (SV.vslc (0 : Nat) (3 : Nat) z o (0 : Nat) x.n c)).cells (5 : Nat) (30 : Nat)) ∧
 some (SB.cells (x.sv (SV.vslc (0 : Nat) (3 : Nat) z o (0 : Nat) x.n c)).cells (5 : Nat) (30 : Nat)) = some (SB.cells (x.sv (SV.vslc (0 : Nat) (3 : Nat) z o (0 : Nat) x.n c)).cells (5 : Nat) (30 : Nat)) ∧
 some (SB.cells (x.sv (SV.vslc (0 : Nat) (3 : Nat) z o (0 : Nat) x.n c)).cells (5 : Nat) (30 : Nat)) = some (SB.cells (x.sv (SV.vslc (0 : Nat) (3 : Nat) z o (0 : Nat) x.n c)).cells (5 : Nat) (30 : Nat)) ∧
 ((0 : Int) ≤ x.s ∧
 x.s < (9223372036854775808 : Int)) ∧
 some (SB.cells (x.sv (SV.vslc (0 : Nat) (3 : Nat) z o (0 : Nat) x.n c)).cells (5 : Nat) (30 : Nat)) = some (SB.cells (x.sv (SV.vslc (0 : Nat) (3 : Nat) z o (0 : Nat) x.n c)).cells (5 : Nat) (30 : Nat)) ∧
 some (SB.cells (x.sv (SV.vslc (0 : Nat) (3 : Nat) z o (0 : Nat) x.n c)).cells (5 : Nat) (30 : Nat)) = some (SB.cells (x.sv (SV.vslc (0 : Nat) (3 : Nat) z o (0 : Nat) x.n c)).cells (5 : Nat) (30 : Nat)) ∧
 some (SB.cells (x.sv (SV.vslc (0 : Nat) (3 : Nat) z o (0 : Nat) x.n c)).cells (5 : Nat) (30 : Nat)) = some (SB.cells (x.sv (SV.vslc (0 : Nat) (3 : Nat) z o (0 : Nat) x.n c)).cells (5 : Nat) (30 : Nat)) ∧
 ((0 : Int) ≤ x.e ∧
 x.e < (9223372036854775808 : Int)) ∧
 some (SB.cells (x.sv (SV.vslc (0 : Nat) (3 : Nat) z o (0 : Nat) x.n c)).cells (5 : Nat) (30 : Nat)) = some (SB.cells (x.sv (SV.vslc (0 : Nat) (3 : Nat) z o (0 : Nat) x.n c)).cells (5 : Nat) (30 : Nat)) ∧
 some (SB.cells (x.sv (SV.vslc (0 : Nat) (3 : Nat) z o (0 : Nat) x.n c)).cells (5 : Nat) (30 : Nat)) = some (SB.cells (x.sv (SV.vslc (0 : Nat) (3 : Nat) z o (0 : Nat) x.n c)).cells (5 : Nat) (30 : Nat)) ∧
 ((0 : Int) ≤ x.b ∧
 x.b < (9223372036854775808 : Int)) ∧
 some (SB.cells (x.sv (SV.vslc (0 : Nat) (3 : Nat) z o (0 : Nat) x.n c)).cells (5 : Nat) (30 : Nat)) = some (SB.cells (x.sv (SV.vslc (0 : Nat) (3 : Nat) z o (0 : Nat) x.n c)).cells (5 : Nat) (30 : Nat)) ∧
 x.root.length < (1152921504606846976 : Nat) ∧
 ((true = true ∧
 (0 : Nat) + x_2.fst ≤ x_2.fst) ∧
 joinQ (rowL (rowC x.f x.g x.h) (0 : Nat) x_2.fst)) ∧
 (True ∧
 joinQ [numOf (2 : Int), numOf x.s, numOf x.e, numOf x.b, textOf x.root, headOf (192 : Int) (flat (rowL (rowC x.f x.g x.h) (0 : Nat) x_2.fst)).length ++ flat (rowL (rowC x.f x.g x.h) (0 : Nat) x_2.fst)]) ∧
 (x.ok = true →
 sameVal (SV.tup [listG [numOf (2 : Int), numOf x.s, numOf x.e, numOf x.b, textOf x.root, headOf (192 : Int) (flat (rowL (rowC x.f x.g x.h) (0 : Nat) x_2.fst)).length ++ flat (rowL (rowC x.f x.g x.h) (0 : Nat) x_2.fst)], SV.int IntKind.i64 true (0 : Int)]) (SV.tup [SV.str false x.put, SV.int IntKind.i64 true (0 : Int)])) ∧
 (x.ok = false →
 sameVal (SV.tup [listG [numOf (2 : Int), numOf x.s, numOf x.e, numOf x.b, textOf x.root, headOf (192 : Int) (flat (rowL (rowC x.f x.g x.h) (0 : Nat) x_2.fst)).length ++ flat (rowL (rowC x.f x.g x.h) (0 : Nat) x_2.fst)], SV.int IntKind.i64 true (0 : Int)]) (SV.tup [SV.str true [], SV.int IntKind.i64 true (1 : Int)]))))) := by kernel_rfl
end Go.Proofs.YtocikfhejpilaaaGreatDoor
/-
  The reference's frame: bytes: the contracts.
-/
namespace Go.Proofs.YtocikfhejpilaaaGreatDoor
open Go Sx
set_option maxRecDepth 20000

theorem joinQ_of {l : List (List UInt8)} (h : (flat l).length < 1152921504606846976) (h2 : l.length < 1152921504606846976) : joinQ l := ⟨h, h2⟩
set_option maxHeartbeats 1000000 in
theorem pa2_holds (x : Ak) : Holds (runA cfgH2 8 Tryz.f8 [x.sv] (putA x)) := by
  refine Holds.of_eq (vcPA2 x) ?_
  simp only [true_and, eq_self]
  cases hx : x.ok with
  | false => exact ⟨fun _ => ⟨(fun h => by cases h), fun _ _ => rfl⟩, fun h => by cases h⟩
  | true =>
    have hs := Ak.ok_small hx
    have hl := Ak.items_len hs
    obtain ⟨h1, h2, h3, h4, h5, h6, h7⟩ := hs
    have hj : joinQ x.items := joinQ_of (by omega) (by show 8 < 1152921504606846976; omega)
    refine ⟨(fun h => by cases h), fun _ => ⟨by omega, by omega, by omega, by omega, by omega, by omega, by omega, by omega, by omega, hj, fun _ _ => rfl, fun h => by cases h⟩⟩
theorem growT_row {F : Nat → List UInt8} {k : Nat} {v : List UInt8} (hv : v = F k) {c c' : Nat} (hc : c = c') :
    SBle (.rows true (k + 1) [.str fun j => if j < k then F j else selS [v] (j - k)] false (c * 1) 9) (.rows true (k + 1) [.str F] false c' 9) := by
  refine Sx.SBle.strRows rfl (by omega) fun i hi => ?_
  by_cases h : i < k
  · rw [if_pos h]
  · have e : i = k := by omega
    subst e
    rw [if_neg h, Nat.sub_self, hv]
    rfl
set_option maxHeartbeats 2000000 in
theorem pr2_holds (x : Rp) (z : Bool) (o c : Nat) (key : Option Nat) (hn : x.n < 9223372036854775808) : Holds (runV (cfgPR2 x) 10 Tryz.f10 [x.sv (.vslc 0 2 z o 0 x.n c)] [seenR z o c x key] (putRA x)) := by
  refine Holds.of_eq (vcPR2 x z o c key) ?_
  simp only [true_and, and_true, eq_self, Int.toNat_natCast, Nat.zero_add, Nat.le_refl, Nat.mul_one, sble_same]
  refine ⟨hn, ?_⟩
  cases hx : x.ok with
  | false => exact ⟨fun _ => ⟨(fun h => by cases h), fun _ _ => rfl⟩, fun h => by cases h⟩
  | true =>
    have hs := Rp.ok_small hx
    have hl := Rp.items_len hs
    have hr := Rp.rows_len hs
    have hrow : x.rows.length = x.n := rowL_len _ _ _
    obtain ⟨h1, h2, h3, h4, h5, h6, h7, h8⟩ := hs
    refine ⟨(fun h => by cases h), fun _ => ⟨⟨(0, 0), ⟨Nat.zero_le _, Nat.zero_le _⟩, rfl, rfl, rfl⟩, fun y hy => ⟨fun hk => ?_, fun hk => ?_⟩⟩⟩
    · simp only [decide_eq_true_eq] at hk
      have hk' : y.1 < x.n := by omega
      obtain ⟨b1, b2⟩ := h7 y.1 hk'
      have b3 := rowE_len (h7 y.1 hk')
      refine ⟨by omega, by omega, by omega, by omega, by omega, by omega, joinQ_of (by omega) (by show 2 < 1152921504606846976; omega), by omega, fun c1 hc => ⟨by omega, (y.1 + 1, c1), ⟨grow_next (_k := 0) hy (by omega) hc, by show x.n - (y.1 + 1) < x.n - y.1; omega⟩, by simp, ⟨rfl, rfl⟩, ?_⟩⟩
      have := @growT_row (rowE x.f x.g) y.1 (headOf 192 (flat [textOf (x.f y.1), textOf (x.g y.1)]).length ++ flat [textOf (x.f y.1), textOf (x.g y.1)]) rfl c1 c1 rfl
      rw [Nat.mul_one] at this
      exact this
    · simp only [decide_eq_false_iff_not] at hk
      have e : y.1 = x.n := by have := hy.le; omega
      rw [e]
      have e1 : rowL (rowE x.f x.g) 0 x.n = x.rows := rfl
      have e2 : headOf 192 (flat x.rows).length ++ flat x.rows = listOf x.rows := rfl
      have e3 : [numOf 1, numOf x.s, numOf x.q, numOf x.e, numOf x.v, textOf x.root, listOf x.rows, textOf x.proof, bif x.more then [1] else [128]] = x.items := rfl
      rw [e1, e2, e3]
      have j1 : joinQ x.rows := joinQ_of (by omega) (by omega)
      have j2 : joinQ x.items := joinQ_of (by omega) (by show 9 < 1152921504606846976; omega)
      refine ⟨by omega, by omega, by omega, by omega, by omega, by omega, j1, by omega, j2, fun _ _ => rfl, fun h => by cases h⟩
set_option maxHeartbeats 2000000 in
theorem pn2_holds (x : Nt) (z : Bool) (o c : Nat) (key : Option Nat) (hn : x.n < 9223372036854775808) : Holds (runV (cfgPN2 x) 12 Tryz.f12 [x.sv (.vslc 0 3 z o 0 x.n c)] [seenC z o c x key] (putNA x)) := by
  refine Holds.of_eq (vcPN2 x z o c key) ?_
  simp only [true_and, and_true, eq_self, Int.toNat_natCast, Nat.zero_add, Nat.le_refl, Nat.mul_one, sble_same]
  refine ⟨hn, ?_⟩
  cases hx : x.ok with
  | false => exact ⟨fun _ => ⟨(fun h => by cases h), fun _ _ => rfl⟩, fun h => by cases h⟩
  | true =>
    have hs := Nt.ok_small hx
    have hl := Nt.items_len hs
    have hr := Nt.rows_len hs
    have hrow : x.rows.length = x.n := rowL_len _ _ _
    obtain ⟨h1, h2, h3, h5, h6, h7⟩ := hs
    refine ⟨(fun h => by cases h), fun _ => ⟨⟨(0, 0), ⟨Nat.zero_le _, Nat.zero_le _⟩, rfl, rfl, rfl⟩, fun y hy => ⟨fun hk => ?_, fun hk => ?_⟩⟩⟩
    · simp only [decide_eq_true_eq] at hk
      have hk' : y.1 < x.n := by omega
      obtain ⟨b1, b2⟩ := h7 y.1 hk'
      have b3 := rowC_len (h := x.h) (h7 y.1 hk')
      have ef : (bif x.h y.1 then [1] else [128] : List UInt8) = flagB (x.h y.1) := rfl
      rw [ef]
      refine ⟨by omega, by omega, by omega, by omega, joinQ_of (by omega) (by show 3 < 1152921504606846976; omega), by omega, fun c1 hc => ⟨by omega, (y.1 + 1, c1), ⟨grow_next (_k := 0) hy (by omega) hc, by show x.n - (y.1 + 1) < x.n - y.1; omega⟩, by simp, ⟨rfl, rfl⟩, ?_⟩⟩
      have := @growT_row (rowC x.f x.g x.h) y.1 (headOf 192 (flat [textOf (x.f y.1), textOf (x.g y.1), flagB (x.h y.1)]).length ++ flat [textOf (x.f y.1), textOf (x.g y.1), flagB (x.h y.1)]) rfl c1 c1 rfl
      rw [Nat.mul_one] at this
      exact this
    · simp only [decide_eq_false_iff_not] at hk
      have e : y.1 = x.n := by have := hy.le; omega
      rw [e]
      have e1 : rowL (rowC x.f x.g x.h) 0 x.n = x.rows := rfl
      have e2 : headOf 192 (flat x.rows).length ++ flat x.rows = listOf x.rows := rfl
      have e3 : [numOf 2, numOf x.s, numOf x.e, numOf x.b, textOf x.root, listOf x.rows] = x.items := rfl
      rw [e1, e2, e3]
      have j1 : joinQ x.rows := joinQ_of (by omega) (by omega)
      have j2 : joinQ x.items := joinQ_of (by omega) (by show 6 < 1152921504606846976; omega)
      refine ⟨by omega, by omega, by omega, by omega, by omega, j1, j2, fun _ _ => rfl, fun h => by cases h⟩
def pr2Spec (vs : List SV) (l : List Seen) : Option (Prop × Ans) := match replyOf vs l with
  | some (x, _) => some (x.n < 9223372036854775808, putRA x)
  | none => none
def pn2Spec (vs : List SV) (l : List Seen) : Option (Prop × Ans) := match noticeOf vs l with
  | some (x, _) => some (x.n < 9223372036854775808, putNA x)
  | none => none
theorem pa2_ok : CallOk Tryz.prog 8 (ansPT fputSpec) := by
  refine ans_ok (n := 20) (fn := Tryz.f8) Tryz.func8 (by kernel_rfl) (by kernel_rfl) ?_
  intro args p a h hp
  unfold fputSpec at h
  split at h
  · split at h
    · rename_i l x hx
      injection h with h; injection h with h1 h2; subst h1; subst h2
      rw [askOfSV_eq hx]
      refine ⟨_, goodH2, rfl, fun b => ?_, pa2_holds x⟩
      cases b <;> exact rfl
    · cases h
  · cases h
theorem pr2_ok : CallOk Tryz.prog 10 (ansVPT shR pr2Spec) := by
  refine ansV_ok (n := 20) (fn := Tryz.f10) Tryz.func10 (by kernel_rfl) (by kernel_rfl) ?_
  intro vs l q a h hq
  unfold pr2Spec at h
  split at h
  · rename_i x r hx
    obtain ⟨z, o, c, key⟩ := r
    injection h with h; injection h with h1 h2; subst h1; subst h2
    obtain ⟨e1, e2⟩ := replyOf_eq hx
    rw [e1, e2]
    exact ⟨_, goodPR2 x, rfl, fun b => by cases b <;> exact rfl, pr2_holds x z o c key hq⟩
  · cases h
theorem pn2_ok : CallOk Tryz.prog 12 (ansVPT shN pn2Spec) := by
  refine ansV_ok (n := 20) (fn := Tryz.f12) Tryz.func12 (by kernel_rfl) (by kernel_rfl) ?_
  intro vs l q a h hq
  unfold pn2Spec at h
  split at h
  · rename_i x r hx
    obtain ⟨z, o, c, key⟩ := r
    injection h with h; injection h with h1 h2; subst h1; subst h2
    obtain ⟨e1, e2⟩ := noticeOf_eq hx
    rw [e1, e2]
    exact ⟨_, goodPN2 x, rfl, fun b => by cases b <;> exact rfl, pn2_holds x z o c key hq⟩
  · cases h
/-- What is known of the reference's frame, of what is put. -/
noncomputable def listH3 : List (FuncId × PT) := (10, ansVPT shR pr2Spec) :: (12, ansVPT shN pn2Spec) :: (8, ansPT fputSpec) :: listH2
theorem listH3_ok : SummOk Tryz.prog (fun f => lookPT f listH3) := .cons pr2_ok (ansVPT_mono _ _) (.cons pn2_ok (ansVPT_mono _ _) (.cons pa2_ok (ansPT_mono _) listH2_ok))
end Go.Proofs.YtocikfhejpilaaaGreatDoor
