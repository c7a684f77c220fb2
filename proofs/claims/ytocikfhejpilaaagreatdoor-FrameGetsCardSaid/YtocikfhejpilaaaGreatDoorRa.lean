/-
  Frame: whether two rows are alike; which are looked at: the set-up.
-/
import Derived.Test.YtocikfhejpilaaaGreatDoorPi
namespace Go.Proofs.YtocikfhejpilaaaGreatDoor
open Go Sx
set_option maxRecDepth 20000

def rowEqE (f g f' g' : Nat → List UInt8) (i : Nat) : Bool := decide (f i = f' i) && decide (g i = g' i)
def rowEqC (f g : Nat → List UInt8) (h : Nat → Bool) (f' g' : Nat → List UInt8) (h' : Nat → Bool) (i : Nat) : Bool := decide (f i = f' i) && decide (g i = g' i) && decide (h i = h' i)
def sameE (x y : Rp) : Bool := decide ((x.n : Int) = (y.n : Int)) && (List.range x.n).all (rowEqE x.f x.g y.f y.g)
def sameC (x y : Nt) : Bool := decide ((x.n : Int) = (y.n : Int)) && (List.range x.n).all (rowEqC x.f x.g x.h y.f y.g y.h)
noncomputable def cfgSE (x y : Rp) : Cfg := { cfg0 with summ := fun f => lookPT f listFL, anns := fun f => if f = 59 then [(4, always (annUpto 5 x.n (rowEqE x.f x.g y.f y.g)))] else [] }
noncomputable def cfgSC (x y : Nt) : Cfg := { cfg0 with summ := fun f => lookPT f listFL, anns := fun f => if f = 60 then [(4, always (annUpto 5 x.n (rowEqC x.f x.g x.h y.f y.g y.h)))] else [] }
noncomputable def cfgFew (x : Rp) (y : Nt) : Cfg := { cfg0 with summ := fun f => lookPT f listFL, anns := fun f => if f = 6 then [(2, always (annUpto 5 x.n (fun _ => true))), (7, always (annUpto 6 y.n (fun _ => true)))] else [] }
theorem goodSE (x y : Rp) : Sx.Good Tryz.prog (cfgSE x y) := ⟨mixes, listFL_ok, fns_ok⟩
theorem goodSC (x y : Nt) : Sx.Good Tryz.prog (cfgSC x y) := ⟨mixes, listFL_ok, fns_ok⟩
theorem goodFew (x : Rp) (y : Nt) : Sx.Good Tryz.prog (cfgFew x y) := ⟨mixes, listFL_ok, fns_ok⟩
def someB : Ans := .all Bool fun b => .ret (.bool false b)
end Go.Proofs.YtocikfhejpilaaaGreatDoor
/-
  Conditions that the executor computes, written out by a program (vcgen.py).
-/
namespace Go.Proofs.YtocikfhejpilaaaGreatDoor
open Go Sx
set_option maxRecDepth 20000

theorem vcSE (x y : Rp) (z z' : Bool) (o c o' c' : Nat) (key key' : Option Nat) : VC.holds (runV (cfgSE x y) 59 Tryz.f59 [.vslc 0 2 z o 0 x.n c, .vslc 1 2 z' o' 0 y.n c'] [seenR z o c x key, seenR z' o' c' y key'] (.ret (.bool false (sameE x y)))) = (((!decide ((↑x.n : Int) = (↑y.n : Int))) = true →
 sameVal (SV.bool true false) (SV.bool false (sameE x y))) ∧
 ((!decide ((↑x.n : Int) = (↑y.n : Int))) = false →
 (∃ (y_1 : Nat), Upto x.n (rowEqE x.f x.g y.f y.g) y_1 ∧
 (0 : Int) = (↑y_1 : Int) ∧
 SBle (seenR z o c x key).B (seenR z o c x key).B ∧
 SBle (seenR z' o' c' y key').B (seenR z' o' c' y key').B ∧
 True) ∧
 ∀ (x_2 : Nat), Upto x.n (rowEqE x.f x.g y.f y.g) x_2 →
 (decide ((↑x_2 : Int) < (↑x.n : Int)) = true →
 ((0 : Int) ≤ (↑x_2 : Int) ∧
 (↑x_2 : Int) < (↑x.n : Int)) ∧
 (o = o ∧
 (0 : Nat) + (↑x_2 : Int).toNat < x.n) ∧
 ((0 : Int) ≤ (↑x_2 : Int) ∧
 (↑x_2 : Int) < (↑y.n : Int)) ∧
 (o' = o' ∧
 (0 : Nat) + (↑x_2 : Int).toNat < y.n) ∧
 ((!(decide (x.f ((0 : Nat) + (↑x_2 : Int).toNat) = y.f ((0 : Nat) + (↑x_2 : Int).toNat)) && (decide (x.g ((0 : Nat) + (↑x_2 : Int).toNat) = y.g ((0 : Nat) + (↑x_2 : Int).toNat)) && true))) = true →
 sameVal (SV.bool true false) (SV.bool false (sameE x y))) ∧
 ((!(decide (x.f ((0 : Nat) + (↑x_2 : Int).toNat) = y.f ((0 : Nat) + (↑x_2 : Int).toNat)) && (decide (x.g ((0 : Nat) + (↑x_2 : Int).toNat) = y.g ((0 : Nat) + (↑x_2 : Int).toNat)) && true))) = false →
 ((-9223372036854775808 : Int) ≤ (↑x_2 : Int) + (1 : Int) ∧
 (↑x_2 : Int) + (1 : Int) ≤ (9223372036854775807 : Int)) ∧
 ∃ (y_1 : Nat), (Upto x.n (rowEqE x.f x.g y.f y.g) y_1 ∧
 x.n - y_1 < x.n - x_2) ∧
 (↑x_2 : Int) + (1 : Int) = (↑y_1 : Int) ∧
 SBle (seenR z o c x key).B (seenR z o c x key).B ∧
 SBle (seenR z' o' c' y key').B (seenR z' o' c' y key').B ∧
 True)) ∧
 (decide ((↑x_2 : Int) < (↑x.n : Int)) = false →
 sameVal (SV.bool true true) (SV.bool false (sameE x y))))) := by kernel_rfl
theorem vcSC (x y : Nt) (z z' : Bool) (o c o' c' : Nat) (key key' : Option Nat) : VC.holds (runV (cfgSC x y) 60 Tryz.f60 [.vslc 0 3 z o 0 x.n c, .vslc 1 3 z' o' 0 y.n c'] [seenC z o c x key, seenC z' o' c' y key'] (.ret (.bool false (sameC x y)))) = (((!decide ((↑x.n : Int) = (↑y.n : Int))) = true →
 sameVal (SV.bool true false) (SV.bool false (sameC x y))) ∧
 ((!decide ((↑x.n : Int) = (↑y.n : Int))) = false →
 (∃ (y_1 : Nat), Upto x.n (rowEqC x.f x.g x.h y.f y.g y.h) y_1 ∧
 (0 : Int) = (↑y_1 : Int) ∧
 SBle (seenC z o c x key).B (seenC z o c x key).B ∧
 SBle (seenC z' o' c' y key').B (seenC z' o' c' y key').B ∧
 True) ∧
 ∀ (x_2 : Nat), Upto x.n (rowEqC x.f x.g x.h y.f y.g y.h) x_2 →
 (decide ((↑x_2 : Int) < (↑x.n : Int)) = true →
 ((0 : Int) ≤ (↑x_2 : Int) ∧
 (↑x_2 : Int) < (↑x.n : Int)) ∧
 (o = o ∧
 (0 : Nat) + (↑x_2 : Int).toNat < x.n) ∧
 ((0 : Int) ≤ (↑x_2 : Int) ∧
 (↑x_2 : Int) < (↑y.n : Int)) ∧
 (o' = o' ∧
 (0 : Nat) + (↑x_2 : Int).toNat < y.n) ∧
 ((!(decide (x.f ((0 : Nat) + (↑x_2 : Int).toNat) = y.f ((0 : Nat) + (↑x_2 : Int).toNat)) && (decide (x.g ((0 : Nat) + (↑x_2 : Int).toNat) = y.g ((0 : Nat) + (↑x_2 : Int).toNat)) && (x.h ((0 : Nat) + (↑x_2 : Int).toNat) == y.h ((0 : Nat) + (↑x_2 : Int).toNat) && true)))) = true →
 sameVal (SV.bool true false) (SV.bool false (sameC x y))) ∧
 ((!(decide (x.f ((0 : Nat) + (↑x_2 : Int).toNat) = y.f ((0 : Nat) + (↑x_2 : Int).toNat)) && (decide (x.g ((0 : Nat) + (↑x_2 : Int).toNat) = y.g ((0 : Nat) + (↑x_2 : Int).toNat)) && (x.h ((0 : Nat) + (↑x_2 : Int).toNat) == y.h ((0 : Nat) + (↑x_2 : Int).toNat) && true)))) = false →
 ((-9223372036854775808 : Int) ≤ (↑x_2 : Int) + (1 : Int) ∧
 (↑x_2 : Int) + (1 : Int) ≤ (9223372036854775807 : Int)) ∧
 ∃ (y_1 : Nat), (Upto x.n (rowEqC x.f x.g x.h y.f y.g y.h) y_1 ∧
 x.n - y_1 < x.n - x_2) ∧
 (↑x_2 : Int) + (1 : Int) = (↑y_1 : Int) ∧
 SBle (seenC z o c x key).B (seenC z o c x key).B ∧
 SBle (seenC z' o' c' y key').B (seenC z' o' c' y key').B ∧
 True)) ∧
 (decide ((↑x_2 : Int) < (↑x.n : Int)) = false →
 sameVal (SV.bool true true) (SV.bool false (sameC x y))))) := by kernel_rfl
theorem vcFew (x : Rp) (y : Nt) (z z' : Bool) (o c o' c' : Nat) (key key' : Option Nat) : VC.holds (runV (cfgFew x y) 6 Tryz.f6 [x.sv (.vslc 0 2 z o 0 x.n c), y.sv (.vslc 1 3 z' o' 0 y.n c')] [seenR z o c x key, seenC z' o' c' y key'] someB) = ((∃ (y_1 : Nat), Upto x.n (fun (_x : Nat) => true) y_1 ∧
 (0 : Int) = (↑y_1 : Int) ∧
 SBle (SB.cells (y.sv (SV.vslc (1 : Nat) (3 : Nat) z' o' (0 : Nat) y.n c')).cells (5 : Nat) (30 : Nat)) (SB.cells (y.sv (SV.vslc (1 : Nat) (3 : Nat) z' o' (0 : Nat) y.n c')).cells (5 : Nat) (30 : Nat)) ∧
 SBle (SB.cells (x.sv (SV.vslc (0 : Nat) (2 : Nat) z o (0 : Nat) x.n c)).cells (8 : Nat) (27 : Nat)) (SB.cells (x.sv (SV.vslc (0 : Nat) (2 : Nat) z o (0 : Nat) x.n c)).cells (8 : Nat) (27 : Nat)) ∧
 SBle (seenR z o c x key).B (seenR z o c x key).B ∧
 SBle (seenC z' o' c' y key').B (seenC z' o' c' y key').B ∧
 True) ∧
 ∀ (x_1 : Nat), Upto x.n (fun (_x : Nat) => true) x_1 →
 (decide ((↑x_1 : Int) < (↑x.n : Int)) = true →
 (decide ((↑x_1 : Int) ≤ (10 : Int)) = true →
 ((0 : Int) ≤ (↑x_1 : Int) ∧
 (↑x_1 : Int) < (↑x.n : Int)) ∧
 (o = o ∧
 (0 : Nat) + (↑x_1 : Int).toNat < x.n) ∧
 (decide ((20 : Int) < (↑(x.f ((0 : Nat) + (↑x_1 : Int).toNat)).length : Int)) = true →
 ∃ (x : Bool), sameVal (SV.bool true false) (SV.bool false x)) ∧
 (decide ((20 : Int) < (↑(x.f ((0 : Nat) + (↑x_1 : Int).toNat)).length : Int)) = false →
 ((0 : Int) ≤ (↑x_1 : Int) ∧
 (↑x_1 : Int) < (↑x.n : Int)) ∧
 (o = o ∧
 (0 : Nat) + (↑x_1 : Int).toNat < x.n) ∧
 (decide ((100 : Int) < (↑(x.g ((0 : Nat) + (↑x_1 : Int).toNat)).length : Int)) = true →
 ∃ (x : Bool), sameVal (SV.bool true false) (SV.bool false x)) ∧
 (decide ((100 : Int) < (↑(x.g ((0 : Nat) + (↑x_1 : Int).toNat)).length : Int)) = false →
 ((-9223372036854775808 : Int) ≤ (↑x_1 : Int) + (1 : Int) ∧
 (↑x_1 : Int) + (1 : Int) ≤ (9223372036854775807 : Int)) ∧
 ∃ (y_1 : Nat), (Upto x.n (fun (_x : Nat) => true) y_1 ∧
 x.n - y_1 < x.n - x_1) ∧
 (↑x_1 : Int) + (1 : Int) = (↑y_1 : Int) ∧
 SBle (SB.cells (y.sv (SV.vslc (1 : Nat) (3 : Nat) z' o' (0 : Nat) y.n c')).cells (5 : Nat) (30 : Nat)) (SB.cells (y.sv (SV.vslc (1 : Nat) (3 : Nat) z' o' (0 : Nat) y.n c')).cells (5 : Nat) (30 : Nat)) ∧
 SBle (SB.cells (x.sv (SV.vslc (0 : Nat) (2 : Nat) z o (0 : Nat) x.n c)).cells (8 : Nat) (27 : Nat)) (SB.cells (x.sv (SV.vslc (0 : Nat) (2 : Nat) z o (0 : Nat) x.n c)).cells (8 : Nat) (27 : Nat)) ∧
 SBle (seenR z o c x key).B (seenR z o c x key).B ∧
 SBle (seenC z' o' c' y key').B (seenC z' o' c' y key').B ∧
 True))) ∧
 (decide ((↑x_1 : Int) ≤ (10 : Int)) = false →
 (∃ (y_1 : Nat), Upto y.n (fun (_x : Nat) => true) y_1 ∧
 (0 : Int) = (↑y_1 : Int) ∧
 SBle (SB.cells (y.sv (SV.vslc (1 : Nat) (3 : Nat) z' o' (0 : Nat) y.n c')).cells (5 : Nat) (30 : Nat)) (SB.cells (y.sv (SV.vslc (1 : Nat) (3 : Nat) z' o' (0 : Nat) y.n c')).cells (5 : Nat) (30 : Nat)) ∧
 SBle (SB.cells (x.sv (SV.vslc (0 : Nat) (2 : Nat) z o (0 : Nat) x.n c)).cells (8 : Nat) (27 : Nat)) (SB.cells (x.sv (SV.vslc (0 : Nat) (2 : Nat) z o (0 : Nat) x.n c)).cells (8 : Nat) (27 : Nat)) ∧
 SBle (seenR z o c x key).B (seenR z o c x key).B ∧
 SBle (seenC z' o' c' y key').B (seenC z' o' c' y key').B ∧
 True) ∧
 ∀ (x_5 : Nat), Upto y.n (fun (_x : Nat) => true) x_5 →
 (decide ((↑x_5 : Int) < (↑y.n : Int)) = true →
 (decide ((↑x_5 : Int) ≤ (90 : Int)) = true →
 ((0 : Int) ≤ (↑x_5 : Int) ∧
 (↑x_5 : Int) < (↑y.n : Int)) ∧
 (o' = o' ∧
 (0 : Nat) + (↑x_5 : Int).toNat < y.n) ∧
 (decide ((20 : Int) < (↑(y.f ((0 : Nat) + (↑x_5 : Int).toNat)).length : Int)) = true →
 ∃ (x : Bool), sameVal (SV.bool true false) (SV.bool false x)) ∧
 (decide ((20 : Int) < (↑(y.f ((0 : Nat) + (↑x_5 : Int).toNat)).length : Int)) = false →
 ((0 : Int) ≤ (↑x_5 : Int) ∧
 (↑x_5 : Int) < (↑y.n : Int)) ∧
 (o' = o' ∧
 (0 : Nat) + (↑x_5 : Int).toNat < y.n) ∧
 (decide ((100 : Int) < (↑(y.g ((0 : Nat) + (↑x_5 : Int).toNat)).length : Int)) = true →
 ∃ (x : Bool), sameVal (SV.bool true false) (SV.bool false x)) ∧
 (decide ((100 : Int) < (↑(y.g ((0 : Nat) + (↑x_5 : Int).toNat)).length : Int)) = false →
 ((-9223372036854775808 : Int) ≤ (↑x_5 : Int) + (1 : Int) ∧
 (↑x_5 : Int) + (1 : Int) ≤ (9223372036854775807 : Int)) ∧
 ∃ (y_1 : Nat), (Upto y.n (fun (_x : Nat) => true) y_1 ∧
 y.n - y_1 < y.n - x_5) ∧
 (↑x_5 : Int) + (1 : Int) = (↑y_1 : Int) ∧
 SBle (SB.cells (y.sv (SV.vslc (1 : Nat) (3 : Nat) z' o' (0 : Nat) y.n c')).cells (5 : Nat) (30 : Nat)) (SB.cells (y.sv (SV.vslc (1 : Nat) (3 : Nat) z' o' (0 : Nat) y.n c')).cells (5 : Nat) (30 : Nat)) ∧
 SBle (SB.cells (x.sv (SV.vslc (0 : Nat) (2 : Nat) z o (0 : Nat) x.n c)).cells (8 : Nat) (27 : Nat)) (SB.cells (x.sv (SV.vslc (0 : Nat) (2 : Nat) z o (0 : Nat) x.n c)).cells (8 : Nat) (27 : Nat)) ∧
 SBle (seenR z o c x key).B (seenR z o c x key).B ∧
 SBle (seenC z' o' c' y key').B (seenC z' o' c' y key').B ∧
 True))) ∧
 (decide ((↑x_5 : Int) ≤ (90 : Int)) = false →
 (decide ((↑x.n : Int) ≤ (10 : Int)) = true →
 (decide ((↑y.n : Int) ≤ (90 : Int)) = true →
 (decide ((↑x.proof.length : Int) ≤ (2000 : Int)) = true →
 (decide ((↑x.root.length : Int) ≤ (50 : Int)) = true →
 ∃ (x : Bool), sameVal (SV.bool (false && true) (decide ((↑y.root.length : Int) ≤ (50 : Int)))) (SV.bool false x)) ∧
 (decide ((↑x.root.length : Int) ≤ (50 : Int)) = false →
 ∃ (x : Bool), sameVal (SV.bool true false) (SV.bool false x))) ∧
 (decide ((↑x.proof.length : Int) ≤ (2000 : Int)) = false →
 ∃ (x : Bool), sameVal (SV.bool true false) (SV.bool false x))) ∧
 (decide ((↑y.n : Int) ≤ (90 : Int)) = false →
 ∃ (x : Bool), sameVal (SV.bool true false) (SV.bool false x))) ∧
 (decide ((↑x.n : Int) ≤ (10 : Int)) = false →
 ∃ (x : Bool), sameVal (SV.bool true false) (SV.bool false x)))) ∧
 (decide ((↑x_5 : Int) < (↑y.n : Int)) = false →
 (decide ((↑x.n : Int) ≤ (10 : Int)) = true →
 (decide ((↑y.n : Int) ≤ (90 : Int)) = true →
 (decide ((↑x.proof.length : Int) ≤ (2000 : Int)) = true →
 (decide ((↑x.root.length : Int) ≤ (50 : Int)) = true →
 ∃ (x : Bool), sameVal (SV.bool (false && true) (decide ((↑y.root.length : Int) ≤ (50 : Int)))) (SV.bool false x)) ∧
 (decide ((↑x.root.length : Int) ≤ (50 : Int)) = false →
 ∃ (x : Bool), sameVal (SV.bool true false) (SV.bool false x))) ∧
 (decide ((↑x.proof.length : Int) ≤ (2000 : Int)) = false →
 ∃ (x : Bool), sameVal (SV.bool true false) (SV.bool false x))) ∧
 (decide ((↑y.n : Int) ≤ (90 : Int)) = false →
 ∃ (x : Bool), sameVal (SV.bool true false) (SV.bool false x))) ∧
 (decide ((↑x.n : Int) ≤ (10 : Int)) = false →
 ∃ (x : Bool), sameVal (SV.bool true false) (SV.bool false x))))) ∧
 (decide ((↑x_1 : Int) < (↑x.n : Int)) = false →
 (∃ (y_1 : Nat), Upto y.n (fun (_x : Nat) => true) y_1 ∧
 (0 : Int) = (↑y_1 : Int) ∧
 SBle (SB.cells (y.sv (SV.vslc (1 : Nat) (3 : Nat) z' o' (0 : Nat) y.n c')).cells (5 : Nat) (30 : Nat)) (SB.cells (y.sv (SV.vslc (1 : Nat) (3 : Nat) z' o' (0 : Nat) y.n c')).cells (5 : Nat) (30 : Nat)) ∧
 SBle (SB.cells (x.sv (SV.vslc (0 : Nat) (2 : Nat) z o (0 : Nat) x.n c)).cells (8 : Nat) (27 : Nat)) (SB.cells (x.sv (SV.vslc (0 : Nat) (2 : Nat) z o (0 : Nat) x.n c)).cells (8 : Nat) (27 : Nat)) ∧
 SBle (seenR z o c x key).B (seenR z o c x key).B ∧
 SBle (seenC z' o' c' y key').B (seenC z' o' c' y key').B ∧
 True) ∧
 ∀ (x_4 : Nat), Upto y.n (fun (_x : Nat) => true) x_4 →
 (decide ((↑x_4 : Int) < (↑y.n : Int)) = true →
 (decide ((↑x_4 : Int) ≤ (90 : Int)) = true →
 ((0 : Int) ≤ (↑x_4 : Int) ∧
 (↑x_4 : Int) < (↑y.n : Int)) ∧
 (o' = o' ∧
 (0 : Nat) + (↑x_4 : Int).toNat < y.n) ∧
 (decide ((20 : Int) < (↑(y.f ((0 : Nat) + (↑x_4 : Int).toNat)).length : Int)) = true →
 ∃ (x : Bool), sameVal (SV.bool true false) (SV.bool false x)) ∧
 (decide ((20 : Int) < (↑(y.f ((0 : Nat) + (↑x_4 : Int).toNat)).length : Int)) = false →
 ((0 : Int) ≤ (↑x_4 : Int) ∧
 (↑x_4 : Int) < (↑y.n : Int)) ∧
 (o' = o' ∧
 (0 : Nat) + (↑x_4 : Int).toNat < y.n) ∧
 (decide ((100 : Int) < (↑(y.g ((0 : Nat) + (↑x_4 : Int).toNat)).length : Int)) = true →
 ∃ (x : Bool), sameVal (SV.bool true false) (SV.bool false x)) ∧
 (decide ((100 : Int) < (↑(y.g ((0 : Nat) + (↑x_4 : Int).toNat)).length : Int)) = false →
 ((-9223372036854775808 : Int) ≤ (↑x_4 : Int) + (1 : Int) ∧
 (↑x_4 : Int) + (1 : Int) ≤ (9223372036854775807 : Int)) ∧
 ∃ (y_1 : Nat), (Upto y.n (fun (_x : Nat) => true) y_1 ∧
 y.n - y_1 < y.n - x_4) ∧
 (↑x_4 : Int) + (1 : Int) = (↑y_1 : Int) ∧
 SBle (SB.cells (y.sv (SV.vslc (1 : Nat) (3 : Nat) z' o' (0 : Nat) y.n c')).cells (5 : Nat) (30 : Nat)) (SB.cells (y.sv (SV.vslc (1 : Nat) (3 : Nat) z' o' (0 : Nat) y.n c')).cells (5 : Nat) (30 : Nat)) ∧
 SBle (SB.cells (x.sv (SV.vslc (0 : Nat) (2 : Nat) z o (0 : Nat) x.n c)).cells (8 : Nat) (27 : Nat)) (SB.cells (x.sv (SV.vslc (0 : Nat) (2 : Nat) z o (0 : Nat) x.n c)).cells (8 : Nat) (27 : Nat)) ∧
 SBle (seenR z o c x key).B (seenR z o c x key).B ∧
 SBle (seenC z' o' c' y key').B (seenC z' o' c' y key').B ∧
 True))) ∧
 (decide ((↑x_4 : Int) ≤ (90 : Int)) = false →
 (decide ((↑x.n : Int) ≤ (10 : Int)) = true →
 (decide ((↑y.n : Int) ≤ (90 : Int)) = true →
 (decide ((↑x.proof.length : Int) ≤ (2000 : Int)) = true →
 (decide ((↑x.root.length : Int) ≤ (50 : Int)) = true →
 ∃ (x : Bool), sameVal (SV.bool (false && true) (decide ((↑y.root.length : Int) ≤ (50 : Int)))) (SV.bool false x)) ∧
 (decide ((↑x.root.length : Int) ≤ (50 : Int)) = false →
 ∃ (x : Bool), sameVal (SV.bool true false) (SV.bool false x))) ∧
 (decide ((↑x.proof.length : Int) ≤ (2000 : Int)) = false →
 ∃ (x : Bool), sameVal (SV.bool true false) (SV.bool false x))) ∧
 (decide ((↑y.n : Int) ≤ (90 : Int)) = false →
 ∃ (x : Bool), sameVal (SV.bool true false) (SV.bool false x))) ∧
 (decide ((↑x.n : Int) ≤ (10 : Int)) = false →
 ∃ (x : Bool), sameVal (SV.bool true false) (SV.bool false x)))) ∧
 (decide ((↑x_4 : Int) < (↑y.n : Int)) = false →
 (decide ((↑x.n : Int) ≤ (10 : Int)) = true →
 (decide ((↑y.n : Int) ≤ (90 : Int)) = true →
 (decide ((↑x.proof.length : Int) ≤ (2000 : Int)) = true →
 (decide ((↑x.root.length : Int) ≤ (50 : Int)) = true →
 ∃ (x : Bool), sameVal (SV.bool (false && true) (decide ((↑y.root.length : Int) ≤ (50 : Int)))) (SV.bool false x)) ∧
 (decide ((↑x.root.length : Int) ≤ (50 : Int)) = false →
 ∃ (x : Bool), sameVal (SV.bool true false) (SV.bool false x))) ∧
 (decide ((↑x.proof.length : Int) ≤ (2000 : Int)) = false →
 ∃ (x : Bool), sameVal (SV.bool true false) (SV.bool false x))) ∧
 (decide ((↑y.n : Int) ≤ (90 : Int)) = false →
 ∃ (x : Bool), sameVal (SV.bool true false) (SV.bool false x))) ∧
 (decide ((↑x.n : Int) ≤ (10 : Int)) = false →
 ∃ (x : Bool), sameVal (SV.bool true false) (SV.bool false x))))) := by kernel_rfl
end Go.Proofs.YtocikfhejpilaaaGreatDoor
/-
  Frame: whether two rows are alike; which are looked at: the contracts.
-/
namespace Go.Proofs.YtocikfhejpilaaaGreatDoor
open Go Sx
set_option maxRecDepth 20000

theorem b2t {a b : Bool} (h : (!(a && (b && true))) = false) : (a && b) = true := by revert h; cases a <;> cases b <;> decide
theorem b2f {a b : Bool} (h : (!(a && (b && true))) = true) : (a && b) = false := by revert h; cases a <;> cases b <;> decide
theorem b3t {a b c : Bool} (h : (!(a && (b && (c && true)))) = false) : (a && b && c) = true := by revert h; cases a <;> cases b <;> cases c <;> decide
theorem b3f {a b c : Bool} (h : (!(a && (b && (c && true)))) = true) : (a && b && c) = false := by revert h; cases a <;> cases b <;> cases c <;> decide
theorem dec_of {p : Prop} [Decidable p] (h : (!decide p) = false) : p := by
  cases hd : decide p with
  | true => exact of_decide_eq_true hd
  | false => rw [hd] at h; cases h
theorem same_not {a : Bool} {p : Prop} [Decidable p] (h : (!decide p) = true) : sameVal (.bool true false) (.bool false (decide p && a)) := fun E => by
  cases hd : decide p with
  | true => rw [hd] at h; cases h
  | false => rfl
theorem sE_holds (x y : Rp) (hx : x.n < 9223372036854775808) (z z' : Bool) (o c o' c' : Nat) (key key' : Option Nat) : Holds (runV (cfgSE x y) 59 Tryz.f59 [.vslc 0 2 z o 0 x.n c, .vslc 1 2 z' o' 0 y.n c'] [seenR z o c x key, seenR z' o' c' y key'] (.ret (.bool false (sameE x y)))) := by
  refine Holds.of_eq (vcSE x y z z' o c o' c' key key') ?_
  simp only [Int.toNat_natCast, Nat.zero_add]
  refine ⟨fun h => same_not h, fun h => ⟨⟨0, ⟨Nat.zero_le _, fun j hj => absurd hj (Nat.not_lt_zero _)⟩, rfl, SBle.refl _, SBle.refl _, trivial⟩, fun i hi => ⟨fun a => ?_, fun a => ?_⟩⟩⟩
  · have a : (i : Int) < (x.n : Int) := of_decide_eq_true a
    have e : (x.n : Int) = (y.n : Int) := dec_of h
    refine ⟨by omega, ⟨trivial, by omega⟩, by omega, ⟨trivial, by omega⟩, fun b => ?_, fun b => ⟨by omega, i + 1, ⟨upto_next hi a (b2t b), by omega⟩, by omega, SBle.refl _, SBle.refl _, trivial⟩⟩
    exact bool_same (by rw [sameE, upto_none a (b2f b), Bool.and_false])
  · have a : ¬ (i : Int) < (x.n : Int) := of_decide_eq_false a
    have e : (x.n : Int) = (y.n : Int) := dec_of h
    exact bool_same (by rw [sameE, upto_all hi a, decide_eq_true e]; rfl)
theorem sC_holds (x y : Nt) (hx : x.n < 9223372036854775808) (z z' : Bool) (o c o' c' : Nat) (key key' : Option Nat) : Holds (runV (cfgSC x y) 60 Tryz.f60 [.vslc 0 3 z o 0 x.n c, .vslc 1 3 z' o' 0 y.n c'] [seenC z o c x key, seenC z' o' c' y key'] (.ret (.bool false (sameC x y)))) := by
  refine Holds.of_eq (vcSC x y z z' o c o' c' key key') ?_
  simp only [Int.toNat_natCast, Nat.zero_add]
  refine ⟨fun h => same_not h, fun h => ⟨⟨0, ⟨Nat.zero_le _, fun j hj => absurd hj (Nat.not_lt_zero _)⟩, rfl, SBle.refl _, SBle.refl _, trivial⟩, fun i hi => ⟨fun a => ?_, fun a => ?_⟩⟩⟩
  · have a : (i : Int) < (x.n : Int) := of_decide_eq_true a
    have e : (x.n : Int) = (y.n : Int) := dec_of h
    refine ⟨by omega, ⟨trivial, by omega⟩, by omega, ⟨trivial, by omega⟩, fun b => ?_, fun b => ⟨by omega, i + 1, ⟨upto_next hi a (b3t b), by omega⟩, by omega, SBle.refl _, SBle.refl _, trivial⟩⟩
    exact bool_same (by rw [sameC, upto_none a (b3f b), Bool.and_false])
  · have a : ¬ (i : Int) < (x.n : Int) := of_decide_eq_false a
    have e : (x.n : Int) = (y.n : Int) := dec_of h
    exact bool_same (by rw [sameC, upto_all hi a, decide_eq_true e]; rfl)
set_option maxHeartbeats 1000000 in
theorem few_holds (x : Rp) (y : Nt) (z z' : Bool) (o c o' c' : Nat) (key key' : Option Nat) : Holds (runV (cfgFew x y) 6 Tryz.f6 [x.sv (.vslc 0 2 z o 0 x.n c), y.sv (.vslc 1 3 z' o' 0 y.n c')] [seenR z o c x key, seenC z' o' c' y key'] someB) := by
  refine Holds.of_eq (vcFew x y z z' o c o' c' key key') ?_
  simp only [Int.toNat_natCast, Nat.zero_add, sble_same, true_and, and_true, decide_eq_true_eq, decide_eq_false_iff_not]
  repeat' first
    | exact ⟨_, bool_same rfl⟩
    | refine And.intro ?_ ?_
    | exact ⟨0, ⟨Nat.zero_le _, fun j hj => absurd hj (Nat.not_lt_zero _)⟩, rfl⟩
    | intro (i : Nat) (hi : Upto _ _ i)
    | intro (_ : (_ : Int) < _)
    | intro (_ : (_ : Int) ≤ _)
    | intro (_ : ¬ _)
    | intro (_ : _ = _)
    | exact ⟨i + 1, ⟨upto_next hi (by assumption) rfl, by omega⟩, by omega⟩
    | fail
  all_goals first
    | omega
def sameESpec (vs : List SV) (l : List Seen) : Option (Prop × Ans) := match vs, l with
  | [_, _], [⟨_key, _z, _o, n, _c, [.str f, .str g]⟩, ⟨_key', _z', _o', n', _c', [.str f', .str g']⟩] => some (n < 9223372036854775808, .ret (.bool false (sameE ⟨0, 0, 0, 0, [], n, f, g, [], false⟩ ⟨0, 0, 0, 0, [], n', f', g', [], false⟩)))
  | _, _ => none
def sameCSpec (vs : List SV) (l : List Seen) : Option (Prop × Ans) := match vs, l with
  | [_, _], [⟨_key, _z, _o, n, _c, [.str f, .str g, .bool h]⟩, ⟨_key', _z', _o', n', _c', [.str f', .str g', .bool h']⟩] => some (n < 9223372036854775808, .ret (.bool false (sameC ⟨0, 0, 0, [], n, f, g, h⟩ ⟨0, 0, 0, [], n', f', g', h'⟩)))
  | _, _ => none
def shE2 : List Sh2 := [.of (.slice dE), .of (.slice dE)]
def shC2 : List Sh2 := [.of (.slice dC), .of (.slice dC)]
def shRN : List Sh2 := shR ++ shN
theorem sE_ok : CallOk Tryz.prog 59 (ansVPT shE2 sameESpec) := by
  refine ansV_ok (n := 20) (fn := Tryz.f59) Tryz.func59 (by kernel_rfl) (by kernel_rfl) ?_
  intro vs l q a h hq
  unfold sameESpec at h
  split at h
  · rename_i key z o n c f g key' z' o' n' c' f' g'
    injection h with h; injection h with h1 h2; subst h1; subst h2
    exact ⟨_, goodSE _ _, rfl, rfl, sE_holds ⟨0, 0, 0, 0, [], n, f, g, [], false⟩ ⟨0, 0, 0, 0, [], n', f', g', [], false⟩ hq z z' o c o' c' key key'⟩
  · cases h
theorem sC_ok : CallOk Tryz.prog 60 (ansVPT shC2 sameCSpec) := by
  refine ansV_ok (n := 20) (fn := Tryz.f60) Tryz.func60 (by kernel_rfl) (by kernel_rfl) ?_
  intro vs l q a h hq
  unfold sameCSpec at h
  split at h
  · rename_i key z o n c f g h key' z' o' n' c' f' g' h'
    injection h with h; injection h with h1 h2; subst h1; subst h2
    exact ⟨_, goodSC _ _, rfl, rfl, sC_holds ⟨0, 0, 0, [], n, f, g, _⟩ ⟨0, 0, 0, [], n', f', g', h'⟩ hq z z' o c o' c' key key'⟩
  · cases h
def fewSpec (vs : List SV) (l : List Seen) : Option (Prop × Ans) := match vs, l with
  | [.agg [.int .i64 false _, .int .i64 false _, .int .i64 false _, .int .i64 false _, .str false _, _, .str false _, .bool false _], .agg [.int .i64 false _, .int .i64 false _, .int .i64 false _, .str false _, _]],
    [⟨_, _, _, _, _, [.str _, .str _]⟩, ⟨_, _, _, _, _, [.str _, .str _, .bool _]⟩] => some (True, someB)
  | _, _ => none
theorem few_ok : CallOk Tryz.prog 6 (ansVPT shRN fewSpec) := by
  refine ansV_ok (n := 20) (fn := Tryz.f6) Tryz.func6 (by kernel_rfl) (by kernel_rfl) ?_
  intro vs l q a h hq
  unfold fewSpec at h
  split at h
  · rename_i s q e v root u proof more s' e' b' root' u' key z o n c f g key' z' o' n' c' f' g' h'
    injection h with h; injection h with h1 h2; subst h1; subst h2
    exact ⟨_, goodFew ⟨s, q, e, v, root, n, f, g, proof, more⟩ ⟨s', e', b', root', n', f', g', h'⟩, rfl, fun b => rfl, few_holds ⟨s, q, e, v, root, n, f, g, proof, more⟩ ⟨s', e', b', root', n', f', g', h'⟩ z z' o c o' c' key key'⟩
  · cases h
noncomputable def listFM : List (FuncId × PT) := (6, ansVPT shRN fewSpec) :: (59, ansVPT shE2 sameESpec) :: (60, ansVPT shC2 sameCSpec) :: listFL
theorem listFM_ok : SummOk Tryz.prog (fun f => lookPT f listFM) := .cons few_ok (ansVPT_mono _ _) (.cons sE_ok (ansVPT_mono _ _) (.cons sC_ok (ansVPT_mono _ _) listFL_ok))
noncomputable def cfgFM : Cfg := { cfg0 with summ := fun f => lookPT f listFM }
theorem goodFM : Sx.Good Tryz.prog cfgFM := ⟨mixes, listFM_ok, fns_ok⟩
end Go.Proofs.YtocikfhejpilaaaGreatDoor
