/-
  FramePuts: the set-up: in each case the ways that are gone.
-/
import Derived.Test.YtocikfhejpilaaaGreatDoorSc
import Derived.Test.YtocikfhejpilaaaGreatDoorRa
import Derived.Test.YtocikfhejpilaaaGreatDoorMg
import Derived.Test.YtocikfhejpilaaaGreatDoorPf
import Derived.Test.YtocikfhejpilaaaGreatDoorPi
namespace Go.Proofs.YtocikfhejpilaaaGreatDoor
open Go Sx
set_option maxRecDepth 20000

noncomputable def listFP0 (pa pr pn : Bool) : List (FuncId × PT) :=
  (9, sureVLPT pr shR fprSpec) :: (11, sureVLPT pn shN fpnSpec) :: (7, sureLPT pa fputSpec) ::
  (10, sureVLPT pr shR pr2Spec) :: (12, sureVLPT pn shN pn2Spec) :: (8, sureLPT pa fputSpec) ::
  (14, ansVPT shR vr2Spec) :: (15, ansVPT shN vn2Spec) :: (13, purePT fvalidSpec) :: listFM
theorem listFP0_ok (pa pr pn : Bool) : SummOk Tryz.prog (fun f => lookPT f (listFP0 pa pr pn)) :=
  .cons (sureVL_ok fpr_ok) (sureVLPT_mono _ _ _) (.cons (sureVL_ok fpn_ok) (sureVLPT_mono _ _ _) (.cons (sureL_ok fput_ok) (sureLPT_mono _ _)
    (.cons (sureVL_ok pr2_ok) (sureVLPT_mono _ _ _) (.cons (sureVL_ok pn2_ok) (sureVLPT_mono _ _ _) (.cons (sureL_ok pa2_ok) (sureLPT_mono _ _)
      (.cons vr2_ok (ansVPT_mono _ _) (.cons vn2_ok (ansVPT_mono _ _) (.cons va2_ok (purePT_mono _) listFM_ok))))))))
noncomputable def cfgFP0 (pa pr pn : Bool) : Cfg := { cfg0 with summ := fun f => lookPT f (listFP0 pa pr pn) }
theorem goodFP0 (pa pr pn : Bool) : Sx.Good Tryz.prog (cfgFP0 pa pr pn) := ⟨mixes, listFP0_ok pa pr pn, fns_ok⟩
noncomputable def putsVC (pa pr pn : Bool) (a : Ak) (x : Rp) (y : Nt) (z z' : Bool) (o c o' c' : Nat) (key key' : Option Nat) : VC :=
  runV (cfgFP0 pa pr pn) 3 Tryz.f3 [a.sv, x.sv (.vslc 0 2 z o 0 x.n c), y.sv (.vslc 1 3 z' o' 0 y.n c')] [seenR z o c x key, seenC z' o' c' y key'] (.ret (.bool false true))
end Go.Proofs.YtocikfhejpilaaaGreatDoor
/-
  Conditions that the executor computes, written out by a program (vcgen.py).
-/
namespace Go.Proofs.YtocikfhejpilaaaGreatDoor
open Go Sx
set_option maxRecDepth 20000

theorem vcFPuts0 (a : Ak) (x : Rp) (y : Nt) (z z' : Bool) (o c o' c' : Nat) (key key' : Option Nat) : VC.holds (putsVC false false false a x y z z' o c o' c' key key') = (True ∧
 (((True ∧
 True ∧
 True ∧
 True ∧
 True ∧
 (z = z ∧
 o = o ∧
 (0 : Nat) + x.n ≤ x.n) ∧
 True ∧
 True ∧
 True) ∧
 (True ∧
 True ∧
 True ∧
 True ∧
 (z' = z' ∧
 o' = o' ∧
 (0 : Nat) + y.n ≤ y.n) ∧
 True) ∧
 True) ∧
 True) ∧
 ∀ (x_1 : Bool), ((!x_1) = true →
 sameVal (SV.bool true true) (SV.bool false true)) ∧
 ((!x_1) = false →
 (decide ((50 : Int) < (↑a.key.length : Int)) = true →
 sameVal (SV.bool true true) (SV.bool false true)) ∧
 (decide ((50 : Int) < (↑a.key.length : Int)) = false →
 (decide ((50 : Int) < (↑a.to.length : Int)) = true →
 sameVal (SV.bool true true) (SV.bool false true)) ∧
 (decide ((50 : Int) < (↑a.to.length : Int)) = false →
 True ∧
 a.ok = false ∧
 True ∧
 a.ok = false ∧
 (((True ∧
 True ∧
 True ∧
 True ∧
 True ∧
 (z = z ∧
 o = o ∧
 (0 : Nat) + x.n ≤ x.n) ∧
 True ∧
 True ∧
 True) ∧
 True) ∧
 True) ∧
 x.ok = false ∧
 (((True ∧
 True ∧
 True ∧
 True ∧
 True ∧
 (z = z ∧
 o = o ∧
 (0 : Nat) + x.n ≤ x.n) ∧
 True ∧
 True ∧
 True) ∧
 True) ∧
 x.n < (9223372036854775808 : Nat)) ∧
 x.ok = false ∧
 (((True ∧
 True ∧
 True ∧
 True ∧
 (z' = z' ∧
 o' = o' ∧
 (0 : Nat) + y.n ≤ y.n) ∧
 True) ∧
 True) ∧
 True) ∧
 y.ok = false ∧
 (((True ∧
 True ∧
 True ∧
 True ∧
 (z' = z' ∧
 o' = o' ∧
 (0 : Nat) + y.n ≤ y.n) ∧
 True) ∧
 True) ∧
 y.n < (9223372036854775808 : Nat)) ∧
 y.ok = false ∧
 True ∧
 (((True ∧
 True ∧
 True ∧
 True ∧
 True ∧
 (z = z ∧
 o = o ∧
 (0 : Nat) + x.n ≤ x.n) ∧
 True ∧
 True ∧
 True) ∧
 True) ∧
 x.n < (9223372036854775808 : Nat)) ∧
 (((True ∧
 True ∧
 True ∧
 True ∧
 (z' = z' ∧
 o' = o' ∧
 (0 : Nat) + y.n ≤ y.n) ∧
 True) ∧
 True) ∧
 y.n < (9223372036854775808 : Nat)) ∧
 True ∧
 ((a.ok == a.ok) = true →
 (((True ∧
 True ∧
 True ∧
 True ∧
 True ∧
 (z = z ∧
 o = o ∧
 (0 : Nat) + x.n ≤ x.n) ∧
 True ∧
 True ∧
 True) ∧
 True) ∧
 True) ∧
 ((x.ok == x.ok) = true →
 (((True ∧
 True ∧
 True ∧
 True ∧
 (z' = z' ∧
 o' = o' ∧
 (0 : Nat) + y.n ≤ y.n) ∧
 True) ∧
 True) ∧
 True) ∧
 sameVal (SV.bool (false && false) (y.ok == y.ok)) (SV.bool false true)) ∧
 ((x.ok == x.ok) = false →
 sameVal (SV.bool true false) (SV.bool false true))) ∧
 ((a.ok == a.ok) = false →
 sameVal (SV.bool true false) (SV.bool false true)))))) := by kernel_rfl
theorem vcFPuts1 (a : Ak) (x : Rp) (y : Nt) (z z' : Bool) (o c o' c' : Nat) (key key' : Option Nat) : VC.holds (putsVC true false false a x y z z' o c o' c' key key') = (True ∧
 (((True ∧
 True ∧
 True ∧
 True ∧
 True ∧
 (z = z ∧
 o = o ∧
 (0 : Nat) + x.n ≤ x.n) ∧
 True ∧
 True ∧
 True) ∧
 (True ∧
 True ∧
 True ∧
 True ∧
 (z' = z' ∧
 o' = o' ∧
 (0 : Nat) + y.n ≤ y.n) ∧
 True) ∧
 True) ∧
 True) ∧
 ∀ (x_1 : Bool), ((!x_1) = true →
 sameVal (SV.bool true true) (SV.bool false true)) ∧
 ((!x_1) = false →
 (decide ((50 : Int) < (↑a.key.length : Int)) = true →
 sameVal (SV.bool true true) (SV.bool false true)) ∧
 (decide ((50 : Int) < (↑a.key.length : Int)) = false →
 (decide ((50 : Int) < (↑a.to.length : Int)) = true →
 sameVal (SV.bool true true) (SV.bool false true)) ∧
 (decide ((50 : Int) < (↑a.to.length : Int)) = false →
 True ∧
 a.ok = true ∧
 True ∧
 a.ok = true ∧
 (((True ∧
 True ∧
 True ∧
 True ∧
 True ∧
 (z = z ∧
 o = o ∧
 (0 : Nat) + x.n ≤ x.n) ∧
 True ∧
 True ∧
 True) ∧
 True) ∧
 True) ∧
 x.ok = false ∧
 (((True ∧
 True ∧
 True ∧
 True ∧
 True ∧
 (z = z ∧
 o = o ∧
 (0 : Nat) + x.n ≤ x.n) ∧
 True ∧
 True ∧
 True) ∧
 True) ∧
 x.n < (9223372036854775808 : Nat)) ∧
 x.ok = false ∧
 (((True ∧
 True ∧
 True ∧
 True ∧
 (z' = z' ∧
 o' = o' ∧
 (0 : Nat) + y.n ≤ y.n) ∧
 True) ∧
 True) ∧
 True) ∧
 y.ok = false ∧
 (((True ∧
 True ∧
 True ∧
 True ∧
 (z' = z' ∧
 o' = o' ∧
 (0 : Nat) + y.n ≤ y.n) ∧
 True) ∧
 True) ∧
 y.n < (9223372036854775808 : Nat)) ∧
 y.ok = false ∧
 True ∧
 (((True ∧
 True ∧
 True ∧
 True ∧
 True ∧
 (z = z ∧
 o = o ∧
 (0 : Nat) + x.n ≤ x.n) ∧
 True ∧
 True ∧
 True) ∧
 True) ∧
 x.n < (9223372036854775808 : Nat)) ∧
 (((True ∧
 True ∧
 True ∧
 True ∧
 (z' = z' ∧
 o' = o' ∧
 (0 : Nat) + y.n ≤ y.n) ∧
 True) ∧
 True) ∧
 y.n < (9223372036854775808 : Nat)) ∧
 (decide (a.put = a.put) = true →
 True ∧
 ((a.ok == a.ok) = true →
 (((True ∧
 True ∧
 True ∧
 True ∧
 True ∧
 (z = z ∧
 o = o ∧
 (0 : Nat) + x.n ≤ x.n) ∧
 True ∧
 True ∧
 True) ∧
 True) ∧
 True) ∧
 ((x.ok == x.ok) = true →
 (((True ∧
 True ∧
 True ∧
 True ∧
 (z' = z' ∧
 o' = o' ∧
 (0 : Nat) + y.n ≤ y.n) ∧
 True) ∧
 True) ∧
 True) ∧
 sameVal (SV.bool (false && false) (y.ok == y.ok)) (SV.bool false true)) ∧
 ((x.ok == x.ok) = false →
 sameVal (SV.bool true false) (SV.bool false true))) ∧
 ((a.ok == a.ok) = false →
 sameVal (SV.bool true false) (SV.bool false true))) ∧
 (decide (a.put = a.put) = false →
 sameVal (SV.bool true false) (SV.bool false true)))))) := by kernel_rfl
theorem vcFPuts2 (a : Ak) (x : Rp) (y : Nt) (z z' : Bool) (o c o' c' : Nat) (key key' : Option Nat) : VC.holds (putsVC false true false a x y z z' o c o' c' key key') = (True ∧
 (((True ∧
 True ∧
 True ∧
 True ∧
 True ∧
 (z = z ∧
 o = o ∧
 (0 : Nat) + x.n ≤ x.n) ∧
 True ∧
 True ∧
 True) ∧
 (True ∧
 True ∧
 True ∧
 True ∧
 (z' = z' ∧
 o' = o' ∧
 (0 : Nat) + y.n ≤ y.n) ∧
 True) ∧
 True) ∧
 True) ∧
 ∀ (x_1 : Bool), ((!x_1) = true →
 sameVal (SV.bool true true) (SV.bool false true)) ∧
 ((!x_1) = false →
 (decide ((50 : Int) < (↑a.key.length : Int)) = true →
 sameVal (SV.bool true true) (SV.bool false true)) ∧
 (decide ((50 : Int) < (↑a.key.length : Int)) = false →
 (decide ((50 : Int) < (↑a.to.length : Int)) = true →
 sameVal (SV.bool true true) (SV.bool false true)) ∧
 (decide ((50 : Int) < (↑a.to.length : Int)) = false →
 True ∧
 a.ok = false ∧
 True ∧
 a.ok = false ∧
 (((True ∧
 True ∧
 True ∧
 True ∧
 True ∧
 (z = z ∧
 o = o ∧
 (0 : Nat) + x.n ≤ x.n) ∧
 True ∧
 True ∧
 True) ∧
 True) ∧
 True) ∧
 x.ok = true ∧
 (((True ∧
 True ∧
 True ∧
 True ∧
 True ∧
 (z = z ∧
 o = o ∧
 (0 : Nat) + x.n ≤ x.n) ∧
 True ∧
 True ∧
 True) ∧
 True) ∧
 x.n < (9223372036854775808 : Nat)) ∧
 x.ok = true ∧
 (((True ∧
 True ∧
 True ∧
 True ∧
 (z' = z' ∧
 o' = o' ∧
 (0 : Nat) + y.n ≤ y.n) ∧
 True) ∧
 True) ∧
 True) ∧
 y.ok = false ∧
 (((True ∧
 True ∧
 True ∧
 True ∧
 (z' = z' ∧
 o' = o' ∧
 (0 : Nat) + y.n ≤ y.n) ∧
 True) ∧
 True) ∧
 y.n < (9223372036854775808 : Nat)) ∧
 y.ok = false ∧
 True ∧
 (((True ∧
 True ∧
 True ∧
 True ∧
 True ∧
 (z = z ∧
 o = o ∧
 (0 : Nat) + x.n ≤ x.n) ∧
 True ∧
 True ∧
 True) ∧
 True) ∧
 x.n < (9223372036854775808 : Nat)) ∧
 (((True ∧
 True ∧
 True ∧
 True ∧
 (z' = z' ∧
 o' = o' ∧
 (0 : Nat) + y.n ≤ y.n) ∧
 True) ∧
 True) ∧
 y.n < (9223372036854775808 : Nat)) ∧
 (decide (x.put = x.put) = true →
 True ∧
 ((a.ok == a.ok) = true →
 (((True ∧
 True ∧
 True ∧
 True ∧
 True ∧
 (z = z ∧
 o = o ∧
 (0 : Nat) + x.n ≤ x.n) ∧
 True ∧
 True ∧
 True) ∧
 True) ∧
 True) ∧
 ((x.ok == x.ok) = true →
 (((True ∧
 True ∧
 True ∧
 True ∧
 (z' = z' ∧
 o' = o' ∧
 (0 : Nat) + y.n ≤ y.n) ∧
 True) ∧
 True) ∧
 True) ∧
 sameVal (SV.bool (false && false) (y.ok == y.ok)) (SV.bool false true)) ∧
 ((x.ok == x.ok) = false →
 sameVal (SV.bool true false) (SV.bool false true))) ∧
 ((a.ok == a.ok) = false →
 sameVal (SV.bool true false) (SV.bool false true))) ∧
 (decide (x.put = x.put) = false →
 sameVal (SV.bool true false) (SV.bool false true)))))) := by kernel_rfl
theorem vcFPuts3 (a : Ak) (x : Rp) (y : Nt) (z z' : Bool) (o c o' c' : Nat) (key key' : Option Nat) : VC.holds (putsVC true true false a x y z z' o c o' c' key key') = (True ∧
 (((True ∧
 True ∧
 True ∧
 True ∧
 True ∧
 (z = z ∧
 o = o ∧
 (0 : Nat) + x.n ≤ x.n) ∧
 True ∧
 True ∧
 True) ∧
 (True ∧
 True ∧
 True ∧
 True ∧
 (z' = z' ∧
 o' = o' ∧
 (0 : Nat) + y.n ≤ y.n) ∧
 True) ∧
 True) ∧
 True) ∧
 ∀ (x_1 : Bool), ((!x_1) = true →
 sameVal (SV.bool true true) (SV.bool false true)) ∧
 ((!x_1) = false →
 (decide ((50 : Int) < (↑a.key.length : Int)) = true →
 sameVal (SV.bool true true) (SV.bool false true)) ∧
 (decide ((50 : Int) < (↑a.key.length : Int)) = false →
 (decide ((50 : Int) < (↑a.to.length : Int)) = true →
 sameVal (SV.bool true true) (SV.bool false true)) ∧
 (decide ((50 : Int) < (↑a.to.length : Int)) = false →
 True ∧
 a.ok = true ∧
 True ∧
 a.ok = true ∧
 (((True ∧
 True ∧
 True ∧
 True ∧
 True ∧
 (z = z ∧
 o = o ∧
 (0 : Nat) + x.n ≤ x.n) ∧
 True ∧
 True ∧
 True) ∧
 True) ∧
 True) ∧
 x.ok = true ∧
 (((True ∧
 True ∧
 True ∧
 True ∧
 True ∧
 (z = z ∧
 o = o ∧
 (0 : Nat) + x.n ≤ x.n) ∧
 True ∧
 True ∧
 True) ∧
 True) ∧
 x.n < (9223372036854775808 : Nat)) ∧
 x.ok = true ∧
 (((True ∧
 True ∧
 True ∧
 True ∧
 (z' = z' ∧
 o' = o' ∧
 (0 : Nat) + y.n ≤ y.n) ∧
 True) ∧
 True) ∧
 True) ∧
 y.ok = false ∧
 (((True ∧
 True ∧
 True ∧
 True ∧
 (z' = z' ∧
 o' = o' ∧
 (0 : Nat) + y.n ≤ y.n) ∧
 True) ∧
 True) ∧
 y.n < (9223372036854775808 : Nat)) ∧
 y.ok = false ∧
 True ∧
 (((True ∧
 True ∧
 True ∧
 True ∧
 True ∧
 (z = z ∧
 o = o ∧
 (0 : Nat) + x.n ≤ x.n) ∧
 True ∧
 True ∧
 True) ∧
 True) ∧
 x.n < (9223372036854775808 : Nat)) ∧
 (((True ∧
 True ∧
 True ∧
 True ∧
 (z' = z' ∧
 o' = o' ∧
 (0 : Nat) + y.n ≤ y.n) ∧
 True) ∧
 True) ∧
 y.n < (9223372036854775808 : Nat)) ∧
 (decide (a.put = a.put) = true →
 (decide (x.put = x.put) = true →
 True ∧
 ((a.ok == a.ok) = true →
 (((True ∧
 True ∧
 True ∧
 True ∧
 True ∧
 (z = z ∧
 o = o ∧
 (0 : Nat) + x.n ≤ x.n) ∧
 True ∧
 True ∧
 True) ∧
 True) ∧
 True) ∧
 ((x.ok == x.ok) = true →
 (((True ∧
 True ∧
 True ∧
 True ∧
 (z' = z' ∧
 o' = o' ∧
 (0 : Nat) + y.n ≤ y.n) ∧
 True) ∧
 True) ∧
 True) ∧
 sameVal (SV.bool (false && false) (y.ok == y.ok)) (SV.bool false true)) ∧
 ((x.ok == x.ok) = false →
 sameVal (SV.bool true false) (SV.bool false true))) ∧
 ((a.ok == a.ok) = false →
 sameVal (SV.bool true false) (SV.bool false true))) ∧
 (decide (x.put = x.put) = false →
 sameVal (SV.bool true false) (SV.bool false true))) ∧
 (decide (a.put = a.put) = false →
 sameVal (SV.bool true false) (SV.bool false true)))))) := by kernel_rfl
theorem vcFPuts4 (a : Ak) (x : Rp) (y : Nt) (z z' : Bool) (o c o' c' : Nat) (key key' : Option Nat) : VC.holds (putsVC false false true a x y z z' o c o' c' key key') = (True ∧
 (((True ∧
 True ∧
 True ∧
 True ∧
 True ∧
 (z = z ∧
 o = o ∧
 (0 : Nat) + x.n ≤ x.n) ∧
 True ∧
 True ∧
 True) ∧
 (True ∧
 True ∧
 True ∧
 True ∧
 (z' = z' ∧
 o' = o' ∧
 (0 : Nat) + y.n ≤ y.n) ∧
 True) ∧
 True) ∧
 True) ∧
 ∀ (x_1 : Bool), ((!x_1) = true →
 sameVal (SV.bool true true) (SV.bool false true)) ∧
 ((!x_1) = false →
 (decide ((50 : Int) < (↑a.key.length : Int)) = true →
 sameVal (SV.bool true true) (SV.bool false true)) ∧
 (decide ((50 : Int) < (↑a.key.length : Int)) = false →
 (decide ((50 : Int) < (↑a.to.length : Int)) = true →
 sameVal (SV.bool true true) (SV.bool false true)) ∧
 (decide ((50 : Int) < (↑a.to.length : Int)) = false →
 True ∧
 a.ok = false ∧
 True ∧
 a.ok = false ∧
 (((True ∧
 True ∧
 True ∧
 True ∧
 True ∧
 (z = z ∧
 o = o ∧
 (0 : Nat) + x.n ≤ x.n) ∧
 True ∧
 True ∧
 True) ∧
 True) ∧
 True) ∧
 x.ok = false ∧
 (((True ∧
 True ∧
 True ∧
 True ∧
 True ∧
 (z = z ∧
 o = o ∧
 (0 : Nat) + x.n ≤ x.n) ∧
 True ∧
 True ∧
 True) ∧
 True) ∧
 x.n < (9223372036854775808 : Nat)) ∧
 x.ok = false ∧
 (((True ∧
 True ∧
 True ∧
 True ∧
 (z' = z' ∧
 o' = o' ∧
 (0 : Nat) + y.n ≤ y.n) ∧
 True) ∧
 True) ∧
 True) ∧
 y.ok = true ∧
 (((True ∧
 True ∧
 True ∧
 True ∧
 (z' = z' ∧
 o' = o' ∧
 (0 : Nat) + y.n ≤ y.n) ∧
 True) ∧
 True) ∧
 y.n < (9223372036854775808 : Nat)) ∧
 y.ok = true ∧
 True ∧
 (((True ∧
 True ∧
 True ∧
 True ∧
 True ∧
 (z = z ∧
 o = o ∧
 (0 : Nat) + x.n ≤ x.n) ∧
 True ∧
 True ∧
 True) ∧
 True) ∧
 x.n < (9223372036854775808 : Nat)) ∧
 (((True ∧
 True ∧
 True ∧
 True ∧
 (z' = z' ∧
 o' = o' ∧
 (0 : Nat) + y.n ≤ y.n) ∧
 True) ∧
 True) ∧
 y.n < (9223372036854775808 : Nat)) ∧
 (decide (y.put = y.put) = true →
 True ∧
 ((a.ok == a.ok) = true →
 (((True ∧
 True ∧
 True ∧
 True ∧
 True ∧
 (z = z ∧
 o = o ∧
 (0 : Nat) + x.n ≤ x.n) ∧
 True ∧
 True ∧
 True) ∧
 True) ∧
 True) ∧
 ((x.ok == x.ok) = true →
 (((True ∧
 True ∧
 True ∧
 True ∧
 (z' = z' ∧
 o' = o' ∧
 (0 : Nat) + y.n ≤ y.n) ∧
 True) ∧
 True) ∧
 True) ∧
 sameVal (SV.bool (false && false) (y.ok == y.ok)) (SV.bool false true)) ∧
 ((x.ok == x.ok) = false →
 sameVal (SV.bool true false) (SV.bool false true))) ∧
 ((a.ok == a.ok) = false →
 sameVal (SV.bool true false) (SV.bool false true))) ∧
 (decide (y.put = y.put) = false →
 sameVal (SV.bool true false) (SV.bool false true)))))) := by kernel_rfl
theorem vcFPuts5 (a : Ak) (x : Rp) (y : Nt) (z z' : Bool) (o c o' c' : Nat) (key key' : Option Nat) : VC.holds (putsVC true false true a x y z z' o c o' c' key key') = (True ∧
 (((True ∧
 True ∧
 True ∧
 True ∧
 True ∧
 (z = z ∧
 o = o ∧
 (0 : Nat) + x.n ≤ x.n) ∧
 True ∧
 True ∧
 True) ∧
 (True ∧
 True ∧
 True ∧
 True ∧
 (z' = z' ∧
 o' = o' ∧
 (0 : Nat) + y.n ≤ y.n) ∧
 True) ∧
 True) ∧
 True) ∧
 ∀ (x_1 : Bool), ((!x_1) = true →
 sameVal (SV.bool true true) (SV.bool false true)) ∧
 ((!x_1) = false →
 (decide ((50 : Int) < (↑a.key.length : Int)) = true →
 sameVal (SV.bool true true) (SV.bool false true)) ∧
 (decide ((50 : Int) < (↑a.key.length : Int)) = false →
 (decide ((50 : Int) < (↑a.to.length : Int)) = true →
 sameVal (SV.bool true true) (SV.bool false true)) ∧
 (decide ((50 : Int) < (↑a.to.length : Int)) = false →
 True ∧
 a.ok = true ∧
 True ∧
 a.ok = true ∧
 (((True ∧
 True ∧
 True ∧
 True ∧
 True ∧
 (z = z ∧
 o = o ∧
 (0 : Nat) + x.n ≤ x.n) ∧
 True ∧
 True ∧
 True) ∧
 True) ∧
 True) ∧
 x.ok = false ∧
 (((True ∧
 True ∧
 True ∧
 True ∧
 True ∧
 (z = z ∧
 o = o ∧
 (0 : Nat) + x.n ≤ x.n) ∧
 True ∧
 True ∧
 True) ∧
 True) ∧
 x.n < (9223372036854775808 : Nat)) ∧
 x.ok = false ∧
 (((True ∧
 True ∧
 True ∧
 True ∧
 (z' = z' ∧
 o' = o' ∧
 (0 : Nat) + y.n ≤ y.n) ∧
 True) ∧
 True) ∧
 True) ∧
 y.ok = true ∧
 (((True ∧
 True ∧
 True ∧
 True ∧
 (z' = z' ∧
 o' = o' ∧
 (0 : Nat) + y.n ≤ y.n) ∧
 True) ∧
 True) ∧
 y.n < (9223372036854775808 : Nat)) ∧
 y.ok = true ∧
 True ∧
 (((True ∧
 True ∧
 True ∧
 True ∧
 True ∧
 (z = z ∧
 o = o ∧
 (0 : Nat) + x.n ≤ x.n) ∧
 True ∧
 True ∧
 True) ∧
 True) ∧
 x.n < (9223372036854775808 : Nat)) ∧
 (((True ∧
 True ∧
 True ∧
 True ∧
 (z' = z' ∧
 o' = o' ∧
 (0 : Nat) + y.n ≤ y.n) ∧
 True) ∧
 True) ∧
 y.n < (9223372036854775808 : Nat)) ∧
 (decide (a.put = a.put) = true →
 (decide (y.put = y.put) = true →
 True ∧
 ((a.ok == a.ok) = true →
 (((True ∧
 True ∧
 True ∧
 True ∧
 True ∧
 (z = z ∧
 o = o ∧
 (0 : Nat) + x.n ≤ x.n) ∧
 True ∧
 True ∧
 True) ∧
 True) ∧
 True) ∧
 ((x.ok == x.ok) = true →
 (((True ∧
 True ∧
 True ∧
 True ∧
 (z' = z' ∧
 o' = o' ∧
 (0 : Nat) + y.n ≤ y.n) ∧
 True) ∧
 True) ∧
 True) ∧
 sameVal (SV.bool (false && false) (y.ok == y.ok)) (SV.bool false true)) ∧
 ((x.ok == x.ok) = false →
 sameVal (SV.bool true false) (SV.bool false true))) ∧
 ((a.ok == a.ok) = false →
 sameVal (SV.bool true false) (SV.bool false true))) ∧
 (decide (y.put = y.put) = false →
 sameVal (SV.bool true false) (SV.bool false true))) ∧
 (decide (a.put = a.put) = false →
 sameVal (SV.bool true false) (SV.bool false true)))))) := by kernel_rfl
theorem vcFPuts6 (a : Ak) (x : Rp) (y : Nt) (z z' : Bool) (o c o' c' : Nat) (key key' : Option Nat) : VC.holds (putsVC false true true a x y z z' o c o' c' key key') = (True ∧
 (((True ∧
 True ∧
 True ∧
 True ∧
 True ∧
 (z = z ∧
 o = o ∧
 (0 : Nat) + x.n ≤ x.n) ∧
 True ∧
 True ∧
 True) ∧
 (True ∧
 True ∧
 True ∧
 True ∧
 (z' = z' ∧
 o' = o' ∧
 (0 : Nat) + y.n ≤ y.n) ∧
 True) ∧
 True) ∧
 True) ∧
 ∀ (x_1 : Bool), ((!x_1) = true →
 sameVal (SV.bool true true) (SV.bool false true)) ∧
 ((!x_1) = false →
 (decide ((50 : Int) < (↑a.key.length : Int)) = true →
 sameVal (SV.bool true true) (SV.bool false true)) ∧
 (decide ((50 : Int) < (↑a.key.length : Int)) = false →
 (decide ((50 : Int) < (↑a.to.length : Int)) = true →
 sameVal (SV.bool true true) (SV.bool false true)) ∧
 (decide ((50 : Int) < (↑a.to.length : Int)) = false →
 True ∧
 a.ok = false ∧
 True ∧
 a.ok = false ∧
 (((True ∧
 True ∧
 True ∧
 True ∧
 True ∧
 (z = z ∧
 o = o ∧
 (0 : Nat) + x.n ≤ x.n) ∧
 True ∧
 True ∧
 True) ∧
 True) ∧
 True) ∧
 x.ok = true ∧
 (((True ∧
 True ∧
 True ∧
 True ∧
 True ∧
 (z = z ∧
 o = o ∧
 (0 : Nat) + x.n ≤ x.n) ∧
 True ∧
 True ∧
 True) ∧
 True) ∧
 x.n < (9223372036854775808 : Nat)) ∧
 x.ok = true ∧
 (((True ∧
 True ∧
 True ∧
 True ∧
 (z' = z' ∧
 o' = o' ∧
 (0 : Nat) + y.n ≤ y.n) ∧
 True) ∧
 True) ∧
 True) ∧
 y.ok = true ∧
 (((True ∧
 True ∧
 True ∧
 True ∧
 (z' = z' ∧
 o' = o' ∧
 (0 : Nat) + y.n ≤ y.n) ∧
 True) ∧
 True) ∧
 y.n < (9223372036854775808 : Nat)) ∧
 y.ok = true ∧
 True ∧
 (((True ∧
 True ∧
 True ∧
 True ∧
 True ∧
 (z = z ∧
 o = o ∧
 (0 : Nat) + x.n ≤ x.n) ∧
 True ∧
 True ∧
 True) ∧
 True) ∧
 x.n < (9223372036854775808 : Nat)) ∧
 (((True ∧
 True ∧
 True ∧
 True ∧
 (z' = z' ∧
 o' = o' ∧
 (0 : Nat) + y.n ≤ y.n) ∧
 True) ∧
 True) ∧
 y.n < (9223372036854775808 : Nat)) ∧
 (decide (x.put = x.put) = true →
 (decide (y.put = y.put) = true →
 True ∧
 ((a.ok == a.ok) = true →
 (((True ∧
 True ∧
 True ∧
 True ∧
 True ∧
 (z = z ∧
 o = o ∧
 (0 : Nat) + x.n ≤ x.n) ∧
 True ∧
 True ∧
 True) ∧
 True) ∧
 True) ∧
 ((x.ok == x.ok) = true →
 (((True ∧
 True ∧
 True ∧
 True ∧
 (z' = z' ∧
 o' = o' ∧
 (0 : Nat) + y.n ≤ y.n) ∧
 True) ∧
 True) ∧
 True) ∧
 sameVal (SV.bool (false && false) (y.ok == y.ok)) (SV.bool false true)) ∧
 ((x.ok == x.ok) = false →
 sameVal (SV.bool true false) (SV.bool false true))) ∧
 ((a.ok == a.ok) = false →
 sameVal (SV.bool true false) (SV.bool false true))) ∧
 (decide (y.put = y.put) = false →
 sameVal (SV.bool true false) (SV.bool false true))) ∧
 (decide (x.put = x.put) = false →
 sameVal (SV.bool true false) (SV.bool false true)))))) := by kernel_rfl
theorem vcFPuts7 (a : Ak) (x : Rp) (y : Nt) (z z' : Bool) (o c o' c' : Nat) (key key' : Option Nat) : VC.holds (putsVC true true true a x y z z' o c o' c' key key') = (True ∧
 (((True ∧
 True ∧
 True ∧
 True ∧
 True ∧
 (z = z ∧
 o = o ∧
 (0 : Nat) + x.n ≤ x.n) ∧
 True ∧
 True ∧
 True) ∧
 (True ∧
 True ∧
 True ∧
 True ∧
 (z' = z' ∧
 o' = o' ∧
 (0 : Nat) + y.n ≤ y.n) ∧
 True) ∧
 True) ∧
 True) ∧
 ∀ (x_1 : Bool), ((!x_1) = true →
 sameVal (SV.bool true true) (SV.bool false true)) ∧
 ((!x_1) = false →
 (decide ((50 : Int) < (↑a.key.length : Int)) = true →
 sameVal (SV.bool true true) (SV.bool false true)) ∧
 (decide ((50 : Int) < (↑a.key.length : Int)) = false →
 (decide ((50 : Int) < (↑a.to.length : Int)) = true →
 sameVal (SV.bool true true) (SV.bool false true)) ∧
 (decide ((50 : Int) < (↑a.to.length : Int)) = false →
 True ∧
 a.ok = true ∧
 True ∧
 a.ok = true ∧
 (((True ∧
 True ∧
 True ∧
 True ∧
 True ∧
 (z = z ∧
 o = o ∧
 (0 : Nat) + x.n ≤ x.n) ∧
 True ∧
 True ∧
 True) ∧
 True) ∧
 True) ∧
 x.ok = true ∧
 (((True ∧
 True ∧
 True ∧
 True ∧
 True ∧
 (z = z ∧
 o = o ∧
 (0 : Nat) + x.n ≤ x.n) ∧
 True ∧
 True ∧
 True) ∧
 True) ∧
 x.n < (9223372036854775808 : Nat)) ∧
 x.ok = true ∧
 (((True ∧
 True ∧
 True ∧
 True ∧
 (z' = z' ∧
 o' = o' ∧
 (0 : Nat) + y.n ≤ y.n) ∧
 True) ∧
 True) ∧
 True) ∧
 y.ok = true ∧
 (((True ∧
 True ∧
 True ∧
 True ∧
 (z' = z' ∧
 o' = o' ∧
 (0 : Nat) + y.n ≤ y.n) ∧
 True) ∧
 True) ∧
 y.n < (9223372036854775808 : Nat)) ∧
 y.ok = true ∧
 True ∧
 (((True ∧
 True ∧
 True ∧
 True ∧
 True ∧
 (z = z ∧
 o = o ∧
 (0 : Nat) + x.n ≤ x.n) ∧
 True ∧
 True ∧
 True) ∧
 True) ∧
 x.n < (9223372036854775808 : Nat)) ∧
 (((True ∧
 True ∧
 True ∧
 True ∧
 (z' = z' ∧
 o' = o' ∧
 (0 : Nat) + y.n ≤ y.n) ∧
 True) ∧
 True) ∧
 y.n < (9223372036854775808 : Nat)) ∧
 (decide (a.put = a.put) = true →
 (decide (x.put = x.put) = true →
 (decide (y.put = y.put) = true →
 True ∧
 ((a.ok == a.ok) = true →
 (((True ∧
 True ∧
 True ∧
 True ∧
 True ∧
 (z = z ∧
 o = o ∧
 (0 : Nat) + x.n ≤ x.n) ∧
 True ∧
 True ∧
 True) ∧
 True) ∧
 True) ∧
 ((x.ok == x.ok) = true →
 (((True ∧
 True ∧
 True ∧
 True ∧
 (z' = z' ∧
 o' = o' ∧
 (0 : Nat) + y.n ≤ y.n) ∧
 True) ∧
 True) ∧
 True) ∧
 sameVal (SV.bool (false && false) (y.ok == y.ok)) (SV.bool false true)) ∧
 ((x.ok == x.ok) = false →
 sameVal (SV.bool true false) (SV.bool false true))) ∧
 ((a.ok == a.ok) = false →
 sameVal (SV.bool true false) (SV.bool false true))) ∧
 (decide (y.put = y.put) = false →
 sameVal (SV.bool true false) (SV.bool false true))) ∧
 (decide (x.put = x.put) = false →
 sameVal (SV.bool true false) (SV.bool false true))) ∧
 (decide (a.put = a.put) = false →
 sameVal (SV.bool true false) (SV.bool false true)))))) := by kernel_rfl
end Go.Proofs.YtocikfhejpilaaaGreatDoor
/-
  FramePuts: the run, case by case.
-/
namespace Go.Proofs.YtocikfhejpilaaaGreatDoor
open Go Sx
set_option maxRecDepth 20000

theorem fputs_0 {a : Ak} {x : Rp} {y : Nt} (ha : a.ok = false) (hx : x.ok = false) (hy : y.ok = false) (nx : x.n < 9223372036854775808) (ny : y.n < 9223372036854775808) (z z' : Bool) (o c o' c' : Nat) (key key' : Option Nat) : Holds (putsVC false false false a x y z z' o c o' c' key key') := by
  refine Holds.of_eq (vcFPuts0 a x y z z' o c o' c' key key') ?_
  have yes : sameVal (.bool true true) (.bool false true) := sure rfl
  simp only [yes, nx, ny, ha, hx, hy, Nat.zero_add, Nat.le_refl, decide_true, beq_self_eq_true, eq_self, Bool.and_self, Bool.true_eq_false, Bool.false_eq_true, false_imp_iff, forall_const, true_and, and_true, imp_self, implies_true, and_self]
  intros; exact sure rfl
theorem fputs_1 {a : Ak} {x : Rp} {y : Nt} (ha : a.ok = true) (hx : x.ok = false) (hy : y.ok = false) (nx : x.n < 9223372036854775808) (ny : y.n < 9223372036854775808) (z z' : Bool) (o c o' c' : Nat) (key key' : Option Nat) : Holds (putsVC true false false a x y z z' o c o' c' key key') := by
  refine Holds.of_eq (vcFPuts1 a x y z z' o c o' c' key key') ?_
  have yes : sameVal (.bool true true) (.bool false true) := sure rfl
  simp only [yes, nx, ny, ha, hx, hy, Nat.zero_add, Nat.le_refl, decide_true, beq_self_eq_true, eq_self, Bool.and_self, Bool.true_eq_false, Bool.false_eq_true, false_imp_iff, forall_const, true_and, and_true, imp_self, implies_true, and_self]
  intros; exact sure rfl
theorem fputs_2 {a : Ak} {x : Rp} {y : Nt} (ha : a.ok = false) (hx : x.ok = true) (hy : y.ok = false) (nx : x.n < 9223372036854775808) (ny : y.n < 9223372036854775808) (z z' : Bool) (o c o' c' : Nat) (key key' : Option Nat) : Holds (putsVC false true false a x y z z' o c o' c' key key') := by
  refine Holds.of_eq (vcFPuts2 a x y z z' o c o' c' key key') ?_
  have yes : sameVal (.bool true true) (.bool false true) := sure rfl
  simp only [yes, nx, ny, ha, hx, hy, Nat.zero_add, Nat.le_refl, decide_true, beq_self_eq_true, eq_self, Bool.and_self, Bool.true_eq_false, Bool.false_eq_true, false_imp_iff, forall_const, true_and, and_true, imp_self, implies_true, and_self]
  intros; exact sure rfl
theorem fputs_3 {a : Ak} {x : Rp} {y : Nt} (ha : a.ok = true) (hx : x.ok = true) (hy : y.ok = false) (nx : x.n < 9223372036854775808) (ny : y.n < 9223372036854775808) (z z' : Bool) (o c o' c' : Nat) (key key' : Option Nat) : Holds (putsVC true true false a x y z z' o c o' c' key key') := by
  refine Holds.of_eq (vcFPuts3 a x y z z' o c o' c' key key') ?_
  have yes : sameVal (.bool true true) (.bool false true) := sure rfl
  simp only [yes, nx, ny, ha, hx, hy, Nat.zero_add, Nat.le_refl, decide_true, beq_self_eq_true, eq_self, Bool.and_self, Bool.true_eq_false, Bool.false_eq_true, false_imp_iff, forall_const, true_and, and_true, imp_self, implies_true, and_self]
  intros; exact sure rfl
theorem fputs_4 {a : Ak} {x : Rp} {y : Nt} (ha : a.ok = false) (hx : x.ok = false) (hy : y.ok = true) (nx : x.n < 9223372036854775808) (ny : y.n < 9223372036854775808) (z z' : Bool) (o c o' c' : Nat) (key key' : Option Nat) : Holds (putsVC false false true a x y z z' o c o' c' key key') := by
  refine Holds.of_eq (vcFPuts4 a x y z z' o c o' c' key key') ?_
  have yes : sameVal (.bool true true) (.bool false true) := sure rfl
  simp only [yes, nx, ny, ha, hx, hy, Nat.zero_add, Nat.le_refl, decide_true, beq_self_eq_true, eq_self, Bool.and_self, Bool.true_eq_false, Bool.false_eq_true, false_imp_iff, forall_const, true_and, and_true, imp_self, implies_true, and_self]
  intros; exact sure rfl
theorem fputs_5 {a : Ak} {x : Rp} {y : Nt} (ha : a.ok = true) (hx : x.ok = false) (hy : y.ok = true) (nx : x.n < 9223372036854775808) (ny : y.n < 9223372036854775808) (z z' : Bool) (o c o' c' : Nat) (key key' : Option Nat) : Holds (putsVC true false true a x y z z' o c o' c' key key') := by
  refine Holds.of_eq (vcFPuts5 a x y z z' o c o' c' key key') ?_
  have yes : sameVal (.bool true true) (.bool false true) := sure rfl
  simp only [yes, nx, ny, ha, hx, hy, Nat.zero_add, Nat.le_refl, decide_true, beq_self_eq_true, eq_self, Bool.and_self, Bool.true_eq_false, Bool.false_eq_true, false_imp_iff, forall_const, true_and, and_true, imp_self, implies_true, and_self]
  intros; exact sure rfl
theorem fputs_6 {a : Ak} {x : Rp} {y : Nt} (ha : a.ok = false) (hx : x.ok = true) (hy : y.ok = true) (nx : x.n < 9223372036854775808) (ny : y.n < 9223372036854775808) (z z' : Bool) (o c o' c' : Nat) (key key' : Option Nat) : Holds (putsVC false true true a x y z z' o c o' c' key key') := by
  refine Holds.of_eq (vcFPuts6 a x y z z' o c o' c' key key') ?_
  have yes : sameVal (.bool true true) (.bool false true) := sure rfl
  simp only [yes, nx, ny, ha, hx, hy, Nat.zero_add, Nat.le_refl, decide_true, beq_self_eq_true, eq_self, Bool.and_self, Bool.true_eq_false, Bool.false_eq_true, false_imp_iff, forall_const, true_and, and_true, imp_self, implies_true, and_self]
  intros; exact sure rfl
theorem fputs_7 {a : Ak} {x : Rp} {y : Nt} (ha : a.ok = true) (hx : x.ok = true) (hy : y.ok = true) (nx : x.n < 9223372036854775808) (ny : y.n < 9223372036854775808) (z z' : Bool) (o c o' c' : Nat) (key key' : Option Nat) : Holds (putsVC true true true a x y z z' o c o' c' key key') := by
  refine Holds.of_eq (vcFPuts7 a x y z z' o c o' c' key key') ?_
  have yes : sameVal (.bool true true) (.bool false true) := sure rfl
  simp only [yes, nx, ny, ha, hx, hy, Nat.zero_add, Nat.le_refl, decide_true, beq_self_eq_true, eq_self, Bool.and_self, Bool.true_eq_false, Bool.false_eq_true, false_imp_iff, forall_const, true_and, and_true, imp_self, implies_true, and_self]
  intros; exact sure rfl
theorem fputs_calls (a : Ak) (x : Rp) (y : Nt) (nx : x.n < 9223372036854775808) (ny : y.n < 9223372036854775808) (z z' : Bool) (o c o' c' : Nat) (key key' : Option Nat) : ∃ cfg, Sx.Good Tryz.prog cfg ∧
    Holds (runV cfg 3 Tryz.f3 [a.sv, x.sv (.vslc 0 2 z o 0 x.n c), y.sv (.vslc 1 3 z' o' 0 y.n c')] [seenR z o c x key, seenC z' o' c' y key'] (.ret (.bool false true))) := by
  cases ha : a.ok <;> cases hx : x.ok <;> cases hy : y.ok
  · exact ⟨_, goodFP0 false false false, fputs_0 ha hx hy nx ny z z' o c o' c' key key'⟩
  · exact ⟨_, goodFP0 false false true, fputs_4 ha hx hy nx ny z z' o c o' c' key key'⟩
  · exact ⟨_, goodFP0 false true false, fputs_2 ha hx hy nx ny z z' o c o' c' key key'⟩
  · exact ⟨_, goodFP0 false true true, fputs_6 ha hx hy nx ny z z' o c o' c' key key'⟩
  · exact ⟨_, goodFP0 true false false, fputs_1 ha hx hy nx ny z z' o c o' c' key key'⟩
  · exact ⟨_, goodFP0 true false true, fputs_5 ha hx hy nx ny z z' o c o' c' key key'⟩
  · exact ⟨_, goodFP0 true true false, fputs_3 ha hx hy nx ny z z' o c o' c' key key'⟩
  · exact ⟨_, goodFP0 true true true, fputs_7 ha hx hy nx ny z z' o c o' c' key key'⟩
end Go.Proofs.YtocikfhejpilaaaGreatDoor
