/-
  Frame: FrameBack: the set-up: in each case the ways that are gone.
-/
import Derived.Test.YtocikfhejpilaaaDoorRa
import Derived.Test.YtocikfhejpilaaaDoorMg
namespace Go.Proofs.YtocikfhejpilaaaDoor
open Go Sx
set_option maxRecDepth 20000

noncomputable def listFB (pa pr pn : Bool) : List (FuncId × PT) :=
  (15, sureLPT true fgrSpec) :: (19, sureLPT true fgnSpec) :: (11, sureLPT true fgetSpec) ::
  (14, sureVLPT pr shR fprSpec) :: (18, sureVLPT pn shN fpnSpec) :: (10, sureLPT pa fputSpec) :: listFM
theorem listFB_ok (pa pr pn : Bool) : SummOk Tryd.prog (fun f => lookPT f (listFB pa pr pn)) :=
  .cons (sureL_ok fgr_ok) (sureLPT_mono _ _) (.cons (sureL_ok fgn_ok) (sureLPT_mono _ _) (.cons (sureL_ok fget_ok) (sureLPT_mono _ _)
    (.cons (sureVL_ok fpr_ok) (sureVLPT_mono _ _ _) (.cons (sureVL_ok fpn_ok) (sureVLPT_mono _ _ _) (.cons (sureL_ok fput_ok) (sureLPT_mono _ _) listFM_ok)))))
noncomputable def cfgFB (pa pr pn : Bool) : Cfg := { cfg0 with summ := fun f => lookPT f (listFB pa pr pn) }
theorem goodFB (pa pr pn : Bool) : Sx.Good Tryd.prog (cfgFB pa pr pn) := ⟨mixes, listFB_ok pa pr pn, fns_ok⟩
noncomputable def backVC (pa pr pn : Bool) (a : Ak) (x : Rp) (y : Nt) (z z' : Bool) (o c o' c' : Nat) (key key' : Option Nat) : VC :=
  runV (cfgFB pa pr pn) 3 Tryd.f3 [a.sv, x.sv (.vslc 0 2 z o 0 x.n c), y.sv (.vslc 1 3 z' o' 0 y.n c')] [seenR z o c x key, seenC z' o' c' y key'] (.ret (.bool false true))
end Go.Proofs.YtocikfhejpilaaaDoor
/-
  Conditions that the executor computes, written out by a program (vcgen.py).
-/
namespace Go.Proofs.YtocikfhejpilaaaDoor
open Go Sx
set_option maxRecDepth 20000

theorem vcFBack0 (a : Ak) (x : Rp) (y : Nt) (z z' : Bool) (o c o' c' : Nat) (key key' : Option Nat) : VC.holds (backVC false false false a x y z z' o c o' c' key key') = (True ∧
 (((True ∧
 True ∧
 True ∧
 True ∧
 True ∧
 (z = z ∧
 o = o ∧
 (0 : Nat) + x.n ≤ x.n) ∧
 True ∧
 True ∧
 True) ∧
 (True ∧
 True ∧
 True ∧
 True ∧
 (z' = z' ∧
 o' = o' ∧
 (0 : Nat) + y.n ≤ y.n) ∧
 True) ∧
 True) ∧
 True) ∧
 ∀ (x_1 : Bool), ((!x_1) = true →
 sameVal (SV.bool true true) (SV.bool false true)) ∧
 ((!x_1) = false →
 (decide ((50 : Int) < (↑a.key.length : Int)) = true →
 sameVal (SV.bool true true) (SV.bool false true)) ∧
 (decide ((50 : Int) < (↑a.key.length : Int)) = false →
 (decide ((50 : Int) < (↑a.to.length : Int)) = true →
 sameVal (SV.bool true true) (SV.bool false true)) ∧
 (decide ((50 : Int) < (↑a.to.length : Int)) = false →
 True ∧
 a.ok = false ∧
 (0 : Nat) < (1099511627776 : Nat) ∧
 True ∧
 ((!decide ((1 : Int) = (0 : Int)) == a.ok) = true →
 sameVal (SV.bool true false) (SV.bool false true)) ∧
 ((!decide ((1 : Int) = (0 : Int)) == a.ok) = false →
 (((True ∧
 True ∧
 True ∧
 True ∧
 True ∧
 (z = z ∧
 o = o ∧
 (0 : Nat) + x.n ≤ x.n) ∧
 True ∧
 True ∧
 True) ∧
 True) ∧
 True) ∧
 x.ok = false ∧
 (0 : Nat) < (1099511627776 : Nat) ∧
 (decide ((0 : Int) = x.s) = true →
 (decide ((0 : Int) = x.q) = true →
 (decide ((0 : Int) = x.e) = true →
 (decide ((0 : Int) = x.v) = true →
 (decide ([] = x.root) = true →
 (decide ([] = x.proof) = true →
 ((false == x.more) = true →
 ((True ∧
 (z = z ∧
 o = o ∧
 (0 : Nat) + x.n ≤ x.n) ∧
 True) ∧
 (0 : Nat) < (9223372036854775808 : Nat)) ∧
 (((True ∧
 True ∧
 True ∧
 True ∧
 True ∧
 (z = z ∧
 o = o ∧
 (0 : Nat) + x.n ≤ x.n) ∧
 True ∧
 True ∧
 True) ∧
 True) ∧
 True) ∧
 ((!decide ((1 : Int) = (0 : Int)) == x.ok) = true →
 sameVal (SV.bool true false) (SV.bool false true)) ∧
 ((!decide ((1 : Int) = (0 : Int)) == x.ok) = false →
 (((True ∧
 True ∧
 True ∧
 True ∧
 (z' = z' ∧
 o' = o' ∧
 (0 : Nat) + y.n ≤ y.n) ∧
 True) ∧
 True) ∧
 True) ∧
 y.ok = false ∧
 (0 : Nat) < (1099511627776 : Nat) ∧
 (decide ((0 : Int) = y.s) = true →
 (decide ((0 : Int) = y.e) = true →
 (decide ((0 : Int) = y.b) = true →
 (decide ([] = y.root) = true →
 ((True ∧
 (z' = z' ∧
 o' = o' ∧
 (0 : Nat) + y.n ≤ y.n) ∧
 True) ∧
 (0 : Nat) < (9223372036854775808 : Nat)) ∧
 (((True ∧
 True ∧
 True ∧
 True ∧
 (z' = z' ∧
 o' = o' ∧
 (0 : Nat) + y.n ≤ y.n) ∧
 True) ∧
 True) ∧
 True) ∧
 sameVal (SV.bool (true && true && false) (decide ((1 : Int) = (0 : Int)) == y.ok)) (SV.bool false true)) ∧
 (decide ([] = y.root) = false →
 (((True ∧
 True ∧
 True ∧
 True ∧
 (z' = z' ∧
 o' = o' ∧
 (0 : Nat) + y.n ≤ y.n) ∧
 True) ∧
 True) ∧
 True) ∧
 sameVal (SV.bool (true && true && false) (decide ((1 : Int) = (0 : Int)) == y.ok)) (SV.bool false true))) ∧
 (decide ((0 : Int) = y.b) = false →
 (((True ∧
 True ∧
 True ∧
 True ∧
 (z' = z' ∧
 o' = o' ∧
 (0 : Nat) + y.n ≤ y.n) ∧
 True) ∧
 True) ∧
 True) ∧
 sameVal (SV.bool (true && true && false) (decide ((1 : Int) = (0 : Int)) == y.ok)) (SV.bool false true))) ∧
 (decide ((0 : Int) = y.e) = false →
 (((True ∧
 True ∧
 True ∧
 True ∧
 (z' = z' ∧
 o' = o' ∧
 (0 : Nat) + y.n ≤ y.n) ∧
 True) ∧
 True) ∧
 True) ∧
 sameVal (SV.bool (true && true && false) (decide ((1 : Int) = (0 : Int)) == y.ok)) (SV.bool false true))) ∧
 (decide ((0 : Int) = y.s) = false →
 (((True ∧
 True ∧
 True ∧
 True ∧
 (z' = z' ∧
 o' = o' ∧
 (0 : Nat) + y.n ≤ y.n) ∧
 True) ∧
 True) ∧
 True) ∧
 sameVal (SV.bool (true && true && false) (decide ((1 : Int) = (0 : Int)) == y.ok)) (SV.bool false true)))) ∧
 ((false == x.more) = false →
 (((True ∧
 True ∧
 True ∧
 True ∧
 True ∧
 (z = z ∧
 o = o ∧
 (0 : Nat) + x.n ≤ x.n) ∧
 True ∧
 True ∧
 True) ∧
 True) ∧
 True) ∧
 ((!decide ((1 : Int) = (0 : Int)) == x.ok) = true →
 sameVal (SV.bool true false) (SV.bool false true)) ∧
 ((!decide ((1 : Int) = (0 : Int)) == x.ok) = false →
 (((True ∧
 True ∧
 True ∧
 True ∧
 (z' = z' ∧
 o' = o' ∧
 (0 : Nat) + y.n ≤ y.n) ∧
 True) ∧
 True) ∧
 True) ∧
 y.ok = false ∧
 (0 : Nat) < (1099511627776 : Nat) ∧
 (decide ((0 : Int) = y.s) = true →
 (decide ((0 : Int) = y.e) = true →
 (decide ((0 : Int) = y.b) = true →
 (decide ([] = y.root) = true →
 ((True ∧
 (z' = z' ∧
 o' = o' ∧
 (0 : Nat) + y.n ≤ y.n) ∧
 True) ∧
 (0 : Nat) < (9223372036854775808 : Nat)) ∧
 (((True ∧
 True ∧
 True ∧
 True ∧
 (z' = z' ∧
 o' = o' ∧
 (0 : Nat) + y.n ≤ y.n) ∧
 True) ∧
 True) ∧
 True) ∧
 sameVal (SV.bool (true && true && false) (decide ((1 : Int) = (0 : Int)) == y.ok)) (SV.bool false true)) ∧
 (decide ([] = y.root) = false →
 (((True ∧
 True ∧
 True ∧
 True ∧
 (z' = z' ∧
 o' = o' ∧
 (0 : Nat) + y.n ≤ y.n) ∧
 True) ∧
 True) ∧
 True) ∧
 sameVal (SV.bool (true && true && false) (decide ((1 : Int) = (0 : Int)) == y.ok)) (SV.bool false true))) ∧
 (decide ((0 : Int) = y.b) = false →
 (((True ∧
 True ∧
 True ∧
 True ∧
 (z' = z' ∧
 o' = o' ∧
 (0 : Nat) + y.n ≤ y.n) ∧
 True) ∧
 True) ∧
 True) ∧
 sameVal (SV.bool (true && true && false) (decide ((1 : Int) = (0 : Int)) == y.ok)) (SV.bool false true))) ∧
 (decide ((0 : Int) = y.e) = false →
 (((True ∧
 True ∧
 True ∧
 True ∧
 (z' = z' ∧
 o' = o' ∧
 (0 : Nat) + y.n ≤ y.n) ∧
 True) ∧
 True) ∧
 True) ∧
 sameVal (SV.bool (true && true && false) (decide ((1 : Int) = (0 : Int)) == y.ok)) (SV.bool false true))) ∧
 (decide ((0 : Int) = y.s) = false →
 (((True ∧
 True ∧
 True ∧
 True ∧
 (z' = z' ∧
 o' = o' ∧
 (0 : Nat) + y.n ≤ y.n) ∧
 True) ∧
 True) ∧
 True) ∧
 sameVal (SV.bool (true && true && false) (decide ((1 : Int) = (0 : Int)) == y.ok)) (SV.bool false true))))) ∧
 (decide ([] = x.proof) = false →
 (((True ∧
 True ∧
 True ∧
 True ∧
 True ∧
 (z = z ∧
 o = o ∧
 (0 : Nat) + x.n ≤ x.n) ∧
 True ∧
 True ∧
 True) ∧
 True) ∧
 True) ∧
 ((!decide ((1 : Int) = (0 : Int)) == x.ok) = true →
 sameVal (SV.bool true false) (SV.bool false true)) ∧
 ((!decide ((1 : Int) = (0 : Int)) == x.ok) = false →
 (((True ∧
 True ∧
 True ∧
 True ∧
 (z' = z' ∧
 o' = o' ∧
 (0 : Nat) + y.n ≤ y.n) ∧
 True) ∧
 True) ∧
 True) ∧
 y.ok = false ∧
 (0 : Nat) < (1099511627776 : Nat) ∧
 (decide ((0 : Int) = y.s) = true →
 (decide ((0 : Int) = y.e) = true →
 (decide ((0 : Int) = y.b) = true →
 (decide ([] = y.root) = true →
 ((True ∧
 (z' = z' ∧
 o' = o' ∧
 (0 : Nat) + y.n ≤ y.n) ∧
 True) ∧
 (0 : Nat) < (9223372036854775808 : Nat)) ∧
 (((True ∧
 True ∧
 True ∧
 True ∧
 (z' = z' ∧
 o' = o' ∧
 (0 : Nat) + y.n ≤ y.n) ∧
 True) ∧
 True) ∧
 True) ∧
 sameVal (SV.bool (true && true && false) (decide ((1 : Int) = (0 : Int)) == y.ok)) (SV.bool false true)) ∧
 (decide ([] = y.root) = false →
 (((True ∧
 True ∧
 True ∧
 True ∧
 (z' = z' ∧
 o' = o' ∧
 (0 : Nat) + y.n ≤ y.n) ∧
 True) ∧
 True) ∧
 True) ∧
 sameVal (SV.bool (true && true && false) (decide ((1 : Int) = (0 : Int)) == y.ok)) (SV.bool false true))) ∧
 (decide ((0 : Int) = y.b) = false →
 (((True ∧
 True ∧
 True ∧
 True ∧
 (z' = z' ∧
 o' = o' ∧
 (0 : Nat) + y.n ≤ y.n) ∧
 True) ∧
 True) ∧
 True) ∧
 sameVal (SV.bool (true && true && false) (decide ((1 : Int) = (0 : Int)) == y.ok)) (SV.bool false true))) ∧
 (decide ((0 : Int) = y.e) = false →
 (((True ∧
 True ∧
 True ∧
 True ∧
 (z' = z' ∧
 o' = o' ∧
 (0 : Nat) + y.n ≤ y.n) ∧
 True) ∧
 True) ∧
 True) ∧
 sameVal (SV.bool (true && true && false) (decide ((1 : Int) = (0 : Int)) == y.ok)) (SV.bool false true))) ∧
 (decide ((0 : Int) = y.s) = false →
 (((True ∧
 True ∧
 True ∧
 True ∧
 (z' = z' ∧
 o' = o' ∧
 (0 : Nat) + y.n ≤ y.n) ∧
 True) ∧
 True) ∧
 True) ∧
 sameVal (SV.bool (true && true && false) (decide ((1 : Int) = (0 : Int)) == y.ok)) (SV.bool false true))))) ∧
 (decide ([] = x.root) = false →
 (((True ∧
 True ∧
 True ∧
 True ∧
 True ∧
 (z = z ∧
 o = o ∧
 (0 : Nat) + x.n ≤ x.n) ∧
 True ∧
 True ∧
 True) ∧
 True) ∧
 True) ∧
 ((!decide ((1 : Int) = (0 : Int)) == x.ok) = true →
 sameVal (SV.bool true false) (SV.bool false true)) ∧
 ((!decide ((1 : Int) = (0 : Int)) == x.ok) = false →
 (((True ∧
 True ∧
 True ∧
 True ∧
 (z' = z' ∧
 o' = o' ∧
 (0 : Nat) + y.n ≤ y.n) ∧
 True) ∧
 True) ∧
 True) ∧
 y.ok = false ∧
 (0 : Nat) < (1099511627776 : Nat) ∧
 (decide ((0 : Int) = y.s) = true →
 (decide ((0 : Int) = y.e) = true →
 (decide ((0 : Int) = y.b) = true →
 (decide ([] = y.root) = true →
 ((True ∧
 (z' = z' ∧
 o' = o' ∧
 (0 : Nat) + y.n ≤ y.n) ∧
 True) ∧
 (0 : Nat) < (9223372036854775808 : Nat)) ∧
 (((True ∧
 True ∧
 True ∧
 True ∧
 (z' = z' ∧
 o' = o' ∧
 (0 : Nat) + y.n ≤ y.n) ∧
 True) ∧
 True) ∧
 True) ∧
 sameVal (SV.bool (true && true && false) (decide ((1 : Int) = (0 : Int)) == y.ok)) (SV.bool false true)) ∧
 (decide ([] = y.root) = false →
 (((True ∧
 True ∧
 True ∧
 True ∧
 (z' = z' ∧
 o' = o' ∧
 (0 : Nat) + y.n ≤ y.n) ∧
 True) ∧
 True) ∧
 True) ∧
 sameVal (SV.bool (true && true && false) (decide ((1 : Int) = (0 : Int)) == y.ok)) (SV.bool false true))) ∧
 (decide ((0 : Int) = y.b) = false →
 (((True ∧
 True ∧
 True ∧
 True ∧
 (z' = z' ∧
 o' = o' ∧
 (0 : Nat) + y.n ≤ y.n) ∧
 True) ∧
 True) ∧
 True) ∧
 sameVal (SV.bool (true && true && false) (decide ((1 : Int) = (0 : Int)) == y.ok)) (SV.bool false true))) ∧
 (decide ((0 : Int) = y.e) = false →
 (((True ∧
 True ∧
 True ∧
 True ∧
 (z' = z' ∧
 o' = o' ∧
 (0 : Nat) + y.n ≤ y.n) ∧
 True) ∧
 True) ∧
 True) ∧
 sameVal (SV.bool (true && true && false) (decide ((1 : Int) = (0 : Int)) == y.ok)) (SV.bool false true))) ∧
 (decide ((0 : Int) = y.s) = false →
 (((True ∧
 True ∧
 True ∧
 True ∧
 (z' = z' ∧
 o' = o' ∧
 (0 : Nat) + y.n ≤ y.n) ∧
 True) ∧
 True) ∧
 True) ∧
 sameVal (SV.bool (true && true && false) (decide ((1 : Int) = (0 : Int)) == y.ok)) (SV.bool false true))))) ∧
 (decide ((0 : Int) = x.v) = false →
 (((True ∧
 True ∧
 True ∧
 True ∧
 True ∧
 (z = z ∧
 o = o ∧
 (0 : Nat) + x.n ≤ x.n) ∧
 True ∧
 True ∧
 True) ∧
 True) ∧
 True) ∧
 ((!decide ((1 : Int) = (0 : Int)) == x.ok) = true →
 sameVal (SV.bool true false) (SV.bool false true)) ∧
 ((!decide ((1 : Int) = (0 : Int)) == x.ok) = false →
 (((True ∧
 True ∧
 True ∧
 True ∧
 (z' = z' ∧
 o' = o' ∧
 (0 : Nat) + y.n ≤ y.n) ∧
 True) ∧
 True) ∧
 True) ∧
 y.ok = false ∧
 (0 : Nat) < (1099511627776 : Nat) ∧
 (decide ((0 : Int) = y.s) = true →
 (decide ((0 : Int) = y.e) = true →
 (decide ((0 : Int) = y.b) = true →
 (decide ([] = y.root) = true →
 ((True ∧
 (z' = z' ∧
 o' = o' ∧
 (0 : Nat) + y.n ≤ y.n) ∧
 True) ∧
 (0 : Nat) < (9223372036854775808 : Nat)) ∧
 (((True ∧
 True ∧
 True ∧
 True ∧
 (z' = z' ∧
 o' = o' ∧
 (0 : Nat) + y.n ≤ y.n) ∧
 True) ∧
 True) ∧
 True) ∧
 sameVal (SV.bool (true && true && false) (decide ((1 : Int) = (0 : Int)) == y.ok)) (SV.bool false true)) ∧
 (decide ([] = y.root) = false →
 (((True ∧
 True ∧
 True ∧
 True ∧
 (z' = z' ∧
 o' = o' ∧
 (0 : Nat) + y.n ≤ y.n) ∧
 True) ∧
 True) ∧
 True) ∧
 sameVal (SV.bool (true && true && false) (decide ((1 : Int) = (0 : Int)) == y.ok)) (SV.bool false true))) ∧
 (decide ((0 : Int) = y.b) = false →
 (((True ∧
 True ∧
 True ∧
 True ∧
 (z' = z' ∧
 o' = o' ∧
 (0 : Nat) + y.n ≤ y.n) ∧
 True) ∧
 True) ∧
 True) ∧
 sameVal (SV.bool (true && true && false) (decide ((1 : Int) = (0 : Int)) == y.ok)) (SV.bool false true))) ∧
 (decide ((0 : Int) = y.e) = false →
 (((True ∧
 True ∧
 True ∧
 True ∧
 (z' = z' ∧
 o' = o' ∧
 (0 : Nat) + y.n ≤ y.n) ∧
 True) ∧
 True) ∧
 True) ∧
 sameVal (SV.bool (true && true && false) (decide ((1 : Int) = (0 : Int)) == y.ok)) (SV.bool false true))) ∧
 (decide ((0 : Int) = y.s) = false →
 (((True ∧
 True ∧
 True ∧
 True ∧
 (z' = z' ∧
 o' = o' ∧
 (0 : Nat) + y.n ≤ y.n) ∧
 True) ∧
 True) ∧
 True) ∧
 sameVal (SV.bool (true && true && false) (decide ((1 : Int) = (0 : Int)) == y.ok)) (SV.bool false true))))) ∧
 (decide ((0 : Int) = x.e) = false →
 (((True ∧
 True ∧
 True ∧
 True ∧
 True ∧
 (z = z ∧
 o = o ∧
 (0 : Nat) + x.n ≤ x.n) ∧
 True ∧
 True ∧
 True) ∧
 True) ∧
 True) ∧
 ((!decide ((1 : Int) = (0 : Int)) == x.ok) = true →
 sameVal (SV.bool true false) (SV.bool false true)) ∧
 ((!decide ((1 : Int) = (0 : Int)) == x.ok) = false →
 (((True ∧
 True ∧
 True ∧
 True ∧
 (z' = z' ∧
 o' = o' ∧
 (0 : Nat) + y.n ≤ y.n) ∧
 True) ∧
 True) ∧
 True) ∧
 y.ok = false ∧
 (0 : Nat) < (1099511627776 : Nat) ∧
 (decide ((0 : Int) = y.s) = true →
 (decide ((0 : Int) = y.e) = true →
 (decide ((0 : Int) = y.b) = true →
 (decide ([] = y.root) = true →
 ((True ∧
 (z' = z' ∧
 o' = o' ∧
 (0 : Nat) + y.n ≤ y.n) ∧
 True) ∧
 (0 : Nat) < (9223372036854775808 : Nat)) ∧
 (((True ∧
 True ∧
 True ∧
 True ∧
 (z' = z' ∧
 o' = o' ∧
 (0 : Nat) + y.n ≤ y.n) ∧
 True) ∧
 True) ∧
 True) ∧
 sameVal (SV.bool (true && true && false) (decide ((1 : Int) = (0 : Int)) == y.ok)) (SV.bool false true)) ∧
 (decide ([] = y.root) = false →
 (((True ∧
 True ∧
 True ∧
 True ∧
 (z' = z' ∧
 o' = o' ∧
 (0 : Nat) + y.n ≤ y.n) ∧
 True) ∧
 True) ∧
 True) ∧
 sameVal (SV.bool (true && true && false) (decide ((1 : Int) = (0 : Int)) == y.ok)) (SV.bool false true))) ∧
 (decide ((0 : Int) = y.b) = false →
 (((True ∧
 True ∧
 True ∧
 True ∧
 (z' = z' ∧
 o' = o' ∧
 (0 : Nat) + y.n ≤ y.n) ∧
 True) ∧
 True) ∧
 True) ∧
 sameVal (SV.bool (true && true && false) (decide ((1 : Int) = (0 : Int)) == y.ok)) (SV.bool false true))) ∧
 (decide ((0 : Int) = y.e) = false →
 (((True ∧
 True ∧
 True ∧
 True ∧
 (z' = z' ∧
 o' = o' ∧
 (0 : Nat) + y.n ≤ y.n) ∧
 True) ∧
 True) ∧
 True) ∧
 sameVal (SV.bool (true && true && false) (decide ((1 : Int) = (0 : Int)) == y.ok)) (SV.bool false true))) ∧
 (decide ((0 : Int) = y.s) = false →
 (((True ∧
 True ∧
 True ∧
 True ∧
 (z' = z' ∧
 o' = o' ∧
 (0 : Nat) + y.n ≤ y.n) ∧
 True) ∧
 True) ∧
 True) ∧
 sameVal (SV.bool (true && true && false) (decide ((1 : Int) = (0 : Int)) == y.ok)) (SV.bool false true))))) ∧
 (decide ((0 : Int) = x.q) = false →
 (((True ∧
 True ∧
 True ∧
 True ∧
 True ∧
 (z = z ∧
 o = o ∧
 (0 : Nat) + x.n ≤ x.n) ∧
 True ∧
 True ∧
 True) ∧
 True) ∧
 True) ∧
 ((!decide ((1 : Int) = (0 : Int)) == x.ok) = true →
 sameVal (SV.bool true false) (SV.bool false true)) ∧
 ((!decide ((1 : Int) = (0 : Int)) == x.ok) = false →
 (((True ∧
 True ∧
 True ∧
 True ∧
 (z' = z' ∧
 o' = o' ∧
 (0 : Nat) + y.n ≤ y.n) ∧
 True) ∧
 True) ∧
 True) ∧
 y.ok = false ∧
 (0 : Nat) < (1099511627776 : Nat) ∧
 (decide ((0 : Int) = y.s) = true →
 (decide ((0 : Int) = y.e) = true →
 (decide ((0 : Int) = y.b) = true →
 (decide ([] = y.root) = true →
 ((True ∧
 (z' = z' ∧
 o' = o' ∧
 (0 : Nat) + y.n ≤ y.n) ∧
 True) ∧
 (0 : Nat) < (9223372036854775808 : Nat)) ∧
 (((True ∧
 True ∧
 True ∧
 True ∧
 (z' = z' ∧
 o' = o' ∧
 (0 : Nat) + y.n ≤ y.n) ∧
 True) ∧
 True) ∧
 True) ∧
 sameVal (SV.bool (true && true && false) (decide ((1 : Int) = (0 : Int)) == y.ok)) (SV.bool false true)) ∧
 (decide ([] = y.root) = false →
 (((True ∧
 True ∧
 True ∧
 True ∧
 (z' = z' ∧
 o' = o' ∧
 (0 : Nat) + y.n ≤ y.n) ∧
 True) ∧
 True) ∧
 True) ∧
 sameVal (SV.bool (true && true && false) (decide ((1 : Int) = (0 : Int)) == y.ok)) (SV.bool false true))) ∧
 (decide ((0 : Int) = y.b) = false →
 (((True ∧
 True ∧
 True ∧
 True ∧
 (z' = z' ∧
 o' = o' ∧
 (0 : Nat) + y.n ≤ y.n) ∧
 True) ∧
 True) ∧
 True) ∧
 sameVal (SV.bool (true && true && false) (decide ((1 : Int) = (0 : Int)) == y.ok)) (SV.bool false true))) ∧
 (decide ((0 : Int) = y.e) = false →
 (((True ∧
 True ∧
 True ∧
 True ∧
 (z' = z' ∧
 o' = o' ∧
 (0 : Nat) + y.n ≤ y.n) ∧
 True) ∧
 True) ∧
 True) ∧
 sameVal (SV.bool (true && true && false) (decide ((1 : Int) = (0 : Int)) == y.ok)) (SV.bool false true))) ∧
 (decide ((0 : Int) = y.s) = false →
 (((True ∧
 True ∧
 True ∧
 True ∧
 (z' = z' ∧
 o' = o' ∧
 (0 : Nat) + y.n ≤ y.n) ∧
 True) ∧
 True) ∧
 True) ∧
 sameVal (SV.bool (true && true && false) (decide ((1 : Int) = (0 : Int)) == y.ok)) (SV.bool false true))))) ∧
 (decide ((0 : Int) = x.s) = false →
 (((True ∧
 True ∧
 True ∧
 True ∧
 True ∧
 (z = z ∧
 o = o ∧
 (0 : Nat) + x.n ≤ x.n) ∧
 True ∧
 True ∧
 True) ∧
 True) ∧
 True) ∧
 ((!decide ((1 : Int) = (0 : Int)) == x.ok) = true →
 sameVal (SV.bool true false) (SV.bool false true)) ∧
 ((!decide ((1 : Int) = (0 : Int)) == x.ok) = false →
 (((True ∧
 True ∧
 True ∧
 True ∧
 (z' = z' ∧
 o' = o' ∧
 (0 : Nat) + y.n ≤ y.n) ∧
 True) ∧
 True) ∧
 True) ∧
 y.ok = false ∧
 (0 : Nat) < (1099511627776 : Nat) ∧
 (decide ((0 : Int) = y.s) = true →
 (decide ((0 : Int) = y.e) = true →
 (decide ((0 : Int) = y.b) = true →
 (decide ([] = y.root) = true →
 ((True ∧
 (z' = z' ∧
 o' = o' ∧
 (0 : Nat) + y.n ≤ y.n) ∧
 True) ∧
 (0 : Nat) < (9223372036854775808 : Nat)) ∧
 (((True ∧
 True ∧
 True ∧
 True ∧
 (z' = z' ∧
 o' = o' ∧
 (0 : Nat) + y.n ≤ y.n) ∧
 True) ∧
 True) ∧
 True) ∧
 sameVal (SV.bool (true && true && false) (decide ((1 : Int) = (0 : Int)) == y.ok)) (SV.bool false true)) ∧
 (decide ([] = y.root) = false →
 (((True ∧
 True ∧
 True ∧
 True ∧
 (z' = z' ∧
 o' = o' ∧
 (0 : Nat) + y.n ≤ y.n) ∧
 True) ∧
 True) ∧
 True) ∧
 sameVal (SV.bool (true && true && false) (decide ((1 : Int) = (0 : Int)) == y.ok)) (SV.bool false true))) ∧
 (decide ((0 : Int) = y.b) = false →
 (((True ∧
 True ∧
 True ∧
 True ∧
 (z' = z' ∧
 o' = o' ∧
 (0 : Nat) + y.n ≤ y.n) ∧
 True) ∧
 True) ∧
 True) ∧
 sameVal (SV.bool (true && true && false) (decide ((1 : Int) = (0 : Int)) == y.ok)) (SV.bool false true))) ∧
 (decide ((0 : Int) = y.e) = false →
 (((True ∧
 True ∧
 True ∧
 True ∧
 (z' = z' ∧
 o' = o' ∧
 (0 : Nat) + y.n ≤ y.n) ∧
 True) ∧
 True) ∧
 True) ∧
 sameVal (SV.bool (true && true && false) (decide ((1 : Int) = (0 : Int)) == y.ok)) (SV.bool false true))) ∧
 (decide ((0 : Int) = y.s) = false →
 (((True ∧
 True ∧
 True ∧
 True ∧
 (z' = z' ∧
 o' = o' ∧
 (0 : Nat) + y.n ≤ y.n) ∧
 True) ∧
 True) ∧
 True) ∧
 sameVal (SV.bool (true && true && false) (decide ((1 : Int) = (0 : Int)) == y.ok)) (SV.bool false true))))))))) := by kernel_rfl
theorem vcFBack1 (a : Ak) (x : Rp) (y : Nt) (z z' : Bool) (o c o' c' : Nat) (key key' : Option Nat) : VC.holds (backVC true false false a x y z z' o c o' c' key key') = (True ∧
 (((True ∧
 True ∧
 True ∧
 True ∧
 True ∧
 (z = z ∧
 o = o ∧
 (0 : Nat) + x.n ≤ x.n) ∧
 True ∧
 True ∧
 True) ∧
 (True ∧
 True ∧
 True ∧
 True ∧
 (z' = z' ∧
 o' = o' ∧
 (0 : Nat) + y.n ≤ y.n) ∧
 True) ∧
 True) ∧
 True) ∧
 ∀ (x_1 : Bool), ((!x_1) = true →
 sameVal (SV.bool true true) (SV.bool false true)) ∧
 ((!x_1) = false →
 (decide ((50 : Int) < (↑a.key.length : Int)) = true →
 sameVal (SV.bool true true) (SV.bool false true)) ∧
 (decide ((50 : Int) < (↑a.key.length : Int)) = false →
 (decide ((50 : Int) < (↑a.to.length : Int)) = true →
 sameVal (SV.bool true true) (SV.bool false true)) ∧
 (decide ((50 : Int) < (↑a.to.length : Int)) = false →
 True ∧
 a.ok = true ∧
 a.put.length < (1099511627776 : Nat) ∧
 getAskB a.put = true ∧
 ((!(decide (a.k = numI (itOf a.put (1 : Nat))) && (decide (a.s = numI (itOf a.put (2 : Nat))) && (decide (a.q = numI (itOf a.put (3 : Nat))) && (decide (a.a = numI (itOf a.put (4 : Nat)) - (1 : Int)) && (decide (a.key = cutIn (itOf a.put (5 : Nat))) && (decide (a.to = cutIn (itOf a.put (6 : Nat))) && (decide (a.lim = numI (itOf a.put (7 : Nat))) && true)))))))) = true →
 sameVal (SV.bool true false) (SV.bool false true)) ∧
 ((!(decide (a.k = numI (itOf a.put (1 : Nat))) && (decide (a.s = numI (itOf a.put (2 : Nat))) && (decide (a.q = numI (itOf a.put (3 : Nat))) && (decide (a.a = numI (itOf a.put (4 : Nat)) - (1 : Int)) && (decide (a.key = cutIn (itOf a.put (5 : Nat))) && (decide (a.to = cutIn (itOf a.put (6 : Nat))) && (decide (a.lim = numI (itOf a.put (7 : Nat))) && true)))))))) = false →
 a.put.length < (1099511627776 : Nat) ∧
 ((!decide (kindI a.put = (0 : Int))) = true →
 sameVal (SV.bool true false) (SV.bool false true)) ∧
 ((!decide (kindI a.put = (0 : Int))) = false →
 True ∧
 ((!decide ((0 : Int) = (0 : Int)) == a.ok) = true →
 sameVal (SV.bool true false) (SV.bool false true)) ∧
 ((!decide ((0 : Int) = (0 : Int)) == a.ok) = false →
 (((True ∧
 True ∧
 True ∧
 True ∧
 True ∧
 (z = z ∧
 o = o ∧
 (0 : Nat) + x.n ≤ x.n) ∧
 True ∧
 True ∧
 True) ∧
 True) ∧
 True) ∧
 x.ok = false ∧
 (0 : Nat) < (1099511627776 : Nat) ∧
 (decide ((0 : Int) = x.s) = true →
 (decide ((0 : Int) = x.q) = true →
 (decide ((0 : Int) = x.e) = true →
 (decide ((0 : Int) = x.v) = true →
 (decide ([] = x.root) = true →
 (decide ([] = x.proof) = true →
 ((false == x.more) = true →
 ((True ∧
 (z = z ∧
 o = o ∧
 (0 : Nat) + x.n ≤ x.n) ∧
 True) ∧
 (0 : Nat) < (9223372036854775808 : Nat)) ∧
 (((True ∧
 True ∧
 True ∧
 True ∧
 True ∧
 (z = z ∧
 o = o ∧
 (0 : Nat) + x.n ≤ x.n) ∧
 True ∧
 True ∧
 True) ∧
 True) ∧
 True) ∧
 ((!decide ((1 : Int) = (0 : Int)) == x.ok) = true →
 sameVal (SV.bool true false) (SV.bool false true)) ∧
 ((!decide ((1 : Int) = (0 : Int)) == x.ok) = false →
 (((True ∧
 True ∧
 True ∧
 True ∧
 (z' = z' ∧
 o' = o' ∧
 (0 : Nat) + y.n ≤ y.n) ∧
 True) ∧
 True) ∧
 True) ∧
 y.ok = false ∧
 (0 : Nat) < (1099511627776 : Nat) ∧
 (decide ((0 : Int) = y.s) = true →
 (decide ((0 : Int) = y.e) = true →
 (decide ((0 : Int) = y.b) = true →
 (decide ([] = y.root) = true →
 ((True ∧
 (z' = z' ∧
 o' = o' ∧
 (0 : Nat) + y.n ≤ y.n) ∧
 True) ∧
 (0 : Nat) < (9223372036854775808 : Nat)) ∧
 (((True ∧
 True ∧
 True ∧
 True ∧
 (z' = z' ∧
 o' = o' ∧
 (0 : Nat) + y.n ≤ y.n) ∧
 True) ∧
 True) ∧
 True) ∧
 sameVal (SV.bool (true && true && false) (decide ((1 : Int) = (0 : Int)) == y.ok)) (SV.bool false true)) ∧
 (decide ([] = y.root) = false →
 (((True ∧
 True ∧
 True ∧
 True ∧
 (z' = z' ∧
 o' = o' ∧
 (0 : Nat) + y.n ≤ y.n) ∧
 True) ∧
 True) ∧
 True) ∧
 sameVal (SV.bool (true && true && false) (decide ((1 : Int) = (0 : Int)) == y.ok)) (SV.bool false true))) ∧
 (decide ((0 : Int) = y.b) = false →
 (((True ∧
 True ∧
 True ∧
 True ∧
 (z' = z' ∧
 o' = o' ∧
 (0 : Nat) + y.n ≤ y.n) ∧
 True) ∧
 True) ∧
 True) ∧
 sameVal (SV.bool (true && true && false) (decide ((1 : Int) = (0 : Int)) == y.ok)) (SV.bool false true))) ∧
 (decide ((0 : Int) = y.e) = false →
 (((True ∧
 True ∧
 True ∧
 True ∧
 (z' = z' ∧
 o' = o' ∧
 (0 : Nat) + y.n ≤ y.n) ∧
 True) ∧
 True) ∧
 True) ∧
 sameVal (SV.bool (true && true && false) (decide ((1 : Int) = (0 : Int)) == y.ok)) (SV.bool false true))) ∧
 (decide ((0 : Int) = y.s) = false →
 (((True ∧
 True ∧
 True ∧
 True ∧
 (z' = z' ∧
 o' = o' ∧
 (0 : Nat) + y.n ≤ y.n) ∧
 True) ∧
 True) ∧
 True) ∧
 sameVal (SV.bool (true && true && false) (decide ((1 : Int) = (0 : Int)) == y.ok)) (SV.bool false true)))) ∧
 ((false == x.more) = false →
 (((True ∧
 True ∧
 True ∧
 True ∧
 True ∧
 (z = z ∧
 o = o ∧
 (0 : Nat) + x.n ≤ x.n) ∧
 True ∧
 True ∧
 True) ∧
 True) ∧
 True) ∧
 ((!decide ((1 : Int) = (0 : Int)) == x.ok) = true →
 sameVal (SV.bool true false) (SV.bool false true)) ∧
 ((!decide ((1 : Int) = (0 : Int)) == x.ok) = false →
 (((True ∧
 True ∧
 True ∧
 True ∧
 (z' = z' ∧
 o' = o' ∧
 (0 : Nat) + y.n ≤ y.n) ∧
 True) ∧
 True) ∧
 True) ∧
 y.ok = false ∧
 (0 : Nat) < (1099511627776 : Nat) ∧
 (decide ((0 : Int) = y.s) = true →
 (decide ((0 : Int) = y.e) = true →
 (decide ((0 : Int) = y.b) = true →
 (decide ([] = y.root) = true →
 ((True ∧
 (z' = z' ∧
 o' = o' ∧
 (0 : Nat) + y.n ≤ y.n) ∧
 True) ∧
 (0 : Nat) < (9223372036854775808 : Nat)) ∧
 (((True ∧
 True ∧
 True ∧
 True ∧
 (z' = z' ∧
 o' = o' ∧
 (0 : Nat) + y.n ≤ y.n) ∧
 True) ∧
 True) ∧
 True) ∧
 sameVal (SV.bool (true && true && false) (decide ((1 : Int) = (0 : Int)) == y.ok)) (SV.bool false true)) ∧
 (decide ([] = y.root) = false →
 (((True ∧
 True ∧
 True ∧
 True ∧
 (z' = z' ∧
 o' = o' ∧
 (0 : Nat) + y.n ≤ y.n) ∧
 True) ∧
 True) ∧
 True) ∧
 sameVal (SV.bool (true && true && false) (decide ((1 : Int) = (0 : Int)) == y.ok)) (SV.bool false true))) ∧
 (decide ((0 : Int) = y.b) = false →
 (((True ∧
 True ∧
 True ∧
 True ∧
 (z' = z' ∧
 o' = o' ∧
 (0 : Nat) + y.n ≤ y.n) ∧
 True) ∧
 True) ∧
 True) ∧
 sameVal (SV.bool (true && true && false) (decide ((1 : Int) = (0 : Int)) == y.ok)) (SV.bool false true))) ∧
 (decide ((0 : Int) = y.e) = false →
 (((True ∧
 True ∧
 True ∧
 True ∧
 (z' = z' ∧
 o' = o' ∧
 (0 : Nat) + y.n ≤ y.n) ∧
 True) ∧
 True) ∧
 True) ∧
 sameVal (SV.bool (true && true && false) (decide ((1 : Int) = (0 : Int)) == y.ok)) (SV.bool false true))) ∧
 (decide ((0 : Int) = y.s) = false →
 (((True ∧
 True ∧
 True ∧
 True ∧
 (z' = z' ∧
 o' = o' ∧
 (0 : Nat) + y.n ≤ y.n) ∧
 True) ∧
 True) ∧
 True) ∧
 sameVal (SV.bool (true && true && false) (decide ((1 : Int) = (0 : Int)) == y.ok)) (SV.bool false true))))) ∧
 (decide ([] = x.proof) = false →
 (((True ∧
 True ∧
 True ∧
 True ∧
 True ∧
 (z = z ∧
 o = o ∧
 (0 : Nat) + x.n ≤ x.n) ∧
 True ∧
 True ∧
 True) ∧
 True) ∧
 True) ∧
 ((!decide ((1 : Int) = (0 : Int)) == x.ok) = true →
 sameVal (SV.bool true false) (SV.bool false true)) ∧
 ((!decide ((1 : Int) = (0 : Int)) == x.ok) = false →
 (((True ∧
 True ∧
 True ∧
 True ∧
 (z' = z' ∧
 o' = o' ∧
 (0 : Nat) + y.n ≤ y.n) ∧
 True) ∧
 True) ∧
 True) ∧
 y.ok = false ∧
 (0 : Nat) < (1099511627776 : Nat) ∧
 (decide ((0 : Int) = y.s) = true →
 (decide ((0 : Int) = y.e) = true →
 (decide ((0 : Int) = y.b) = true →
 (decide ([] = y.root) = true →
 ((True ∧
 (z' = z' ∧
 o' = o' ∧
 (0 : Nat) + y.n ≤ y.n) ∧
 True) ∧
 (0 : Nat) < (9223372036854775808 : Nat)) ∧
 (((True ∧
 True ∧
 True ∧
 True ∧
 (z' = z' ∧
 o' = o' ∧
 (0 : Nat) + y.n ≤ y.n) ∧
 True) ∧
 True) ∧
 True) ∧
 sameVal (SV.bool (true && true && false) (decide ((1 : Int) = (0 : Int)) == y.ok)) (SV.bool false true)) ∧
 (decide ([] = y.root) = false →
 (((True ∧
 True ∧
 True ∧
 True ∧
 (z' = z' ∧
 o' = o' ∧
 (0 : Nat) + y.n ≤ y.n) ∧
 True) ∧
 True) ∧
 True) ∧
 sameVal (SV.bool (true && true && false) (decide ((1 : Int) = (0 : Int)) == y.ok)) (SV.bool false true))) ∧
 (decide ((0 : Int) = y.b) = false →
 (((True ∧
 True ∧
 True ∧
 True ∧
 (z' = z' ∧
 o' = o' ∧
 (0 : Nat) + y.n ≤ y.n) ∧
 True) ∧
 True) ∧
 True) ∧
 sameVal (SV.bool (true && true && false) (decide ((1 : Int) = (0 : Int)) == y.ok)) (SV.bool false true))) ∧
 (decide ((0 : Int) = y.e) = false →
 (((True ∧
 True ∧
 True ∧
 True ∧
 (z' = z' ∧
 o' = o' ∧
 (0 : Nat) + y.n ≤ y.n) ∧
 True) ∧
 True) ∧
 True) ∧
 sameVal (SV.bool (true && true && false) (decide ((1 : Int) = (0 : Int)) == y.ok)) (SV.bool false true))) ∧
 (decide ((0 : Int) = y.s) = false →
 (((True ∧
 True ∧
 True ∧
 True ∧
 (z' = z' ∧
 o' = o' ∧
 (0 : Nat) + y.n ≤ y.n) ∧
 True) ∧
 True) ∧
 True) ∧
 sameVal (SV.bool (true && true && false) (decide ((1 : Int) = (0 : Int)) == y.ok)) (SV.bool false true))))) ∧
 (decide ([] = x.root) = false →
 (((True ∧
 True ∧
 True ∧
 True ∧
 True ∧
 (z = z ∧
 o = o ∧
 (0 : Nat) + x.n ≤ x.n) ∧
 True ∧
 True ∧
 True) ∧
 True) ∧
 True) ∧
 ((!decide ((1 : Int) = (0 : Int)) == x.ok) = true →
 sameVal (SV.bool true false) (SV.bool false true)) ∧
 ((!decide ((1 : Int) = (0 : Int)) == x.ok) = false →
 (((True ∧
 True ∧
 True ∧
 True ∧
 (z' = z' ∧
 o' = o' ∧
 (0 : Nat) + y.n ≤ y.n) ∧
 True) ∧
 True) ∧
 True) ∧
 y.ok = false ∧
 (0 : Nat) < (1099511627776 : Nat) ∧
 (decide ((0 : Int) = y.s) = true →
 (decide ((0 : Int) = y.e) = true →
 (decide ((0 : Int) = y.b) = true →
 (decide ([] = y.root) = true →
 ((True ∧
 (z' = z' ∧
 o' = o' ∧
 (0 : Nat) + y.n ≤ y.n) ∧
 True) ∧
 (0 : Nat) < (9223372036854775808 : Nat)) ∧
 (((True ∧
 True ∧
 True ∧
 True ∧
 (z' = z' ∧
 o' = o' ∧
 (0 : Nat) + y.n ≤ y.n) ∧
 True) ∧
 True) ∧
 True) ∧
 sameVal (SV.bool (true && true && false) (decide ((1 : Int) = (0 : Int)) == y.ok)) (SV.bool false true)) ∧
 (decide ([] = y.root) = false →
 (((True ∧
 True ∧
 True ∧
 True ∧
 (z' = z' ∧
 o' = o' ∧
 (0 : Nat) + y.n ≤ y.n) ∧
 True) ∧
 True) ∧
 True) ∧
 sameVal (SV.bool (true && true && false) (decide ((1 : Int) = (0 : Int)) == y.ok)) (SV.bool false true))) ∧
 (decide ((0 : Int) = y.b) = false →
 (((True ∧
 True ∧
 True ∧
 True ∧
 (z' = z' ∧
 o' = o' ∧
 (0 : Nat) + y.n ≤ y.n) ∧
 True) ∧
 True) ∧
 True) ∧
 sameVal (SV.bool (true && true && false) (decide ((1 : Int) = (0 : Int)) == y.ok)) (SV.bool false true))) ∧
 (decide ((0 : Int) = y.e) = false →
 (((True ∧
 True ∧
 True ∧
 True ∧
 (z' = z' ∧
 o' = o' ∧
 (0 : Nat) + y.n ≤ y.n) ∧
 True) ∧
 True) ∧
 True) ∧
 sameVal (SV.bool (true && true && false) (decide ((1 : Int) = (0 : Int)) == y.ok)) (SV.bool false true))) ∧
 (decide ((0 : Int) = y.s) = false →
 (((True ∧
 True ∧
 True ∧
 True ∧
 (z' = z' ∧
 o' = o' ∧
 (0 : Nat) + y.n ≤ y.n) ∧
 True) ∧
 True) ∧
 True) ∧
 sameVal (SV.bool (true && true && false) (decide ((1 : Int) = (0 : Int)) == y.ok)) (SV.bool false true))))) ∧
 (decide ((0 : Int) = x.v) = false →
 (((True ∧
 True ∧
 True ∧
 True ∧
 True ∧
 (z = z ∧
 o = o ∧
 (0 : Nat) + x.n ≤ x.n) ∧
 True ∧
 True ∧
 True) ∧
 True) ∧
 True) ∧
 ((!decide ((1 : Int) = (0 : Int)) == x.ok) = true →
 sameVal (SV.bool true false) (SV.bool false true)) ∧
 ((!decide ((1 : Int) = (0 : Int)) == x.ok) = false →
 (((True ∧
 True ∧
 True ∧
 True ∧
 (z' = z' ∧
 o' = o' ∧
 (0 : Nat) + y.n ≤ y.n) ∧
 True) ∧
 True) ∧
 True) ∧
 y.ok = false ∧
 (0 : Nat) < (1099511627776 : Nat) ∧
 (decide ((0 : Int) = y.s) = true →
 (decide ((0 : Int) = y.e) = true →
 (decide ((0 : Int) = y.b) = true →
 (decide ([] = y.root) = true →
 ((True ∧
 (z' = z' ∧
 o' = o' ∧
 (0 : Nat) + y.n ≤ y.n) ∧
 True) ∧
 (0 : Nat) < (9223372036854775808 : Nat)) ∧
 (((True ∧
 True ∧
 True ∧
 True ∧
 (z' = z' ∧
 o' = o' ∧
 (0 : Nat) + y.n ≤ y.n) ∧
 True) ∧
 True) ∧
 True) ∧
 sameVal (SV.bool (true && true && false) (decide ((1 : Int) = (0 : Int)) == y.ok)) (SV.bool false true)) ∧
 (decide ([] = y.root) = false →
 (((True ∧
 True ∧
 True ∧
 True ∧
 (z' = z' ∧
 o' = o' ∧
 (0 : Nat) + y.n ≤ y.n) ∧
 True) ∧
 True) ∧
 True) ∧
 sameVal (SV.bool (true && true && false) (decide ((1 : Int) = (0 : Int)) == y.ok)) (SV.bool false true))) ∧
 (decide ((0 : Int) = y.b) = false →
 (((True ∧
 True ∧
 True ∧
 True ∧
 (z' = z' ∧
 o' = o' ∧
 (0 : Nat) + y.n ≤ y.n) ∧
 True) ∧
 True) ∧
 True) ∧
 sameVal (SV.bool (true && true && false) (decide ((1 : Int) = (0 : Int)) == y.ok)) (SV.bool false true))) ∧
 (decide ((0 : Int) = y.e) = false →
 (((True ∧
 True ∧
 True ∧
 True ∧
 (z' = z' ∧
 o' = o' ∧
 (0 : Nat) + y.n ≤ y.n) ∧
 True) ∧
 True) ∧
 True) ∧
 sameVal (SV.bool (true && true && false) (decide ((1 : Int) = (0 : Int)) == y.ok)) (SV.bool false true))) ∧
 (decide ((0 : Int) = y.s) = false →
 (((True ∧
 True ∧
 True ∧
 True ∧
 (z' = z' ∧
 o' = o' ∧
 (0 : Nat) + y.n ≤ y.n) ∧
 True) ∧
 True) ∧
 True) ∧
 sameVal (SV.bool (true && true && false) (decide ((1 : Int) = (0 : Int)) == y.ok)) (SV.bool false true))))) ∧
 (decide ((0 : Int) = x.e) = false →
 (((True ∧
 True ∧
 True ∧
 True ∧
 True ∧
 (z = z ∧
 o = o ∧
 (0 : Nat) + x.n ≤ x.n) ∧
 True ∧
 True ∧
 True) ∧
 True) ∧
 True) ∧
 ((!decide ((1 : Int) = (0 : Int)) == x.ok) = true →
 sameVal (SV.bool true false) (SV.bool false true)) ∧
 ((!decide ((1 : Int) = (0 : Int)) == x.ok) = false →
 (((True ∧
 True ∧
 True ∧
 True ∧
 (z' = z' ∧
 o' = o' ∧
 (0 : Nat) + y.n ≤ y.n) ∧
 True) ∧
 True) ∧
 True) ∧
 y.ok = false ∧
 (0 : Nat) < (1099511627776 : Nat) ∧
 (decide ((0 : Int) = y.s) = true →
 (decide ((0 : Int) = y.e) = true →
 (decide ((0 : Int) = y.b) = true →
 (decide ([] = y.root) = true →
 ((True ∧
 (z' = z' ∧
 o' = o' ∧
 (0 : Nat) + y.n ≤ y.n) ∧
 True) ∧
 (0 : Nat) < (9223372036854775808 : Nat)) ∧
 (((True ∧
 True ∧
 True ∧
 True ∧
 (z' = z' ∧
 o' = o' ∧
 (0 : Nat) + y.n ≤ y.n) ∧
 True) ∧
 True) ∧
 True) ∧
 sameVal (SV.bool (true && true && false) (decide ((1 : Int) = (0 : Int)) == y.ok)) (SV.bool false true)) ∧
 (decide ([] = y.root) = false →
 (((True ∧
 True ∧
 True ∧
 True ∧
 (z' = z' ∧
 o' = o' ∧
 (0 : Nat) + y.n ≤ y.n) ∧
 True) ∧
 True) ∧
 True) ∧
 sameVal (SV.bool (true && true && false) (decide ((1 : Int) = (0 : Int)) == y.ok)) (SV.bool false true))) ∧
 (decide ((0 : Int) = y.b) = false →
 (((True ∧
 True ∧
 True ∧
 True ∧
 (z' = z' ∧
 o' = o' ∧
 (0 : Nat) + y.n ≤ y.n) ∧
 True) ∧
 True) ∧
 True) ∧
 sameVal (SV.bool (true && true && false) (decide ((1 : Int) = (0 : Int)) == y.ok)) (SV.bool false true))) ∧
 (decide ((0 : Int) = y.e) = false →
 (((True ∧
 True ∧
 True ∧
 True ∧
 (z' = z' ∧
 o' = o' ∧
 (0 : Nat) + y.n ≤ y.n) ∧
 True) ∧
 True) ∧
 True) ∧
 sameVal (SV.bool (true && true && false) (decide ((1 : Int) = (0 : Int)) == y.ok)) (SV.bool false true))) ∧
 (decide ((0 : Int) = y.s) = false →
 (((True ∧
 True ∧
 True ∧
 True ∧
 (z' = z' ∧
 o' = o' ∧
 (0 : Nat) + y.n ≤ y.n) ∧
 True) ∧
 True) ∧
 True) ∧
 sameVal (SV.bool (true && true && false) (decide ((1 : Int) = (0 : Int)) == y.ok)) (SV.bool false true))))) ∧
 (decide ((0 : Int) = x.q) = false →
 (((True ∧
 True ∧
 True ∧
 True ∧
 True ∧
 (z = z ∧
 o = o ∧
 (0 : Nat) + x.n ≤ x.n) ∧
 True ∧
 True ∧
 True) ∧
 True) ∧
 True) ∧
 ((!decide ((1 : Int) = (0 : Int)) == x.ok) = true →
 sameVal (SV.bool true false) (SV.bool false true)) ∧
 ((!decide ((1 : Int) = (0 : Int)) == x.ok) = false →
 (((True ∧
 True ∧
 True ∧
 True ∧
 (z' = z' ∧
 o' = o' ∧
 (0 : Nat) + y.n ≤ y.n) ∧
 True) ∧
 True) ∧
 True) ∧
 y.ok = false ∧
 (0 : Nat) < (1099511627776 : Nat) ∧
 (decide ((0 : Int) = y.s) = true →
 (decide ((0 : Int) = y.e) = true →
 (decide ((0 : Int) = y.b) = true →
 (decide ([] = y.root) = true →
 ((True ∧
 (z' = z' ∧
 o' = o' ∧
 (0 : Nat) + y.n ≤ y.n) ∧
 True) ∧
 (0 : Nat) < (9223372036854775808 : Nat)) ∧
 (((True ∧
 True ∧
 True ∧
 True ∧
 (z' = z' ∧
 o' = o' ∧
 (0 : Nat) + y.n ≤ y.n) ∧
 True) ∧
 True) ∧
 True) ∧
 sameVal (SV.bool (true && true && false) (decide ((1 : Int) = (0 : Int)) == y.ok)) (SV.bool false true)) ∧
 (decide ([] = y.root) = false →
 (((True ∧
 True ∧
 True ∧
 True ∧
 (z' = z' ∧
 o' = o' ∧
 (0 : Nat) + y.n ≤ y.n) ∧
 True) ∧
 True) ∧
 True) ∧
 sameVal (SV.bool (true && true && false) (decide ((1 : Int) = (0 : Int)) == y.ok)) (SV.bool false true))) ∧
 (decide ((0 : Int) = y.b) = false →
 (((True ∧
 True ∧
 True ∧
 True ∧
 (z' = z' ∧
 o' = o' ∧
 (0 : Nat) + y.n ≤ y.n) ∧
 True) ∧
 True) ∧
 True) ∧
 sameVal (SV.bool (true && true && false) (decide ((1 : Int) = (0 : Int)) == y.ok)) (SV.bool false true))) ∧
 (decide ((0 : Int) = y.e) = false →
 (((True ∧
 True ∧
 True ∧
 True ∧
 (z' = z' ∧
 o' = o' ∧
 (0 : Nat) + y.n ≤ y.n) ∧
 True) ∧
 True) ∧
 True) ∧
 sameVal (SV.bool (true && true && false) (decide ((1 : Int) = (0 : Int)) == y.ok)) (SV.bool false true))) ∧
 (decide ((0 : Int) = y.s) = false →
 (((True ∧
 True ∧
 True ∧
 True ∧
 (z' = z' ∧
 o' = o' ∧
 (0 : Nat) + y.n ≤ y.n) ∧
 True) ∧
 True) ∧
 True) ∧
 sameVal (SV.bool (true && true && false) (decide ((1 : Int) = (0 : Int)) == y.ok)) (SV.bool false true))))) ∧
 (decide ((0 : Int) = x.s) = false →
 (((True ∧
 True ∧
 True ∧
 True ∧
 True ∧
 (z = z ∧
 o = o ∧
 (0 : Nat) + x.n ≤ x.n) ∧
 True ∧
 True ∧
 True) ∧
 True) ∧
 True) ∧
 ((!decide ((1 : Int) = (0 : Int)) == x.ok) = true →
 sameVal (SV.bool true false) (SV.bool false true)) ∧
 ((!decide ((1 : Int) = (0 : Int)) == x.ok) = false →
 (((True ∧
 True ∧
 True ∧
 True ∧
 (z' = z' ∧
 o' = o' ∧
 (0 : Nat) + y.n ≤ y.n) ∧
 True) ∧
 True) ∧
 True) ∧
 y.ok = false ∧
 (0 : Nat) < (1099511627776 : Nat) ∧
 (decide ((0 : Int) = y.s) = true →
 (decide ((0 : Int) = y.e) = true →
 (decide ((0 : Int) = y.b) = true →
 (decide ([] = y.root) = true →
 ((True ∧
 (z' = z' ∧
 o' = o' ∧
 (0 : Nat) + y.n ≤ y.n) ∧
 True) ∧
 (0 : Nat) < (9223372036854775808 : Nat)) ∧
 (((True ∧
 True ∧
 True ∧
 True ∧
 (z' = z' ∧
 o' = o' ∧
 (0 : Nat) + y.n ≤ y.n) ∧
 True) ∧
 True) ∧
 True) ∧
 sameVal (SV.bool (true && true && false) (decide ((1 : Int) = (0 : Int)) == y.ok)) (SV.bool false true)) ∧
 (decide ([] = y.root) = false →
 (((True ∧
 True ∧
 True ∧
 True ∧
 (z' = z' ∧
 o' = o' ∧
 (0 : Nat) + y.n ≤ y.n) ∧
 True) ∧
 True) ∧
 True) ∧
 sameVal (SV.bool (true && true && false) (decide ((1 : Int) = (0 : Int)) == y.ok)) (SV.bool false true))) ∧
 (decide ((0 : Int) = y.b) = false →
 (((True ∧
 True ∧
 True ∧
 True ∧
 (z' = z' ∧
 o' = o' ∧
 (0 : Nat) + y.n ≤ y.n) ∧
 True) ∧
 True) ∧
 True) ∧
 sameVal (SV.bool (true && true && false) (decide ((1 : Int) = (0 : Int)) == y.ok)) (SV.bool false true))) ∧
 (decide ((0 : Int) = y.e) = false →
 (((True ∧
 True ∧
 True ∧
 True ∧
 (z' = z' ∧
 o' = o' ∧
 (0 : Nat) + y.n ≤ y.n) ∧
 True) ∧
 True) ∧
 True) ∧
 sameVal (SV.bool (true && true && false) (decide ((1 : Int) = (0 : Int)) == y.ok)) (SV.bool false true))) ∧
 (decide ((0 : Int) = y.s) = false →
 (((True ∧
 True ∧
 True ∧
 True ∧
 (z' = z' ∧
 o' = o' ∧
 (0 : Nat) + y.n ≤ y.n) ∧
 True) ∧
 True) ∧
 True) ∧
 sameVal (SV.bool (true && true && false) (decide ((1 : Int) = (0 : Int)) == y.ok)) (SV.bool false true))))))))))) := by kernel_rfl
theorem vcFBack2 (a : Ak) (x : Rp) (y : Nt) (z z' : Bool) (o c o' c' : Nat) (key key' : Option Nat) : VC.holds (backVC false true false a x y z z' o c o' c' key key') = (True ∧
 (((True ∧
 True ∧
 True ∧
 True ∧
 True ∧
 (z = z ∧
 o = o ∧
 (0 : Nat) + x.n ≤ x.n) ∧
 True ∧
 True ∧
 True) ∧
 (True ∧
 True ∧
 True ∧
 True ∧
 (z' = z' ∧
 o' = o' ∧
 (0 : Nat) + y.n ≤ y.n) ∧
 True) ∧
 True) ∧
 True) ∧
 ∀ (x_1 : Bool), ((!x_1) = true →
 sameVal (SV.bool true true) (SV.bool false true)) ∧
 ((!x_1) = false →
 (decide ((50 : Int) < (↑a.key.length : Int)) = true →
 sameVal (SV.bool true true) (SV.bool false true)) ∧
 (decide ((50 : Int) < (↑a.key.length : Int)) = false →
 (decide ((50 : Int) < (↑a.to.length : Int)) = true →
 sameVal (SV.bool true true) (SV.bool false true)) ∧
 (decide ((50 : Int) < (↑a.to.length : Int)) = false →
 True ∧
 a.ok = false ∧
 (0 : Nat) < (1099511627776 : Nat) ∧
 True ∧
 ((!decide ((1 : Int) = (0 : Int)) == a.ok) = true →
 sameVal (SV.bool true false) (SV.bool false true)) ∧
 ((!decide ((1 : Int) = (0 : Int)) == a.ok) = false →
 (((True ∧
 True ∧
 True ∧
 True ∧
 True ∧
 (z = z ∧
 o = o ∧
 (0 : Nat) + x.n ≤ x.n) ∧
 True ∧
 True ∧
 True) ∧
 True) ∧
 True) ∧
 x.ok = true ∧
 x.put.length < (1099511627776 : Nat) ∧
 getReplyB x.put = true ∧
 ∀ (x_6 : Nat), itemsN (cutIn (itOf x.put (6 : Nat))) ≤ x_6 →
 (decide (numI (itOf x.put (1 : Nat)) = x.s) = true →
 (decide (numI (itOf x.put (2 : Nat)) = x.q) = true →
 (decide (numI (itOf x.put (3 : Nat)) = x.e) = true →
 (decide (numI (itOf x.put (4 : Nat)) = x.v) = true →
 (decide (cutIn (itOf x.put (5 : Nat)) = x.root) = true →
 (decide (cutIn (itOf x.put (7 : Nat)) = x.proof) = true →
 ((decide (numI (itOf x.put (8 : Nat)) = (1 : Int)) == x.more) = true →
 (((false = false ∧
 (0 : Nat) + itemsN (cutIn (itOf x.put (6 : Nat))) ≤ itemsN (cutIn (itOf x.put (6 : Nat)))) ∧
 (z = z ∧
 o = o ∧
 (0 : Nat) + x.n ≤ x.n) ∧
 True) ∧
 itemsN (cutIn (itOf x.put (6 : Nat))) < (9223372036854775808 : Nat)) ∧
 ((!sameE { s := (0 : Int), q := (0 : Int), e := (0 : Int), v := (0 : Int), root := [], n := itemsN (cutIn (itOf x.put (6 : Nat))), f := fun (i : Nat) => cutIn (subOf (itOf x.put (6 : Nat)) i (0 : Nat)), g := fun (i : Nat) => cutIn (subOf (itOf x.put (6 : Nat)) i (1 : Nat)), proof := [], more := false : Rp } { s := (0 : Int), q := (0 : Int), e := (0 : Int), v := (0 : Int), root := [], n := x.n, f := x.f, g := x.g, proof := [], more := false : Rp }) = true →
 sameVal (SV.bool true false) (SV.bool false true)) ∧
 ((!sameE { s := (0 : Int), q := (0 : Int), e := (0 : Int), v := (0 : Int), root := [], n := itemsN (cutIn (itOf x.put (6 : Nat))), f := fun (i : Nat) => cutIn (subOf (itOf x.put (6 : Nat)) i (0 : Nat)), g := fun (i : Nat) => cutIn (subOf (itOf x.put (6 : Nat)) i (1 : Nat)), proof := [], more := false : Rp } { s := (0 : Int), q := (0 : Int), e := (0 : Int), v := (0 : Int), root := [], n := x.n, f := x.f, g := x.g, proof := [], more := false : Rp }) = false →
 x.put.length < (1099511627776 : Nat) ∧
 ((!decide (kindI x.put = (1 : Int))) = true →
 sameVal (SV.bool true false) (SV.bool false true)) ∧
 ((!decide (kindI x.put = (1 : Int))) = false →
 (((True ∧
 True ∧
 True ∧
 True ∧
 True ∧
 (z = z ∧
 o = o ∧
 (0 : Nat) + x.n ≤ x.n) ∧
 True ∧
 True ∧
 True) ∧
 True) ∧
 True) ∧
 ((!decide ((0 : Int) = (0 : Int)) == x.ok) = true →
 sameVal (SV.bool true false) (SV.bool false true)) ∧
 ((!decide ((0 : Int) = (0 : Int)) == x.ok) = false →
 (((True ∧
 True ∧
 True ∧
 True ∧
 (z' = z' ∧
 o' = o' ∧
 (0 : Nat) + y.n ≤ y.n) ∧
 True) ∧
 True) ∧
 True) ∧
 y.ok = false ∧
 (0 : Nat) < (1099511627776 : Nat) ∧
 (decide ((0 : Int) = y.s) = true →
 (decide ((0 : Int) = y.e) = true →
 (decide ((0 : Int) = y.b) = true →
 (decide ([] = y.root) = true →
 ((True ∧
 (z' = z' ∧
 o' = o' ∧
 (0 : Nat) + y.n ≤ y.n) ∧
 True) ∧
 (0 : Nat) < (9223372036854775808 : Nat)) ∧
 (((True ∧
 True ∧
 True ∧
 True ∧
 (z' = z' ∧
 o' = o' ∧
 (0 : Nat) + y.n ≤ y.n) ∧
 True) ∧
 True) ∧
 True) ∧
 sameVal (SV.bool (true && true && false) (decide ((1 : Int) = (0 : Int)) == y.ok)) (SV.bool false true)) ∧
 (decide ([] = y.root) = false →
 (((True ∧
 True ∧
 True ∧
 True ∧
 (z' = z' ∧
 o' = o' ∧
 (0 : Nat) + y.n ≤ y.n) ∧
 True) ∧
 True) ∧
 True) ∧
 sameVal (SV.bool (true && true && false) (decide ((1 : Int) = (0 : Int)) == y.ok)) (SV.bool false true))) ∧
 (decide ((0 : Int) = y.b) = false →
 (((True ∧
 True ∧
 True ∧
 True ∧
 (z' = z' ∧
 o' = o' ∧
 (0 : Nat) + y.n ≤ y.n) ∧
 True) ∧
 True) ∧
 True) ∧
 sameVal (SV.bool (true && true && false) (decide ((1 : Int) = (0 : Int)) == y.ok)) (SV.bool false true))) ∧
 (decide ((0 : Int) = y.e) = false →
 (((True ∧
 True ∧
 True ∧
 True ∧
 (z' = z' ∧
 o' = o' ∧
 (0 : Nat) + y.n ≤ y.n) ∧
 True) ∧
 True) ∧
 True) ∧
 sameVal (SV.bool (true && true && false) (decide ((1 : Int) = (0 : Int)) == y.ok)) (SV.bool false true))) ∧
 (decide ((0 : Int) = y.s) = false →
 (((True ∧
 True ∧
 True ∧
 True ∧
 (z' = z' ∧
 o' = o' ∧
 (0 : Nat) + y.n ≤ y.n) ∧
 True) ∧
 True) ∧
 True) ∧
 sameVal (SV.bool (true && true && false) (decide ((1 : Int) = (0 : Int)) == y.ok)) (SV.bool false true)))))) ∧
 ((decide (numI (itOf x.put (8 : Nat)) = (1 : Int)) == x.more) = false →
 sameVal (SV.bool true false) (SV.bool false true))) ∧
 (decide (cutIn (itOf x.put (7 : Nat)) = x.proof) = false →
 sameVal (SV.bool true false) (SV.bool false true))) ∧
 (decide (cutIn (itOf x.put (5 : Nat)) = x.root) = false →
 sameVal (SV.bool true false) (SV.bool false true))) ∧
 (decide (numI (itOf x.put (4 : Nat)) = x.v) = false →
 sameVal (SV.bool true false) (SV.bool false true))) ∧
 (decide (numI (itOf x.put (3 : Nat)) = x.e) = false →
 sameVal (SV.bool true false) (SV.bool false true))) ∧
 (decide (numI (itOf x.put (2 : Nat)) = x.q) = false →
 sameVal (SV.bool true false) (SV.bool false true))) ∧
 (decide (numI (itOf x.put (1 : Nat)) = x.s) = false →
 sameVal (SV.bool true false) (SV.bool false true))))))) := by kernel_rfl
theorem vcFBack3 (a : Ak) (x : Rp) (y : Nt) (z z' : Bool) (o c o' c' : Nat) (key key' : Option Nat) : VC.holds (backVC true true false a x y z z' o c o' c' key key') = (True ∧
 (((True ∧
 True ∧
 True ∧
 True ∧
 True ∧
 (z = z ∧
 o = o ∧
 (0 : Nat) + x.n ≤ x.n) ∧
 True ∧
 True ∧
 True) ∧
 (True ∧
 True ∧
 True ∧
 True ∧
 (z' = z' ∧
 o' = o' ∧
 (0 : Nat) + y.n ≤ y.n) ∧
 True) ∧
 True) ∧
 True) ∧
 ∀ (x_1 : Bool), ((!x_1) = true →
 sameVal (SV.bool true true) (SV.bool false true)) ∧
 ((!x_1) = false →
 (decide ((50 : Int) < (↑a.key.length : Int)) = true →
 sameVal (SV.bool true true) (SV.bool false true)) ∧
 (decide ((50 : Int) < (↑a.key.length : Int)) = false →
 (decide ((50 : Int) < (↑a.to.length : Int)) = true →
 sameVal (SV.bool true true) (SV.bool false true)) ∧
 (decide ((50 : Int) < (↑a.to.length : Int)) = false →
 True ∧
 a.ok = true ∧
 a.put.length < (1099511627776 : Nat) ∧
 getAskB a.put = true ∧
 ((!(decide (a.k = numI (itOf a.put (1 : Nat))) && (decide (a.s = numI (itOf a.put (2 : Nat))) && (decide (a.q = numI (itOf a.put (3 : Nat))) && (decide (a.a = numI (itOf a.put (4 : Nat)) - (1 : Int)) && (decide (a.key = cutIn (itOf a.put (5 : Nat))) && (decide (a.to = cutIn (itOf a.put (6 : Nat))) && (decide (a.lim = numI (itOf a.put (7 : Nat))) && true)))))))) = true →
 sameVal (SV.bool true false) (SV.bool false true)) ∧
 ((!(decide (a.k = numI (itOf a.put (1 : Nat))) && (decide (a.s = numI (itOf a.put (2 : Nat))) && (decide (a.q = numI (itOf a.put (3 : Nat))) && (decide (a.a = numI (itOf a.put (4 : Nat)) - (1 : Int)) && (decide (a.key = cutIn (itOf a.put (5 : Nat))) && (decide (a.to = cutIn (itOf a.put (6 : Nat))) && (decide (a.lim = numI (itOf a.put (7 : Nat))) && true)))))))) = false →
 a.put.length < (1099511627776 : Nat) ∧
 ((!decide (kindI a.put = (0 : Int))) = true →
 sameVal (SV.bool true false) (SV.bool false true)) ∧
 ((!decide (kindI a.put = (0 : Int))) = false →
 True ∧
 ((!decide ((0 : Int) = (0 : Int)) == a.ok) = true →
 sameVal (SV.bool true false) (SV.bool false true)) ∧
 ((!decide ((0 : Int) = (0 : Int)) == a.ok) = false →
 (((True ∧
 True ∧
 True ∧
 True ∧
 True ∧
 (z = z ∧
 o = o ∧
 (0 : Nat) + x.n ≤ x.n) ∧
 True ∧
 True ∧
 True) ∧
 True) ∧
 True) ∧
 x.ok = true ∧
 x.put.length < (1099511627776 : Nat) ∧
 getReplyB x.put = true ∧
 ∀ (x_8 : Nat), itemsN (cutIn (itOf x.put (6 : Nat))) ≤ x_8 →
 (decide (numI (itOf x.put (1 : Nat)) = x.s) = true →
 (decide (numI (itOf x.put (2 : Nat)) = x.q) = true →
 (decide (numI (itOf x.put (3 : Nat)) = x.e) = true →
 (decide (numI (itOf x.put (4 : Nat)) = x.v) = true →
 (decide (cutIn (itOf x.put (5 : Nat)) = x.root) = true →
 (decide (cutIn (itOf x.put (7 : Nat)) = x.proof) = true →
 ((decide (numI (itOf x.put (8 : Nat)) = (1 : Int)) == x.more) = true →
 (((false = false ∧
 (0 : Nat) + itemsN (cutIn (itOf x.put (6 : Nat))) ≤ itemsN (cutIn (itOf x.put (6 : Nat)))) ∧
 (z = z ∧
 o = o ∧
 (0 : Nat) + x.n ≤ x.n) ∧
 True) ∧
 itemsN (cutIn (itOf x.put (6 : Nat))) < (9223372036854775808 : Nat)) ∧
 ((!sameE { s := (0 : Int), q := (0 : Int), e := (0 : Int), v := (0 : Int), root := [], n := itemsN (cutIn (itOf x.put (6 : Nat))), f := fun (i : Nat) => cutIn (subOf (itOf x.put (6 : Nat)) i (0 : Nat)), g := fun (i : Nat) => cutIn (subOf (itOf x.put (6 : Nat)) i (1 : Nat)), proof := [], more := false : Rp } { s := (0 : Int), q := (0 : Int), e := (0 : Int), v := (0 : Int), root := [], n := x.n, f := x.f, g := x.g, proof := [], more := false : Rp }) = true →
 sameVal (SV.bool true false) (SV.bool false true)) ∧
 ((!sameE { s := (0 : Int), q := (0 : Int), e := (0 : Int), v := (0 : Int), root := [], n := itemsN (cutIn (itOf x.put (6 : Nat))), f := fun (i : Nat) => cutIn (subOf (itOf x.put (6 : Nat)) i (0 : Nat)), g := fun (i : Nat) => cutIn (subOf (itOf x.put (6 : Nat)) i (1 : Nat)), proof := [], more := false : Rp } { s := (0 : Int), q := (0 : Int), e := (0 : Int), v := (0 : Int), root := [], n := x.n, f := x.f, g := x.g, proof := [], more := false : Rp }) = false →
 x.put.length < (1099511627776 : Nat) ∧
 ((!decide (kindI x.put = (1 : Int))) = true →
 sameVal (SV.bool true false) (SV.bool false true)) ∧
 ((!decide (kindI x.put = (1 : Int))) = false →
 (((True ∧
 True ∧
 True ∧
 True ∧
 True ∧
 (z = z ∧
 o = o ∧
 (0 : Nat) + x.n ≤ x.n) ∧
 True ∧
 True ∧
 True) ∧
 True) ∧
 True) ∧
 ((!decide ((0 : Int) = (0 : Int)) == x.ok) = true →
 sameVal (SV.bool true false) (SV.bool false true)) ∧
 ((!decide ((0 : Int) = (0 : Int)) == x.ok) = false →
 (((True ∧
 True ∧
 True ∧
 True ∧
 (z' = z' ∧
 o' = o' ∧
 (0 : Nat) + y.n ≤ y.n) ∧
 True) ∧
 True) ∧
 True) ∧
 y.ok = false ∧
 (0 : Nat) < (1099511627776 : Nat) ∧
 (decide ((0 : Int) = y.s) = true →
 (decide ((0 : Int) = y.e) = true →
 (decide ((0 : Int) = y.b) = true →
 (decide ([] = y.root) = true →
 ((True ∧
 (z' = z' ∧
 o' = o' ∧
 (0 : Nat) + y.n ≤ y.n) ∧
 True) ∧
 (0 : Nat) < (9223372036854775808 : Nat)) ∧
 (((True ∧
 True ∧
 True ∧
 True ∧
 (z' = z' ∧
 o' = o' ∧
 (0 : Nat) + y.n ≤ y.n) ∧
 True) ∧
 True) ∧
 True) ∧
 sameVal (SV.bool (true && true && false) (decide ((1 : Int) = (0 : Int)) == y.ok)) (SV.bool false true)) ∧
 (decide ([] = y.root) = false →
 (((True ∧
 True ∧
 True ∧
 True ∧
 (z' = z' ∧
 o' = o' ∧
 (0 : Nat) + y.n ≤ y.n) ∧
 True) ∧
 True) ∧
 True) ∧
 sameVal (SV.bool (true && true && false) (decide ((1 : Int) = (0 : Int)) == y.ok)) (SV.bool false true))) ∧
 (decide ((0 : Int) = y.b) = false →
 (((True ∧
 True ∧
 True ∧
 True ∧
 (z' = z' ∧
 o' = o' ∧
 (0 : Nat) + y.n ≤ y.n) ∧
 True) ∧
 True) ∧
 True) ∧
 sameVal (SV.bool (true && true && false) (decide ((1 : Int) = (0 : Int)) == y.ok)) (SV.bool false true))) ∧
 (decide ((0 : Int) = y.e) = false →
 (((True ∧
 True ∧
 True ∧
 True ∧
 (z' = z' ∧
 o' = o' ∧
 (0 : Nat) + y.n ≤ y.n) ∧
 True) ∧
 True) ∧
 True) ∧
 sameVal (SV.bool (true && true && false) (decide ((1 : Int) = (0 : Int)) == y.ok)) (SV.bool false true))) ∧
 (decide ((0 : Int) = y.s) = false →
 (((True ∧
 True ∧
 True ∧
 True ∧
 (z' = z' ∧
 o' = o' ∧
 (0 : Nat) + y.n ≤ y.n) ∧
 True) ∧
 True) ∧
 True) ∧
 sameVal (SV.bool (true && true && false) (decide ((1 : Int) = (0 : Int)) == y.ok)) (SV.bool false true)))))) ∧
 ((decide (numI (itOf x.put (8 : Nat)) = (1 : Int)) == x.more) = false →
 sameVal (SV.bool true false) (SV.bool false true))) ∧
 (decide (cutIn (itOf x.put (7 : Nat)) = x.proof) = false →
 sameVal (SV.bool true false) (SV.bool false true))) ∧
 (decide (cutIn (itOf x.put (5 : Nat)) = x.root) = false →
 sameVal (SV.bool true false) (SV.bool false true))) ∧
 (decide (numI (itOf x.put (4 : Nat)) = x.v) = false →
 sameVal (SV.bool true false) (SV.bool false true))) ∧
 (decide (numI (itOf x.put (3 : Nat)) = x.e) = false →
 sameVal (SV.bool true false) (SV.bool false true))) ∧
 (decide (numI (itOf x.put (2 : Nat)) = x.q) = false →
 sameVal (SV.bool true false) (SV.bool false true))) ∧
 (decide (numI (itOf x.put (1 : Nat)) = x.s) = false →
 sameVal (SV.bool true false) (SV.bool false true))))))))) := by kernel_rfl
theorem vcFBack4 (a : Ak) (x : Rp) (y : Nt) (z z' : Bool) (o c o' c' : Nat) (key key' : Option Nat) : VC.holds (backVC false false true a x y z z' o c o' c' key key') = (True ∧
 (((True ∧
 True ∧
 True ∧
 True ∧
 True ∧
 (z = z ∧
 o = o ∧
 (0 : Nat) + x.n ≤ x.n) ∧
 True ∧
 True ∧
 True) ∧
 (True ∧
 True ∧
 True ∧
 True ∧
 (z' = z' ∧
 o' = o' ∧
 (0 : Nat) + y.n ≤ y.n) ∧
 True) ∧
 True) ∧
 True) ∧
 ∀ (x_1 : Bool), ((!x_1) = true →
 sameVal (SV.bool true true) (SV.bool false true)) ∧
 ((!x_1) = false →
 (decide ((50 : Int) < (↑a.key.length : Int)) = true →
 sameVal (SV.bool true true) (SV.bool false true)) ∧
 (decide ((50 : Int) < (↑a.key.length : Int)) = false →
 (decide ((50 : Int) < (↑a.to.length : Int)) = true →
 sameVal (SV.bool true true) (SV.bool false true)) ∧
 (decide ((50 : Int) < (↑a.to.length : Int)) = false →
 True ∧
 a.ok = false ∧
 (0 : Nat) < (1099511627776 : Nat) ∧
 True ∧
 ((!decide ((1 : Int) = (0 : Int)) == a.ok) = true →
 sameVal (SV.bool true false) (SV.bool false true)) ∧
 ((!decide ((1 : Int) = (0 : Int)) == a.ok) = false →
 (((True ∧
 True ∧
 True ∧
 True ∧
 True ∧
 (z = z ∧
 o = o ∧
 (0 : Nat) + x.n ≤ x.n) ∧
 True ∧
 True ∧
 True) ∧
 True) ∧
 True) ∧
 x.ok = false ∧
 (0 : Nat) < (1099511627776 : Nat) ∧
 (decide ((0 : Int) = x.s) = true →
 (decide ((0 : Int) = x.q) = true →
 (decide ((0 : Int) = x.e) = true →
 (decide ((0 : Int) = x.v) = true →
 (decide ([] = x.root) = true →
 (decide ([] = x.proof) = true →
 ((false == x.more) = true →
 ((True ∧
 (z = z ∧
 o = o ∧
 (0 : Nat) + x.n ≤ x.n) ∧
 True) ∧
 (0 : Nat) < (9223372036854775808 : Nat)) ∧
 (((True ∧
 True ∧
 True ∧
 True ∧
 True ∧
 (z = z ∧
 o = o ∧
 (0 : Nat) + x.n ≤ x.n) ∧
 True ∧
 True ∧
 True) ∧
 True) ∧
 True) ∧
 ((!decide ((1 : Int) = (0 : Int)) == x.ok) = true →
 sameVal (SV.bool true false) (SV.bool false true)) ∧
 ((!decide ((1 : Int) = (0 : Int)) == x.ok) = false →
 (((True ∧
 True ∧
 True ∧
 True ∧
 (z' = z' ∧
 o' = o' ∧
 (0 : Nat) + y.n ≤ y.n) ∧
 True) ∧
 True) ∧
 True) ∧
 y.ok = true ∧
 y.put.length < (1099511627776 : Nat) ∧
 getNoticeB y.put = true ∧
 ∀ (x : Nat), itemsN (cutIn (itOf y.put (5 : Nat))) ≤ x →
 (decide (numI (itOf y.put (1 : Nat)) = y.s) = true →
 (decide (numI (itOf y.put (2 : Nat)) = y.e) = true →
 (decide (numI (itOf y.put (3 : Nat)) = y.b) = true →
 (decide (cutIn (itOf y.put (4 : Nat)) = y.root) = true →
 (((false = false ∧
 (0 : Nat) + itemsN (cutIn (itOf y.put (5 : Nat))) ≤ itemsN (cutIn (itOf y.put (5 : Nat)))) ∧
 (z' = z' ∧
 o' = o' ∧
 (0 : Nat) + y.n ≤ y.n) ∧
 True) ∧
 itemsN (cutIn (itOf y.put (5 : Nat))) < (9223372036854775808 : Nat)) ∧
 (sameC { s := (0 : Int), e := (0 : Int), b := (0 : Int), root := [], n := itemsN (cutIn (itOf y.put (5 : Nat))), f := fun (i : Nat) => cutIn (subOf (itOf y.put (5 : Nat)) i (0 : Nat)), g := fun (i : Nat) => cutIn (subOf (itOf y.put (5 : Nat)) i (1 : Nat)), h := fun (i : Nat) => decide (numI (subOf (itOf y.put (5 : Nat)) i (2 : Nat)) = (1 : Int)) : Nt } { s := (0 : Int), e := (0 : Int), b := (0 : Int), root := [], n := y.n, f := y.f, g := y.g, h := y.h : Nt } = true →
 y.put.length < (1099511627776 : Nat) ∧
 (decide (kindI y.put = (2 : Int)) = true →
 (((True ∧
 True ∧
 True ∧
 True ∧
 (z' = z' ∧
 o' = o' ∧
 (0 : Nat) + y.n ≤ y.n) ∧
 True) ∧
 True) ∧
 True) ∧
 sameVal (SV.bool (true && true && false) (decide ((0 : Int) = (0 : Int)) == y.ok)) (SV.bool false true)) ∧
 (decide (kindI y.put = (2 : Int)) = false →
 sameVal (SV.bool true false) (SV.bool false true))) ∧
 (sameC { s := (0 : Int), e := (0 : Int), b := (0 : Int), root := [], n := itemsN (cutIn (itOf y.put (5 : Nat))), f := fun (i : Nat) => cutIn (subOf (itOf y.put (5 : Nat)) i (0 : Nat)), g := fun (i : Nat) => cutIn (subOf (itOf y.put (5 : Nat)) i (1 : Nat)), h := fun (i : Nat) => decide (numI (subOf (itOf y.put (5 : Nat)) i (2 : Nat)) = (1 : Int)) : Nt } { s := (0 : Int), e := (0 : Int), b := (0 : Int), root := [], n := y.n, f := y.f, g := y.g, h := y.h : Nt } = false →
 sameVal (SV.bool true false) (SV.bool false true))) ∧
 (decide (cutIn (itOf y.put (4 : Nat)) = y.root) = false →
 sameVal (SV.bool true false) (SV.bool false true))) ∧
 (decide (numI (itOf y.put (3 : Nat)) = y.b) = false →
 sameVal (SV.bool true false) (SV.bool false true))) ∧
 (decide (numI (itOf y.put (2 : Nat)) = y.e) = false →
 sameVal (SV.bool true false) (SV.bool false true))) ∧
 (decide (numI (itOf y.put (1 : Nat)) = y.s) = false →
 sameVal (SV.bool true false) (SV.bool false true)))) ∧
 ((false == x.more) = false →
 (((True ∧
 True ∧
 True ∧
 True ∧
 True ∧
 (z = z ∧
 o = o ∧
 (0 : Nat) + x.n ≤ x.n) ∧
 True ∧
 True ∧
 True) ∧
 True) ∧
 True) ∧
 ((!decide ((1 : Int) = (0 : Int)) == x.ok) = true →
 sameVal (SV.bool true false) (SV.bool false true)) ∧
 ((!decide ((1 : Int) = (0 : Int)) == x.ok) = false →
 (((True ∧
 True ∧
 True ∧
 True ∧
 (z' = z' ∧
 o' = o' ∧
 (0 : Nat) + y.n ≤ y.n) ∧
 True) ∧
 True) ∧
 True) ∧
 y.ok = true ∧
 y.put.length < (1099511627776 : Nat) ∧
 getNoticeB y.put = true ∧
 ∀ (x : Nat), itemsN (cutIn (itOf y.put (5 : Nat))) ≤ x →
 (decide (numI (itOf y.put (1 : Nat)) = y.s) = true →
 (decide (numI (itOf y.put (2 : Nat)) = y.e) = true →
 (decide (numI (itOf y.put (3 : Nat)) = y.b) = true →
 (decide (cutIn (itOf y.put (4 : Nat)) = y.root) = true →
 (((false = false ∧
 (0 : Nat) + itemsN (cutIn (itOf y.put (5 : Nat))) ≤ itemsN (cutIn (itOf y.put (5 : Nat)))) ∧
 (z' = z' ∧
 o' = o' ∧
 (0 : Nat) + y.n ≤ y.n) ∧
 True) ∧
 itemsN (cutIn (itOf y.put (5 : Nat))) < (9223372036854775808 : Nat)) ∧
 (sameC { s := (0 : Int), e := (0 : Int), b := (0 : Int), root := [], n := itemsN (cutIn (itOf y.put (5 : Nat))), f := fun (i : Nat) => cutIn (subOf (itOf y.put (5 : Nat)) i (0 : Nat)), g := fun (i : Nat) => cutIn (subOf (itOf y.put (5 : Nat)) i (1 : Nat)), h := fun (i : Nat) => decide (numI (subOf (itOf y.put (5 : Nat)) i (2 : Nat)) = (1 : Int)) : Nt } { s := (0 : Int), e := (0 : Int), b := (0 : Int), root := [], n := y.n, f := y.f, g := y.g, h := y.h : Nt } = true →
 y.put.length < (1099511627776 : Nat) ∧
 (decide (kindI y.put = (2 : Int)) = true →
 (((True ∧
 True ∧
 True ∧
 True ∧
 (z' = z' ∧
 o' = o' ∧
 (0 : Nat) + y.n ≤ y.n) ∧
 True) ∧
 True) ∧
 True) ∧
 sameVal (SV.bool (true && true && false) (decide ((0 : Int) = (0 : Int)) == y.ok)) (SV.bool false true)) ∧
 (decide (kindI y.put = (2 : Int)) = false →
 sameVal (SV.bool true false) (SV.bool false true))) ∧
 (sameC { s := (0 : Int), e := (0 : Int), b := (0 : Int), root := [], n := itemsN (cutIn (itOf y.put (5 : Nat))), f := fun (i : Nat) => cutIn (subOf (itOf y.put (5 : Nat)) i (0 : Nat)), g := fun (i : Nat) => cutIn (subOf (itOf y.put (5 : Nat)) i (1 : Nat)), h := fun (i : Nat) => decide (numI (subOf (itOf y.put (5 : Nat)) i (2 : Nat)) = (1 : Int)) : Nt } { s := (0 : Int), e := (0 : Int), b := (0 : Int), root := [], n := y.n, f := y.f, g := y.g, h := y.h : Nt } = false →
 sameVal (SV.bool true false) (SV.bool false true))) ∧
 (decide (cutIn (itOf y.put (4 : Nat)) = y.root) = false →
 sameVal (SV.bool true false) (SV.bool false true))) ∧
 (decide (numI (itOf y.put (3 : Nat)) = y.b) = false →
 sameVal (SV.bool true false) (SV.bool false true))) ∧
 (decide (numI (itOf y.put (2 : Nat)) = y.e) = false →
 sameVal (SV.bool true false) (SV.bool false true))) ∧
 (decide (numI (itOf y.put (1 : Nat)) = y.s) = false →
 sameVal (SV.bool true false) (SV.bool false true))))) ∧
 (decide ([] = x.proof) = false →
 (((True ∧
 True ∧
 True ∧
 True ∧
 True ∧
 (z = z ∧
 o = o ∧
 (0 : Nat) + x.n ≤ x.n) ∧
 True ∧
 True ∧
 True) ∧
 True) ∧
 True) ∧
 ((!decide ((1 : Int) = (0 : Int)) == x.ok) = true →
 sameVal (SV.bool true false) (SV.bool false true)) ∧
 ((!decide ((1 : Int) = (0 : Int)) == x.ok) = false →
 (((True ∧
 True ∧
 True ∧
 True ∧
 (z' = z' ∧
 o' = o' ∧
 (0 : Nat) + y.n ≤ y.n) ∧
 True) ∧
 True) ∧
 True) ∧
 y.ok = true ∧
 y.put.length < (1099511627776 : Nat) ∧
 getNoticeB y.put = true ∧
 ∀ (x : Nat), itemsN (cutIn (itOf y.put (5 : Nat))) ≤ x →
 (decide (numI (itOf y.put (1 : Nat)) = y.s) = true →
 (decide (numI (itOf y.put (2 : Nat)) = y.e) = true →
 (decide (numI (itOf y.put (3 : Nat)) = y.b) = true →
 (decide (cutIn (itOf y.put (4 : Nat)) = y.root) = true →
 (((false = false ∧
 (0 : Nat) + itemsN (cutIn (itOf y.put (5 : Nat))) ≤ itemsN (cutIn (itOf y.put (5 : Nat)))) ∧
 (z' = z' ∧
 o' = o' ∧
 (0 : Nat) + y.n ≤ y.n) ∧
 True) ∧
 itemsN (cutIn (itOf y.put (5 : Nat))) < (9223372036854775808 : Nat)) ∧
 (sameC { s := (0 : Int), e := (0 : Int), b := (0 : Int), root := [], n := itemsN (cutIn (itOf y.put (5 : Nat))), f := fun (i : Nat) => cutIn (subOf (itOf y.put (5 : Nat)) i (0 : Nat)), g := fun (i : Nat) => cutIn (subOf (itOf y.put (5 : Nat)) i (1 : Nat)), h := fun (i : Nat) => decide (numI (subOf (itOf y.put (5 : Nat)) i (2 : Nat)) = (1 : Int)) : Nt } { s := (0 : Int), e := (0 : Int), b := (0 : Int), root := [], n := y.n, f := y.f, g := y.g, h := y.h : Nt } = true →
 y.put.length < (1099511627776 : Nat) ∧
 (decide (kindI y.put = (2 : Int)) = true →
 (((True ∧
 True ∧
 True ∧
 True ∧
 (z' = z' ∧
 o' = o' ∧
 (0 : Nat) + y.n ≤ y.n) ∧
 True) ∧
 True) ∧
 True) ∧
 sameVal (SV.bool (true && true && false) (decide ((0 : Int) = (0 : Int)) == y.ok)) (SV.bool false true)) ∧
 (decide (kindI y.put = (2 : Int)) = false →
 sameVal (SV.bool true false) (SV.bool false true))) ∧
 (sameC { s := (0 : Int), e := (0 : Int), b := (0 : Int), root := [], n := itemsN (cutIn (itOf y.put (5 : Nat))), f := fun (i : Nat) => cutIn (subOf (itOf y.put (5 : Nat)) i (0 : Nat)), g := fun (i : Nat) => cutIn (subOf (itOf y.put (5 : Nat)) i (1 : Nat)), h := fun (i : Nat) => decide (numI (subOf (itOf y.put (5 : Nat)) i (2 : Nat)) = (1 : Int)) : Nt } { s := (0 : Int), e := (0 : Int), b := (0 : Int), root := [], n := y.n, f := y.f, g := y.g, h := y.h : Nt } = false →
 sameVal (SV.bool true false) (SV.bool false true))) ∧
 (decide (cutIn (itOf y.put (4 : Nat)) = y.root) = false →
 sameVal (SV.bool true false) (SV.bool false true))) ∧
 (decide (numI (itOf y.put (3 : Nat)) = y.b) = false →
 sameVal (SV.bool true false) (SV.bool false true))) ∧
 (decide (numI (itOf y.put (2 : Nat)) = y.e) = false →
 sameVal (SV.bool true false) (SV.bool false true))) ∧
 (decide (numI (itOf y.put (1 : Nat)) = y.s) = false →
 sameVal (SV.bool true false) (SV.bool false true))))) ∧
 (decide ([] = x.root) = false →
 (((True ∧
 True ∧
 True ∧
 True ∧
 True ∧
 (z = z ∧
 o = o ∧
 (0 : Nat) + x.n ≤ x.n) ∧
 True ∧
 True ∧
 True) ∧
 True) ∧
 True) ∧
 ((!decide ((1 : Int) = (0 : Int)) == x.ok) = true →
 sameVal (SV.bool true false) (SV.bool false true)) ∧
 ((!decide ((1 : Int) = (0 : Int)) == x.ok) = false →
 (((True ∧
 True ∧
 True ∧
 True ∧
 (z' = z' ∧
 o' = o' ∧
 (0 : Nat) + y.n ≤ y.n) ∧
 True) ∧
 True) ∧
 True) ∧
 y.ok = true ∧
 y.put.length < (1099511627776 : Nat) ∧
 getNoticeB y.put = true ∧
 ∀ (x : Nat), itemsN (cutIn (itOf y.put (5 : Nat))) ≤ x →
 (decide (numI (itOf y.put (1 : Nat)) = y.s) = true →
 (decide (numI (itOf y.put (2 : Nat)) = y.e) = true →
 (decide (numI (itOf y.put (3 : Nat)) = y.b) = true →
 (decide (cutIn (itOf y.put (4 : Nat)) = y.root) = true →
 (((false = false ∧
 (0 : Nat) + itemsN (cutIn (itOf y.put (5 : Nat))) ≤ itemsN (cutIn (itOf y.put (5 : Nat)))) ∧
 (z' = z' ∧
 o' = o' ∧
 (0 : Nat) + y.n ≤ y.n) ∧
 True) ∧
 itemsN (cutIn (itOf y.put (5 : Nat))) < (9223372036854775808 : Nat)) ∧
 (sameC { s := (0 : Int), e := (0 : Int), b := (0 : Int), root := [], n := itemsN (cutIn (itOf y.put (5 : Nat))), f := fun (i : Nat) => cutIn (subOf (itOf y.put (5 : Nat)) i (0 : Nat)), g := fun (i : Nat) => cutIn (subOf (itOf y.put (5 : Nat)) i (1 : Nat)), h := fun (i : Nat) => decide (numI (subOf (itOf y.put (5 : Nat)) i (2 : Nat)) = (1 : Int)) : Nt } { s := (0 : Int), e := (0 : Int), b := (0 : Int), root := [], n := y.n, f := y.f, g := y.g, h := y.h : Nt } = true →
 y.put.length < (1099511627776 : Nat) ∧
 (decide (kindI y.put = (2 : Int)) = true →
 (((True ∧
 True ∧
 True ∧
 True ∧
 (z' = z' ∧
 o' = o' ∧
 (0 : Nat) + y.n ≤ y.n) ∧
 True) ∧
 True) ∧
 True) ∧
 sameVal (SV.bool (true && true && false) (decide ((0 : Int) = (0 : Int)) == y.ok)) (SV.bool false true)) ∧
 (decide (kindI y.put = (2 : Int)) = false →
 sameVal (SV.bool true false) (SV.bool false true))) ∧
 (sameC { s := (0 : Int), e := (0 : Int), b := (0 : Int), root := [], n := itemsN (cutIn (itOf y.put (5 : Nat))), f := fun (i : Nat) => cutIn (subOf (itOf y.put (5 : Nat)) i (0 : Nat)), g := fun (i : Nat) => cutIn (subOf (itOf y.put (5 : Nat)) i (1 : Nat)), h := fun (i : Nat) => decide (numI (subOf (itOf y.put (5 : Nat)) i (2 : Nat)) = (1 : Int)) : Nt } { s := (0 : Int), e := (0 : Int), b := (0 : Int), root := [], n := y.n, f := y.f, g := y.g, h := y.h : Nt } = false →
 sameVal (SV.bool true false) (SV.bool false true))) ∧
 (decide (cutIn (itOf y.put (4 : Nat)) = y.root) = false →
 sameVal (SV.bool true false) (SV.bool false true))) ∧
 (decide (numI (itOf y.put (3 : Nat)) = y.b) = false →
 sameVal (SV.bool true false) (SV.bool false true))) ∧
 (decide (numI (itOf y.put (2 : Nat)) = y.e) = false →
 sameVal (SV.bool true false) (SV.bool false true))) ∧
 (decide (numI (itOf y.put (1 : Nat)) = y.s) = false →
 sameVal (SV.bool true false) (SV.bool false true))))) ∧
 (decide ((0 : Int) = x.v) = false →
 (((True ∧
 True ∧
 True ∧
 True ∧
 True ∧
 (z = z ∧
 o = o ∧
 (0 : Nat) + x.n ≤ x.n) ∧
 True ∧
 True ∧
 True) ∧
 True) ∧
 True) ∧
 ((!decide ((1 : Int) = (0 : Int)) == x.ok) = true →
 sameVal (SV.bool true false) (SV.bool false true)) ∧
 ((!decide ((1 : Int) = (0 : Int)) == x.ok) = false →
 (((True ∧
 True ∧
 True ∧
 True ∧
 (z' = z' ∧
 o' = o' ∧
 (0 : Nat) + y.n ≤ y.n) ∧
 True) ∧
 True) ∧
 True) ∧
 y.ok = true ∧
 y.put.length < (1099511627776 : Nat) ∧
 getNoticeB y.put = true ∧
 ∀ (x : Nat), itemsN (cutIn (itOf y.put (5 : Nat))) ≤ x →
 (decide (numI (itOf y.put (1 : Nat)) = y.s) = true →
 (decide (numI (itOf y.put (2 : Nat)) = y.e) = true →
 (decide (numI (itOf y.put (3 : Nat)) = y.b) = true →
 (decide (cutIn (itOf y.put (4 : Nat)) = y.root) = true →
 (((false = false ∧
 (0 : Nat) + itemsN (cutIn (itOf y.put (5 : Nat))) ≤ itemsN (cutIn (itOf y.put (5 : Nat)))) ∧
 (z' = z' ∧
 o' = o' ∧
 (0 : Nat) + y.n ≤ y.n) ∧
 True) ∧
 itemsN (cutIn (itOf y.put (5 : Nat))) < (9223372036854775808 : Nat)) ∧
 (sameC { s := (0 : Int), e := (0 : Int), b := (0 : Int), root := [], n := itemsN (cutIn (itOf y.put (5 : Nat))), f := fun (i : Nat) => cutIn (subOf (itOf y.put (5 : Nat)) i (0 : Nat)), g := fun (i : Nat) => cutIn (subOf (itOf y.put (5 : Nat)) i (1 : Nat)), h := fun (i : Nat) => decide (numI (subOf (itOf y.put (5 : Nat)) i (2 : Nat)) = (1 : Int)) : Nt } { s := (0 : Int), e := (0 : Int), b := (0 : Int), root := [], n := y.n, f := y.f, g := y.g, h := y.h : Nt } = true →
 y.put.length < (1099511627776 : Nat) ∧
 (decide (kindI y.put = (2 : Int)) = true →
 (((True ∧
 True ∧
 True ∧
 True ∧
 (z' = z' ∧
 o' = o' ∧
 (0 : Nat) + y.n ≤ y.n) ∧
 True) ∧
 True) ∧
 True) ∧
 sameVal (SV.bool (true && true && false) (decide ((0 : Int) = (0 : Int)) == y.ok)) (SV.bool false true)) ∧
 (decide (kindI y.put = (2 : Int)) = false →
 sameVal (SV.bool true false) (SV.bool false true))) ∧
 (sameC { s := (0 : Int), e := (0 : Int), b := (0 : Int), root := [], n := itemsN (cutIn (itOf y.put (5 : Nat))), f := fun (i : Nat) => cutIn (subOf (itOf y.put (5 : Nat)) i (0 : Nat)), g := fun (i : Nat) => cutIn (subOf (itOf y.put (5 : Nat)) i (1 : Nat)), h := fun (i : Nat) => decide (numI (subOf (itOf y.put (5 : Nat)) i (2 : Nat)) = (1 : Int)) : Nt } { s := (0 : Int), e := (0 : Int), b := (0 : Int), root := [], n := y.n, f := y.f, g := y.g, h := y.h : Nt } = false →
 sameVal (SV.bool true false) (SV.bool false true))) ∧
 (decide (cutIn (itOf y.put (4 : Nat)) = y.root) = false →
 sameVal (SV.bool true false) (SV.bool false true))) ∧
 (decide (numI (itOf y.put (3 : Nat)) = y.b) = false →
 sameVal (SV.bool true false) (SV.bool false true))) ∧
 (decide (numI (itOf y.put (2 : Nat)) = y.e) = false →
 sameVal (SV.bool true false) (SV.bool false true))) ∧
 (decide (numI (itOf y.put (1 : Nat)) = y.s) = false →
 sameVal (SV.bool true false) (SV.bool false true))))) ∧
 (decide ((0 : Int) = x.e) = false →
 (((True ∧
 True ∧
 True ∧
 True ∧
 True ∧
 (z = z ∧
 o = o ∧
 (0 : Nat) + x.n ≤ x.n) ∧
 True ∧
 True ∧
 True) ∧
 True) ∧
 True) ∧
 ((!decide ((1 : Int) = (0 : Int)) == x.ok) = true →
 sameVal (SV.bool true false) (SV.bool false true)) ∧
 ((!decide ((1 : Int) = (0 : Int)) == x.ok) = false →
 (((True ∧
 True ∧
 True ∧
 True ∧
 (z' = z' ∧
 o' = o' ∧
 (0 : Nat) + y.n ≤ y.n) ∧
 True) ∧
 True) ∧
 True) ∧
 y.ok = true ∧
 y.put.length < (1099511627776 : Nat) ∧
 getNoticeB y.put = true ∧
 ∀ (x : Nat), itemsN (cutIn (itOf y.put (5 : Nat))) ≤ x →
 (decide (numI (itOf y.put (1 : Nat)) = y.s) = true →
 (decide (numI (itOf y.put (2 : Nat)) = y.e) = true →
 (decide (numI (itOf y.put (3 : Nat)) = y.b) = true →
 (decide (cutIn (itOf y.put (4 : Nat)) = y.root) = true →
 (((false = false ∧
 (0 : Nat) + itemsN (cutIn (itOf y.put (5 : Nat))) ≤ itemsN (cutIn (itOf y.put (5 : Nat)))) ∧
 (z' = z' ∧
 o' = o' ∧
 (0 : Nat) + y.n ≤ y.n) ∧
 True) ∧
 itemsN (cutIn (itOf y.put (5 : Nat))) < (9223372036854775808 : Nat)) ∧
 (sameC { s := (0 : Int), e := (0 : Int), b := (0 : Int), root := [], n := itemsN (cutIn (itOf y.put (5 : Nat))), f := fun (i : Nat) => cutIn (subOf (itOf y.put (5 : Nat)) i (0 : Nat)), g := fun (i : Nat) => cutIn (subOf (itOf y.put (5 : Nat)) i (1 : Nat)), h := fun (i : Nat) => decide (numI (subOf (itOf y.put (5 : Nat)) i (2 : Nat)) = (1 : Int)) : Nt } { s := (0 : Int), e := (0 : Int), b := (0 : Int), root := [], n := y.n, f := y.f, g := y.g, h := y.h : Nt } = true →
 y.put.length < (1099511627776 : Nat) ∧
 (decide (kindI y.put = (2 : Int)) = true →
 (((True ∧
 True ∧
 True ∧
 True ∧
 (z' = z' ∧
 o' = o' ∧
 (0 : Nat) + y.n ≤ y.n) ∧
 True) ∧
 True) ∧
 True) ∧
 sameVal (SV.bool (true && true && false) (decide ((0 : Int) = (0 : Int)) == y.ok)) (SV.bool false true)) ∧
 (decide (kindI y.put = (2 : Int)) = false →
 sameVal (SV.bool true false) (SV.bool false true))) ∧
 (sameC { s := (0 : Int), e := (0 : Int), b := (0 : Int), root := [], n := itemsN (cutIn (itOf y.put (5 : Nat))), f := fun (i : Nat) => cutIn (subOf (itOf y.put (5 : Nat)) i (0 : Nat)), g := fun (i : Nat) => cutIn (subOf (itOf y.put (5 : Nat)) i (1 : Nat)), h := fun (i : Nat) => decide (numI (subOf (itOf y.put (5 : Nat)) i (2 : Nat)) = (1 : Int)) : Nt } { s := (0 : Int), e := (0 : Int), b := (0 : Int), root := [], n := y.n, f := y.f, g := y.g, h := y.h : Nt } = false →
 sameVal (SV.bool true false) (SV.bool false true))) ∧
 (decide (cutIn (itOf y.put (4 : Nat)) = y.root) = false →
 sameVal (SV.bool true false) (SV.bool false true))) ∧
 (decide (numI (itOf y.put (3 : Nat)) = y.b) = false →
 sameVal (SV.bool true false) (SV.bool false true))) ∧
 (decide (numI (itOf y.put (2 : Nat)) = y.e) = false →
 sameVal (SV.bool true false) (SV.bool false true))) ∧
 (decide (numI (itOf y.put (1 : Nat)) = y.s) = false →
 sameVal (SV.bool true false) (SV.bool false true))))) ∧
 (decide ((0 : Int) = x.q) = false →
 (((True ∧
 True ∧
 True ∧
 True ∧
 True ∧
 (z = z ∧
 o = o ∧
 (0 : Nat) + x.n ≤ x.n) ∧
 True ∧
 True ∧
 True) ∧
 True) ∧
 True) ∧
 ((!decide ((1 : Int) = (0 : Int)) == x.ok) = true →
 sameVal (SV.bool true false) (SV.bool false true)) ∧
 ((!decide ((1 : Int) = (0 : Int)) == x.ok) = false →
 (((True ∧
 True ∧
 True ∧
 True ∧
 (z' = z' ∧
 o' = o' ∧
 (0 : Nat) + y.n ≤ y.n) ∧
 True) ∧
 True) ∧
 True) ∧
 y.ok = true ∧
 y.put.length < (1099511627776 : Nat) ∧
 getNoticeB y.put = true ∧
 ∀ (x : Nat), itemsN (cutIn (itOf y.put (5 : Nat))) ≤ x →
 (decide (numI (itOf y.put (1 : Nat)) = y.s) = true →
 (decide (numI (itOf y.put (2 : Nat)) = y.e) = true →
 (decide (numI (itOf y.put (3 : Nat)) = y.b) = true →
 (decide (cutIn (itOf y.put (4 : Nat)) = y.root) = true →
 (((false = false ∧
 (0 : Nat) + itemsN (cutIn (itOf y.put (5 : Nat))) ≤ itemsN (cutIn (itOf y.put (5 : Nat)))) ∧
 (z' = z' ∧
 o' = o' ∧
 (0 : Nat) + y.n ≤ y.n) ∧
 True) ∧
 itemsN (cutIn (itOf y.put (5 : Nat))) < (9223372036854775808 : Nat)) ∧
 (sameC { s := (0 : Int), e := (0 : Int), b := (0 : Int), root := [], n := itemsN (cutIn (itOf y.put (5 : Nat))), f := fun (i : Nat) => cutIn (subOf (itOf y.put (5 : Nat)) i (0 : Nat)), g := fun (i : Nat) => cutIn (subOf (itOf y.put (5 : Nat)) i (1 : Nat)), h := fun (i : Nat) => decide (numI (subOf (itOf y.put (5 : Nat)) i (2 : Nat)) = (1 : Int)) : Nt } { s := (0 : Int), e := (0 : Int), b := (0 : Int), root := [], n := y.n, f := y.f, g := y.g, h := y.h : Nt } = true →
 y.put.length < (1099511627776 : Nat) ∧
 (decide (kindI y.put = (2 : Int)) = true →
 (((True ∧
 True ∧
 True ∧
 True ∧
 (z' = z' ∧
 o' = o' ∧
 (0 : Nat) + y.n ≤ y.n) ∧
 True) ∧
 True) ∧
 True) ∧
 sameVal (SV.bool (true && true && false) (decide ((0 : Int) = (0 : Int)) == y.ok)) (SV.bool false true)) ∧
 (decide (kindI y.put = (2 : Int)) = false →
 sameVal (SV.bool true false) (SV.bool false true))) ∧
 (sameC { s := (0 : Int), e := (0 : Int), b := (0 : Int), root := [], n := itemsN (cutIn (itOf y.put (5 : Nat))), f := fun (i : Nat) => cutIn (subOf (itOf y.put (5 : Nat)) i (0 : Nat)), g := fun (i : Nat) => cutIn (subOf (itOf y.put (5 : Nat)) i (1 : Nat)), h := fun (i : Nat) => decide (numI (subOf (itOf y.put (5 : Nat)) i (2 : Nat)) = (1 : Int)) : Nt } { s := (0 : Int), e := (0 : Int), b := (0 : Int), root := [], n := y.n, f := y.f, g := y.g, h := y.h : Nt } = false →
 sameVal (SV.bool true false) (SV.bool false true))) ∧
 (decide (cutIn (itOf y.put (4 : Nat)) = y.root) = false →
 sameVal (SV.bool true false) (SV.bool false true))) ∧
 (decide (numI (itOf y.put (3 : Nat)) = y.b) = false →
 sameVal (SV.bool true false) (SV.bool false true))) ∧
 (decide (numI (itOf y.put (2 : Nat)) = y.e) = false →
 sameVal (SV.bool true false) (SV.bool false true))) ∧
 (decide (numI (itOf y.put (1 : Nat)) = y.s) = false →
 sameVal (SV.bool true false) (SV.bool false true))))) ∧
 (decide ((0 : Int) = x.s) = false →
 (((True ∧
 True ∧
 True ∧
 True ∧
 True ∧
 (z = z ∧
 o = o ∧
 (0 : Nat) + x.n ≤ x.n) ∧
 True ∧
 True ∧
 True) ∧
 True) ∧
 True) ∧
 ((!decide ((1 : Int) = (0 : Int)) == x.ok) = true →
 sameVal (SV.bool true false) (SV.bool false true)) ∧
 ((!decide ((1 : Int) = (0 : Int)) == x.ok) = false →
 (((True ∧
 True ∧
 True ∧
 True ∧
 (z' = z' ∧
 o' = o' ∧
 (0 : Nat) + y.n ≤ y.n) ∧
 True) ∧
 True) ∧
 True) ∧
 y.ok = true ∧
 y.put.length < (1099511627776 : Nat) ∧
 getNoticeB y.put = true ∧
 ∀ (x : Nat), itemsN (cutIn (itOf y.put (5 : Nat))) ≤ x →
 (decide (numI (itOf y.put (1 : Nat)) = y.s) = true →
 (decide (numI (itOf y.put (2 : Nat)) = y.e) = true →
 (decide (numI (itOf y.put (3 : Nat)) = y.b) = true →
 (decide (cutIn (itOf y.put (4 : Nat)) = y.root) = true →
 (((false = false ∧
 (0 : Nat) + itemsN (cutIn (itOf y.put (5 : Nat))) ≤ itemsN (cutIn (itOf y.put (5 : Nat)))) ∧
 (z' = z' ∧
 o' = o' ∧
 (0 : Nat) + y.n ≤ y.n) ∧
 True) ∧
 itemsN (cutIn (itOf y.put (5 : Nat))) < (9223372036854775808 : Nat)) ∧
 (sameC { s := (0 : Int), e := (0 : Int), b := (0 : Int), root := [], n := itemsN (cutIn (itOf y.put (5 : Nat))), f := fun (i : Nat) => cutIn (subOf (itOf y.put (5 : Nat)) i (0 : Nat)), g := fun (i : Nat) => cutIn (subOf (itOf y.put (5 : Nat)) i (1 : Nat)), h := fun (i : Nat) => decide (numI (subOf (itOf y.put (5 : Nat)) i (2 : Nat)) = (1 : Int)) : Nt } { s := (0 : Int), e := (0 : Int), b := (0 : Int), root := [], n := y.n, f := y.f, g := y.g, h := y.h : Nt } = true →
 y.put.length < (1099511627776 : Nat) ∧
 (decide (kindI y.put = (2 : Int)) = true →
 (((True ∧
 True ∧
 True ∧
 True ∧
 (z' = z' ∧
 o' = o' ∧
 (0 : Nat) + y.n ≤ y.n) ∧
 True) ∧
 True) ∧
 True) ∧
 sameVal (SV.bool (true && true && false) (decide ((0 : Int) = (0 : Int)) == y.ok)) (SV.bool false true)) ∧
 (decide (kindI y.put = (2 : Int)) = false →
 sameVal (SV.bool true false) (SV.bool false true))) ∧
 (sameC { s := (0 : Int), e := (0 : Int), b := (0 : Int), root := [], n := itemsN (cutIn (itOf y.put (5 : Nat))), f := fun (i : Nat) => cutIn (subOf (itOf y.put (5 : Nat)) i (0 : Nat)), g := fun (i : Nat) => cutIn (subOf (itOf y.put (5 : Nat)) i (1 : Nat)), h := fun (i : Nat) => decide (numI (subOf (itOf y.put (5 : Nat)) i (2 : Nat)) = (1 : Int)) : Nt } { s := (0 : Int), e := (0 : Int), b := (0 : Int), root := [], n := y.n, f := y.f, g := y.g, h := y.h : Nt } = false →
 sameVal (SV.bool true false) (SV.bool false true))) ∧
 (decide (cutIn (itOf y.put (4 : Nat)) = y.root) = false →
 sameVal (SV.bool true false) (SV.bool false true))) ∧
 (decide (numI (itOf y.put (3 : Nat)) = y.b) = false →
 sameVal (SV.bool true false) (SV.bool false true))) ∧
 (decide (numI (itOf y.put (2 : Nat)) = y.e) = false →
 sameVal (SV.bool true false) (SV.bool false true))) ∧
 (decide (numI (itOf y.put (1 : Nat)) = y.s) = false →
 sameVal (SV.bool true false) (SV.bool false true))))))))) := by kernel_rfl
theorem vcFBack5 (a : Ak) (x : Rp) (y : Nt) (z z' : Bool) (o c o' c' : Nat) (key key' : Option Nat) : VC.holds (backVC true false true a x y z z' o c o' c' key key') = (True ∧
 (((True ∧
 True ∧
 True ∧
 True ∧
 True ∧
 (z = z ∧
 o = o ∧
 (0 : Nat) + x.n ≤ x.n) ∧
 True ∧
 True ∧
 True) ∧
 (True ∧
 True ∧
 True ∧
 True ∧
 (z' = z' ∧
 o' = o' ∧
 (0 : Nat) + y.n ≤ y.n) ∧
 True) ∧
 True) ∧
 True) ∧
 ∀ (x_1 : Bool), ((!x_1) = true →
 sameVal (SV.bool true true) (SV.bool false true)) ∧
 ((!x_1) = false →
 (decide ((50 : Int) < (↑a.key.length : Int)) = true →
 sameVal (SV.bool true true) (SV.bool false true)) ∧
 (decide ((50 : Int) < (↑a.key.length : Int)) = false →
 (decide ((50 : Int) < (↑a.to.length : Int)) = true →
 sameVal (SV.bool true true) (SV.bool false true)) ∧
 (decide ((50 : Int) < (↑a.to.length : Int)) = false →
 True ∧
 a.ok = true ∧
 a.put.length < (1099511627776 : Nat) ∧
 getAskB a.put = true ∧
 ((!(decide (a.k = numI (itOf a.put (1 : Nat))) && (decide (a.s = numI (itOf a.put (2 : Nat))) && (decide (a.q = numI (itOf a.put (3 : Nat))) && (decide (a.a = numI (itOf a.put (4 : Nat)) - (1 : Int)) && (decide (a.key = cutIn (itOf a.put (5 : Nat))) && (decide (a.to = cutIn (itOf a.put (6 : Nat))) && (decide (a.lim = numI (itOf a.put (7 : Nat))) && true)))))))) = true →
 sameVal (SV.bool true false) (SV.bool false true)) ∧
 ((!(decide (a.k = numI (itOf a.put (1 : Nat))) && (decide (a.s = numI (itOf a.put (2 : Nat))) && (decide (a.q = numI (itOf a.put (3 : Nat))) && (decide (a.a = numI (itOf a.put (4 : Nat)) - (1 : Int)) && (decide (a.key = cutIn (itOf a.put (5 : Nat))) && (decide (a.to = cutIn (itOf a.put (6 : Nat))) && (decide (a.lim = numI (itOf a.put (7 : Nat))) && true)))))))) = false →
 a.put.length < (1099511627776 : Nat) ∧
 ((!decide (kindI a.put = (0 : Int))) = true →
 sameVal (SV.bool true false) (SV.bool false true)) ∧
 ((!decide (kindI a.put = (0 : Int))) = false →
 True ∧
 ((!decide ((0 : Int) = (0 : Int)) == a.ok) = true →
 sameVal (SV.bool true false) (SV.bool false true)) ∧
 ((!decide ((0 : Int) = (0 : Int)) == a.ok) = false →
 (((True ∧
 True ∧
 True ∧
 True ∧
 True ∧
 (z = z ∧
 o = o ∧
 (0 : Nat) + x.n ≤ x.n) ∧
 True ∧
 True ∧
 True) ∧
 True) ∧
 True) ∧
 x.ok = false ∧
 (0 : Nat) < (1099511627776 : Nat) ∧
 (decide ((0 : Int) = x.s) = true →
 (decide ((0 : Int) = x.q) = true →
 (decide ((0 : Int) = x.e) = true →
 (decide ((0 : Int) = x.v) = true →
 (decide ([] = x.root) = true →
 (decide ([] = x.proof) = true →
 ((false == x.more) = true →
 ((True ∧
 (z = z ∧
 o = o ∧
 (0 : Nat) + x.n ≤ x.n) ∧
 True) ∧
 (0 : Nat) < (9223372036854775808 : Nat)) ∧
 (((True ∧
 True ∧
 True ∧
 True ∧
 True ∧
 (z = z ∧
 o = o ∧
 (0 : Nat) + x.n ≤ x.n) ∧
 True ∧
 True ∧
 True) ∧
 True) ∧
 True) ∧
 ((!decide ((1 : Int) = (0 : Int)) == x.ok) = true →
 sameVal (SV.bool true false) (SV.bool false true)) ∧
 ((!decide ((1 : Int) = (0 : Int)) == x.ok) = false →
 (((True ∧
 True ∧
 True ∧
 True ∧
 (z' = z' ∧
 o' = o' ∧
 (0 : Nat) + y.n ≤ y.n) ∧
 True) ∧
 True) ∧
 True) ∧
 y.ok = true ∧
 y.put.length < (1099511627776 : Nat) ∧
 getNoticeB y.put = true ∧
 ∀ (x : Nat), itemsN (cutIn (itOf y.put (5 : Nat))) ≤ x →
 (decide (numI (itOf y.put (1 : Nat)) = y.s) = true →
 (decide (numI (itOf y.put (2 : Nat)) = y.e) = true →
 (decide (numI (itOf y.put (3 : Nat)) = y.b) = true →
 (decide (cutIn (itOf y.put (4 : Nat)) = y.root) = true →
 (((false = false ∧
 (0 : Nat) + itemsN (cutIn (itOf y.put (5 : Nat))) ≤ itemsN (cutIn (itOf y.put (5 : Nat)))) ∧
 (z' = z' ∧
 o' = o' ∧
 (0 : Nat) + y.n ≤ y.n) ∧
 True) ∧
 itemsN (cutIn (itOf y.put (5 : Nat))) < (9223372036854775808 : Nat)) ∧
 (sameC { s := (0 : Int), e := (0 : Int), b := (0 : Int), root := [], n := itemsN (cutIn (itOf y.put (5 : Nat))), f := fun (i : Nat) => cutIn (subOf (itOf y.put (5 : Nat)) i (0 : Nat)), g := fun (i : Nat) => cutIn (subOf (itOf y.put (5 : Nat)) i (1 : Nat)), h := fun (i : Nat) => decide (numI (subOf (itOf y.put (5 : Nat)) i (2 : Nat)) = (1 : Int)) : Nt } { s := (0 : Int), e := (0 : Int), b := (0 : Int), root := [], n := y.n, f := y.f, g := y.g, h := y.h : Nt } = true →
 y.put.length < (1099511627776 : Nat) ∧
 (decide (kindI y.put = (2 : Int)) = true →
 (((True ∧
 True ∧
 True ∧
 True ∧
 (z' = z' ∧
 o' = o' ∧
 (0 : Nat) + y.n ≤ y.n) ∧
 True) ∧
 True) ∧
 True) ∧
 sameVal (SV.bool (true && true && false) (decide ((0 : Int) = (0 : Int)) == y.ok)) (SV.bool false true)) ∧
 (decide (kindI y.put = (2 : Int)) = false →
 sameVal (SV.bool true false) (SV.bool false true))) ∧
 (sameC { s := (0 : Int), e := (0 : Int), b := (0 : Int), root := [], n := itemsN (cutIn (itOf y.put (5 : Nat))), f := fun (i : Nat) => cutIn (subOf (itOf y.put (5 : Nat)) i (0 : Nat)), g := fun (i : Nat) => cutIn (subOf (itOf y.put (5 : Nat)) i (1 : Nat)), h := fun (i : Nat) => decide (numI (subOf (itOf y.put (5 : Nat)) i (2 : Nat)) = (1 : Int)) : Nt } { s := (0 : Int), e := (0 : Int), b := (0 : Int), root := [], n := y.n, f := y.f, g := y.g, h := y.h : Nt } = false →
 sameVal (SV.bool true false) (SV.bool false true))) ∧
 (decide (cutIn (itOf y.put (4 : Nat)) = y.root) = false →
 sameVal (SV.bool true false) (SV.bool false true))) ∧
 (decide (numI (itOf y.put (3 : Nat)) = y.b) = false →
 sameVal (SV.bool true false) (SV.bool false true))) ∧
 (decide (numI (itOf y.put (2 : Nat)) = y.e) = false →
 sameVal (SV.bool true false) (SV.bool false true))) ∧
 (decide (numI (itOf y.put (1 : Nat)) = y.s) = false →
 sameVal (SV.bool true false) (SV.bool false true)))) ∧
 ((false == x.more) = false →
 (((True ∧
 True ∧
 True ∧
 True ∧
 True ∧
 (z = z ∧
 o = o ∧
 (0 : Nat) + x.n ≤ x.n) ∧
 True ∧
 True ∧
 True) ∧
 True) ∧
 True) ∧
 ((!decide ((1 : Int) = (0 : Int)) == x.ok) = true →
 sameVal (SV.bool true false) (SV.bool false true)) ∧
 ((!decide ((1 : Int) = (0 : Int)) == x.ok) = false →
 (((True ∧
 True ∧
 True ∧
 True ∧
 (z' = z' ∧
 o' = o' ∧
 (0 : Nat) + y.n ≤ y.n) ∧
 True) ∧
 True) ∧
 True) ∧
 y.ok = true ∧
 y.put.length < (1099511627776 : Nat) ∧
 getNoticeB y.put = true ∧
 ∀ (x : Nat), itemsN (cutIn (itOf y.put (5 : Nat))) ≤ x →
 (decide (numI (itOf y.put (1 : Nat)) = y.s) = true →
 (decide (numI (itOf y.put (2 : Nat)) = y.e) = true →
 (decide (numI (itOf y.put (3 : Nat)) = y.b) = true →
 (decide (cutIn (itOf y.put (4 : Nat)) = y.root) = true →
 (((false = false ∧
 (0 : Nat) + itemsN (cutIn (itOf y.put (5 : Nat))) ≤ itemsN (cutIn (itOf y.put (5 : Nat)))) ∧
 (z' = z' ∧
 o' = o' ∧
 (0 : Nat) + y.n ≤ y.n) ∧
 True) ∧
 itemsN (cutIn (itOf y.put (5 : Nat))) < (9223372036854775808 : Nat)) ∧
 (sameC { s := (0 : Int), e := (0 : Int), b := (0 : Int), root := [], n := itemsN (cutIn (itOf y.put (5 : Nat))), f := fun (i : Nat) => cutIn (subOf (itOf y.put (5 : Nat)) i (0 : Nat)), g := fun (i : Nat) => cutIn (subOf (itOf y.put (5 : Nat)) i (1 : Nat)), h := fun (i : Nat) => decide (numI (subOf (itOf y.put (5 : Nat)) i (2 : Nat)) = (1 : Int)) : Nt } { s := (0 : Int), e := (0 : Int), b := (0 : Int), root := [], n := y.n, f := y.f, g := y.g, h := y.h : Nt } = true →
 y.put.length < (1099511627776 : Nat) ∧
 (decide (kindI y.put = (2 : Int)) = true →
 (((True ∧
 True ∧
 True ∧
 True ∧
 (z' = z' ∧
 o' = o' ∧
 (0 : Nat) + y.n ≤ y.n) ∧
 True) ∧
 True) ∧
 True) ∧
 sameVal (SV.bool (true && true && false) (decide ((0 : Int) = (0 : Int)) == y.ok)) (SV.bool false true)) ∧
 (decide (kindI y.put = (2 : Int)) = false →
 sameVal (SV.bool true false) (SV.bool false true))) ∧
 (sameC { s := (0 : Int), e := (0 : Int), b := (0 : Int), root := [], n := itemsN (cutIn (itOf y.put (5 : Nat))), f := fun (i : Nat) => cutIn (subOf (itOf y.put (5 : Nat)) i (0 : Nat)), g := fun (i : Nat) => cutIn (subOf (itOf y.put (5 : Nat)) i (1 : Nat)), h := fun (i : Nat) => decide (numI (subOf (itOf y.put (5 : Nat)) i (2 : Nat)) = (1 : Int)) : Nt } { s := (0 : Int), e := (0 : Int), b := (0 : Int), root := [], n := y.n, f := y.f, g := y.g, h := y.h : Nt } = false →
 sameVal (SV.bool true false) (SV.bool false true))) ∧
 (decide (cutIn (itOf y.put (4 : Nat)) = y.root) = false →
 sameVal (SV.bool true false) (SV.bool false true))) ∧
 (decide (numI (itOf y.put (3 : Nat)) = y.b) = false →
 sameVal (SV.bool true false) (SV.bool false true))) ∧
 (decide (numI (itOf y.put (2 : Nat)) = y.e) = false →
 sameVal (SV.bool true false) (SV.bool false true))) ∧
 (decide (numI (itOf y.put (1 : Nat)) = y.s) = false →
 sameVal (SV.bool true false) (SV.bool false true))))) ∧
 (decide ([] = x.proof) = false →
 (((True ∧
 True ∧
 True ∧
 True ∧
 True ∧
 (z = z ∧
 o = o ∧
 (0 : Nat) + x.n ≤ x.n) ∧
 True ∧
 True ∧
 True) ∧
 True) ∧
 True) ∧
 ((!decide ((1 : Int) = (0 : Int)) == x.ok) = true →
 sameVal (SV.bool true false) (SV.bool false true)) ∧
 ((!decide ((1 : Int) = (0 : Int)) == x.ok) = false →
 (((True ∧
 True ∧
 True ∧
 True ∧
 (z' = z' ∧
 o' = o' ∧
 (0 : Nat) + y.n ≤ y.n) ∧
 True) ∧
 True) ∧
 True) ∧
 y.ok = true ∧
 y.put.length < (1099511627776 : Nat) ∧
 getNoticeB y.put = true ∧
 ∀ (x : Nat), itemsN (cutIn (itOf y.put (5 : Nat))) ≤ x →
 (decide (numI (itOf y.put (1 : Nat)) = y.s) = true →
 (decide (numI (itOf y.put (2 : Nat)) = y.e) = true →
 (decide (numI (itOf y.put (3 : Nat)) = y.b) = true →
 (decide (cutIn (itOf y.put (4 : Nat)) = y.root) = true →
 (((false = false ∧
 (0 : Nat) + itemsN (cutIn (itOf y.put (5 : Nat))) ≤ itemsN (cutIn (itOf y.put (5 : Nat)))) ∧
 (z' = z' ∧
 o' = o' ∧
 (0 : Nat) + y.n ≤ y.n) ∧
 True) ∧
 itemsN (cutIn (itOf y.put (5 : Nat))) < (9223372036854775808 : Nat)) ∧
 (sameC { s := (0 : Int), e := (0 : Int), b := (0 : Int), root := [], n := itemsN (cutIn (itOf y.put (5 : Nat))), f := fun (i : Nat) => cutIn (subOf (itOf y.put (5 : Nat)) i (0 : Nat)), g := fun (i : Nat) => cutIn (subOf (itOf y.put (5 : Nat)) i (1 : Nat)), h := fun (i : Nat) => decide (numI (subOf (itOf y.put (5 : Nat)) i (2 : Nat)) = (1 : Int)) : Nt } { s := (0 : Int), e := (0 : Int), b := (0 : Int), root := [], n := y.n, f := y.f, g := y.g, h := y.h : Nt } = true →
 y.put.length < (1099511627776 : Nat) ∧
 (decide (kindI y.put = (2 : Int)) = true →
 (((True ∧
 True ∧
 True ∧
 True ∧
 (z' = z' ∧
 o' = o' ∧
 (0 : Nat) + y.n ≤ y.n) ∧
 True) ∧
 True) ∧
 True) ∧
 sameVal (SV.bool (true && true && false) (decide ((0 : Int) = (0 : Int)) == y.ok)) (SV.bool false true)) ∧
 (decide (kindI y.put = (2 : Int)) = false →
 sameVal (SV.bool true false) (SV.bool false true))) ∧
 (sameC { s := (0 : Int), e := (0 : Int), b := (0 : Int), root := [], n := itemsN (cutIn (itOf y.put (5 : Nat))), f := fun (i : Nat) => cutIn (subOf (itOf y.put (5 : Nat)) i (0 : Nat)), g := fun (i : Nat) => cutIn (subOf (itOf y.put (5 : Nat)) i (1 : Nat)), h := fun (i : Nat) => decide (numI (subOf (itOf y.put (5 : Nat)) i (2 : Nat)) = (1 : Int)) : Nt } { s := (0 : Int), e := (0 : Int), b := (0 : Int), root := [], n := y.n, f := y.f, g := y.g, h := y.h : Nt } = false →
 sameVal (SV.bool true false) (SV.bool false true))) ∧
 (decide (cutIn (itOf y.put (4 : Nat)) = y.root) = false →
 sameVal (SV.bool true false) (SV.bool false true))) ∧
 (decide (numI (itOf y.put (3 : Nat)) = y.b) = false →
 sameVal (SV.bool true false) (SV.bool false true))) ∧
 (decide (numI (itOf y.put (2 : Nat)) = y.e) = false →
 sameVal (SV.bool true false) (SV.bool false true))) ∧
 (decide (numI (itOf y.put (1 : Nat)) = y.s) = false →
 sameVal (SV.bool true false) (SV.bool false true))))) ∧
 (decide ([] = x.root) = false →
 (((True ∧
 True ∧
 True ∧
 True ∧
 True ∧
 (z = z ∧
 o = o ∧
 (0 : Nat) + x.n ≤ x.n) ∧
 True ∧
 True ∧
 True) ∧
 True) ∧
 True) ∧
 ((!decide ((1 : Int) = (0 : Int)) == x.ok) = true →
 sameVal (SV.bool true false) (SV.bool false true)) ∧
 ((!decide ((1 : Int) = (0 : Int)) == x.ok) = false →
 (((True ∧
 True ∧
 True ∧
 True ∧
 (z' = z' ∧
 o' = o' ∧
 (0 : Nat) + y.n ≤ y.n) ∧
 True) ∧
 True) ∧
 True) ∧
 y.ok = true ∧
 y.put.length < (1099511627776 : Nat) ∧
 getNoticeB y.put = true ∧
 ∀ (x : Nat), itemsN (cutIn (itOf y.put (5 : Nat))) ≤ x →
 (decide (numI (itOf y.put (1 : Nat)) = y.s) = true →
 (decide (numI (itOf y.put (2 : Nat)) = y.e) = true →
 (decide (numI (itOf y.put (3 : Nat)) = y.b) = true →
 (decide (cutIn (itOf y.put (4 : Nat)) = y.root) = true →
 (((false = false ∧
 (0 : Nat) + itemsN (cutIn (itOf y.put (5 : Nat))) ≤ itemsN (cutIn (itOf y.put (5 : Nat)))) ∧
 (z' = z' ∧
 o' = o' ∧
 (0 : Nat) + y.n ≤ y.n) ∧
 True) ∧
 itemsN (cutIn (itOf y.put (5 : Nat))) < (9223372036854775808 : Nat)) ∧
 (sameC { s := (0 : Int), e := (0 : Int), b := (0 : Int), root := [], n := itemsN (cutIn (itOf y.put (5 : Nat))), f := fun (i : Nat) => cutIn (subOf (itOf y.put (5 : Nat)) i (0 : Nat)), g := fun (i : Nat) => cutIn (subOf (itOf y.put (5 : Nat)) i (1 : Nat)), h := fun (i : Nat) => decide (numI (subOf (itOf y.put (5 : Nat)) i (2 : Nat)) = (1 : Int)) : Nt } { s := (0 : Int), e := (0 : Int), b := (0 : Int), root := [], n := y.n, f := y.f, g := y.g, h := y.h : Nt } = true →
 y.put.length < (1099511627776 : Nat) ∧
 (decide (kindI y.put = (2 : Int)) = true →
 (((True ∧
 True ∧
 True ∧
 True ∧
 (z' = z' ∧
 o' = o' ∧
 (0 : Nat) + y.n ≤ y.n) ∧
 True) ∧
 True) ∧
 True) ∧
 sameVal (SV.bool (true && true && false) (decide ((0 : Int) = (0 : Int)) == y.ok)) (SV.bool false true)) ∧
 (decide (kindI y.put = (2 : Int)) = false →
 sameVal (SV.bool true false) (SV.bool false true))) ∧
 (sameC { s := (0 : Int), e := (0 : Int), b := (0 : Int), root := [], n := itemsN (cutIn (itOf y.put (5 : Nat))), f := fun (i : Nat) => cutIn (subOf (itOf y.put (5 : Nat)) i (0 : Nat)), g := fun (i : Nat) => cutIn (subOf (itOf y.put (5 : Nat)) i (1 : Nat)), h := fun (i : Nat) => decide (numI (subOf (itOf y.put (5 : Nat)) i (2 : Nat)) = (1 : Int)) : Nt } { s := (0 : Int), e := (0 : Int), b := (0 : Int), root := [], n := y.n, f := y.f, g := y.g, h := y.h : Nt } = false →
 sameVal (SV.bool true false) (SV.bool false true))) ∧
 (decide (cutIn (itOf y.put (4 : Nat)) = y.root) = false →
 sameVal (SV.bool true false) (SV.bool false true))) ∧
 (decide (numI (itOf y.put (3 : Nat)) = y.b) = false →
 sameVal (SV.bool true false) (SV.bool false true))) ∧
 (decide (numI (itOf y.put (2 : Nat)) = y.e) = false →
 sameVal (SV.bool true false) (SV.bool false true))) ∧
 (decide (numI (itOf y.put (1 : Nat)) = y.s) = false →
 sameVal (SV.bool true false) (SV.bool false true))))) ∧
 (decide ((0 : Int) = x.v) = false →
 (((True ∧
 True ∧
 True ∧
 True ∧
 True ∧
 (z = z ∧
 o = o ∧
 (0 : Nat) + x.n ≤ x.n) ∧
 True ∧
 True ∧
 True) ∧
 True) ∧
 True) ∧
 ((!decide ((1 : Int) = (0 : Int)) == x.ok) = true →
 sameVal (SV.bool true false) (SV.bool false true)) ∧
 ((!decide ((1 : Int) = (0 : Int)) == x.ok) = false →
 (((True ∧
 True ∧
 True ∧
 True ∧
 (z' = z' ∧
 o' = o' ∧
 (0 : Nat) + y.n ≤ y.n) ∧
 True) ∧
 True) ∧
 True) ∧
 y.ok = true ∧
 y.put.length < (1099511627776 : Nat) ∧
 getNoticeB y.put = true ∧
 ∀ (x : Nat), itemsN (cutIn (itOf y.put (5 : Nat))) ≤ x →
 (decide (numI (itOf y.put (1 : Nat)) = y.s) = true →
 (decide (numI (itOf y.put (2 : Nat)) = y.e) = true →
 (decide (numI (itOf y.put (3 : Nat)) = y.b) = true →
 (decide (cutIn (itOf y.put (4 : Nat)) = y.root) = true →
 (((false = false ∧
 (0 : Nat) + itemsN (cutIn (itOf y.put (5 : Nat))) ≤ itemsN (cutIn (itOf y.put (5 : Nat)))) ∧
 (z' = z' ∧
 o' = o' ∧
 (0 : Nat) + y.n ≤ y.n) ∧
 True) ∧
 itemsN (cutIn (itOf y.put (5 : Nat))) < (9223372036854775808 : Nat)) ∧
 (sameC { s := (0 : Int), e := (0 : Int), b := (0 : Int), root := [], n := itemsN (cutIn (itOf y.put (5 : Nat))), f := fun (i : Nat) => cutIn (subOf (itOf y.put (5 : Nat)) i (0 : Nat)), g := fun (i : Nat) => cutIn (subOf (itOf y.put (5 : Nat)) i (1 : Nat)), h := fun (i : Nat) => decide (numI (subOf (itOf y.put (5 : Nat)) i (2 : Nat)) = (1 : Int)) : Nt } { s := (0 : Int), e := (0 : Int), b := (0 : Int), root := [], n := y.n, f := y.f, g := y.g, h := y.h : Nt } = true →
 y.put.length < (1099511627776 : Nat) ∧
 (decide (kindI y.put = (2 : Int)) = true →
 (((True ∧
 True ∧
 True ∧
 True ∧
 (z' = z' ∧
 o' = o' ∧
 (0 : Nat) + y.n ≤ y.n) ∧
 True) ∧
 True) ∧
 True) ∧
 sameVal (SV.bool (true && true && false) (decide ((0 : Int) = (0 : Int)) == y.ok)) (SV.bool false true)) ∧
 (decide (kindI y.put = (2 : Int)) = false →
 sameVal (SV.bool true false) (SV.bool false true))) ∧
 (sameC { s := (0 : Int), e := (0 : Int), b := (0 : Int), root := [], n := itemsN (cutIn (itOf y.put (5 : Nat))), f := fun (i : Nat) => cutIn (subOf (itOf y.put (5 : Nat)) i (0 : Nat)), g := fun (i : Nat) => cutIn (subOf (itOf y.put (5 : Nat)) i (1 : Nat)), h := fun (i : Nat) => decide (numI (subOf (itOf y.put (5 : Nat)) i (2 : Nat)) = (1 : Int)) : Nt } { s := (0 : Int), e := (0 : Int), b := (0 : Int), root := [], n := y.n, f := y.f, g := y.g, h := y.h : Nt } = false →
 sameVal (SV.bool true false) (SV.bool false true))) ∧
 (decide (cutIn (itOf y.put (4 : Nat)) = y.root) = false →
 sameVal (SV.bool true false) (SV.bool false true))) ∧
 (decide (numI (itOf y.put (3 : Nat)) = y.b) = false →
 sameVal (SV.bool true false) (SV.bool false true))) ∧
 (decide (numI (itOf y.put (2 : Nat)) = y.e) = false →
 sameVal (SV.bool true false) (SV.bool false true))) ∧
 (decide (numI (itOf y.put (1 : Nat)) = y.s) = false →
 sameVal (SV.bool true false) (SV.bool false true))))) ∧
 (decide ((0 : Int) = x.e) = false →
 (((True ∧
 True ∧
 True ∧
 True ∧
 True ∧
 (z = z ∧
 o = o ∧
 (0 : Nat) + x.n ≤ x.n) ∧
 True ∧
 True ∧
 True) ∧
 True) ∧
 True) ∧
 ((!decide ((1 : Int) = (0 : Int)) == x.ok) = true →
 sameVal (SV.bool true false) (SV.bool false true)) ∧
 ((!decide ((1 : Int) = (0 : Int)) == x.ok) = false →
 (((True ∧
 True ∧
 True ∧
 True ∧
 (z' = z' ∧
 o' = o' ∧
 (0 : Nat) + y.n ≤ y.n) ∧
 True) ∧
 True) ∧
 True) ∧
 y.ok = true ∧
 y.put.length < (1099511627776 : Nat) ∧
 getNoticeB y.put = true ∧
 ∀ (x : Nat), itemsN (cutIn (itOf y.put (5 : Nat))) ≤ x →
 (decide (numI (itOf y.put (1 : Nat)) = y.s) = true →
 (decide (numI (itOf y.put (2 : Nat)) = y.e) = true →
 (decide (numI (itOf y.put (3 : Nat)) = y.b) = true →
 (decide (cutIn (itOf y.put (4 : Nat)) = y.root) = true →
 (((false = false ∧
 (0 : Nat) + itemsN (cutIn (itOf y.put (5 : Nat))) ≤ itemsN (cutIn (itOf y.put (5 : Nat)))) ∧
 (z' = z' ∧
 o' = o' ∧
 (0 : Nat) + y.n ≤ y.n) ∧
 True) ∧
 itemsN (cutIn (itOf y.put (5 : Nat))) < (9223372036854775808 : Nat)) ∧
 (sameC { s := (0 : Int), e := (0 : Int), b := (0 : Int), root := [], n := itemsN (cutIn (itOf y.put (5 : Nat))), f := fun (i : Nat) => cutIn (subOf (itOf y.put (5 : Nat)) i (0 : Nat)), g := fun (i : Nat) => cutIn (subOf (itOf y.put (5 : Nat)) i (1 : Nat)), h := fun (i : Nat) => decide (numI (subOf (itOf y.put (5 : Nat)) i (2 : Nat)) = (1 : Int)) : Nt } { s := (0 : Int), e := (0 : Int), b := (0 : Int), root := [], n := y.n, f := y.f, g := y.g, h := y.h : Nt } = true →
 y.put.length < (1099511627776 : Nat) ∧
 (decide (kindI y.put = (2 : Int)) = true →
 (((True ∧
 True ∧
 True ∧
 True ∧
 (z' = z' ∧
 o' = o' ∧
 (0 : Nat) + y.n ≤ y.n) ∧
 True) ∧
 True) ∧
 True) ∧
 sameVal (SV.bool (true && true && false) (decide ((0 : Int) = (0 : Int)) == y.ok)) (SV.bool false true)) ∧
 (decide (kindI y.put = (2 : Int)) = false →
 sameVal (SV.bool true false) (SV.bool false true))) ∧
 (sameC { s := (0 : Int), e := (0 : Int), b := (0 : Int), root := [], n := itemsN (cutIn (itOf y.put (5 : Nat))), f := fun (i : Nat) => cutIn (subOf (itOf y.put (5 : Nat)) i (0 : Nat)), g := fun (i : Nat) => cutIn (subOf (itOf y.put (5 : Nat)) i (1 : Nat)), h := fun (i : Nat) => decide (numI (subOf (itOf y.put (5 : Nat)) i (2 : Nat)) = (1 : Int)) : Nt } { s := (0 : Int), e := (0 : Int), b := (0 : Int), root := [], n := y.n, f := y.f, g := y.g, h := y.h : Nt } = false →
 sameVal (SV.bool true false) (SV.bool false true))) ∧
 (decide (cutIn (itOf y.put (4 : Nat)) = y.root) = false →
 sameVal (SV.bool true false) (SV.bool false true))) ∧
 (decide (numI (itOf y.put (3 : Nat)) = y.b) = false →
 sameVal (SV.bool true false) (SV.bool false true))) ∧
 (decide (numI (itOf y.put (2 : Nat)) = y.e) = false →
 sameVal (SV.bool true false) (SV.bool false true))) ∧
 (decide (numI (itOf y.put (1 : Nat)) = y.s) = false →
 sameVal (SV.bool true false) (SV.bool false true))))) ∧
 (decide ((0 : Int) = x.q) = false →
 (((True ∧
 True ∧
 True ∧
 True ∧
 True ∧
 (z = z ∧
 o = o ∧
 (0 : Nat) + x.n ≤ x.n) ∧
 True ∧
 True ∧
 True) ∧
 True) ∧
 True) ∧
 ((!decide ((1 : Int) = (0 : Int)) == x.ok) = true →
 sameVal (SV.bool true false) (SV.bool false true)) ∧
 ((!decide ((1 : Int) = (0 : Int)) == x.ok) = false →
 (((True ∧
 True ∧
 True ∧
 True ∧
 (z' = z' ∧
 o' = o' ∧
 (0 : Nat) + y.n ≤ y.n) ∧
 True) ∧
 True) ∧
 True) ∧
 y.ok = true ∧
 y.put.length < (1099511627776 : Nat) ∧
 getNoticeB y.put = true ∧
 ∀ (x : Nat), itemsN (cutIn (itOf y.put (5 : Nat))) ≤ x →
 (decide (numI (itOf y.put (1 : Nat)) = y.s) = true →
 (decide (numI (itOf y.put (2 : Nat)) = y.e) = true →
 (decide (numI (itOf y.put (3 : Nat)) = y.b) = true →
 (decide (cutIn (itOf y.put (4 : Nat)) = y.root) = true →
 (((false = false ∧
 (0 : Nat) + itemsN (cutIn (itOf y.put (5 : Nat))) ≤ itemsN (cutIn (itOf y.put (5 : Nat)))) ∧
 (z' = z' ∧
 o' = o' ∧
 (0 : Nat) + y.n ≤ y.n) ∧
 True) ∧
 itemsN (cutIn (itOf y.put (5 : Nat))) < (9223372036854775808 : Nat)) ∧
 (sameC { s := (0 : Int), e := (0 : Int), b := (0 : Int), root := [], n := itemsN (cutIn (itOf y.put (5 : Nat))), f := fun (i : Nat) => cutIn (subOf (itOf y.put (5 : Nat)) i (0 : Nat)), g := fun (i : Nat) => cutIn (subOf (itOf y.put (5 : Nat)) i (1 : Nat)), h := fun (i : Nat) => decide (numI (subOf (itOf y.put (5 : Nat)) i (2 : Nat)) = (1 : Int)) : Nt } { s := (0 : Int), e := (0 : Int), b := (0 : Int), root := [], n := y.n, f := y.f, g := y.g, h := y.h : Nt } = true →
 y.put.length < (1099511627776 : Nat) ∧
 (decide (kindI y.put = (2 : Int)) = true →
 (((True ∧
 True ∧
 True ∧
 True ∧
 (z' = z' ∧
 o' = o' ∧
 (0 : Nat) + y.n ≤ y.n) ∧
 True) ∧
 True) ∧
 True) ∧
 sameVal (SV.bool (true && true && false) (decide ((0 : Int) = (0 : Int)) == y.ok)) (SV.bool false true)) ∧
 (decide (kindI y.put = (2 : Int)) = false →
 sameVal (SV.bool true false) (SV.bool false true))) ∧
 (sameC { s := (0 : Int), e := (0 : Int), b := (0 : Int), root := [], n := itemsN (cutIn (itOf y.put (5 : Nat))), f := fun (i : Nat) => cutIn (subOf (itOf y.put (5 : Nat)) i (0 : Nat)), g := fun (i : Nat) => cutIn (subOf (itOf y.put (5 : Nat)) i (1 : Nat)), h := fun (i : Nat) => decide (numI (subOf (itOf y.put (5 : Nat)) i (2 : Nat)) = (1 : Int)) : Nt } { s := (0 : Int), e := (0 : Int), b := (0 : Int), root := [], n := y.n, f := y.f, g := y.g, h := y.h : Nt } = false →
 sameVal (SV.bool true false) (SV.bool false true))) ∧
 (decide (cutIn (itOf y.put (4 : Nat)) = y.root) = false →
 sameVal (SV.bool true false) (SV.bool false true))) ∧
 (decide (numI (itOf y.put (3 : Nat)) = y.b) = false →
 sameVal (SV.bool true false) (SV.bool false true))) ∧
 (decide (numI (itOf y.put (2 : Nat)) = y.e) = false →
 sameVal (SV.bool true false) (SV.bool false true))) ∧
 (decide (numI (itOf y.put (1 : Nat)) = y.s) = false →
 sameVal (SV.bool true false) (SV.bool false true))))) ∧
 (decide ((0 : Int) = x.s) = false →
 (((True ∧
 True ∧
 True ∧
 True ∧
 True ∧
 (z = z ∧
 o = o ∧
 (0 : Nat) + x.n ≤ x.n) ∧
 True ∧
 True ∧
 True) ∧
 True) ∧
 True) ∧
 ((!decide ((1 : Int) = (0 : Int)) == x.ok) = true →
 sameVal (SV.bool true false) (SV.bool false true)) ∧
 ((!decide ((1 : Int) = (0 : Int)) == x.ok) = false →
 (((True ∧
 True ∧
 True ∧
 True ∧
 (z' = z' ∧
 o' = o' ∧
 (0 : Nat) + y.n ≤ y.n) ∧
 True) ∧
 True) ∧
 True) ∧
 y.ok = true ∧
 y.put.length < (1099511627776 : Nat) ∧
 getNoticeB y.put = true ∧
 ∀ (x : Nat), itemsN (cutIn (itOf y.put (5 : Nat))) ≤ x →
 (decide (numI (itOf y.put (1 : Nat)) = y.s) = true →
 (decide (numI (itOf y.put (2 : Nat)) = y.e) = true →
 (decide (numI (itOf y.put (3 : Nat)) = y.b) = true →
 (decide (cutIn (itOf y.put (4 : Nat)) = y.root) = true →
 (((false = false ∧
 (0 : Nat) + itemsN (cutIn (itOf y.put (5 : Nat))) ≤ itemsN (cutIn (itOf y.put (5 : Nat)))) ∧
 (z' = z' ∧
 o' = o' ∧
 (0 : Nat) + y.n ≤ y.n) ∧
 True) ∧
 itemsN (cutIn (itOf y.put (5 : Nat))) < (9223372036854775808 : Nat)) ∧
 (sameC { s := (0 : Int), e := (0 : Int), b := (0 : Int), root := [], n := itemsN (cutIn (itOf y.put (5 : Nat))), f := fun (i : Nat) => cutIn (subOf (itOf y.put (5 : Nat)) i (0 : Nat)), g := fun (i : Nat) => cutIn (subOf (itOf y.put (5 : Nat)) i (1 : Nat)), h := fun (i : Nat) => decide (numI (subOf (itOf y.put (5 : Nat)) i (2 : Nat)) = (1 : Int)) : Nt } { s := (0 : Int), e := (0 : Int), b := (0 : Int), root := [], n := y.n, f := y.f, g := y.g, h := y.h : Nt } = true →
 y.put.length < (1099511627776 : Nat) ∧
 (decide (kindI y.put = (2 : Int)) = true →
 (((True ∧
 True ∧
 True ∧
 True ∧
 (z' = z' ∧
 o' = o' ∧
 (0 : Nat) + y.n ≤ y.n) ∧
 True) ∧
 True) ∧
 True) ∧
 sameVal (SV.bool (true && true && false) (decide ((0 : Int) = (0 : Int)) == y.ok)) (SV.bool false true)) ∧
 (decide (kindI y.put = (2 : Int)) = false →
 sameVal (SV.bool true false) (SV.bool false true))) ∧
 (sameC { s := (0 : Int), e := (0 : Int), b := (0 : Int), root := [], n := itemsN (cutIn (itOf y.put (5 : Nat))), f := fun (i : Nat) => cutIn (subOf (itOf y.put (5 : Nat)) i (0 : Nat)), g := fun (i : Nat) => cutIn (subOf (itOf y.put (5 : Nat)) i (1 : Nat)), h := fun (i : Nat) => decide (numI (subOf (itOf y.put (5 : Nat)) i (2 : Nat)) = (1 : Int)) : Nt } { s := (0 : Int), e := (0 : Int), b := (0 : Int), root := [], n := y.n, f := y.f, g := y.g, h := y.h : Nt } = false →
 sameVal (SV.bool true false) (SV.bool false true))) ∧
 (decide (cutIn (itOf y.put (4 : Nat)) = y.root) = false →
 sameVal (SV.bool true false) (SV.bool false true))) ∧
 (decide (numI (itOf y.put (3 : Nat)) = y.b) = false →
 sameVal (SV.bool true false) (SV.bool false true))) ∧
 (decide (numI (itOf y.put (2 : Nat)) = y.e) = false →
 sameVal (SV.bool true false) (SV.bool false true))) ∧
 (decide (numI (itOf y.put (1 : Nat)) = y.s) = false →
 sameVal (SV.bool true false) (SV.bool false true))))))))))) := by kernel_rfl
theorem vcFBack6 (a : Ak) (x : Rp) (y : Nt) (z z' : Bool) (o c o' c' : Nat) (key key' : Option Nat) : VC.holds (backVC false true true a x y z z' o c o' c' key key') = (True ∧
 (((True ∧
 True ∧
 True ∧
 True ∧
 True ∧
 (z = z ∧
 o = o ∧
 (0 : Nat) + x.n ≤ x.n) ∧
 True ∧
 True ∧
 True) ∧
 (True ∧
 True ∧
 True ∧
 True ∧
 (z' = z' ∧
 o' = o' ∧
 (0 : Nat) + y.n ≤ y.n) ∧
 True) ∧
 True) ∧
 True) ∧
 ∀ (x_1 : Bool), ((!x_1) = true →
 sameVal (SV.bool true true) (SV.bool false true)) ∧
 ((!x_1) = false →
 (decide ((50 : Int) < (↑a.key.length : Int)) = true →
 sameVal (SV.bool true true) (SV.bool false true)) ∧
 (decide ((50 : Int) < (↑a.key.length : Int)) = false →
 (decide ((50 : Int) < (↑a.to.length : Int)) = true →
 sameVal (SV.bool true true) (SV.bool false true)) ∧
 (decide ((50 : Int) < (↑a.to.length : Int)) = false →
 True ∧
 a.ok = false ∧
 (0 : Nat) < (1099511627776 : Nat) ∧
 True ∧
 ((!decide ((1 : Int) = (0 : Int)) == a.ok) = true →
 sameVal (SV.bool true false) (SV.bool false true)) ∧
 ((!decide ((1 : Int) = (0 : Int)) == a.ok) = false →
 (((True ∧
 True ∧
 True ∧
 True ∧
 True ∧
 (z = z ∧
 o = o ∧
 (0 : Nat) + x.n ≤ x.n) ∧
 True ∧
 True ∧
 True) ∧
 True) ∧
 True) ∧
 x.ok = true ∧
 x.put.length < (1099511627776 : Nat) ∧
 getReplyB x.put = true ∧
 ∀ (x_6 : Nat), itemsN (cutIn (itOf x.put (6 : Nat))) ≤ x_6 →
 (decide (numI (itOf x.put (1 : Nat)) = x.s) = true →
 (decide (numI (itOf x.put (2 : Nat)) = x.q) = true →
 (decide (numI (itOf x.put (3 : Nat)) = x.e) = true →
 (decide (numI (itOf x.put (4 : Nat)) = x.v) = true →
 (decide (cutIn (itOf x.put (5 : Nat)) = x.root) = true →
 (decide (cutIn (itOf x.put (7 : Nat)) = x.proof) = true →
 ((decide (numI (itOf x.put (8 : Nat)) = (1 : Int)) == x.more) = true →
 (((false = false ∧
 (0 : Nat) + itemsN (cutIn (itOf x.put (6 : Nat))) ≤ itemsN (cutIn (itOf x.put (6 : Nat)))) ∧
 (z = z ∧
 o = o ∧
 (0 : Nat) + x.n ≤ x.n) ∧
 True) ∧
 itemsN (cutIn (itOf x.put (6 : Nat))) < (9223372036854775808 : Nat)) ∧
 ((!sameE { s := (0 : Int), q := (0 : Int), e := (0 : Int), v := (0 : Int), root := [], n := itemsN (cutIn (itOf x.put (6 : Nat))), f := fun (i : Nat) => cutIn (subOf (itOf x.put (6 : Nat)) i (0 : Nat)), g := fun (i : Nat) => cutIn (subOf (itOf x.put (6 : Nat)) i (1 : Nat)), proof := [], more := false : Rp } { s := (0 : Int), q := (0 : Int), e := (0 : Int), v := (0 : Int), root := [], n := x.n, f := x.f, g := x.g, proof := [], more := false : Rp }) = true →
 sameVal (SV.bool true false) (SV.bool false true)) ∧
 ((!sameE { s := (0 : Int), q := (0 : Int), e := (0 : Int), v := (0 : Int), root := [], n := itemsN (cutIn (itOf x.put (6 : Nat))), f := fun (i : Nat) => cutIn (subOf (itOf x.put (6 : Nat)) i (0 : Nat)), g := fun (i : Nat) => cutIn (subOf (itOf x.put (6 : Nat)) i (1 : Nat)), proof := [], more := false : Rp } { s := (0 : Int), q := (0 : Int), e := (0 : Int), v := (0 : Int), root := [], n := x.n, f := x.f, g := x.g, proof := [], more := false : Rp }) = false →
 x.put.length < (1099511627776 : Nat) ∧
 ((!decide (kindI x.put = (1 : Int))) = true →
 sameVal (SV.bool true false) (SV.bool false true)) ∧
 ((!decide (kindI x.put = (1 : Int))) = false →
 (((True ∧
 True ∧
 True ∧
 True ∧
 True ∧
 (z = z ∧
 o = o ∧
 (0 : Nat) + x.n ≤ x.n) ∧
 True ∧
 True ∧
 True) ∧
 True) ∧
 True) ∧
 ((!decide ((0 : Int) = (0 : Int)) == x.ok) = true →
 sameVal (SV.bool true false) (SV.bool false true)) ∧
 ((!decide ((0 : Int) = (0 : Int)) == x.ok) = false →
 (((True ∧
 True ∧
 True ∧
 True ∧
 (z' = z' ∧
 o' = o' ∧
 (0 : Nat) + y.n ≤ y.n) ∧
 True) ∧
 True) ∧
 True) ∧
 y.ok = true ∧
 y.put.length < (1099511627776 : Nat) ∧
 getNoticeB y.put = true ∧
 ∀ (x : Nat), itemsN (cutIn (itOf y.put (5 : Nat))) ≤ x →
 (decide (numI (itOf y.put (1 : Nat)) = y.s) = true →
 (decide (numI (itOf y.put (2 : Nat)) = y.e) = true →
 (decide (numI (itOf y.put (3 : Nat)) = y.b) = true →
 (decide (cutIn (itOf y.put (4 : Nat)) = y.root) = true →
 (((false = false ∧
 (0 : Nat) + itemsN (cutIn (itOf y.put (5 : Nat))) ≤ itemsN (cutIn (itOf y.put (5 : Nat)))) ∧
 (z' = z' ∧
 o' = o' ∧
 (0 : Nat) + y.n ≤ y.n) ∧
 True) ∧
 itemsN (cutIn (itOf y.put (5 : Nat))) < (9223372036854775808 : Nat)) ∧
 (sameC { s := (0 : Int), e := (0 : Int), b := (0 : Int), root := [], n := itemsN (cutIn (itOf y.put (5 : Nat))), f := fun (i : Nat) => cutIn (subOf (itOf y.put (5 : Nat)) i (0 : Nat)), g := fun (i : Nat) => cutIn (subOf (itOf y.put (5 : Nat)) i (1 : Nat)), h := fun (i : Nat) => decide (numI (subOf (itOf y.put (5 : Nat)) i (2 : Nat)) = (1 : Int)) : Nt } { s := (0 : Int), e := (0 : Int), b := (0 : Int), root := [], n := y.n, f := y.f, g := y.g, h := y.h : Nt } = true →
 y.put.length < (1099511627776 : Nat) ∧
 (decide (kindI y.put = (2 : Int)) = true →
 (((True ∧
 True ∧
 True ∧
 True ∧
 (z' = z' ∧
 o' = o' ∧
 (0 : Nat) + y.n ≤ y.n) ∧
 True) ∧
 True) ∧
 True) ∧
 sameVal (SV.bool (true && true && false) (decide ((0 : Int) = (0 : Int)) == y.ok)) (SV.bool false true)) ∧
 (decide (kindI y.put = (2 : Int)) = false →
 sameVal (SV.bool true false) (SV.bool false true))) ∧
 (sameC { s := (0 : Int), e := (0 : Int), b := (0 : Int), root := [], n := itemsN (cutIn (itOf y.put (5 : Nat))), f := fun (i : Nat) => cutIn (subOf (itOf y.put (5 : Nat)) i (0 : Nat)), g := fun (i : Nat) => cutIn (subOf (itOf y.put (5 : Nat)) i (1 : Nat)), h := fun (i : Nat) => decide (numI (subOf (itOf y.put (5 : Nat)) i (2 : Nat)) = (1 : Int)) : Nt } { s := (0 : Int), e := (0 : Int), b := (0 : Int), root := [], n := y.n, f := y.f, g := y.g, h := y.h : Nt } = false →
 sameVal (SV.bool true false) (SV.bool false true))) ∧
 (decide (cutIn (itOf y.put (4 : Nat)) = y.root) = false →
 sameVal (SV.bool true false) (SV.bool false true))) ∧
 (decide (numI (itOf y.put (3 : Nat)) = y.b) = false →
 sameVal (SV.bool true false) (SV.bool false true))) ∧
 (decide (numI (itOf y.put (2 : Nat)) = y.e) = false →
 sameVal (SV.bool true false) (SV.bool false true))) ∧
 (decide (numI (itOf y.put (1 : Nat)) = y.s) = false →
 sameVal (SV.bool true false) (SV.bool false true)))))) ∧
 ((decide (numI (itOf x.put (8 : Nat)) = (1 : Int)) == x.more) = false →
 sameVal (SV.bool true false) (SV.bool false true))) ∧
 (decide (cutIn (itOf x.put (7 : Nat)) = x.proof) = false →
 sameVal (SV.bool true false) (SV.bool false true))) ∧
 (decide (cutIn (itOf x.put (5 : Nat)) = x.root) = false →
 sameVal (SV.bool true false) (SV.bool false true))) ∧
 (decide (numI (itOf x.put (4 : Nat)) = x.v) = false →
 sameVal (SV.bool true false) (SV.bool false true))) ∧
 (decide (numI (itOf x.put (3 : Nat)) = x.e) = false →
 sameVal (SV.bool true false) (SV.bool false true))) ∧
 (decide (numI (itOf x.put (2 : Nat)) = x.q) = false →
 sameVal (SV.bool true false) (SV.bool false true))) ∧
 (decide (numI (itOf x.put (1 : Nat)) = x.s) = false →
 sameVal (SV.bool true false) (SV.bool false true))))))) := by kernel_rfl
theorem vcFBack7 (a : Ak) (x : Rp) (y : Nt) (z z' : Bool) (o c o' c' : Nat) (key key' : Option Nat) : VC.holds (backVC true true true a x y z z' o c o' c' key key') = (True ∧
 (((True ∧
 True ∧
 True ∧
 True ∧
 True ∧
 (z = z ∧
 o = o ∧
 (0 : Nat) + x.n ≤ x.n) ∧
 True ∧
 True ∧
 True) ∧
 (True ∧
 True ∧
 True ∧
 True ∧
 (z' = z' ∧
 o' = o' ∧
 (0 : Nat) + y.n ≤ y.n) ∧
 True) ∧
 True) ∧
 True) ∧
 ∀ (x_1 : Bool), ((!x_1) = true →
 sameVal (SV.bool true true) (SV.bool false true)) ∧
 ((!x_1) = false →
 (decide ((50 : Int) < (↑a.key.length : Int)) = true →
 sameVal (SV.bool true true) (SV.bool false true)) ∧
 (decide ((50 : Int) < (↑a.key.length : Int)) = false →
 (decide ((50 : Int) < (↑a.to.length : Int)) = true →
 sameVal (SV.bool true true) (SV.bool false true)) ∧
 (decide ((50 : Int) < (↑a.to.length : Int)) = false →
 True ∧
 a.ok = true ∧
 a.put.length < (1099511627776 : Nat) ∧
 getAskB a.put = true ∧
 ((!(decide (a.k = numI (itOf a.put (1 : Nat))) && (decide (a.s = numI (itOf a.put (2 : Nat))) && (decide (a.q = numI (itOf a.put (3 : Nat))) && (decide (a.a = numI (itOf a.put (4 : Nat)) - (1 : Int)) && (decide (a.key = cutIn (itOf a.put (5 : Nat))) && (decide (a.to = cutIn (itOf a.put (6 : Nat))) && (decide (a.lim = numI (itOf a.put (7 : Nat))) && true)))))))) = true →
 sameVal (SV.bool true false) (SV.bool false true)) ∧
 ((!(decide (a.k = numI (itOf a.put (1 : Nat))) && (decide (a.s = numI (itOf a.put (2 : Nat))) && (decide (a.q = numI (itOf a.put (3 : Nat))) && (decide (a.a = numI (itOf a.put (4 : Nat)) - (1 : Int)) && (decide (a.key = cutIn (itOf a.put (5 : Nat))) && (decide (a.to = cutIn (itOf a.put (6 : Nat))) && (decide (a.lim = numI (itOf a.put (7 : Nat))) && true)))))))) = false →
 a.put.length < (1099511627776 : Nat) ∧
 ((!decide (kindI a.put = (0 : Int))) = true →
 sameVal (SV.bool true false) (SV.bool false true)) ∧
 ((!decide (kindI a.put = (0 : Int))) = false →
 True ∧
 ((!decide ((0 : Int) = (0 : Int)) == a.ok) = true →
 sameVal (SV.bool true false) (SV.bool false true)) ∧
 ((!decide ((0 : Int) = (0 : Int)) == a.ok) = false →
 (((True ∧
 True ∧
 True ∧
 True ∧
 True ∧
 (z = z ∧
 o = o ∧
 (0 : Nat) + x.n ≤ x.n) ∧
 True ∧
 True ∧
 True) ∧
 True) ∧
 True) ∧
 x.ok = true ∧
 x.put.length < (1099511627776 : Nat) ∧
 getReplyB x.put = true ∧
 ∀ (x_8 : Nat), itemsN (cutIn (itOf x.put (6 : Nat))) ≤ x_8 →
 (decide (numI (itOf x.put (1 : Nat)) = x.s) = true →
 (decide (numI (itOf x.put (2 : Nat)) = x.q) = true →
 (decide (numI (itOf x.put (3 : Nat)) = x.e) = true →
 (decide (numI (itOf x.put (4 : Nat)) = x.v) = true →
 (decide (cutIn (itOf x.put (5 : Nat)) = x.root) = true →
 (decide (cutIn (itOf x.put (7 : Nat)) = x.proof) = true →
 ((decide (numI (itOf x.put (8 : Nat)) = (1 : Int)) == x.more) = true →
 (((false = false ∧
 (0 : Nat) + itemsN (cutIn (itOf x.put (6 : Nat))) ≤ itemsN (cutIn (itOf x.put (6 : Nat)))) ∧
 (z = z ∧
 o = o ∧
 (0 : Nat) + x.n ≤ x.n) ∧
 True) ∧
 itemsN (cutIn (itOf x.put (6 : Nat))) < (9223372036854775808 : Nat)) ∧
 ((!sameE { s := (0 : Int), q := (0 : Int), e := (0 : Int), v := (0 : Int), root := [], n := itemsN (cutIn (itOf x.put (6 : Nat))), f := fun (i : Nat) => cutIn (subOf (itOf x.put (6 : Nat)) i (0 : Nat)), g := fun (i : Nat) => cutIn (subOf (itOf x.put (6 : Nat)) i (1 : Nat)), proof := [], more := false : Rp } { s := (0 : Int), q := (0 : Int), e := (0 : Int), v := (0 : Int), root := [], n := x.n, f := x.f, g := x.g, proof := [], more := false : Rp }) = true →
 sameVal (SV.bool true false) (SV.bool false true)) ∧
 ((!sameE { s := (0 : Int), q := (0 : Int), e := (0 : Int), v := (0 : Int), root := [], n := itemsN (cutIn (itOf x.put (6 : Nat))), f := fun (i : Nat) => cutIn (subOf (itOf x.put (6 : Nat)) i (0 : Nat)), g := fun (i : Nat) => cutIn (subOf (itOf x.put (6 : Nat)) i (1 : Nat)), proof := [], more := false : Rp } { s := (0 : Int), q := (0 : Int), e := (0 : Int), v := (0 : Int), root := [], n := x.n, f := x.f, g := x.g, proof := [], more := false : Rp }) = false →
 x.put.length < (1099511627776 : Nat) ∧
 ((!decide (kindI x.put = (1 : Int))) = true →
 sameVal (SV.bool true false) (SV.bool false true)) ∧
 ((!decide (kindI x.put = (1 : Int))) = false →
 (((True ∧
 True ∧
 True ∧
 True ∧
 True ∧
 (z = z ∧
 o = o ∧
 (0 : Nat) + x.n ≤ x.n) ∧
 True ∧
 True ∧
 True) ∧
 True) ∧
 True) ∧
 ((!decide ((0 : Int) = (0 : Int)) == x.ok) = true →
 sameVal (SV.bool true false) (SV.bool false true)) ∧
 ((!decide ((0 : Int) = (0 : Int)) == x.ok) = false →
 (((True ∧
 True ∧
 True ∧
 True ∧
 (z' = z' ∧
 o' = o' ∧
 (0 : Nat) + y.n ≤ y.n) ∧
 True) ∧
 True) ∧
 True) ∧
 y.ok = true ∧
 y.put.length < (1099511627776 : Nat) ∧
 getNoticeB y.put = true ∧
 ∀ (x : Nat), itemsN (cutIn (itOf y.put (5 : Nat))) ≤ x →
 (decide (numI (itOf y.put (1 : Nat)) = y.s) = true →
 (decide (numI (itOf y.put (2 : Nat)) = y.e) = true →
 (decide (numI (itOf y.put (3 : Nat)) = y.b) = true →
 (decide (cutIn (itOf y.put (4 : Nat)) = y.root) = true →
 (((false = false ∧
 (0 : Nat) + itemsN (cutIn (itOf y.put (5 : Nat))) ≤ itemsN (cutIn (itOf y.put (5 : Nat)))) ∧
 (z' = z' ∧
 o' = o' ∧
 (0 : Nat) + y.n ≤ y.n) ∧
 True) ∧
 itemsN (cutIn (itOf y.put (5 : Nat))) < (9223372036854775808 : Nat)) ∧
 (sameC { s := (0 : Int), e := (0 : Int), b := (0 : Int), root := [], n := itemsN (cutIn (itOf y.put (5 : Nat))), f := fun (i : Nat) => cutIn (subOf (itOf y.put (5 : Nat)) i (0 : Nat)), g := fun (i : Nat) => cutIn (subOf (itOf y.put (5 : Nat)) i (1 : Nat)), h := fun (i : Nat) => decide (numI (subOf (itOf y.put (5 : Nat)) i (2 : Nat)) = (1 : Int)) : Nt } { s := (0 : Int), e := (0 : Int), b := (0 : Int), root := [], n := y.n, f := y.f, g := y.g, h := y.h : Nt } = true →
 y.put.length < (1099511627776 : Nat) ∧
 (decide (kindI y.put = (2 : Int)) = true →
 (((True ∧
 True ∧
 True ∧
 True ∧
 (z' = z' ∧
 o' = o' ∧
 (0 : Nat) + y.n ≤ y.n) ∧
 True) ∧
 True) ∧
 True) ∧
 sameVal (SV.bool (true && true && false) (decide ((0 : Int) = (0 : Int)) == y.ok)) (SV.bool false true)) ∧
 (decide (kindI y.put = (2 : Int)) = false →
 sameVal (SV.bool true false) (SV.bool false true))) ∧
 (sameC { s := (0 : Int), e := (0 : Int), b := (0 : Int), root := [], n := itemsN (cutIn (itOf y.put (5 : Nat))), f := fun (i : Nat) => cutIn (subOf (itOf y.put (5 : Nat)) i (0 : Nat)), g := fun (i : Nat) => cutIn (subOf (itOf y.put (5 : Nat)) i (1 : Nat)), h := fun (i : Nat) => decide (numI (subOf (itOf y.put (5 : Nat)) i (2 : Nat)) = (1 : Int)) : Nt } { s := (0 : Int), e := (0 : Int), b := (0 : Int), root := [], n := y.n, f := y.f, g := y.g, h := y.h : Nt } = false →
 sameVal (SV.bool true false) (SV.bool false true))) ∧
 (decide (cutIn (itOf y.put (4 : Nat)) = y.root) = false →
 sameVal (SV.bool true false) (SV.bool false true))) ∧
 (decide (numI (itOf y.put (3 : Nat)) = y.b) = false →
 sameVal (SV.bool true false) (SV.bool false true))) ∧
 (decide (numI (itOf y.put (2 : Nat)) = y.e) = false →
 sameVal (SV.bool true false) (SV.bool false true))) ∧
 (decide (numI (itOf y.put (1 : Nat)) = y.s) = false →
 sameVal (SV.bool true false) (SV.bool false true)))))) ∧
 ((decide (numI (itOf x.put (8 : Nat)) = (1 : Int)) == x.more) = false →
 sameVal (SV.bool true false) (SV.bool false true))) ∧
 (decide (cutIn (itOf x.put (7 : Nat)) = x.proof) = false →
 sameVal (SV.bool true false) (SV.bool false true))) ∧
 (decide (cutIn (itOf x.put (5 : Nat)) = x.root) = false →
 sameVal (SV.bool true false) (SV.bool false true))) ∧
 (decide (numI (itOf x.put (4 : Nat)) = x.v) = false →
 sameVal (SV.bool true false) (SV.bool false true))) ∧
 (decide (numI (itOf x.put (3 : Nat)) = x.e) = false →
 sameVal (SV.bool true false) (SV.bool false true))) ∧
 (decide (numI (itOf x.put (2 : Nat)) = x.q) = false →
 sameVal (SV.bool true false) (SV.bool false true))) ∧
 (decide (numI (itOf x.put (1 : Nat)) = x.s) = false →
 sameVal (SV.bool true false) (SV.bool false true))))))))) := by kernel_rfl
end Go.Proofs.YtocikfhejpilaaaDoor
