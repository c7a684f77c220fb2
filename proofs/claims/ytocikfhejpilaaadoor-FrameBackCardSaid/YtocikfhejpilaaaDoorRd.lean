/-
  Frame: FrameBack: the plain law: what is put is read again.
-/
import Derived.Test.YtocikfhejpilaaaDoorRc
import Derived.Test.YtocikfhejpilaaaDoorRa
import Derived.Test.YtocikfhejpilaaaDoorRb
namespace Go.Proofs.YtocikfhejpilaaaDoor
open Go Sx
set_option maxRecDepth 20000

attribute [local irreducible] numI itOf subOf itemsN itemsB itemAt cutIn cutB cutL cutRest getB num getReplyB getAskB getNoticeB kindI
theorem ask_reads {a : Ak} (h : a.ok = true) : getAskB a.put = true ∧ a.put.length < 1099511627776 ∧ numI (itOf a.put 1) = a.k ∧ numI (itOf a.put 2) = a.s ∧ numI (itOf a.put 3) = a.q ∧ numI (itOf a.put 4) - 1 = a.a ∧
    cutIn (itOf a.put 5) = a.key ∧ cutIn (itOf a.put 6) = a.to ∧ numI (itOf a.put 7) = a.lim ∧ kindI a.put = 0 := by
  obtain ⟨k1, k2, k3⟩ := kind_ask h
  have s := (Ak.size h).2
  have e1 := congrArg Ak.k k2
  have e2 := congrArg Ak.s k2
  have e3 := congrArg Ak.q k2
  have e4 := congrArg Ak.a k2
  have e5 := congrArg Ak.key k2
  have e6 := congrArg Ak.to k2
  have e7 := congrArg Ak.lim k2
  simp only [askD] at e1 e2 e3 e4 e5 e6 e7
  exact ⟨k1, by omega, e1, e2, e3, e4, e5, e6, e7, k3⟩
theorem listOf_small {l : List (List UInt8)} {n : Nat} (h : (flat l).length ≤ n) : (listOf l).length ≤ n + 9 := by
  have := listOf_len l; omega
theorem reply_reads {x : Rp} (h : x.ok = true) : getReplyB x.put = true ∧ x.put.length < 1099511627776 ∧ numI (itOf x.put 1) = x.s ∧ numI (itOf x.put 2) = x.q ∧ numI (itOf x.put 3) = x.e ∧ numI (itOf x.put 4) = x.v ∧
    cutIn (itOf x.put 5) = x.root ∧ cutIn (itOf x.put 7) = x.proof ∧ (decide (numI (itOf x.put 8) = 1) == x.more) = true ∧ kindI x.put = 1 ∧ itemsN (cutIn (itOf x.put 6)) < 9223372036854775808 ∧
    sameE ⟨0, 0, 0, 0, [], itemsN (cutIn (itOf x.put 6)), fun i => cutIn (subOf (itOf x.put 6) i 0), fun i => cutIn (subOf (itOf x.put 6) i 1), [], false⟩ ⟨0, 0, 0, 0, [], x.n, x.f, x.g, [], false⟩ = true := by
  obtain ⟨k1, k2, k3⟩ := kind_reply h
  have hs := Rp.ok_small h
  have s := listOf_small (Rp.items_len hs)
  obtain ⟨l1, l2, l3, l4, l5, l6, l7, l8, l9, l10⟩ := k2
  simp only [replyD] at l1 l2 l3 l4 l5 l6 l7 l8 l9 l10
  refine ⟨k1, by rw [Rp.put]; omega, l1, l2, l3, l4, l5, l9, by rw [l10]; exact beq_self_eq_true _, k3, by have := hs.n; omega, ?_⟩
  simp only [sameE]
  rw [decide_eq_true (by omega), Bool.true_and, List.all_eq_true]
  intro i hi
  rw [List.mem_range] at hi
  simp only [rowEqE, l7 i hi, l8 i hi, decide_true, Bool.and_self]
theorem notice_reads {x : Nt} (h : x.ok = true) : getNoticeB x.put = true ∧ x.put.length < 1099511627776 ∧ numI (itOf x.put 1) = x.s ∧ numI (itOf x.put 2) = x.e ∧ numI (itOf x.put 3) = x.b ∧
    cutIn (itOf x.put 4) = x.root ∧ kindI x.put = 2 ∧ itemsN (cutIn (itOf x.put 5)) < 9223372036854775808 ∧
    sameC ⟨0, 0, 0, [], itemsN (cutIn (itOf x.put 5)), fun i => cutIn (subOf (itOf x.put 5) i 0), fun i => cutIn (subOf (itOf x.put 5) i 1), fun i => decide (numI (subOf (itOf x.put 5) i 2) = 1)⟩ ⟨0, 0, 0, [], x.n, x.f, x.g, x.h⟩ = true := by
  obtain ⟨k1, k2, k3⟩ := kind_notice h
  have hs := Nt.ok_small h
  have s := listOf_small (Nt.items_len hs)
  obtain ⟨l1, l2, l3, l4, l5, l6, l7, l8⟩ := k2
  simp only [noticeD] at l1 l2 l3 l4 l5 l6 l7 l8
  refine ⟨k1, by rw [Nt.put]; omega, l1, l2, l3, l4, k3, by have := hs.n; omega, ?_⟩
  simp only [sameC]
  rw [decide_eq_true (by omega), Bool.true_and, List.all_eq_true]
  intro i hi
  rw [List.mem_range] at hi
  simp only [rowEqC, l6 i hi, l7 i hi, l8 i hi, decide_true, Bool.and_self]
end Go.Proofs.YtocikfhejpilaaaDoor
/-
  Frame: FrameBack: the run, case by case.
-/
namespace Go.Proofs.YtocikfhejpilaaaDoor
open Go Sx
set_option maxRecDepth 20000

attribute [local irreducible] numI itOf subOf itemsN itemsB itemAt cutIn cutB cutL cutRest getB num getReplyB getAskB getNoticeB kindI
set_option maxHeartbeats 1000000 in
theorem fback_0 {a : Ak} {x : Rp} {y : Nt} (ha : a.ok = false) (hx : x.ok = false) (hy : y.ok = false) (z z' : Bool) (o c o' c' : Nat) (key key' : Option Nat) : Holds (backVC false false false a x y z z' o c o' c' key key') := by
  refine Holds.of_eq (vcFBack0 a x y z z' o c o' c' key key') ?_
  have yes : sameVal (.bool true true) (.bool false true) := sure rfl
  have q1 : (!true == true) = false := rfl
  have q2 : (!decide ((1 : Int) = 0) == false) = false := rfl
  have w1 : 0 < 1099511627776 := by omega
  have w2 : 0 < 9223372036854775808 := by omega
  simp only [yes, q1, q2, w1, w2, ha, hx, hy, Nat.zero_add, Nat.le_refl, decide_true, Bool.and_true, Bool.and_self, Bool.not_true, Bool.not_false, Bool.true_eq_false, Bool.false_eq_true, false_imp_iff, forall_const, true_and, and_true, imp_self, implies_true]
  repeat' first
    | refine And.intro ?_ ?_
    | intro (_ : Bool)
    | intro (_ : _ = true)
    | intro (_ : _ = false)
    | intro (_ : Nat)
    | intro (_ : (_ : Nat) ≤ _)
    | fail
  all_goals first
    | exact sure rfl
    | omega
set_option maxHeartbeats 1000000 in
theorem fback_1 {a : Ak} {x : Rp} {y : Nt} (ha : a.ok = true) (hx : x.ok = false) (hy : y.ok = false) (z z' : Bool) (o c o' c' : Nat) (key key' : Option Nat) : Holds (backVC true false false a x y z z' o c o' c' key key') := by
  refine Holds.of_eq (vcFBack1 a x y z z' o c o' c' key key') ?_
  have yes : sameVal (.bool true true) (.bool false true) := sure rfl
  have q1 : (!true == true) = false := rfl
  have q2 : (!decide ((1 : Int) = 0) == false) = false := rfl
  have w1 : 0 < 1099511627776 := by omega
  have w2 : 0 < 9223372036854775808 := by omega
  obtain ⟨a0, a1, a2, a3, a4, a5, a6, a7, a8, a9⟩ := ask_reads ha
  simp only [yes, q1, q2, w1, w2, ha, hx, hy, a0, a1, a2, a3, a4, a5, a6, a7, a8, a9, Nat.zero_add, Nat.le_refl, decide_true, Bool.and_true, Bool.and_self, Bool.not_true, Bool.not_false, Bool.true_eq_false, Bool.false_eq_true, false_imp_iff, forall_const, true_and, and_true, imp_self, implies_true]
  repeat' first
    | refine And.intro ?_ ?_
    | intro (_ : Bool)
    | intro (_ : _ = true)
    | intro (_ : _ = false)
    | intro (_ : Nat)
    | intro (_ : (_ : Nat) ≤ _)
    | fail
  all_goals first
    | exact sure rfl
    | omega
set_option maxHeartbeats 1000000 in
theorem fback_2 {a : Ak} {x : Rp} {y : Nt} (ha : a.ok = false) (hx : x.ok = true) (hy : y.ok = false) (z z' : Bool) (o c o' c' : Nat) (key key' : Option Nat) : Holds (backVC false true false a x y z z' o c o' c' key key') := by
  refine Holds.of_eq (vcFBack2 a x y z z' o c o' c' key key') ?_
  have yes : sameVal (.bool true true) (.bool false true) := sure rfl
  have q1 : (!true == true) = false := rfl
  have q2 : (!decide ((1 : Int) = 0) == false) = false := rfl
  have w1 : 0 < 1099511627776 := by omega
  have w2 : 0 < 9223372036854775808 := by omega
  obtain ⟨r0, r1, r2, r3, r4, r5, r6, r7, r8, r9, r10, r11⟩ := reply_reads hx
  simp only [yes, q1, q2, w1, w2, ha, hx, hy, r0, r1, r2, r3, r4, r5, r6, r7, r8, r9, r10, r11, Nat.zero_add, Nat.le_refl, decide_true, Bool.and_true, Bool.and_self, Bool.not_true, Bool.not_false, Bool.true_eq_false, Bool.false_eq_true, false_imp_iff, forall_const, true_and, and_true, imp_self, implies_true]
  repeat' first
    | refine And.intro ?_ ?_
    | intro (_ : Bool)
    | intro (_ : _ = true)
    | intro (_ : _ = false)
    | intro (_ : Nat)
    | intro (_ : (_ : Nat) ≤ _)
    | fail
  all_goals first
    | exact sure rfl
    | omega
set_option maxHeartbeats 1000000 in
theorem fback_3 {a : Ak} {x : Rp} {y : Nt} (ha : a.ok = true) (hx : x.ok = true) (hy : y.ok = false) (z z' : Bool) (o c o' c' : Nat) (key key' : Option Nat) : Holds (backVC true true false a x y z z' o c o' c' key key') := by
  refine Holds.of_eq (vcFBack3 a x y z z' o c o' c' key key') ?_
  have yes : sameVal (.bool true true) (.bool false true) := sure rfl
  have q1 : (!true == true) = false := rfl
  have q2 : (!decide ((1 : Int) = 0) == false) = false := rfl
  have w1 : 0 < 1099511627776 := by omega
  have w2 : 0 < 9223372036854775808 := by omega
  obtain ⟨a0, a1, a2, a3, a4, a5, a6, a7, a8, a9⟩ := ask_reads ha
  obtain ⟨r0, r1, r2, r3, r4, r5, r6, r7, r8, r9, r10, r11⟩ := reply_reads hx
  simp only [yes, q1, q2, w1, w2, ha, hx, hy, a0, a1, a2, a3, a4, a5, a6, a7, a8, a9, r0, r1, r2, r3, r4, r5, r6, r7, r8, r9, r10, r11, Nat.zero_add, Nat.le_refl, decide_true, Bool.and_true, Bool.and_self, Bool.not_true, Bool.not_false, Bool.true_eq_false, Bool.false_eq_true, false_imp_iff, forall_const, true_and, and_true, imp_self, implies_true]
  repeat' first
    | refine And.intro ?_ ?_
    | intro (_ : Bool)
    | intro (_ : _ = true)
    | intro (_ : _ = false)
    | intro (_ : Nat)
    | intro (_ : (_ : Nat) ≤ _)
    | fail
  all_goals first
    | exact sure rfl
    | omega
set_option maxHeartbeats 1000000 in
theorem fback_4 {a : Ak} {x : Rp} {y : Nt} (ha : a.ok = false) (hx : x.ok = false) (hy : y.ok = true) (z z' : Bool) (o c o' c' : Nat) (key key' : Option Nat) : Holds (backVC false false true a x y z z' o c o' c' key key') := by
  refine Holds.of_eq (vcFBack4 a x y z z' o c o' c' key key') ?_
  have yes : sameVal (.bool true true) (.bool false true) := sure rfl
  have q1 : (!true == true) = false := rfl
  have q2 : (!decide ((1 : Int) = 0) == false) = false := rfl
  have w1 : 0 < 1099511627776 := by omega
  have w2 : 0 < 9223372036854775808 := by omega
  obtain ⟨n0, n1, n2, n3, n4, n5, n6, n7, n8⟩ := notice_reads hy
  simp only [yes, q1, q2, w1, w2, ha, hx, hy, n0, n1, n2, n3, n4, n5, n6, n7, n8, Nat.zero_add, Nat.le_refl, decide_true, Bool.and_true, Bool.and_self, Bool.not_true, Bool.not_false, Bool.true_eq_false, Bool.false_eq_true, false_imp_iff, forall_const, true_and, and_true, imp_self, implies_true]
  repeat' first
    | refine And.intro ?_ ?_
    | intro (_ : Bool)
    | intro (_ : _ = true)
    | intro (_ : _ = false)
    | intro (_ : Nat)
    | intro (_ : (_ : Nat) ≤ _)
    | fail
  all_goals first
    | exact sure rfl
    | omega
set_option maxHeartbeats 1000000 in
theorem fback_5 {a : Ak} {x : Rp} {y : Nt} (ha : a.ok = true) (hx : x.ok = false) (hy : y.ok = true) (z z' : Bool) (o c o' c' : Nat) (key key' : Option Nat) : Holds (backVC true false true a x y z z' o c o' c' key key') := by
  refine Holds.of_eq (vcFBack5 a x y z z' o c o' c' key key') ?_
  have yes : sameVal (.bool true true) (.bool false true) := sure rfl
  have q1 : (!true == true) = false := rfl
  have q2 : (!decide ((1 : Int) = 0) == false) = false := rfl
  have w1 : 0 < 1099511627776 := by omega
  have w2 : 0 < 9223372036854775808 := by omega
  obtain ⟨a0, a1, a2, a3, a4, a5, a6, a7, a8, a9⟩ := ask_reads ha
  obtain ⟨n0, n1, n2, n3, n4, n5, n6, n7, n8⟩ := notice_reads hy
  simp only [yes, q1, q2, w1, w2, ha, hx, hy, a0, a1, a2, a3, a4, a5, a6, a7, a8, a9, n0, n1, n2, n3, n4, n5, n6, n7, n8, Nat.zero_add, Nat.le_refl, decide_true, Bool.and_true, Bool.and_self, Bool.not_true, Bool.not_false, Bool.true_eq_false, Bool.false_eq_true, false_imp_iff, forall_const, true_and, and_true, imp_self, implies_true]
  repeat' first
    | refine And.intro ?_ ?_
    | intro (_ : Bool)
    | intro (_ : _ = true)
    | intro (_ : _ = false)
    | intro (_ : Nat)
    | intro (_ : (_ : Nat) ≤ _)
    | fail
  all_goals first
    | exact sure rfl
    | omega
set_option maxHeartbeats 1000000 in
theorem fback_6 {a : Ak} {x : Rp} {y : Nt} (ha : a.ok = false) (hx : x.ok = true) (hy : y.ok = true) (z z' : Bool) (o c o' c' : Nat) (key key' : Option Nat) : Holds (backVC false true true a x y z z' o c o' c' key key') := by
  refine Holds.of_eq (vcFBack6 a x y z z' o c o' c' key key') ?_
  have yes : sameVal (.bool true true) (.bool false true) := sure rfl
  have q1 : (!true == true) = false := rfl
  have q2 : (!decide ((1 : Int) = 0) == false) = false := rfl
  have w1 : 0 < 1099511627776 := by omega
  have w2 : 0 < 9223372036854775808 := by omega
  obtain ⟨r0, r1, r2, r3, r4, r5, r6, r7, r8, r9, r10, r11⟩ := reply_reads hx
  obtain ⟨n0, n1, n2, n3, n4, n5, n6, n7, n8⟩ := notice_reads hy
  simp only [yes, q1, q2, w1, w2, ha, hx, hy, r0, r1, r2, r3, r4, r5, r6, r7, r8, r9, r10, r11, n0, n1, n2, n3, n4, n5, n6, n7, n8, Nat.zero_add, Nat.le_refl, decide_true, Bool.and_true, Bool.and_self, Bool.not_true, Bool.not_false, Bool.true_eq_false, Bool.false_eq_true, false_imp_iff, forall_const, true_and, and_true, imp_self, implies_true]
  repeat' first
    | refine And.intro ?_ ?_
    | intro (_ : Bool)
    | intro (_ : _ = true)
    | intro (_ : _ = false)
    | intro (_ : Nat)
    | intro (_ : (_ : Nat) ≤ _)
    | fail
  all_goals first
    | exact sure rfl
    | omega
set_option maxHeartbeats 1000000 in
theorem fback_7 {a : Ak} {x : Rp} {y : Nt} (ha : a.ok = true) (hx : x.ok = true) (hy : y.ok = true) (z z' : Bool) (o c o' c' : Nat) (key key' : Option Nat) : Holds (backVC true true true a x y z z' o c o' c' key key') := by
  refine Holds.of_eq (vcFBack7 a x y z z' o c o' c' key key') ?_
  have yes : sameVal (.bool true true) (.bool false true) := sure rfl
  have q1 : (!true == true) = false := rfl
  have q2 : (!decide ((1 : Int) = 0) == false) = false := rfl
  have w1 : 0 < 1099511627776 := by omega
  have w2 : 0 < 9223372036854775808 := by omega
  obtain ⟨a0, a1, a2, a3, a4, a5, a6, a7, a8, a9⟩ := ask_reads ha
  obtain ⟨r0, r1, r2, r3, r4, r5, r6, r7, r8, r9, r10, r11⟩ := reply_reads hx
  obtain ⟨n0, n1, n2, n3, n4, n5, n6, n7, n8⟩ := notice_reads hy
  simp only [yes, q1, q2, w1, w2, ha, hx, hy, a0, a1, a2, a3, a4, a5, a6, a7, a8, a9, r0, r1, r2, r3, r4, r5, r6, r7, r8, r9, r10, r11, n0, n1, n2, n3, n4, n5, n6, n7, n8, Nat.zero_add, Nat.le_refl, decide_true, Bool.and_true, Bool.and_self, Bool.not_true, Bool.not_false, Bool.true_eq_false, Bool.false_eq_true, false_imp_iff, forall_const, true_and, and_true, imp_self, implies_true]
  repeat' first
    | refine And.intro ?_ ?_
    | intro (_ : Bool)
    | intro (_ : _ = true)
    | intro (_ : _ = false)
    | intro (_ : Nat)
    | intro (_ : (_ : Nat) ≤ _)
    | fail
  all_goals first
    | exact sure rfl
    | omega
end Go.Proofs.YtocikfhejpilaaaDoor
/-
  Frame: FrameBack: from the cases to its calls.
-/
namespace Go.Proofs.YtocikfhejpilaaaDoor
open Go Sx Go.RowKit
set_option maxRecDepth 20000

theorem back_calls (a : Ak) (x : Rp) (y : Nt) (z z' : Bool) (o c o' c' : Nat) {W : World} (hW : GlobOk W) {b1 b2 : Nat} (h1 : Stood W b1 (seenR z o c x none).B) (h2 : Stood W b2 (seenC z' o' c' y none).B) :
    Calls Tryd.prog 3 (SV.vals (fun k => if k = 0 then b1 else b2) [a.sv, x.sv (.vslc 0 2 z o 0 x.n c), y.sv (.vslc 1 3 z' o' 0 y.n c')]).toArray W fun e W' => e = .returned (.bool true) ∧ Below W.heap.size W W' := by
  have go : ∀ pa pr pn, Holds (backVC pa pr pn a x y z z' o c o' c' none none) → Calls Tryd.prog 3 (SV.vals (fun k => if k = 0 then b1 else b2) [a.sv, x.sv (.vslc 0 2 z o 0 x.n c), y.sv (.vslc 1 3 z' o' 0 y.n c')]).toArray W fun e W' => e = .returned (.bool true) ∧ Below W.heap.size W W' :=
    fun pa pr pn h => run_views (goodFB pa pr pn) Tryd.func3 (by kernel_rfl) (by kernel_rfl) h rfl hW h1 h2
  cases ha : a.ok <;> cases hx : x.ok <;> cases hy : y.ok
  · exact go _ _ _ (fback_0 ha hx hy z z' o c o' c' none none)
  · exact go _ _ _ (fback_4 ha hx hy z z' o c o' c' none none)
  · exact go _ _ _ (fback_2 ha hx hy z z' o c o' c' none none)
  · exact go _ _ _ (fback_6 ha hx hy z z' o c o' c' none none)
  · exact go _ _ _ (fback_1 ha hx hy z z' o c o' c' none none)
  · exact go _ _ _ (fback_5 ha hx hy z z' o c o' c' none none)
  · exact go _ _ _ (fback_3 ha hx hy z z' o c o' c' none none)
  · exact go _ _ _ (fback_7 ha hx hy z z' o c o' c' none none)
end Go.Proofs.YtocikfhejpilaaaDoor
