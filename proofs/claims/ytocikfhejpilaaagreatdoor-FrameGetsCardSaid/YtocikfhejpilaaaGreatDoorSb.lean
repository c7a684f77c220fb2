/-
  The reference's frame: the set-up.
-/
import Derived.Test.YtocikfhejpilaaaGreatDoorSa
import Derived.Test.YtocikfhejpilaaaGreatDoorPd
import Derived.Test.YtocikfhejpilaaaGreatDoorMg
namespace Go.Proofs.YtocikfhejpilaaaGreatDoor
open Go Sx
end Go.Proofs.YtocikfhejpilaaaGreatDoor
/-
  Conditions that the executor computes, written out by a program (vcgen.py).
-/
namespace Go.Proofs.YtocikfhejpilaaaGreatDoor
open Go Sx
set_option maxRecDepth 20000

theorem vcWithin2 (n a b : Int) (R : SV → Prop) : VC.holds (runP cfgG5 36 Tryz.f36 [.int .i64 false n, .int .i64 false a, .int .i64 false b] R) = ((decide (a ≤ n) = true →
 R (SV.bool (false && false) (decide (n ≤ b)))) ∧
 (decide (a ≤ n) = false →
 R (SV.bool true false))) := by kernel_rfl
theorem vcFNum2 (n : Int) (R : SV → Prop) : VC.holds (runP cfgG5 32 Tryz.f32 [.int .i64 false n] R) = (((0 : Int) ≤ n % (18446744073709551616 : Int) ∧
 n % (18446744073709551616 : Int) < (18446744073709551616 : Int)) ∧
 R (SV.str false (textOf (digits (n % (18446744073709551616 : Int)))))) := by kernel_rfl
theorem vcBit2 (b : Bool) (R : SV → Prop) : VC.holds (runP cfgG5 35 Tryz.f35 [.bool false b] R) = ((b = true →
 ((0 : Int) ≤ (1 : Int) ∧
 (1 : Int) < (18446744073709551616 : Int)) ∧
 R (SV.str false (textOf (digits (1 : Int))))) ∧
 (b = false →
 ((0 : Int) ≤ (0 : Int) ∧
 (0 : Int) < (18446744073709551616 : Int)) ∧
 R (SV.str false (textOf (digits (0 : Int)))))) := by kernel_rfl
theorem vcRoot2 (s : List UInt8) (R : SV → Prop) : VC.holds (runP cfgG5 37 Tryz.f37 [.str false s] R) = ((decide (s = []) = true →
 R (SV.bool true true)) ∧
 (decide (s = []) = false →
 R (SV.bool (false && true) (decide ((↑s.length : Int) = (32 : Int)))))) := by kernel_rfl
theorem vcWithin2A (n a b : Int) : VC.holds (runA cfgG5 36 Tryz.f36 [.int .i64 false n, .int .i64 false a, .int .i64 false b] (.fork (inRange n a b) fun b => .ret (.bool true b))) = ((decide (a ≤ n) = true →
 (inRange n a b = true →
 sameVal (SV.bool (false && false) (decide (n ≤ b))) (SV.bool true true)) ∧
 (inRange n a b = false →
 sameVal (SV.bool (false && false) (decide (n ≤ b))) (SV.bool true false))) ∧
 (decide (a ≤ n) = false →
 (inRange n a b = true →
 sameVal (SV.bool true false) (SV.bool true true)) ∧
 (inRange n a b = false →
 sameVal (SV.bool true false) (SV.bool true false)))) := by kernel_rfl
end Go.Proofs.YtocikfhejpilaaaGreatDoor
/-
  The reference's frame: numbers, flags, ranges, roots: the contracts; what may be: the set-up.
-/
namespace Go.Proofs.YtocikfhejpilaaaGreatDoor
open Go Sx
set_option maxRecDepth 20000

theorem within2_ok : CallOk Tryz.prog 36 (purePT withinSpec) := by
  refine pure_ok goodG5 (n := 20) (fn := Tryz.f36) Tryz.func36 (by kernel_rfl) (by kernel_rfl) ?_
  intro args p r h hp
  unfold withinSpec at h
  split at h
  · rename_i n a b
    injection h with h; injection h with h1 h2; subst h1; subst h2
    exact ⟨rfl, rfl, Holds.of_eq (vcWithin2 n a b _) ⟨fun h => bool_same (by simp only [inRange, h, Bool.true_and]), fun h => bool_same (by simp only [inRange, h, Bool.false_and])⟩⟩
  · cases h
theorem fnum2_ok : CallOk Tryz.prog 32 (purePT fnumSpec) := by
  refine pure_ok goodG5 (n := 20) (fn := Tryz.f32) Tryz.func32 (by kernel_rfl) (by kernel_rfl) ?_
  intro args p r h hp
  unfold fnumSpec at h
  split at h
  · rename_i n
    injection h with h; injection h with h1 h2; subst h1; subst h2
    have e : n % 18446744073709551616 = n := by omega
    refine ⟨rfl, rfl, Holds.of_eq (vcFNum2 n _) ?_⟩
    rw [e]
    exact ⟨by omega, fun _ => rfl⟩
  · cases h
theorem bit2_ok : CallOk Tryz.prog 35 (purePT flagSpec) := by
  refine pure_ok goodG5 (n := 20) (fn := Tryz.f35) Tryz.func35 (by kernel_rfl) (by kernel_rfl) ?_
  intro args p r h hp
  unfold flagSpec at h
  split at h
  · rename_i b
    injection h with h; injection h with h1 h2; subst h1; subst h2
    refine ⟨rfl, rfl, Holds.of_eq (vcBit2 b _) ⟨fun h => ⟨by omega, fun _ => by subst h; rfl⟩, fun h => ⟨by omega, fun _ => by subst h; rfl⟩⟩⟩
  · cases h
theorem root2_ok : CallOk Tryz.prog 37 (purePT rootSpec) := by
  refine pure_ok goodG5 (n := 20) (fn := Tryz.f37) Tryz.func37 (by kernel_rfl) (by kernel_rfl) ?_
  intro args p r h hp
  unfold rootSpec at h
  split at h
  · rename_i s
    injection h with h; injection h with h1 h2; subst h1; subst h2
    have e : decide (s = []) = decide ((s.length : Int) = 0) := by
      rw [decide_eq_decide]; cases s <;> simp; omega
    refine ⟨rfl, rfl, Holds.of_eq (vcRoot2 s _) ⟨fun h => bool_same ?_, fun h => bool_same ?_⟩⟩ <;> rw [e] at h <;> rw [rootOk, h] <;> rfl
  · cases h
noncomputable def listH1 : List (FuncId × PT) := (36, purePT withinSpec) :: (32, purePT fnumSpec) :: (35, purePT flagSpec) :: (37, purePT rootSpec) :: listG5
theorem listH1_ok : SummOk Tryz.prog (fun f => lookPT f listH1) := .cons within2_ok (purePT_mono _) (.cons fnum2_ok (purePT_mono _) (.cons bit2_ok (purePT_mono _) (.cons root2_ok (purePT_mono _) listG5_ok)))
noncomputable def cfgH1 : Cfg := { cfg0 with summ := fun f => lookPT f listH1 }
theorem goodH1 : Sx.Good Tryz.prog cfgH1 := ⟨mixes, listH1_ok, fns_ok⟩
def withinASpec : List SV → Option (Prop × Ans)
  | [.int .i64 false n, .int .i64 false a, .int .i64 false b] => some (True, .fork (inRange n a b) fun b => .ret (.bool true b))
  | _ => none
theorem within2A_ok : CallOk Tryz.prog 36 (ansPT withinASpec) := by
  refine ans_ok (n := 20) (fn := Tryz.f36) Tryz.func36 (by kernel_rfl) (by kernel_rfl) ?_
  intro args p a h hp
  unfold withinASpec at h
  split at h
  · rename_i n a b
    injection h with h; injection h with h1 h2; subst h1; subst h2
    refine ⟨_, goodG5, rfl, fun b => by cases b <;> exact rfl, Holds.of_eq (vcWithin2A n a b) ?_⟩
    unfold inRange
    cases h1 : decide (a ≤ n) <;> cases h2 : decide (n ≤ b) <;> simp [sameVal, SV.val]
  · cases h
noncomputable def listVA : List (FuncId × PT) := (36, ansLPT withinASpec) :: listH1
theorem listVA_ok : SummOk Tryz.prog (fun f => lookPT f listVA) := .cons (ansL_ok within2A_ok) (ansLPT_mono _) listH1_ok
noncomputable def cfgVA : Cfg := { cfg0 with summ := fun f => lookPT f listVA }
theorem goodVA : Sx.Good Tryz.prog cfgVA := ⟨mixes, listVA_ok, fns_ok⟩
noncomputable def listVN : List (FuncId × PT) := (36, sureLPT false withinASpec) :: listH1
theorem listVN_ok : SummOk Tryz.prog (fun f => lookPT f listVN) := .cons (sureL_ok within2A_ok) (sureLPT_mono _ _) listH1_ok
noncomputable def cfgVN0 : Cfg := { cfg0 with summ := fun f => lookPT f listVN }
theorem goodVN0 : Sx.Good Tryz.prog cfgVN0 := ⟨mixes, listVN_ok, fns_ok⟩
/-- An ask of a kind that is written out. -/
def Ak.svK (x : Ak) (k : Int) : SV := .agg [.int .i64 true k, .int .i64 false x.s, .int .i64 false x.q, .int .i64 false x.a, .str false x.key, .str false x.to, .int .i64 false x.lim]
noncomputable def cfgVR2 (x : Rp) : Cfg := { cfg0 with summ := fun f => lookPT f listH1, anns := fun f => if f = 14 then [(2, always (annUpto 3 x.n (rowOk x.f x.g)))] else [] }
noncomputable def cfgVN2 (x : Nt) : Cfg := { cfg0 with summ := fun f => lookPT f listH1, anns := fun f => if f = 15 then [(2, always (annUpto 3 x.n (rowOk x.f x.g)))] else [] }
theorem goodVR2 (x : Rp) : Sx.Good Tryz.prog (cfgVR2 x) := ⟨mixes, listH1_ok, fns_ok⟩
theorem goodVN2 (x : Nt) : Sx.Good Tryz.prog (cfgVN2 x) := ⟨mixes, listH1_ok, fns_ok⟩
end Go.Proofs.YtocikfhejpilaaaGreatDoor
/-
  Conditions that the executor computes, written out by a program (vcgen.py).
-/
namespace Go.Proofs.YtocikfhejpilaaaGreatDoor
open Go Sx
set_option maxRecDepth 20000

theorem vcVA2_0 (x : Ak) (R : SV → Prop) : VC.holds (runP cfgVA 13 Tryz.f13 [x.svK 0] R) = (True ∧
 True ∧
 (inRange x.q (1 : Int) (1048576 : Int) = true →
 ((!decide (x.s = (0 : Int))) = true →
 R (SV.bool true false)) ∧
 ((!decide (x.s = (0 : Int))) = false →
 True ∧
 (inRange x.a (-1 : Int) (1048576 : Int) = true →
 True ∧
 ((!decide (x.key = [])) = true →
 R (SV.bool true false)) ∧
 ((!decide (x.key = [])) = false →
 ((!decide (x.to = [])) = true →
 R (SV.bool true false)) ∧
 ((!decide (x.to = [])) = false →
 R (SV.bool (false && true) (decide (x.lim = (0 : Int))))))) ∧
 (inRange x.a (-1 : Int) (1048576 : Int) = false →
 R (SV.bool true false)))) ∧
 (inRange x.q (1 : Int) (1048576 : Int) = false →
 R (SV.bool true false))) := by kernel_rfl
theorem vcVA2_1 (x : Ak) (R : SV → Prop) : VC.holds (runP cfgVA 13 Tryz.f13 [x.svK 1] R) = (True ∧
 True ∧
 (inRange x.q (1 : Int) (1048576 : Int) = true →
 True ∧
 (inRange x.s (1 : Int) (1048576 : Int) = true →
 ((!decide (x.a = (0 : Int))) = true →
 R (SV.bool true false)) ∧
 ((!decide (x.a = (0 : Int))) = false →
 True ∧
 (decide ((6 : Int) < (↑x.key.length : Int)) = true →
 R (SV.bool true false)) ∧
 (decide ((6 : Int) < (↑x.key.length : Int)) = false →
 ((!decide (x.to = [])) = true →
 R (SV.bool true false)) ∧
 ((!decide (x.to = [])) = false →
 R (SV.bool (false && true) (decide (x.lim = (0 : Int)))))))) ∧
 (inRange x.s (1 : Int) (1048576 : Int) = false →
 R (SV.bool true false))) ∧
 (inRange x.q (1 : Int) (1048576 : Int) = false →
 R (SV.bool true false))) := by kernel_rfl
theorem vcVA2_2 (x : Ak) (R : SV → Prop) : VC.holds (runP cfgVA 13 Tryz.f13 [x.svK 2] R) = (True ∧
 True ∧
 (inRange x.q (1 : Int) (1048576 : Int) = true →
 True ∧
 (inRange x.s (1 : Int) (1048576 : Int) = true →
 ((!decide (x.a = (0 : Int))) = true →
 R (SV.bool true false)) ∧
 ((!decide (x.a = (0 : Int))) = false →
 True ∧
 (decide ((6 : Int) < (↑x.key.length : Int)) = true →
 R (SV.bool true false)) ∧
 (decide ((6 : Int) < (↑x.key.length : Int)) = false →
 ((!decide (x.to = [])) = true →
 R (SV.bool true false)) ∧
 ((!decide (x.to = [])) = false →
 True ∧
 (inRange x.lim (1 : Int) (8 : Int) = true →
 R (SV.bool true true)) ∧
 (inRange x.lim (1 : Int) (8 : Int) = false →
 R (SV.bool true false)))))) ∧
 (inRange x.s (1 : Int) (1048576 : Int) = false →
 R (SV.bool true false))) ∧
 (inRange x.q (1 : Int) (1048576 : Int) = false →
 R (SV.bool true false))) := by kernel_rfl
theorem vcVA2_3 (x : Ak) (R : SV → Prop) : VC.holds (runP cfgVA 13 Tryz.f13 [x.svK 3] R) = (True ∧
 True ∧
 (inRange x.q (1 : Int) (1048576 : Int) = true →
 True ∧
 (inRange x.s (1 : Int) (1048576 : Int) = true →
 ((!decide (x.a = (0 : Int))) = true →
 R (SV.bool true false)) ∧
 ((!decide (x.a = (0 : Int))) = false →
 True ∧
 (decide ((6 : Int) < (↑x.key.length : Int)) = true →
 R (SV.bool true false)) ∧
 (decide ((6 : Int) < (↑x.key.length : Int)) = false →
 ((!decide (x.to = [])) = true →
 R (SV.bool true false)) ∧
 ((!decide (x.to = [])) = false →
 R (SV.bool (false && true) (decide (x.lim = (0 : Int)))))))) ∧
 (inRange x.s (1 : Int) (1048576 : Int) = false →
 R (SV.bool true false))) ∧
 (inRange x.q (1 : Int) (1048576 : Int) = false →
 R (SV.bool true false))) := by kernel_rfl
theorem vcVA2_4 (x : Ak) (R : SV → Prop) : VC.holds (runP cfgVA 13 Tryz.f13 [x.svK 4] R) = (True ∧
 True ∧
 (inRange x.q (1 : Int) (1048576 : Int) = true →
 True ∧
 (inRange x.s (1 : Int) (1048576 : Int) = true →
 ((!decide (x.a = (0 : Int))) = true →
 R (SV.bool true false)) ∧
 ((!decide (x.a = (0 : Int))) = false →
 True ∧
 (decide ((6 : Int) < (↑x.key.length : Int)) = true →
 R (SV.bool true false)) ∧
 (decide ((6 : Int) < (↑x.key.length : Int)) = false →
 (decide ((6 : Int) < (↑x.to.length : Int)) = true →
 R (SV.bool true false)) ∧
 (decide ((6 : Int) < (↑x.to.length : Int)) = false →
 True ∧
 (inRange x.lim (1 : Int) (8 : Int) = true →
 R (SV.bool true true)) ∧
 (inRange x.lim (1 : Int) (8 : Int) = false →
 R (SV.bool true false)))))) ∧
 (inRange x.s (1 : Int) (1048576 : Int) = false →
 R (SV.bool true false))) ∧
 (inRange x.q (1 : Int) (1048576 : Int) = false →
 R (SV.bool true false))) := by kernel_rfl
theorem vcVA2_5 (x : Ak) (R : SV → Prop) : VC.holds (runP cfgVA 13 Tryz.f13 [x.svK 5] R) = (True ∧
 True ∧
 (inRange x.q (1 : Int) (1048576 : Int) = true →
 True ∧
 (inRange x.s (1 : Int) (1048576 : Int) = true →
 ((!decide (x.a = (0 : Int))) = true →
 R (SV.bool true false)) ∧
 ((!decide (x.a = (0 : Int))) = false →
 True ∧
 ((!decide (x.key = [])) = true →
 R (SV.bool true false)) ∧
 ((!decide (x.key = [])) = false →
 ((!decide (x.to = [])) = true →
 R (SV.bool true false)) ∧
 ((!decide (x.to = [])) = false →
 R (SV.bool (false && true) (decide (x.lim = (0 : Int)))))))) ∧
 (inRange x.s (1 : Int) (1048576 : Int) = false →
 R (SV.bool true false))) ∧
 (inRange x.q (1 : Int) (1048576 : Int) = false →
 R (SV.bool true false))) := by kernel_rfl
theorem vcVA2_6 (x : Ak) (R : SV → Prop) : VC.holds (runP cfgVA 13 Tryz.f13 [x.svK 6] R) = (True ∧
 True ∧
 (inRange x.q (1 : Int) (1048576 : Int) = true →
 True ∧
 (inRange x.s (1 : Int) (1048576 : Int) = true →
 ((!decide (x.a = (0 : Int))) = true →
 R (SV.bool true false)) ∧
 ((!decide (x.a = (0 : Int))) = false →
 True ∧
 ((!decide (x.key = [])) = true →
 R (SV.bool true false)) ∧
 ((!decide (x.key = [])) = false →
 ((!decide (x.to = [])) = true →
 R (SV.bool true false)) ∧
 ((!decide (x.to = [])) = false →
 R (SV.bool (false && true) (decide (x.lim = (0 : Int)))))))) ∧
 (inRange x.s (1 : Int) (1048576 : Int) = false →
 R (SV.bool true false))) ∧
 (inRange x.q (1 : Int) (1048576 : Int) = false →
 R (SV.bool true false))) := by kernel_rfl
theorem vcVA2_7 (x : Ak) (R : SV → Prop) : VC.holds (runP cfgVA 13 Tryz.f13 [x.svK 7] R) = (True ∧
 True ∧
 (inRange x.q (1 : Int) (1048576 : Int) = true →
 True ∧
 (inRange x.s (1 : Int) (1048576 : Int) = true →
 True ∧
 (inRange x.a (-1 : Int) (1048576 : Int) = true →
 True ∧
 ((!decide (x.key = [])) = true →
 R (SV.bool true false)) ∧
 ((!decide (x.key = [])) = false →
 ((!decide (x.to = [])) = true →
 R (SV.bool true false)) ∧
 ((!decide (x.to = [])) = false →
 R (SV.bool (false && true) (decide (x.lim = (0 : Int))))))) ∧
 (inRange x.a (-1 : Int) (1048576 : Int) = false →
 R (SV.bool true false))) ∧
 (inRange x.s (1 : Int) (1048576 : Int) = false →
 R (SV.bool true false))) ∧
 (inRange x.q (1 : Int) (1048576 : Int) = false →
 R (SV.bool true false))) := by kernel_rfl
theorem vcVA2_8 (x : Ak) (R : SV → Prop) : VC.holds (runP cfgVA 13 Tryz.f13 [x.svK 8] R) = (True ∧
 True ∧
 (inRange x.q (1 : Int) (1048576 : Int) = true →
 True ∧
 (inRange x.s (1 : Int) (1048576 : Int) = true →
 ((!decide (x.a = (0 : Int))) = true →
 R (SV.bool true false)) ∧
 ((!decide (x.a = (0 : Int))) = false →
 True ∧
 ((!decide (x.key = [])) = true →
 R (SV.bool true false)) ∧
 ((!decide (x.key = [])) = false →
 ((!decide (x.to = [])) = true →
 R (SV.bool true false)) ∧
 ((!decide (x.to = [])) = false →
 R (SV.bool (false && true) (decide (x.lim = (0 : Int)))))))) ∧
 (inRange x.s (1 : Int) (1048576 : Int) = false →
 R (SV.bool true false))) ∧
 (inRange x.q (1 : Int) (1048576 : Int) = false →
 R (SV.bool true false))) := by kernel_rfl
theorem vcVA2_9 (x : Ak) (R : SV → Prop) : VC.holds (runP cfgVA 13 Tryz.f13 [x.svK 9] R) = (True ∧
 True ∧
 (inRange x.q (1 : Int) (1048576 : Int) = true →
 True ∧
 (inRange x.s (1 : Int) (1048576 : Int) = true →
 ((!decide (x.a = (0 : Int))) = true →
 R (SV.bool true false)) ∧
 ((!decide (x.a = (0 : Int))) = false →
 True ∧
 ((!decide (x.key = [])) = true →
 R (SV.bool true false)) ∧
 ((!decide (x.key = [])) = false →
 ((!decide (x.to = [])) = true →
 R (SV.bool true false)) ∧
 ((!decide (x.to = [])) = false →
 R (SV.bool (false && true) (decide (x.lim = (0 : Int)))))))) ∧
 (inRange x.s (1 : Int) (1048576 : Int) = false →
 R (SV.bool true false))) ∧
 (inRange x.q (1 : Int) (1048576 : Int) = false →
 R (SV.bool true false))) := by kernel_rfl
theorem vcVA2_no (x : Ak) (R : SV → Prop) : VC.holds (runP cfgVN0 13 Tryz.f13 [x.sv] R) = (True ∧
 inRange x.k (0 : Int) (9 : Int) = false ∧
 R (SV.bool true false)) := by kernel_rfl
end Go.Proofs.YtocikfhejpilaaaGreatDoor
/-
  Conditions that the executor computes, written out by a program (vcgen.py).
-/
namespace Go.Proofs.YtocikfhejpilaaaGreatDoor
open Go Sx
set_option maxRecDepth 20000

theorem vcVR2 (x : Rp) (z : Bool) (o c : Nat) (key : Option Nat) : VC.holds (runV (cfgVR2 x) 14 Tryz.f14 [x.sv (.vslc 0 2 z o 0 x.n c)] [seenR z o c x key] (.ret (.bool false x.ok))) = ((∃ (y : Nat), Upto x.n (rowOk x.f x.g) y ∧
 (0 : Int) = (↑y : Int) ∧
 SBle (SB.cells (x.sv (SV.vslc (0 : Nat) (2 : Nat) z o (0 : Nat) x.n c)).cells (8 : Nat) (27 : Nat)) (SB.cells (x.sv (SV.vslc (0 : Nat) (2 : Nat) z o (0 : Nat) x.n c)).cells (8 : Nat) (27 : Nat)) ∧
 SBle (seenR z o c x key).B (seenR z o c x key).B ∧
 True) ∧
 ∀ (x_1 : Nat), Upto x.n (rowOk x.f x.g) x_1 →
 (decide ((↑x_1 : Int) < (↑x.n : Int)) = true →
 ((0 : Int) ≤ (↑x_1 : Int) ∧
 (↑x_1 : Int) < (↑x.n : Int)) ∧
 (o = o ∧
 (0 : Nat) + (↑x_1 : Int).toNat < x.n) ∧
 (decide ((6 : Int) < (↑(x.f ((0 : Nat) + (↑x_1 : Int).toNat)).length : Int)) = true →
 sameVal (SV.bool true false) (SV.bool false x.ok)) ∧
 (decide ((6 : Int) < (↑(x.f ((0 : Nat) + (↑x_1 : Int).toNat)).length : Int)) = false →
 ((0 : Int) ≤ (↑x_1 : Int) ∧
 (↑x_1 : Int) < (↑x.n : Int)) ∧
 (o = o ∧
 (0 : Nat) + (↑x_1 : Int).toNat < x.n) ∧
 (decide ((80 : Int) < (↑(x.g ((0 : Nat) + (↑x_1 : Int).toNat)).length : Int)) = true →
 sameVal (SV.bool true false) (SV.bool false x.ok)) ∧
 (decide ((80 : Int) < (↑(x.g ((0 : Nat) + (↑x_1 : Int).toNat)).length : Int)) = false →
 ((-9223372036854775808 : Int) ≤ (↑x_1 : Int) + (1 : Int) ∧
 (↑x_1 : Int) + (1 : Int) ≤ (9223372036854775807 : Int)) ∧
 ∃ (y : Nat), (Upto x.n (rowOk x.f x.g) y ∧
 x.n - y < x.n - x_1) ∧
 (↑x_1 : Int) + (1 : Int) = (↑y : Int) ∧
 SBle (SB.cells (x.sv (SV.vslc (0 : Nat) (2 : Nat) z o (0 : Nat) x.n c)).cells (8 : Nat) (27 : Nat)) (SB.cells (x.sv (SV.vslc (0 : Nat) (2 : Nat) z o (0 : Nat) x.n c)).cells (8 : Nat) (27 : Nat)) ∧
 SBle (seenR z o c x key).B (seenR z o c x key).B ∧
 True))) ∧
 (decide ((↑x_1 : Int) < (↑x.n : Int)) = false →
 True ∧
 (inRange x.s (0 : Int) (1048576 : Int) = true →
 True ∧
 (inRange x.q (0 : Int) (1048576 : Int) = true →
 True ∧
 (inRange x.e (0 : Int) (12 : Int) = true →
 True ∧
 (inRange x.v (0 : Int) (1048576 : Int) = true →
 True ∧
 (rootOk x.root = true →
 (decide ((↑x.n : Int) ≤ (8 : Int)) = true →
 sameVal (SV.bool (false && true) (decide ((↑x.proof.length : Int) ≤ (65536 : Int)))) (SV.bool false x.ok)) ∧
 (decide ((↑x.n : Int) ≤ (8 : Int)) = false →
 sameVal (SV.bool true false) (SV.bool false x.ok))) ∧
 (rootOk x.root = false →
 sameVal (SV.bool true false) (SV.bool false x.ok))) ∧
 (inRange x.v (0 : Int) (1048576 : Int) = false →
 sameVal (SV.bool true false) (SV.bool false x.ok))) ∧
 (inRange x.e (0 : Int) (12 : Int) = false →
 sameVal (SV.bool true false) (SV.bool false x.ok))) ∧
 (inRange x.q (0 : Int) (1048576 : Int) = false →
 sameVal (SV.bool true false) (SV.bool false x.ok))) ∧
 (inRange x.s (0 : Int) (1048576 : Int) = false →
 sameVal (SV.bool true false) (SV.bool false x.ok)))) := by kernel_rfl
theorem vcVN2 (x : Nt) (z : Bool) (o c : Nat) (key : Option Nat) : VC.holds (runV (cfgVN2 x) 15 Tryz.f15 [x.sv (.vslc 0 3 z o 0 x.n c)] [seenC z o c x key] (.ret (.bool false x.ok))) = ((∃ (y : Nat), Upto x.n (rowOk x.f x.g) y ∧
 (0 : Int) = (↑y : Int) ∧
 SBle (SB.cells (x.sv (SV.vslc (0 : Nat) (3 : Nat) z o (0 : Nat) x.n c)).cells (5 : Nat) (30 : Nat)) (SB.cells (x.sv (SV.vslc (0 : Nat) (3 : Nat) z o (0 : Nat) x.n c)).cells (5 : Nat) (30 : Nat)) ∧
 SBle (seenC z o c x key).B (seenC z o c x key).B ∧
 True) ∧
 ∀ (x_1 : Nat), Upto x.n (rowOk x.f x.g) x_1 →
 (decide ((↑x_1 : Int) < (↑x.n : Int)) = true →
 ((0 : Int) ≤ (↑x_1 : Int) ∧
 (↑x_1 : Int) < (↑x.n : Int)) ∧
 (o = o ∧
 (0 : Nat) + (↑x_1 : Int).toNat < x.n) ∧
 (decide ((6 : Int) < (↑(x.f ((0 : Nat) + (↑x_1 : Int).toNat)).length : Int)) = true →
 sameVal (SV.bool true false) (SV.bool false x.ok)) ∧
 (decide ((6 : Int) < (↑(x.f ((0 : Nat) + (↑x_1 : Int).toNat)).length : Int)) = false →
 ((0 : Int) ≤ (↑x_1 : Int) ∧
 (↑x_1 : Int) < (↑x.n : Int)) ∧
 (o = o ∧
 (0 : Nat) + (↑x_1 : Int).toNat < x.n) ∧
 (decide ((80 : Int) < (↑(x.g ((0 : Nat) + (↑x_1 : Int).toNat)).length : Int)) = true →
 sameVal (SV.bool true false) (SV.bool false x.ok)) ∧
 (decide ((80 : Int) < (↑(x.g ((0 : Nat) + (↑x_1 : Int).toNat)).length : Int)) = false →
 ((-9223372036854775808 : Int) ≤ (↑x_1 : Int) + (1 : Int) ∧
 (↑x_1 : Int) + (1 : Int) ≤ (9223372036854775807 : Int)) ∧
 ∃ (y : Nat), (Upto x.n (rowOk x.f x.g) y ∧
 x.n - y < x.n - x_1) ∧
 (↑x_1 : Int) + (1 : Int) = (↑y : Int) ∧
 SBle (SB.cells (x.sv (SV.vslc (0 : Nat) (3 : Nat) z o (0 : Nat) x.n c)).cells (5 : Nat) (30 : Nat)) (SB.cells (x.sv (SV.vslc (0 : Nat) (3 : Nat) z o (0 : Nat) x.n c)).cells (5 : Nat) (30 : Nat)) ∧
 SBle (seenC z o c x key).B (seenC z o c x key).B ∧
 True))) ∧
 (decide ((↑x_1 : Int) < (↑x.n : Int)) = false →
 True ∧
 (inRange x.s (0 : Int) (1048576 : Int) = true →
 (decide (x.e = (0 : Int)) = true →
 True ∧
 (inRange x.b (0 : Int) (1048576 : Int) = true →
 True ∧
 (rootOk x.root = true →
 sameVal (SV.bool (false && true) (decide ((↑x.n : Int) ≤ (80 : Int)))) (SV.bool false x.ok)) ∧
 (rootOk x.root = false →
 sameVal (SV.bool true false) (SV.bool false x.ok))) ∧
 (inRange x.b (0 : Int) (1048576 : Int) = false →
 sameVal (SV.bool true false) (SV.bool false x.ok))) ∧
 (decide (x.e = (0 : Int)) = false →
 (decide (x.e = (11 : Int)) = true →
 True ∧
 (inRange x.b (0 : Int) (1048576 : Int) = true →
 True ∧
 (rootOk x.root = true →
 sameVal (SV.bool (false && true) (decide ((↑x.n : Int) ≤ (80 : Int)))) (SV.bool false x.ok)) ∧
 (rootOk x.root = false →
 sameVal (SV.bool true false) (SV.bool false x.ok))) ∧
 (inRange x.b (0 : Int) (1048576 : Int) = false →
 sameVal (SV.bool true false) (SV.bool false x.ok))) ∧
 (decide (x.e = (11 : Int)) = false →
 sameVal (SV.bool true false) (SV.bool false x.ok)))) ∧
 (inRange x.s (0 : Int) (1048576 : Int) = false →
 sameVal (SV.bool true false) (SV.bool false x.ok)))) := by kernel_rfl
end Go.Proofs.YtocikfhejpilaaaGreatDoor
/-
  The reference's frame: what may be: the contracts; bytes: the set-up.
-/
namespace Go.Proofs.YtocikfhejpilaaaGreatDoor
open Go Sx
set_option maxRecDepth 20000

theorem dec_le_not {a b : Int} : decide (a ≤ b) = !decide (b < a) := by rw [← decide_not]; congr 1; simp
theorem dec_lt0 (l : List UInt8) : decide ((0 : Int) < (l.length : Int)) = !decide (l = []) := by
  cases l with
  | nil => rfl
  | cons a r => simp only [List.length_cons, reduceCtorEq, decide_false, Bool.not_false, decide_eq_true_eq]; omega
theorem va2_0 {x : Ak} (hk : x.k = 0) : Holds (runA cfgVA 13 Tryz.f13 [x.svK 0] (.ret (.bool false x.ok))) := by
  refine Holds.of_eq (vcVA2_0 x _) ?_
  unfold Ak.ok roomAt roomKey roomTo roomLim
  rw [hk, show inRange 0 0 9 = true from rfl, show inRange 0 1 4 = false from rfl]
  simp only [dec_le_not, cond_true, cond_false, Int.reduceEq, decide_true, decide_false, Bool.or_self, Bool.or_false, Bool.true_and, Bool.and_true, dec_lt0]
  generalize inRange x.q 1 1048576 = b2
  generalize decide (x.s = 0) = b4
  generalize inRange x.s 1 1048576 = b5
  generalize inRange x.a (-1) 1048576 = b7
  generalize decide (x.a = 0) = b8
  generalize decide ((6 : Int) < (x.key.length : Int)) = b9
  generalize decide ((6 : Int) < (x.to.length : Int)) = b10
  generalize decide (x.key = []) = b14
  generalize decide (x.to = []) = b15
  generalize inRange x.lim 1 8 = b12
  generalize decide (x.lim = 0) = b13
  repeat' first
    | exact trivial
    | apply And.intro
    | intro (_ : _ = true)
    | intro (_ : _ = false)
    | fail
  all_goals (apply bool_same; simp_all)
theorem va2_1 {x : Ak} (hk : x.k = 1) : Holds (runA cfgVA 13 Tryz.f13 [x.svK 1] (.ret (.bool false x.ok))) := by
  refine Holds.of_eq (vcVA2_1 x _) ?_
  unfold Ak.ok roomAt roomKey roomTo roomLim
  rw [hk, show inRange 1 0 9 = true from rfl, show inRange 1 1 4 = true from rfl]
  simp only [dec_le_not, cond_true, cond_false, Int.reduceEq, decide_false, Bool.or_self, Bool.true_and, Bool.and_true, dec_lt0]
  generalize inRange x.q 1 1048576 = b2
  generalize decide (x.s = 0) = b4
  generalize inRange x.s 1 1048576 = b5
  generalize inRange x.a (-1) 1048576 = b7
  generalize decide (x.a = 0) = b8
  generalize decide ((6 : Int) < (x.key.length : Int)) = b9
  generalize decide ((6 : Int) < (x.to.length : Int)) = b10
  generalize decide (x.key = []) = b14
  generalize decide (x.to = []) = b15
  generalize inRange x.lim 1 8 = b12
  generalize decide (x.lim = 0) = b13
  repeat' first
    | exact trivial
    | apply And.intro
    | intro (_ : _ = true)
    | intro (_ : _ = false)
    | fail
  all_goals (apply bool_same; simp_all)
theorem va2_2 {x : Ak} (hk : x.k = 2) : Holds (runA cfgVA 13 Tryz.f13 [x.svK 2] (.ret (.bool false x.ok))) := by
  refine Holds.of_eq (vcVA2_2 x _) ?_
  unfold Ak.ok roomAt roomKey roomTo roomLim
  rw [hk, show inRange 2 0 9 = true from rfl, show inRange 2 1 4 = true from rfl]
  simp only [dec_le_not, cond_true, cond_false, Int.reduceEq, decide_true, decide_false, Bool.or_self, Bool.or_false, Bool.true_and, dec_lt0]
  generalize inRange x.q 1 1048576 = b2
  generalize decide (x.s = 0) = b4
  generalize inRange x.s 1 1048576 = b5
  generalize inRange x.a (-1) 1048576 = b7
  generalize decide (x.a = 0) = b8
  generalize decide ((6 : Int) < (x.key.length : Int)) = b9
  generalize decide ((6 : Int) < (x.to.length : Int)) = b10
  generalize decide (x.key = []) = b14
  generalize decide (x.to = []) = b15
  generalize inRange x.lim 1 8 = b12
  generalize decide (x.lim = 0) = b13
  repeat' first
    | exact trivial
    | apply And.intro
    | intro (_ : _ = true)
    | intro (_ : _ = false)
    | fail
  all_goals (apply bool_same; simp_all)
theorem va2_3 {x : Ak} (hk : x.k = 3) : Holds (runA cfgVA 13 Tryz.f13 [x.svK 3] (.ret (.bool false x.ok))) := by
  refine Holds.of_eq (vcVA2_3 x _) ?_
  unfold Ak.ok roomAt roomKey roomTo roomLim
  rw [hk, show inRange 3 0 9 = true from rfl, show inRange 3 1 4 = true from rfl]
  simp only [dec_le_not, cond_true, cond_false, Int.reduceEq, decide_false, Bool.or_self, Bool.true_and, Bool.and_true, dec_lt0]
  generalize inRange x.q 1 1048576 = b2
  generalize decide (x.s = 0) = b4
  generalize inRange x.s 1 1048576 = b5
  generalize inRange x.a (-1) 1048576 = b7
  generalize decide (x.a = 0) = b8
  generalize decide ((6 : Int) < (x.key.length : Int)) = b9
  generalize decide ((6 : Int) < (x.to.length : Int)) = b10
  generalize decide (x.key = []) = b14
  generalize decide (x.to = []) = b15
  generalize inRange x.lim 1 8 = b12
  generalize decide (x.lim = 0) = b13
  repeat' first
    | exact trivial
    | apply And.intro
    | intro (_ : _ = true)
    | intro (_ : _ = false)
    | fail
  all_goals (apply bool_same; simp_all)
theorem va2_4 {x : Ak} (hk : x.k = 4) : Holds (runA cfgVA 13 Tryz.f13 [x.svK 4] (.ret (.bool false x.ok))) := by
  refine Holds.of_eq (vcVA2_4 x _) ?_
  unfold Ak.ok roomAt roomKey roomTo roomLim
  rw [hk, show inRange 4 0 9 = true from rfl, show inRange 4 1 4 = true from rfl]
  simp only [dec_le_not, cond_true, cond_false, Int.reduceEq, decide_true, decide_false, Bool.or_self, Bool.or_true, Bool.true_and]
  generalize inRange x.q 1 1048576 = b2
  generalize decide (x.s = 0) = b4
  generalize inRange x.s 1 1048576 = b5
  generalize inRange x.a (-1) 1048576 = b7
  generalize decide (x.a = 0) = b8
  generalize decide ((6 : Int) < (x.key.length : Int)) = b9
  generalize decide ((6 : Int) < (x.to.length : Int)) = b10
  generalize decide (x.key = []) = b14
  generalize decide (x.to = []) = b15
  generalize inRange x.lim 1 8 = b12
  generalize decide (x.lim = 0) = b13
  repeat' first
    | exact trivial
    | apply And.intro
    | intro (_ : _ = true)
    | intro (_ : _ = false)
    | fail
  all_goals (apply bool_same; simp_all)
theorem va2_5 {x : Ak} (hk : x.k = 5) : Holds (runA cfgVA 13 Tryz.f13 [x.svK 5] (.ret (.bool false x.ok))) := by
  refine Holds.of_eq (vcVA2_5 x _) ?_
  unfold Ak.ok roomAt roomKey roomTo roomLim
  rw [hk, show inRange 5 0 9 = true from rfl, show inRange 5 1 4 = false from rfl]
  simp only [dec_le_not, cond_false, Int.reduceEq, decide_false, Bool.or_self, Bool.true_and, Bool.and_true, dec_lt0]
  generalize inRange x.q 1 1048576 = b2
  generalize decide (x.s = 0) = b4
  generalize inRange x.s 1 1048576 = b5
  generalize inRange x.a (-1) 1048576 = b7
  generalize decide (x.a = 0) = b8
  generalize decide ((6 : Int) < (x.key.length : Int)) = b9
  generalize decide ((6 : Int) < (x.to.length : Int)) = b10
  generalize decide (x.key = []) = b14
  generalize decide (x.to = []) = b15
  generalize inRange x.lim 1 8 = b12
  generalize decide (x.lim = 0) = b13
  repeat' first
    | exact trivial
    | apply And.intro
    | intro (_ : _ = true)
    | intro (_ : _ = false)
    | fail
  all_goals (apply bool_same; simp_all)
theorem va2_6 {x : Ak} (hk : x.k = 6) : Holds (runA cfgVA 13 Tryz.f13 [x.svK 6] (.ret (.bool false x.ok))) := by
  refine Holds.of_eq (vcVA2_6 x _) ?_
  unfold Ak.ok roomAt roomKey roomTo roomLim
  rw [hk, show inRange 6 0 9 = true from rfl, show inRange 6 1 4 = false from rfl]
  simp only [dec_le_not, cond_false, Int.reduceEq, decide_false, Bool.or_self, Bool.true_and, Bool.and_true, dec_lt0]
  generalize inRange x.q 1 1048576 = b2
  generalize decide (x.s = 0) = b4
  generalize inRange x.s 1 1048576 = b5
  generalize inRange x.a (-1) 1048576 = b7
  generalize decide (x.a = 0) = b8
  generalize decide ((6 : Int) < (x.key.length : Int)) = b9
  generalize decide ((6 : Int) < (x.to.length : Int)) = b10
  generalize decide (x.key = []) = b14
  generalize decide (x.to = []) = b15
  generalize inRange x.lim 1 8 = b12
  generalize decide (x.lim = 0) = b13
  repeat' first
    | exact trivial
    | apply And.intro
    | intro (_ : _ = true)
    | intro (_ : _ = false)
    | fail
  all_goals (apply bool_same; simp_all)
theorem va2_7 {x : Ak} (hk : x.k = 7) : Holds (runA cfgVA 13 Tryz.f13 [x.svK 7] (.ret (.bool false x.ok))) := by
  refine Holds.of_eq (vcVA2_7 x _) ?_
  unfold Ak.ok roomAt roomKey roomTo roomLim
  rw [hk, show inRange 7 0 9 = true from rfl, show inRange 7 1 4 = false from rfl]
  simp only [dec_le_not, cond_true, cond_false, Int.reduceEq, decide_true, decide_false, Bool.or_self, Bool.or_true, Bool.true_and, Bool.and_true, dec_lt0]
  generalize inRange x.q 1 1048576 = b2
  generalize decide (x.s = 0) = b4
  generalize inRange x.s 1 1048576 = b5
  generalize inRange x.a (-1) 1048576 = b7
  generalize decide (x.a = 0) = b8
  generalize decide ((6 : Int) < (x.key.length : Int)) = b9
  generalize decide ((6 : Int) < (x.to.length : Int)) = b10
  generalize decide (x.key = []) = b14
  generalize decide (x.to = []) = b15
  generalize inRange x.lim 1 8 = b12
  generalize decide (x.lim = 0) = b13
  repeat' first
    | exact trivial
    | apply And.intro
    | intro (_ : _ = true)
    | intro (_ : _ = false)
    | fail
  all_goals (apply bool_same; simp_all)
theorem va2_8 {x : Ak} (hk : x.k = 8) : Holds (runA cfgVA 13 Tryz.f13 [x.svK 8] (.ret (.bool false x.ok))) := by
  refine Holds.of_eq (vcVA2_8 x _) ?_
  unfold Ak.ok roomAt roomKey roomTo roomLim
  rw [hk, show inRange 8 0 9 = true from rfl, show inRange 8 1 4 = false from rfl]
  simp only [dec_le_not, cond_false, Int.reduceEq, decide_false, Bool.or_self, Bool.true_and, Bool.and_true, dec_lt0]
  generalize inRange x.q 1 1048576 = b2
  generalize decide (x.s = 0) = b4
  generalize inRange x.s 1 1048576 = b5
  generalize inRange x.a (-1) 1048576 = b7
  generalize decide (x.a = 0) = b8
  generalize decide ((6 : Int) < (x.key.length : Int)) = b9
  generalize decide ((6 : Int) < (x.to.length : Int)) = b10
  generalize decide (x.key = []) = b14
  generalize decide (x.to = []) = b15
  generalize inRange x.lim 1 8 = b12
  generalize decide (x.lim = 0) = b13
  repeat' first
    | exact trivial
    | apply And.intro
    | intro (_ : _ = true)
    | intro (_ : _ = false)
    | fail
  all_goals (apply bool_same; simp_all)
theorem va2_9 {x : Ak} (hk : x.k = 9) : Holds (runA cfgVA 13 Tryz.f13 [x.svK 9] (.ret (.bool false x.ok))) := by
  refine Holds.of_eq (vcVA2_9 x _) ?_
  unfold Ak.ok roomAt roomKey roomTo roomLim
  rw [hk, show inRange 9 0 9 = true from rfl, show inRange 9 1 4 = false from rfl]
  simp only [dec_le_not, cond_false, Int.reduceEq, decide_false, Bool.or_self, Bool.true_and, Bool.and_true, dec_lt0]
  generalize inRange x.q 1 1048576 = b2
  generalize decide (x.s = 0) = b4
  generalize inRange x.s 1 1048576 = b5
  generalize inRange x.a (-1) 1048576 = b7
  generalize decide (x.a = 0) = b8
  generalize decide ((6 : Int) < (x.key.length : Int)) = b9
  generalize decide ((6 : Int) < (x.to.length : Int)) = b10
  generalize decide (x.key = []) = b14
  generalize decide (x.to = []) = b15
  generalize inRange x.lim 1 8 = b12
  generalize decide (x.lim = 0) = b13
  repeat' first
    | exact trivial
    | apply And.intro
    | intro (_ : _ = true)
    | intro (_ : _ = false)
    | fail
  all_goals (apply bool_same; simp_all)
theorem va2_no {x : Ak} (hk : inRange x.k 0 9 = false) : Holds (runA cfgVN0 13 Tryz.f13 [x.sv] (.ret (.bool false x.ok))) := by
  refine Holds.of_eq (vcVA2_no x _) ⟨trivial, hk, bool_same ?_⟩
  unfold Ak.ok
  rw [hk]; rfl
theorem va2_ok : CallOk Tryz.prog 13 (purePT fvalidSpec) := by
  refine pure_of_ans (ansW_ok (n := 20) (fn := Tryz.f13) Tryz.func13 (by kernel_rfl) (by kernel_rfl) ?_)
  intro args p a h hp
  unfold fvalidSpec at h
  split at h
  · split at h
    · rename_i l x hx
      injection h with h; injection h with h1 h2; subst h1; subst h2
      rw [askOfSV_eq hx]
      have e : ∀ E, SV.vals E [x.svK x.k] = SV.vals E [x.sv] := fun E => rfl
      cases hr : inRange x.k 0 9 with
      | false => exact ⟨_, _, goodVN0, fun _ => rfl, rfl, rfl, va2_no hr⟩
      | true =>
        have hr' := inRange_iff.1 hr
        have hc : x.k = 0 ∨ x.k = 1 ∨ x.k = 2 ∨ x.k = 3 ∨ x.k = 4 ∨ x.k = 5 ∨ x.k = 6 ∨ x.k = 7 ∨ x.k = 8 ∨ x.k = 9 := by omega
        refine ⟨_, _, goodVA, e, rfl, rfl, ?_⟩
        rcases hc with hk | hk | hk | hk | hk | hk | hk | hk | hk | hk <;> rw [show x.svK x.k = x.svK _ from congrArg x.svK hk]
        · exact va2_0 hk
        · exact va2_1 hk
        · exact va2_2 hk
        · exact va2_3 hk
        · exact va2_4 hk
        · exact va2_5 hk
        · exact va2_6 hk
        · exact va2_7 hk
        · exact va2_8 hk
        · exact va2_9 hk
    · cases h
  · cases h
theorem range12 {e : Int} : inRange e 0 12 = (!decide (e < 0) && !decide (12 < e)) := by rw [inRange, dec_le_not, dec_le_not]
theorem vr2_holds (x : Rp) (z : Bool) (o c : Nat) (key : Option Nat) (hn : x.n < 9223372036854775808) : Holds (runV (cfgVR2 x) 14 Tryz.f14 [x.sv (.vslc 0 2 z o 0 x.n c)] [seenR z o c x key] (.ret (.bool false x.ok))) := by
  refine Holds.of_eq (vcVR2 x z o c key) ?_
  simp only [Int.toNat_natCast, Nat.zero_add, range12, dec_le_not]
  unfold Rp.ok
  generalize inRange x.s 0 1048576 = b1
  generalize inRange x.q 0 1048576 = b2
  generalize inRange x.v 0 1048576 = b3
  generalize decide (x.e < 0) = b4
  generalize decide (12 < x.e) = b5
  generalize rootOk x.root = b6
  generalize decide ((65536 : Int) < (x.proof.length : Int)) = b8
  generalize decide ((8 : Int) < (x.n : Int)) = b7
  generalize hr : rowsOk x.n x.f x.g = b9
  repeat' first
    | exact trivial
    | exact SBle.refl _
    | apply And.intro
    | intro (_ : _ = true)
    | intro (_ : _ = false)
    | refine ⟨0, ⟨Nat.zero_le _, fun j hj => absurd hj (Nat.not_lt_zero _)⟩, rfl, ?_⟩
    | intro (i : Nat) (hi : Upto _ _ i)
    | refine ⟨i + 1, ⟨upto_next hi ?_ ?_, ?_⟩, ?_, ?_⟩
    | fail
  all_goals try simp only [decide_eq_true_eq, decide_eq_false_iff_not] at *
  all_goals first
    | omega
    | exact rowOk_true (by assumption) (by assumption)
    | (apply bool_same; subst hr; rw [rowsOk, upto_all hi (by assumption)]; simp_all; done)
    | (apply bool_same; subst hr; rw [rowsOk, upto_none (i := i) (by assumption) (rowOk_f (by assumption))]; simp_all; done)
    | (apply bool_same; subst hr; rw [rowsOk, upto_none (i := i) (by assumption) (rowOk_g (by assumption))]; simp_all; done)
    | (apply bool_same; simp_all; done)
theorem vn2_holds (x : Nt) (z : Bool) (o c : Nat) (key : Option Nat) (hn : x.n < 9223372036854775808) : Holds (runV (cfgVN2 x) 15 Tryz.f15 [x.sv (.vslc 0 3 z o 0 x.n c)] [seenC z o c x key] (.ret (.bool false x.ok))) := by
  refine Holds.of_eq (vcVN2 x z o c key) ?_
  simp only [Int.toNat_natCast, Nat.zero_add, dec_le_not]
  unfold Nt.ok
  generalize inRange x.s 0 1048576 = b1
  generalize inRange x.b 0 1048576 = b2
  generalize decide (x.e = 0) = b4
  generalize decide (x.e = 11) = b5
  generalize rootOk x.root = b6
  generalize decide ((80 : Int) < (x.n : Int)) = b7
  generalize hr : rowsOk x.n x.f x.g = b9
  repeat' first
    | exact trivial
    | exact SBle.refl _
    | apply And.intro
    | intro (_ : _ = true)
    | intro (_ : _ = false)
    | refine ⟨0, ⟨Nat.zero_le _, fun j hj => absurd hj (Nat.not_lt_zero _)⟩, rfl, ?_⟩
    | intro (i : Nat) (hi : Upto _ _ i)
    | refine ⟨i + 1, ⟨upto_next hi ?_ ?_, ?_⟩, ?_, ?_⟩
    | fail
  all_goals try simp only [decide_eq_true_eq, decide_eq_false_iff_not] at *
  all_goals first
    | omega
    | exact rowOk_true (by assumption) (by assumption)
    | (apply bool_same; subst hr; rw [rowsOk, upto_all hi (by assumption)]; simp_all; done)
    | (apply bool_same; subst hr; rw [rowsOk, upto_none (i := i) (by assumption) (rowOk_f (by assumption))]; simp_all; done)
    | (apply bool_same; subst hr; rw [rowsOk, upto_none (i := i) (by assumption) (rowOk_g (by assumption))]; simp_all; done)
    | (apply bool_same; simp_all; done)
def vr2Spec (vs : List SV) (l : List Seen) : Option (Prop × Ans) := match replyOf vs l with
  | some (x, _) => some (x.n < 9223372036854775808, .ret (.bool false x.ok))
  | none => none
def vn2Spec (vs : List SV) (l : List Seen) : Option (Prop × Ans) := match noticeOf vs l with
  | some (x, _) => some (x.n < 9223372036854775808, .ret (.bool false x.ok))
  | none => none
theorem vr2_ok : CallOk Tryz.prog 14 (ansVPT shR vr2Spec) := by
  refine ansV_ok (n := 20) (fn := Tryz.f14) Tryz.func14 (by kernel_rfl) (by kernel_rfl) ?_
  intro vs l q a h hq
  unfold vr2Spec at h
  split at h
  · rename_i x r hx
    obtain ⟨z, o, c, key⟩ := r
    injection h with h; injection h with h1 h2; subst h1; subst h2
    obtain ⟨e1, e2⟩ := replyOf_eq hx
    rw [e1, e2]
    exact ⟨_, goodVR2 x, rfl, rfl, vr2_holds x z o c key hq⟩
  · cases h
theorem vn2_ok : CallOk Tryz.prog 15 (ansVPT shN vn2Spec) := by
  refine ansV_ok (n := 20) (fn := Tryz.f15) Tryz.func15 (by kernel_rfl) (by kernel_rfl) ?_
  intro vs l q a h hq
  unfold vn2Spec at h
  split at h
  · rename_i x r hx
    obtain ⟨z, o, c, key⟩ := r
    injection h with h; injection h with h1 h2; subst h1; subst h2
    obtain ⟨e1, e2⟩ := noticeOf_eq hx
    rw [e1, e2]
    exact ⟨_, goodVN2 x, rfl, rfl, vn2_holds x z o c key hq⟩
  · cases h
noncomputable def listH2 : List (FuncId × PT) := (14, ansVPT shR vr2Spec) :: (15, ansVPT shN vn2Spec) :: (13, purePT fvalidSpec) :: listH1
theorem listH2_ok : SummOk Tryz.prog (fun f => lookPT f listH2) := .cons vr2_ok (ansVPT_mono _ _) (.cons vn2_ok (ansVPT_mono _ _) (.cons va2_ok (purePT_mono _) listH1_ok))
noncomputable def cfgH2 : Cfg := { cfg0 with summ := fun f => lookPT f listH2 }
theorem goodH2 : Sx.Good Tryz.prog cfgH2 := ⟨mixes, listH2_ok, fns_ok⟩
noncomputable def annGrow2 (n : Nat) (f : Nat → List UInt8) : LoopAnn :=
  { α := Nat × Nat, pre := fun _ x => Grow n x, mea := fun _ x => n - x.1, fresh := 1, slots := fun st x => [(5, .int .i64 false x.1), (4, .rslc st.nx 1 true 0 x.1 x.2)],
    mem := fun st x => [(st.nx, .rows true x.1 [.str f] false x.2 9)] }
noncomputable def cfgPR2 (x : Rp) : Cfg := { cfg0 with summ := fun f => lookPT f listH2, anns := fun f => if f = 10 then [(5, always (annGrow2 x.n (rowE x.f x.g)))] else [] }
noncomputable def cfgPN2 (x : Nt) : Cfg := { cfg0 with summ := fun f => lookPT f listH2, anns := fun f => if f = 12 then [(5, always (annGrow2 x.n (rowC x.f x.g x.h)))] else [] }
theorem goodPR2 (x : Rp) : Sx.Good Tryz.prog (cfgPR2 x) := ⟨mixes, listH2_ok, fns_ok⟩
theorem goodPN2 (x : Nt) : Sx.Good Tryz.prog (cfgPN2 x) := ⟨mixes, listH2_ok, fns_ok⟩
end Go.Proofs.YtocikfhejpilaaaGreatDoor
