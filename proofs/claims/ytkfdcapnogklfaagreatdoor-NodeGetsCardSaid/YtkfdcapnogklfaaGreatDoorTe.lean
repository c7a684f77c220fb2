/-
  The reference's nodes: refs, hashes: the set-up.
-/
import Derived.Test.YtkfdcapnogklfaaGreatDoorTd
import Derived.Test.YtkfdcapnogklfaaGreatDoorTb
import Derived.Test.YtkfdcapnogklfaaGreatDoorPe
namespace Go.Proofs.YtkfdcapnogklfaaGreatDoor
open Go Sx
set_option maxRecDepth 20000
noncomputable def listE0 : List (FuncId × PT) := (37, purePT of3Spec) :: listD6
theorem listE0_ok : SummOk Tryz.prog (fun f => lookPT f listE0) := .cons of3_ok (purePT_mono _) listD6_ok
noncomputable def cfgE0 : Cfg := { cfg0 with summ := fun f => lookPT f listE0 }
theorem goodE0 : Sx.Good Tryz.prog cfgE0 := ⟨mixes, listE0_ok, fns_ok⟩
def nearR (L : Nat) : List SV → Option (Prop × SV) := ndSpec fun x => some (Near L x ∧ x.p.length < 1152921504606846976, .nilslc)
noncomputable def annNearR : LoopAnn :=
  { α := Nat, pre := fun _ i => i ≤ 16, mea := fun _ i => 16 - i, fresh := 0, slots := fun _ i => [(3, .nilslc), (4, .int .i64 false i)], mem := fun _ _ => [] }
noncomputable def cfgENear (L : Nat) : Cfg := { cfg0 with summ := fun f => lookPT f ((13, purePT (nearR L)) :: listE0), anns := fun f => if f = 13 then [(5, always annNearR)] else [] }
noncomputable def annHsR (x : Nd) : LoopAnn :=
  { α := Nat × Nat, pre := fun _ g => g.1 ≤ 16 ∧ hashN x.r g.1 ≤ g.2, mea := fun _ g => 16 - g.1, fresh := 1, slots := fun st g => [(3, .rslc st.nx 1 true 0 (hashN x.r g.1) g.2), (4, .int .i64 false g.1)],
    mem := fun st g => [(st.nx, .rows true (hashN x.r g.1) [.str (hashAt x.r g.1)] false g.2 9)] }
noncomputable def cfgEHs (x : Nd) : Cfg := { cfg0 with summ := fun f => lookPT f ((13, purePT (nearR 64)) :: listE0), anns := fun f => if f = 13 then [(5, always (annHsR x))] else [] }
end Go.Proofs.YtkfdcapnogklfaaGreatDoor
/-
  Conditions that the executor computes, written out by a program (vcgen.py).
-/
namespace Go.Proofs.YtkfdcapnogklfaaGreatDoor
open Go Sx
set_option maxRecDepth 20000
theorem vcERef (s : List UInt8) (R : SV → Prop) : VC.holds (runP cfgE0 21 Tryz.f21 [.str false s] R) = ((decide ((↑s.length : Int) < (32 : Int)) = true →
 R (SV.str false s)) ∧
 (decide ((↑s.length : Int) < (32 : Int)) = false →
 s.length < (1152921504606846976 : Nat) ∧
 (32 : Nat) < (1152921504606846976 : Nat) ∧
 R (SV.str false (textOf (shaL s))))) := by kernel_rfl
theorem vcENear (L : Nat) (x : Nd) (R : SV → Prop) : VC.holds (runP (cfgENear L) 13 Tryz.f13 [x.sv] R) = (((RelR 9223372036854775808 fun (i : Nat) => [x.r 0, x.r 1, x.r 2, x.r 3, x.r 4, x.r 5, x.r 6, x.r 7, x.r 8, x.r 9, x.r 10, x.r 11, x.r 12, x.r 13, x.r 14, x.r 15].getD i []) ∧
 x.p.length < (1152921504606846976 : Nat)) ∧
 ((!validB { k := x.k, p := x.p, v := x.v, r := fun (i : Nat) => [x.r 0, x.r 1, x.r 2, x.r 3, x.r 4, x.r 5, x.r 6, x.r 7, x.r 8, x.r 9, x.r 10, x.r 11, x.r 12, x.r 13, x.r 14, x.r 15].getD i [] : Nd }) = true →
 R SV.nilslc) ∧
 ((!validB { k := x.k, p := x.p, v := x.v, r := fun (i : Nat) => [x.r 0, x.r 1, x.r 2, x.r 3, x.r 4, x.r 5, x.r 6, x.r 7, x.r 8, x.r 9, x.r 10, x.r 11, x.r 12, x.r 13, x.r 14, x.r 15].getD i [] : Nd }) = false →
 (∃ (y : Nat), y ≤ (16 : Nat) ∧
 (0 : Int) = (↑y : Int) ∧
 SBle (SB.cells x.sv.cells 19 25) (SB.cells x.sv.cells 19 25) ∧
 True) ∧
 ∀ (x_2 : Nat), x_2 ≤ (16 : Nat) →
 (decide ((↑x_2 : Int) < (16 : Int)) = true →
 ((0 : Int) ≤ (↑x_2 : Int) ∧
 (↑x_2 : Int) < (16 : Int)) ∧
 (↑x_2 : Int).toNat < (16 : Nat) ∧
 (selS [x.r 0, x.r 1, x.r 2, x.r 3, x.r 4, x.r 5, x.r 6, x.r 7, x.r 8, x.r 9, x.r 10, x.r 11, x.r 12, x.r 13, x.r 14, x.r 15] (↑x_2 : Int).toNat).length < (9223372036854775808 : Nat) ∧
 (hashB (selS [x.r 0, x.r 1, x.r 2, x.r 3, x.r 4, x.r 5, x.r 6, x.r 7, x.r 8, x.r 9, x.r 10, x.r 11, x.r 12, x.r 13, x.r 14, x.r 15] (↑x_2 : Int).toNat) = true →
 ∀ (c : Nat), (1 : Nat) ≤ c →
 ((0 : Int) ≤ (↑x_2 : Int) ∧
 (↑x_2 : Int) < (16 : Int)) ∧
 (↑x_2 : Int).toNat < (16 : Nat) ∧
 Rel 9223372036854775808 (selS [x.r 0, x.r 1, x.r 2, x.r 3, x.r 4, x.r 5, x.r 6, x.r 7, x.r 8, x.r 9, x.r 10, x.r 11, x.r 12, x.r 13, x.r 14, x.r 15] (↑x_2 : Int).toNat) ∧
 (inlB (selS [x.r 0, x.r 1, x.r 2, x.r 3, x.r 4, x.r 5, x.r 6, x.r 7, x.r 8, x.r 9, x.r 10, x.r 11, x.r 12, x.r 13, x.r 14, x.r 15] (↑x_2 : Int).toNat) = true →
 (Near L { k := (getD (selS [x.r 0, x.r 1, x.r 2, x.r 3, x.r 4, x.r 5, x.r 6, x.r 7, x.r 8, x.r 9, x.r 10, x.r 11, x.r 12, x.r 13, x.r 14, x.r 15] (↑x_2 : Int).toNat)).k, p := (getD (selS [x.r 0, x.r 1, x.r 2, x.r 3, x.r 4, x.r 5, x.r 6, x.r 7, x.r 8, x.r 9, x.r 10, x.r 11, x.r 12, x.r 13, x.r 14, x.r 15] (↑x_2 : Int).toNat)).p, v := (getD (selS [x.r 0, x.r 1, x.r 2, x.r 3, x.r 4, x.r 5, x.r 6, x.r 7, x.r 8, x.r 9, x.r 10, x.r 11, x.r 12, x.r 13, x.r 14, x.r 15] (↑x_2 : Int).toNat)).v, r := fun (i : Nat) => [(getD (selS [x.r 0, x.r 1, x.r 2, x.r 3, x.r 4, x.r 5, x.r 6, x.r 7, x.r 8, x.r 9, x.r 10, x.r 11, x.r 12, x.r 13, x.r 14, x.r 15] (↑x_2 : Int).toNat)).r 0, (getD (selS [x.r 0, x.r 1, x.r 2, x.r 3, x.r 4, x.r 5, x.r 6, x.r 7, x.r 8, x.r 9, x.r 10, x.r 11, x.r 12, x.r 13, x.r 14, x.r 15] (↑x_2 : Int).toNat)).r 1, (getD (selS [x.r 0, x.r 1, x.r 2, x.r 3, x.r 4, x.r 5, x.r 6, x.r 7, x.r 8, x.r 9, x.r 10, x.r 11, x.r 12, x.r 13, x.r 14, x.r 15] (↑x_2 : Int).toNat)).r 2, (getD (selS [x.r 0, x.r 1, x.r 2, x.r 3, x.r 4, x.r 5, x.r 6, x.r 7, x.r 8, x.r 9, x.r 10, x.r 11, x.r 12, x.r 13, x.r 14, x.r 15] (↑x_2 : Int).toNat)).r 3, (getD (selS [x.r 0, x.r 1, x.r 2, x.r 3, x.r 4, x.r 5, x.r 6, x.r 7, x.r 8, x.r 9, x.r 10, x.r 11, x.r 12, x.r 13, x.r 14, x.r 15] (↑x_2 : Int).toNat)).r 4, (getD (selS [x.r 0, x.r 1, x.r 2, x.r 3, x.r 4, x.r 5, x.r 6, x.r 7, x.r 8, x.r 9, x.r 10, x.r 11, x.r 12, x.r 13, x.r 14, x.r 15] (↑x_2 : Int).toNat)).r 5, (getD (selS [x.r 0, x.r 1, x.r 2, x.r 3, x.r 4, x.r 5, x.r 6, x.r 7, x.r 8, x.r 9, x.r 10, x.r 11, x.r 12, x.r 13, x.r 14, x.r 15] (↑x_2 : Int).toNat)).r 6, (getD (selS [x.r 0, x.r 1, x.r 2, x.r 3, x.r 4, x.r 5, x.r 6, x.r 7, x.r 8, x.r 9, x.r 10, x.r 11, x.r 12, x.r 13, x.r 14, x.r 15] (↑x_2 : Int).toNat)).r 7, (getD (selS [x.r 0, x.r 1, x.r 2, x.r 3, x.r 4, x.r 5, x.r 6, x.r 7, x.r 8, x.r 9, x.r 10, x.r 11, x.r 12, x.r 13, x.r 14, x.r 15] (↑x_2 : Int).toNat)).r 8, (getD (selS [x.r 0, x.r 1, x.r 2, x.r 3, x.r 4, x.r 5, x.r 6, x.r 7, x.r 8, x.r 9, x.r 10, x.r 11, x.r 12, x.r 13, x.r 14, x.r 15] (↑x_2 : Int).toNat)).r 9, (getD (selS [x.r 0, x.r 1, x.r 2, x.r 3, x.r 4, x.r 5, x.r 6, x.r 7, x.r 8, x.r 9, x.r 10, x.r 11, x.r 12, x.r 13, x.r 14, x.r 15] (↑x_2 : Int).toNat)).r 10, (getD (selS [x.r 0, x.r 1, x.r 2, x.r 3, x.r 4, x.r 5, x.r 6, x.r 7, x.r 8, x.r 9, x.r 10, x.r 11, x.r 12, x.r 13, x.r 14, x.r 15] (↑x_2 : Int).toNat)).r 11, (getD (selS [x.r 0, x.r 1, x.r 2, x.r 3, x.r 4, x.r 5, x.r 6, x.r 7, x.r 8, x.r 9, x.r 10, x.r 11, x.r 12, x.r 13, x.r 14, x.r 15] (↑x_2 : Int).toNat)).r 12, (getD (selS [x.r 0, x.r 1, x.r 2, x.r 3, x.r 4, x.r 5, x.r 6, x.r 7, x.r 8, x.r 9, x.r 10, x.r 11, x.r 12, x.r 13, x.r 14, x.r 15] (↑x_2 : Int).toNat)).r 13, (getD (selS [x.r 0, x.r 1, x.r 2, x.r 3, x.r 4, x.r 5, x.r 6, x.r 7, x.r 8, x.r 9, x.r 10, x.r 11, x.r 12, x.r 13, x.r 14, x.r 15] (↑x_2 : Int).toNat)).r 14, (getD (selS [x.r 0, x.r 1, x.r 2, x.r 3, x.r 4, x.r 5, x.r 6, x.r 7, x.r 8, x.r 9, x.r 10, x.r 11, x.r 12, x.r 13, x.r 14, x.r 15] (↑x_2 : Int).toNat)).r 15].getD i [] : Nd } ∧
 (getD (selS [x.r 0, x.r 1, x.r 2, x.r 3, x.r 4, x.r 5, x.r 6, x.r 7, x.r 8, x.r 9, x.r 10, x.r 11, x.r 12, x.r 13, x.r 14, x.r 15] (↑x_2 : Int).toNat)).p.length < (1152921504606846976 : Nat)) ∧
 c * (1 : Nat) = c * (1 : Nat) ∧
 ∀ (c' : Nat), (1 : Nat) ≤ c' →
 ((-9223372036854775808 : Int) ≤ (↑x_2 : Int) + (1 : Int) ∧
 (↑x_2 : Int) + (1 : Int) ≤ (9223372036854775807 : Int)) ∧
 ∃ (y : Nat), (y ≤ (16 : Nat) ∧
 (16 : Nat) - y < (16 : Nat) - x_2) ∧
 False) ∧
 (inlB (selS [x.r 0, x.r 1, x.r 2, x.r 3, x.r 4, x.r 5, x.r 6, x.r 7, x.r 8, x.r 9, x.r 10, x.r 11, x.r 12, x.r 13, x.r 14, x.r 15] (↑x_2 : Int).toNat) = false →
 ((-9223372036854775808 : Int) ≤ (↑x_2 : Int) + (1 : Int) ∧
 (↑x_2 : Int) + (1 : Int) ≤ (9223372036854775807 : Int)) ∧
 ∃ (y : Nat), (y ≤ (16 : Nat) ∧
 (16 : Nat) - y < (16 : Nat) - x_2) ∧
 False)) ∧
 (hashB (selS [x.r 0, x.r 1, x.r 2, x.r 3, x.r 4, x.r 5, x.r 6, x.r 7, x.r 8, x.r 9, x.r 10, x.r 11, x.r 12, x.r 13, x.r 14, x.r 15] (↑x_2 : Int).toNat) = false →
 ((0 : Int) ≤ (↑x_2 : Int) ∧
 (↑x_2 : Int) < (16 : Int)) ∧
 (↑x_2 : Int).toNat < (16 : Nat) ∧
 Rel 9223372036854775808 (selS [x.r 0, x.r 1, x.r 2, x.r 3, x.r 4, x.r 5, x.r 6, x.r 7, x.r 8, x.r 9, x.r 10, x.r 11, x.r 12, x.r 13, x.r 14, x.r 15] (↑x_2 : Int).toNat) ∧
 (inlB (selS [x.r 0, x.r 1, x.r 2, x.r 3, x.r 4, x.r 5, x.r 6, x.r 7, x.r 8, x.r 9, x.r 10, x.r 11, x.r 12, x.r 13, x.r 14, x.r 15] (↑x_2 : Int).toNat) = true →
 (Near L { k := (getD (selS [x.r 0, x.r 1, x.r 2, x.r 3, x.r 4, x.r 5, x.r 6, x.r 7, x.r 8, x.r 9, x.r 10, x.r 11, x.r 12, x.r 13, x.r 14, x.r 15] (↑x_2 : Int).toNat)).k, p := (getD (selS [x.r 0, x.r 1, x.r 2, x.r 3, x.r 4, x.r 5, x.r 6, x.r 7, x.r 8, x.r 9, x.r 10, x.r 11, x.r 12, x.r 13, x.r 14, x.r 15] (↑x_2 : Int).toNat)).p, v := (getD (selS [x.r 0, x.r 1, x.r 2, x.r 3, x.r 4, x.r 5, x.r 6, x.r 7, x.r 8, x.r 9, x.r 10, x.r 11, x.r 12, x.r 13, x.r 14, x.r 15] (↑x_2 : Int).toNat)).v, r := fun (i : Nat) => [(getD (selS [x.r 0, x.r 1, x.r 2, x.r 3, x.r 4, x.r 5, x.r 6, x.r 7, x.r 8, x.r 9, x.r 10, x.r 11, x.r 12, x.r 13, x.r 14, x.r 15] (↑x_2 : Int).toNat)).r 0, (getD (selS [x.r 0, x.r 1, x.r 2, x.r 3, x.r 4, x.r 5, x.r 6, x.r 7, x.r 8, x.r 9, x.r 10, x.r 11, x.r 12, x.r 13, x.r 14, x.r 15] (↑x_2 : Int).toNat)).r 1, (getD (selS [x.r 0, x.r 1, x.r 2, x.r 3, x.r 4, x.r 5, x.r 6, x.r 7, x.r 8, x.r 9, x.r 10, x.r 11, x.r 12, x.r 13, x.r 14, x.r 15] (↑x_2 : Int).toNat)).r 2, (getD (selS [x.r 0, x.r 1, x.r 2, x.r 3, x.r 4, x.r 5, x.r 6, x.r 7, x.r 8, x.r 9, x.r 10, x.r 11, x.r 12, x.r 13, x.r 14, x.r 15] (↑x_2 : Int).toNat)).r 3, (getD (selS [x.r 0, x.r 1, x.r 2, x.r 3, x.r 4, x.r 5, x.r 6, x.r 7, x.r 8, x.r 9, x.r 10, x.r 11, x.r 12, x.r 13, x.r 14, x.r 15] (↑x_2 : Int).toNat)).r 4, (getD (selS [x.r 0, x.r 1, x.r 2, x.r 3, x.r 4, x.r 5, x.r 6, x.r 7, x.r 8, x.r 9, x.r 10, x.r 11, x.r 12, x.r 13, x.r 14, x.r 15] (↑x_2 : Int).toNat)).r 5, (getD (selS [x.r 0, x.r 1, x.r 2, x.r 3, x.r 4, x.r 5, x.r 6, x.r 7, x.r 8, x.r 9, x.r 10, x.r 11, x.r 12, x.r 13, x.r 14, x.r 15] (↑x_2 : Int).toNat)).r 6, (getD (selS [x.r 0, x.r 1, x.r 2, x.r 3, x.r 4, x.r 5, x.r 6, x.r 7, x.r 8, x.r 9, x.r 10, x.r 11, x.r 12, x.r 13, x.r 14, x.r 15] (↑x_2 : Int).toNat)).r 7, (getD (selS [x.r 0, x.r 1, x.r 2, x.r 3, x.r 4, x.r 5, x.r 6, x.r 7, x.r 8, x.r 9, x.r 10, x.r 11, x.r 12, x.r 13, x.r 14, x.r 15] (↑x_2 : Int).toNat)).r 8, (getD (selS [x.r 0, x.r 1, x.r 2, x.r 3, x.r 4, x.r 5, x.r 6, x.r 7, x.r 8, x.r 9, x.r 10, x.r 11, x.r 12, x.r 13, x.r 14, x.r 15] (↑x_2 : Int).toNat)).r 9, (getD (selS [x.r 0, x.r 1, x.r 2, x.r 3, x.r 4, x.r 5, x.r 6, x.r 7, x.r 8, x.r 9, x.r 10, x.r 11, x.r 12, x.r 13, x.r 14, x.r 15] (↑x_2 : Int).toNat)).r 10, (getD (selS [x.r 0, x.r 1, x.r 2, x.r 3, x.r 4, x.r 5, x.r 6, x.r 7, x.r 8, x.r 9, x.r 10, x.r 11, x.r 12, x.r 13, x.r 14, x.r 15] (↑x_2 : Int).toNat)).r 11, (getD (selS [x.r 0, x.r 1, x.r 2, x.r 3, x.r 4, x.r 5, x.r 6, x.r 7, x.r 8, x.r 9, x.r 10, x.r 11, x.r 12, x.r 13, x.r 14, x.r 15] (↑x_2 : Int).toNat)).r 12, (getD (selS [x.r 0, x.r 1, x.r 2, x.r 3, x.r 4, x.r 5, x.r 6, x.r 7, x.r 8, x.r 9, x.r 10, x.r 11, x.r 12, x.r 13, x.r 14, x.r 15] (↑x_2 : Int).toNat)).r 13, (getD (selS [x.r 0, x.r 1, x.r 2, x.r 3, x.r 4, x.r 5, x.r 6, x.r 7, x.r 8, x.r 9, x.r 10, x.r 11, x.r 12, x.r 13, x.r 14, x.r 15] (↑x_2 : Int).toNat)).r 14, (getD (selS [x.r 0, x.r 1, x.r 2, x.r 3, x.r 4, x.r 5, x.r 6, x.r 7, x.r 8, x.r 9, x.r 10, x.r 11, x.r 12, x.r 13, x.r 14, x.r 15] (↑x_2 : Int).toNat)).r 15].getD i [] : Nd } ∧
 (getD (selS [x.r 0, x.r 1, x.r 2, x.r 3, x.r 4, x.r 5, x.r 6, x.r 7, x.r 8, x.r 9, x.r 10, x.r 11, x.r 12, x.r 13, x.r 14, x.r 15] (↑x_2 : Int).toNat)).p.length < (1152921504606846976 : Nat)) ∧
 ((-9223372036854775808 : Int) ≤ (↑x_2 : Int) + (1 : Int) ∧
 (↑x_2 : Int) + (1 : Int) ≤ (9223372036854775807 : Int)) ∧
 ∃ (y : Nat), (y ≤ (16 : Nat) ∧
 (16 : Nat) - y < (16 : Nat) - x_2) ∧
 (↑x_2 : Int) + (1 : Int) = (↑y : Int) ∧
 SBle (SB.cells x.sv.cells 19 25) (SB.cells x.sv.cells 19 25) ∧
 True) ∧
 (inlB (selS [x.r 0, x.r 1, x.r 2, x.r 3, x.r 4, x.r 5, x.r 6, x.r 7, x.r 8, x.r 9, x.r 10, x.r 11, x.r 12, x.r 13, x.r 14, x.r 15] (↑x_2 : Int).toNat) = false →
 ((-9223372036854775808 : Int) ≤ (↑x_2 : Int) + (1 : Int) ∧
 (↑x_2 : Int) + (1 : Int) ≤ (9223372036854775807 : Int)) ∧
 ∃ (y : Nat), (y ≤ (16 : Nat) ∧
 (16 : Nat) - y < (16 : Nat) - x_2) ∧
 (↑x_2 : Int) + (1 : Int) = (↑y : Int) ∧
 SBle (SB.cells x.sv.cells 19 25) (SB.cells x.sv.cells 19 25) ∧
 True))) ∧
 (decide ((↑x_2 : Int) < (16 : Int)) = false →
 R SV.nilslc))) := by kernel_rfl
theorem vcEHashes (x : Nd) : VC.holds (runA (cfgEHs x) 13 Tryz.f13 [x.sv] (hashesA x)) = (((RelR 9223372036854775808 fun (i : Nat) => [x.r 0, x.r 1, x.r 2, x.r 3, x.r 4, x.r 5, x.r 6, x.r 7, x.r 8, x.r 9, x.r 10, x.r 11, x.r 12, x.r 13, x.r 14, x.r 15].getD i []) ∧
 x.p.length < (1152921504606846976 : Nat)) ∧
 ((!validB { k := x.k, p := x.p, v := x.v, r := fun (i : Nat) => [x.r 0, x.r 1, x.r 2, x.r 3, x.r 4, x.r 5, x.r 6, x.r 7, x.r 8, x.r 9, x.r 10, x.r 11, x.r 12, x.r 13, x.r 14, x.r 15].getD i [] : Nd }) = true →
 (validB x = true →
 ∃ (x_3 : Nat), hashN x.r (16 : Nat) ≤ x_3 ∧
 False) ∧
 (validB x = false →
 sameVal SV.nilslc SV.nilslc)) ∧
 ((!validB { k := x.k, p := x.p, v := x.v, r := fun (i : Nat) => [x.r 0, x.r 1, x.r 2, x.r 3, x.r 4, x.r 5, x.r 6, x.r 7, x.r 8, x.r 9, x.r 10, x.r 11, x.r 12, x.r 13, x.r 14, x.r 15].getD i [] : Nd }) = false →
 (∃ (y : Nat × Nat), (y.fst ≤ (16 : Nat) ∧
 hashN x.r y.fst ≤ y.snd) ∧
 hashN x.r y.fst = (0 : Nat) ∧
 (0 : Int) = (↑y.fst : Int) ∧
 (SB.rows true (hashN x.r y.fst) [Col.str (hashAt x.r y.fst)] false y.snd 9).no = true ∧
 SBle (SB.cells x.sv.cells 19 25) (SB.cells x.sv.cells 19 25) ∧
 True) ∧
 ∀ (x_2 : Nat × Nat), x_2.fst ≤ (16 : Nat) ∧
 hashN x.r x_2.fst ≤ x_2.snd →
 (decide ((↑x_2.fst : Int) < (16 : Int)) = true →
 ((0 : Int) ≤ (↑x_2.fst : Int) ∧
 (↑x_2.fst : Int) < (16 : Int)) ∧
 (↑x_2.fst : Int).toNat < (16 : Nat) ∧
 (selS [x.r 0, x.r 1, x.r 2, x.r 3, x.r 4, x.r 5, x.r 6, x.r 7, x.r 8, x.r 9, x.r 10, x.r 11, x.r 12, x.r 13, x.r 14, x.r 15] (↑x_2.fst : Int).toNat).length < (9223372036854775808 : Nat) ∧
 (hashB (selS [x.r 0, x.r 1, x.r 2, x.r 3, x.r 4, x.r 5, x.r 6, x.r 7, x.r 8, x.r 9, x.r 10, x.r 11, x.r 12, x.r 13, x.r 14, x.r 15] (↑x_2.fst : Int).toNat) = true →
 ((0 : Nat) + hashN x.r x_2.fst ≤ hashN x.r x_2.fst ∧
 True ∧
 (2 : Nat) * (hashN x.r x_2.fst + (1 : Nat)) * (16 : Nat) ≤ (281474976710656 : Nat) ∧
 hashN x.r x_2.fst + (1 : Nat) < (9223372036854775808 : Nat)) ∧
 x_2.snd = x_2.snd * (1 : Nat) ∧
 ∀ (c : Nat), hashN x.r x_2.fst + (1 : Nat) ≤ c →
 ((0 : Int) ≤ (↑x_2.fst : Int) ∧
 (↑x_2.fst : Int) < (16 : Int)) ∧
 (↑x_2.fst : Int).toNat < (16 : Nat) ∧
 Rel 9223372036854775808 (selS [x.r 0, x.r 1, x.r 2, x.r 3, x.r 4, x.r 5, x.r 6, x.r 7, x.r 8, x.r 9, x.r 10, x.r 11, x.r 12, x.r 13, x.r 14, x.r 15] (↑x_2.fst : Int).toNat) ∧
 (inlB (selS [x.r 0, x.r 1, x.r 2, x.r 3, x.r 4, x.r 5, x.r 6, x.r 7, x.r 8, x.r 9, x.r 10, x.r 11, x.r 12, x.r 13, x.r 14, x.r 15] (↑x_2.fst : Int).toNat) = true →
 (Near 64 { k := (getD (selS [x.r 0, x.r 1, x.r 2, x.r 3, x.r 4, x.r 5, x.r 6, x.r 7, x.r 8, x.r 9, x.r 10, x.r 11, x.r 12, x.r 13, x.r 14, x.r 15] (↑x_2.fst : Int).toNat)).k, p := (getD (selS [x.r 0, x.r 1, x.r 2, x.r 3, x.r 4, x.r 5, x.r 6, x.r 7, x.r 8, x.r 9, x.r 10, x.r 11, x.r 12, x.r 13, x.r 14, x.r 15] (↑x_2.fst : Int).toNat)).p, v := (getD (selS [x.r 0, x.r 1, x.r 2, x.r 3, x.r 4, x.r 5, x.r 6, x.r 7, x.r 8, x.r 9, x.r 10, x.r 11, x.r 12, x.r 13, x.r 14, x.r 15] (↑x_2.fst : Int).toNat)).v, r := fun (i : Nat) => [(getD (selS [x.r 0, x.r 1, x.r 2, x.r 3, x.r 4, x.r 5, x.r 6, x.r 7, x.r 8, x.r 9, x.r 10, x.r 11, x.r 12, x.r 13, x.r 14, x.r 15] (↑x_2.fst : Int).toNat)).r 0, (getD (selS [x.r 0, x.r 1, x.r 2, x.r 3, x.r 4, x.r 5, x.r 6, x.r 7, x.r 8, x.r 9, x.r 10, x.r 11, x.r 12, x.r 13, x.r 14, x.r 15] (↑x_2.fst : Int).toNat)).r 1, (getD (selS [x.r 0, x.r 1, x.r 2, x.r 3, x.r 4, x.r 5, x.r 6, x.r 7, x.r 8, x.r 9, x.r 10, x.r 11, x.r 12, x.r 13, x.r 14, x.r 15] (↑x_2.fst : Int).toNat)).r 2, (getD (selS [x.r 0, x.r 1, x.r 2, x.r 3, x.r 4, x.r 5, x.r 6, x.r 7, x.r 8, x.r 9, x.r 10, x.r 11, x.r 12, x.r 13, x.r 14, x.r 15] (↑x_2.fst : Int).toNat)).r 3, (getD (selS [x.r 0, x.r 1, x.r 2, x.r 3, x.r 4, x.r 5, x.r 6, x.r 7, x.r 8, x.r 9, x.r 10, x.r 11, x.r 12, x.r 13, x.r 14, x.r 15] (↑x_2.fst : Int).toNat)).r 4, (getD (selS [x.r 0, x.r 1, x.r 2, x.r 3, x.r 4, x.r 5, x.r 6, x.r 7, x.r 8, x.r 9, x.r 10, x.r 11, x.r 12, x.r 13, x.r 14, x.r 15] (↑x_2.fst : Int).toNat)).r 5, (getD (selS [x.r 0, x.r 1, x.r 2, x.r 3, x.r 4, x.r 5, x.r 6, x.r 7, x.r 8, x.r 9, x.r 10, x.r 11, x.r 12, x.r 13, x.r 14, x.r 15] (↑x_2.fst : Int).toNat)).r 6, (getD (selS [x.r 0, x.r 1, x.r 2, x.r 3, x.r 4, x.r 5, x.r 6, x.r 7, x.r 8, x.r 9, x.r 10, x.r 11, x.r 12, x.r 13, x.r 14, x.r 15] (↑x_2.fst : Int).toNat)).r 7, (getD (selS [x.r 0, x.r 1, x.r 2, x.r 3, x.r 4, x.r 5, x.r 6, x.r 7, x.r 8, x.r 9, x.r 10, x.r 11, x.r 12, x.r 13, x.r 14, x.r 15] (↑x_2.fst : Int).toNat)).r 8, (getD (selS [x.r 0, x.r 1, x.r 2, x.r 3, x.r 4, x.r 5, x.r 6, x.r 7, x.r 8, x.r 9, x.r 10, x.r 11, x.r 12, x.r 13, x.r 14, x.r 15] (↑x_2.fst : Int).toNat)).r 9, (getD (selS [x.r 0, x.r 1, x.r 2, x.r 3, x.r 4, x.r 5, x.r 6, x.r 7, x.r 8, x.r 9, x.r 10, x.r 11, x.r 12, x.r 13, x.r 14, x.r 15] (↑x_2.fst : Int).toNat)).r 10, (getD (selS [x.r 0, x.r 1, x.r 2, x.r 3, x.r 4, x.r 5, x.r 6, x.r 7, x.r 8, x.r 9, x.r 10, x.r 11, x.r 12, x.r 13, x.r 14, x.r 15] (↑x_2.fst : Int).toNat)).r 11, (getD (selS [x.r 0, x.r 1, x.r 2, x.r 3, x.r 4, x.r 5, x.r 6, x.r 7, x.r 8, x.r 9, x.r 10, x.r 11, x.r 12, x.r 13, x.r 14, x.r 15] (↑x_2.fst : Int).toNat)).r 12, (getD (selS [x.r 0, x.r 1, x.r 2, x.r 3, x.r 4, x.r 5, x.r 6, x.r 7, x.r 8, x.r 9, x.r 10, x.r 11, x.r 12, x.r 13, x.r 14, x.r 15] (↑x_2.fst : Int).toNat)).r 13, (getD (selS [x.r 0, x.r 1, x.r 2, x.r 3, x.r 4, x.r 5, x.r 6, x.r 7, x.r 8, x.r 9, x.r 10, x.r 11, x.r 12, x.r 13, x.r 14, x.r 15] (↑x_2.fst : Int).toNat)).r 14, (getD (selS [x.r 0, x.r 1, x.r 2, x.r 3, x.r 4, x.r 5, x.r 6, x.r 7, x.r 8, x.r 9, x.r 10, x.r 11, x.r 12, x.r 13, x.r 14, x.r 15] (↑x_2.fst : Int).toNat)).r 15].getD i [] : Nd } ∧
 (getD (selS [x.r 0, x.r 1, x.r 2, x.r 3, x.r 4, x.r 5, x.r 6, x.r 7, x.r 8, x.r 9, x.r 10, x.r 11, x.r 12, x.r 13, x.r 14, x.r 15] (↑x_2.fst : Int).toNat)).p.length < (1152921504606846976 : Nat)) ∧
 ((0 : Nat) + (hashN x.r x_2.fst + (1 : Nat)) ≤ hashN x.r x_2.fst + (1 : Nat) ∧
 True ∧
 (2 : Nat) * (hashN x.r x_2.fst + (1 : Nat) + (0 : Nat)) * (16 : Nat) ≤ (281474976710656 : Nat) ∧
 hashN x.r x_2.fst + (1 : Nat) + (0 : Nat) < (9223372036854775808 : Nat)) ∧
 c * (1 : Nat) = c * (1 : Nat) ∧
 ∀ (c : Nat), hashN x.r x_2.fst + (1 : Nat) + (0 : Nat) ≤ c →
 ((-9223372036854775808 : Int) ≤ (↑x_2.fst : Int) + (1 : Int) ∧
 (↑x_2.fst : Int) + (1 : Int) ≤ (9223372036854775807 : Int)) ∧
 ∃ (y : Nat × Nat), ((y.fst ≤ (16 : Nat) ∧
 hashN x.r y.fst ≤ y.snd) ∧
 (16 : Nat) - y.fst < (16 : Nat) - x_2.fst) ∧
 ((0 : Nat) = (0 : Nat) ∧
 hashN x.r x_2.fst + (1 : Nat) + (0 : Nat) = hashN x.r y.fst ∧
 c = y.snd) ∧
 True ∧
 (↑x_2.fst : Int) + (1 : Int) = (↑y.fst : Int) ∧
 SBle (SB.rows true (hashN x.r x_2.fst + (1 : Nat) + (0 : Nat)) [Col.str fun (j : Nat) => if j < hashN x.r x_2.fst then hashAt x.r x_2.fst j else selS [cutIn (selS [x.r 0, x.r 1, x.r 2, x.r 3, x.r 4, x.r 5, x.r 6, x.r 7, x.r 8, x.r 9, x.r 10, x.r 11, x.r 12, x.r 13, x.r 14, x.r 15] (↑x_2.fst : Int).toNat)] (j - hashN x.r x_2.fst)] false (c * (1 : Nat)) 9) (SB.rows true (hashN x.r y.fst) [Col.str (hashAt x.r y.fst)] false y.snd 9) ∧
 SBle (SB.cells x.sv.cells 19 25) (SB.cells x.sv.cells 19 25) ∧
 True) ∧
 (inlB (selS [x.r 0, x.r 1, x.r 2, x.r 3, x.r 4, x.r 5, x.r 6, x.r 7, x.r 8, x.r 9, x.r 10, x.r 11, x.r 12, x.r 13, x.r 14, x.r 15] (↑x_2.fst : Int).toNat) = false →
 ((-9223372036854775808 : Int) ≤ (↑x_2.fst : Int) + (1 : Int) ∧
 (↑x_2.fst : Int) + (1 : Int) ≤ (9223372036854775807 : Int)) ∧
 ∃ (y : Nat × Nat), ((y.fst ≤ (16 : Nat) ∧
 hashN x.r y.fst ≤ y.snd) ∧
 (16 : Nat) - y.fst < (16 : Nat) - x_2.fst) ∧
 ((0 : Nat) = (0 : Nat) ∧
 hashN x.r x_2.fst + (1 : Nat) = hashN x.r y.fst ∧
 c = y.snd) ∧
 True ∧
 (↑x_2.fst : Int) + (1 : Int) = (↑y.fst : Int) ∧
 SBle (SB.rows true (hashN x.r x_2.fst + (1 : Nat)) [Col.str fun (j : Nat) => if j < hashN x.r x_2.fst then hashAt x.r x_2.fst j else selS [cutIn (selS [x.r 0, x.r 1, x.r 2, x.r 3, x.r 4, x.r 5, x.r 6, x.r 7, x.r 8, x.r 9, x.r 10, x.r 11, x.r 12, x.r 13, x.r 14, x.r 15] (↑x_2.fst : Int).toNat)] (j - hashN x.r x_2.fst)] false (c * (1 : Nat)) 9) (SB.rows true (hashN x.r y.fst) [Col.str (hashAt x.r y.fst)] false y.snd 9) ∧
 SBle (SB.cells x.sv.cells 19 25) (SB.cells x.sv.cells 19 25) ∧
 True)) ∧
 (hashB (selS [x.r 0, x.r 1, x.r 2, x.r 3, x.r 4, x.r 5, x.r 6, x.r 7, x.r 8, x.r 9, x.r 10, x.r 11, x.r 12, x.r 13, x.r 14, x.r 15] (↑x_2.fst : Int).toNat) = false →
 ((0 : Int) ≤ (↑x_2.fst : Int) ∧
 (↑x_2.fst : Int) < (16 : Int)) ∧
 (↑x_2.fst : Int).toNat < (16 : Nat) ∧
 Rel 9223372036854775808 (selS [x.r 0, x.r 1, x.r 2, x.r 3, x.r 4, x.r 5, x.r 6, x.r 7, x.r 8, x.r 9, x.r 10, x.r 11, x.r 12, x.r 13, x.r 14, x.r 15] (↑x_2.fst : Int).toNat) ∧
 (inlB (selS [x.r 0, x.r 1, x.r 2, x.r 3, x.r 4, x.r 5, x.r 6, x.r 7, x.r 8, x.r 9, x.r 10, x.r 11, x.r 12, x.r 13, x.r 14, x.r 15] (↑x_2.fst : Int).toNat) = true →
 (Near 64 { k := (getD (selS [x.r 0, x.r 1, x.r 2, x.r 3, x.r 4, x.r 5, x.r 6, x.r 7, x.r 8, x.r 9, x.r 10, x.r 11, x.r 12, x.r 13, x.r 14, x.r 15] (↑x_2.fst : Int).toNat)).k, p := (getD (selS [x.r 0, x.r 1, x.r 2, x.r 3, x.r 4, x.r 5, x.r 6, x.r 7, x.r 8, x.r 9, x.r 10, x.r 11, x.r 12, x.r 13, x.r 14, x.r 15] (↑x_2.fst : Int).toNat)).p, v := (getD (selS [x.r 0, x.r 1, x.r 2, x.r 3, x.r 4, x.r 5, x.r 6, x.r 7, x.r 8, x.r 9, x.r 10, x.r 11, x.r 12, x.r 13, x.r 14, x.r 15] (↑x_2.fst : Int).toNat)).v, r := fun (i : Nat) => [(getD (selS [x.r 0, x.r 1, x.r 2, x.r 3, x.r 4, x.r 5, x.r 6, x.r 7, x.r 8, x.r 9, x.r 10, x.r 11, x.r 12, x.r 13, x.r 14, x.r 15] (↑x_2.fst : Int).toNat)).r 0, (getD (selS [x.r 0, x.r 1, x.r 2, x.r 3, x.r 4, x.r 5, x.r 6, x.r 7, x.r 8, x.r 9, x.r 10, x.r 11, x.r 12, x.r 13, x.r 14, x.r 15] (↑x_2.fst : Int).toNat)).r 1, (getD (selS [x.r 0, x.r 1, x.r 2, x.r 3, x.r 4, x.r 5, x.r 6, x.r 7, x.r 8, x.r 9, x.r 10, x.r 11, x.r 12, x.r 13, x.r 14, x.r 15] (↑x_2.fst : Int).toNat)).r 2, (getD (selS [x.r 0, x.r 1, x.r 2, x.r 3, x.r 4, x.r 5, x.r 6, x.r 7, x.r 8, x.r 9, x.r 10, x.r 11, x.r 12, x.r 13, x.r 14, x.r 15] (↑x_2.fst : Int).toNat)).r 3, (getD (selS [x.r 0, x.r 1, x.r 2, x.r 3, x.r 4, x.r 5, x.r 6, x.r 7, x.r 8, x.r 9, x.r 10, x.r 11, x.r 12, x.r 13, x.r 14, x.r 15] (↑x_2.fst : Int).toNat)).r 4, (getD (selS [x.r 0, x.r 1, x.r 2, x.r 3, x.r 4, x.r 5, x.r 6, x.r 7, x.r 8, x.r 9, x.r 10, x.r 11, x.r 12, x.r 13, x.r 14, x.r 15] (↑x_2.fst : Int).toNat)).r 5, (getD (selS [x.r 0, x.r 1, x.r 2, x.r 3, x.r 4, x.r 5, x.r 6, x.r 7, x.r 8, x.r 9, x.r 10, x.r 11, x.r 12, x.r 13, x.r 14, x.r 15] (↑x_2.fst : Int).toNat)).r 6, (getD (selS [x.r 0, x.r 1, x.r 2, x.r 3, x.r 4, x.r 5, x.r 6, x.r 7, x.r 8, x.r 9, x.r 10, x.r 11, x.r 12, x.r 13, x.r 14, x.r 15] (↑x_2.fst : Int).toNat)).r 7, (getD (selS [x.r 0, x.r 1, x.r 2, x.r 3, x.r 4, x.r 5, x.r 6, x.r 7, x.r 8, x.r 9, x.r 10, x.r 11, x.r 12, x.r 13, x.r 14, x.r 15] (↑x_2.fst : Int).toNat)).r 8, (getD (selS [x.r 0, x.r 1, x.r 2, x.r 3, x.r 4, x.r 5, x.r 6, x.r 7, x.r 8, x.r 9, x.r 10, x.r 11, x.r 12, x.r 13, x.r 14, x.r 15] (↑x_2.fst : Int).toNat)).r 9, (getD (selS [x.r 0, x.r 1, x.r 2, x.r 3, x.r 4, x.r 5, x.r 6, x.r 7, x.r 8, x.r 9, x.r 10, x.r 11, x.r 12, x.r 13, x.r 14, x.r 15] (↑x_2.fst : Int).toNat)).r 10, (getD (selS [x.r 0, x.r 1, x.r 2, x.r 3, x.r 4, x.r 5, x.r 6, x.r 7, x.r 8, x.r 9, x.r 10, x.r 11, x.r 12, x.r 13, x.r 14, x.r 15] (↑x_2.fst : Int).toNat)).r 11, (getD (selS [x.r 0, x.r 1, x.r 2, x.r 3, x.r 4, x.r 5, x.r 6, x.r 7, x.r 8, x.r 9, x.r 10, x.r 11, x.r 12, x.r 13, x.r 14, x.r 15] (↑x_2.fst : Int).toNat)).r 12, (getD (selS [x.r 0, x.r 1, x.r 2, x.r 3, x.r 4, x.r 5, x.r 6, x.r 7, x.r 8, x.r 9, x.r 10, x.r 11, x.r 12, x.r 13, x.r 14, x.r 15] (↑x_2.fst : Int).toNat)).r 13, (getD (selS [x.r 0, x.r 1, x.r 2, x.r 3, x.r 4, x.r 5, x.r 6, x.r 7, x.r 8, x.r 9, x.r 10, x.r 11, x.r 12, x.r 13, x.r 14, x.r 15] (↑x_2.fst : Int).toNat)).r 14, (getD (selS [x.r 0, x.r 1, x.r 2, x.r 3, x.r 4, x.r 5, x.r 6, x.r 7, x.r 8, x.r 9, x.r 10, x.r 11, x.r 12, x.r 13, x.r 14, x.r 15] (↑x_2.fst : Int).toNat)).r 15].getD i [] : Nd } ∧
 (getD (selS [x.r 0, x.r 1, x.r 2, x.r 3, x.r 4, x.r 5, x.r 6, x.r 7, x.r 8, x.r 9, x.r 10, x.r 11, x.r 12, x.r 13, x.r 14, x.r 15] (↑x_2.fst : Int).toNat)).p.length < (1152921504606846976 : Nat)) ∧
 ((0 : Nat) + hashN x.r x_2.fst ≤ hashN x.r x_2.fst ∧
 True ∧
 (2 : Nat) * (hashN x.r x_2.fst + (0 : Nat)) * (16 : Nat) ≤ (281474976710656 : Nat) ∧
 hashN x.r x_2.fst + (0 : Nat) < (9223372036854775808 : Nat)) ∧
 x_2.snd = x_2.snd * (1 : Nat) ∧
 ∀ (c : Nat), hashN x.r x_2.fst + (0 : Nat) ≤ c →
 ((-9223372036854775808 : Int) ≤ (↑x_2.fst : Int) + (1 : Int) ∧
 (↑x_2.fst : Int) + (1 : Int) ≤ (9223372036854775807 : Int)) ∧
 ∃ (y : Nat × Nat), ((y.fst ≤ (16 : Nat) ∧
 hashN x.r y.fst ≤ y.snd) ∧
 (16 : Nat) - y.fst < (16 : Nat) - x_2.fst) ∧
 ((0 : Nat) = (0 : Nat) ∧
 hashN x.r x_2.fst + (0 : Nat) = hashN x.r y.fst ∧
 c = y.snd) ∧
 True ∧
 (↑x_2.fst : Int) + (1 : Int) = (↑y.fst : Int) ∧
 SBle (SB.rows true (hashN x.r x_2.fst + (0 : Nat)) [Col.str (hashAt x.r x_2.fst)] false (c * (1 : Nat)) 9) (SB.rows true (hashN x.r y.fst) [Col.str (hashAt x.r y.fst)] false y.snd 9) ∧
 SBle (SB.cells x.sv.cells 19 25) (SB.cells x.sv.cells 19 25) ∧
 True) ∧
 (inlB (selS [x.r 0, x.r 1, x.r 2, x.r 3, x.r 4, x.r 5, x.r 6, x.r 7, x.r 8, x.r 9, x.r 10, x.r 11, x.r 12, x.r 13, x.r 14, x.r 15] (↑x_2.fst : Int).toNat) = false →
 ((-9223372036854775808 : Int) ≤ (↑x_2.fst : Int) + (1 : Int) ∧
 (↑x_2.fst : Int) + (1 : Int) ≤ (9223372036854775807 : Int)) ∧
 ∃ (y : Nat × Nat), ((y.fst ≤ (16 : Nat) ∧
 hashN x.r y.fst ≤ y.snd) ∧
 (16 : Nat) - y.fst < (16 : Nat) - x_2.fst) ∧
 ((0 : Nat) = (0 : Nat) ∧
 hashN x.r x_2.fst = hashN x.r y.fst ∧
 x_2.snd = y.snd) ∧
 True ∧
 (↑x_2.fst : Int) + (1 : Int) = (↑y.fst : Int) ∧
 SBle (SB.rows true (hashN x.r x_2.fst) [Col.str (hashAt x.r x_2.fst)] false x_2.snd 9) (SB.rows true (hashN x.r y.fst) [Col.str (hashAt x.r y.fst)] false y.snd 9) ∧
 SBle (SB.cells x.sv.cells 19 25) (SB.cells x.sv.cells 19 25) ∧
 True))) ∧
 (decide ((↑x_2.fst : Int) < (16 : Int)) = false →
 (validB x = true →
 ∃ (x_6 : Nat), hashN x.r (16 : Nat) ≤ x_6 ∧
 SBle (SB.rows true (hashN x.r x_2.fst) [Col.str (hashAt x.r x_2.fst)] false x_2.snd 9) (SB.rows true (hashN x.r 16) [Col.str (hashAt x.r 16)] false x_6 9) ∧
 sameVal (SV.rslc ((0 : Nat) + (1 : Nat)) 1 true 0 (hashN x.r x_2.fst) x_2.snd) (SV.rslc ((0 : Nat) + (1 : Nat)) 1 true 0 (hashN x.r 16) x_6)) ∧
 (validB x = false →
 sameVal (SV.rslc ((0 : Nat) + (1 : Nat)) 1 true 0 (hashN x.r x_2.fst) x_2.snd) SV.nilslc)))) := by kernel_rfl
end Go.Proofs.YtkfdcapnogklfaaGreatDoor
/-
  The reference's nodes: refs, hashes: the contracts.
-/
namespace Go.Proofs.YtkfdcapnogklfaaGreatDoor
open Go Sx
set_option maxRecDepth 20000
theorem dref_ok : CallOk Tryz.prog 21 (purePT refSpec) := by
  refine pure_ok goodE0 (n := 20) (fn := Tryz.f21) Tryz.func21 (by kernel_rfl) (by kernel_rfl) ?_
  intro args p r h hp
  unfold refSpec at h
  split at h
  · rename_i s
    injection h with h; injection h with h1 h2; subst h1; subst h2
    refine ⟨rfl, rfl, Holds.of_eq (vcERef s _) ⟨fun a => ?_, fun a => ⟨hp, by omega, ?_⟩⟩⟩
    · have a := of_decide_eq_true a
      exact str_same (by rw [refL, if_pos (by omega)])
    · have a := of_decide_eq_false a
      exact str_same (by rw [refL, if_neg (by omega)])
  · cases h
theorem in_short {t : List UInt8} (h : inlB t = true) : (getD t).p.length < 1152921504606846976 := by
  have := (valid_short (get_parts (inl_shape h).2.1).2.1).few.p
  omega
theorem near_rstep {L : Nat} (hH : CallOk Tryz.prog 13 (purePT (nearR L))) : CallOk Tryz.prog 13 (purePT (nearR (L + 1))) := by
  refine nd_ok Tryz.func13 (by kernel_rfl) (by kernel_rfl) fun x p v h hp => ?_
  injection h with h; injection h with h1 h2; subst h1; subst h2
  have hp : Near (L + 1) x ∧ x.p.length < 1152921504606846976 := hp
  refine ⟨cfgENear L, [x.sv], ⟨mixes, SummOk.cons hH (purePT_mono _) listE0_ok, fns_ok⟩, fun E => rfl, rfl, rfl, Holds.of_eq (vcENear L x _) ?_⟩
  refine ⟨⟨fits_rel (near_fits hp.1), hp.2⟩, fun _ _ => rfl, fun _ => ⟨⟨0, by omega, rfl, SBle.refl _, trivial⟩, fun i hi => ⟨fun c => ?_, fun _ _ => rfl⟩⟩⟩
  have c := of_decide_eq_true c
  have ei : i < 16 := by omega
  rw [Int.toNat_natCast, sel16 x.r ei]
  have hf := near_fits hp.1 i ei
  have hn : x.r i = [] ∨ ((x.r i).length < L ∧ (x.r i).length < 32) := hp.1 i ei
  have hlen : (x.r i).length < 33 := by
    rcases hn with h | h
    · rw [h]; decide
    · omega
  refine ⟨by omega, by omega, hf, fun e => ?_, fun e => ⟨by omega, by omega, ⟨.inl hf, hf⟩, fun f => ⟨⟨?_, in_short f⟩, by omega, i + 1, ⟨by omega, by omega⟩, by omega, SBle.refl _, trivial⟩, fun f => ⟨by omega, i + 1, ⟨by omega, by omega⟩, by omega, SBle.refl _, trivial⟩⟩⟩
  · have := hash_len e
    omega
  · have hl : (x.r i).length < L ∧ (x.r i).length < 32 := by
      rcases hn with h | h
      · rw [h] at f; exact absurd f (by decide)
      · exact h
    exact near_same (same_mk (getD (x.r i))) (near_in (inl_shape f).1 hl.1 hl.2)
theorem near_rall : ∀ L, CallOk Tryz.prog 13 (purePT (nearR L))
  | 0 => nd_ok Tryz.func13 (by kernel_rfl) (by kernel_rfl) fun x p v h hp => by
    injection h with h; injection h with h1 h2; subst h1
    exact hp.1.elim
  | L + 1 => near_rstep (near_rall L)
theorem dhashes_holds {x : Nd} (hx : Fits x) (hp : x.p.length < 1152921504606846976) : Holds (runA (cfgEHs x) 13 Tryz.f13 [x.sv] (hashesA x)) := by
  refine Holds.of_eq (vcEHashes x) ?_
  have e := valid_ext (same_mk x)
  rw [e]
  refine ⟨⟨fits_rel hx, hp⟩, fun a => ?_, fun a => ?_⟩
  · have a : validB x = false := by simpa using a
    exact ⟨fun h => (by rw [a] at h; cases h), fun _ _ => rfl⟩
  have a : validB x = true := by simpa using a
  refine ⟨⟨(0, 0), ⟨by decide, Nat.le_refl _⟩, rfl, rfl, rfl, SBle.refl _, trivial⟩, fun g hg => ⟨fun c => ?_, fun c => ?_⟩⟩
  · have c := of_decide_eq_true c
    have ei : g.1 < 16 := by omega
    rw [Int.toNat_natCast, sel16 x.r ei]
    have hf := hx g.1 ei
    have hn := hashN_le x.r g.1
    have hg2 := hg.2
    refine ⟨by omega, by omega, hf, fun e => ?_, fun e => ⟨by omega, by omega, ⟨.inl hf, hf⟩, fun f => ?_, fun f => ?_⟩⟩
    · have nf : inlB (x.r g.1) = false := not_both e
      refine ⟨⟨by omega, trivial, by omega, by omega⟩, by omega, fun cap hcap => ⟨by omega, by omega, ⟨.inl hf, hf⟩, fun f => absurd (nf.symm.trans f) (by decide), fun _ => ⟨by omega, (g.1 + 1, cap), ⟨⟨by show g.1 + 1 ≤ 16; omega, ?_⟩, by show 16 - (g.1 + 1) < _; omega⟩, ⟨rfl, (hashN_step e).symm, rfl⟩, trivial, by show (g.1 : Int) + 1 = ((g.1 + 1 : Nat) : Int); omega, ?_, SBle.refl _, trivial⟩⟩⟩
      · show hashN x.r (g.1 + 1) ≤ cap
        rw [hashN_step e]; exact hcap
      · exact Sx.SBle.strRows (hashN_step e).symm (Nat.mul_one cap) fun j hj => hashAt_step e j hj
    · have hk := inl_shape f
      have hil := inl_len f
      refine ⟨⟨near_same (same_mk (getD (x.r g.1))) (near_in hk.1 (by omega) hil), in_short f⟩, ⟨by omega, trivial, by omega, by omega⟩, by omega, fun cap hcap => ⟨by omega, (g.1 + 1, cap), ⟨⟨by show g.1 + 1 ≤ 16; omega, ?_⟩, by show 16 - (g.1 + 1) < _; omega⟩, ⟨rfl, (hashN_skip e).1.symm, rfl⟩, trivial, by show (g.1 : Int) + 1 = ((g.1 + 1 : Nat) : Int); omega, ?_, SBle.refl _, trivial⟩⟩
      · show hashN x.r (g.1 + 1) ≤ cap
        rw [(hashN_skip e).1]; exact hcap
      · exact Sx.SBle.strRows (hashN_skip e).1.symm (Nat.mul_one cap) fun j _ => ((hashN_skip e).2 j).symm
    · refine ⟨by omega, (g.1 + 1, g.2), ⟨⟨by show g.1 + 1 ≤ 16; omega, ?_⟩, by show 16 - (g.1 + 1) < _; omega⟩, ⟨rfl, (hashN_skip e).1.symm, rfl⟩, trivial, by show (g.1 : Int) + 1 = ((g.1 + 1 : Nat) : Int); omega, ?_, SBle.refl _, trivial⟩
      · show hashN x.r (g.1 + 1) ≤ g.2
        rw [(hashN_skip e).1]; exact hg2
      · exact Sx.SBle.strRows (hashN_skip e).1.symm rfl fun j _ => ((hashN_skip e).2 j).symm
  · have c := of_decide_eq_false c
    have hg1 := hg.1
    have e : g.1 = 16 := by omega
    have hg2 := hg.2
    rw [e] at hg2 ⊢
    exact ⟨fun _ => ⟨g.2, hg2, SBle.refl _, fun _ => rfl⟩, fun h => by rw [h] at a; cases a⟩
theorem dhashes_ok : CallOk Tryz.prog 13 (ansPT (ndSpecA fun x => some (Fits x ∧ x.p.length < 1152921504606846976, hashesA x))) := by
  refine ans_ok (n := 20) (fn := Tryz.f13) Tryz.func13 (by kernel_rfl) (by kernel_rfl) ?_
  intro args p a h hp
  obtain ⟨x, hx, hg⟩ := ndSpecA_eq h
  subst hx
  injection hg with hg; injection hg with h1 h2; subst h1; subst h2
  refine ⟨cfgEHs x, ⟨mixes, SummOk.cons (near_rall 64) (purePT_mono _) listE0_ok, fns_ok⟩, rfl, fun b => ?_, dhashes_holds hp.1 hp.2⟩
  cases b with
  | false => exact rfl
  | true =>
    intro c
    refine ⟨rfl, rfl, fun k => by simp [SV.wf, Nat.blt_eq], fun E E' k k' h => ?_⟩
    cases hn : hashN x.r 16 with
    | zero => rfl
    | succ n =>
      rw [hn] at h
      have hk : E k = E' k' := h rfl
      simp [SV.val, hk]
end Go.Proofs.YtkfdcapnogklfaaGreatDoor
