/-
  Rlp: Check, of what is no list of lists: the set-up.
-/
import Derived.Test.YtndbjcbfnmjheaaDoorOg
import Derived.Test.YtndbjcbfnmjheaaDoorOc
import Derived.Test.YtndbjcbfnmjheaaDoorOd
import Derived.Test.YtndbjcbfnmjheaaDoorOe
import Derived.Test.YtndbjcbfnmjheaaDoorTie
import Derived.Test.YtndbjcbfnmjheaaDoorCards
import Derived.SevenTiedAt
namespace Go.Proofs.YtndbjcbfnmjheaaDoor
open Go Sx

/-- It is not one item. -/
def checkBad (s : List UInt8) : Bool := !cutB s || !decide (cutRest s = [])
/-- If it is a list it is one of texts. -/
def flatList (s : List UInt8) : Prop := cutB s = true → cutRest s = [] → cutL s = true → itemsB (cutIn s) = true ∧ ∀ j, j < itemsN (cutIn s) → cutL (itemAt (cutIn s) j) = false
/-- An error that tells a place. -/
def faultV : Ans := .all Int fun at' => .new (fun k => .iface 63 (.ptr k true 0)) (.cells [.int .i64 false at', .iface 24 (.int .i64 true 2)] 2 65)
def checkE (s : List UInt8) : Ans := .fork (checkBad s) fun b => match b with
  | true => faultV
  | false => .ret .niliface
def checkA (s : List UInt8) : Ans := .fork (checkBad s) fun b => match b with
  | true => .ret (.int .i64 true 2)
  | false => .ret (.int .i64 true 0)
/-- A call that is not come to. -/
def failPT : PT := fun _ _ _ _ => .fail "a call that is not come to"
theorem fail_ok {P : Program} {f : FuncId} : CallOk P f failPT := fun _ _ _ _ h => h.elim
theorem fail_mono : MonoPT failPT := fun _ _ _ _ _ _ h => h
noncomputable def listT : List (FuncId × PT) := (22, failPT) :: (17, failPT) :: list7
theorem listT_ok : SummOk Tryd.prog (fun f => lookPT f listT) := .cons fail_ok fail_mono (.cons fail_ok fail_mono list7_ok)
noncomputable def cfgT : Cfg := { cfg0 with summ := fun f => lookPT f listT }
theorem goodT : Sx.Good Tryd.prog cfgT := ⟨mixes, listT_ok, fns_ok⟩
end Go.Proofs.YtndbjcbfnmjheaaDoor
/-
  Conditions that the executor computes, written out by a program (vcgen.py).
-/
namespace Go.Proofs.YtndbjcbfnmjheaaDoor
open Go Sx

theorem vcCheckT (s : List UInt8) (n : Int) (R : SV → Prop) : VC.holds (runP cfgT 22 Tryd.f22 [.str false s, .int .i64 false n] R) = (s.length < (1152921504606846976 : Nat) ∧
  (cutB s = true →
      ((!decide (cutRest s = [])) = true →
          ((-9223372036854775808 : Int) ≤ (↑s.length : Int) - (↑(cutRest s).length : Int) ∧ (↑s.length : Int) - (↑(cutRest s).length : Int) ≤ (9223372036854775807 : Int)) ∧
            R (SV.iface (63 : Nat) (SV.ptr ((0 : Nat) + (1 : Nat) + (1 : Nat)) true (0 : Nat)))) ∧
        ((!decide (cutRest s = [])) = false →
          ((!cutL s) = true → R SV.niliface) ∧
            ((!cutL s) = false → (decide (n = (32 : Int)) = true → R (SV.iface (63 : Nat) (SV.ptr ((0 : Nat) + (1 : Nat) + (1 : Nat)) true (0 : Nat)))) ∧ (decide (n = (32 : Int)) = false → False)))) ∧
    (cutB s = false → ∀ (x : Int), R (SV.iface (63 : TypeId) (SV.ptr ((0 : Nat) + (1 : Nat) + (1 : Nat)) true (0 : Nat))))) := by kernel_rfl
end Go.Proofs.YtndbjcbfnmjheaaDoor
/-
  Rlp: check, of a text; the set-up for a list of texts.
-/
namespace Go.Proofs.YtndbjcbfnmjheaaDoor
open Go Sx

def checkTSpec : List SV → Option (Prop × SV)
  | [.str false s, .int .i64 false _] => some (s.length < 1152921504606846976 ∧ cutB s = true ∧ cutRest s = [] ∧ cutL s = false, .niliface)
  | _ => none
theorem checkT_ok : CallOk Tryd.prog 22 (purePT checkTSpec) := by
  refine pure_ok goodT (n := 20) (fn := Tryd.f22) Tryd.func22 (by kernel_rfl) (by kernel_rfl) ?_
  intro args p r h hp
  unfold checkTSpec at h
  split at h
  · rename_i s n
    injection h with h; injection h with h1 h2; subst h1; subst h2
    obtain ⟨h0, h1, h2, h3⟩ := hp
    refine ⟨rfl, rfl, Holds.of_eq (vcCheckT s n _) ⟨h0, fun _ => ⟨fun h => ?_, fun _ => ⟨fun _ _ => rfl, fun h => ?_⟩⟩, fun h => ?_⟩⟩
    · rw [h2] at h; simp at h
    · rw [h3] at h; cases h
    · rw [h1] at h; cases h
  · cases h
noncomputable def listC : List (FuncId × PT) := (22, purePT checkTSpec) :: list7
theorem listC_ok : SummOk Tryd.prog (fun f => lookPT f listC) := .cons checkT_ok (purePT_mono _) list7_ok
noncomputable def annCheck (s : List UInt8) : LoopAnn :=
  { α := Nat, pre := fun _ k => Walk s k ∧ k ≤ itemsN s, mea := fun _ k => (restAt s k).length, fresh := 0, slots := fun _ k => [(3, .str false (restAt s k))], mem := fun _ _ => [] }
noncomputable def cfgC (s : List UInt8) : Cfg := { cfg0 with summ := fun f => lookPT f listC, anns := fun f => if f = 25 then [(1, always (annCheck (cutIn s)))] else [] }
theorem goodC (s : List UInt8) : Sx.Good Tryd.prog (cfgC s) := ⟨mixes, listC_ok, fns_ok⟩
end Go.Proofs.YtndbjcbfnmjheaaDoor
/-
  Conditions that the executor computes, written out by a program (vcgen.py).
-/
namespace Go.Proofs.YtndbjcbfnmjheaaDoor
open Go Sx

theorem vcCheckE (s : List UInt8) : VC.holds (runA (cfgC s) 22 Tryd.f22 [.str false s, .int .i64 false 0] (checkE s)) = (s.length < (1152921504606846976 : Nat) ∧
  (cutB s = true →
      ((!decide (cutRest s = [])) = true →
          ((-9223372036854775808 : Int) ≤ (↑s.length : Int) - (↑(cutRest s).length : Int) ∧ (↑s.length : Int) - (↑(cutRest s).length : Int) ≤ (9223372036854775807 : Int)) ∧
            (checkBad s = true →
                ∃ (x : Int),
                  SBle (SB.cells [SV.int IntKind.i64 false ((↑s.length : Int) - (↑(cutRest s).length : Int)), SV.iface (24 : Nat) (SV.int IntKind.i64 true (2 : Int))] (2 : Nat) (65 : Nat))
                      (SB.cells [SV.int IntKind.i64 false x, SV.iface (24 : TypeId) (SV.int IntKind.i64 true (2 : Int))] (2 : Nat) (65 : TypeId)) ∧
                    sameVal (SV.iface (63 : Nat) (SV.ptr ((0 : Nat) + (1 : Nat) + (1 : Nat)) true (0 : Nat))) (SV.iface (63 : TypeId) (SV.ptr ((0 : Nat) + (1 : Nat) + (1 : Nat)) true (0 : Nat)))) ∧
              (checkBad s = false → sameVal (SV.iface (63 : Nat) (SV.ptr ((0 : Nat) + (1 : Nat) + (1 : Nat)) true (0 : Nat))) SV.niliface)) ∧
        ((!decide (cutRest s = [])) = false →
          ((!cutL s) = true → (checkBad s = true → ∃ (x : Int), False) ∧ (checkBad s = false → sameVal SV.niliface SV.niliface)) ∧
            ((!cutL s) = false →
              (decide ((0 : Int) = (32 : Int)) = true →
                  (checkBad s = true →
                      ∃ (x : Int),
                        SBle (SB.cells [SV.int IntKind.i64 true (0 : Int), SV.iface (24 : Nat) (SV.int IntKind.i64 true (2 : Int))] (2 : Nat) (65 : Nat))
                            (SB.cells [SV.int IntKind.i64 false x, SV.iface (24 : TypeId) (SV.int IntKind.i64 true (2 : Int))] (2 : Nat) (65 : TypeId)) ∧
                          sameVal (SV.iface (63 : Nat) (SV.ptr ((0 : Nat) + (1 : Nat) + (1 : Nat)) true (0 : Nat)))
                            (SV.iface (63 : TypeId) (SV.ptr ((0 : Nat) + (1 : Nat) + (1 : Nat)) true (0 : Nat)))) ∧
                    (checkBad s = false → sameVal (SV.iface (63 : Nat) (SV.ptr ((0 : Nat) + (1 : Nat) + (1 : Nat)) true (0 : Nat))) SV.niliface)) ∧
                (decide ((0 : Int) = (32 : Int)) = false →
                  ∀ (R : Loop),
                    (∃ (y : Nat),
                        (Walk (cutIn s) y ∧ y ≤ itemsN (cutIn s)) ∧
                          cutIn s = restAt (cutIn s) y ∧
                            SBle (SB.loop LoopState.ready none R) (SB.loop LoopState.ready none R) ∧
                              SBle (SB.cells (SV.str false (cutIn s)).cells (1 : Nat) (9 : Nat)) (SB.cells (SV.str false (cutIn s)).cells (1 : Nat) (9 : Nat)) ∧
                                SBle (SB.cells SV.niliface.cells (1 : Nat) (49 : Nat)) (SB.cells SV.niliface.cells (1 : Nat) (49 : Nat)) ∧
                                  SBle (SB.cells (SV.int IntKind.i64 false (0 : Int)).cells (1 : Nat) (3 : Nat)) (SB.cells (SV.int IntKind.i64 false (0 : Int)).cells (1 : Nat) (3 : Nat)) ∧ True) ∧
                      ∀ (x : Nat),
                        Walk (cutIn s) x ∧ x ≤ itemsN (cutIn s) →
                          ((!decide (restAt (cutIn s) x = [])) = true →
                              (restAt (cutIn s) x).length < (1152921504606846976 : Nat) ∧
                                (cutB (restAt (cutIn s) x) = true →
                                    ((-9223372036854775808 : Int) ≤ (↑(restAt (cutIn s) x).length : Int) - (↑(cutRest (restAt (cutIn s) x)).length : Int) ∧
                                        (↑(restAt (cutIn s) x).length : Int) - (↑(cutRest (restAt (cutIn s) x)).length : Int) ≤ (9223372036854775807 : Int)) ∧
                                      ((0 : Int) ≤ (0 : Int) ∧
                                          (0 : Int) ≤ (↑(restAt (cutIn s) x).length : Int) - (↑(cutRest (restAt (cutIn s) x)).length : Int) ∧
                                            (↑(restAt (cutIn s) x).length : Int) - (↑(cutRest (restAt (cutIn s) x)).length : Int) ≤ (↑(restAt (cutIn s) x).length : Int)) ∧
                                        R = R ∧
                                          ((-9223372036854775808 : Int) ≤ (1 : Int) ∧ (1 : Int) ≤ (9223372036854775807 : Int)) ∧
                                            ((subStr (restAt (cutIn s) x) none (some (Operand.tmp (37 : Nat))) (0 : Int)
                                                      ((↑(restAt (cutIn s) x).length : Int) - (↑(cutRest (restAt (cutIn s) x)).length : Int))).length <
                                                  (1152921504606846976 : Nat) ∧
                                                cutB
                                                      (subStr (restAt (cutIn s) x) none (some (Operand.tmp (37 : Nat))) (0 : Int)
                                                        ((↑(restAt (cutIn s) x).length : Int) - (↑(cutRest (restAt (cutIn s) x)).length : Int))) =
                                                    true ∧
                                                  cutRest
                                                        (subStr (restAt (cutIn s) x) none (some (Operand.tmp (37 : Nat))) (0 : Int)
                                                          ((↑(restAt (cutIn s) x).length : Int) - (↑(cutRest (restAt (cutIn s) x)).length : Int))) =
                                                      [] ∧
                                                    cutL
                                                        (subStr (restAt (cutIn s) x) none (some (Operand.tmp (37 : Nat))) (0 : Int)
                                                          ((↑(restAt (cutIn s) x).length : Int) - (↑(cutRest (restAt (cutIn s) x)).length : Int))) =
                                                      false) ∧
                                              ∃ (y : Nat),
                                                ((Walk (cutIn s) y ∧ y ≤ itemsN (cutIn s)) ∧ (restAt (cutIn s) y).length < (restAt (cutIn s) x).length) ∧
                                                  cutRest (restAt (cutIn s) x) = restAt (cutIn s) y ∧
                                                    SBle (SB.loop LoopState.ready none R) (SB.loop LoopState.ready none R) ∧
                                                      SBle (SB.cells (SV.str false (cutIn s)).cells (1 : Nat) (9 : Nat)) (SB.cells (SV.str false (cutIn s)).cells (1 : Nat) (9 : Nat)) ∧
                                                        SBle (SB.cells SV.niliface.cells (1 : Nat) (49 : Nat)) (SB.cells SV.niliface.cells (1 : Nat) (49 : Nat)) ∧
                                                          SBle (SB.cells (SV.int IntKind.i64 false (0 : Int)).cells (1 : Nat) (3 : Nat))
                                                              (SB.cells (SV.int IntKind.i64 false (0 : Int)).cells (1 : Nat) (3 : Nat)) ∧
                                                            True) ∧
                                  (cutB (restAt (cutIn s) x) = false →
                                    ∀ (x_4 : Int),
                                      ((-9223372036854775808 : Int) ≤ (↑(cutIn s).length : Int) - (↑(restAt (cutIn s) x).length : Int) ∧
                                          (↑(cutIn s).length : Int) - (↑(restAt (cutIn s) x).length : Int) ≤ (9223372036854775807 : Int)) ∧
                                        R = R ∧
                                          (checkBad s = true →
                                              ∃ (x_6 : Int),
                                                SBle
                                                    (SB.cells
                                                      [SV.int IntKind.i64 false ((↑(cutIn s).length : Int) - (↑(restAt (cutIn s) x).length : Int)),
                                                        SV.iface (63 : TypeId) (SV.ptr ((0 : Nat) + (1 : Nat) + (1 : Nat) + (1 : Nat) + (1 : Nat) + (0 : Nat)) true (0 : Nat))]
                                                      (2 : Nat) (65 : Nat))
                                                    (SB.cells [SV.int IntKind.i64 false x_6, SV.iface (24 : TypeId) (SV.int IntKind.i64 true (2 : Int))] (2 : Nat) (65 : TypeId)) ∧
                                                  sameVal (SV.iface (63 : Nat) (SV.ptr ((0 : Nat) + (1 : Nat) + (1 : Nat) + (1 : Nat) + (1 : Nat) + (0 : Nat) + (1 : Nat)) true (0 : Nat)))
                                                    (SV.iface (63 : TypeId) (SV.ptr ((0 : Nat) + (1 : Nat) + (1 : Nat) + (1 : Nat) + (1 : Nat) + (0 : Nat) + (1 : Nat)) true (0 : Nat)))) ∧
                                            (checkBad s = false →
                                              sameVal (SV.iface (63 : Nat) (SV.ptr ((0 : Nat) + (1 : Nat) + (1 : Nat) + (1 : Nat) + (1 : Nat) + (0 : Nat) + (1 : Nat)) true (0 : Nat))) SV.niliface))) ∧
                            ((!decide (restAt (cutIn s) x = [])) = false → (checkBad s = true → ∃ (x : Int), False) ∧ (checkBad s = false → sameVal SV.niliface SV.niliface)))))) ∧
    (cutB s = false →
      ∀ (x : Int),
        (checkBad s = true →
            ∃ (x_2 : Int),
              SBle (SB.cells [SV.int IntKind.i64 false x, SV.iface (24 : TypeId) (SV.int IntKind.i64 true (2 : Int))] (2 : Nat) (65 : TypeId))
                  (SB.cells [SV.int IntKind.i64 false x_2, SV.iface (24 : TypeId) (SV.int IntKind.i64 true (2 : Int))] (2 : Nat) (65 : TypeId)) ∧
                sameVal (SV.iface (63 : TypeId) (SV.ptr ((0 : Nat) + (1 : Nat) + (1 : Nat)) true (0 : Nat))) (SV.iface (63 : TypeId) (SV.ptr ((0 : Nat) + (1 : Nat) + (1 : Nat)) true (0 : Nat)))) ∧
          (checkBad s = false → sameVal (SV.iface (63 : TypeId) (SV.ptr ((0 : Nat) + (1 : Nat) + (1 : Nat)) true (0 : Nat))) SV.niliface))) := by kernel_rfl
end Go.Proofs.YtndbjcbfnmjheaaDoor
/-
  Rlp: check, of a list of texts: the contract.
-/
namespace Go.Proofs.YtndbjcbfnmjheaaDoor
open Go Sx

theorem cut_len {s : List UInt8} (h : cutB s = true) : ∃ k : Nat, 1 ≤ k ∧ k ≤ s.length ∧ cutRest s = s.drop k ∧ (cutRest s).length = s.length - k ∧
    ((byteAt s 0 < 128 ∧ k = 1) ∨ (¬ byteAt s 0 < 128 ∧ 55 < lead s ∧ lenB s (lead s - 54) = true ∧ (k : Int) = lead s - 54 + part s (lead s - 54)) ∨
      (¬ byteAt s 0 < 128 ∧ ¬ 55 < lead s ∧ (k : Int) = 1 + lead s ∧ ¬ (byteAt s 0 < 192 ∧ lead s = 1 ∧ byteAt s 1 < 128))) := by
  obtain ⟨h0, hc⟩ := cutB_iff.1 h
  have hl := List.length_pos_iff.2 h0
  rcases hc with hA | ⟨hA, hB, hC, hD⟩ | ⟨hA, hB, hC, hD⟩
  · exact ⟨1, by omega, by omega, (cut_short hA).2.2, by rw [(cut_short hA).2.2, List.length_drop], .inl ⟨hA, rfl⟩⟩
  · have hp := part_nn s (lead s - 54)
    have hq := (lenB_iff.1 hC).1
    refine ⟨(lead s - 54 + part s (lead s - 54)).toNat, by omega, by omega, (cut_long hA hB).2, by rw [(cut_long hA hB).2, List.length_drop], .inr (.inl ⟨hA, hB, hC, by omega⟩)⟩
  · have hn := lead_nn hA
    refine ⟨(1 + lead s).toNat, by omega, by omega, (cut_mid hA hB).2, by rw [(cut_mid hA hB).2, List.length_drop], .inr (.inr ⟨hA, hB, by omega, hD⟩)⟩
theorem part_take {s : List UInt8} {k : Nat} {i : Int} (h : i ≤ k) (hk : k ≤ s.length) : part (s.take k) i = part s i := by
  have := part_app (a := s.take k) (b := s.drop k) (i := i) (by rw [List.length_take]; omega)
  rw [List.take_append_drop] at this
  exact this.symm
/-- An item, by itself, is one. -/
theorem item_cut {s : List UInt8} (h : cutB s = true) : cutB (itemOf s) = true ∧ cutL (itemOf s) = cutL s ∧ cutRest (itemOf s) = [] := by
  obtain ⟨k, k1, k2, k3, k4, hc⟩ := cut_len h
  have e : itemOf s = s.take k := by
    unfold itemOf
    rw [k4, show s.length - (s.length - k) = k by omega]
  have hs : s.take k ++ s.drop k = s := List.take_append_drop k s
  rw [e]
  have hlen : (s.take k).length = k := by rw [List.length_take]; omega
  have b0 : byteAt s 0 = byteAt (s.take k) 0 := by
    conv => lhs; rw [← hs]
    exact byteAt_left (Int.le_refl _) (by omega)
  have el : lead s = lead (s.take k) := by unfold lead; rw [b0]
  have eL : cutL (s.take k) = cutL s := by unfold cutL; rw [b0]
  have hne : s.take k ≠ [] := by intro x; rw [x] at hlen; simp at hlen; omega
  rcases hc with ⟨hA, hk⟩ | ⟨hA, hB, hC, hk⟩ | ⟨hA, hB, hk, hD⟩
  · rw [b0] at hA
    refine ⟨cutB_iff.2 ⟨hne, .inl hA⟩, eL, ?_⟩
    rw [(cut_short hA).2.2]
    exact List.drop_eq_nil_iff.2 (by omega)
  · have hq := (lenB_iff.1 hC).1
    have hp := part_nn s (lead s - 54)
    have ep : part s (lead s - 54) = part (s.take k) (lead s - 54) := (part_take (by omega) k2).symm
    have b1 : byteAt s 1 = byteAt (s.take k) 1 := by
      conv => lhs; rw [← hs]
      exact byteAt_left (by omega) (by omega)
    obtain ⟨c1, c2, c3, c4⟩ := lenB_iff.1 hC
    rw [b0] at hA
    rw [ep] at c3 c4 hk hp
    rw [b1] at c2
    rw [el] at hB hk c3 c4 hp
    have hC' : lenB (s.take k) (lead (s.take k) - 54) = true := lenB_iff.2 ⟨by omega, c2, c3, c4⟩
    refine ⟨cutB_iff.2 ⟨hne, .inr (.inl ⟨hA, hB, hC', by omega⟩)⟩, eL, ?_⟩
    rw [(cut_long hA hB).2]
    exact List.drop_eq_nil_iff.2 (by omega)
  · have hn := lead_nn hA
    have hD' : ¬ (byteAt (s.take k) 0 < 192 ∧ lead (s.take k) = 1 ∧ byteAt (s.take k) 1 < 128) := by
      rintro ⟨x, y, z⟩
      have b1 : byteAt s 1 = byteAt (s.take k) 1 := by
        conv => lhs; rw [← hs]
        exact byteAt_left (by omega) (by omega)
      exact hD ⟨by rw [b0]; exact x, by rw [el]; exact y, by rw [b1]; exact z⟩
    rw [b0] at hA
    rw [el] at hB hk hn
    refine ⟨cutB_iff.2 ⟨hne, .inr (.inr ⟨hA, hB, by omega, hD'⟩)⟩, eL, ?_⟩
    rw [(cut_mid hA hB).2]
    exact List.drop_eq_nil_iff.2 (by omega)
theorem bad_iff {s : List UInt8} : checkBad s = false ↔ cutB s = true ∧ cutRest s = [] := by
  simp [checkBad]
theorem cutIn_len (s : List UInt8) : (cutIn s).length ≤ s.length := by
  unfold cutIn
  simp only [List.length_take, List.length_drop]; omega
theorem checkE_holds {s : List UInt8} (hs : s.length < 1152921504606846976) (hf : flatList s) : Holds (runA (cfgC s) 22 Tryd.f22 [.str false s, .int .i64 false 0] (checkE s)) := by
  refine Holds.of_eq (vcCheckE s) ?_
  have hi := cutIn_len s
  refine ⟨hs, fun a => ⟨fun b => ?_, fun b => ?_⟩, fun a x => ⟨fun _ => by (first | exact ⟨_, SBle.cells (fun _ => rfl) rfl, fun _ => rfl⟩ | exact fun _ => rfl | trivial), fun c => ?_⟩⟩
  · have hr : (cutRest s).length < s.length := cut_lt a
    refine ⟨by omega, fun _ => by (first | exact ⟨_, SBle.cells (fun _ => rfl) rfl, fun _ => rfl⟩ | exact fun _ => rfl | trivial), fun c => ?_⟩
    rw [(bad_iff.1 c).2] at b; simp at b
  · have b : cutRest s = [] := by simpa using b
    have hb : checkBad s = false := bad_iff.2 ⟨a, b⟩
    refine ⟨fun _ => ⟨fun c => (by rw [hb] at c; cases c), fun _ _ => rfl⟩, fun c => ⟨fun h => absurd h (by decide), fun _ R => ?_⟩⟩
    have c : cutL s = true := by simpa using c
    obtain ⟨f1, f2⟩ := hf a b c
    have done : (checkBad s = true → ∃ (x : Int), False) ∧ (checkBad s = false → sameVal SV.niliface SV.niliface) := ⟨fun c => (by rw [hb] at c; cases c), fun _ _ => rfl⟩
    refine ⟨⟨0, ⟨fun j hj => absurd hj (Nat.not_lt_zero _), Nat.zero_le _⟩, by simp only [restAt], SBle.refl _, SBle.refl _, SBle.refl _, SBle.refl _, trivial⟩, fun k ⟨hw, hk⟩ => ⟨fun d => ?_, fun _ => done⟩⟩
    have d : restAt (cutIn s) k ≠ [] := by simpa using d
    have hl := hw.len
    obtain ⟨i1, i2⟩ := hw.items
    rw [f1] at i1
    have hcut : cutB (restAt (cutIn s) k) = true := by
      cases hc : cutB (restAt (cutIn s) k) with
      | false => rw [items_bad d hc] at i1; cases i1
      | true => rfl
    have hlt := cut_lt hcut
    have hk1 : k + 1 ≤ itemsN (cutIn s) := by
      rw [i2, (items_cut d hcut).2]; omega
    have hit : subStr (restAt (cutIn s) k) none (some (Operand.tmp (37 : Nat))) (0 : Int) ((↑(restAt (cutIn s) k).length : Int) - (↑(cutRest (restAt (cutIn s) k)).length : Int)) = itemAt (cutIn s) k := by
      simp only [subStr, itemAt, itemOf]
      rw [show ((↑(restAt (cutIn s) k).length : Int) - (↑(cutRest (restAt (cutIn s) k)).length : Int)).toNat = (restAt (cutIn s) k).length - (cutRest (restAt (cutIn s) k)).length by omega]
    obtain ⟨j1, j2, j3⟩ := item_cut hcut
    have hil : (itemAt (cutIn s) k).length ≤ (restAt (cutIn s) k).length := by
      unfold itemAt itemOf; simp only [List.length_take]; omega
    rw [hit]
    refine ⟨by omega, fun _ => ⟨by omega, by omega, rfl, by omega, ⟨by omega, j1, j3, f2 k (by omega)⟩, k + 1, ⟨⟨hw.snoc d hcut, hk1⟩, by simp only [restAt]; exact hlt⟩, by simp only [restAt], SBle.refl _, SBle.refl _, SBle.refl _, SBle.refl _, trivial⟩, fun e => ?_⟩
    rw [hcut] at e; cases e
  · rw [(bad_iff.1 c).1] at a; cases a
def checkESpec : List SV → Option (Prop × Ans)
  | [.str false s, .int .i64 false n] => some (n = 0 ∧ s.length < 1152921504606846976 ∧ flatList s, checkE s)
  | _ => none
theorem checkE_ok : CallOk Tryd.prog 22 (ansPT checkESpec) := by
  refine ans_ok (n := 20) (fn := Tryd.f22) Tryd.func22 (by kernel_rfl) (by kernel_rfl) ?_
  intro args p a h hp
  unfold checkESpec at h
  split at h
  · rename_i s n
    injection h with h; injection h with h1 h2; subst h1; subst h2
    obtain ⟨rfl, hs, hf⟩ := hp
    refine ⟨_, goodC s, rfl, fun b => ?_, checkE_holds hs hf⟩
    cases b with
    | false => exact rfl
    | true =>
      intro x
      refine ⟨rfl, rfl, fun k => by simp [SV.wf, Nat.blt_eq], fun E E' k k' h => ?_⟩
      have hk : E k = E' k' := h rfl
      simp [SV.val, hk]
  · cases h
noncomputable def listD : List (FuncId × PT) := (22, ansPT checkESpec) :: list7
theorem listD_ok : SummOk Tryd.prog (fun f => lookPT f listD) := .cons checkE_ok (ansPT_mono _) list7_ok
noncomputable def cfgE : Cfg := { cfg0 with summ := fun f => lookPT f listD }
theorem goodE : Sx.Good Tryd.prog cfgE := ⟨mixes, listD_ok, fns_ok⟩
end Go.Proofs.YtndbjcbfnmjheaaDoor
/-
  Conditions that the executor computes, written out by a program (vcgen.py).
-/
namespace Go.Proofs.YtndbjcbfnmjheaaDoor
open Go Sx

theorem vcCheck (s : List UInt8) : VC.holds (runA cfgE 14 Tryd.f14 [.str false s] (checkA s)) = (((0 : Int) = (0 : Int) ∧ s.length < (1152921504606846976 : Nat) ∧ flatList s) ∧
  (checkBad s = true →
      ∀ (x : Int),
        (checkBad s = true → sameVal (SV.int IntKind.i64 true (2 : Int)) (SV.int IntKind.i64 true (2 : Int))) ∧
          (checkBad s = false → sameVal (SV.int IntKind.i64 true (2 : Int)) (SV.int IntKind.i64 true (0 : Int)))) ∧
    (checkBad s = false →
      (checkBad s = true → sameVal (SV.int IntKind.i64 true (0 : Int)) (SV.int IntKind.i64 true (2 : Int))) ∧
        (checkBad s = false → sameVal (SV.int IntKind.i64 true (0 : Int)) (SV.int IntKind.i64 true (0 : Int))))) := by kernel_rfl
end Go.Proofs.YtndbjcbfnmjheaaDoor
/-
  Rlp: Check: the contract; RlpCuts: the set-up.
-/
namespace Go.Proofs.YtndbjcbfnmjheaaDoor
open Go Sx

def checkSpec : List SV → Option (Prop × Ans)
  | [.str false s] => some (s.length < 1152921504606846976 ∧ flatList s, checkA s)
  | _ => none
theorem check_ok : CallOk Tryd.prog 14 (ansPT checkSpec) := by
  refine ans_ok (n := 20) (fn := Tryd.f14) Tryd.func14 (by kernel_rfl) (by kernel_rfl) ?_
  intro args p a h hp
  unfold checkSpec at h
  split at h
  · rename_i s
    injection h with h; injection h with h1 h2; subst h1; subst h2
    refine ⟨_, goodE, rfl, fun b => ?_, Holds.of_eq (vcCheck s) ⟨⟨rfl, hp.1, hp.2⟩, fun a _ => ⟨fun _ _ => rfl, fun b => ?_⟩, fun a => ⟨fun b => ?_, fun _ _ => rfl⟩⟩⟩
    · cases b <;> exact rfl
    · rw [a] at b; cases b
    · rw [a] at b; cases b
  · cases h
noncomputable def list10 : List (FuncId × PT) := (14, ansPT checkSpec) :: list9
noncomputable def cfg10 : Cfg := { cfg0 with summ := fun f => lookPT f list10 }
end Go.Proofs.YtndbjcbfnmjheaaDoor
/-
  Conditions that the executor computes, written out by a program (vcgen.py).
-/
namespace Go.Proofs.YtndbjcbfnmjheaaDoor
open Go Sx

theorem vcCuts (b c : List UInt8) (at' : Int) : VC.holds (runA cfg10 5 Tryd.f5 [.str false b, .str false c, .int .u16 false at'] (.ret (.bool false true))) = (True ∧
  (decide ((400 : Int) < (↑b.length : Int)) = true → sameVal (SV.bool true true) (SV.bool false true)) ∧
    (decide ((400 : Int) < (↑b.length : Int)) = false →
      (decide ((400 : Int) < (↑c.length : Int)) = true → sameVal (SV.bool true true) (SV.bool false true)) ∧
        (decide ((400 : Int) < (↑c.length : Int)) = false →
          b.length < (1152921504606846976 : Nat) ∧
            c.length < (1152921504606846976 : Nat) ∧
              (((2 : Nat) = (2 : Nat) ∧ (2 : Nat) ≤ (2 : Nat)) ∧ (2 : Nat) ≤ (140737488355328 : Nat) ∧ (flat [textOf b, textOf c]).length ≤ (140737488355328 : Nat)) ∧
                (((0 : Int) ≤ (192 : Int) ∧ (192 : Int) ≤ (192 : Int)) ∧
                    (0 : Int) ≤ (↑(flat [textOf b, textOf c]).length : Int) ∧ (↑(flat [textOf b, textOf c]).length : Int) < (1152921504606846976 : Int)) ∧
                  (↑(headOf (192 : Int) (↑(flat [textOf b, textOf c]).length : Int).toNat).length : Int) + (↑(flat [textOf b, textOf c]).length : Int) ≤ (9223372036854775807 : Int) ∧
                    ((-9223372036854775808 : Int) ≤ at' ∧ at' ≤ (9223372036854775807 : Int)) ∧
                      ((0 : Int) ≤ at' ∧
                          at' ≤ (9223372036854775807 : Int) ∧ (0 : Int) < (↑(cat (headOf (192 : Int) (↑(flat [textOf b, textOf c]).length : Int).toNat) (flat [textOf b, textOf c])).length : Int)) ∧
                        ((0 : Int) ≤ (0 : Int) ∧
                            (0 : Int) ≤ at' % (↑(cat (headOf (192 : Int) (↑(flat [textOf b, textOf c]).length : Int).toNat) (flat [textOf b, textOf c])).length : Int) ∧
                              at' % (↑(cat (headOf (192 : Int) (↑(flat [textOf b, textOf c]).length : Int).toNat) (flat [textOf b, textOf c])).length : Int) ≤
                                (↑(cat (headOf (192 : Int) (↑(flat [textOf b, textOf c]).length : Int).toNat) (flat [textOf b, textOf c])).length : Int)) ∧
                          (subStr (cat (headOf (192 : Int) (↑(flat [textOf b, textOf c]).length : Int).toNat) (flat [textOf b, textOf c])) none (some (Operand.tmp (39 : Nat))) (0 : Int)
                                  (at' % (↑(cat (headOf (192 : Int) (↑(flat [textOf b, textOf c]).length : Int).toNat) (flat [textOf b, textOf c])).length : Int))).length <
                              (1152921504606846976 : Nat) ∧
                            (cutB
                                    (subStr (cat (headOf (192 : Int) (↑(flat [textOf b, textOf c]).length : Int).toNat) (flat [textOf b, textOf c])) none (some (Operand.tmp (39 : Nat))) (0 : Int)
                                      (at' % (↑(cat (headOf (192 : Int) (↑(flat [textOf b, textOf c]).length : Int).toNat) (flat [textOf b, textOf c])).length : Int))) =
                                  true →
                                sameVal (SV.bool true false) (SV.bool false true)) ∧
                              (cutB
                                    (subStr (cat (headOf (192 : Int) (↑(flat [textOf b, textOf c]).length : Int).toNat) (flat [textOf b, textOf c])) none (some (Operand.tmp (39 : Nat))) (0 : Int)
                                      (at' % (↑(cat (headOf (192 : Int) (↑(flat [textOf b, textOf c]).length : Int).toNat) (flat [textOf b, textOf c])).length : Int))) =
                                  false →
                                ((-9223372036854775808 : Int) ≤ at' ∧ at' ≤ (9223372036854775807 : Int)) ∧
                                  ((0 : Int) ≤ at' ∧ at' ≤ (9223372036854775807 : Int) ∧ (0 : Int) < (↑(textOf b).length : Int)) ∧
                                    ((0 : Int) ≤ (0 : Int) ∧ (0 : Int) ≤ at' % (↑(textOf b).length : Int) ∧ at' % (↑(textOf b).length : Int) ≤ (↑(textOf b).length : Int)) ∧
                                      ((subStr (textOf b) none (some (Operand.tmp (57 : Nat))) (0 : Int) (at' % (↑(textOf b).length : Int))).length < (1152921504606846976 : Nat) ∧
                                          flatList (subStr (textOf b) none (some (Operand.tmp (57 : Nat))) (0 : Int) (at' % (↑(textOf b).length : Int)))) ∧
                                        (checkBad (subStr (textOf b) none (some (Operand.tmp (57 : Nat))) (0 : Int) (at' % (↑(textOf b).length : Int))) = true →
                                            (↑(cat (headOf (192 : Int) (↑(flat [textOf b, textOf c]).length : Int).toNat) (flat [textOf b, textOf c])).length : Int) + (↑(textOf b).length : Int) ≤
                                                (9223372036854775807 : Int) ∧
                                              ((cat (cat (headOf (192 : Int) (↑(flat [textOf b, textOf c]).length : Int).toNat) (flat [textOf b, textOf c])) (textOf b)).length <
                                                    (1152921504606846976 : Nat) ∧
                                                  flatList (cat (cat (headOf (192 : Int) (↑(flat [textOf b, textOf c]).length : Int).toNat) (flat [textOf b, textOf c])) (textOf b))) ∧
                                                (checkBad (cat (cat (headOf (192 : Int) (↑(flat [textOf b, textOf c]).length : Int).toNat) (flat [textOf b, textOf c])) (textOf b)) = true →
                                                    ((cat (headOf (192 : Int) (↑(flat [textOf b, textOf c]).length : Int).toNat) (flat [textOf b, textOf c])).length < (1152921504606846976 : Nat) ∧
                                                        flatList (cat (headOf (192 : Int) (↑(flat [textOf b, textOf c]).length : Int).toNat) (flat [textOf b, textOf c]))) ∧
                                                      (checkBad (cat (headOf (192 : Int) (↑(flat [textOf b, textOf c]).length : Int).toNat) (flat [textOf b, textOf c])) = true →
                                                          sameVal (SV.bool true false) (SV.bool false true)) ∧
                                                        (checkBad (cat (headOf (192 : Int) (↑(flat [textOf b, textOf c]).length : Int).toNat) (flat [textOf b, textOf c])) = false →
                                                          c.length < (1152921504606846976 : Nat) ∧
                                                            sameVal (SV.bool (false && false && (false && false)) (decide (textOf b = textOf c) == decide (b = c))) (SV.bool false true))) ∧
                                                  (checkBad (cat (cat (headOf (192 : Int) (↑(flat [textOf b, textOf c]).length : Int).toNat) (flat [textOf b, textOf c])) (textOf b)) = false →
                                                    sameVal (SV.bool true false) (SV.bool false true))) ∧
                                          (checkBad (subStr (textOf b) none (some (Operand.tmp (57 : Nat))) (0 : Int) (at' % (↑(textOf b).length : Int))) = false →
                                            sameVal (SV.bool true false) (SV.bool false true)))))) := by kernel_rfl
end Go.Proofs.YtndbjcbfnmjheaaDoor
/-
  Rlp: RlpCuts: the run and the plain law.
-/
namespace Go.Proofs.YtndbjcbfnmjheaaDoor
open Go Sx

theorem one_item {s : List UInt8} (h : cutB s = true) (h2 : cutRest s = []) : itemsB s = true ∧ itemsN s = 1 ∧ itemAt s 0 = s := by
  have hne := (cutB_iff.1 h).1
  obtain ⟨g1, g2⟩ := items_cut hne h
  rw [h2] at g1 g2
  refine ⟨by rw [g1]; exact items_nil.1, by rw [g2, items_nil.2], ?_⟩
  unfold itemAt itemOf
  simp only [restAt]
  rw [h2, List.length_nil, Nat.sub_zero, List.take_length]
theorem text_one {b : List UInt8} (hb : b.length ≤ 1048576) : cutB (textOf b) = true ∧ cutL (textOf b) = false ∧ cutRest (textOf b) = [] := by
  obtain ⟨h1, h2, _, h4⟩ := text_cut hb []
  rw [List.append_nil] at h1 h2 h4
  exact ⟨h1, h2, h4⟩
theorem two_items {b c : List UInt8} (hb : b.length ≤ 1048576) (hc : c.length ≤ 1048576) : itemsB (textOf b ++ textOf c) = true ∧ ∀ j, j < itemsN (textOf b ++ textOf c) → cutL (itemAt (textOf b ++ textOf c) j) = false := by
  obtain ⟨b1, b2, b3⟩ := text_one hb
  obtain ⟨c1, c2, c3⟩ := text_one hc
  obtain ⟨i1, i2, i3⟩ := one_item b1 b3
  obtain ⟨k1, k2, k3⟩ := one_item c1 c3
  obtain ⟨j1, j2, j3, j4⟩ := items_join i1 (textOf c)
  refine ⟨by rw [j1]; exact k1, fun j hj => ?_⟩
  rw [j2, i2, k2] at hj
  have h01 : j = 0 ∨ j = 1 := by omega
  rcases h01 with rfl | rfl
  · rw [j3 0 (by omega), i3]; exact b2
  · have := j4 0
    rw [i2, k3] at this
    rw [show (1 : Nat) = 1 + 0 from rfl, this]; exact c2
theorem cuts_holds {b c : List UInt8} {at' : Int} (h0 : 0 ≤ at') (h1 : at' < 65536) : Holds (runA cfg10 5 Tryd.f5 [.str false b, .str false c, .int .u16 false at'] (.ret (.bool false true))) := by
  refine Holds.of_eq (vcCuts b c at') ?_
  have hflat : flat [textOf b, textOf c] = textOf b ++ textOf c := by simp [flat]
  simp only [show ∀ u v, cat u v = u ++ v from fun _ _ => rfl, hflat, Int.toNat_natCast, subStr]
  refine ⟨trivial, fun _ _ => rfl, fun hb => ⟨fun _ _ => rfl, fun hc => ?_⟩⟩
  simp only [decide_eq_false_iff_not, Int.not_lt] at hb hc
  have lb := text_len b
  have lc := text_len c
  have nb := List.length_pos_iff.2 (text_ne b)
  have hx : (textOf b ++ textOf c).length ≤ 1048576 := by rw [List.length_append]; omega
  have hh := head_len 192 (textOf b ++ textOf c).length
  have e192 : ¬ ((192 : Int) = 128 ∧ (textOf b ++ textOf c).length = 1 ∧ byteAt (textOf b ++ textOf c) 0 < 128) := fun h => by omega
  have hl : (headOf 192 (textOf b ++ textOf c).length ++ (textOf b ++ textOf c)).length = (headOf 192 (textOf b ++ textOf c).length).length + (textOf b ++ textOf c).length := List.length_append
  obtain ⟨r1, r2, r3, r4⟩ := enc_cut (.inr rfl) hx e192 (textOf b)
  obtain ⟨s1, s2, s3, s4⟩ := enc_cut (.inr rfl) hx e192 []
  rw [List.append_nil] at s1 s2 s3 s4
  have early : ∀ k, k < (headOf 192 (textOf b ++ textOf c).length ++ (textOf b ++ textOf c)).length → cutB ((headOf 192 (textOf b ++ textOf c).length ++ (textOf b ++ textOf c)).take k) = false := fun k hk => enc_early (.inr rfl) hx hk
  have xl : (textOf b ++ textOf c).length = (textOf b).length + (textOf c).length := List.length_append
  generalize hX : textOf b ++ textOf c = x at *
  generalize hL : headOf 192 x.length ++ x = l at *
  have hm : at' % (l.length : Int) < l.length := Int.emod_lt_of_pos _ (by omega)
  have hm0 : 0 ≤ at' % (l.length : Int) := Int.emod_nonneg _ (by omega)
  have hn : at' % ((textOf b).length : Int) < (textOf b).length := Int.emod_lt_of_pos _ (by omega)
  have hn0 : 0 ≤ at' % ((textOf b).length : Int) := Int.emod_nonneg _ (by omega)
  have e1 := early (at' % (l.length : Int)).toNat (by omega)
  have e2 := text_early (b := b) (by omega) (k := (at' % ((textOf b).length : Int)).toNat) (by omega)
  have bad2 : checkBad ((textOf b).take (at' % ((textOf b).length : Int)).toNat) = true := by simp [checkBad, e2]
  have bad3 : checkBad (l ++ textOf b) = true := by simp [checkBad, r4, text_ne b]
  have bad4 : checkBad l = false := bad_iff.2 ⟨s1, s4⟩
  have fl2 : flatList ((textOf b).take (at' % ((textOf b).length : Int)).toNat) := fun h => by rw [e2] at h; cases h
  have fl3 : flatList (l ++ textOf b) := fun _ h => by rw [r4] at h; exact absurd h (text_ne b)
  have fl4 : flatList l := fun _ _ _ => by rw [s3, ← hX]; exact two_items (by omega) (by omega)
  have tk : ∀ (n : Nat) (u : List UInt8), (u.take n).length ≤ u.length := fun n u => by rw [List.length_take]; omega
  have k1 := tk (at' % (l.length : Int)).toNat l
  have k2 := tk (at' % ((textOf b).length : Int)).toNat (textOf b)
  refine ⟨by omega, by omega, ⟨⟨trivial, by omega⟩, by omega, by omega⟩, by omega, by omega, by omega, by omega, by omega, by omega, (fun h => by rw [e1] at h; cases h), fun _ => ⟨by omega, by omega, by omega, ⟨by omega, fl2⟩, fun _ => ⟨by omega, ⟨by rw [List.length_append]; omega, fl3⟩, fun _ => ⟨⟨by omega, fl4⟩, (fun h => by rw [bad4] at h; cases h), fun _ => ⟨by omega, ?_⟩⟩, (fun h => by rw [bad3] at h; cases h)⟩, (fun h => by rw [bad2] at h; cases h)⟩⟩
  have : (decide (textOf b = textOf c) == decide (b = c)) = true := by
    by_cases h : b = c
    · subst h; simp
    · have h2 : ¬ textOf b = textOf c := fun e => h (text_inj (by omega) (by omega) e)
      simp [h, h2]
  rw [this]
  exact fun _ => rfl
theorem list10_ok : SummOk Tryd.prog (fun f => lookPT f list9) → SummOk Tryd.prog (fun f => lookPT f list10) := fun h => .cons check_ok (ansPT_mono _) h
end Go.Proofs.YtndbjcbfnmjheaaDoor
/-
  RlpCuts: an item that ends too early, or has something behind it, is none: for every input the law returns true.
-/
namespace Go.Proofs.YtndbjcbfnmjheaaDoor
open Go Sx Go.RowKit Go.WideShapes Go.ChangeShapes

set_option maxRecDepth 100000
theorem good10 : Sx.Good Tryd.prog cfg10 := ⟨mixes, list10_ok list9_ok, fns_ok⟩
theorem rlpCuts_lifted (os : Os) (started : os.Started) (H : Type) (enc : TypeId × Value → H) :
    ReturnsInHanded {} Tryd.checked os 5 .any (fun w args => (Rows.rlpCutsSpec.pre enc Tryd.prog Tryd.f5 [] false w args ∧ laidMetH Tryd.prog laidL w) ∧ sizedMet enc Tryd.prog Tryd.f5 (OpenSpec.ofChange Rows.rlpCutsSpec) false w args)
      (Rows.rlpCutsSpec.post enc Tryd.prog Tryd.f5 false true false false) := by
  refine law_laid (C := Tryd.checked) (boolT := 4) (X := fun w => laidMetH Tryd.prog laidL w) (fun _ _ hh h => h.of_heap hh) Tryd.own started (by kernel_rfl) Tryd.func5
    (ChangeSpec.witness_at (enc := enc) (C := Tryd.checked) (os := os) (X := fun w _ => laidMetH Tryd.prog laidL w) false (laidWorld os) #[.string ⟨#[]⟩, .string ⟨#[]⟩, .int .u16 0] 8 rfl (by kernel_rfl) (by kernel_rfl) (by kernel_rfl) (by kernel_rfl) (by kernel_rfl) (laidWorld_met os _))
    Tryd.laidOut rfl Tryd.underlying4 (by kernel_rfl) (of_decide_eq_true (by kernel_rfl)) rfl (fun ds h => by match ds, h with | [a, b, c], _ => rfl) ?_
  intro W args ds ps hval hA hL
  have hA' : DataW.TrodAll enc Tryd.prog W 0 (fun _ => true) true [9, 9, 34] args.toList ds ps := hA
  obtain ⟨v0, v1, v2, d0, d1, d2, p0, p1, p2, rfl, rfl, rfl, h0, h1, h2⟩ := trodAll_three hA'
  obtain ⟨b0, w0⟩ := hval 0 9 v0 rfl rfl
  obtain ⟨b1, w1⟩ := hval 1 9 v1 rfl rfl
  obtain ⟨b2, w2⟩ := hval 2 34 v2 rfl rfl
  obtain ⟨b, rfl, rfl, rfl, _⟩ := Go.ChangeMaps.open_string Tryd.underlying9 w0 h0
  obtain ⟨c, rfl, rfl, rfl, _⟩ := Go.ChangeMaps.open_string Tryd.underlying9 w1 h1
  obtain ⟨n, rfl, rfl, rfl, hn⟩ := open_int Tryd.underlying34 w2 h2
  have hn' : 0 ≤ n ∧ n < 65536 := by
    simp only [Lit.wf, Bool.and_eq_true, decide_eq_true_eq] at hn
    exact ⟨hn.1, Int.lt_of_le_of_lt hn.2 (by decide)⟩
  exact run_calls good10 Tryd.func5 (by kernel_rfl) (by kernel_rfl) (cuts_holds (b := b.data.toList) (c := c.data.toList) hn'.1 hn'.2) rfl (glob_of_laid hL) (fun _ => 0)
theorem rlpCuts_holds : Rows.RlpCutsSaid :=
  OpenClaim.holds_of_wide 5 Tryd.f5 rfl rfl rfl rfl rfl rfl rfl ⟨rfl, rfl, rfl, rfl, rfl⟩ rfl rfl rfl rfl rfl (by kernel_rfl) Tryd.func5 (by kernel_rfl)
    (of_decide_eq_true (by kernel_rfl)) (by unfold Func.isWrapper; first | (rw [if_pos (by decide +kernel)]; kernel_rfl) | (rw [if_neg (by decide +kernel)]; exact ⟨rfl, rfl⟩))
    (fun os started H enc _ => rlpCuts_lifted os started H enc)
/-- The row, tied to the program's text. -/
theorem rlpCuts_card_holds : Rows.RlpCutsCardSaid :=
  Claim7.holds_tied_plain_at .later [] [.handle] true (true, "d3815d4fa52966a4e320e1365884279a6c02ea32bbbd7e8d22480c4a0d87648c") true
    rlpCuts_holds (fun _ h => by cases h) (by kernel_rfl) (fun _ h => by cases h) rlpCuts_row_tie rfl ⟨rfl, rfl⟩ (by kernel_rfl) rfl
    (fun f fn hf hfn => by
      obtain rfl : f = 5 := Option.some.inj ((show Tryd.prog.funcNamed "guilloche/guillochelaw02.RlpCuts" = some 5 by kernel_rfl).symm.trans hf) |>.symm
      obtain rfl : fn = Tryd.f5 := (Option.some.inj (Tryd.func5.symm.trans hfn)).symm
      exact ⟨by kernel_rfl, fun j t ht => by
        rw [Tryd.params5] at ht
        have hm := Array.mem_of_getElem? ht
        simp only [List.mem_toArray, List.mem_cons, List.not_mem_nil, or_false] at hm
        rcases hm with rfl | rfl | rfl
        · exact (show Tryd.prog.wantsStandIn 9 = false by kernel_rfl)
        · exact (show Tryd.prog.wantsStandIn 9 = false by kernel_rfl)
        · exact (show Tryd.prog.wantsStandIn 34 = false by kernel_rfl)⟩)
    (by kernel_rfl)
#print axioms rlpCuts_card_holds
end Go.Proofs.YtndbjcbfnmjheaaDoor
