/-
  NodeGets: the node that any bytes are, how they are referred to, and what they refer to, is just what the document says: for every input the law returns true.
-/
import Derived.Test.YtkfdcapnogklfaaGreatDoorTf
import Derived.Test.YtkfdcapnogklfaaGreatDoorRf
import Derived.Test.YtkfdcapnogklfaaGreatDoorTie
import Derived.Test.YtkfdcapnogklfaaGreatDoorCards
import Derived.SevenTiedAt
namespace Go.Proofs.YtkfdcapnogklfaaGreatDoor
open Go Sx Go.RowKit Go.WideShapes Go.ChangeShapes
set_option maxRecDepth 100000
theorem nodeGets_lifted (os : Os) (started : os.Started) (H : Type) (enc : TypeId × Value → H) :
    ReturnsInHanded {} Tryz.checked os 4 .any (fun w args => (Rows.nodeGetsSpec.pre enc Tryz.prog Tryz.f4 [] false w args ∧ laidMetH Tryz.prog laidL w) ∧ sizedMet enc Tryz.prog Tryz.f4 (OpenSpec.ofChange Rows.nodeGetsSpec) false w args)
      (Rows.nodeGetsSpec.post enc Tryz.prog Tryz.f4 false true false false) := by
  refine law_laid (C := Tryz.checked) (boolT := 4) (X := fun w => laidMetH Tryz.prog laidL w) (fun _ _ hh h => h.of_heap hh) Tryz.own started (by kernel_rfl) Tryz.func4
    (ChangeSpec.witness_at (enc := enc) (C := Tryz.checked) (os := os) (X := fun w _ => laidMetH Tryz.prog laidL w) false (laidWorld os) #[.string ⟨#[]⟩] 8 rfl (by kernel_rfl) (by kernel_rfl) (by kernel_rfl) (by kernel_rfl) (by kernel_rfl) (laidWorld_met os _))
    Tryz.laidOut rfl Tryz.underlying4 (by kernel_rfl) (of_decide_eq_true (by kernel_rfl)) rfl (fun ds h => by match ds, h with | [a0], _ => rfl) ?_
  intro W args ds ps hval hA hL
  have hA' : DataW.TrodAll enc Tryz.prog W 0 (fun _ => true) true [9] args.toList ds ps := hA
  obtain ⟨v0, d0, rfl, rfl, h0⟩ := trodAll_one hA'
  obtain ⟨b0, w0⟩ := hval 0 9 v0 rfl rfl
  obtain ⟨s, rfl, rfl, rfl, hs⟩ := Go.ChangeMaps.open_string Tryz.underlying9 w0 h0
  obtain ⟨cfg, hg, hh⟩ := lgets_calls s.data.toList
  exact run_calls hg Tryz.func4 (by kernel_rfl) (by kernel_rfl) hh rfl (glob_of_laid hL) (fun _ => 0)
theorem nodeGets_holds : Rows.NodeGetsSaid :=
  OpenClaim.holds_of_wide 4 Tryz.f4 rfl rfl rfl rfl rfl rfl rfl ⟨rfl, rfl, rfl, rfl, rfl⟩ rfl rfl rfl rfl rfl (by kernel_rfl) Tryz.func4 (by kernel_rfl)
    (of_decide_eq_true (by kernel_rfl)) (by unfold Func.isWrapper; first | (rw [if_pos (by decide +kernel)]; kernel_rfl) | (rw [if_neg (by decide +kernel)]; exact ⟨rfl, rfl⟩))
    (fun os started H enc _ => nodeGets_lifted os started H enc)
theorem nodeGets_card_holds : Rows.NodeGetsCardSaid :=
  Claim7.holds_tied_plain_at .later [] [.handle, .data] true (true, "0baba57f0bdcd08ede9424131bb4133c43e510b77e8df2cbd65b98dd08c6be62") true
    nodeGets_holds (fun _ h => by cases h) (by kernel_rfl) (fun _ h => by cases h) nodeGets_row_tie rfl ⟨rfl, rfl⟩ (by kernel_rfl) rfl
    (fun f fn hf hfn => by
      obtain rfl : f = 4 := Option.some.inj ((show Tryz.prog.funcNamed "guilloche/guillochelaw04.NodeGets" = some 4 by kernel_rfl).symm.trans hf) |>.symm
      obtain rfl : fn = Tryz.f4 := (Option.some.inj (Tryz.func4.symm.trans hfn)).symm
      exact ⟨by kernel_rfl, fun j t ht => by
        rw [Tryz.params4] at ht
        have hm := Array.mem_of_getElem? ht
        simp only [List.mem_toArray, List.mem_cons, List.not_mem_nil, or_false] at hm
        rcases hm with rfl
        · exact (show Tryz.prog.wantsStandIn 9 = false by kernel_rfl)⟩)
    (by kernel_rfl)
#print axioms nodeGets_card_holds
end Go.Proofs.YtkfdcapnogklfaaGreatDoor
