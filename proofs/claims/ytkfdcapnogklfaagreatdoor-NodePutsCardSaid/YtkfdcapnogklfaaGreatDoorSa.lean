/-
  NodePuts: whether any node may be, its bytes, and the hashes that it refers to, is just what the document says: for every input the law returns true.
-/
import Derived.Test.YtkfdcapnogklfaaGreatDoorTf
import Derived.Test.YtkfdcapnogklfaaGreatDoorRf
import Derived.Test.YtkfdcapnogklfaaGreatDoorTie
import Derived.Test.YtkfdcapnogklfaaGreatDoorCards
import Derived.SevenTiedAt
namespace Go.Proofs.YtkfdcapnogklfaaGreatDoor
open Go Sx Go.RowKit Go.WideShapes Go.ChangeShapes
set_option maxRecDepth 100000
theorem nodePuts_lifted (os : Os) (started : os.Started) (H : Type) (enc : TypeId × Value → H) :
    ReturnsInHanded {} Tryz.checked os 3 .any (fun w args => (Rows.nodePutsSpec.pre enc Tryz.prog Tryz.f3 [] false w args ∧ laidMetH Tryz.prog laidL w) ∧ sizedMet enc Tryz.prog Tryz.f3 (OpenSpec.ofChange Rows.nodePutsSpec) false w args)
      (Rows.nodePutsSpec.post enc Tryz.prog Tryz.f3 false true false false) := by
  refine law_laid (C := Tryz.checked) (boolT := 4) (X := fun w => laidMetH Tryz.prog laidL w) (fun _ _ hh h => h.of_heap hh) Tryz.own started (by kernel_rfl) Tryz.func3
    (ChangeSpec.witness_at (enc := enc) (C := Tryz.checked) (os := os) (X := fun w _ => laidMetH Tryz.prog laidL w) false (laidWorld os) #[.agg #[.int .i64 0, .string ⟨#[]⟩, .string ⟨#[]⟩, .string ⟨#[]⟩, .string ⟨#[]⟩, .string ⟨#[]⟩, .string ⟨#[]⟩, .string ⟨#[]⟩, .string ⟨#[]⟩, .string ⟨#[]⟩, .string ⟨#[]⟩, .string ⟨#[]⟩, .string ⟨#[]⟩, .string ⟨#[]⟩, .string ⟨#[]⟩, .string ⟨#[]⟩, .string ⟨#[]⟩, .string ⟨#[]⟩, .string ⟨#[]⟩]] 8 rfl (by kernel_rfl) (by kernel_rfl) (by kernel_rfl) (by kernel_rfl) (by kernel_rfl) (laidWorld_met os _))
    Tryz.laidOut rfl Tryz.underlying4 (by kernel_rfl) (of_decide_eq_true (by kernel_rfl)) rfl (fun ds h => by match ds, h with | [a0], _ => rfl) ?_
  intro W args ds ps hval hA hL
  have hA' : DataW.TrodAll enc Tryz.prog W 0 (fun _ => true) true [25] args.toList ds ps := hA
  obtain ⟨v0, d0, rfl, rfl, h0⟩ := trodAll_one hA'
  obtain ⟨b0, w0⟩ := hval 0 25 v0 rfl rfl
  obtain ⟨x, rfl⟩ := open_node w0
  obtain ⟨cfg, hg, hh⟩ := lputs_calls x
  exact run_calls hg Tryz.func3 (by kernel_rfl) (by kernel_rfl) hh rfl (glob_of_laid hL) (fun _ => 0)
theorem nodePuts_holds : Rows.NodePutsSaid :=
  OpenClaim.holds_of_wide 3 Tryz.f3 rfl rfl rfl rfl rfl rfl rfl ⟨rfl, rfl, rfl, rfl, rfl⟩ rfl rfl rfl rfl rfl (by kernel_rfl) Tryz.func3 (by kernel_rfl)
    (of_decide_eq_true (by kernel_rfl)) (by unfold Func.isWrapper; first | (rw [if_pos (by decide +kernel)]; kernel_rfl) | (rw [if_neg (by decide +kernel)]; exact ⟨rfl, rfl⟩))
    (fun os started H enc _ => nodePuts_lifted os started H enc)
theorem nodePuts_card_holds : Rows.NodePutsCardSaid :=
  Claim7.holds_tied_plain_at .later [] [.handle, .data] true (true, "0baba57f0bdcd08ede9424131bb4133c43e510b77e8df2cbd65b98dd08c6be62") true
    nodePuts_holds (fun _ h => by cases h) (by kernel_rfl) (fun _ h => by cases h) nodePuts_row_tie rfl ⟨rfl, rfl⟩ (by kernel_rfl) rfl
    (fun f fn hf hfn => by
      obtain rfl : f = 3 := Option.some.inj ((show Tryz.prog.funcNamed "guilloche/guillochelaw04.NodePuts" = some 3 by kernel_rfl).symm.trans hf) |>.symm
      obtain rfl : fn = Tryz.f3 := (Option.some.inj (Tryz.func3.symm.trans hfn)).symm
      exact ⟨by kernel_rfl, fun j t ht => by
        rw [Tryz.params3] at ht
        have hm := Array.mem_of_getElem? ht
        simp only [List.mem_toArray, List.mem_cons, List.not_mem_nil, or_false] at hm
        rcases hm with rfl
        · exact (show Tryz.prog.wantsStandIn 25 = false by kernel_rfl)⟩)
    (by kernel_rfl)
#print axioms nodePuts_card_holds
end Go.Proofs.YtkfdcapnogklfaaGreatDoor
