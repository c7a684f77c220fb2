/-
  NodeHashes: the hashes of a branch are those of its refs, in order: for every input the law returns true.
-/
import Derived.Test.YtmipbcadcoahlaaDoorRe
import Derived.Test.YtmipbcadcoahlaaDoorRf
import Derived.Test.YtmipbcadcoahlaaDoorTie
import Derived.Test.YtmipbcadcoahlaaDoorCards
import Derived.SevenTiedAt
namespace Go.Proofs.YtmipbcadcoahlaaDoor
open Go Sx Go.RowKit Go.WideShapes Go.ChangeShapes

set_option maxRecDepth 100000
theorem nodeHashes_lifted (os : Os) (started : os.Started) (H : Type) (enc : TypeId × Value → H) :
    ReturnsInHanded {} Tryd.checked os 4 .any (fun w args => (Rows.nodeHashesSpec.pre enc Tryd.prog Tryd.f4 [] false w args ∧ laidMetH Tryd.prog laidL w) ∧ sizedMet enc Tryd.prog Tryd.f4 (OpenSpec.ofChange Rows.nodeHashesSpec) false w args)
      (Rows.nodeHashesSpec.post enc Tryd.prog Tryd.f4 false true false false) := by
  refine law_laid (C := Tryd.checked) (boolT := 4) (X := fun w => laidMetH Tryd.prog laidL w) (fun _ _ hh h => h.of_heap hh) Tryd.own started (by kernel_rfl) Tryd.func4
    (ChangeSpec.witness_at (enc := enc) (C := Tryd.checked) (os := os) (X := fun w _ => laidMetH Tryd.prog laidL w) false (laidWorld os) #[.agg #[.int .i64 0, .string ⟨#[]⟩, .string ⟨#[]⟩, .string ⟨#[]⟩, .string ⟨#[]⟩, .string ⟨#[]⟩, .string ⟨#[]⟩, .string ⟨#[]⟩, .string ⟨#[]⟩, .string ⟨#[]⟩, .string ⟨#[]⟩, .string ⟨#[]⟩, .string ⟨#[]⟩, .string ⟨#[]⟩, .string ⟨#[]⟩, .string ⟨#[]⟩, .string ⟨#[]⟩, .string ⟨#[]⟩, .string ⟨#[]⟩]] 8 rfl (by kernel_rfl) (by kernel_rfl) (by kernel_rfl) (by kernel_rfl) (by kernel_rfl) (laidWorld_met os _))
    Tryd.laidOut rfl Tryd.underlying4 (by kernel_rfl) (of_decide_eq_true (by kernel_rfl)) rfl (fun ds h => by match ds, h with | [a0], _ => rfl) ?_
  intro W args ds ps hval hA hL
  have hA' : DataW.TrodAll enc Tryd.prog W 0 (fun _ => true) true [25] args.toList ds ps := hA
  obtain ⟨v0, d0, rfl, rfl, h0⟩ := trodAll_one hA'
  obtain ⟨b0, w0⟩ := hval 0 25 v0 rfl rfl
  obtain ⟨x, rfl⟩ := open_node w0
  exact run_calls (goodLH x) Tryd.func4 (by kernel_rfl) (by kernel_rfl) (lhashes_holds x) rfl (glob_of_laid hL) (fun _ => 0)
theorem nodeHashes_holds : Rows.NodeHashesSaid :=
  OpenClaim.holds_of_wide 4 Tryd.f4 rfl rfl rfl rfl rfl rfl rfl ⟨rfl, rfl, rfl, rfl, rfl⟩ rfl rfl rfl rfl rfl (by kernel_rfl) Tryd.func4 (by kernel_rfl)
    (of_decide_eq_true (by kernel_rfl)) (by unfold Func.isWrapper; first | (rw [if_pos (by decide +kernel)]; kernel_rfl) | (rw [if_neg (by decide +kernel)]; exact ⟨rfl, rfl⟩))
    (fun os started H enc _ => nodeHashes_lifted os started H enc)
/-- The row, tied to the program's text. -/
theorem nodeHashes_card_holds : Rows.NodeHashesCardSaid :=
  Claim7.holds_tied_plain_at .later [] [.handle, .data] true (true, "107248872fb7bc40fc32ca954771f870a2d33938d2287fad1638e542e2ee8a9a") true
    nodeHashes_holds (fun _ h => by cases h) (by kernel_rfl) (fun _ h => by cases h) nodeHashes_row_tie rfl ⟨rfl, rfl⟩ (by kernel_rfl) rfl
    (fun f fn hf hfn => by
      obtain rfl : f = 4 := Option.some.inj ((show Tryd.prog.funcNamed "guilloche/guillochelaw04.NodeHashes" = some 4 by kernel_rfl).symm.trans hf) |>.symm
      obtain rfl : fn = Tryd.f4 := (Option.some.inj (Tryd.func4.symm.trans hfn)).symm
      exact ⟨by kernel_rfl, fun j t ht => by
        rw [Tryd.params4] at ht
        have hm := Array.mem_of_getElem? ht
        simp only [List.mem_toArray, List.mem_cons, List.not_mem_nil, or_false] at hm
        rcases hm with rfl
        · exact (show Tryd.prog.wantsStandIn 25 = false by kernel_rfl)⟩)
    (by kernel_rfl)
#print axioms nodeHashes_card_holds
end Go.Proofs.YtmipbcadcoahlaaDoor
