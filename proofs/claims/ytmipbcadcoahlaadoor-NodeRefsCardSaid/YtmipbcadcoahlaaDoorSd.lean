/-
  NodeRefs: a ref is a hash, or inline, never both: for every input the law returns true.
-/
import Derived.Test.YtmipbcadcoahlaaDoorRg
import Derived.Test.YtmipbcadcoahlaaDoorRf
import Derived.Test.YtmipbcadcoahlaaDoorTie
import Derived.Test.YtmipbcadcoahlaaDoorCards
import Derived.SevenTiedAt
namespace Go.Proofs.YtmipbcadcoahlaaDoor
open Go Sx Go.RowKit Go.WideShapes Go.ChangeShapes

set_option maxRecDepth 100000
theorem nodeRefs_lifted (os : Os) (started : os.Started) (H : Type) (enc : TypeId × Value → H) :
    ReturnsInHanded {} Tryd.checked os 7 .any (fun w args => (Rows.nodeRefsSpec.pre enc Tryd.prog Tryd.f7 [] false w args ∧ laidMetH Tryd.prog laidL w) ∧ sizedMet enc Tryd.prog Tryd.f7 (OpenSpec.ofChange Rows.nodeRefsSpec) false w args)
      (Rows.nodeRefsSpec.post enc Tryd.prog Tryd.f7 false true false false) := by
  refine law_laid (C := Tryd.checked) (boolT := 4) (X := fun w => laidMetH Tryd.prog laidL w) (fun _ _ hh h => h.of_heap hh) Tryd.own started (by kernel_rfl) Tryd.func7
    (ChangeSpec.witness_at (enc := enc) (C := Tryd.checked) (os := os) (X := fun w _ => laidMetH Tryd.prog laidL w) false (laidWorld os) #[.agg #[.int .i64 0, .string ⟨#[]⟩, .string ⟨#[]⟩, .string ⟨#[]⟩, .string ⟨#[]⟩, .string ⟨#[]⟩, .string ⟨#[]⟩, .string ⟨#[]⟩, .string ⟨#[]⟩, .string ⟨#[]⟩, .string ⟨#[]⟩, .string ⟨#[]⟩, .string ⟨#[]⟩, .string ⟨#[]⟩, .string ⟨#[]⟩, .string ⟨#[]⟩, .string ⟨#[]⟩, .string ⟨#[]⟩, .string ⟨#[]⟩], .agg #[.int .i64 0, .string ⟨#[]⟩, .string ⟨#[]⟩, .string ⟨#[]⟩, .string ⟨#[]⟩, .string ⟨#[]⟩, .string ⟨#[]⟩, .string ⟨#[]⟩, .string ⟨#[]⟩, .string ⟨#[]⟩, .string ⟨#[]⟩, .string ⟨#[]⟩, .string ⟨#[]⟩, .string ⟨#[]⟩, .string ⟨#[]⟩, .string ⟨#[]⟩, .string ⟨#[]⟩, .string ⟨#[]⟩, .string ⟨#[]⟩]] 8 rfl (by kernel_rfl) (by kernel_rfl) (by kernel_rfl) (by kernel_rfl) (by kernel_rfl) (laidWorld_met os _))
    Tryd.laidOut rfl Tryd.underlying4 (by kernel_rfl) (of_decide_eq_true (by kernel_rfl)) rfl (fun ds h => by match ds, h with | [a0, a1], _ => rfl) ?_
  intro W args ds ps hval hA hL
  have hA' : DataW.TrodAll enc Tryd.prog W 0 (fun _ => true) true [25, 25] args.toList ds ps := hA
  obtain ⟨v0, v1, d0, d1, p0, p1, rfl, rfl, rfl, h0, h1⟩ := trodAll_two hA'
  obtain ⟨b0, w0⟩ := hval 0 25 v0 rfl rfl
  obtain ⟨b1, w1⟩ := hval 1 25 v1 rfl rfl
  obtain ⟨x, rfl⟩ := open_node w0
  obtain ⟨y, rfl⟩ := open_node w1
  exact run_calls goodL2 Tryd.func7 (by kernel_rfl) (by kernel_rfl) (lrefs_holds x y) rfl (glob_of_laid hL) (fun _ => 0)
theorem nodeRefs_holds : Rows.NodeRefsSaid :=
  OpenClaim.holds_of_wide 7 Tryd.f7 rfl rfl rfl rfl rfl rfl rfl ⟨rfl, rfl, rfl, rfl, rfl⟩ rfl rfl rfl rfl rfl (by kernel_rfl) Tryd.func7 (by kernel_rfl)
    (of_decide_eq_true (by kernel_rfl)) (by unfold Func.isWrapper; first | (rw [if_pos (by decide +kernel)]; kernel_rfl) | (rw [if_neg (by decide +kernel)]; exact ⟨rfl, rfl⟩))
    (fun os started H enc _ => nodeRefs_lifted os started H enc)
/-- The row, tied to the program's text. -/
theorem nodeRefs_card_holds : Rows.NodeRefsCardSaid :=
  Claim7.holds_tied_plain_at .later [] [.handle, .data] true (true, "107248872fb7bc40fc32ca954771f870a2d33938d2287fad1638e542e2ee8a9a") true
    nodeRefs_holds (fun _ h => by cases h) (by kernel_rfl) (fun _ h => by cases h) nodeRefs_row_tie rfl ⟨rfl, rfl⟩ (by kernel_rfl) rfl
    (fun f fn hf hfn => by
      obtain rfl : f = 7 := Option.some.inj ((show Tryd.prog.funcNamed "guilloche/guillochelaw04.NodeRefs" = some 7 by kernel_rfl).symm.trans hf) |>.symm
      obtain rfl : fn = Tryd.f7 := (Option.some.inj (Tryd.func7.symm.trans hfn)).symm
      exact ⟨by kernel_rfl, fun j t ht => by
        rw [Tryd.params7] at ht
        have hm := Array.mem_of_getElem? ht
        simp only [List.mem_toArray, List.mem_cons, List.not_mem_nil, or_false] at hm
        rcases hm with rfl | rfl
        · exact (show Tryd.prog.wantsStandIn 25 = false by kernel_rfl)
        · exact (show Tryd.prog.wantsStandIn 25 = false by kernel_rfl)⟩)
    (by kernel_rfl)
#print axioms nodeRefs_card_holds
end Go.Proofs.YtmipbcadcoahlaaDoor
