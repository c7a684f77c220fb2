/-
  RlpJoins: the items of two rows of them, one behind the other, are both: for every input the law returns true.
-/
import Derived.Test.YtndbjcbfnmjheaaDoorOg
import Derived.Test.YtndbjcbfnmjheaaDoorOe
import Derived.Test.YtndbjcbfnmjheaaDoorTie
import Derived.Test.YtndbjcbfnmjheaaDoorCards
import Derived.SevenTiedAt
namespace Go.Proofs.YtndbjcbfnmjheaaDoor
open Go Sx Go.RowKit Go.WideShapes Go.ChangeShapes

set_option maxRecDepth 100000
theorem rlpJoins_lifted (os : Os) (started : os.Started) (H : Type) (enc : TypeId × Value → H) :
    ReturnsInHanded {} Tryd.checked os 4 .any (fun w args => (Rows.rlpJoinsSpec.pre enc Tryd.prog Tryd.f4 [] false w args ∧ laidMetH Tryd.prog laidL w) ∧ sizedMet enc Tryd.prog Tryd.f4 (OpenSpec.ofChange Rows.rlpJoinsSpec) false w args)
      (Rows.rlpJoinsSpec.post enc Tryd.prog Tryd.f4 false true false false) := by
  refine law_laid (C := Tryd.checked) (boolT := 4) (X := fun w => laidMetH Tryd.prog laidL w) (fun _ _ hh h => h.of_heap hh) Tryd.own started (by kernel_rfl) Tryd.func4
    (ChangeSpec.witness_at (enc := enc) (C := Tryd.checked) (os := os) (X := fun w _ => laidMetH Tryd.prog laidL w) false (laidWorld os) #[.string ⟨#[]⟩, .string ⟨#[]⟩] 8 rfl (by kernel_rfl) (by kernel_rfl) (by kernel_rfl) (by kernel_rfl) (by kernel_rfl) (laidWorld_met os _))
    Tryd.laidOut rfl Tryd.underlying4 (by kernel_rfl) (of_decide_eq_true (by kernel_rfl)) rfl (fun ds h => by match ds, h with | [a, b], _ => rfl) ?_
  intro W args ds ps hval hA hL
  have hA' : DataW.TrodAll enc Tryd.prog W 0 (fun _ => true) true [9, 9] args.toList ds ps := hA
  obtain ⟨v0, v1, d0, d1, p0, p1, rfl, rfl, rfl, h0, h1⟩ := trodAll_two hA'
  obtain ⟨b0, w0⟩ := hval 0 9 v0 rfl rfl
  obtain ⟨b1, w1⟩ := hval 1 9 v1 rfl rfl
  obtain ⟨a, rfl, rfl, rfl, _⟩ := Go.ChangeMaps.open_string Tryd.underlying9 w0 h0
  obtain ⟨b, rfl, rfl, rfl, _⟩ := Go.ChangeMaps.open_string Tryd.underlying9 w1 h1
  exact run_calls (goodJ _) Tryd.func4 (by kernel_rfl) (by kernel_rfl) (joins_holds a.data.toList b.data.toList) rfl (glob_of_laid hL) (fun _ => 0)
theorem rlpJoins_holds : Rows.RlpJoinsSaid :=
  OpenClaim.holds_of_wide 4 Tryd.f4 rfl rfl rfl rfl rfl rfl rfl ⟨rfl, rfl, rfl, rfl, rfl⟩ rfl rfl rfl rfl rfl (by kernel_rfl) Tryd.func4 (by kernel_rfl)
    (of_decide_eq_true (by kernel_rfl)) (by unfold Func.isWrapper; first | (rw [if_pos (by decide +kernel)]; kernel_rfl) | (rw [if_neg (by decide +kernel)]; exact ⟨rfl, rfl⟩))
    (fun os started H enc _ => rlpJoins_lifted os started H enc)
/-- The row, tied to the program's text. -/
theorem rlpJoins_card_holds : Rows.RlpJoinsCardSaid :=
  Claim7.holds_tied_plain_at .later [] [.handle] true (true, "d3815d4fa52966a4e320e1365884279a6c02ea32bbbd7e8d22480c4a0d87648c") true
    rlpJoins_holds (fun _ h => by cases h) (by kernel_rfl) (fun _ h => by cases h) rlpJoins_row_tie rfl ⟨rfl, rfl⟩ (by kernel_rfl) rfl
    (fun f fn hf hfn => by
      obtain rfl : f = 4 := Option.some.inj ((show Tryd.prog.funcNamed "guilloche/guillochelaw02.RlpJoins" = some 4 by kernel_rfl).symm.trans hf) |>.symm
      obtain rfl : fn = Tryd.f4 := (Option.some.inj (Tryd.func4.symm.trans hfn)).symm
      exact ⟨by kernel_rfl, fun j t ht => by
        rw [Tryd.params4] at ht
        have hm := Array.mem_of_getElem? ht
        simp only [List.mem_toArray, List.mem_cons, List.not_mem_nil, or_false] at hm
        rcases hm with rfl | rfl
        · exact (show Tryd.prog.wantsStandIn 9 = false by kernel_rfl)
        · exact (show Tryd.prog.wantsStandIn 9 = false by kernel_rfl)⟩)
    (by kernel_rfl)
#print axioms rlpJoins_card_holds
end Go.Proofs.YtndbjcbfnmjheaaDoor
