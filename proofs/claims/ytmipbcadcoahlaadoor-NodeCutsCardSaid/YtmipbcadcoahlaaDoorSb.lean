/-
  NodeCuts: bytes that end too early, or have something behind them, are none: for every input the law returns true.
-/
import Derived.Test.YtmipbcadcoahlaaDoorRc
import Derived.Test.YtmipbcadcoahlaaDoorRf
import Derived.Test.YtmipbcadcoahlaaDoorTie
import Derived.Test.YtmipbcadcoahlaaDoorCards
import Derived.SevenTiedAt
namespace Go.Proofs.YtmipbcadcoahlaaDoor
open Go Sx Go.RowKit Go.WideShapes Go.ChangeShapes

set_option maxRecDepth 100000
theorem nodeCuts_lifted (os : Os) (started : os.Started) (H : Type) (enc : TypeId × Value → H) :
    ReturnsInHanded {} Tryd.checked os 5 .any (fun w args => (Rows.nodeCutsSpec.pre enc Tryd.prog Tryd.f5 [] false w args ∧ laidMetH Tryd.prog laidL w) ∧ sizedMet enc Tryd.prog Tryd.f5 (OpenSpec.ofChange Rows.nodeCutsSpec) false w args)
      (Rows.nodeCutsSpec.post enc Tryd.prog Tryd.f5 false true false false) := by
  refine law_laid (C := Tryd.checked) (boolT := 4) (X := fun w => laidMetH Tryd.prog laidL w) (fun _ _ hh h => h.of_heap hh) Tryd.own started (by kernel_rfl) Tryd.func5
    (ChangeSpec.witness_at (enc := enc) (C := Tryd.checked) (os := os) (X := fun w _ => laidMetH Tryd.prog laidL w) false (laidWorld os) #[.agg #[.int .i64 0, .string ⟨#[]⟩, .string ⟨#[]⟩, .string ⟨#[]⟩, .string ⟨#[]⟩, .string ⟨#[]⟩, .string ⟨#[]⟩, .string ⟨#[]⟩, .string ⟨#[]⟩, .string ⟨#[]⟩, .string ⟨#[]⟩, .string ⟨#[]⟩, .string ⟨#[]⟩, .string ⟨#[]⟩, .string ⟨#[]⟩, .string ⟨#[]⟩, .string ⟨#[]⟩, .string ⟨#[]⟩, .string ⟨#[]⟩], .int .u16 0, .string ⟨#[]⟩] 8 rfl (by kernel_rfl) (by kernel_rfl) (by kernel_rfl) (by kernel_rfl) (by kernel_rfl) (laidWorld_met os _))
    Tryd.laidOut rfl Tryd.underlying4 (by kernel_rfl) (of_decide_eq_true (by kernel_rfl)) rfl (fun ds h => by match ds, h with | [a0, a1, a2], _ => rfl) ?_
  intro W args ds ps hval hA hL
  have hA' : DataW.TrodAll enc Tryd.prog W 0 (fun _ => true) true [25, 40, 9] args.toList ds ps := hA
  obtain ⟨v0, v1, v2, d0, d1, d2, p0, p1, p2, rfl, rfl, rfl, h0, h1, h2⟩ := trodAll_three hA'
  obtain ⟨b0, w0⟩ := hval 0 25 v0 rfl rfl
  obtain ⟨b1, w1⟩ := hval 1 40 v1 rfl rfl
  obtain ⟨b2, w2⟩ := hval 2 9 v2 rfl rfl
  obtain ⟨x, rfl⟩ := open_node w0
  have hx := node_fits h0
  obtain ⟨a, rfl, ha⟩ := cell_int Tryd.underlying40 (cell_of_value Tryd.underlying40 w1)
  obtain ⟨s, rfl, rfl, rfl, hs⟩ := Go.ChangeMaps.open_string Tryd.underlying9 w2 h2
  exact run_calls goodL1 Tryd.func5 (by kernel_rfl) (by kernel_rfl) (lcuts_holds hx (has_u16 ha) s.data.toList) rfl (glob_of_laid hL) (fun _ => 0)
theorem nodeCuts_holds : Rows.NodeCutsSaid :=
  OpenClaim.holds_of_wide 5 Tryd.f5 rfl rfl rfl rfl rfl rfl rfl ⟨rfl, rfl, rfl, rfl, rfl⟩ rfl rfl rfl rfl rfl (by kernel_rfl) Tryd.func5 (by kernel_rfl)
    (of_decide_eq_true (by kernel_rfl)) (by unfold Func.isWrapper; first | (rw [if_pos (by decide +kernel)]; kernel_rfl) | (rw [if_neg (by decide +kernel)]; exact ⟨rfl, rfl⟩))
    (fun os started H enc _ => nodeCuts_lifted os started H enc)
/-- The row, tied to the program's text. -/
theorem nodeCuts_card_holds : Rows.NodeCutsCardSaid :=
  Claim7.holds_tied_plain_at .later [] [.handle, .data] true (true, "107248872fb7bc40fc32ca954771f870a2d33938d2287fad1638e542e2ee8a9a") true
    nodeCuts_holds (fun _ h => by cases h) (by kernel_rfl) (fun _ h => by cases h) nodeCuts_row_tie rfl ⟨rfl, rfl⟩ (by kernel_rfl) rfl
    (fun f fn hf hfn => by
      obtain rfl : f = 5 := Option.some.inj ((show Tryd.prog.funcNamed "guilloche/guillochelaw04.NodeCuts" = some 5 by kernel_rfl).symm.trans hf) |>.symm
      obtain rfl : fn = Tryd.f5 := (Option.some.inj (Tryd.func5.symm.trans hfn)).symm
      exact ⟨by kernel_rfl, fun j t ht => by
        rw [Tryd.params5] at ht
        have hm := Array.mem_of_getElem? ht
        simp only [List.mem_toArray, List.mem_cons, List.not_mem_nil, or_false] at hm
        rcases hm with rfl | rfl | rfl
        · exact (show Tryd.prog.wantsStandIn 25 = false by kernel_rfl)
        · exact (show Tryd.prog.wantsStandIn 40 = false by kernel_rfl)
        · exact (show Tryd.prog.wantsStandIn 9 = false by kernel_rfl)⟩)
    (by kernel_rfl)
#print axioms nodeCuts_card_holds
end Go.Proofs.YtmipbcadcoahlaaDoor
