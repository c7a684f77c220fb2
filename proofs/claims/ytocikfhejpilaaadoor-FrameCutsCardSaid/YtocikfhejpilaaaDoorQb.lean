/-
  FrameCuts: a frame that ends too early, or has more behind it, is none: for every input the law returns true.
-/
import Derived.Test.YtocikfhejpilaaaDoorPi
import Derived.Test.YtocikfhejpilaaaDoorTie
import Derived.Test.YtocikfhejpilaaaDoorCards
import Derived.SevenTiedAt
namespace Go.Proofs.YtocikfhejpilaaaDoor
open Go Sx Go.RowKit Go.WideShapes Go.ChangeShapes

set_option maxRecDepth 100000
theorem frameCuts_lifted (os : Os) (started : os.Started) (H : Type) (enc : TypeId × Value → H) :
    ReturnsInHanded {} Tryd.checked os 5 .any (fun w args => (Rows.frameCutsSpec.pre enc Tryd.prog Tryd.f5 [] false w args ∧ laidMetH Tryd.prog laidL w) ∧ sizedMet enc Tryd.prog Tryd.f5 (OpenSpec.ofChange Rows.frameCutsSpec) false w args)
      (Rows.frameCutsSpec.post enc Tryd.prog Tryd.f5 false true false false) := by
  refine law_laid (C := Tryd.checked) (boolT := 4) (X := fun w => laidMetH Tryd.prog laidL w) (fun _ _ hh h => h.of_heap hh) Tryd.own started (by kernel_rfl) Tryd.func5
    (ChangeSpec.witness_at (enc := enc) (C := Tryd.checked) (os := os) (X := fun w _ => laidMetH Tryd.prog laidL w) false (laidWorld os) #[.agg #[.int .i64 0, .int .i64 0, .int .i64 0, .int .i64 0, .string ⟨#[]⟩, .string ⟨#[]⟩, .int .i64 0], .int .u16 0, .string ⟨#[]⟩] 8 rfl (by kernel_rfl) (by kernel_rfl) (by kernel_rfl) (by kernel_rfl) (by kernel_rfl) (laidWorld_met os _))
    Tryd.laidOut rfl Tryd.underlying4 (by kernel_rfl) (of_decide_eq_true (by kernel_rfl)) rfl (fun ds h => by match ds, h with | [a0, a1, a2], _ => rfl) ?_
  intro W args ds ps hval hA hL
  have hA' : DataW.TrodAll enc Tryd.prog W 0 (fun _ => true) true [23, 51, 9] args.toList ds ps := hA
  obtain ⟨v0, v1, v2, d0, d1, d2, p0, p1, p2, rfl, rfl, rfl, h0, h1, h2⟩ := trodAll_three hA'
  obtain ⟨b0, w0⟩ := hval 0 23 v0 rfl rfl
  obtain ⟨b1, w1⟩ := hval 1 51 v1 rfl rfl
  obtain ⟨b2, w2⟩ := hval 2 9 v2 rfl rfl
  obtain ⟨x, rfl⟩ := open_ask w0
  obtain ⟨n, rfl, rfl, rfl, hn⟩ := open_int Tryd.underlying51 w1 h1
  obtain ⟨s, rfl, rfl, rfl, hs⟩ := Go.ChangeMaps.open_string Tryd.underlying9 w2 h2
  have hn' : 0 ≤ n ∧ n < 65536 := by
    simp only [Lit.wf, Bool.and_eq_true, decide_eq_true_eq] at hn
    exact ⟨hn.1, Int.lt_of_le_of_lt hn.2 (by decide)⟩
  exact run_calls goodFL Tryd.func5 (by kernel_rfl) (by kernel_rfl) (fcuts_holds x hn'.1 hn'.2 s.data.toList) rfl (glob_of_laid hL) (fun _ => 0)
theorem frameCuts_holds : Rows.FrameCutsSaid :=
  OpenClaim.holds_of_wide 5 Tryd.f5 rfl rfl rfl rfl rfl rfl rfl ⟨rfl, rfl, rfl, rfl, rfl⟩ rfl rfl rfl rfl rfl (by kernel_rfl) Tryd.func5 (by kernel_rfl)
    (of_decide_eq_true (by kernel_rfl)) (by unfold Func.isWrapper; first | (rw [if_pos (by decide +kernel)]; kernel_rfl) | (rw [if_neg (by decide +kernel)]; exact ⟨rfl, rfl⟩))
    (fun os started H enc _ => frameCuts_lifted os started H enc)
/-- The row, tied to the program's text. -/
theorem frameCuts_card_holds : Rows.FrameCutsCardSaid :=
  Claim7.holds_tied_plain_at .later [] [.handle] true (true, "d79935999f47dc6caeff578f2e49f62cc204debdbc7bd97ef067f193b65d29a8") true
    frameCuts_holds (fun _ h => by cases h) (by kernel_rfl) (fun _ h => by cases h) frameCuts_row_tie rfl ⟨rfl, rfl⟩ (by kernel_rfl) rfl
    (fun f fn hf hfn => by
      obtain rfl : f = 5 := Option.some.inj ((show Tryd.prog.funcNamed "guilloche/guillochelaw16.FrameCuts" = some 5 by kernel_rfl).symm.trans hf) |>.symm
      obtain rfl : fn = Tryd.f5 := (Option.some.inj (Tryd.func5.symm.trans hfn)).symm
      exact ⟨by kernel_rfl, fun j t ht => by
        rw [Tryd.params5] at ht
        have hm := Array.mem_of_getElem? ht
        simp only [List.mem_toArray, List.mem_cons, List.not_mem_nil, or_false] at hm
        rcases hm with rfl | rfl | rfl
        · exact (show Tryd.prog.wantsStandIn 23 = false by kernel_rfl)
        · exact (show Tryd.prog.wantsStandIn 51 = false by kernel_rfl)
        · exact (show Tryd.prog.wantsStandIn 9 = false by kernel_rfl)⟩)
    (by kernel_rfl)
#print axioms frameCuts_card_holds
end Go.Proofs.YtocikfhejpilaaaDoor
