/-
  FrameApart: frames of an ask, of a reply, and of a notice are never the same; those of two asks are the same just if they are: for every input the law returns true.
-/
import Derived.Test.YtocikfhejpilaaaDoorRa
import Derived.Test.YtocikfhejpilaaaDoorRb
import Derived.Test.YtocikfhejpilaaaDoorTie
import Derived.Test.YtocikfhejpilaaaDoorCards
import Derived.SevenTiedAt
namespace Go.Proofs.YtocikfhejpilaaaDoor
open Go Sx Go.RowKit Go.WideShapes Go.ChangeShapes

set_option maxRecDepth 100000
theorem frameApart_lifted (os : Os) (started : os.Started) (H : Type) (enc : TypeId × Value → H) :
    ReturnsInHanded {} Tryd.checked os 7 .any (fun w args => (Rows.frameApartSpec.pre enc Tryd.prog Tryd.f7 [] false w args ∧ laidMetH Tryd.prog laidL w) ∧ sizedMet enc Tryd.prog Tryd.f7 (OpenSpec.ofChange Rows.frameApartSpec) false w args)
      (Rows.frameApartSpec.post enc Tryd.prog Tryd.f7 false true false false) := by
  refine law_laid (C := Tryd.checked) (boolT := 4) (X := fun w => laidMetH Tryd.prog laidL w) (fun _ _ hh h => h.of_heap hh) Tryd.own started (by kernel_rfl) Tryd.func7
    (ChangeSpec.witness_at (enc := enc) (C := Tryd.checked) (os := os) (X := fun w _ => laidMetH Tryd.prog laidL w) false (laidWorld os) #[.agg #[.int .i64 0, .int .i64 0, .int .i64 0, .int .i64 0, .string ⟨#[]⟩, .string ⟨#[]⟩, .int .i64 0], .agg #[.int .i64 0, .int .i64 0, .int .i64 0, .int .i64 0, .string ⟨#[]⟩, .string ⟨#[]⟩, .int .i64 0], .agg #[.int .i64 0, .int .i64 0, .int .i64 0, .int .i64 0, .string ⟨#[]⟩, .slice none 0 0, .string ⟨#[]⟩, .bool false], .agg #[.int .i64 0, .int .i64 0, .int .i64 0, .string ⟨#[]⟩, .slice none 0 0]] 8 rfl (by kernel_rfl) (by kernel_rfl) (by kernel_rfl) (by kernel_rfl) (by kernel_rfl) (laidWorld_met os _))
    Tryd.laidOut rfl Tryd.underlying4 (by kernel_rfl) (of_decide_eq_true (by kernel_rfl)) rfl (fun ds h => by match ds, h with | [a0, a1, a2, a3], _ => rfl) ?_
  intro W args ds ps hval hA hL
  have hA' : DataW.TrodAll enc Tryd.prog W 0 (fun _ => true) true [23, 23, 27, 30] args.toList ds ps := hA
  obtain ⟨v0, v1, v2, v3, d0, d1, d2, d3, p0, p1, p2, p3, rfl, rfl, rfl, h0, h1, h2, h3⟩ := trodAll_four hA'
  obtain ⟨b0, w0⟩ := hval 0 23 v0 rfl rfl
  obtain ⟨b1, w1⟩ := hval 1 23 v1 rfl rfl
  obtain ⟨b2, w2⟩ := hval 2 27 v2 rfl rfl
  obtain ⟨b3, w3⟩ := hval 3 30 v3 rfl rfl
  obtain ⟨a, rfl⟩ := open_ask w0
  obtain ⟨b, rfl⟩ := open_ask w1
  obtain ⟨x, z, b1, o, c, e1, s1⟩ := open_reply w2 h2
  obtain ⟨y, z', b2, o', c', e2, s2⟩ := open_notice w3 h3
  have key := run_views goodFM Tryd.func7 (by kernel_rfl) (by kernel_rfl) (s1 := seenR z o c x none) (s2 := seenC z' o' c' y none) (fapart_holds a b x y z z' o c o' c' none none) rfl (glob_of_laid hL) s1 s2
  rw [e1 0 (fun k => if k = 0 then b1 else b2) rfl, e2 1 (fun k => if k = 0 then b1 else b2) rfl]
  exact key
theorem frameApart_holds : Rows.FrameApartSaid :=
  OpenClaim.holds_of_wide 7 Tryd.f7 rfl rfl rfl rfl rfl rfl rfl ⟨rfl, rfl, rfl, rfl, rfl⟩ rfl rfl rfl rfl rfl (by kernel_rfl) Tryd.func7 (by kernel_rfl)
    (of_decide_eq_true (by kernel_rfl)) (by unfold Func.isWrapper; first | (rw [if_pos (by decide +kernel)]; kernel_rfl) | (rw [if_neg (by decide +kernel)]; exact ⟨rfl, rfl⟩))
    (fun os started H enc _ => frameApart_lifted os started H enc)
/-- The row, tied to the program's text. -/
theorem frameApart_card_holds : Rows.FrameApartCardSaid :=
  Claim7.holds_tied_plain_at .later [] [.handle] true (true, "d79935999f47dc6caeff578f2e49f62cc204debdbc7bd97ef067f193b65d29a8") true
    frameApart_holds (fun _ h => by cases h) (by kernel_rfl) (fun _ h => by cases h) frameApart_row_tie rfl ⟨rfl, rfl⟩ (by kernel_rfl) rfl
    (fun f fn hf hfn => by
      obtain rfl : f = 7 := Option.some.inj ((show Tryd.prog.funcNamed "guilloche/guillochelaw16.FrameApart" = some 7 by kernel_rfl).symm.trans hf) |>.symm
      obtain rfl : fn = Tryd.f7 := (Option.some.inj (Tryd.func7.symm.trans hfn)).symm
      exact ⟨by kernel_rfl, fun j t ht => by
        rw [Tryd.params7] at ht
        have hm := Array.mem_of_getElem? ht
        simp only [List.mem_toArray, List.mem_cons, List.not_mem_nil, or_false] at hm
        rcases hm with rfl | rfl | rfl | rfl
        · exact (show Tryd.prog.wantsStandIn 23 = false by kernel_rfl)
        · exact (show Tryd.prog.wantsStandIn 23 = false by kernel_rfl)
        · exact (show Tryd.prog.wantsStandIn 27 = false by kernel_rfl)
        · exact (show Tryd.prog.wantsStandIn 30 = false by kernel_rfl)⟩)
    (by kernel_rfl)
#print axioms frameApart_card_holds
end Go.Proofs.YtocikfhejpilaaaDoor
