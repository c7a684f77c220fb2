/-
  FrameBack: what is put is got again: any ask, any reply, any notice that may be; and no other one of its bytes: for every input the law returns true.
-/
import Derived.Test.YtocikfhejpilaaaDoorRd
import Derived.Test.YtocikfhejpilaaaDoorTie
import Derived.Test.YtocikfhejpilaaaDoorCards
import Derived.SevenTiedAt
namespace Go.Proofs.YtocikfhejpilaaaDoor
open Go Sx Go.RowKit Go.WideShapes Go.ChangeShapes

set_option maxRecDepth 100000
theorem frameBack_lifted (os : Os) (started : os.Started) (H : Type) (enc : TypeId × Value → H) :
    ReturnsInHanded {} Tryd.checked os 3 .any (fun w args => (Rows.frameBackSpec.pre enc Tryd.prog Tryd.f3 [] false w args ∧ laidMetH Tryd.prog laidL w) ∧ sizedMet enc Tryd.prog Tryd.f3 (OpenSpec.ofChange Rows.frameBackSpec) false w args)
      (Rows.frameBackSpec.post enc Tryd.prog Tryd.f3 false true false false) := by
  refine law_laid (C := Tryd.checked) (boolT := 4) (X := fun w => laidMetH Tryd.prog laidL w) (fun _ _ hh h => h.of_heap hh) Tryd.own started (by kernel_rfl) Tryd.func3
    (ChangeSpec.witness_at (enc := enc) (C := Tryd.checked) (os := os) (X := fun w _ => laidMetH Tryd.prog laidL w) false (laidWorld os) #[.agg #[.int .i64 0, .int .i64 0, .int .i64 0, .int .i64 0, .string ⟨#[]⟩, .string ⟨#[]⟩, .int .i64 0], .agg #[.int .i64 0, .int .i64 0, .int .i64 0, .int .i64 0, .string ⟨#[]⟩, .slice none 0 0, .string ⟨#[]⟩, .bool false], .agg #[.int .i64 0, .int .i64 0, .int .i64 0, .string ⟨#[]⟩, .slice none 0 0]] 8 rfl (by kernel_rfl) (by kernel_rfl) (by kernel_rfl) (by kernel_rfl) (by kernel_rfl) (laidWorld_met os _))
    Tryd.laidOut rfl Tryd.underlying4 (by kernel_rfl) (of_decide_eq_true (by kernel_rfl)) rfl (fun ds h => by match ds, h with | [a0, a1, a2], _ => rfl) ?_
  intro W args ds ps hval hA hL
  have hA' : DataW.TrodAll enc Tryd.prog W 0 (fun _ => true) true [23, 27, 30] args.toList ds ps := hA
  obtain ⟨v0, v1, v2, d0, d1, d2, p0, p1, p2, rfl, rfl, rfl, h0, h1, h2⟩ := trodAll_three hA'
  obtain ⟨b0, w0⟩ := hval 0 23 v0 rfl rfl
  obtain ⟨b1, w1⟩ := hval 1 27 v1 rfl rfl
  obtain ⟨b2, w2⟩ := hval 2 30 v2 rfl rfl
  obtain ⟨a, rfl⟩ := open_ask w0
  obtain ⟨x, z, b1, o, c, e1, s1⟩ := open_reply w1 h1
  obtain ⟨y, z', b2, o', c', e2, s2⟩ := open_notice w2 h2
  have key := back_calls a x y z z' o c o' c' (glob_of_laid hL) s1 s2
  rw [e1 0 (fun k => if k = 0 then b1 else b2) rfl, e2 1 (fun k => if k = 0 then b1 else b2) rfl]
  exact key
theorem frameBack_holds : Rows.FrameBackSaid :=
  OpenClaim.holds_of_wide 3 Tryd.f3 rfl rfl rfl rfl rfl rfl rfl ⟨rfl, rfl, rfl, rfl, rfl⟩ rfl rfl rfl rfl rfl (by kernel_rfl) Tryd.func3 (by kernel_rfl)
    (of_decide_eq_true (by kernel_rfl)) (by unfold Func.isWrapper; first | (rw [if_pos (by decide +kernel)]; kernel_rfl) | (rw [if_neg (by decide +kernel)]; exact ⟨rfl, rfl⟩))
    (fun os started H enc _ => frameBack_lifted os started H enc)
/-- The row, tied to the program's text. -/
theorem frameBack_card_holds : Rows.FrameBackCardSaid :=
  Claim7.holds_tied_plain_at .later [] [.handle] true (true, "d79935999f47dc6caeff578f2e49f62cc204debdbc7bd97ef067f193b65d29a8") true
    frameBack_holds (fun _ h => by cases h) (by kernel_rfl) (fun _ h => by cases h) frameBack_row_tie rfl ⟨rfl, rfl⟩ (by kernel_rfl) rfl
    (fun f fn hf hfn => by
      obtain rfl : f = 3 := Option.some.inj ((show Tryd.prog.funcNamed "guilloche/guillochelaw16.FrameBack" = some 3 by kernel_rfl).symm.trans hf) |>.symm
      obtain rfl : fn = Tryd.f3 := (Option.some.inj (Tryd.func3.symm.trans hfn)).symm
      exact ⟨by kernel_rfl, fun j t ht => by
        rw [Tryd.params3] at ht
        have hm := Array.mem_of_getElem? ht
        simp only [List.mem_toArray, List.mem_cons, List.not_mem_nil, or_false] at hm
        rcases hm with rfl | rfl | rfl
        · exact (show Tryd.prog.wantsStandIn 23 = false by kernel_rfl)
        · exact (show Tryd.prog.wantsStandIn 27 = false by kernel_rfl)
        · exact (show Tryd.prog.wantsStandIn 30 = false by kernel_rfl)⟩)
    (by kernel_rfl)
#print axioms frameBack_card_holds
end Go.Proofs.YtocikfhejpilaaaDoor
