/-
  FramePuts: whether any ask, reply, and notice may be, and its bytes, are just what the document says: for every input the law returns true.
-/
import Derived.Test.YtocikfhejpilaaaGreatDoorSd
import Derived.Test.YtocikfhejpilaaaGreatDoorRb
import Derived.Test.YtocikfhejpilaaaGreatDoorTie
import Derived.Test.YtocikfhejpilaaaGreatDoorCards
import Derived.SevenTiedAt
namespace Go.Proofs.YtocikfhejpilaaaGreatDoor
open Go Sx Go.RowKit Go.WideShapes Go.ChangeShapes

set_option maxRecDepth 100000
theorem framePuts_lifted (os : Os) (started : os.Started) (H : Type) (enc : TypeId × Value → H) :
    ReturnsInHanded {} Tryz.checked os 3 .any (fun w args => (Rows.framePutsSpec.pre enc Tryz.prog Tryz.f3 [] false w args ∧ laidMetH Tryz.prog laidL w) ∧ sizedMet enc Tryz.prog Tryz.f3 (OpenSpec.ofChange Rows.framePutsSpec) false w args)
      (Rows.framePutsSpec.post enc Tryz.prog Tryz.f3 false true false false) := by
  refine law_laid (C := Tryz.checked) (boolT := 4) (X := fun w => laidMetH Tryz.prog laidL w) (fun _ _ hh h => h.of_heap hh) Tryz.own started (by kernel_rfl) Tryz.func3
    (ChangeSpec.witness_at (enc := enc) (C := Tryz.checked) (os := os) (X := fun w _ => laidMetH Tryz.prog laidL w) false (laidWorld os) #[.agg #[.int .i64 0, .int .i64 0, .int .i64 0, .int .i64 0, .string ⟨#[]⟩, .string ⟨#[]⟩, .int .i64 0], .agg #[.int .i64 0, .int .i64 0, .int .i64 0, .int .i64 0, .string ⟨#[]⟩, .slice none 0 0, .string ⟨#[]⟩, .bool false], .agg #[.int .i64 0, .int .i64 0, .int .i64 0, .string ⟨#[]⟩, .slice none 0 0]] 8 rfl (by kernel_rfl) (by kernel_rfl) (by kernel_rfl) (by kernel_rfl) (by kernel_rfl) (laidWorld_met os _))
    Tryz.laidOut rfl Tryz.underlying4 (by kernel_rfl) (of_decide_eq_true (by kernel_rfl)) rfl (fun ds h => by match ds, h with | [a0, a1, a2], _ => rfl) ?_
  intro W args ds ps hval hA hL
  have hA' : DataW.TrodAll enc Tryz.prog W 0 (fun _ => true) true [23, 27, 30] args.toList ds ps := hA
  obtain ⟨v0, v1, v2, d0, d1, d2, p0, p1, p2, rfl, rfl, rfl, h0, h1, h2⟩ := trodAll_three hA'
  obtain ⟨b0, w0⟩ := hval 0 23 v0 rfl rfl
  obtain ⟨b1, w1⟩ := hval 1 27 v1 rfl rfl
  obtain ⟨b2, w2⟩ := hval 2 30 v2 rfl rfl
  obtain ⟨a, rfl⟩ := open_ask w0
  obtain ⟨x, z, b1, o, c, e1, s1, n1⟩ := open_reply w1 h1
  obtain ⟨y, z', b2, o', c', e2, s2, n2⟩ := open_notice w2 h2
  have hm : maxLen < 9223372036854775808 := by decide
  obtain ⟨cfg, hg, hh⟩ := fputs_calls a x y (by omega) (by omega) z z' o c o' c' none none
  have key := run_views hg Tryz.func3 (by kernel_rfl) (by kernel_rfl) (s1 := seenR z o c x none) (s2 := seenC z' o' c' y none) hh rfl (glob_of_laid hL) s1 s2
  rw [e1 0 (fun k => if k = 0 then b1 else b2) rfl, e2 1 (fun k => if k = 0 then b1 else b2) rfl]
  exact key
theorem framePuts_holds : Rows.FramePutsSaid :=
  OpenClaim.holds_of_wide 3 Tryz.f3 rfl rfl rfl rfl rfl rfl rfl ⟨rfl, rfl, rfl, rfl, rfl⟩ rfl rfl rfl rfl rfl (by kernel_rfl) Tryz.func3 (by kernel_rfl)
    (of_decide_eq_true (by kernel_rfl)) (by unfold Func.isWrapper; first | (rw [if_pos (by decide +kernel)]; kernel_rfl) | (rw [if_neg (by decide +kernel)]; exact ⟨rfl, rfl⟩))
    (fun os started H enc _ => framePuts_lifted os started H enc)
/-- The row, tied to the program's text. -/
theorem framePuts_card_holds : Rows.FramePutsCardSaid :=
  Claim7.holds_tied_plain_at .later [] [.handle] true (true, "501f458c03c6f0bc5098681d91f95b6d9e900a7041cb2b0eeb522f8bbaf99e99") true
    framePuts_holds (fun _ h => by cases h) (by kernel_rfl) (fun _ h => by cases h) framePuts_row_tie rfl ⟨rfl, rfl⟩ (by kernel_rfl) rfl
    (fun f fn hf hfn => by
      obtain rfl : f = 3 := Option.some.inj ((show Tryz.prog.funcNamed "guilloche/guillochelaw16.FramePuts" = some 3 by kernel_rfl).symm.trans hf) |>.symm
      obtain rfl : fn = Tryz.f3 := (Option.some.inj (Tryz.func3.symm.trans hfn)).symm
      exact ⟨by kernel_rfl, fun j t ht => by
        rw [Tryz.params3] at ht
        have hm := Array.mem_of_getElem? ht
        simp only [List.mem_toArray, List.mem_cons, List.not_mem_nil, or_false] at hm
        rcases hm with rfl | rfl | rfl
        · exact (show Tryz.prog.wantsStandIn 23 = false by kernel_rfl)
        · exact (show Tryz.prog.wantsStandIn 27 = false by kernel_rfl)
        · exact (show Tryz.prog.wantsStandIn 30 = false by kernel_rfl)⟩)
    (by kernel_rfl)
#print axioms framePuts_card_holds
end Go.Proofs.YtocikfhejpilaaaGreatDoor
