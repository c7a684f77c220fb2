/-
  LeaseReleases: what is released is there no more; the others stay as they are; and there is room for one more: for every input the law returns true, and its arguments read as they did.
-/
import Derived.Test.YtobbhdmbblhgaaaLsR3
import Derived.Test.YtobbhdmbblhgaaaLsT0
namespace Go.Proofs.Ytobbhdmbblhgaaa
open Go Sx Go.RowKit Go.WideShapes Go.ChangeShapes

set_option maxRecDepth 100000 in
theorem leaseReleases_lifted (os : Os) (started : os.Started) (H : Type) (enc : TypeId × Value → H) :
    ReturnsInHanded {} Try.checked os 6 .any (Rows.leaseReleasesSpec.pre6 enc Try.prog Try.f6 Rows.leaseReleasesRow.domain false) (Rows.leaseReleasesSpec.post enc Try.prog Try.f6 false true false false) := by
  refine law_lifted (C := Try.checked) (boolT := 4) Try.own started (by kernel_rfl) Try.func6
    (ChangeSpec.witness6 (enc := enc) (C := Try.checked) false ⟨#[], #[.int .i64 0, .int .i64 0, .slice none 0 0, .int .i64 0, .int .i64 0], []⟩ 8 (by kernel_rfl) (by kernel_rfl) (by kernel_rfl) (by kernel_rfl))
    Try.laid rfl Try.underlying4 (by kernel_rfl) (of_decide_eq_true (by kernel_rfl)) rfl (fun ds h => by match ds, h with | [a, b, c, d, e], _ => rfl) ?_
  intro W args ds ps hval hA
  have hA' : DataW.TrodAll enc Try.prog W 0 (fun _ => true) true [3, 3, actsT, 3, 3] args.toList ds ps := hA
  obtain ⟨args⟩ := args
  obtain ⟨v0, vs0, d0, ds0, p0, q0, hargs, rfl, rfl, h0, r0⟩ := trodAll_cons hA'
  simp only at hargs
  subst hargs
  obtain ⟨v1, vs1, d1, ds1, p1, q1, rfl, rfl, rfl, h1, r1⟩ := trodAll_cons r0
  obtain ⟨v2, vs2, d2, ds2, p2, q2, rfl, rfl, rfl, h2, r2⟩ := trodAll_cons r1
  obtain ⟨v3, vs3, d3, ds3, p3, q3, rfl, rfl, rfl, h3, r3⟩ := trodAll_cons r2
  obtain ⟨v4, vs4, d4, ds4, p4, q4, rfl, rfl, rfl, h4, r4⟩ := trodAll_cons r3
  obtain ⟨rfl, rfl, rfl⟩ := trodAll_nil r4
  obtain ⟨b0, w0⟩ := hval 0 3 v0 rfl rfl
  obtain ⟨b1, w1⟩ := hval 1 3 v1 rfl rfl
  obtain ⟨b2, w2⟩ := hval 2 actsT v2 rfl rfl
  obtain ⟨b3, w3⟩ := hval 3 3 v3 rfl rfl
  obtain ⟨b4, w4⟩ := hval 4 3 v4 rfl rfl
  obtain ⟨x0, rfl, rfl, rfl, _⟩ := open_int Try.underlying3 w0 h0
  obtain ⟨x1, rfl, rfl, rfl, _⟩ := open_int Try.underlying3 w1 h1
  obtain ⟨z, b, o, n, c, g, rfl, hs⟩ := open_acts w2 h2
  obtain ⟨x3, rfl, rfl, rfl, _⟩ := open_int Try.underlying3 w3 h3
  obtain ⟨x4, rfl, rfl, rfl, _⟩ := open_int Try.underlying3 w4 h4
  exact law_calls (goodLaw _) Try.func6 (by kernel_rfl) (by kernel_rfl) (rel_holds x0 x1 x3 x4 z o n c g) rfl rfl hs
theorem leaseReleases_holds : Rows.LeaseReleasesSaid :=
  OpenClaim.holds_of_wide 6 Try.f6 rfl rfl rfl rfl rfl rfl rfl ⟨rfl, rfl, rfl, rfl, rfl⟩ rfl rfl rfl rfl rfl (by kernel_rfl) Try.func6 (by kernel_rfl)
    (of_decide_eq_true (by kernel_rfl)) (by unfold Func.isWrapper; first | (rw [if_pos (by decide +kernel)]; kernel_rfl) | (rw [if_neg (by decide +kernel)]; exact ⟨rfl, rfl⟩))
    (fun os started H enc _ => leaseReleases_lifted os started H enc)
#print axioms leaseReleases_holds
end Go.Proofs.Ytobbhdmbblhgaaa
