/-
  LeaseRoom: there are never more sessions, and kept replies, than there may be; Ids rise: for every input the law returns true, and its arguments read as they did.
-/
import Derived.Test.YtobbhdmbblhgaaaLsR1
import Derived.Test.YtobbhdmbblhgaaaLsT0
namespace Go.Proofs.Ytobbhdmbblhgaaa
open Go Sx Go.RowKit Go.WideShapes Go.ChangeShapes

set_option maxRecDepth 100000 in
theorem leaseRoom_lifted (os : Os) (started : os.Started) (H : Type) (enc : TypeId × Value → H) :
    ReturnsInHanded {} Try.checked os 3 .any (Rows.leaseRoomSpec.pre6 enc Try.prog Try.f3 Rows.leaseRoomRow.domain false) (Rows.leaseRoomSpec.post enc Try.prog Try.f3 false true false false) := by
  refine law_lifted (C := Try.checked) (boolT := 4) Try.own started (by kernel_rfl) Try.func3
    (ChangeSpec.witness6 (enc := enc) (C := Try.checked) false ⟨#[], #[.int .i64 0, .int .i64 0, .slice none 0 0], []⟩ 8 (by kernel_rfl) (by kernel_rfl) (by kernel_rfl) (by kernel_rfl))
    Try.laid rfl Try.underlying4 (by kernel_rfl) (of_decide_eq_true (by kernel_rfl)) rfl (fun ds h => by match ds, h with | [a, b, c], _ => rfl) ?_
  intro W args ds ps hval hA
  have hA' : DataW.TrodAll enc Try.prog W 0 (fun _ => true) true [3, 3, actsT] args.toList ds ps := hA
  obtain ⟨v0, v1, v2, d0, d1, d2, p0, p1, p2, rfl, rfl, rfl, h0, h1, h2⟩ := trodAll_three hA'
  obtain ⟨b0, w0⟩ := hval 0 3 v0 rfl rfl
  obtain ⟨b1, w1⟩ := hval 1 3 v1 rfl rfl
  obtain ⟨b2, w2⟩ := hval 2 actsT v2 rfl rfl
  obtain ⟨most, rfl, rfl, rfl, _⟩ := open_int Try.underlying3 w0 h0
  obtain ⟨term, rfl, rfl, rfl, _⟩ := open_int Try.underlying3 w1 h1
  obtain ⟨z, b, o, n, c, g, rfl, hs⟩ := open_acts w2 h2
  exact law_calls (goodLaw _) Try.func3 (by kernel_rfl) (by kernel_rfl) (room_holds most term z o n c g) rfl rfl hs
theorem leaseRoom_holds : Rows.LeaseRoomSaid :=
  OpenClaim.holds_of_wide 3 Try.f3 rfl rfl rfl rfl rfl rfl rfl ⟨rfl, rfl, rfl, rfl, rfl⟩ rfl rfl rfl rfl rfl (by kernel_rfl) Try.func3 (by kernel_rfl)
    (of_decide_eq_true (by kernel_rfl)) (by unfold Func.isWrapper; first | (rw [if_pos (by decide +kernel)]; kernel_rfl) | (rw [if_neg (by decide +kernel)]; exact ⟨rfl, rfl⟩))
    (fun os started H enc _ => leaseRoom_lifted os started H enc)
#print axioms leaseRoom_holds
end Go.Proofs.Ytobbhdmbblhgaaa
