/-
  Frame: GetAsk: the contract.
-/
import Derived.Test.YtocikfhejpilaaaGreatDoorPb
import Derived.Test.YtocikfhejpilaaaGreatDoorPa
namespace Go.Proofs.YtocikfhejpilaaaGreatDoor
open Go Sx
set_option maxRecDepth 20000

theorem cutRest_le (s : List UInt8) : (cutRest s).length ≤ s.length := by
  unfold cutRest; rw [List.length_drop]; omega
theorem restAt_le (s : List UInt8) : ∀ k, (restAt s k).length ≤ s.length
  | 0 => by simp only [restAt]; exact Nat.le_refl _
  | k + 1 => by simp only [restAt]; exact Nat.le_trans (cutRest_le _) (restAt_le s k)
theorem itemAt_le (s : List UInt8) (k : Nat) : (itemAt s k).length ≤ s.length := by
  have := restAt_le s k
  unfold itemAt itemOf; rw [List.length_take]; omega
theorem cutIn_le (s : List UInt8) : (cutIn s).length ≤ s.length := by
  unfold cutIn; simp only [List.length_take, List.length_drop]; omega
set_option maxHeartbeats 4000000 in
theorem getask_no {s : List UInt8} (hs : s.length < 1099511627776) (hB : getAskB s = false) : Holds (runA cfgF3 19 Tryz.f19 [.str false s] (getAskA s)) := by
  refine Holds.of_eq (vcFGet s) ?_
  have hl : ∀ k, (itemAt (cutIn s) k).length < 1152921504606846976 := fun k => by
    have := itemAt_le (cutIn s) k
    have := cutIn_le s
    omega
  have hc : (cutIn s).length < 1099511627776 := Nat.lt_of_le_of_lt (cutIn_le s) hs
  have hn := fun k => num_nn (cutIn (itemAt (cutIn s) k))
  have hn0 := hn 0
  have hn1 := hn 1
  have hn2 := hn 2
  have hn3 := hn 3
  have hn4 := hn 4
  have hn7 := hn 7
  have done : ¬ ((askD s).ok = true ∧ (askD s).put = s) := fun h => by
    unfold getAskB at hB
    rw [h.1, h.2] at hB
    simp at hB
  have hB' := hB
  clear hB'
  simp only [hB, Bool.false_eq_true, false_imp_iff, true_and, forall_const, hl]
  unfold askD itOf numI at done
  repeat' first
    | apply And.intro
    | intro (_ : _ = true)
    | intro (_ : _ = false)
    | intro (_ : Nat)
    | intro (_ : _ ≤ _)
  all_goals first
    | exact fun _ => rfl
    | omega
    | (simp only [decide_eq_true_eq, decide_eq_false_iff_not] at *; omega)
    | (exfalso; apply done; simp_all; done)
end Go.Proofs.YtocikfhejpilaaaGreatDoor
/-
  Frame: GetAsk, of an ask's bytes.
-/
namespace Go.Proofs.YtocikfhejpilaaaGreatDoor
open Go Sx
set_option maxRecDepth 20000

set_option maxHeartbeats 1000000 in
theorem getask_yes {x : Ak} (h : x.ok = true) : Holds (runA cfgF3 19 Tryz.f19 [.str false x.put] (getAskA x.put)) := by
  refine Holds.of_eq (vcFGet x.put) ?_
  have hB : getAskB x.put = true := getAskB_iff.2 ⟨x, h, rfl⟩
  have hsm := Ak.ok_small h
  have c := Ak.cut hsm
  have hD := askD_put hsm
  have hL : x.put.length ≤ 200 := by
    have := Ak.items_len hsm
    have := head_len 192 (flat x.items).length
    rw [Ak.put_eq, listOf, List.length_append]; omega
  have hci : (cutIn x.put).length ≤ x.put.length := by
    unfold cutIn; simp only [List.length_take, List.length_drop]; omega
  obtain ⟨h1, h2, h3, h4, h5, h6, h7⟩ := hsm
  obtain ⟨c1, c2, c3, c4, c5, d0, d1, d2, d3, d4, d5, d6, d7⟩ := c
  have z := numOf_get (n := 0) (by omega) (by omega)
  have k := numOf_get (n := x.k) (by omega) (by omega)
  have s := numOf_get (n := x.s) (by omega) (by omega)
  have q := numOf_get (n := x.q) (by omega) (by omega)
  have a := numOf_get (n := x.a + 1) (by omega) (by omega)
  have l := numOf_get (n := x.lim) (by omega) (by omega)
  have u := textOf_get (b := x.key) (by omega)
  have v := textOf_get (b := x.to) (by omega)
  have lz := numOf_len 0
  have lk := numOf_len x.k
  have ls := numOf_len x.s
  have lq := numOf_len x.q
  have la := numOf_len (x.a + 1)
  have ll := numOf_len x.lim
  have lu := text_len x.key
  have lv := text_len x.to
  unfold numI at z k s q a l
  obtain ⟨z1, _, _, _, z5⟩ := z
  obtain ⟨k1, _, _, _, k5⟩ := k
  obtain ⟨s1, _, _, _, s5⟩ := s
  obtain ⟨q1, _, _, _, q5⟩ := q
  obtain ⟨a1, _, _, _, a5⟩ := a
  obtain ⟨l1, _, _, _, l5⟩ := l
  obtain ⟨u1, u2, u3, u4⟩ := u
  obtain ⟨v1, v2, v3, v4⟩ := v
  have ex : ({ k := x.k, s := x.s, q := x.q, a := x.a, key := x.key, to := x.to, lim := x.lim } : Ak) = x := rfl
  have m0 : decide ((1048577 : Int) < 0) = false := by decide
  have mk : decide ((1048577 : Int) < x.k) = false := decide_eq_false (by omega)
  have ms : decide ((1048577 : Int) < x.s) = false := decide_eq_false (by omega)
  have mq : decide ((1048577 : Int) < x.q) = false := decide_eq_false (by omega)
  have ma : decide ((1048577 : Int) < x.a + 1) = false := decide_eq_false (by omega)
  have ml : decide ((1048577 : Int) < x.lim) = false := decide_eq_false (by omega)
  have p0 : decide (((8 : Nat) : Int) ≤ 0) = false := by decide
  have p1 : decide (((8 : Nat) : Int) ≤ 1) = false := by decide
  have p2 : decide (((8 : Nat) : Int) ≤ 2) = false := by decide
  have p3 : decide (((8 : Nat) : Int) ≤ 3) = false := by decide
  have p4 : decide (((8 : Nat) : Int) ≤ 4) = false := by decide
  have p5 : decide (((8 : Nat) : Int) ≤ 5) = false := by decide
  have p6 : decide (((8 : Nat) : Int) ≤ 6) = false := by decide
  have p7 : decide (((8 : Nat) : Int) ≤ 7) = false := by decide
  have p8 : decide (((8 : Nat) : Int) = 8) = true := by decide
  simp only [hB, hD, m0, mk, ms, mq, ma, ml, p0, p1, p2, p3, p4, p5, p6, p7, p8, Bool.false_eq_true, Bool.true_eq_false, false_imp_iff, forall_const, true_and, and_true, Bool.not_true, decide_true, c1, c2, c3, c4, c5, d0, d1, d2, d3, d4, d5, d6, d7, z1, z5, k1, k5, s1, s5, q1, q5, a1, a5, l1, l5, u1, u2, u3, u4, v1, v2, v3, v4, Int.add_sub_cancel, h]
  have hp := hL
  refine ⟨by omega, by omega, fun y _ => ?_⟩
  refine ⟨by omega, by omega, by omega, by omega, by omega, by omega, by omega, by omega, by omega, by omega, by omega, by omega, by omega, by omega, by omega, by omega, by omega, by omega, by omega, by omega, by omega, by omega, by omega, by omega, by omega, by omega, by omega, by omega, by omega, by omega, ?_⟩
  exact ⟨by omega, fun _ => rfl⟩
end Go.Proofs.YtocikfhejpilaaaGreatDoor
/-
  Frame: GetAsk: the contract.
-/
namespace Go.Proofs.YtocikfhejpilaaaGreatDoor
open Go Sx
set_option maxRecDepth 20000

theorem getask_holds {s : List UInt8} (hs : s.length < 1099511627776) : Holds (runA cfgF3 19 Tryz.f19 [.str false s] (getAskA s)) := by
  cases hB : getAskB s with
  | false => exact getask_no hs hB
  | true =>
    obtain ⟨x, hx, rfl⟩ := getAskB_iff.1 hB
    exact getask_yes hx
def fgetSpec : List SV → Option (Prop × Ans)
  | [.str false s] => some (s.length < 1099511627776, getAskA s)
  | _ => none
theorem fget_ok : CallOk Tryz.prog 19 (ansPT fgetSpec) := by
  refine ans_ok (n := 20) (fn := Tryz.f19) Tryz.func19 (by kernel_rfl) (by kernel_rfl) ?_
  intro args p a h hp
  unfold fgetSpec at h
  split at h
  · rename_i s
    injection h with h; injection h with h1 h2; subst h1; subst h2
    refine ⟨_, goodF3, rfl, fun b => ?_, getask_holds hp⟩
    cases b <;> exact rfl
  · cases h
noncomputable def listF4 : List (FuncId × PT) := (19, ansPT fgetSpec) :: listF3
theorem listF4_ok : SummOk Tryz.prog (fun f => lookPT f listF4) := .cons fget_ok (ansPT_mono _) listF3_ok
end Go.Proofs.YtocikfhejpilaaaGreatDoor
