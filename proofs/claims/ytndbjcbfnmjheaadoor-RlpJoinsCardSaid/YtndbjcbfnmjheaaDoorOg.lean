/-
  Conditions that the executor computes, written out by a program (vcgen.py).
-/
import Derived.Test.YtndbjcbfnmjheaaDoorOd
namespace Go.Proofs.YtndbjcbfnmjheaaDoor
open Go Sx

theorem vcJoins (a b : List UInt8) : VC.holds (runA (cfgJ (itemsN (cat a b))) 4 Tryd.f4 [.str false a, .str false b] (.ret (.bool false true))) = (True ∧
  (decide ((400 : Int) < (↑a.length : Int)) = true → sameVal (SV.bool true true) (SV.bool false true)) ∧
    (decide ((400 : Int) < (↑a.length : Int)) = false →
      (decide ((400 : Int) < (↑b.length : Int)) = true → sameVal (SV.bool true true) (SV.bool false true)) ∧
        (decide ((400 : Int) < (↑b.length : Int)) = false →
          a.length < (1099511627776 : Nat) ∧
            (itemsB a = true →
                ∀ (x : Nat),
                  itemsN a ≤ x →
                    b.length < (1099511627776 : Nat) ∧
                      (itemsB b = true →
                          ∀ (x_3 : Nat),
                            itemsN b ≤ x_3 →
                              (↑a.length : Int) + (↑b.length : Int) ≤ (9223372036854775807 : Int) ∧
                                (cat a b).length < (1099511627776 : Nat) ∧
                                  (itemsB (cat a b) = true →
                                      ∀ (x_6 : Nat),
                                        itemsN (cat a b) ≤ x_6 →
                                          (True ∧
                                              (0 : Nat) + itemsN a ≤ itemsN a ∧
                                                (2 : Nat) * ((0 : Nat) + itemsN a) * (16 : Nat) ≤ (281474976710656 : Nat) ∧ (0 : Nat) + itemsN a < (9223372036854775808 : Nat)) ∧
                                            (0 : Nat) = (0 : Nat) ∧
                                              ∀ (c : Nat),
                                                (0 : Nat) + itemsN a ≤ c →
                                                  ((0 : Nat) + ((0 : Nat) + itemsN a) ≤ (0 : Nat) + itemsN a ∧
                                                      (0 : Nat) + itemsN b ≤ itemsN b ∧
                                                        (2 : Nat) * ((0 : Nat) + itemsN a + itemsN b) * (16 : Nat) ≤ (281474976710656 : Nat) ∧
                                                          (0 : Nat) + itemsN a + itemsN b < (9223372036854775808 : Nat)) ∧
                                                    c * (1 : Nat) = c * (1 : Nat) ∧
                                                      ∀ (c : Nat),
                                                        (0 : Nat) + itemsN a + itemsN b ≤ c →
                                                          ((!decide ((↑(itemsN (cat a b)) : Int) = (↑((0 : Nat) + itemsN a + itemsN b) : Int))) = true →
                                                              sameVal (SV.bool true false) (SV.bool false true)) ∧
                                                            ((!decide ((↑(itemsN (cat a b)) : Int) = (↑((0 : Nat) + itemsN a + itemsN b) : Int))) = false →
                                                              (∃ (y : Nat),
                                                                  y ≤ itemsN (cat a b) ∧
                                                                    (0 : Int) = (↑y : Int) ∧
                                                                      SBle
                                                                          (SB.rows false ((0 : Nat) + itemsN a + itemsN b)
                                                                            [Col.str fun (j : Nat) => if j < (0 : Nat) + itemsN a then itemAt a j else itemAt b (j - ((0 : Nat) + itemsN a))] false
                                                                            (c * (1 : Nat)) (9 : Nat))
                                                                          (SB.rows false ((0 : Nat) + itemsN a + itemsN b)
                                                                            [Col.str fun (j : Nat) => if j < (0 : Nat) + itemsN a then itemAt a j else itemAt b (j - ((0 : Nat) + itemsN a))] false
                                                                            (c * (1 : Nat)) (9 : Nat)) ∧
                                                                        SBle (SB.rows true (itemsN (cat a b)) [Col.str (itemAt (cat a b))] false x_6 (9 : TypeId))
                                                                            (SB.rows true (itemsN (cat a b)) [Col.str (itemAt (cat a b))] false x_6 (9 : TypeId)) ∧
                                                                          SBle (SB.rows true (itemsN b) [Col.str (itemAt b)] false x_3 (9 : TypeId))
                                                                              (SB.rows true (itemsN b) [Col.str (itemAt b)] false x_3 (9 : TypeId)) ∧
                                                                            SBle (SB.rows true (itemsN a) [Col.str (itemAt a)] false x (9 : TypeId))
                                                                                (SB.rows true (itemsN a) [Col.str (itemAt a)] false x (9 : TypeId)) ∧
                                                                              True) ∧
                                                                ∀ (x_11 : Nat),
                                                                  x_11 ≤ itemsN (cat a b) →
                                                                    (decide ((↑x_11 : Int) < (↑(itemsN (cat a b)) : Int)) = true →
                                                                        ((0 : Int) ≤ (↑x_11 : Int) ∧ (↑x_11 : Int) < (↑(itemsN (cat a b)) : Int)) ∧
                                                                          (0 : Nat) + (↑x_11 : Int).toNat < itemsN (cat a b) ∧
                                                                            ((0 : Int) ≤ (↑x_11 : Int) ∧ (↑x_11 : Int) < (↑((0 : Nat) + itemsN a + itemsN b) : Int)) ∧
                                                                              (0 : Nat) + (↑x_11 : Int).toNat < (0 : Nat) + itemsN a + itemsN b ∧
                                                                                ((!decide
                                                                                          (itemAt (cat a b) ((0 : Nat) + (↑x_11 : Int).toNat) =
                                                                                            if (0 : Nat) + (↑x_11 : Int).toNat < (0 : Nat) + itemsN a then itemAt a ((0 : Nat) + (↑x_11 : Int).toNat)
                                                                                            else itemAt b ((0 : Nat) + (↑x_11 : Int).toNat - ((0 : Nat) + itemsN a)))) =
                                                                                      true →
                                                                                    sameVal (SV.bool true false) (SV.bool false true)) ∧
                                                                                  ((!decide
                                                                                          (itemAt (cat a b) ((0 : Nat) + (↑x_11 : Int).toNat) =
                                                                                            if (0 : Nat) + (↑x_11 : Int).toNat < (0 : Nat) + itemsN a then itemAt a ((0 : Nat) + (↑x_11 : Int).toNat)
                                                                                            else itemAt b ((0 : Nat) + (↑x_11 : Int).toNat - ((0 : Nat) + itemsN a)))) =
                                                                                      false →
                                                                                    ((-9223372036854775808 : Int) ≤ (↑x_11 : Int) + (1 : Int) ∧
                                                                                        (↑x_11 : Int) + (1 : Int) ≤ (9223372036854775807 : Int)) ∧
                                                                                      ∃ (y : Nat),
                                                                                        (y ≤ itemsN (cat a b) ∧ itemsN (cat a b) - y < itemsN (cat a b) - x_11) ∧
                                                                                          (↑x_11 : Int) + (1 : Int) = (↑y : Int) ∧
                                                                                            SBle
                                                                                                (SB.rows false ((0 : Nat) + itemsN a + itemsN b)
                                                                                                  [Col.str fun (j : Nat) =>
                                                                                                      if j < (0 : Nat) + itemsN a then itemAt a j else itemAt b (j - ((0 : Nat) + itemsN a))]
                                                                                                  false (c * (1 : Nat)) (9 : Nat))
                                                                                                (SB.rows false ((0 : Nat) + itemsN a + itemsN b)
                                                                                                  [Col.str fun (j : Nat) =>
                                                                                                      if j < (0 : Nat) + itemsN a then itemAt a j else itemAt b (j - ((0 : Nat) + itemsN a))]
                                                                                                  false (c * (1 : Nat)) (9 : Nat)) ∧
                                                                                              SBle (SB.rows true (itemsN (cat a b)) [Col.str (itemAt (cat a b))] false x_6 (9 : TypeId))
                                                                                                  (SB.rows true (itemsN (cat a b)) [Col.str (itemAt (cat a b))] false x_6 (9 : TypeId)) ∧
                                                                                                SBle (SB.rows true (itemsN b) [Col.str (itemAt b)] false x_3 (9 : TypeId))
                                                                                                    (SB.rows true (itemsN b) [Col.str (itemAt b)] false x_3 (9 : TypeId)) ∧
                                                                                                  SBle (SB.rows true (itemsN a) [Col.str (itemAt a)] false x (9 : TypeId))
                                                                                                      (SB.rows true (itemsN a) [Col.str (itemAt a)] false x (9 : TypeId)) ∧
                                                                                                    True)) ∧
                                                                      (decide ((↑x_11 : Int) < (↑(itemsN (cat a b)) : Int)) = false → sameVal (SV.bool true true) (SV.bool false true)))) ∧
                                    (itemsB (cat a b) = false → sameVal (SV.bool true false) (SV.bool false true))) ∧
                        (itemsB b = false →
                          (↑a.length : Int) + (↑b.length : Int) ≤ (9223372036854775807 : Int) ∧
                            (cat a b).length < (1099511627776 : Nat) ∧
                              (itemsB (cat a b) = true → ∀ (x : Nat), itemsN (cat a b) ≤ x → sameVal (SV.bool true false) (SV.bool false true)) ∧
                                (itemsB (cat a b) = false → sameVal (SV.bool (true && true) (decide ((0 : Int) = (0 : Int)))) (SV.bool false true)))) ∧
              (itemsB a = false →
                b.length < (1099511627776 : Nat) ∧
                  (itemsB b = true →
                      ∀ (x : Nat),
                        itemsN b ≤ x →
                          (↑a.length : Int) + (↑b.length : Int) ≤ (9223372036854775807 : Int) ∧
                            (cat a b).length < (1099511627776 : Nat) ∧
                              (itemsB (cat a b) = true → ∀ (x : Nat), itemsN (cat a b) ≤ x → sameVal (SV.bool (true && true) (decide ((0 : Int) = (0 : Int)))) (SV.bool false true)) ∧
                                (itemsB (cat a b) = false → sameVal (SV.bool (true && true) (decide ((0 : Int) = (0 : Int)))) (SV.bool false true))) ∧
                    (itemsB b = false →
                      (↑a.length : Int) + (↑b.length : Int) ≤ (9223372036854775807 : Int) ∧
                        (cat a b).length < (1099511627776 : Nat) ∧
                          (itemsB (cat a b) = true → ∀ (x : Nat), itemsN (cat a b) ≤ x → sameVal (SV.bool (true && true) (decide ((0 : Int) = (0 : Int)))) (SV.bool false true)) ∧
                            (itemsB (cat a b) = false → sameVal (SV.bool (true && true) (decide ((0 : Int) = (0 : Int)))) (SV.bool false true))))))) := by kernel_rfl
end Go.Proofs.YtndbjcbfnmjheaaDoor
/-
  Rlp: RlpJoins: the run and the plain law.
-/
namespace Go.Proofs.YtndbjcbfnmjheaaDoor
open Go Sx

theorem part_app {a b : List UInt8} {i : Int} (h : i ≤ a.length) : part (a ++ b) i = part a i := by
  unfold part
  by_cases h1 : 1 ≤ i
  · have hl : 1 ≤ a.length := by omega
    rw [List.drop_append_of_le_length hl, List.take_append_of_le_length (by simp only [List.length_drop]; omega)]
  · have : (i - 1).toNat = 0 := by omega
    rw [this]; rfl
theorem lenB_app {a b : List UInt8} {i : Int} (h2 : 2 ≤ i) (h : lenB a i = true) : lenB (a ++ b) i = true := by
  obtain ⟨h1, h3, h4, h5⟩ := lenB_iff.1 h
  refine lenB_iff.2 ⟨by simp only [List.length_append]; omega, ?_, ?_, ?_⟩
  · rw [byteAt_left (by omega) (by omega)]; exact h3
  · rw [part_app h1]; exact h4
  · rw [part_app h1]; exact h5
theorem cut_app {a : List UInt8} (h : cutB a = true) (b : List UInt8) : cutB (a ++ b) = true ∧ cutL (a ++ b) = cutL a ∧ cutIn (a ++ b) = cutIn a ∧ cutRest (a ++ b) = cutRest a ++ b := by
  obtain ⟨h0, hc⟩ := cutB_iff.1 h
  have hl := List.length_pos_iff.2 h0
  have e0 : byteAt (a ++ b) 0 = byteAt a 0 := byteAt_left (Int.le_refl _) (by omega)
  have el : lead (a ++ b) = lead a := by unfold lead; rw [e0]
  have eL : cutL (a ++ b) = cutL a := by unfold cutL; rw [e0]
  have hne : a ++ b ≠ [] := by simp [h0]
  refine ⟨?_, eL, ?_⟩
  · refine cutB_iff.2 ⟨hne, ?_⟩
    rw [e0, el]
    rcases hc with hA | ⟨hA, hB, hC, hD⟩ | ⟨hA, hB, hC, hD⟩
    · exact .inl hA
    · have hq := (lenB_iff.1 hC).1
      exact .inr (.inl ⟨hA, hB, lenB_app (by omega) hC, by rw [part_app hq]; simp only [List.length_append]; omega⟩)
    · exact .inr (.inr ⟨hA, hB, by simp only [List.length_append]; omega, fun ⟨x, y, z⟩ => hD ⟨x, y, by rwa [byteAt_left (by omega) (by omega)] at z⟩⟩)
  · rcases hc with hA | ⟨hA, hB, hC, hD⟩ | ⟨hA, hB, hC, hD⟩
    · obtain ⟨_, k2, k3⟩ := cut_short hA
      obtain ⟨_, j2, j3⟩ := cut_short (s := a ++ b) (by rw [e0]; exact hA)
      rw [k2, k3, j2, j3]
      exact ⟨List.take_append_of_le_length (by omega), List.drop_append_of_le_length (by omega)⟩
    · have hq := (lenB_iff.1 hC).1
      have hp := part_nn a (lead a - 54)
      obtain ⟨k2, k3⟩ := cut_long hA hB
      obtain ⟨j2, j3⟩ := cut_long (s := a ++ b) (by rw [e0]; exact hA) (by rw [el]; exact hB)
      rw [k2, k3, j2, j3, el, part_app hq]
      constructor
      · rw [List.drop_append_of_le_length (by omega), List.take_append_of_le_length (by simp only [List.length_drop]; omega)]
      · rw [List.drop_append_of_le_length (by omega)]
    · have hn := lead_nn hA
      obtain ⟨k2, k3⟩ := cut_mid hA hB
      obtain ⟨j2, j3⟩ := cut_mid (s := a ++ b) (by rw [e0]; exact hA) (by rw [el]; exact hB)
      rw [k2, k3, j2, j3, el]
      have e1 : (1 : Int).toNat = 1 := rfl
      rw [e1]
      constructor
      · rw [List.drop_append_of_le_length (by omega), List.take_append_of_le_length (by simp only [List.length_drop]; omega)]
      · rw [List.drop_append_of_le_length (by omega)]
theorem itemOf_app {a : List UInt8} (h : cutB a = true) (b : List UInt8) : itemOf (a ++ b) = itemOf a := by
  unfold itemOf
  rw [(cut_app h b).2.2.2, List.length_append, List.length_append]
  have : a.length + b.length - ((cutRest a).length + b.length) = a.length - (cutRest a).length := by omega
  rw [this, List.take_append_of_le_length (by omega)]
theorem Walk.app {a : List UInt8} (b : List UInt8) : ∀ {k : Nat}, Walk a k → restAt (a ++ b) k = restAt a k ++ b
  | 0, _ => by simp only [restAt]
  | k + 1, h => by
    have h1 := Walk.app b (k := k) (fun j hj => h j (by omega))
    simp only [restAt]
    rw [h1, (cut_app (h k (by omega)).2 b).2.2.2]
theorem Walk.take {a : List UInt8} {k j : Nat} (h : Walk a k) (hj : j ≤ k) : Walk a j := fun i hi => h i (by omega)
theorem Walk.join {a : List UInt8} (b : List UInt8) {k : Nat} (h : Walk a k) : Walk (a ++ b) k := fun j hj => by
  rw [(h.take (j := j) (by omega)).app b]
  obtain ⟨h1, h2⟩ := h j hj
  exact ⟨by simp [h1], (cut_app h2 b).1⟩
theorem Walk.item {a : List UInt8} (b : List UInt8) {k j : Nat} (h : Walk a k) (hj : j < k) : itemAt (a ++ b) j = itemAt a j := by
  unfold itemAt
  rw [(h.take (j := j) (by omega)).app b, itemOf_app (h j hj).2]
theorem items_walk (n : Nat) : ∀ (s : List UInt8), s.length ≤ n → itemsB s = true → Walk s (itemsN s) ∧ restAt s (itemsN s) = [] := by
  have nil : ∀ s : List UInt8, s = [] → Walk s (itemsN s) ∧ restAt s (itemsN s) = [] := by
    intro s hs
    rw [hs, items_nil.2]
    exact ⟨fun j hj => absurd hj (Nat.not_lt_zero _), by simp only [restAt]⟩
  induction n with
  | zero => exact fun s h _ => nil s (List.length_eq_zero_iff.1 (by omega))
  | succ n ih =>
    intro s h hb
    by_cases hne : s = []
    · exact nil s hne
    · have hc : cutB s = true := by
        cases hc : cutB s with
        | false => rw [items_bad hne hc] at hb; cases hb
        | true => rfl
      obtain ⟨h1, h2⟩ := items_cut hne hc
      have hl := cut_lt hc
      obtain ⟨h3, h4⟩ := ih (cutRest s) (by omega) (by rw [← h1]; exact hb)
      rw [h2]
      refine ⟨fun j hj => ?_, by rw [restAt_succ]; exact h4⟩
      cases j with
      | zero => simp only [restAt]; exact ⟨hne, hc⟩
      | succ j => rw [restAt_succ]; exact h3 j (by omega)
theorem restAt_add (s : List UInt8) (k : Nat) : ∀ j, restAt s (k + j) = restAt (restAt s k) j
  | 0 => by simp only [restAt, Nat.add_zero]
  | j + 1 => by rw [← Nat.add_assoc, restAt, restAt_add s k j]; simp only [restAt]
theorem items_join {a : List UInt8} (h : itemsB a = true) (b : List UInt8) : itemsB (a ++ b) = itemsB b ∧ itemsN (a ++ b) = itemsN a + itemsN b ∧
    (∀ j, j < itemsN a → itemAt (a ++ b) j = itemAt a j) ∧ ∀ j, itemAt (a ++ b) (itemsN a + j) = itemAt b j := by
  obtain ⟨h1, h2⟩ := items_walk a.length a (Nat.le_refl _) h
  have h3 := h1.app b
  rw [h2, List.nil_append] at h3
  obtain ⟨h4, h5⟩ := (h1.join b).items
  rw [h3] at h4 h5
  refine ⟨h4, by omega, fun j hj => h1.item b hj, fun j => ?_⟩
  unfold itemAt
  rw [restAt_add, h3]
theorem itemsN_le {s : List UInt8} (h : itemsB s = true) : itemsN s ≤ s.length := by
  have := (items_walk s.length s (Nat.le_refl _) h).1.len
  omega
theorem joins_holds (a b : List UInt8) : Holds (runA (cfgJ (itemsN (cat a b))) 4 Tryd.f4 [.str false a, .str false b] (.ret (.bool false true))) := by
  refine Holds.of_eq (vcJoins a b) ?_
  simp only [show cat a b = a ++ b from rfl]
  refine ⟨trivial, fun _ _ => rfl, fun ha => ⟨fun _ _ => rfl, fun hb => ?_⟩⟩
  simp only [decide_eq_false_iff_not, Int.not_lt] at ha hb
  have hl : (a ++ b).length < 1099511627776 := by rw [List.length_append]; omega
  refine ⟨by omega, fun a1 x hx => ?_, fun a1 => ⟨by omega, fun b1 x hx => ⟨by omega, hl, fun _ _ _ _ => rfl, fun _ _ => rfl⟩, fun b1 => ⟨by omega, hl, fun _ _ _ _ => rfl, fun _ _ => rfl⟩⟩⟩
  obtain ⟨j1, j2, j3, j4⟩ := items_join a1 b
  have na := itemsN_le a1
  refine ⟨by omega, fun b1 x3 hx3 => ?_, fun b1 => ⟨by omega, hl, fun c1 => ?_, fun _ _ => rfl⟩⟩
  · have nb := itemsN_le b1
    refine ⟨by omega, hl, fun _ x6 hx6 => ?_, fun c1 => ?_⟩
    · refine ⟨⟨trivial, by omega, by omega, by omega⟩, trivial, fun c hc => ⟨⟨by omega, by omega, by omega, by omega⟩, trivial, fun c' hc' => ⟨fun h => ?_, fun h => ?_⟩⟩⟩
      · rw [j2] at h
        exfalso
        simp only [Bool.not_eq_true', decide_eq_false_iff_not] at h
        omega
      · refine ⟨⟨0, Nat.zero_le _, rfl, SBle.refl _, SBle.refl _, SBle.refl _, SBle.refl _, trivial⟩, fun y hy => ⟨fun g => ?_, fun _ _ => rfl⟩⟩
        simp only [decide_eq_true_eq] at g
        have hit : itemAt (a ++ b) (0 + (y : Int).toNat) = if 0 + (y : Int).toNat < 0 + itemsN a then itemAt a (0 + (y : Int).toNat) else itemAt b (0 + (y : Int).toNat - (0 + itemsN a)) := by
          rw [Int.toNat_natCast, Nat.zero_add, Nat.zero_add]
          by_cases h : y < itemsN a
          · rw [if_pos h]; exact j3 y h
          · rw [if_neg h, ← j4]
            congr 1; omega
        refine ⟨by omega, by omega, by omega, by omega, fun f => ?_, fun _ => ⟨by omega, y + 1, by omega, rfl, SBle.refl _, SBle.refl _, SBle.refl _, SBle.refl _, trivial⟩⟩
        rw [hit] at f; simp at f
    · rw [j1, b1] at c1; cases c1
  · rw [j1, b1] at c1; cases c1
end Go.Proofs.YtndbjcbfnmjheaaDoor
