/-
  Conditions that the executor computes, written out by a program (vcgen.py).
-/
import Derived.Test.YtndbjcbfnmjheaaDoorOd
import Derived.Test.YtndbjcbfnmjheaaDoorOe
import Derived.Test.YtndbjcbfnmjheaaDoorTie
import Derived.Test.YtndbjcbfnmjheaaDoorCards
import Derived.SevenTiedAt
namespace Go.Proofs.YtndbjcbfnmjheaaDoor
open Go Sx

theorem vcNums (n m : Int) (s : List UInt8) : VC.holds (runA cfg9 3 Tryd.f3 [.int .u64 false n, .int .u64 false m, .str false s] (.ret (.bool false true))) = (True ∧
  (decide ((400 : Int) < (↑s.length : Int)) = true → sameVal (SV.bool true true) (SV.bool false true)) ∧
    (decide ((400 : Int) < (↑s.length : Int)) = false →
      ((0 : Int) ≤ n ∧ n < (18446744073709551616 : Int)) ∧
        (textOf (digits n)).length < (1152921504606846976 : Nat) ∧
          (getB (textOf (digits n)) = true →
              s.length < (1152921504606846976 : Nat) ∧
                (getB s = true →
                    (decide (num (cutIn (textOf (digits n))) = n) = true →
                        ((0 : Int) ≤ num (cutIn s) ∧ num (cutIn s) < (18446744073709551616 : Int)) ∧
                          (decide (textOf (digits (num (cutIn s))) = s) = true →
                              (decide (m < n) = true → sameVal (SV.bool true true) (SV.bool false true)) ∧
                                (decide (m < n) = false →
                                  ((0 : Int) ≤ n ∧ n < (18446744073709551616 : Int)) ∧
                                    ((0 : Int) ≤ m ∧ m < (18446744073709551616 : Int)) ∧
                                      sameVal (SV.bool (false && false) (decide ((↑(textOf (digits n)).length : Int) ≤ (↑(textOf (digits m)).length : Int)))) (SV.bool false true))) ∧
                            (decide (textOf (digits (num (cutIn s))) = s) = false → sameVal (SV.bool true false) (SV.bool false true))) ∧
                      (decide (num (cutIn (textOf (digits n))) = n) = false → sameVal (SV.bool true false) (SV.bool false true))) ∧
                  (getB s = false →
                    (decide (num (cutIn (textOf (digits n))) = n) = true →
                        (decide (m < n) = true → sameVal (SV.bool true true) (SV.bool false true)) ∧
                          (decide (m < n) = false →
                            ((0 : Int) ≤ n ∧ n < (18446744073709551616 : Int)) ∧
                              ((0 : Int) ≤ m ∧ m < (18446744073709551616 : Int)) ∧
                                sameVal (SV.bool (false && false) (decide ((↑(textOf (digits n)).length : Int) ≤ (↑(textOf (digits m)).length : Int)))) (SV.bool false true))) ∧
                      (decide (num (cutIn (textOf (digits n))) = n) = false → sameVal (SV.bool true false) (SV.bool false true)))) ∧
            (getB (textOf (digits n)) = false →
              s.length < (1152921504606846976 : Nat) ∧
                (getB s = true →
                    (decide ((0 : Int) = n) = true → sameVal (SV.bool true false) (SV.bool false true)) ∧ (decide ((0 : Int) = n) = false → sameVal (SV.bool true false) (SV.bool false true))) ∧
                  (getB s = false →
                    (decide ((0 : Int) = n) = true → sameVal (SV.bool true false) (SV.bool false true)) ∧ (decide ((0 : Int) = n) = false → sameVal (SV.bool true false) (SV.bool false true)))))) := by kernel_rfl
end Go.Proofs.YtndbjcbfnmjheaaDoor
/-
  Rlp: RlpNums: the run and the plain law.
-/
namespace Go.Proofs.YtndbjcbfnmjheaaDoor
open Go Sx

theorem byteAt_tail (c : UInt8) (t : List UInt8) : byteAt (c :: t) 1 = byteAt t 0 := by cases t <;> rfl
theorem getB_num {n : Int} (h0 : 0 ≤ n) (h : n < 18446744073709551616) : getB (textOf (digits n)) = true ∧ cutIn (textOf (digits n)) = digits n := by
  have hl := digits_len n
  obtain ⟨h1, h2, h3, h4⟩ := text_cut (b := digits n) (by omega) []
  rw [List.append_nil] at h1 h2 h3 h4
  refine ⟨getB_iff.2 ⟨h1, h2, h4, by rw [h3]; exact hl, ?_⟩, h3⟩
  rw [h3]
  by_cases hp : 0 < n
  · exact .inr (digits_head hp h).2
  · have : n = 0 := by omega
    subst this; exact .inl digits_zero
theorem getB_only {s : List UInt8} (h : getB s = true) : textOf (digits (num (cutIn s))) = s := by
  obtain ⟨h1, h2, h3, h4, h5⟩ := getB_iff.1 h
  rw [digits_of h4 h5]
  obtain ⟨hne, hc⟩ := cutB_iff.1 h1
  have hl := List.length_pos_iff.2 hne
  have hL : byteAt s 0 < 192 := by simp [cutL] at h2; omega
  have g0 := byteAt_lt s 0
  rcases hc with hA | ⟨hA, hB, hC, hD⟩ | ⟨hA, hB, hC, hD⟩
  · obtain ⟨k1, k2, k3⟩ := cut_short hA
    rw [k3] at h3
    have hs : s.length = 1 := by
      have := List.drop_eq_nil_iff.1 h3; omega
    rw [k2, List.take_of_length_le (by omega), text_short ⟨hs, hA⟩]
  · exfalso
    obtain ⟨k1, k2⟩ := cut_long hA hB
    have hp := (lenB_iff.1 hC).2.2.2
    have hq := (lenB_iff.1 hC).1
    rw [k1] at h4
    simp only [List.length_take, List.length_drop] at h4
    omega
  · obtain ⟨k1, k2⟩ := cut_mid hA hB
    have hl2 := lead_lt hL
    rw [k2] at h3
    have hs := List.drop_eq_nil_iff.1 h3
    have e : cutIn s = s.drop 1 := by
      rw [k1]
      have : (1 : Int).toNat = 1 := rfl
      rw [this, List.take_of_length_le (by simp only [List.length_drop]; omega)]
    obtain ⟨c, t, rfl⟩ : ∃ c t, s = c :: t := List.exists_cons_of_ne_nil hne
    · simp only [List.drop_succ_cons, List.drop_zero] at e
      rw [e]
      simp only [List.length_cons] at hC hs
      have hn : ¬ (t.length = 1 ∧ byteAt t 0 < 128) := fun ⟨x, y⟩ => hD ⟨hL, by omega, by rw [byteAt_tail]; exact y⟩
      rw [text_long hn, head_short (by omega)]
      rw [byteAt_cons] at hl2 g0 hA
      have : (128 + (t.length : Int)).toNat = c.toNat := by omega
      rw [this, UInt8.ofNat_toNat]
      rfl
theorem text_mono {a b : List UInt8} (h : a.length ≤ b.length) (ha : a.length ≤ 8) (hb : b.length ≤ 8) (hsame : a.length = 1 → b.length = 1 → (byteAt b 0 < 128 → byteAt a 0 < 128)) : (textOf a).length ≤ (textOf b).length := by
  by_cases h1 : b.length = 1 ∧ byteAt b 0 < 128
  · rw [text_short h1]
    by_cases h2 : a.length = 1 ∧ byteAt a 0 < 128
    · rw [text_short h2]; omega
    · rw [text_long h2, head_short (by omega)]
      simp only [List.length_append, List.length_cons, List.length_nil]
      by_cases h3 : a.length = 1
      · exact absurd ⟨h3, hsame h3 h1.1 h1.2⟩ h2
      · omega
  · rw [text_long h1, head_short (by omega)]
    simp only [List.length_append, List.length_cons, List.length_nil]
    by_cases h2 : a.length = 1 ∧ byteAt a 0 < 128
    · rw [text_short h2]; omega
    · rw [text_long h2, head_short (by omega)]
      simp only [List.length_append, List.length_cons, List.length_nil]; omega
theorem nums_mono {n m : Int} (h0 : 0 ≤ n) (h : n ≤ m) (h2 : m < 18446744073709551616) : (textOf (digits n)).length ≤ (textOf (digits m)).length := by
  refine text_mono (digits_mono h) (digits_len n) (digits_len m) fun e1 e2 e3 => ?_
  have one : ∀ {x : Int}, 0 ≤ x → x < 18446744073709551616 → (digits x).length = 1 → byteAt (digits x) 0 = x := by
    intro x g0 g1 g2
    have := digits_num g0 g1
    match hd : digits x, g2 with
    | [c], _ =>
      rw [hd] at this
      rw [byteAt_cons, ← this]; simp [num]
  rw [one (by omega) h2 e2] at e3
  rw [one h0 (by omega) e1]
  omega
theorem nums_holds {n m : Int} {s : List UInt8} (h0 : 0 ≤ n) (h1 : n < 18446744073709551616) (h2 : 0 ≤ m) (h3 : m < 18446744073709551616) :
    Holds (runA cfg9 3 Tryd.f3 [.int .u64 false n, .int .u64 false m, .str false s] (.ret (.bool false true))) := by
  refine Holds.of_eq (vcNums n m s) ?_
  obtain ⟨k1, k2⟩ := getB_num h0 h1
  have hl := text_len (digits n)
  have hd := digits_len n
  have hnum : num (cutIn (textOf (digits n))) = n := by rw [k2, digits_num h0 h1]
  have last : (decide (m < n) = true → sameVal (SV.bool true true) (SV.bool false true)) ∧
      (decide (m < n) = false →
        ((0 : Int) ≤ n ∧ n < (18446744073709551616 : Int)) ∧
          ((0 : Int) ≤ m ∧ m < (18446744073709551616 : Int)) ∧
            sameVal (SV.bool (false && false) (decide ((↑(textOf (digits n)).length : Int) ≤ (↑(textOf (digits m)).length : Int)))) (SV.bool false true)) := by
    refine ⟨fun _ _ => rfl, fun h => ⟨⟨h0, h1⟩, ⟨h2, h3⟩, ?_⟩⟩
    simp only [decide_eq_false_iff_not, Int.not_lt] at h
    have := nums_mono h0 h h3
    rw [decide_eq_true (by omega)]
    exact fun _ => rfl
  refine ⟨trivial, fun _ _ => rfl, fun a => ⟨⟨h0, h1⟩, by omega, fun _ => ⟨by simp at a; omega, fun b => ⟨fun _ => ⟨?_, fun _ => last, fun c => ?_⟩, fun c => ?_⟩, fun b => ⟨fun _ => last, fun c => ?_⟩⟩, fun b => ?_⟩⟩
  · have h4 := (getB_iff.1 b).2.2.2.1
    exact ⟨num_nn _, num_lt 8 _ h4⟩
  · rw [getB_only b] at c; simp at c
  · rw [hnum] at c; simp at c
  · rw [hnum] at c; simp at c
  · rw [k1] at b; cases b
end Go.Proofs.YtndbjcbfnmjheaaDoor
/-
  RlpNums: a number is read again, and nothing else is; a greater one has no fewer bytes: for every input the law returns true.
-/
namespace Go.Proofs.YtndbjcbfnmjheaaDoor
open Go Sx Go.RowKit Go.WideShapes Go.ChangeShapes

set_option maxRecDepth 100000
theorem rlpNums_lifted (os : Os) (started : os.Started) (H : Type) (enc : TypeId × Value → H) :
    ReturnsInHanded {} Tryd.checked os 3 .any (fun w args => (Rows.rlpNumsSpec.pre enc Tryd.prog Tryd.f3 [] false w args ∧ laidMetH Tryd.prog laidL w) ∧ sizedMet enc Tryd.prog Tryd.f3 (OpenSpec.ofChange Rows.rlpNumsSpec) false w args)
      (Rows.rlpNumsSpec.post enc Tryd.prog Tryd.f3 false true false false) := by
  refine law_laid (C := Tryd.checked) (boolT := 4) (X := fun w => laidMetH Tryd.prog laidL w) (fun _ _ hh h => h.of_heap hh) Tryd.own started (by kernel_rfl) Tryd.func3
    (ChangeSpec.witness_at (enc := enc) (C := Tryd.checked) (os := os) (X := fun w _ => laidMetH Tryd.prog laidL w) false (laidWorld os) #[.int .u64 0, .int .u64 0, .string ⟨#[]⟩] 8 rfl (by kernel_rfl) (by kernel_rfl) (by kernel_rfl) (by kernel_rfl) (by kernel_rfl) (laidWorld_met os _))
    Tryd.laidOut rfl Tryd.underlying4 (by kernel_rfl) (of_decide_eq_true (by kernel_rfl)) rfl (fun ds h => by match ds, h with | [a, b, c], _ => rfl) ?_
  intro W args ds ps hval hA hL
  have hA' : DataW.TrodAll enc Tryd.prog W 0 (fun _ => true) true [22, 22, 9] args.toList ds ps := hA
  obtain ⟨v0, v1, v2, d0, d1, d2, p0, p1, p2, rfl, rfl, rfl, h0, h1, h2⟩ := trodAll_three hA'
  obtain ⟨b0, w0⟩ := hval 0 22 v0 rfl rfl
  obtain ⟨b1, w1⟩ := hval 1 22 v1 rfl rfl
  obtain ⟨b2, w2⟩ := hval 2 9 v2 rfl rfl
  obtain ⟨n, rfl, rfl, rfl, hn⟩ := open_int Tryd.underlying22 w0 h0
  obtain ⟨m, rfl, rfl, rfl, hm⟩ := open_int Tryd.underlying22 w1 h1
  obtain ⟨s, rfl, rfl, rfl, hs⟩ := Go.ChangeMaps.open_string Tryd.underlying9 w2 h2
  have hn' : 0 ≤ n ∧ n < 18446744073709551616 := by
    simp only [Lit.wf, Bool.and_eq_true, decide_eq_true_eq] at hn
    exact ⟨hn.1, Int.lt_of_le_of_lt hn.2 (by decide)⟩
  have hm' : 0 ≤ m ∧ m < 18446744073709551616 := by
    simp only [Lit.wf, Bool.and_eq_true, decide_eq_true_eq] at hm
    exact ⟨hm.1, Int.lt_of_le_of_lt hm.2 (by decide)⟩
  exact run_calls good9 Tryd.func3 (by kernel_rfl) (by kernel_rfl) (nums_holds (s := s.data.toList) hn'.1 hn'.2 hm'.1 hm'.2) rfl (glob_of_laid hL) (fun _ => 0)
theorem rlpNums_holds : Rows.RlpNumsSaid :=
  OpenClaim.holds_of_wide 3 Tryd.f3 rfl rfl rfl rfl rfl rfl rfl ⟨rfl, rfl, rfl, rfl, rfl⟩ rfl rfl rfl rfl rfl (by kernel_rfl) Tryd.func3 (by kernel_rfl)
    (of_decide_eq_true (by kernel_rfl)) (by unfold Func.isWrapper; first | (rw [if_pos (by decide +kernel)]; kernel_rfl) | (rw [if_neg (by decide +kernel)]; exact ⟨rfl, rfl⟩))
    (fun os started H enc _ => rlpNums_lifted os started H enc)
/-- The row, tied to the program's text. -/
theorem rlpNums_card_holds : Rows.RlpNumsCardSaid :=
  Claim7.holds_tied_plain_at .later [] [.handle] true (true, "d3815d4fa52966a4e320e1365884279a6c02ea32bbbd7e8d22480c4a0d87648c") true
    rlpNums_holds (fun _ h => by cases h) (by kernel_rfl) (fun _ h => by cases h) rlpNums_row_tie rfl ⟨rfl, rfl⟩ (by kernel_rfl) rfl
    (fun f fn hf hfn => by
      obtain rfl : f = 3 := Option.some.inj ((show Tryd.prog.funcNamed "guilloche/guillochelaw02.RlpNums" = some 3 by kernel_rfl).symm.trans hf) |>.symm
      obtain rfl : fn = Tryd.f3 := (Option.some.inj (Tryd.func3.symm.trans hfn)).symm
      exact ⟨by kernel_rfl, fun j t ht => by
        rw [Tryd.params3] at ht
        have hm := Array.mem_of_getElem? ht
        simp only [List.mem_toArray, List.mem_cons, List.not_mem_nil, or_false] at hm
        rcases hm with rfl | rfl | rfl
        · exact (show Tryd.prog.wantsStandIn 22 = false by kernel_rfl)
        · exact (show Tryd.prog.wantsStandIn 22 = false by kernel_rfl)
        · exact (show Tryd.prog.wantsStandIn 9 = false by kernel_rfl)⟩)
    (by kernel_rfl)
#print axioms rlpNums_card_holds
end Go.Proofs.YtndbjcbfnmjheaaDoor
