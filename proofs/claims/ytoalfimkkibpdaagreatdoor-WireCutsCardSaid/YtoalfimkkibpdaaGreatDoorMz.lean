/-
  Conditions that the executor computes, written out by a program (vcgen.py).
-/
import Derived.Test.YtoalfimkkibpdaaGreatDoorMp
import Derived.Test.YtoalfimkkibpdaaGreatDoorMv
import Derived.Test.YtoalfimkkibpdaaGreatDoorMw
import Derived.Test.YtoalfimkkibpdaaGreatDoorTie
import Derived.Test.YtoalfimkkibpdaaGreatDoorCards
import Derived.SevenTiedAt
namespace Go.Proofs.YtoalfimkkibpdaaGreatDoor
open Go Sx
set_option maxRecDepth 20000
theorem vcWCuts (x : Pp) (a : Int) (more : List UInt8) (z : Bool) (o c : Nat) (key : Option Nat) : VC.holds (runS cfgW2 6 Tryz.f6 [x.sv (.vslc 0 1 z o 0 x.n c), .int .u16 false a, .str false more] [seenP z o c x key] (.ret (.bool false true))) = ((True ∧ (((True ∧ True ∧ True ∧ True ∧ (z = z ∧ o = o ∧ 0 + x.n ≤ x.n) ∧ True) ∧ True) ∧ True) ∧ (((True ∧ True ∧ True ∧ True ∧ (z = z ∧ o = o ∧ 0 + x.n ≤ x.n) ∧ True) ∧ True) ∧ True) ∧ (x.ok = true → (decide (65536 < (x.put.length : Int)) = true → ((!x.few) = true → sameVal (SV.bool true true) (SV.bool false true)) ∧ ((!x.few) = false → sameVal (SV.bool true true) (SV.bool false true))) ∧ (decide (65536 < (x.put.length : Int)) = false → ((!x.few) = true → sameVal (SV.bool true true) (SV.bool false true)) ∧ ((!x.few) = false → (decide (5000 < (more.length : Int)) = true → sameVal (SV.bool true true) (SV.bool false true)) ∧ (decide (5000 < (more.length : Int)) = false → ((-9223372036854775808 : Int) ≤ a ∧ a ≤ 9223372036854775807) ∧ (0 ≤ a ∧ a ≤ 9223372036854775807 ∧ 0 < (x.put.length : Int)) ∧ ((0 : Int) ≤ (0 : Int) ∧ 0 ≤ a % (x.put.length : Int) ∧ a % (x.put.length : Int) ≤ (x.put.length : Int)) ∧ True ∧ (getPB (subStr x.put none (some (Operand.tmp 43)) 0 (a % (x.put.length : Int))) = true → ∀ (u2 : Nat), itemsN (cutIn (itOf (subStr x.put none (some (Operand.tmp 43)) 0 (a % (x.put.length : Int))) 4)) ≤ u2 → (x.put.length : Int) + (more.length : Int) ≤ 9223372036854775807 ∧ True ∧
 (getPB (cat x.put more) = true → ∀ (u1 : Nat), itemsN (cutIn (itOf (cat x.put more) 4)) ≤ u1 → (decide ((x.put.length : Int) ≤ 65536) = true → sameVal (SV.bool true false) (SV.bool false true)) ∧ (decide ((x.put.length : Int) ≤ 65536) = false → sameVal (SV.bool true false) (SV.bool false true))) ∧ (getPB (cat x.put more) = false → (decide ((x.put.length : Int) ≤ 65536) = true → sameVal (SV.bool true false) (SV.bool false true)) ∧ (decide ((x.put.length : Int) ≤ 65536) = false → sameVal (SV.bool true false) (SV.bool false true)))) ∧ (getPB (subStr x.put none (some (Operand.tmp 43)) 0 (a % (x.put.length : Int))) = false → (x.put.length : Int) + (more.length : Int) ≤ 9223372036854775807 ∧ True ∧ (getPB (cat x.put more) = true → ∀ (u0 : Nat), itemsN (cutIn (itOf (cat x.put more) 4)) ≤ u0 → (decide ((x.put.length : Int) ≤ 65536) = true → (decide (more = []) = true → sameVal (SV.bool true true) (SV.bool false true)) ∧ (decide (more = []) = false → sameVal (SV.bool (true && true) (decide ((0 : Int) = (2 : Int)))) (SV.bool false true))) ∧ (decide ((x.put.length : Int) ≤ 65536) = false → sameVal (SV.bool true false) (SV.bool false true))) ∧ (getPB (cat x.put more) = false →
 (decide ((x.put.length : Int) ≤ 65536) = true → (decide (more = []) = true → sameVal (SV.bool true true) (SV.bool false true)) ∧ (decide (more = []) = false → sameVal (SV.bool (true && true) (decide ((2 : Int) = (2 : Int)))) (SV.bool false true))) ∧ (decide ((x.put.length : Int) ≤ 65536) = false → sameVal (SV.bool true false) (SV.bool false true)))))))) ∧ (x.ok = false → ((!x.few) = true → sameVal (SV.bool true true) (SV.bool false true)) ∧ ((!x.few) = false → sameVal (SV.bool true true) (SV.bool false true))))) := by kernel_rfl
end Go.Proofs.YtoalfimkkibpdaaGreatDoor
/-
  Wire: WireCuts: the run and the plain law.
-/
namespace Go.Proofs.YtoalfimkkibpdaaGreatDoor
open Go Sx
set_option maxRecDepth 20000
theorem PaperRead.cut {s : List UInt8} (h : PaperRead s) : cutB s = true ∧ cutRest s = [] := by
  have := h.whole
  unfold pitemsB insideB at this
  simp only [Bool.and_eq_true, decide_eq_true_eq] at this
  exact ⟨this.1.1.1, this.1.1.2⟩
theorem getPB_less {s : List UInt8} (h : PaperRead s) {k : Nat} (hk : k < s.length) : getPB (s.take k) = false := Bool.eq_false_iff.2 fun hB => by
  obtain ⟨c1, c2⟩ := (getPB_read hB).1.cut
  have := (cut_app c1 (s.drop k)).2.2.2
  rw [List.take_append_drop, h.cut.2, c2, List.nil_append] at this
  have := congrArg List.length this
  rw [List.length_drop, List.length_nil] at this
  omega
theorem getPB_more {s : List UInt8} (h : PaperRead s) {t : List UInt8} (ht : t ≠ []) : getPB (s ++ t) = false := Bool.eq_false_iff.2 fun hB => by
  obtain ⟨_, c2⟩ := (getPB_read hB).1.cut
  have := (cut_app h.cut.1 t).2.2.2
  rw [c2, h.cut.2, List.nil_append] at this
  exact ht this.symm
theorem PaperRead.pos {s : List UInt8} (h : PaperRead s) : 0 < s.length := by
  have := h.cut.1
  rw [cutB_iff] at this
  exact List.length_pos_iff.2 this.1
theorem wsame {l b : Bool} (h : b = true) : sameVal (.bool l b) (.bool false true) := fun E => by subst h; rfl
attribute [local irreducible] itemAt itemsN itemsB cutIn cutB cutRest cutL numI getPB itOf Pp.put Pp.ok
theorem wcuts_holds (x : Pp) {a : Int} (h0 : 0 ≤ a) (h1 : a < 65536) (more : List UInt8) (z : Bool) (o c : Nat) (key : Option Nat) :
    Holds (runS cfgW2 6 Tryz.f6 [x.sv (.vslc 0 1 z o 0 x.n c), .int .u16 false a, .str false more] [seenP z o c x key] (.ret (.bool false true))) := by
  refine Holds.of_eq (vcWCuts x a more z o c key) ?_
  have V : (((True ∧ True ∧ True ∧ True ∧ (z = z ∧ o = o ∧ (0 : Nat) + x.n ≤ x.n) ∧ True) ∧ True) ∧ True) := ⟨⟨⟨trivial, trivial, trivial, trivial, ⟨rfl, rfl, by omega⟩, trivial⟩, trivial⟩, trivial⟩
  refine ⟨trivial, V, V, fun hok => ⟨fun _ => ⟨fun _ => wsame rfl, fun _ => wsame rfl⟩, fun hl => ⟨fun _ => wsame rfl, fun _ => ⟨fun _ => wsame rfl, fun hm => ?_⟩⟩⟩, fun _ => ⟨fun _ => wsame rfl, fun _ => wsame rfl⟩⟩
  have hfit : x.fits = true := by unfold Pp.fits; rw [hok, hl]; rfl
  have R := paper_read hfit
  have hp := R.pos
  have hlen := R.len
  simp only [decide_eq_false_iff_not] at hm
  generalize hL : x.put.length = L at *
  have e1 : 0 ≤ a % (L : Int) := Int.emod_nonneg _ (by omega)
  have e2 : a % (L : Int) < (L : Int) := Int.emod_lt_of_pos _ (by omega)
  generalize hk : a % (L : Int) = k at *
  have es : subStr x.put none (some (Operand.tmp 43)) 0 k = x.put.take k.toNat := rfl
  have ec : cat x.put more = x.put ++ more := rfl
  have g1 : getPB (x.put.take k.toNat) = false := getPB_less R (by omega)
  rw [es, ec, g1]
  have hd : decide ((L : Int) ≤ (65536 : Int)) = true := decide_eq_true (by omega)
  rw [hd]
  refine ⟨by omega, by omega, by omega, trivial, (fun h => by cases h), fun _ => ⟨by omega, trivial, fun hB _ _ => ⟨fun _ => ⟨fun _ => wsame rfl, fun hne => ?_⟩, fun h => by cases h⟩, fun _ => ⟨fun _ => ⟨fun _ => wsame rfl, fun _ => wsame rfl⟩, fun h => by cases h⟩⟩⟩
  simp only [decide_eq_false_iff_not] at hne
  rw [getPB_more R hne] at hB
  cases hB
end Go.Proofs.YtoalfimkkibpdaaGreatDoor
/-
  WireCuts: a paper that ends too early, or has something behind it, is none: for every input the law returns true.
-/
namespace Go.Proofs.YtoalfimkkibpdaaGreatDoor
open Go Sx Go.RowKit Go.WideShapes Go.ChangeShapes
set_option maxRecDepth 100000
theorem wireCuts_lifted (os : Os) (started : os.Started) (H : Type) (enc : TypeId × Value → H) :
    ReturnsInHanded {} Tryz.checked os 6 .any (fun w args => (Rows.wireCutsSpec.pre enc Tryz.prog Tryz.f6 [] false w args ∧ laidMetH Tryz.prog laidL w) ∧ sizedMet enc Tryz.prog Tryz.f6 (OpenSpec.ofChange Rows.wireCutsSpec) false w args)
      (Rows.wireCutsSpec.post enc Tryz.prog Tryz.f6 false true false false) := by
  refine law_laid (C := Tryz.checked) (boolT := 4) (X := fun w => laidMetH Tryz.prog laidL w) (fun _ _ hh h => h.of_heap hh) Tryz.own started (by kernel_rfl) Tryz.func6
    (ChangeSpec.witness_at (enc := enc) (C := Tryz.checked) (os := os) (X := fun w _ => laidMetH Tryz.prog laidL w) false (laidWorld os) #[.agg #[.int .i64 0, .string ⟨#[]⟩, .string ⟨#[]⟩, .string ⟨#[]⟩, .slice none 0 0], .int .u16 0, .string ⟨#[]⟩] 8 rfl (by kernel_rfl) (by kernel_rfl) (by kernel_rfl) (by kernel_rfl) (by kernel_rfl) (laidWorld_met os _))
    Tryz.laidOut rfl Tryz.underlying4 (by kernel_rfl) (of_decide_eq_true (by kernel_rfl)) rfl (fun ds h => by match ds, h with | [a0, a1, a2], _ => rfl) ?_
  intro W args ds ps hval hA hL
  have hA' : DataW.TrodAll enc Tryz.prog W 0 (fun _ => true) true [24, 47, 9] args.toList ds ps := hA
  obtain ⟨v0, v1, v2, d0, d1, d2, p0, p1, p2, rfl, rfl, rfl, h0, h1, h2⟩ := trodAll_three hA'
  obtain ⟨b0, w0⟩ := hval 0 24 v0 rfl rfl
  obtain ⟨b1, w1⟩ := hval 1 47 v1 rfl rfl
  obtain ⟨b2, w2⟩ := hval 2 9 v2 rfl rfl
  obtain ⟨x, z, b, o, c, hv, hst, _⟩ := open_paper w0 h0
  obtain ⟨a, rfl, ha⟩ := cell_int Tryz.underlying47 (cell_of_value Tryz.underlying47 w1)
  obtain ⟨s, rfl, rfl, rfl, hs⟩ := Go.ChangeMaps.open_string Tryz.underlying9 w2 h2
  rw [hv 0 (fun _ => b) rfl]
  exact run_view (goodW2 wworks_ok) Tryz.func6 (by kernel_rfl) (by kernel_rfl) (wcuts_holds x (has_u16 ha).1 (has_u16 ha).2 s.data.toList z o c none) rfl (glob_of_laid hL) hst
theorem wireCuts_holds : Rows.WireCutsSaid :=
  OpenClaim.holds_of_wide 6 Tryz.f6 rfl rfl rfl rfl rfl rfl rfl ⟨rfl, rfl, rfl, rfl, rfl⟩ rfl rfl rfl rfl rfl (by kernel_rfl) Tryz.func6 (by kernel_rfl)
    (of_decide_eq_true (by kernel_rfl)) (by unfold Func.isWrapper; first | (rw [if_pos (by decide +kernel)]; kernel_rfl) | (rw [if_neg (by decide +kernel)]; exact ⟨rfl, rfl⟩))
    (fun os started H enc _ => wireCuts_lifted os started H enc)
theorem wireCuts_card_holds : Rows.WireCutsCardSaid :=
  Claim7.holds_tied_plain_at .later [] [.handle, .data] true (true, "d237c4de2e89c912b6d9c280088b3979728eac252c97fa5324b6ee83b691515d") true
    wireCuts_holds (fun _ h => by cases h) (by kernel_rfl) (fun _ h => by cases h) wireCuts_row_tie rfl ⟨rfl, rfl⟩ (by kernel_rfl) rfl
    (fun f fn hf hfn => by
      obtain rfl : f = 6 := Option.some.inj ((show Tryz.prog.funcNamed "guilloche/guillochelaw13.WireCuts" = some 6 by kernel_rfl).symm.trans hf) |>.symm
      obtain rfl : fn = Tryz.f6 := (Option.some.inj (Tryz.func6.symm.trans hfn)).symm
      exact ⟨by kernel_rfl, fun j t ht => by
        rw [Tryz.params6] at ht
        have hm := Array.mem_of_getElem? ht
        simp only [List.mem_toArray, List.mem_cons, List.not_mem_nil, or_false] at hm
        rcases hm with rfl | rfl | rfl
        · exact (show Tryz.prog.wantsStandIn 24 = false by kernel_rfl)
        · exact (show Tryz.prog.wantsStandIn 47 = false by kernel_rfl)
        · exact (show Tryz.prog.wantsStandIn 9 = false by kernel_rfl)⟩)
    (by kernel_rfl)
#print axioms wireCuts_card_holds
end Go.Proofs.YtoalfimkkibpdaaGreatDoor
