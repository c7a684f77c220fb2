/-
  Node: the statements: which nodes are looked at, the examples: the set-up.
-/
import Derived.Test.YtkfdcapnogklfaaGreatDoorPe
import Derived.Test.YtkfdcapnogklfaaGreatDoorMg
namespace Go.Proofs.YtkfdcapnogklfaaGreatDoor
open Go Sx
set_option maxRecDepth 20000
def refFew (r : Nat → List UInt8) : Nat → Bool
  | 0 => true
  | i + 1 => refFew r i && !decide ((50 : Int) < ((r i).length : Int))
def fewB (x : Nd) : Bool := refFew x.r 16 && (decide ((x.p.length : Int) ≤ 50) && decide ((x.v.length : Int) ≤ 200))
def shortArg (args : List SV) (_ : Mem) : Bool := match args with
  | [.str true s] => decide (s.length < 32)
  | _ => false
noncomputable def listL0 : List (FuncId × PT) := (22, strsPT ofQ ofG) :: (20, litIf shortArg (purePT refSpec)) :: (16, ansLPT hashSpec) :: (18, ansLPT (inlSpec 9223372036854775808)) :: (14, ansLPT (getSpec' 9223372036854775808)) ::
  (7, ansLPT (ndSpecA fun x => some (Fits x, putA x))) :: (10, pureLPT (ndSpec fun x => some (RelR 9223372036854775808 x.r, .bool false (validB x)))) :: (12, ansLPT (ndSpecA fun x => some (Fits x, hashesA x))) :: listN5
theorem listL0_ok : SummOk Tryz.prog (fun f => lookPT f listL0) := .cons of_ok (strsPT_mono _ _) (.cons (litIf_ok nodeRef_ok) (litIf_mono (purePT_mono _)) (.cons (ansL_ok hash_ok) (ansLPT_mono _) (.cons (ansL_ok (inline_all _)) (ansLPT_mono _) (.cons (ansL_ok (nodeGet_ok (inline_all _))) (ansLPT_mono _)
  (.cons (ansL_ok nodePut_ok) (ansLPT_mono _) (.cons (pureL_ok (ndvalid_ok (inline_all _))) (pureLPT_mono _) (.cons (ansL_ok hashes_ok) (ansLPT_mono _) listN5_ok)))))))
noncomputable def cfgL0 : Cfg := { cfg0 with summ := fun f => lookPT f listL0 }
theorem goodL0 : Sx.Good Tryz.prog cfgL0 := ⟨mixes, listL0_ok, fns_ok⟩
def exL : Nd := ⟨1, [UInt8.ofNat 1], [118], noRefs⟩
def exB : Nd := ⟨3, [], [119], refs16 [] [] [] (refL (putT exL)) [] [] [] [] [] [] [] [] [] [] [] []⟩
def exT : List UInt8 := putT exB ++ putT exB ++ putT exB
def yes : Ans := .ret (.bool false true)
end Go.Proofs.YtkfdcapnogklfaaGreatDoor
/-
  Conditions that the executor computes, written out by a program (vcgen.py).
-/
namespace Go.Proofs.YtkfdcapnogklfaaGreatDoor
open Go Sx
set_option maxRecDepth 20000
theorem vcLFew (x : Nd) (R : SV → Prop) : VC.holds (runP cfgL0 6 Tryz.f6 [x.sv] R) = (((decide (50 < (↑(x.r 0).length : Int)) = true → R (SV.bool true false)) ∧ (decide (50 < (↑(x.r 0).length : Int)) = false → (decide (50 < (↑(x.r 1).length : Int)) = true → R (SV.bool true false)) ∧ (decide (50 < (↑(x.r 1).length : Int)) = false → (decide (50 < (↑(x.r 2).length : Int)) = true → R (SV.bool true false)) ∧ (decide (50 < (↑(x.r 2).length : Int)) = false → (decide (50 < (↑(x.r 3).length : Int)) = true → R (SV.bool true false)) ∧ (decide (50 < (↑(x.r 3).length : Int)) = false → (decide (50 < (↑(x.r 4).length : Int)) = true → R (SV.bool true false)) ∧ (decide (50 < (↑(x.r 4).length : Int)) = false → (decide (50 < (↑(x.r 5).length : Int)) = true → R (SV.bool true false)) ∧ (decide (50 < (↑(x.r 5).length : Int)) = false → (decide (50 < (↑(x.r 6).length : Int)) = true → R (SV.bool true false)) ∧ (decide (50 < (↑(x.r 6).length : Int)) = false → (decide (50 < (↑(x.r 7).length : Int)) = true → R (SV.bool true false)) ∧ (decide (50 < (↑(x.r 7).length : Int)) = false → (decide (50 < (↑(x.r 8).length : Int)) = true → R (SV.bool true false)) ∧ (decide (50 < (↑(x.r 8).length : Int)) = false → (decide (50 < (↑(x.r 9).length : Int)) = true → R (SV.bool true false)) ∧
 (decide (50 < (↑(x.r 9).length : Int)) = false → (decide (50 < (↑(x.r 10).length : Int)) = true → R (SV.bool true false)) ∧ (decide (50 < (↑(x.r 10).length : Int)) = false → (decide (50 < (↑(x.r 11).length : Int)) = true → R (SV.bool true false)) ∧ (decide (50 < (↑(x.r 11).length : Int)) = false → (decide (50 < (↑(x.r 12).length : Int)) = true → R (SV.bool true false)) ∧ (decide (50 < (↑(x.r 12).length : Int)) = false → (decide (50 < (↑(x.r 13).length : Int)) = true → R (SV.bool true false)) ∧ (decide (50 < (↑(x.r 13).length : Int)) = false → (decide (50 < (↑(x.r 14).length : Int)) = true → R (SV.bool true false)) ∧ (decide (50 < (↑(x.r 14).length : Int)) = false → (decide (50 < (↑(x.r 15).length : Int)) = true → R (SV.bool true false)) ∧ (decide (50 < (↑(x.r 15).length : Int)) = false → (decide ((x.p.length : Int) ≤ 50) = true → R (SV.bool (false && true) (decide ((x.v.length : Int) ≤ 200)))) ∧ (decide ((x.p.length : Int) ≤ 50) = false → R (SV.bool true false)))))))))))))))))))) := by kernel_rfl
theorem vcLWorks  : VC.holds (runA cfgL0 5 Tryz.f5 [] (.ret (.bool false true))) = ((Fits { k := (1 : Int), p := [UInt8.ofNat 1], v := [(118 : UInt8)], r := fun (u51 : Nat) => [[], [], [], [], [], [], [], [], [], [], [], [], [], [], [], []].getD u51 [] : Nd } ∧ ((3 : Nat) ≤ (9223372036854775808 : Nat) ∧ (3 : Nat) < (1099511627776 : Nat)) ∧ (3 : Nat) < (1152921504606846976 : Nat) ∧ Fits { k := (3 : Int), p := [], v := [(119 : UInt8)], r := fun (u50 : Nat) => [[], [], [], refL (putT { k := (1 : Int), p := [UInt8.ofNat 1], v := [(118 : UInt8)], r := fun (u49 : Nat) => [[], [], [], [], [], [], [], [], [], [], [], [], [], [], [], []].getD u49 [] : Nd }), [], [], [], [], [], [], [], [], [], [], [], []].getD u50 [] : Nd } ∧ Rel 9223372036854775808 (refL (putT { k := (1 : Int), p := [UInt8.ofNat 1], v := [(118 : UInt8)], r := fun (u48 : Nat) => [[], [], [], [], [], [], [], [], [], [], [], [], [], [], [], []].getD u48 [] : Nd })) ∧ (60 : Nat) < (1152921504606846976 : Nat) ∧ (33 : Nat) < (9223372036854775808 : Nat) ∧
 (hashB (refL (putT { k := (3 : Int), p := [], v := [(119 : UInt8)], r := fun (u47 : Nat) => [[], [], [], refL (putT { k := (1 : Int), p := [UInt8.ofNat 1], v := [(118 : UInt8)], r := fun (u46 : Nat) => [[], [], [], [], [], [], [], [], [], [], [], [], [], [], [], []].getD u46 [] : Nd }), [], [], [], [], [], [], [], [], [], [], [], []].getD u47 [] : Nd } ++ putT { k := (3 : Int), p := [], v := [(119 : UInt8)], r := fun (u45 : Nat) => [[], [], [], refL (putT { k := (1 : Int), p := [UInt8.ofNat 1], v := [(118 : UInt8)], r := fun (u44 : Nat) => [[], [], [], [], [], [], [], [], [], [], [], [], [], [], [], []].getD u44 [] : Nd }), [], [], [], [], [], [], [], [], [], [], [], []].getD u45 [] : Nd } ++ putT { k := (3 : Int), p := [], v := [(119 : UInt8)], r := fun (u43 : Nat) => [[], [], [], refL (putT { k := (1 : Int), p := [UInt8.ofNat 1], v := [(118 : UInt8)], r := fun (u42 : Nat) => [[], [], [], [], [], [], [], [], [], [], [], [], [], [], [], []].getD u42 [] : Nd }), [], [], [], [], [], [], [], [], [], [], [], []].getD u43 [] : Nd })) = true → ((0 : Nat) ≤ (9223372036854775808 : Nat) ∧ (0 : Nat) < (1099511627776 : Nat)) ∧ (True ∧
 ofQ [putT { k := (3 : Int), p := [], v := [(119 : UInt8)], r := fun (u41 : Nat) => [[], [], [], refL (putT { k := (1 : Int), p := [UInt8.ofNat 1], v := [(118 : UInt8)], r := fun (u40 : Nat) => [[], [], [], [], [], [], [], [], [], [], [], [], [], [], [], []].getD u40 [] : Nd }), [], [], [], [], [], [], [], [], [], [], [], []].getD u41 [] : Nd } ++ putT { k := (3 : Int), p := [], v := [(119 : UInt8)], r := fun (u39 : Nat) => [[], [], [], refL (putT { k := (1 : Int), p := [UInt8.ofNat 1], v := [(118 : UInt8)], r := fun (u38 : Nat) => [[], [], [], [], [], [], [], [], [], [], [], [], [], [], [], []].getD u38 [] : Nd }), [], [], [], [], [], [], [], [], [], [], [], []].getD u39 [] : Nd } ++ putT { k := (3 : Int), p := [], v := [(119 : UInt8)], r := fun (u37 : Nat) => [[], [], [], refL (putT { k := (1 : Int), p := [UInt8.ofNat 1], v := [(118 : UInt8)], r := fun (u36 : Nat) => [[], [], [], [], [], [], [], [], [], [], [], [], [], [], [], []].getD u36 [] : Nd }), [], [], [], [], [], [], [], [], [], [], [], []].getD u37 [] : Nd }]) ∧
 (decide (cutIn (refL (putT { k := (3 : Int), p := [], v := [(119 : UInt8)], r := fun (u35 : Nat) => [[], [], [], refL (putT { k := (1 : Int), p := [UInt8.ofNat 1], v := [(118 : UInt8)], r := fun (u34 : Nat) => [[], [], [], [], [], [], [], [], [], [], [], [], [], [], [], []].getD u34 [] : Nd }), [], [], [], [], [], [], [], [], [], [], [], []].getD u35 [] : Nd } ++ putT { k := (3 : Int), p := [], v := [(119 : UInt8)], r := fun (u33 : Nat) => [[], [], [], refL (putT { k := (1 : Int), p := [UInt8.ofNat 1], v := [(118 : UInt8)], r := fun (u32 : Nat) => [[], [], [], [], [], [], [], [], [], [], [], [], [], [], [], []].getD u32 [] : Nd }), [], [], [], [], [], [], [], [], [], [], [], []].getD u33 [] : Nd } ++ putT { k := (3 : Int), p := [], v := [(119 : UInt8)], r := fun (u31 : Nat) => [[], [], [], refL (putT { k := (1 : Int), p := [UInt8.ofNat 1], v := [(118 : UInt8)], r := fun (u30 : Nat) => [[], [], [], [], [], [], [], [], [], [], [], [], [], [], [], []].getD u30 [] : Nd }), [], [], [], [], [], [], [], [], [], [], [], []].getD u31 [] : Nd })) = shaL (flat [putT { k := (3 : Int), p := [], v := [(119 : UInt8)], r := fun (u29 : Nat) => [[], [], [], refL (putT { k := (1 : Int), p := [UInt8.ofNat 1], v := [(118 : UInt8)], r := fun (u28 : Nat) => [[], [], [], [], [], [], [], [], [], [], [], [], [], [], [], []].getD u28 [] : Nd }), [], [], [], [], [], [], [], [], [], [], [], []].getD u29 [] : Nd } ++ putT { k := (3 : Int), p := [], v := [(119 : UInt8)], r := fun (u27 : Nat) => [[], [], [], refL (putT { k := (1 : Int), p := [UInt8.ofNat 1], v := [(118 : UInt8)], r := fun (u26 : Nat) => [[], [], [], [], [], [], [], [], [], [], [], [], [], [], [], []].getD u26 [] : Nd }), [], [], [], [], [], [], [], [], [], [], [], []].getD u27 [] : Nd } ++ putT { k := (3 : Int), p := [], v := [(119 : UInt8)], r := fun (u25 : Nat) => [[], [], [], refL (putT { k := (1 : Int), p := [UInt8.ofNat 1], v := [(118 : UInt8)], r := fun (u24 : Nat) => [[], [], [], [], [], [], [], [], [], [], [], [], [], [], [], []].getD u24 [] : Nd }), [], [], [], [], [], [], [], [], [], [], [], []].getD u25 [] : Nd }])) = true →
 (RelR 9223372036854775808 fun (u23 : Nat) => [[], [], [], refL (putT { k := (1 : Int), p := [UInt8.ofNat 1], v := [(118 : UInt8)], r := fun (u22 : Nat) => [[], [], [], [], [], [], [], [], [], [], [], [], [], [], [], []].getD u22 [] : Nd }), [], [], [], [], [], [], [], [], [], [], [], []].getD u23 []) ∧ (RelR 9223372036854775808 fun (u21 : Nat) => [[], [], [], [], [], [], [], [], [], [], [], [], [], [], [], []].getD u21 []) ∧ Fits { k := (3 : Int), p := [], v := [(119 : UInt8)], r := fun (u20 : Nat) => [[], [], [], refL (putT { k := (1 : Int), p := [UInt8.ofNat 1], v := [(118 : UInt8)], r := fun (u19 : Nat) => [[], [], [], [], [], [], [], [], [], [], [], [], [], [], [], []].getD u19 [] : Nd }), [], [], [], [], [], [], [], [], [], [], [], []].getD u20 [] : Nd } ∧ ∀ (u18 : Nat), 0 ≤ u18 → sameVal (SV.bool (true && true) (decide ((0 : Int) = (0 : Int)))) (SV.bool false true)) ∧
 (decide (cutIn (refL (putT { k := (3 : Int), p := [], v := [(119 : UInt8)], r := fun (u17 : Nat) => [[], [], [], refL (putT { k := (1 : Int), p := [UInt8.ofNat 1], v := [(118 : UInt8)], r := fun (u16 : Nat) => [[], [], [], [], [], [], [], [], [], [], [], [], [], [], [], []].getD u16 [] : Nd }), [], [], [], [], [], [], [], [], [], [], [], []].getD u17 [] : Nd } ++ putT { k := (3 : Int), p := [], v := [(119 : UInt8)], r := fun (u15 : Nat) => [[], [], [], refL (putT { k := (1 : Int), p := [UInt8.ofNat 1], v := [(118 : UInt8)], r := fun (u14 : Nat) => [[], [], [], [], [], [], [], [], [], [], [], [], [], [], [], []].getD u14 [] : Nd }), [], [], [], [], [], [], [], [], [], [], [], []].getD u15 [] : Nd } ++ putT { k := (3 : Int), p := [], v := [(119 : UInt8)], r := fun (u13 : Nat) => [[], [], [], refL (putT { k := (1 : Int), p := [UInt8.ofNat 1], v := [(118 : UInt8)], r := fun (u12 : Nat) => [[], [], [], [], [], [], [], [], [], [], [], [], [], [], [], []].getD u12 [] : Nd }), [], [], [], [], [], [], [], [], [], [], [], []].getD u13 [] : Nd })) = shaL (flat [putT { k := (3 : Int), p := [], v := [(119 : UInt8)], r := fun (u11 : Nat) => [[], [], [], refL (putT { k := (1 : Int), p := [UInt8.ofNat 1], v := [(118 : UInt8)], r := fun (u10 : Nat) => [[], [], [], [], [], [], [], [], [], [], [], [], [], [], [], []].getD u10 [] : Nd }), [], [], [], [], [], [], [], [], [], [], [], []].getD u11 [] : Nd } ++ putT { k := (3 : Int), p := [], v := [(119 : UInt8)], r := fun (u9 : Nat) => [[], [], [], refL (putT { k := (1 : Int), p := [UInt8.ofNat 1], v := [(118 : UInt8)], r := fun (u8 : Nat) => [[], [], [], [], [], [], [], [], [], [], [], [], [], [], [], []].getD u8 [] : Nd }), [], [], [], [], [], [], [], [], [], [], [], []].getD u9 [] : Nd } ++ putT { k := (3 : Int), p := [], v := [(119 : UInt8)], r := fun (u7 : Nat) => [[], [], [], refL (putT { k := (1 : Int), p := [UInt8.ofNat 1], v := [(118 : UInt8)], r := fun (u6 : Nat) => [[], [], [], [], [], [], [], [], [], [], [], [], [], [], [], []].getD u6 [] : Nd }), [], [], [], [], [], [], [], [], [], [], [], []].getD u7 [] : Nd }])) = false →
 sameVal (SV.bool true false) (SV.bool false true))) ∧ (hashB (refL (putT { k := (3 : Int), p := [], v := [(119 : UInt8)], r := fun (u5 : Nat) => [[], [], [], refL (putT { k := (1 : Int), p := [UInt8.ofNat 1], v := [(118 : UInt8)], r := fun (u4 : Nat) => [[], [], [], [], [], [], [], [], [], [], [], [], [], [], [], []].getD u4 [] : Nd }), [], [], [], [], [], [], [], [], [], [], [], []].getD u5 [] : Nd } ++ putT { k := (3 : Int), p := [], v := [(119 : UInt8)], r := fun (u3 : Nat) => [[], [], [], refL (putT { k := (1 : Int), p := [UInt8.ofNat 1], v := [(118 : UInt8)], r := fun (u2 : Nat) => [[], [], [], [], [], [], [], [], [], [], [], [], [], [], [], []].getD u2 [] : Nd }), [], [], [], [], [], [], [], [], [], [], [], []].getD u3 [] : Nd } ++ putT { k := (3 : Int), p := [], v := [(119 : UInt8)], r := fun (u1 : Nat) => [[], [], [], refL (putT { k := (1 : Int), p := [UInt8.ofNat 1], v := [(118 : UInt8)], r := fun (u0 : Nat) => [[], [], [], [], [], [], [], [], [], [], [], [], [], [], [], []].getD u0 [] : Nd }), [], [], [], [], [], [], [], [], [], [], [], []].getD u1 [] : Nd })) = false → ((0 : Nat) ≤ (9223372036854775808 : Nat) ∧ (0 : Nat) < (1099511627776 : Nat)) ∧
 sameVal (SV.bool true false) (SV.bool false true)))) := by kernel_rfl
end Go.Proofs.YtkfdcapnogklfaaGreatDoor
/-
  Node: the statements: which nodes are looked at, the examples.
-/
namespace Go.Proofs.YtkfdcapnogklfaaGreatDoor
open Go Sx
set_option maxRecDepth 20000
theorem ref_long {s : List UInt8} (h : ¬ s.length < 32) : hashB (refL s) = true ∧ cutIn (refL s) = shaL s ∧ (refL s).length = 33 := by
  have e : refL s = textOf (shaL s) ++ [] := by rw [refL, if_neg h, List.append_nil]
  obtain ⟨h1, h2, h3, h4⟩ := text_cut (b := shaL s) (by rw [shaL_len]; decide) []
  rw [← e] at h1 h2 h3 h4
  have hb : hashB (refL s) = true := hash_iff.2 ⟨⟨h1, h2, h4⟩, by rw [h3]; exact shaL_len s⟩
  exact ⟨hb, h3, hash_len hb⟩
theorem fits_of {x : Nd} (h : ((List.range 16).all fun j => decide ((x.r j).length ≤ 100)) = true) : Fits x := fun j hj => by
  have := of_decide_eq_true (List.all_eq_true.1 h j (List.mem_range.2 hj))
  omega
theorem rel_fits {x : Nd} (h : Fits x) : RelR 9223372036854775808 x.r := fun j hj => ⟨.inl (h j hj), h j hj⟩
theorem exT_len : exT.length = 60 := by kernel_rfl
theorem exL_fits : Fits exL := fits_of (by kernel_rfl)
theorem exB_fits : Fits exB := fits_of (by kernel_rfl)
theorem exR_len : (refL (putT exL)).length = 3 := by kernel_rfl
theorem lworks_holds : Holds (runA cfgL0 5 Tryz.f5 [] (.ret (.bool false true))) := by
  refine Holds.of_eq vcLWorks ?_
  obtain ⟨g1, g2, g3⟩ := ref_long (s := exT) (by rw [exT_len]; decide)
  have q : True ∧ ofQ [exT] := ofQ1 (by rw [exT_len]; omega)
  have e1 : decide (cutIn (refL exT) = shaL (flat [exT])) = true := decide_eq_true (by rw [g2, flat1])
  have hr : Rel 9223372036854775808 (refL (putT exL)) := ⟨.inl (by rw [exR_len]; omega), by rw [exR_len]; omega⟩
  have hz : RelR 9223372036854775808 noRefs := fun j hj => by
    have e : noRefs j = [] := getD16 (fun _ => []) j hj
    rw [e]; exact ⟨.inl (by simp), by simp⟩
  exact ⟨exL_fits, ⟨by omega, by omega⟩, by omega, exB_fits, hr, by omega, by omega, fun _ => ⟨⟨by omega, by omega⟩, q, fun _ => ⟨rel_fits exB_fits, hz, exB_fits, fun c _ _ => rfl⟩, fun h => absurd (h.symm.trans e1) (by decide)⟩, fun h => absurd (h.symm.trans g1) (by decide)⟩
def lworksSpec : List SV → Option (Prop × SV)
  | [] => some (True, .bool true true)
  | _ => none
theorem lworks_ok : CallOk Tryz.prog 5 (purePT lworksSpec) := by
  have h : CallOk Tryz.prog 5 (ansPT fun args => match args with
      | [] => some (True, .ret (.bool false true))
      | _ => none) := by
    refine ans_ok (n := 20) (fn := Tryz.f5) Tryz.func5 (by kernel_rfl) (by kernel_rfl) ?_
    intro args p a h hp
    split at h
    · injection h with h; injection h with h1 h2; subst h1; subst h2
      exact ⟨_, goodL0, rfl, rfl, lworks_holds⟩
    · cases h
  intro args m nx K hk hwf hargs Γ E w hs
  unfold purePT lworksSpec at hk
  split at hk
  · rename_i p r hr
    split at hr
    · rename_i he
      have hn : args = [] := List.map_eq_nil_iff.1 he
      subst hn
      injection hr with hr; injection hr with h1 h2; subst h1; subst h2
      refine (h [] m nx (fun v m nx => K (lit v) m nx) ?_ hwf hargs Γ E w hs).mono fun e w' hh => After.relit hh
      exact ⟨trivial, hk.2⟩
    · cases hr
  · exact hk.elim
theorem lfew_ok : CallOk Tryz.prog 6 (purePT (ndSpec fun x => some (True, .bool false (fewB x)))) := by
  refine nd_ok Tryz.func6 (by kernel_rfl) (by kernel_rfl) fun x p v h hp => ?_
  injection h with h; injection h with h1 h2; subst h1; subst h2
  refine ⟨cfgL0, [x.sv], goodL0, fun E => rfl, rfl, rfl, Holds.of_eq (vcLFew x _) ?_⟩
  exact ⟨fun h0 => bool_eq (by unfold fewB; simp only [refFew, h0, Bool.not_true, Bool.and_false, Bool.false_and]), fun h0 => ⟨fun h1 => bool_eq (by unfold fewB; simp only [refFew, h1, Bool.not_true, Bool.and_false, Bool.false_and]), fun h1 => ⟨fun h2 => bool_eq (by unfold fewB; simp only [refFew, h2, Bool.not_true, Bool.and_false, Bool.false_and]), fun h2 => ⟨fun h3 => bool_eq (by unfold fewB; simp only [refFew, h3, Bool.not_true, Bool.and_false, Bool.false_and]), fun h3 => ⟨fun h4 => bool_eq (by unfold fewB; simp only [refFew, h4, Bool.not_true, Bool.and_false, Bool.false_and]), fun h4 => ⟨fun h5 => bool_eq (by unfold fewB; simp only [refFew, h5, Bool.not_true, Bool.and_false, Bool.false_and]), fun h5 => ⟨fun h6 => bool_eq (by unfold fewB; simp only [refFew, h6, Bool.not_true, Bool.and_false, Bool.false_and]), fun h6 => ⟨fun h7 => bool_eq (by unfold fewB; simp only [refFew, h7, Bool.not_true, Bool.and_false, Bool.false_and]), fun h7 => ⟨fun h8 => bool_eq (by unfold fewB; simp only [refFew, h8, Bool.not_true, Bool.and_false, Bool.false_and]), fun h8 => ⟨fun h9 => bool_eq (by unfold fewB; simp only [refFew, h9, Bool.not_true, Bool.and_false, Bool.false_and]), fun h9 => ⟨fun h10 => bool_eq (by unfold fewB; simp only [refFew, h10, Bool.not_true, Bool.and_false, Bool.false_and]), fun h10 => ⟨fun h11 => bool_eq (by unfold fewB; simp only [refFew, h11, Bool.not_true, Bool.and_false, Bool.false_and]), fun h11 => ⟨fun h12 => bool_eq (by unfold fewB; simp only [refFew, h12, Bool.not_true, Bool.and_false, Bool.false_and]), fun h12 => ⟨fun h13 => bool_eq (by unfold fewB; simp only [refFew, h13, Bool.not_true, Bool.and_false, Bool.false_and]), fun h13 => ⟨fun h14 => bool_eq (by unfold fewB; simp only [refFew, h14, Bool.not_true, Bool.and_false, Bool.false_and]), fun h14 => ⟨fun h15 => bool_eq (by unfold fewB; simp only [refFew, h15, Bool.not_true, Bool.and_false, Bool.false_and]), fun h15 => ⟨fun p => bool_eq (by unfold fewB; simp only [refFew, h0, h1, h2, h3, h4, h5, h6, h7, h8, h9, h10, h11, h12, h13, h14, h15, p, Bool.not_false, Bool.and_true, Bool.true_and]), fun p => bool_eq (by unfold fewB; simp only [p, Bool.false_and, Bool.and_false])⟩⟩⟩⟩⟩⟩⟩⟩⟩⟩⟩⟩⟩⟩⟩⟩⟩
theorem refFew_get {r : Nat → List UInt8} : ∀ {n j : Nat}, refFew r n = true → j < n → (r j).length ≤ 50
  | 0, _, _, h => absurd h (Nat.not_lt_zero _)
  | n + 1, j, h, hj => by
    simp only [refFew, Bool.and_eq_true, Bool.not_eq_true', decide_eq_false_iff_not] at h
    by_cases e : j = n
    · subst e; omega
    · exact refFew_get h.1 (by omega)
theorem few_fits {x : Nd} (h : fewB x = true) : Fits x := fun j hj => by
  simp only [fewB, Bool.and_eq_true] at h
  have := refFew_get h.1 hj
  omega
theorem few_ext {x y : Nd} (h : x.Same y) : fewB x = fewB y := by
  have e : ∀ n, n ≤ 16 → refFew x.r n = refFew y.r n := by
    intro n
    induction n with
    | zero => intro _; rfl
    | succ n ih => intro hn; simp only [refFew, ih (by omega), h.r n (by omega)]
  unfold fewB
  rw [e 16 (by omega), h.p, h.v]
noncomputable def listL1 : List (FuncId × PT) := (5, purePT lworksSpec) :: (6, purePT (ndSpec fun x => some (True, .bool false (fewB x)))) :: listL0
theorem listL1_ok : SummOk Tryz.prog (fun f => lookPT f listL1) := .cons lworks_ok (purePT_mono _) (.cons lfew_ok (purePT_mono _) listL0_ok)
end Go.Proofs.YtkfdcapnogklfaaGreatDoor
