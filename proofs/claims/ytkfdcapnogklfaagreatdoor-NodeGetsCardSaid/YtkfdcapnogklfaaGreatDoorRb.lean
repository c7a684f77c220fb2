/-
  Node: plain laws: a path's bytes tell the path; a node's bytes tell the node.
-/
import Derived.Test.YtkfdcapnogklfaaGreatDoorRa
namespace Go.Proofs.YtkfdcapnogklfaaGreatDoor
open Go Sx
set_option maxRecDepth 20000
theorem or16 : ∀ a, a < 16 → ∀ b, b < 16 → (a * 16 % 256) ||| b = a * 16 + b := by decide
theorem or_pair {a b : Int} (ha : 0 ≤ a ∧ a ≤ 15) (hb : 0 ≤ b ∧ b ≤ 15) : bitsOf .or (a * 16 % 256) b = a * 16 + b := by
  obtain ⟨x, rfl⟩ := Int.eq_ofNat_of_zero_le ha.1
  obtain ⟨y, rfl⟩ := Int.eq_ofNat_of_zero_le hb.1
  have := or16 x (by omega) y (by omega)
  show (((((x : Int) * 16 % 256).toNat ||| ((y : Int)).toNat : Nat) : Int)) = _
  rw [show ((x : Int) * 16 % 256).toNat = x * 16 % 256 by omega, Int.toNat_natCast, this]
  push_cast; rfl
theorem bytesFrom_get {f : Nat → Int} {n j : Nat} (h : j < n) (h0 : 0 ≤ f j ∧ f j < 256) : byteAt (bytesFrom f 0 n) (j : Int) = f j := by
  unfold byteAt bytesFrom
  rw [List.getD_eq_getElem?_getD, Int.toNat_natCast, List.getElem?_map, List.getElem?_range h]
  simp only [Option.map_some, Option.getD_some, Nat.zero_add]
  rw [UInt8.toNat_ofNat']
  omega
theorem byteAt_get (q : List UInt8) (j : Nat) (h : j < q.length) : q[j]? = some (UInt8.ofNat (byteAt q (j : Int)).toNat) := by
  unfold byteAt
  simp [List.getD_eq_getElem?_getD, List.getElem?_eq_getElem h]
theorem path_pairs {q : List UInt8} {m : Nat} (hm : q.length = 2 * m) (hq : ∀ j : Nat, j < q.length → byteAt q (j : Int) ≤ 15) : pathL (pairsL q) = q := by
  have hnn : ∀ i, 0 ≤ byteAt q i := fun i => (byteAt_lt q i).1
  have hl : (pairsL q).length = m := by rw [pairsL_len, hm]; omega
  have hpair : ∀ i : Nat, i < m → byteAt (pairsL q) (i : Int) = byteAt q ((2 * i : Nat) : Int) * 16 + byteAt q ((2 * i + 1 : Nat) : Int) := fun i hi => by
    have h1 := hq (2 * i) (by omega)
    have h2 := hq (2 * i + 1) (by omega)
    have h3 := hnn ((2 * i : Nat) : Int)
    have h4 := hnn ((2 * i + 1 : Nat) : Int)
    have e : pairAt q i = byteAt q ((2 * i : Nat) : Int) * 16 + byteAt q ((2 * i + 1 : Nat) : Int) := by
      unfold pairAt
      rw [show (2 * (i : Int)) = ((2 * i : Nat) : Int) by push_cast; rfl, show (((2 * i : Nat) : Int) + 1) = ((2 * i + 1 : Nat) : Int) by push_cast; rfl]
      exact or_pair ⟨h3, h1⟩ ⟨h4, h2⟩
    unfold pairsL
    rw [bytesFrom_get (by rw [hm]; omega) (by rw [e]; omega), e]
  apply List.ext_getElem?
  intro j
  by_cases hj : j < q.length
  · rw [byteAt_get q j hj]
    unfold pathL bytesFrom
    rw [List.getElem?_map, List.getElem?_range (by rw [hl]; omega)]
    simp only [Option.map_some, Nat.zero_add, Option.some.injEq]
    congr 2
    obtain ⟨i, hi⟩ : ∃ i, j = 2 * i ∨ j = 2 * i + 1 := ⟨j / 2, by omega⟩
    have hp := hpair i (by omega)
    have h1 := hq (2 * i) (by omega)
    have h2 := hq (2 * i + 1) (by omega)
    have h3 := hnn ((2 * i : Nat) : Int)
    have h4 := hnn ((2 * i + 1 : Nat) : Int)
    unfold nibAt
    rcases hi with rfl | rfl
    · rw [if_pos (by omega), show (((2 * i : Nat) : Int) / 2) = (i : Int) by omega, hp]
      omega
    · rw [if_neg (by omega), show (((2 * i + 1 : Nat) : Int) / 2) = (i : Int) by omega, hp]
      omega
  · rw [List.getElem?_eq_none (by rw [pathL_len, hl]; omega), List.getElem?_eq_none (by omega)]
theorem nib_le {p : List UInt8} (h : nibB p = true) (j : Nat) (hj : j < p.length) : byteAt p (j : Int) ≤ 15 := by
  have := List.all_eq_true.1 h j (List.mem_range.2 hj)
  unfold nibT at this
  simp only [Bool.not_eq_true', decide_eq_false_iff_not] at this
  omega
theorem byteAt_cons_succ (b : UInt8) (l : List UInt8) (j : Nat) : byteAt (b :: l) ((j + 1 : Nat) : Int) = byteAt l (j : Int) := by
  unfold byteAt
  rw [Int.toNat_natCast, Int.toNat_natCast]; rfl
theorem nget_nput {p : List UInt8} (h : nibB p = true) (leaf : Bool) : ngetB (nputL p leaf) = true ∧ ngetLeaf (nputL p leaf) = leaf ∧ ngetP (nputL p leaf) = p := by
  have hp := nib_le h
  cases ho : decide ((p.length : Int) % 2 = 1) with
  | true =>
    have ho' : (p.length : Int) % 2 = 1 := of_decide_eq_true ho
    have hflag : flagN leaf true ≤ 3 ∧ 0 ≤ flagN leaf true ∧ flagN leaf true % 2 = 1 ∧ (2 ≤ flagN leaf true ↔ leaf = true) := by cases leaf <;> decide
    have e : pathL (nputL p leaf) = UInt8.ofNat (flagN leaf true).toNat :: p := by
      unfold nputL
      rw [ho]
      refine path_pairs (m := (p.length + 1) / 2) (by simp only [cond_true, List.length_cons]; omega) fun j hj => ?_
      cases j with
      | zero =>
        show ((UInt8.ofNat (flagN leaf true).toNat).toNat : Int) ≤ 15
        rw [UInt8.toNat_ofNat']; omega
      | succ j =>
        rw [byteAt_cons_succ]
        exact hp j (by simpa using hj)
    have e0 : byteAt (pathL (nputL p leaf)) 0 = flagN leaf true := by
      rw [e]
      show ((UInt8.ofNat (flagN leaf true).toNat).toNat : Int) = _
      rw [UInt8.toNat_ofNat']; omega
    refine ⟨nget_iff.2 ⟨by rw [e]; simp, by rw [e0]; omega, .inl (by rw [e0]; omega)⟩, ?_, ?_⟩
    · unfold ngetLeaf
      rw [e0]
      cases leaf <;> rfl
    · unfold ngetP
      rw [e0, if_pos hflag.2.2.1, e]; rfl
  | false =>
    have ho' : ¬ (p.length : Int) % 2 = 1 := of_decide_eq_false ho
    have hflag : flagN leaf false ≤ 3 ∧ 0 ≤ flagN leaf false ∧ ¬ flagN leaf false % 2 = 1 ∧ (2 ≤ flagN leaf false ↔ leaf = true) := by cases leaf <;> decide
    have e : pathL (nputL p leaf) = UInt8.ofNat (flagN leaf false).toNat :: 0 :: p := by
      unfold nputL
      rw [ho]
      refine path_pairs (m := (p.length + 2) / 2) (by simp only [cond_false, List.length_cons]; omega) fun j hj => ?_
      cases j with
      | zero =>
        show ((UInt8.ofNat (flagN leaf false).toNat).toNat : Int) ≤ 15
        rw [UInt8.toNat_ofNat']; omega
      | succ j =>
        rw [byteAt_cons_succ]
        cases j with
        | zero => show ((0 : UInt8).toNat : Int) ≤ 15; decide
        | succ j =>
          simp only [cond_false]
          rw [byteAt_cons_succ]
          exact hp j (by simpa using hj)
    have e0 : byteAt (pathL (nputL p leaf)) 0 = flagN leaf false := by
      rw [e]
      show ((UInt8.ofNat (flagN leaf false).toNat).toNat : Int) = _
      rw [UInt8.toNat_ofNat']; omega
    refine ⟨nget_iff.2 ⟨by rw [e]; simp, by rw [e0]; omega, .inr (by rw [e]; rfl)⟩, ?_, ?_⟩
    · unfold ngetLeaf
      rw [e0]
      cases leaf <;> rfl
    · unfold ngetP
      rw [e0, if_neg hflag.2.2.1, e]; rfl
end Go.Proofs.YtkfdcapnogklfaaGreatDoor
/-
  Node: plain laws: a node's bytes tell the node.
-/
namespace Go.Proofs.YtkfdcapnogklfaaGreatDoor
open Go Sx
set_option maxRecDepth 20000
theorem text_whole {b : List UInt8} (hb : b.length ≤ 1048576) : cutB (textOf b) = true ∧ cutL (textOf b) = false ∧ cutIn (textOf b) = b ∧ cutRest (textOf b) = [] := by
  have := text_cut hb []
  rwa [List.append_nil] at this
theorem plain_text {b : List UInt8} (hb : b.length ≤ 1048576) : plainB (textOf b) = true := by
  obtain ⟨h1, h2, _, h4⟩ := text_whole hb
  exact plain_iff.2 ⟨h1, h2, h4⟩
theorem list_whole {l : List (List UInt8)} (hl : (flat l).length ≤ 1048576) : cutB (listOf l) = true ∧ cutL (listOf l) = true ∧ cutIn (listOf l) = flat l ∧ cutRest (listOf l) = [] := by
  have := list_cut hl []
  rwa [List.append_nil] at this
theorem list_ne {l : List (List UInt8)} (hl : (flat l).length ≤ 1048576) : listOf l ≠ [128] := fun h => by
  have h1 := (list_whole hl).2.1
  rw [h] at h1
  exact absurd h1 (by decide)
theorem list_shape {l : List (List UInt8)} (hl : (flat l).length ≤ 1048576) (hw : ∀ x ∈ l, cutB x = true ∧ cutRest x = []) :
    shapeK (listOf l) = listK (flat l) ∧ cutIn (listOf l) = flat l ∧ itemsB (flat l) = true ∧ itemsN (flat l) = l.length ∧ ∀ (j : Nat) (x : List UInt8), l[j]? = some x → itemAt (flat l) j = x := by
  obtain ⟨h1, h2, h3, h4⟩ := list_whole hl
  obtain ⟨i1, i2, i3⟩ := flat_items l hw
  refine ⟨?_, h3, i1, i2, i3⟩
  rw [shapeK, if_neg (list_ne hl), h1, h2, h4, h3]; rfl
theorem ref_item {t : List UInt8} (h : mayW inlB t = true) : cutB t = true ∧ cutRest t = [] ∧ t ≠ [128] ∧ t ≠ [] := by
  have hn : ∀ {t : List UInt8}, cutB t = true → t ≠ [] := fun h e => by rw [e] at h; exact absurd h (by decide)
  simp only [mayW, Bool.or_eq_true] at h
  rcases h with h | h
  · obtain ⟨⟨h1, _, h3⟩, h4⟩ := hash_iff.1 h
    exact ⟨h1, h3, fun e => by have := hash_len h; rw [e] at this; simp at this, hn h1⟩
  · obtain ⟨h1, h2, h3⟩ := inl_shape h
    have hs : 1 ≤ shapeK t := by
      by_cases e : shapeK t = 0
      · exact absurd (by unfold getD; rw [if_neg (by omega), if_neg (by omega), if_neg (by omega)]; rfl) h3
      · omega
    obtain ⟨g1, _, g3, _⟩ := shape_list hs
    exact ⟨g1, g3, fun e => by rw [e] at hs; exact absurd hs (by decide), hn g1⟩
def Tells (s : List UInt8) (x : Nd) : Prop := 0 ≤ shapeK s ∧ (getD s).Same x
theorem noRefs_get (j : Nat) (hj : j < 16) : noRefs j = [] := getD16 (fun _ => []) j hj
theorem path_nib {x : Nd} {l : Int} (h : pathB x l = true) : nibB x.p = true := by
  simp only [pathB, Bool.and_eq_true] at h
  exact h.2
theorem pathT_eq {x : Nd} (h : nibB x.p = true) (leaf : Bool) : pathT x leaf = nputL x.p leaf := by rw [pathT, h]; rfl
theorem whole128 : cutB [128] = true ∧ cutRest [128] = [] := by
  have := text_whole (b := []) (by decide)
  exact ⟨this.1, this.2.2.2⟩
attribute [local irreducible] itemAt cutIn cutB cutRest cutL itemsN itemsB plainB ngetB ngetLeaf ngetP nputL textOf headOf
theorem tells_leaf {x : Nd} (hk : x.k = 1) (h : leafB x = true) : Tells (leafT x) x := by
  have hnib : nibB x.p = true := by
    simp only [leafB, Bool.and_eq_true] at h
    exact path_nib h.1
  obtain ⟨h1, _, h3, h4⟩ := leaf_parts h
  have l1 := pathT_le (x := x) (leaf := true)
  have l2 := text_le (pathT x true)
  have l3 := text_le x.v
  have l4 := flat2_le (a := textOf (pathT x true)) (b := textOf x.v)
  obtain ⟨a1, a2, a3, a4⟩ := text_whole (b := pathT x true) (by omega)
  obtain ⟨b1, b2, b3, b4⟩ := text_whole (b := x.v) (by omega)
  obtain ⟨s1, s2, s3, s4, s5⟩ := list_shape (l := [textOf (pathT x true), textOf x.v]) (by omega) (fun y hy => by
    simp only [List.mem_cons, List.not_mem_nil, or_false] at hy
    rcases hy with rfl | rfl
    · exact ⟨a1, a4⟩
    · exact ⟨b1, b4⟩)
  have i0 := s5 0 _ rfl
  have i1 := s5 1 _ rfl
  obtain ⟨n1, n2, n3⟩ := nget_nput hnib true
  have p0 : plainB (itemAt (flat [textOf (pathT x true), textOf x.v]) 0) = true := by rw [i0]; exact plain_text (by omega)
  have p1 : plainB (itemAt (flat [textOf (pathT x true), textOf x.v]) 1) = true := by rw [i1]; exact plain_text (by omega)
  have c0 : cutIn (itemAt (flat [textOf (pathT x true), textOf x.v]) 0) = nputL x.p true := by rw [i0, a3, pathT_eq hnib]
  have hs : shapeK (leafT x) = 1 := by
    rw [leafT, s1, listK, s3, s4]
    show pairK _ = 1
    rw [pairK, p0, c0, n1, n2, p1]; rfl
  refine ⟨by rw [hs]; decide, ?_⟩
  have e : getD (leafT x) = rdLeaf (leafT x) := by unfold getD; rw [if_pos hs]
  rw [e]
  unfold rdLeaf leafT
  rw [s2]
  refine ⟨hk.symm, ?_, ?_, fun j hj => ?_⟩
  · show ngetP (cutIn (itemAt (flat [textOf (pathT x true), textOf x.v]) 0)) = x.p
    rw [c0, n3]
  · show cutIn (itemAt (flat [textOf (pathT x true), textOf x.v]) 1) = x.v
    rw [i1, b3]
  · rw [h4 j hj]; exact noRefs_get j hj
theorem tells_ext {x : Nd} (hk : x.k = 2) (h : extW inlB x = true) : Tells (extT x) x := by
  have hnib : nibB x.p = true := by
    simp only [extW, Bool.and_eq_true] at h
    exact path_nib h.1
  obtain ⟨h1, h2, h3, _, h4⟩ := ext_parts h
  have hm : mayW inlB (x.r 0) = true := by
    simp only [mayW, Bool.or_eq_true]
    exact h4.imp id fun h => h.1
  obtain ⟨r1, r2, _, _⟩ := ref_item hm
  have rl := may_len hm
  have l1 := pathT_le (x := x) (leaf := false)
  have l2 := text_le (pathT x false)
  have l4 := flat2_le (a := textOf (pathT x false)) (b := x.r 0)
  obtain ⟨a1, a2, a3, a4⟩ := text_whole (b := pathT x false) (by omega)
  obtain ⟨s1, s2, s3, s4, s5⟩ := list_shape (l := [textOf (pathT x false), x.r 0]) (by omega) (fun y hy => by
    simp only [List.mem_cons, List.not_mem_nil, or_false] at hy
    rcases hy with rfl | rfl
    · exact ⟨a1, a4⟩
    · exact ⟨r1, r2⟩)
  have i0 := s5 0 _ rfl
  have i1 := s5 1 _ rfl
  obtain ⟨n1, n2, n3⟩ := nget_nput hnib false
  have p0 : plainB (itemAt (flat [textOf (pathT x false), x.r 0]) 0) = true := by rw [i0]; exact plain_text (by omega)
  have c0 : cutIn (itemAt (flat [textOf (pathT x false), x.r 0]) 0) = nputL x.p false := by rw [i0, a3, pathT_eq hnib]
  have hs : shapeK (extT x) = 2 := by
    rw [extT, s1, listK, s3, s4]
    show pairK _ = 2
    rw [pairK, p0, c0, n1, n2]; rfl
  refine ⟨by rw [hs]; decide, ?_⟩
  have e : getD (extT x) = rdExt (extT x) := by unfold getD; rw [if_neg (by omega), if_pos hs]
  rw [e]
  unfold rdExt extT
  rw [s2]
  refine ⟨hk.symm, ?_, h2.symm, fun j hj => ?_⟩
  · show ngetP (cutIn (itemAt (flat [textOf (pathT x false), x.r 0]) 0)) = x.p
    rw [c0, n3]
  · show oneRef (itemAt (flat [textOf (pathT x false), x.r 0]) 1) j = x.r j
    rw [i1]
    have : oneRef (x.r 0) j = (fun i => if i = 0 then x.r 0 else []) j := getD16 (fun i => if i = 0 then x.r 0 else []) j hj
    rw [this]
    show (if j = 0 then x.r 0 else []) = x.r j
    by_cases e : j = 0
    · subst e; rfl
    · rw [if_neg e, h3 j (by omega) hj]
def brL (x : Nd) : List (List UInt8) := [brI x.r 16 0, brI x.r 16 1, brI x.r 16 2, brI x.r 16 3, brI x.r 16 4, brI x.r 16 5, brI x.r 16 6, brI x.r 16 7, brI x.r 16 8, brI x.r 16 9, brI x.r 16 10, brI x.r 16 11, brI x.r 16 12, brI x.r 16 13, brI x.r 16 14, brI x.r 16 15, textOf x.v]
theorem brL_get (x : Nd) (j : Nat) (hj : j < 16) : (brL x)[j]? = some (brI x.r 16 j) := by
  have : j = 0 ∨ j = 1 ∨ j = 2 ∨ j = 3 ∨ j = 4 ∨ j = 5 ∨ j = 6 ∨ j = 7 ∨ j = 8 ∨ j = 9 ∨ j = 10 ∨ j = 11 ∨ j = 12 ∨ j = 13 ∨ j = 14 ∨ j = 15 := by omega
  rcases this with rfl | rfl | rfl | rfl | rfl | rfl | rfl | rfl | rfl | rfl | rfl | rfl | rfl | rfl | rfl | rfl <;> rfl
theorem brL_mem {x : Nd} {y : List UInt8} (h : y ∈ brL x) : (∃ j, j < 16 ∧ y = brI x.r 16 j) ∨ y = textOf x.v := by
  simp only [brL, List.mem_cons, List.not_mem_nil, or_false] at h
  rcases h with h | h | h | h | h | h | h | h | h | h | h | h | h | h | h | h | h
  · exact .inl ⟨0, by decide, h⟩
  · exact .inl ⟨1, by decide, h⟩
  · exact .inl ⟨2, by decide, h⟩
  · exact .inl ⟨3, by decide, h⟩
  · exact .inl ⟨4, by decide, h⟩
  · exact .inl ⟨5, by decide, h⟩
  · exact .inl ⟨6, by decide, h⟩
  · exact .inl ⟨7, by decide, h⟩
  · exact .inl ⟨8, by decide, h⟩
  · exact .inl ⟨9, by decide, h⟩
  · exact .inl ⟨10, by decide, h⟩
  · exact .inl ⟨11, by decide, h⟩
  · exact .inl ⟨12, by decide, h⟩
  · exact .inl ⟨13, by decide, h⟩
  · exact .inl ⟨14, by decide, h⟩
  · exact .inl ⟨15, by decide, h⟩
  · exact .inr h
theorem brI_cases (r : Nat → List UInt8) (j : Nat) (hj : j < 16) : (r j = [] ∧ brI r 16 j = [128]) ∨ (r j ≠ [] ∧ brI r 16 j = r j) := by
  unfold brI
  rw [if_pos hj]
  by_cases e : r j = []
  · exact .inl ⟨e, by rw [if_pos e]⟩
  · exact .inr ⟨e, by rw [if_neg e]⟩
theorem brL_len {x : Nd} (h : branchW inlB x = true) : (flat (brL x)).length ≤ 617 := by
  obtain ⟨_, h2, h3, _⟩ := branch_parts h
  have hb : ∀ j, j < 16 → (brI x.r 16 j).length ≤ 33 := fun j hj => by
    rcases brI_cases x.r j hj with ⟨_, e⟩ | ⟨e0, e⟩
    · rw [e]; decide
    · rw [e]
      rcases mays_get h3 hj with h | h
      · exact absurd h e0
      · exact may_len h
  have e : flat (brL x) = flat [brI x.r 16 0, brI x.r 16 1, brI x.r 16 2, brI x.r 16 3, brI x.r 16 4, brI x.r 16 5, brI x.r 16 6, brI x.r 16 7, brI x.r 16 8, brI x.r 16 9, brI x.r 16 10, brI x.r 16 11, brI x.r 16 12, brI x.r 16 13, brI x.r 16 14, brI x.r 16 15] ++ textOf x.v := by
    show flat ([brI x.r 16 0, brI x.r 16 1, brI x.r 16 2, brI x.r 16 3, brI x.r 16 4, brI x.r 16 5, brI x.r 16 6, brI x.r 16 7, brI x.r 16 8, brI x.r 16 9, brI x.r 16 10, brI x.r 16 11, brI x.r 16 12, brI x.r 16 13, brI x.r 16 14, brI x.r 16 15] ++ [textOf x.v]) = _
    simp only [flat, List.flatten_append, List.flatten_cons, List.flatten_nil, List.append_nil]
  have h6 : (flat [brI x.r 16 0, brI x.r 16 1, brI x.r 16 2, brI x.r 16 3, brI x.r 16 4, brI x.r 16 5, brI x.r 16 6, brI x.r 16 7, brI x.r 16 8, brI x.r 16 9, brI x.r 16 10, brI x.r 16 11, brI x.r 16 12, brI x.r 16 13, brI x.r 16 14, brI x.r 16 15]).length ≤ 16 * 33 := by
    refine flat_le (m := 33) fun y hy => ?_
    simp only [List.mem_cons, List.not_mem_nil, or_false] at hy
    rcases hy with rfl | rfl | rfl | rfl | rfl | rfl | rfl | rfl | rfl | rfl | rfl | rfl | rfl | rfl | rfl | rfl
    · exact hb 0 (by decide)
    · exact hb 1 (by decide)
    · exact hb 2 (by decide)
    · exact hb 3 (by decide)
    · exact hb 4 (by decide)
    · exact hb 5 (by decide)
    · exact hb 6 (by decide)
    · exact hb 7 (by decide)
    · exact hb 8 (by decide)
    · exact hb 9 (by decide)
    · exact hb 10 (by decide)
    · exact hb 11 (by decide)
    · exact hb 12 (by decide)
    · exact hb 13 (by decide)
    · exact hb 14 (by decide)
    · exact hb 15 (by decide)
  have h7 := text_le x.v
  rw [e, List.length_append]
  omega
theorem tells_branch {x : Nd} (hk : x.k = 3) (h : branchW inlB x = true) : Tells (branchT x) x := by
  obtain ⟨h1, h2, h3, _⟩ := branch_parts h
  have hl := brL_len h
  have hT : branchT x = listOf (brL x) := rfl
  obtain ⟨b1, b2, b3, b4⟩ := text_whole (b := x.v) (by omega)
  have hw : ∀ y ∈ brL x, cutB y = true ∧ cutRest y = [] := fun y hy => by
    rcases brL_mem hy with ⟨j, hj, rfl⟩ | rfl
    · rcases brI_cases x.r j hj with ⟨_, e⟩ | ⟨e0, e⟩
      · rw [e]; exact whole128
      · rw [e]
        rcases mays_get h3 hj with g | g
        · exact absurd g e0
        · exact ⟨(ref_item g).1, (ref_item g).2.1⟩
    · exact ⟨b1, b4⟩
  obtain ⟨s1, s2, s3, s4, s5⟩ := list_shape (l := brL x) (by omega) hw
  have i16 : itemAt (flat (brL x)) 16 = textOf x.v := s5 16 _ rfl
  have p16 : plainB (itemAt (flat (brL x)) 16) = true := by rw [i16]; exact plain_text (by omega)
  have hs : shapeK (branchT x) = 3 := by
    rw [hT, s1, listK, s3, s4]
    show (bif plainB (itemAt (flat (brL x)) 16) then (3 : Int) else -1) = 3
    rw [p16]; rfl
  refine ⟨by rw [hs]; decide, ?_⟩
  have e : getD (branchT x) = rdBranch (branchT x) := by unfold getD; rw [if_neg (by omega), if_neg (by omega), if_pos hs]
  rw [e]
  unfold rdBranch
  rw [hT, s2]
  refine ⟨hk.symm, h1.symm, ?_, fun j hj => ?_⟩
  · show cutIn (itemAt (flat (brL x)) 16) = x.v
    rw [i16, b3]
  · show mk16 (rdRef (flat (brL x))) j = x.r j
    have e1 : mk16 (rdRef (flat (brL x))) j = rdRef (flat (brL x)) j := getD16 _ j hj
    rw [e1, rdRef, s5 j _ (brL_get x j hj)]
    rcases brI_cases x.r j hj with ⟨e0, e⟩ | ⟨e0, e⟩
    · rw [e, if_pos rfl, e0]
    · rw [e]
      rcases mays_get h3 hj with g | g
      · exact absurd g e0
      · rw [if_neg (ref_item g).2.2.1]
theorem tells_none {x : Nd} (h : noneB x = true) : Tells [128] x := by
  obtain ⟨h0, h1, h2, h3⟩ := none_parts h
  have hs : shapeK [128] = 0 := by decide
  refine ⟨by rw [hs]; decide, ?_⟩
  have e : getD [128] = zeroNd := by unfold getD; rw [if_neg (by omega), if_neg (by omega), if_neg (by omega)]
  rw [e]
  exact ⟨h0.symm, h1.symm, h2.symm, fun j hj => by rw [h3 j hj]; exact noRefs_get j hj⟩
theorem putT_k {x : Nd} : (x.k = 0 → putT x = [128]) ∧ (x.k = 1 → putT x = leafT x) ∧ (x.k = 2 → putT x = extT x) ∧ (x.k = 3 → putT x = branchT x) := by
  unfold putT
  refine ⟨fun h => by rw [if_pos h], fun h => by rw [if_neg (by omega), if_pos h], fun h => by rw [if_neg (by omega), if_neg (by omega), if_pos h], fun h => by rw [if_neg (by omega), if_neg (by omega), if_neg (by omega)]⟩
theorem tells_put {x : Nd} (h : validB x = true) : Tells (putT x) x := by
  rcases valid_cases h with ⟨hk, h⟩ | ⟨hk, h⟩ | ⟨hk, h⟩ | ⟨hk, h⟩
  · rw [putT_k.1 hk]; exact tells_none h
  · rw [putT_k.2.1 hk]; exact tells_leaf hk h
  · rw [putT_k.2.2.1 hk]; exact tells_ext hk h
  · rw [putT_k.2.2.2 hk]; exact tells_branch hk h
theorem get_put {x : Nd} (h : validB x = true) : getB' (putT x) = true ∧ (getD (putT x)).Same x := by
  obtain ⟨h1, h2⟩ := tells_put h
  refine ⟨?_, h2⟩
  unfold getB' getW
  rw [decide_eq_true h1, show validW inlB (getD (putT x)) = true from (valid_ext h2).trans h, put_ext h2]
  simp
theorem get_parts {s : List UInt8} (h : getB' s = true) : 0 ≤ shapeK s ∧ validB (getD s) = true ∧ putT (getD s) = s := by
  unfold getB' getW at h
  simp only [Bool.and_eq_true, decide_eq_true_eq] at h
  exact h
theorem put_len {x : Nd} (h : validB x = true) : 1 ≤ (putT x).length ∧ (putT x).length ≤ 700 := by
  have hp : ∀ l : List (List UInt8), 1 ≤ (listOf l).length ∧ (listOf l).length ≤ (flat l).length + 9 := fun l => by
    have h1 := headOf_pos 192 (flat l).length
    have h2 := head_le9 192 (flat l).length
    unfold listOf
    rw [List.length_append]; omega
  rcases valid_cases h with ⟨hk, h⟩ | ⟨hk, h⟩ | ⟨hk, h⟩ | ⟨hk, h⟩
  · rw [putT_k.1 hk]; decide
  · rw [putT_k.2.1 hk]
    obtain ⟨h1, _, h3, _⟩ := leaf_parts h
    have l1 := pathT_le (x := x) (leaf := true)
    have l2 := text_le (pathT x true)
    have l3 := text_le x.v
    have l4 := flat2_le (a := textOf (pathT x true)) (b := textOf x.v)
    have := hp [textOf (pathT x true), textOf x.v]
    unfold leafT
    omega
  · rw [putT_k.2.2.1 hk]
    obtain ⟨h1, h2, h3, _, h4⟩ := ext_parts h
    have hm : mayW inlB (x.r 0) = true := by
      simp only [mayW, Bool.or_eq_true]
      exact h4.imp id fun h => h.1
    have rl := may_len hm
    have l1 := pathT_le (x := x) (leaf := false)
    have l2 := text_le (pathT x false)
    have l4 := flat2_le (a := textOf (pathT x false)) (b := x.r 0)
    have := hp [textOf (pathT x false), x.r 0]
    unfold extT
    omega
  · rw [putT_k.2.2.2 hk]
    have hl := brL_len h
    have := hp (brL x)
    show 1 ≤ (listOf (brL x)).length ∧ (listOf (brL x)).length ≤ 700
    omega
end Go.Proofs.YtkfdcapnogklfaaGreatDoor
/-
  Node: plain laws: bytes that end too early, or go on.
-/
namespace Go.Proofs.YtkfdcapnogklfaaGreatDoor
open Go Sx
set_option maxRecDepth 20000
theorem shape_bad {s : List UInt8} (h : cutB s = false) : getB' s = false := by
  refine get_no fun hk => ?_
  unfold shapeK at hk
  split at hk
  · rename_i e; rw [e] at h; exact absurd (h.symm.trans whole128.1) (by decide)
  · rw [h] at hk; exact absurd hk (show ¬ (0 : Int) ≤ -1 by decide)
theorem fits_mk {x : Nd} (h : Fits x) : Fits { k := x.k, p := x.p, v := x.v, r := fun (i : Nat) => [x.r 0, x.r 1, x.r 2, x.r 3, x.r 4, x.r 5, x.r 6, x.r 7, x.r 8, x.r 9, x.r 10, x.r 11, x.r 12, x.r 13, x.r 14, x.r 15].getD i [] } := fun j hj => by
  show ([x.r 0, x.r 1, x.r 2, x.r 3, x.r 4, x.r 5, x.r 6, x.r 7, x.r 8, x.r 9, x.r 10, x.r 11, x.r 12, x.r 13, x.r 14, x.r 15].getD j []).length < _
  rw [getD16 x.r j hj]; exact h j hj
theorem yes_same {l : Bool} : sameVal (.bool l true) (.bool false true) := fun _ => rfl
end Go.Proofs.YtkfdcapnogklfaaGreatDoor
