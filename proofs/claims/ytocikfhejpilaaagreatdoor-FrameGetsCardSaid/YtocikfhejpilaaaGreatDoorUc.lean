/-
  The reference's frame: asks that bytes are: the contract.
-/
import Derived.Test.YtocikfhejpilaaaGreatDoorUb
import Derived.Test.YtocikfhejpilaaaGreatDoorPf
import Derived.Test.YtocikfhejpilaaaGreatDoorPh
import Derived.Test.YtocikfhejpilaaaGreatDoorRa
import Derived.Test.YtocikfhejpilaaaGreatDoorMg
namespace Go.Proofs.YtocikfhejpilaaaGreatDoor
open Go Sx
set_option maxRecDepth 20000

theorem numC_in (t : List UInt8) : 0 ≤ numC t ∧ numC t ≤ 2097152 := by
  unfold numC
  have := num_nn (cutIn t)
  cases getB t with
  | false => simp
  | true =>
    simp only [cond_true]
    split <;> omega
theorem numC_of {n : Int} (h0 : 0 ≤ n) (h : n ≤ 2097152) : numC (numOf n) = n := by
  obtain ⟨h1, _, _, _, h2⟩ := numOf_get h0 (by omega)
  unfold numI at h2
  rw [numC, h1, h2, cond_true, if_neg (by omega)]
theorem txtC_of {b : List UInt8} (h : b.length ≤ 1048576) : txtC (textOf b) = b := by
  obtain ⟨h1, _, _, h2⟩ := textOf_get h
  rw [txtC, h1, h2]; rfl
theorem txtC_list {t : List UInt8} {l : List (List UInt8)} (c : ListCut t l) : txtC t = flat l := by rw [txtC, c.b, c.i]; rfl
theorem partC_cut {t : List UInt8} {l : List (List UInt8)} (c : ListCut t l) {m : Nat} (hm : l.length = m) {k : Nat} {v : List UInt8} (hk : l[k]? = some v) : partC m t k = v := by
  have hp : partB m t = true := by rw [partB, c.b, c.ib, c.n, hm, decide_eq_true rfl]; rfl
  rw [partC_some hp]
  exact c.at' k v hk
theorem partC_le (m : Nat) (t : List UInt8) (j : Nat) : (partC m t j).length ≤ t.length := by
  unfold partC
  cases partB m t with
  | false => simp
  | true => exact Nat.le_trans (itemAt_le _ _) (cutIn_le _)
theorem txtC_le (t : List UInt8) : (txtC t).length ≤ t.length := by
  unfold txtC
  cases cutB t with
  | false => simp
  | true => exact cutIn_le _
theorem Ak.listCut {x : Ak} (h : x.Small) : ListCut x.put x.items := listOf_cut (l := x.items) (Ak.whole h) (Nat.le_trans (Ak.items_len h) (by decide))
theorem askC_put {x : Ak} (h : x.ok = true) : askC x.put = x := by
  have hs := Ak.ok_small h
  have c := Ak.listCut hs
  have P : ∀ {k : Nat} {v : List UInt8}, x.items[k]? = some v → partC 8 x.put k = v := fun hk => partC_cut c rfl hk
  obtain ⟨h1, h2, h3, h4, h5, h6, h7⟩ := hs
  unfold askC
  rw [P (k := 1) rfl, P (k := 2) rfl, P (k := 3) rfl, P (k := 4) rfl, P (k := 5) rfl, P (k := 6) rfl, P (k := 7) rfl, numC_of (by omega) (by omega), numC_of (by omega) (by omega), numC_of (by omega) (by omega), numC_of (n := x.a + 1) (by omega) (by omega),
    numC_of (by omega) (by omega), txtC_of (by omega), txtC_of (by omega), Int.add_sub_cancel]
theorem askC_of {s : List UInt8} (h : getAskB s = true) : askC s = askD s ∧ (askD s).ok = true ∧ (askD s).put = s := by
  obtain ⟨h1, h2, _⟩ := getAskB_facts h
  have := askC_put h1
  rw [h2] at this
  exact ⟨this, h1, h2⟩
theorem askC_only {s : List UInt8} (h1 : (askC s).ok = true) (h2 : (askC s).put = s) : getAskB s = true := getAskB_iff.2 ⟨_, h1, h2⟩
theorem ga2_holds {s : List UInt8} (hs : s.length < 1099511627776) : Holds (runA (cfgGA2 s) 20 Tryz.f20 [.str false s] (getAskA s)) := by
  refine Holds.of_eq (vcGA2 s) ?_
  have hP : ∀ j, (partC 8 s j).length < 1152921504606846976 := fun j => by
    have := partC_le 8 s j
    omega
  have n4 := numC_in (partC 8 s 4)
  have b4 : (-9223372036854775808 ≤ numC (partC 8 s 4) - 1 ∧ numC (partC 8 s 4) - 1 ≤ 9223372036854775807) = True := eq_true (by omega)
  have hA : ({ k := numC (partC 8 s 1), s := numC (partC 8 s 2), q := numC (partC 8 s 3), a := numC (partC 8 s 4) - 1, key := txtC (partC 8 s 5), to := txtC (partC 8 s 6), lim := numC (partC 8 s 7) } : Ak) = askC s := rfl
  rw [hA]
  simp only [hP, hs, b4, eq_self, true_and, and_true, sble_same, exists_const, forall_const, and_self, Nat.reduceLT, Int.reduceLE, Int.reduceLT]
  intro x hx
  refine ⟨SBle.refl _, fun ok => ⟨fun ne => ⟨fun hB => ?_, fun _ _ => rfl⟩, fun e => ⟨fun hB => ?_, fun hB => ?_⟩⟩, fun no => ⟨fun hB => ?_, fun _ _ => rfl⟩⟩
  · obtain ⟨a1, a2, a3⟩ := askC_of hB
    rw [a1, a3] at ne; simp at ne
  · obtain ⟨a1, a2, a3⟩ := askC_of hB
    show sameVal (.tup [(askC s).sv, .int .i64 true 0]) _
    rw [a1]; exact fun _ => rfl
  · have := askC_only ok (by simpa using e)
    rw [hB] at this; cases this
  · obtain ⟨a1, a2, a3⟩ := askC_of hB
    rw [a1, a2] at no; cases no
theorem ga2_ok : CallOk Tryz.prog 20 (ansPT fgetSpec) := by
  refine ans_ok (n := 20) (fn := Tryz.f20) Tryz.func20 (by kernel_rfl) (by kernel_rfl) ?_
  intro args p a h hp
  unfold fgetSpec at h
  split at h
  · rename_i s
    injection h with h; injection h with h1 h2; subst h1; subst h2
    refine ⟨_, goodGA2 s, rfl, fun b => ?_, ga2_holds hp⟩
    cases b <;> exact rfl
  · cases h
theorem rowsX_cut {t : List UInt8} {l : List (List UInt8)} (c : ListCut t l) : rowsX (txtC t) = l.length := by
  have h1 := c.ib
  have h2 := c.n
  rw [c.i] at h1 h2
  rw [txtC_list c, rowsX, h1, h2]; rfl
theorem flagC (b : Bool) : decide (numC (flagB b) = 1) = b := by
  rw [flagB_num]
  cases b with
  | true => rw [cond_true, numC_of (by decide) (by decide)]; rfl
  | false => rw [cond_false, numC_of (by decide) (by decide)]; rfl
theorem replyC_like {s : List UInt8} {x : Rp} (m : ReplyMeets s x) : (replyC s).Like x := by
  have P : ∀ {k : Nat} {v : List UInt8}, x.items[k]? = some v → partC 9 s k = v := fun hk => partC_cut m.c rfl hk
  have rc := Rp.rows_cut m.small
  obtain ⟨h1, h2, h3, h4, h5, h6, h7, h8⟩ := m.small
  have p6 : partC 9 s 6 = listOf x.rows := P rfl
  have hn : rowsX (txtC (partC 9 s 6)) = x.n := by rw [p6, rowsX_cut rc]; exact rowL_len _ _ _
  have hrow : ∀ i, i < x.n → itemAt (txtC (partC 9 s 6)) i = rowE x.f x.g i := fun i hi => by
    rw [p6, txtC_list rc, ← rc.i]
    exact rc.at' i _ (rowL_at hi)
  refine ⟨?_, ?_, ?_, ?_, ?_, hn, fun i hi => ?_, fun i hi => ?_, ?_, ?_⟩
  · show numC (partC 9 s 1) = x.s
    rw [P (k := 1) rfl, numC_of (by omega) (by omega)]
  · show numC (partC 9 s 2) = x.q
    rw [P (k := 2) rfl, numC_of (by omega) (by omega)]
  · show numC (partC 9 s 3) = x.e
    rw [P (k := 3) rfl, numC_of (by omega) (by omega)]
  · show numC (partC 9 s 4) = x.v
    rw [P (k := 4) rfl, numC_of (by omega) (by omega)]
  · show txtC (partC 9 s 5) = x.root
    rw [P (k := 5) rfl, txtC_of (by omega)]
  · have hi : i < x.n := by rw [← hn]; exact hi
    show txtC (partC 2 (itemAt (txtC (partC 9 s 6)) i) 0) = x.f i
    rw [hrow i hi, partC_cut (rowE_cut m.small hi) (m := 2) rfl (k := 0) rfl, txtC_of (by have := (h7 i hi).1; omega)]
  · have hi : i < x.n := by rw [← hn]; exact hi
    show txtC (partC 2 (itemAt (txtC (partC 9 s 6)) i) 1) = x.g i
    rw [hrow i hi, partC_cut (rowE_cut m.small hi) (m := 2) rfl (k := 1) rfl, txtC_of (by have := (h7 i hi).2; omega)]
  · show txtC (partC 9 s 7) = x.proof
    rw [P (k := 7) rfl, txtC_of (by omega)]
  · show decide (numC (partC 9 s 8) = 1) = x.more
    rw [P (k := 8) rfl, flagC]
theorem noticeC_like {s : List UInt8} {x : Nt} (m : NoticeMeets s x) : (noticeC s).Like x := by
  have P : ∀ {k : Nat} {v : List UInt8}, x.items[k]? = some v → partC 6 s k = v := fun hk => partC_cut m.c rfl hk
  have rc := Nt.rows_cut m.small
  obtain ⟨h1, h2, h3, h5, h6, h7⟩ := m.small
  have p5 : partC 6 s 5 = listOf x.rows := P rfl
  have hn : rowsX (txtC (partC 6 s 5)) = x.n := by rw [p5, rowsX_cut rc]; exact rowL_len _ _ _
  have hrow : ∀ i, i < x.n → itemAt (txtC (partC 6 s 5)) i = rowC x.f x.g x.h i := fun i hi => by
    rw [p5, txtC_list rc, ← rc.i]
    exact rc.at' i _ (rowL_at hi)
  refine ⟨?_, ?_, ?_, ?_, hn, fun i hi => ?_, fun i hi => ?_, fun i hi => ?_⟩
  · show numC (partC 6 s 1) = x.s
    rw [P (k := 1) rfl, numC_of (by omega) (by omega)]
  · show numC (partC 6 s 2) = x.e
    rw [P (k := 2) rfl, numC_of (by omega) (by omega)]
  · show numC (partC 6 s 3) = x.b
    rw [P (k := 3) rfl, numC_of (by omega) (by omega)]
  · show txtC (partC 6 s 4) = x.root
    rw [P (k := 4) rfl, txtC_of (by omega)]
  · have hi : i < x.n := by rw [← hn]; exact hi
    show txtC (partC 3 (itemAt (txtC (partC 6 s 5)) i) 0) = x.f i
    rw [hrow i hi, partC_cut (rowC_cut m.small hi) (m := 3) rfl (k := 0) rfl, txtC_of (by have := (h7 i hi).1; omega)]
  · have hi : i < x.n := by rw [← hn]; exact hi
    show txtC (partC 3 (itemAt (txtC (partC 6 s 5)) i) 1) = x.g i
    rw [hrow i hi, partC_cut (rowC_cut m.small hi) (m := 3) rfl (k := 1) rfl, txtC_of (by have := (h7 i hi).2; omega)]
  · have hi : i < x.n := by rw [← hn]; exact hi
    show decide (numC (partC 3 (itemAt (txtC (partC 6 s 5)) i) 2) = 1) = x.h i
    rw [hrow i hi, partC_cut (rowC_cut m.small hi) (m := 3) rfl (k := 2) rfl, flagC]
end Go.Proofs.YtocikfhejpilaaaGreatDoor
/-
  The reference's frame: replies, notices that bytes are: the contracts.
-/
namespace Go.Proofs.YtocikfhejpilaaaGreatDoor
open Go Sx
set_option maxRecDepth 20000

theorem replyC_of {s : List UInt8} (h : getReplyB s = true) : (replyC s).Like (replyD s) ∧ (replyD s).ok = true ∧ (replyD s).put = s := by
  obtain ⟨h1, h2, _⟩ := getReplyB_facts h
  exact ⟨replyC_like (getReplyB_meets h), h1, h2⟩
theorem replyC_only {s : List UInt8} (h1 : (replyC s).ok = true) (h2 : (replyC s).put = s) : getReplyB s = true := by
  have := (kind_reply h1).1
  rwa [h2] at this
theorem noticeC_of {s : List UInt8} (h : getNoticeB s = true) : (noticeC s).Like (noticeD s) ∧ (noticeD s).ok = true ∧ (noticeD s).put = s := by
  obtain ⟨h1, h2, _⟩ := getNoticeB_facts h
  exact ⟨noticeC_like (getNoticeB_meets h), h1, h2⟩
theorem noticeC_only {s : List UInt8} (h1 : (noticeC s).ok = true) (h2 : (noticeC s).put = s) : getNoticeB s = true := by
  have := (kind_notice h1).1
  rwa [h2] at this
theorem rowsX_le (x : List UInt8) : rowsX x ≤ x.length := by
  unfold rowsX
  cases h : itemsB x with
  | false => simp
  | true => exact itemsN_le h
theorem z_true {n : Nat} {cols cols' : List Col} {tot tot' : Nat} {ty : TypeId} (h : SBle (.rows false n cols false tot ty) (.rows false n cols' false tot' ty)) : SBle (.rows true n cols false tot ty) (.rows true n cols' false tot' ty) :=
  fun hno => ⟨hno, (h rfl).2.1, (h rfl).2.2⟩
theorem Rp.Like.sv {x y : Rp} (h : x.Like y) (u : SV) {l : Bool} {k : Int} : sameVal (.tup [x.sv u, .int .i64 l k]) (.tup [y.sv u, .int .i64 l k]) := by
  unfold Rp.sv
  rw [h.s, h.q, h.e, h.v, h.root, h.proof, h.more]
  exact fun _ => rfl
theorem Nt.Like.sv {x y : Nt} (h : x.Like y) (u : SV) {l : Bool} {k : Int} : sameVal (.tup [x.sv u, .int .i64 l k]) (.tup [y.sv u, .int .i64 l k]) := by
  unfold Nt.sv
  rw [h.s, h.e, h.b, h.root]
  exact fun _ => rfl
attribute [local irreducible] numI itOf subOf itemsN itemsB itemAt cutIn cutB cutL cutRest getB num getReplyB getAskB getNoticeB numC txtC partC rowsX textOf listOf
theorem gr2_holds {s : List UInt8} (hs : s.length < 1099511627776) : Holds (runA (cfgGR2 s) 22 Tryz.f22 [.str false s] (getReply2A s)) := by
  refine Holds.of_eq (vcGR2 s) ?_
  have hP : ∀ j, (partC 9 s j).length < 1152921504606846976 := fun j => by
    have := partC_le 9 s j
    omega
  have hX : (txtC (partC 9 s 6)).length < 1099511627776 := by
    have := partC_le 9 s 6
    have := txtC_le (partC 9 s 6)
    omega
  have hI : ∀ j, (itemAt (txtC (partC 9 s 6)) j).length < 1099511627776 := fun j => by
    have := itemAt_le (txtC (partC 9 s 6)) j
    omega
  have hI2 : ∀ j k, (partC 2 (itemAt (txtC (partC 9 s 6)) j) k).length < 1152921504606846976 := fun j k => by
    have := partC_le 2 (itemAt (txtC (partC 9 s 6)) j) k
    have := hI j
    omega
  have hR := rowsX_le (txtC (partC 9 s 6))
  have hD : ({ s := numC (partC 9 s 1), q := numC (partC 9 s 2), e := numC (partC 9 s 3), v := numC (partC 9 s 4), root := txtC (partC 9 s 5), n := rowsX (txtC (partC 9 s 6)), f := fun i => txtC (partC 2 (itemAt (txtC (partC 9 s 6)) i) 0), g := fun i => txtC (partC 2 (itemAt (txtC (partC 9 s 6)) i) 1), proof := txtC (partC 9 s 7), more := decide (numC (partC 9 s 8) = 1) } : Rp) = replyC s := rfl
  simp only [hP, hX, hI, hI2, hs, eq_self, true_and, and_true, sble_same, exists_const, forall_const, and_self, Nat.reduceLT, Int.reduceLE, Int.reduceLT, Int.toNat_natCast, Nat.zero_add]
  clear hD
  intro x hx
  refine ⟨SBle.cells (fun _ => rfl) rfl, ⟨fun hb c hc => ?_, fun hb => ?_⟩, fun c hc => ⟨⟨(0, 0), ⟨Nat.zero_le _, Nat.zero_le _⟩, rfl, rfl, rfl⟩, fun y hy => ⟨fun hk => ?_, fun hk => ?_⟩⟩⟩
  · have e : rowsX (txtC (partC 9 s 6)) = itemsN (txtC (partC 9 s 6)) := by rw [rowsX, hb]; rfl
    exact ⟨c, by rw [e]; exact hc, ⟨e.symm, rfl⟩, by rw [e]; exact SBle.refl _⟩
  · have e : rowsX (txtC (partC 9 s 6)) = 0 := by rw [rowsX, hb]; rfl
    exact ⟨0, by omega, e, by rw [e]; rfl⟩
  · have hk : (y.1 : Int) < (rowsX (txtC (partC 9 s 6)) : Int) := of_decide_eq_true hk
    refine ⟨by omega, by omega, fun c1 hc1 => ⟨⟨Nat.le_refl _, by omega, by omega⟩, fun c2 hc2 => ⟨by omega, (y.1 + 1, c2), ⟨grow_next (_k := 0) hy hk hc2, grow_less hk⟩, grow_cast y, ⟨rfl, rfl⟩, z_true ?_⟩⟩⟩
    exact grow2_row (F := fun i => txtC (partC 2 (itemAt (txtC (partC 9 s 6)) i) 0)) (G := fun i => txtC (partC 2 (itemAt (txtC (partC 9 s 6)) i) 1)) rfl rfl rfl
  · have hk : ¬ (y.1 : Int) < (rowsX (txtC (partC 9 s 6)) : Int) := of_decide_eq_false hk
    have e1 : y.1 = rowsX (txtC (partC 9 s 6)) := grow_cols hy hk
    have hcap := hy.cap
    have hD : ({ s := numC (partC 9 s 1), q := numC (partC 9 s 2), e := numC (partC 9 s 3), v := numC (partC 9 s 4), root := txtC (partC 9 s 5), n := y.1, f := fun i => txtC (partC 2 (itemAt (txtC (partC 9 s 6)) i) 0), g := fun i => txtC (partC 2 (itemAt (txtC (partC 9 s 6)) i) 1), proof := txtC (partC 9 s 7), more := decide (numC (partC 9 s 8) = 1) } : Rp) = replyC s := by rw [e1]; rfl
    rw [hD]
    refine ⟨⟨Nat.le_refl _, by omega⟩, fun ok => ⟨fun ne => ⟨fun hB => ?_, fun _ _ => rfl⟩, fun e => ⟨fun hB => ?_, fun hB => ?_⟩⟩, fun no => ⟨fun hB => ?_, fun _ _ => rfl⟩⟩
    · obtain ⟨L, a2, a3⟩ := replyC_of hB
      rw [L.put, a3] at ne; simp at ne
    · obtain ⟨L, a2, a3⟩ := replyC_of hB
      have en : itemsN (cutIn (itOf s 6)) = y.1 := by rw [← replyD_n, ← L.n, e1]; rfl
      rw [en]
      refine ⟨y.2, hcap, z_true (Sx.SBle.rowsCongr rfl rfl rfl fun i k c' hi hk' => ?_), ?_⟩
      · have hf := L.f i (by show i < rowsX (txtC (partC 9 s 6)); omega)
        have hg := L.g i (by show i < rowsX (txtC (partC 9 s 6)); omega)
        match k, hk' with
        | 0, hk' => injection hk' with hk'; subst hk'; exact ⟨_, rfl, congrArg (SV.str false) hf⟩
        | 1, hk' => injection hk' with hk'; subst hk'; exact ⟨_, rfl, congrArg (SV.str false) hg⟩
      · exact L.sv _
    · have := replyC_only ok (by simpa using e)
      rw [hB] at this; cases this
    · obtain ⟨L, a2, a3⟩ := replyC_of hB
      rw [L.ok, a2] at no; cases no
theorem gn2_holds {s : List UInt8} (hs : s.length < 1099511627776) : Holds (runA (cfgGN2 s) 24 Tryz.f24 [.str false s] (getNotice2A s)) := by
  refine Holds.of_eq (vcGN2 s) ?_
  have hP : ∀ j, (partC 6 s j).length < 1152921504606846976 := fun j => by
    have := partC_le 6 s j
    omega
  have hX : (txtC (partC 6 s 5)).length < 1099511627776 := by
    have := partC_le 6 s 5
    have := txtC_le (partC 6 s 5)
    omega
  have hI : ∀ j, (itemAt (txtC (partC 6 s 5)) j).length < 1099511627776 := fun j => by
    have := itemAt_le (txtC (partC 6 s 5)) j
    omega
  have hI2 : ∀ j k, (partC 3 (itemAt (txtC (partC 6 s 5)) j) k).length < 1152921504606846976 := fun j k => by
    have := partC_le 3 (itemAt (txtC (partC 6 s 5)) j) k
    have := hI j
    omega
  have hR := rowsX_le (txtC (partC 6 s 5))
  simp only [hP, hX, hI, hI2, hs, eq_self, true_and, and_true, sble_same, exists_const, forall_const, and_self, Nat.reduceLT, Int.reduceLE, Int.reduceLT, Int.toNat_natCast, Nat.zero_add]
  intro x hx
  refine ⟨⟨fun hb c hc => ?_, fun hb => ?_⟩, fun c hc => ⟨⟨(0, 0), ⟨Nat.zero_le _, Nat.zero_le _⟩, rfl, rfl, rfl⟩, fun y hy => ⟨fun hk => ?_, fun hk => ?_⟩⟩⟩
  · have e : rowsX (txtC (partC 6 s 5)) = itemsN (txtC (partC 6 s 5)) := by rw [rowsX, hb]; rfl
    exact ⟨c, by rw [e]; exact hc, ⟨e.symm, rfl⟩, by rw [e]; exact SBle.refl _⟩
  · have e : rowsX (txtC (partC 6 s 5)) = 0 := by rw [rowsX, hb]; rfl
    exact ⟨0, by omega, e, by rw [e]; rfl⟩
  · have hk : (y.1 : Int) < (rowsX (txtC (partC 6 s 5)) : Int) := of_decide_eq_true hk
    refine ⟨by omega, by omega, fun c1 hc1 => ⟨⟨Nat.le_refl _, by omega, by omega⟩, fun c2 hc2 => ⟨by omega, (y.1 + 1, c2), ⟨grow_next (_k := 0) hy hk hc2, grow_less hk⟩, grow_cast y, ⟨rfl, rfl⟩, z_true ?_⟩⟩⟩
    exact grow3_row (F := fun i => txtC (partC 3 (itemAt (txtC (partC 6 s 5)) i) 0)) (G := fun i => txtC (partC 3 (itemAt (txtC (partC 6 s 5)) i) 1)) (H := fun i => decide (numC (partC 3 (itemAt (txtC (partC 6 s 5)) i) 2) = 1)) rfl rfl rfl rfl
  · have hk : ¬ (y.1 : Int) < (rowsX (txtC (partC 6 s 5)) : Int) := of_decide_eq_false hk
    have e1 : y.1 = rowsX (txtC (partC 6 s 5)) := grow_cols hy hk
    have hcap := hy.cap
    have hD : ({ s := numC (partC 6 s 1), e := numC (partC 6 s 2), b := numC (partC 6 s 3), root := txtC (partC 6 s 4), n := y.1, f := fun i => txtC (partC 3 (itemAt (txtC (partC 6 s 5)) i) 0), g := fun i => txtC (partC 3 (itemAt (txtC (partC 6 s 5)) i) 1), h := fun i => decide (numC (partC 3 (itemAt (txtC (partC 6 s 5)) i) 2) = 1) } : Nt) = noticeC s := by rw [e1]; rfl
    rw [hD]
    refine ⟨⟨Nat.le_refl _, by omega⟩, fun ok => ⟨fun ne => ⟨fun hB => ?_, fun _ _ => rfl⟩, fun e => ⟨fun hB => ?_, fun hB => ?_⟩⟩, fun no => ⟨fun hB => ?_, fun _ _ => rfl⟩⟩
    · obtain ⟨L, a2, a3⟩ := noticeC_of hB
      rw [L.put, a3] at ne; simp at ne
    · obtain ⟨L, a2, a3⟩ := noticeC_of hB
      have en : itemsN (cutIn (itOf s 5)) = y.1 := by rw [← noticeD_n, ← L.n, e1]; rfl
      rw [en]
      refine ⟨y.2, hcap, z_true (Sx.SBle.rowsCongr rfl rfl rfl fun i k c' hi hk' => ?_), ?_⟩
      · have hf := L.f i (by show i < rowsX (txtC (partC 6 s 5)); omega)
        have hg := L.g i (by show i < rowsX (txtC (partC 6 s 5)); omega)
        have hh := L.h i (by show i < rowsX (txtC (partC 6 s 5)); omega)
        match k, hk' with
        | 0, hk' => injection hk' with hk'; subst hk'; exact ⟨_, rfl, congrArg (SV.str false) hf⟩
        | 1, hk' => injection hk' with hk'; subst hk'; exact ⟨_, rfl, congrArg (SV.str false) hg⟩
        | 2, hk' => injection hk' with hk'; subst hk'; exact ⟨_, rfl, congrArg (SV.bool false) hh⟩
      · exact L.sv _
    · have := noticeC_only ok (by simpa using e)
      rw [hB] at this; cases this
    · obtain ⟨L, a2, a3⟩ := noticeC_of hB
      rw [L.ok, a2] at no; cases no
def gr2Spec : List SV → Option (Prop × Ans)
  | [.str false s] => some (s.length < 1099511627776, getReply2A s)
  | _ => none
def gn2Spec : List SV → Option (Prop × Ans)
  | [.str false s] => some (s.length < 1099511627776, getNotice2A s)
  | _ => none
theorem gr2_ok : CallOk Tryz.prog 22 (ansPT gr2Spec) := by
  refine ans_ok (n := 20) (fn := Tryz.f22) Tryz.func22 (by kernel_rfl) (by kernel_rfl) ?_
  intro args p a h hp
  unfold gr2Spec at h
  split at h
  · rename_i s
    injection h with h; injection h with h1 h2; subst h1; subst h2
    refine ⟨_, goodGR2 s, rfl, fun b => ?_, gr2_holds hp⟩
    cases b with
    | false => exact rfl
    | true =>
      intro c
      refine ⟨rfl, rfl, fun k => by simp [Rp.sv, SV.wf, SV.wfs, Nat.blt_eq], fun E E' k k' h => ?_⟩
      generalize itemsN (cutIn (itOf s 6)) = n at h ⊢
      cases n with
      | zero => rfl
      | succ n =>
        have hk : E k = E' k' := h rfl
        simp [Rp.sv, SV.val, SV.vals, hk]
  · cases h
theorem gn2_ok : CallOk Tryz.prog 24 (ansPT gn2Spec) := by
  refine ans_ok (n := 20) (fn := Tryz.f24) Tryz.func24 (by kernel_rfl) (by kernel_rfl) ?_
  intro args p a h hp
  unfold gn2Spec at h
  split at h
  · rename_i s
    injection h with h; injection h with h1 h2; subst h1; subst h2
    refine ⟨_, goodGN2 s, rfl, fun b => ?_, gn2_holds hp⟩
    cases b with
    | false => exact rfl
    | true =>
      intro c
      refine ⟨rfl, rfl, fun k => by simp [Nt.sv, SV.wf, SV.wfs, Nat.blt_eq], fun E E' k k' h => ?_⟩
      generalize itemsN (cutIn (itOf s 5)) = n at h ⊢
      cases n with
      | zero => rfl
      | succ n =>
        have hk : E k = E' k' := h rfl
        simp [Nt.sv, SV.val, SV.vals, hk]
  · cases h
end Go.Proofs.YtocikfhejpilaaaGreatDoor
/-
  FrameGets: the set-up: of which kind the bytes are is told.
-/
namespace Go.Proofs.YtocikfhejpilaaaGreatDoor
open Go Sx
set_option maxRecDepth 20000

noncomputable def listFG (ca cr cn : Bool) : List (FuncId × PT) :=
  (21, sureLPT cr fgrSpec) :: (23, sureLPT cn fgnSpec) :: (19, sureLPT ca fgetSpec) ::
  (22, sureLPT cr gr2Spec) :: (24, sureLPT cn gn2Spec) :: (20, sureLPT ca fgetSpec) :: listFM
theorem listFG_ok (ca cr cn : Bool) : SummOk Tryz.prog (fun f => lookPT f (listFG ca cr cn)) :=
  .cons (sureL_ok fgr_ok) (sureLPT_mono _ _) (.cons (sureL_ok fgn_ok) (sureLPT_mono _ _) (.cons (sureL_ok fget_ok) (sureLPT_mono _ _)
    (.cons (sureL_ok gr2_ok) (sureLPT_mono _ _) (.cons (sureL_ok gn2_ok) (sureLPT_mono _ _) (.cons (sureL_ok ga2_ok) (sureLPT_mono _ _) listFM_ok)))))
noncomputable def cfgFG (ca cr cn : Bool) : Cfg := { cfg0 with summ := fun f => lookPT f (listFG ca cr cn) }
theorem goodFG (ca cr cn : Bool) : Sx.Good Tryz.prog (cfgFG ca cr cn) := ⟨mixes, listFG_ok ca cr cn, fns_ok⟩
noncomputable def getsVC (ca cr cn : Bool) (s : List UInt8) : VC :=
  runA (cfgFG ca cr cn) 4 Tryz.f4 [.str false s] (.ret (.bool false true))
end Go.Proofs.YtocikfhejpilaaaGreatDoor
/-
  Conditions that the executor computes, written out by a program (vcgen.py).
-/
namespace Go.Proofs.YtocikfhejpilaaaGreatDoor
open Go Sx
set_option maxRecDepth 20000

theorem vcFGets0 (s : List UInt8) : VC.holds (getsVC false false false s) = (True ∧
 (decide ((2000 : Int) < (↑s.length : Int)) = true →
 sameVal (SV.bool true true) (SV.bool false true)) ∧
 (decide ((2000 : Int) < (↑s.length : Int)) = false →
 s.length < (1099511627776 : Nat) ∧
 getAskB s = false ∧
 s.length < (1099511627776 : Nat) ∧
 getAskB s = false ∧
 s.length < (1099511627776 : Nat) ∧
 getReplyB s = false ∧
 s.length < (1099511627776 : Nat) ∧
 getReplyB s = false ∧
 s.length < (1099511627776 : Nat) ∧
 getNoticeB s = false ∧
 s.length < (1099511627776 : Nat) ∧
 getNoticeB s = false ∧
 ((True ∧
 True ∧
 True) ∧
 (0 : Nat) < (9223372036854775808 : Nat)) ∧
 (sameE { s := (0 : Int), q := (0 : Int), e := (0 : Int), v := (0 : Int), root := [], n := (0 : Nat), f := fun (_x : Nat) => [], g := fun (_x : Nat) => [], proof := [], more := false : Rp } { s := (0 : Int), q := (0 : Int), e := (0 : Int), v := (0 : Int), root := [], n := (0 : Nat), f := fun (_x : Nat) => [], g := fun (_x : Nat) => [], proof := [], more := false : Rp } = true →
 ((True ∧
 True ∧
 True) ∧
 (0 : Nat) < (9223372036854775808 : Nat)) ∧
 (sameC { s := (0 : Int), e := (0 : Int), b := (0 : Int), root := [], n := (0 : Nat), f := fun (_x : Nat) => [], g := fun (_x : Nat) => [], h := fun (_x : Nat) => false : Nt } { s := (0 : Int), e := (0 : Int), b := (0 : Int), root := [], n := (0 : Nat), f := fun (_x : Nat) => [], g := fun (_x : Nat) => [], h := fun (_x : Nat) => false : Nt } = true →
 s.length < (1099511627776 : Nat) ∧
 sameVal (SV.bool (false && true) (decide (kindI s = (-1 : Int)))) (SV.bool false true)) ∧
 (sameC { s := (0 : Int), e := (0 : Int), b := (0 : Int), root := [], n := (0 : Nat), f := fun (_x : Nat) => [], g := fun (_x : Nat) => [], h := fun (_x : Nat) => false : Nt } { s := (0 : Int), e := (0 : Int), b := (0 : Int), root := [], n := (0 : Nat), f := fun (_x : Nat) => [], g := fun (_x : Nat) => [], h := fun (_x : Nat) => false : Nt } = false →
 sameVal (SV.bool true false) (SV.bool false true))) ∧
 (sameE { s := (0 : Int), q := (0 : Int), e := (0 : Int), v := (0 : Int), root := [], n := (0 : Nat), f := fun (_x : Nat) => [], g := fun (_x : Nat) => [], proof := [], more := false : Rp } { s := (0 : Int), q := (0 : Int), e := (0 : Int), v := (0 : Int), root := [], n := (0 : Nat), f := fun (_x : Nat) => [], g := fun (_x : Nat) => [], proof := [], more := false : Rp } = false →
 sameVal (SV.bool true false) (SV.bool false true)))) := by kernel_rfl
theorem vcFGets1 (s : List UInt8) : VC.holds (getsVC true false false s) = (True ∧
 (decide ((2000 : Int) < (↑s.length : Int)) = true →
 sameVal (SV.bool true true) (SV.bool false true)) ∧
 (decide ((2000 : Int) < (↑s.length : Int)) = false →
 s.length < (1099511627776 : Nat) ∧
 getAskB s = true ∧
 s.length < (1099511627776 : Nat) ∧
 getAskB s = true ∧
 s.length < (1099511627776 : Nat) ∧
 getReplyB s = false ∧
 s.length < (1099511627776 : Nat) ∧
 getReplyB s = false ∧
 s.length < (1099511627776 : Nat) ∧
 getNoticeB s = false ∧
 s.length < (1099511627776 : Nat) ∧
 getNoticeB s = false ∧
 ((True ∧
 True ∧
 True) ∧
 (0 : Nat) < (9223372036854775808 : Nat)) ∧
 (sameE { s := (0 : Int), q := (0 : Int), e := (0 : Int), v := (0 : Int), root := [], n := (0 : Nat), f := fun (_x : Nat) => [], g := fun (_x : Nat) => [], proof := [], more := false : Rp } { s := (0 : Int), q := (0 : Int), e := (0 : Int), v := (0 : Int), root := [], n := (0 : Nat), f := fun (_x : Nat) => [], g := fun (_x : Nat) => [], proof := [], more := false : Rp } = true →
 ((True ∧
 True ∧
 True) ∧
 (0 : Nat) < (9223372036854775808 : Nat)) ∧
 ((decide (numI (itOf s (1 : Nat)) = numI (itOf s (1 : Nat))) && (decide (numI (itOf s (2 : Nat)) = numI (itOf s (2 : Nat))) && (decide (numI (itOf s (3 : Nat)) = numI (itOf s (3 : Nat))) && (decide (numI (itOf s (4 : Nat)) - (1 : Int) = numI (itOf s (4 : Nat)) - (1 : Int)) && (decide (cutIn (itOf s (5 : Nat)) = cutIn (itOf s (5 : Nat))) && (decide (cutIn (itOf s (6 : Nat)) = cutIn (itOf s (6 : Nat))) && (decide (numI (itOf s (7 : Nat)) = numI (itOf s (7 : Nat))) && true))))))) = true →
 (sameC { s := (0 : Int), e := (0 : Int), b := (0 : Int), root := [], n := (0 : Nat), f := fun (_x : Nat) => [], g := fun (_x : Nat) => [], h := fun (_x : Nat) => false : Nt } { s := (0 : Int), e := (0 : Int), b := (0 : Int), root := [], n := (0 : Nat), f := fun (_x : Nat) => [], g := fun (_x : Nat) => [], h := fun (_x : Nat) => false : Nt } = true →
 s.length < (1099511627776 : Nat) ∧
 sameVal (SV.bool (false && true) (decide (kindI s = (0 : Int)))) (SV.bool false true)) ∧
 (sameC { s := (0 : Int), e := (0 : Int), b := (0 : Int), root := [], n := (0 : Nat), f := fun (_x : Nat) => [], g := fun (_x : Nat) => [], h := fun (_x : Nat) => false : Nt } { s := (0 : Int), e := (0 : Int), b := (0 : Int), root := [], n := (0 : Nat), f := fun (_x : Nat) => [], g := fun (_x : Nat) => [], h := fun (_x : Nat) => false : Nt } = false →
 sameVal (SV.bool true false) (SV.bool false true))) ∧
 ((decide (numI (itOf s (1 : Nat)) = numI (itOf s (1 : Nat))) && (decide (numI (itOf s (2 : Nat)) = numI (itOf s (2 : Nat))) && (decide (numI (itOf s (3 : Nat)) = numI (itOf s (3 : Nat))) && (decide (numI (itOf s (4 : Nat)) - (1 : Int) = numI (itOf s (4 : Nat)) - (1 : Int)) && (decide (cutIn (itOf s (5 : Nat)) = cutIn (itOf s (5 : Nat))) && (decide (cutIn (itOf s (6 : Nat)) = cutIn (itOf s (6 : Nat))) && (decide (numI (itOf s (7 : Nat)) = numI (itOf s (7 : Nat))) && true))))))) = false →
 sameVal (SV.bool true false) (SV.bool false true))) ∧
 (sameE { s := (0 : Int), q := (0 : Int), e := (0 : Int), v := (0 : Int), root := [], n := (0 : Nat), f := fun (_x : Nat) => [], g := fun (_x : Nat) => [], proof := [], more := false : Rp } { s := (0 : Int), q := (0 : Int), e := (0 : Int), v := (0 : Int), root := [], n := (0 : Nat), f := fun (_x : Nat) => [], g := fun (_x : Nat) => [], proof := [], more := false : Rp } = false →
 ((decide (numI (itOf s (1 : Nat)) = numI (itOf s (1 : Nat))) && (decide (numI (itOf s (2 : Nat)) = numI (itOf s (2 : Nat))) && (decide (numI (itOf s (3 : Nat)) = numI (itOf s (3 : Nat))) && (decide (numI (itOf s (4 : Nat)) - (1 : Int) = numI (itOf s (4 : Nat)) - (1 : Int)) && (decide (cutIn (itOf s (5 : Nat)) = cutIn (itOf s (5 : Nat))) && (decide (cutIn (itOf s (6 : Nat)) = cutIn (itOf s (6 : Nat))) && (decide (numI (itOf s (7 : Nat)) = numI (itOf s (7 : Nat))) && true))))))) = true →
 sameVal (SV.bool true false) (SV.bool false true)) ∧
 ((decide (numI (itOf s (1 : Nat)) = numI (itOf s (1 : Nat))) && (decide (numI (itOf s (2 : Nat)) = numI (itOf s (2 : Nat))) && (decide (numI (itOf s (3 : Nat)) = numI (itOf s (3 : Nat))) && (decide (numI (itOf s (4 : Nat)) - (1 : Int) = numI (itOf s (4 : Nat)) - (1 : Int)) && (decide (cutIn (itOf s (5 : Nat)) = cutIn (itOf s (5 : Nat))) && (decide (cutIn (itOf s (6 : Nat)) = cutIn (itOf s (6 : Nat))) && (decide (numI (itOf s (7 : Nat)) = numI (itOf s (7 : Nat))) && true))))))) = false →
 sameVal (SV.bool true false) (SV.bool false true))))) := by kernel_rfl
theorem vcFGets2 (s : List UInt8) : VC.holds (getsVC false true false s) = (True ∧
 (decide ((2000 : Int) < (↑s.length : Int)) = true →
 sameVal (SV.bool true true) (SV.bool false true)) ∧
 (decide ((2000 : Int) < (↑s.length : Int)) = false →
 s.length < (1099511627776 : Nat) ∧
 getAskB s = false ∧
 s.length < (1099511627776 : Nat) ∧
 getAskB s = false ∧
 s.length < (1099511627776 : Nat) ∧
 getReplyB s = true ∧
 ∀ (x : Nat), itemsN (cutIn (itOf s (6 : Nat))) ≤ x →
 s.length < (1099511627776 : Nat) ∧
 getReplyB s = true ∧
 ∀ (x : Nat), itemsN (cutIn (itOf s (6 : Nat))) ≤ x →
 s.length < (1099511627776 : Nat) ∧
 getNoticeB s = false ∧
 s.length < (1099511627776 : Nat) ∧
 getNoticeB s = false ∧
 (decide (numI (itOf s (1 : Nat)) = numI (itOf s (1 : Nat))) = true →
 (decide (numI (itOf s (2 : Nat)) = numI (itOf s (2 : Nat))) = true →
 (decide (numI (itOf s (3 : Nat)) = numI (itOf s (3 : Nat))) = true →
 (decide (numI (itOf s (4 : Nat)) = numI (itOf s (4 : Nat))) = true →
 (decide (cutIn (itOf s (5 : Nat)) = cutIn (itOf s (5 : Nat))) = true →
 (decide (cutIn (itOf s (7 : Nat)) = cutIn (itOf s (7 : Nat))) = true →
 ((decide (numI (itOf s (8 : Nat)) = (1 : Int)) == decide (numI (itOf s (8 : Nat)) = (1 : Int))) = true →
 (((false = false ∧
 (0 : Nat) + itemsN (cutIn (itOf s (6 : Nat))) ≤ itemsN (cutIn (itOf s (6 : Nat)))) ∧
 (true = true ∧
 (0 : Nat) + itemsN (cutIn (itOf s (6 : Nat))) ≤ itemsN (cutIn (itOf s (6 : Nat)))) ∧
 True) ∧
 itemsN (cutIn (itOf s (6 : Nat))) < (9223372036854775808 : Nat)) ∧
 (sameE { s := (0 : Int), q := (0 : Int), e := (0 : Int), v := (0 : Int), root := [], n := itemsN (cutIn (itOf s (6 : Nat))), f := fun (i : Nat) => cutIn (subOf (itOf s (6 : Nat)) i (0 : Nat)), g := fun (i : Nat) => cutIn (subOf (itOf s (6 : Nat)) i (1 : Nat)), proof := [], more := false : Rp } { s := (0 : Int), q := (0 : Int), e := (0 : Int), v := (0 : Int), root := [], n := itemsN (cutIn (itOf s (6 : Nat))), f := fun (i : Nat) => cutIn (subOf (itOf s (6 : Nat)) i (0 : Nat)), g := fun (i : Nat) => cutIn (subOf (itOf s (6 : Nat)) i (1 : Nat)), proof := [], more := false : Rp } = true →
 ((True ∧
 True ∧
 True) ∧
 (0 : Nat) < (9223372036854775808 : Nat)) ∧
 (sameC { s := (0 : Int), e := (0 : Int), b := (0 : Int), root := [], n := (0 : Nat), f := fun (_x : Nat) => [], g := fun (_x : Nat) => [], h := fun (_x : Nat) => false : Nt } { s := (0 : Int), e := (0 : Int), b := (0 : Int), root := [], n := (0 : Nat), f := fun (_x : Nat) => [], g := fun (_x : Nat) => [], h := fun (_x : Nat) => false : Nt } = true →
 s.length < (1099511627776 : Nat) ∧
 sameVal (SV.bool (false && true) (decide (kindI s = (1 : Int)))) (SV.bool false true)) ∧
 (sameC { s := (0 : Int), e := (0 : Int), b := (0 : Int), root := [], n := (0 : Nat), f := fun (_x : Nat) => [], g := fun (_x : Nat) => [], h := fun (_x : Nat) => false : Nt } { s := (0 : Int), e := (0 : Int), b := (0 : Int), root := [], n := (0 : Nat), f := fun (_x : Nat) => [], g := fun (_x : Nat) => [], h := fun (_x : Nat) => false : Nt } = false →
 sameVal (SV.bool true false) (SV.bool false true))) ∧
 (sameE { s := (0 : Int), q := (0 : Int), e := (0 : Int), v := (0 : Int), root := [], n := itemsN (cutIn (itOf s (6 : Nat))), f := fun (i : Nat) => cutIn (subOf (itOf s (6 : Nat)) i (0 : Nat)), g := fun (i : Nat) => cutIn (subOf (itOf s (6 : Nat)) i (1 : Nat)), proof := [], more := false : Rp } { s := (0 : Int), q := (0 : Int), e := (0 : Int), v := (0 : Int), root := [], n := itemsN (cutIn (itOf s (6 : Nat))), f := fun (i : Nat) => cutIn (subOf (itOf s (6 : Nat)) i (0 : Nat)), g := fun (i : Nat) => cutIn (subOf (itOf s (6 : Nat)) i (1 : Nat)), proof := [], more := false : Rp } = false →
 sameVal (SV.bool true false) (SV.bool false true))) ∧
 ((decide (numI (itOf s (8 : Nat)) = (1 : Int)) == decide (numI (itOf s (8 : Nat)) = (1 : Int))) = false →
 sameVal (SV.bool true false) (SV.bool false true))) ∧
 (decide (cutIn (itOf s (7 : Nat)) = cutIn (itOf s (7 : Nat))) = false →
 sameVal (SV.bool true false) (SV.bool false true))) ∧
 (decide (cutIn (itOf s (5 : Nat)) = cutIn (itOf s (5 : Nat))) = false →
 sameVal (SV.bool true false) (SV.bool false true))) ∧
 (decide (numI (itOf s (4 : Nat)) = numI (itOf s (4 : Nat))) = false →
 sameVal (SV.bool true false) (SV.bool false true))) ∧
 (decide (numI (itOf s (3 : Nat)) = numI (itOf s (3 : Nat))) = false →
 sameVal (SV.bool true false) (SV.bool false true))) ∧
 (decide (numI (itOf s (2 : Nat)) = numI (itOf s (2 : Nat))) = false →
 sameVal (SV.bool true false) (SV.bool false true))) ∧
 (decide (numI (itOf s (1 : Nat)) = numI (itOf s (1 : Nat))) = false →
 sameVal (SV.bool true false) (SV.bool false true)))) := by kernel_rfl
theorem vcFGets3 (s : List UInt8) : VC.holds (getsVC false false true s) = (True ∧
 (decide ((2000 : Int) < (↑s.length : Int)) = true →
 sameVal (SV.bool true true) (SV.bool false true)) ∧
 (decide ((2000 : Int) < (↑s.length : Int)) = false →
 s.length < (1099511627776 : Nat) ∧
 getAskB s = false ∧
 s.length < (1099511627776 : Nat) ∧
 getAskB s = false ∧
 s.length < (1099511627776 : Nat) ∧
 getReplyB s = false ∧
 s.length < (1099511627776 : Nat) ∧
 getReplyB s = false ∧
 s.length < (1099511627776 : Nat) ∧
 getNoticeB s = true ∧
 ∀ (x : Nat), itemsN (cutIn (itOf s (5 : Nat))) ≤ x →
 s.length < (1099511627776 : Nat) ∧
 getNoticeB s = true ∧
 ∀ (x : Nat), itemsN (cutIn (itOf s (5 : Nat))) ≤ x →
 ((True ∧
 True ∧
 True) ∧
 (0 : Nat) < (9223372036854775808 : Nat)) ∧
 (sameE { s := (0 : Int), q := (0 : Int), e := (0 : Int), v := (0 : Int), root := [], n := (0 : Nat), f := fun (_x : Nat) => [], g := fun (_x : Nat) => [], proof := [], more := false : Rp } { s := (0 : Int), q := (0 : Int), e := (0 : Int), v := (0 : Int), root := [], n := (0 : Nat), f := fun (_x : Nat) => [], g := fun (_x : Nat) => [], proof := [], more := false : Rp } = true →
 (decide (numI (itOf s (1 : Nat)) = numI (itOf s (1 : Nat))) = true →
 (decide (numI (itOf s (2 : Nat)) = numI (itOf s (2 : Nat))) = true →
 (decide (numI (itOf s (3 : Nat)) = numI (itOf s (3 : Nat))) = true →
 (decide (cutIn (itOf s (4 : Nat)) = cutIn (itOf s (4 : Nat))) = true →
 (((false = false ∧
 (0 : Nat) + itemsN (cutIn (itOf s (5 : Nat))) ≤ itemsN (cutIn (itOf s (5 : Nat)))) ∧
 (true = true ∧
 (0 : Nat) + itemsN (cutIn (itOf s (5 : Nat))) ≤ itemsN (cutIn (itOf s (5 : Nat)))) ∧
 True) ∧
 itemsN (cutIn (itOf s (5 : Nat))) < (9223372036854775808 : Nat)) ∧
 (sameC { s := (0 : Int), e := (0 : Int), b := (0 : Int), root := [], n := itemsN (cutIn (itOf s (5 : Nat))), f := fun (i : Nat) => cutIn (subOf (itOf s (5 : Nat)) i (0 : Nat)), g := fun (i : Nat) => cutIn (subOf (itOf s (5 : Nat)) i (1 : Nat)), h := fun (i : Nat) => decide (numI (subOf (itOf s (5 : Nat)) i (2 : Nat)) = (1 : Int)) : Nt } { s := (0 : Int), e := (0 : Int), b := (0 : Int), root := [], n := itemsN (cutIn (itOf s (5 : Nat))), f := fun (i : Nat) => cutIn (subOf (itOf s (5 : Nat)) i (0 : Nat)), g := fun (i : Nat) => cutIn (subOf (itOf s (5 : Nat)) i (1 : Nat)), h := fun (i : Nat) => decide (numI (subOf (itOf s (5 : Nat)) i (2 : Nat)) = (1 : Int)) : Nt } = true →
 s.length < (1099511627776 : Nat) ∧
 sameVal (SV.bool (false && true) (decide (kindI s = (2 : Int)))) (SV.bool false true)) ∧
 (sameC { s := (0 : Int), e := (0 : Int), b := (0 : Int), root := [], n := itemsN (cutIn (itOf s (5 : Nat))), f := fun (i : Nat) => cutIn (subOf (itOf s (5 : Nat)) i (0 : Nat)), g := fun (i : Nat) => cutIn (subOf (itOf s (5 : Nat)) i (1 : Nat)), h := fun (i : Nat) => decide (numI (subOf (itOf s (5 : Nat)) i (2 : Nat)) = (1 : Int)) : Nt } { s := (0 : Int), e := (0 : Int), b := (0 : Int), root := [], n := itemsN (cutIn (itOf s (5 : Nat))), f := fun (i : Nat) => cutIn (subOf (itOf s (5 : Nat)) i (0 : Nat)), g := fun (i : Nat) => cutIn (subOf (itOf s (5 : Nat)) i (1 : Nat)), h := fun (i : Nat) => decide (numI (subOf (itOf s (5 : Nat)) i (2 : Nat)) = (1 : Int)) : Nt } = false →
 sameVal (SV.bool true false) (SV.bool false true))) ∧
 (decide (cutIn (itOf s (4 : Nat)) = cutIn (itOf s (4 : Nat))) = false →
 sameVal (SV.bool true false) (SV.bool false true))) ∧
 (decide (numI (itOf s (3 : Nat)) = numI (itOf s (3 : Nat))) = false →
 sameVal (SV.bool true false) (SV.bool false true))) ∧
 (decide (numI (itOf s (2 : Nat)) = numI (itOf s (2 : Nat))) = false →
 sameVal (SV.bool true false) (SV.bool false true))) ∧
 (decide (numI (itOf s (1 : Nat)) = numI (itOf s (1 : Nat))) = false →
 sameVal (SV.bool true false) (SV.bool false true))) ∧
 (sameE { s := (0 : Int), q := (0 : Int), e := (0 : Int), v := (0 : Int), root := [], n := (0 : Nat), f := fun (_x : Nat) => [], g := fun (_x : Nat) => [], proof := [], more := false : Rp } { s := (0 : Int), q := (0 : Int), e := (0 : Int), v := (0 : Int), root := [], n := (0 : Nat), f := fun (_x : Nat) => [], g := fun (_x : Nat) => [], proof := [], more := false : Rp } = false →
 sameVal (SV.bool true false) (SV.bool false true)))) := by kernel_rfl
end Go.Proofs.YtocikfhejpilaaaGreatDoor
/-
  FrameGets: the run, kind by kind.
-/
namespace Go.Proofs.YtocikfhejpilaaaGreatDoor
open Go Sx
set_option maxRecDepth 20000

theorem sameE_self (x : Rp) : sameE x x = true := by
  simp only [sameE, decide_true, Bool.true_and, List.all_eq_true]
  intro i _
  simp only [rowEqE, decide_true, Bool.and_self]
theorem sameC_self (x : Nt) : sameC x x = true := by
  simp only [sameC, decide_true, Bool.true_and, List.all_eq_true]
  intro i _
  simp only [rowEqC, decide_true, Bool.and_self]
attribute [local irreducible] numI itOf subOf itemsN itemsB itemAt cutIn cutB cutL cutRest getB num getReplyB getAskB getNoticeB kindI sameE sameC
theorem fgets_0 {s : List UInt8} (a : getAskB s = false) (b : getReplyB s = false) (c : getNoticeB s = false) : Holds (getsVC false false false s) := by
  refine Holds.of_eq (vcFGets0 s) ?_
  have yes : sameVal (.bool true true) (.bool false true) := sure rfl
  simp only [yes, a, b, c, kindI_none a b c, sameE_self, sameC_self, decide_true, decide_eq_false_iff_not, eq_self, Bool.true_eq_false, false_imp_iff, forall_const, true_and, and_true, implies_true, and_self, Nat.reduceLT]
  intro h
  have h1 : s.length < 1099511627776 := by omega
  simp only [h1, true_and]
  exact sure rfl
theorem fgets_1 {s : List UInt8} (a : getAskB s = true) : Holds (getsVC true false false s) := by
  obtain ⟨b, c⟩ := one_kind.1 a
  refine Holds.of_eq (vcFGets1 s) ?_
  have yes : sameVal (.bool true true) (.bool false true) := sure rfl
  simp only [yes, a, b, c, kindI_ask a, sameE_self, sameC_self, decide_true, decide_eq_false_iff_not, eq_self, Bool.and_self, Bool.true_eq_false, false_imp_iff, forall_const, true_and, and_true, implies_true, and_self, Nat.reduceLT]
  intro h
  have h1 : s.length < 1099511627776 := by omega
  simp only [h1, true_and]
  exact sure rfl
theorem fgets_2 {s : List UInt8} (b : getReplyB s = true) : Holds (getsVC false true false s) := by
  obtain ⟨a, c⟩ := one_kind.2.1 b
  have hn : itemsN (cutIn (itOf s 6)) < 9223372036854775808 := by
    have := (Rp.ok_small (getReplyB_facts b).1).n
    have e : (replyD s).n = itemsN (cutIn (itOf s 6)) := rfl
    omega
  refine Holds.of_eq (vcFGets2 s) ?_
  have yes : sameVal (.bool true true) (.bool false true) := sure rfl
  simp only [yes, a, b, c, hn, kindI_reply b, sameE_self, sameC_self, Nat.zero_add, Nat.le_refl, decide_true, decide_eq_false_iff_not, beq_self_eq_true, eq_self, Bool.true_eq_false, false_imp_iff, forall_const, true_and, and_true, implies_true, and_self, Nat.reduceLT]
  intro h
  have h1 : s.length < 1099511627776 := by omega
  simp only [h1, true_and]
  intros; exact sure rfl
theorem fgets_3 {s : List UInt8} (c : getNoticeB s = true) : Holds (getsVC false false true s) := by
  obtain ⟨a, b⟩ := one_kind.2.2 c
  have hn : itemsN (cutIn (itOf s 5)) < 9223372036854775808 := by
    have := (Nt.ok_small (getNoticeB_facts c).1).n
    have e : (noticeD s).n = itemsN (cutIn (itOf s 5)) := rfl
    omega
  refine Holds.of_eq (vcFGets3 s) ?_
  have yes : sameVal (.bool true true) (.bool false true) := sure rfl
  simp only [yes, a, b, c, hn, kindI_notice c, sameE_self, sameC_self, Nat.zero_add, Nat.le_refl, decide_true, decide_eq_false_iff_not, eq_self, Bool.true_eq_false, false_imp_iff, forall_const, true_and, and_true, implies_true, and_self, Nat.reduceLT]
  intro h
  have h1 : s.length < 1099511627776 := by omega
  simp only [h1, true_and]
  intros; exact sure rfl
theorem fgets_calls (s : List UInt8) : ∃ cfg, Sx.Good Tryz.prog cfg ∧
    Holds (runA cfg 4 Tryz.f4 [.str false s] (.ret (.bool false true))) := by
  cases a : getAskB s with
  | true => exact ⟨_, goodFG true false false, fgets_1 a⟩
  | false =>
    cases b : getReplyB s with
    | true => exact ⟨_, goodFG false true false, fgets_2 b⟩
    | false =>
      cases c : getNoticeB s with
      | true => exact ⟨_, goodFG false false true, fgets_3 c⟩
      | false => exact ⟨_, goodFG false false false, fgets_0 a b c⟩
end Go.Proofs.YtocikfhejpilaaaGreatDoor
