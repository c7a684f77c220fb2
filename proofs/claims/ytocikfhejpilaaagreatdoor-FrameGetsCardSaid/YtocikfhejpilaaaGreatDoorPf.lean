/-
  Frame: GetReply: the contract.
-/
import Derived.Test.YtocikfhejpilaaaGreatDoorPe
import Derived.Test.YtocikfhejpilaaaGreatDoorPd
namespace Go.Proofs.YtocikfhejpilaaaGreatDoor
open Go Sx
set_option maxRecDepth 20000

theorem sble_same (B : SB) : SBle B B = True := eq_true (SBle.refl B)
theorem len_big {s t : List UInt8} (hs : s.length < 1099511627776) (h : t.length ≤ s.length) : t.length < 1152921504606846976 := by omega
theorem rows_cells {n c c' : Nat} {f : Nat → List UInt8} {l : List SV} {ty : TypeId} (h0 : 0 < n) (hn : n = l.length) (hc : c = c') (h : ∀ (i : Nat) (v : SV), l[i]? = some v → v = .str false (f i)) :
    SBle (.rows true n [.str f] false c ty) (.cells l c' ty) := by
  subst hc
  intro _
  refine ⟨SB.no_rows (i := 0) h0, fun E o ⟨ce, fr, h1, h2, h3, h4, h5⟩ => ⟨ce, fr, h1, h2 rfl, fun i v hv => ?_, h4⟩, fun _ => rfl⟩
  have hi := (List.getElem?_eq_some_iff.1 hv).1
  rw [h i v hv]
  have := h5 i 0 (.str f) (by omega) rfl
  simpa [Col.at] using this
theorem strMap_at {g : Nat → List UInt8} {n i : Nat} {v : SV} (h : ((List.range n).map fun j => SV.str false (g j))[i]? = some v) : v = .str false (g i) := by
  rw [List.getElem?_map] at h
  by_cases hi : i < n
  · rw [List.getElem?_range hi] at h
    injection h with h
    exact h.symm
  · rw [List.getElem?_eq_none (by simpa using hi)] at h; cases h
theorem nineOf (g : Nat → SV) : (List.range 9).map g = [g 0, g 1, g 2, g 3, g 4, g 5, g 6, g 7, g 8] := rfl
theorem sixOf (g : Nat → SV) : (List.range 6).map g = [g 0, g 1, g 2, g 3, g 4, g 5] := rfl
theorem strs9_at {s : List UInt8} {i : Nat} {v : SV} (h : (strs9 s)[i]? = some v) : v = .str false (itemAt (cutIn s) i) := by
  rw [strs9, ← nineOf (fun j => SV.str false (itemAt (cutIn s) j))] at h
  exact strMap_at h
theorem strs6_at {s : List UInt8} {i : Nat} {v : SV} (h : (strs6 s)[i]? = some v) : v = .str false (itemAt (cutIn s) i) := by
  rw [strs6, ← sixOf (fun j => SV.str false (itemAt (cutIn s) j))] at h
  exact strMap_at h
theorem grow2_row {F G : Nat → List UInt8} {k : Nat} {u v : List UInt8} (hu : u = F k) (hv : v = G k) {c c' : Nat} (hc : c = c') {ty : TypeId} :
    SBle (.rows false (k + 1) [.str fun j => if j < k then F j else selS [u] (j - k), .str fun j => if j < k then G j else selS [v] (j - k)] false c ty) (.rows false (k + 1) (colsE F G) false c' ty) := by
  refine Sx.SBle.rowsCongr rfl hc rfl fun i q c0 hi hq => ?_
  match q, hq with
  | 0, hq =>
    injection hq with hq; subst hq
    refine ⟨_, rfl, ?_⟩
    by_cases h : i < k
    · simp only [Col.at, if_pos h]
    · have e : i = k := by omega
      subst e; subst hu
      simp only [Col.at, if_neg h, Nat.sub_self]; rfl
  | 1, hq =>
    injection hq with hq; subst hq
    refine ⟨_, rfl, ?_⟩
    by_cases h : i < k
    · simp only [Col.at, if_pos h]
    · have e : i = k := by omega
      subst e; subst hv
      simp only [Col.at, if_neg h, Nat.sub_self]; rfl
/-- All that the reader asks of a reply's bytes is so. -/
structure ReplyFacts (s : List UInt8) : Prop where
  b : cutB s = true
  l : cutL s = true
  r : cutRest s = []
  ib : itemsB (cutIn s) = true
  n : itemsN (cutIn s) = 9
  g0 : getB (itOf s 0) = true ∧ numI (itOf s 0) = 1
  g1 : getB (itOf s 1) = true ∧ ¬ 1048577 < numI (itOf s 1)
  g2 : getB (itOf s 2) = true ∧ ¬ 1048577 < numI (itOf s 2)
  g3 : getB (itOf s 3) = true ∧ ¬ 1048577 < numI (itOf s 3)
  g4 : getB (itOf s 4) = true ∧ ¬ 1048577 < numI (itOf s 4)
  g8 : getB (itOf s 8) = true ∧ ¬ 1 < numI (itOf s 8)
  t5 : cutB (itOf s 5) = true ∧ cutL (itOf s 5) = false ∧ cutRest (itOf s 5) = []
  t7 : cutB (itOf s 7) = true ∧ cutL (itOf s 7) = false ∧ cutRest (itOf s 7) = []
  t6 : cutB (itOf s 6) = true ∧ cutL (itOf s 6) = true ∧ cutRest (itOf s 6) = [] ∧ itemsB (cutIn (itOf s 6)) = true ∧ itemsN (cutIn (itOf s 6)) ≤ 8
  row : ∀ i, i < itemsN (cutIn (itOf s 6)) → cutB (itemAt (cutIn (itOf s 6)) i) = true ∧ cutL (itemAt (cutIn (itOf s 6)) i) = true ∧ cutRest (itemAt (cutIn (itOf s 6)) i) = [] ∧
    itemsB (cutIn (itemAt (cutIn (itOf s 6)) i)) = true ∧ itemsN (cutIn (itemAt (cutIn (itOf s 6)) i)) = 2 ∧
    (cutB (subOf (itOf s 6) i 0) = true ∧ cutL (subOf (itOf s 6) i 0) = false ∧ cutRest (subOf (itOf s 6) i 0) = []) ∧
    (cutB (subOf (itOf s 6) i 1) = true ∧ cutL (subOf (itOf s 6) i 1) = false ∧ cutRest (subOf (itOf s 6) i 1) = [])
theorem num_facts {n k : Int} (h0 : 0 ≤ n) (h1 : n ≤ k) (h2 : k < 18446744073709551616) : getB (numOf n) = true ∧ ¬ k < numI (numOf n) := by
  obtain ⟨g1, _, _, _, g5⟩ := numOf_get (n := n) h0 (by omega)
  exact ⟨g1, by rw [g5]; omega⟩
theorem text_facts {b : List UInt8} (h : b.length ≤ 1048576) : cutB (textOf b) = true ∧ cutL (textOf b) = false ∧ cutRest (textOf b) = [] := text_one h
theorem reply_facts {s : List UInt8} (hB : getReplyB s = true) : ReplyFacts s := by
  have m := getReplyB_meets hB
  have ok := (getReplyB_iff.1 hB).1
  generalize replyD s = x at m ok
  have hs := m.small
  obtain ⟨h1, h2, h3, h4, h5, h6, h7, h8⟩ := m.small
  have R := Rp.rows_cut hs
  have en : itemsN (cutIn (itOf s 6)) = x.n := by rw [m.i6, R.n]; exact rowL_len _ _ _
  constructor
  · exact m.c.b
  · exact m.c.li
  · exact m.c.r
  · exact m.c.ib
  · rw [m.c.n]; rfl
  · rw [m.i0]; exact ⟨(num_facts (n := 1) (k := 1) (by omega) (by omega) (by omega)).1, numI_num (by omega) (by omega)⟩
  · rw [m.i1]; exact num_facts (by omega) (by omega) (by omega)
  · rw [m.i2]; exact num_facts (by omega) (by omega) (by omega)
  · rw [m.i3]; exact num_facts (by omega) (by omega) (by omega)
  · rw [m.i4]; exact num_facts (by omega) (by omega) (by omega)
  · rw [m.i8]; obtain ⟨a, b⟩ := flagB_get x.more
    refine ⟨a, ?_⟩
    rw [b]; cases x.more <;> simp
  · rw [m.i5]; exact text_facts (by omega)
  · rw [m.i7]; exact text_facts (by omega)
  · rw [m.i6]; exact ⟨R.b, R.li, R.r, R.ib, by rw [R.n]; have : x.rows.length = x.n := rowL_len _ _ _; omega⟩
  · intro i hi
    rw [en] at hi
    have c := rowE_cut hs hi
    have r := h7 i hi
    simp only [subOf, m.row i hi, c.at' 0 _ rfl, c.at' 1 _ rfl]
    exact ⟨c.b, c.li, c.r, c.ib, by rw [c.n]; rfl, text_facts (by omega), text_facts (by omega)⟩
end Go.Proofs.YtocikfhejpilaaaGreatDoor
/-
  Frame: GetReply: the contract.
-/
namespace Go.Proofs.YtocikfhejpilaaaGreatDoor
open Go Sx
set_option maxRecDepth 20000

/-- Cells that hold the same, whatever is known of them. -/
def CE (cs cs' : List SV) : Prop := ∀ E, cs'.map (SV.val E) = cs.map (SV.val E)
theorem ce_nil : CE [] [] := fun _ => rfl
theorem ce_cons {v v' : SV} {l l' : List SV} (h : ∀ E, v'.val E = v.val E) (t : CE l l') : CE (v :: l) (v' :: l') := fun E => by simp only [List.map_cons, h E, t E]
theorem ce_int {k : IntKind} {a b : Bool} {n : Int} {l l' : List SV} (t : CE l l') : CE (.int k a n :: l) (.int k b n :: l') := ce_cons (fun _ => rfl) t
theorem ce_bool {a b n : Bool} {l l' : List SV} (t : CE l l') : CE (.bool a n :: l) (.bool b n :: l') := ce_cons (fun _ => rfl) t
theorem ce_str {a b : Bool} {n : List UInt8} {l l' : List SV} (t : CE l l') : CE (.str a n :: l) (.str b n :: l') := ce_cons (fun _ => rfl) t
theorem ce_err {n : Int} {l l' : List SV} (t : CE l l') : CE (.iface 117 (.agg [.int .i64 true n, .iface 24 (.int .i64 true 2)]) :: l) (errW n :: l') := ce_cons (fun _ => rfl) t
theorem ce_same {v : SV} {l l' : List SV} (t : CE l l') : CE (v :: l) (v :: l') := ce_cons (fun _ => rfl) t
theorem sble_ce {cs cs' : List SV} {tot : Nat} {ty : TypeId} (h : CE cs cs') : SBle (.cells cs tot ty) (.cells cs' tot ty) := SBle.cells h rfl
theorem reply_none : sameVal (.tup [.agg [.int .i64 true 0, .int .i64 true 0, .int .i64 true 0, .int .i64 true 0, .str true [], .nilslc, .str true [], .bool true false], .int .i64 true 2]) (.tup [noReply, .int .i64 true 2]) := fun _ => rfl
theorem notice_none : sameVal (.tup [.agg [.int .i64 true 0, .int .i64 true 0, .int .i64 true 0, .str true [], .nilslc], .int .i64 true 2]) (.tup [noNotice, .int .i64 true 2]) := fun _ => rfl
theorem bnd32 {n : Nat} (h : ¬ (80 : Int) < (n : Int)) : 0 ≤ (n : Int) ∧ 32 * (n : Int) ≤ 140737488355328 ∧ (n : Int) ≤ 9223372036854775807 := by omega
theorem grow_cols {n : Nat} {y : Nat × Nat} (h : Grow n y) (hk : ¬ (y.1 : Int) < (n : Int)) : y.1 = n := by have := h.le; omega
theorem nine_len {s : List UInt8} {n : Nat} (h : n = 9) : n = (strs9 s).length := by rw [h, strs9]; rfl
theorem six_len {s : List UInt8} {n : Nat} (h : n = 6) : n = (strs6 s).length := by rw [h, strs6]; rfl
theorem grow_less {n : Nat} {y : Nat × Nat} {c : Nat} (h : (y.1 : Int) < (n : Int)) : n - ((y.1 + 1, c) : Nat × Nat).1 < n - y.1 := by show n - (y.1 + 1) < n - y.1; omega
theorem grow_cast (y : Nat × Nat) {c : Nat} : (y.1 : Int) + 1 = (((y.1 + 1, c) : Nat × Nat).1 : Int) := by show (y.1 : Int) + 1 = ((y.1 + 1 : Nat) : Int); omega
theorem grow_end {n : Nat} {y : Nat × Nat} (h : Grow n y) (hk : ¬ (y.1 : Int) < (n : Int)) : n ≤ y.2 := by have := h.le; have := h.cap; omega
theorem itOf_le (s : List UInt8) (k : Nat) : (itOf s k).length ≤ s.length := Nat.le_trans (itemAt_le _ _) (cutIn_le _)
theorem subOf_le (t : List UInt8) (i j : Nat) : (subOf t i j).length ≤ t.length := Nat.le_trans (Nat.le_trans (itemAt_le _ _) (cutIn_le _)) (Nat.le_trans (itemAt_le _ _) (cutIn_le _))
theorem numI_nn (t : List UInt8) : 0 ≤ numI t := num_nn _
theorem itOf_eq (s : List UInt8) (k : Nat) : itemAt (cutIn s) k = itOf s k := rfl
theorem subOf_eq (t : List UInt8) (i j : Nat) : itemAt (cutIn (itemAt (cutIn t) i)) j = subOf t i j := rfl
attribute [local irreducible] numI itOf subOf itemsN itemsB itemAt cutIn cutB cutL cutRest getB num getReplyB
set_option maxHeartbeats 800000 in
theorem getreply_holds {s : List UInt8} (hs : s.length < 1099511627776) : Holds (runA (cfgGR s) 21 Tryz.f21 [.str false s] (getReplyA s)) := by
  refine Holds.of_eq (vcFGR s) ?_
  have ex : ({ s := numI (itOf s 1), q := numI (itOf s 2), e := numI (itOf s 3), v := numI (itOf s 4), root := cutIn (itOf s 5), n := itemsN (cutIn (itOf s 6)), f := fun i => cutIn (subOf (itOf s 6) i 0), g := fun i => cutIn (subOf (itOf s 6) i 1), proof := cutIn (itOf s 7), more := decide (numI (itOf s 8) = 1) } : Rp) = replyD s := by simp only [replyD]
  have hi := itOf_eq s
  have hi2 := subOf_eq (itOf s 6)
  have l1 : ∀ k, (itOf s k).length ≤ s.length := fun k => itOf_le s k
  have l2 : ∀ i, (itemAt (cutIn (itOf s 6)) i).length ≤ s.length := fun i => Nat.le_trans (Nat.le_trans (itemAt_le _ _) (cutIn_le _)) (l1 6)
  have l3 : ∀ i j, (subOf (itOf s 6) i j).length ≤ s.length := fun i j => Nat.le_trans (subOf_le _ i j) (l1 6)
  have b1 : ∀ k, (itOf s k).length < 1152921504606846976 := fun k => len_big hs (l1 k)
  have b2 : ∀ i, (itemAt (cutIn (itOf s 6)) i).length < 1152921504606846976 := fun i => len_big hs (l2 i)
  have b3 : ∀ i j, (subOf (itOf s 6) i j).length < 1152921504606846976 := fun i j => len_big hs (l3 i j)
  have b4 : (cutIn (itOf s 6)).length < 1099511627776 := Nat.lt_of_le_of_lt (Nat.le_trans (cutIn_le _) (l1 6)) hs
  have b5 : ∀ i, (cutIn (itemAt (cutIn (itOf s 6)) i)).length < 1099511627776 := fun i => Nat.lt_of_le_of_lt (Nat.le_trans (cutIn_le _) (l2 i)) hs
  have b6 : (cutIn s).length < 1099511627776 := Nat.lt_of_le_of_lt (cutIn_le _) hs
  have b7 : s.length < 1152921504606846976 := by omega
  have hn : ∀ k, 0 ≤ numI (itOf s k) := fun k => numI_nn _
  simp only [hi, hi2, numI_eq, ex, b1, b2, b3, b4, b5, b6, b7, sble_same, Int.toNat_natCast, Nat.zero_add, true_and, and_true, exists_const, implies_true, forall_const, decide_eq_true_eq, decide_eq_false_iff_not, Bool.not_eq_true', Bool.not_eq_false']
  have z : (0 : Nat) < 1152921504606846976 := by omega
  have up : ∀ k, ¬ (1048577 < numI (itOf s k)) → -9223372036854775808 ≤ numI (itOf s k) ∧ numI (itOf s k) ≤ 9223372036854775807 := fun k h => by have := hn k; omega
  cases hB : getReplyB s with
  | false =>
    have hno : ¬ ((replyD s).ok = true ∧ (replyD s).put = s) := fun h => by rw [getReplyB_iff.2 h] at hB; cases hB
    simp only [z, Bool.false_eq_true, false_imp_iff, forall_const, true_and]
    repeat' first
      | exact up _ (by assumption)
      | exact bnd32 (by assumption)
      | refine And.intro ?_ ?_
      | exact ⟨(_, _, _, _), SBle.cells (fun _ => rfl) rfl, SBle.cells (fun _ => rfl) rfl, SBle.cells (fun _ => rfl) rfl⟩
      | exact ⟨(_, _), SBle.cells (fun _ => rfl) rfl, SBle.cells (fun _ => rfl) rfl⟩
      | exact ⟨_, SBle.cells (fun _ => rfl) rfl⟩
      | exact SBle.cells (fun _ => rfl) rfl
      | intro (_ : _ = _)
      | intro (_ : ¬ _)
      | intro (_ : _ < _)
      | intro (_ : (_ : Int) ≤ _)
      | intro (y : Nat × Nat) (hy : Grow _ y)
      | intro (c : Nat) (hc : _ ≤ c)
      | fail
    all_goals first
      | omega
      | exact reply_none
      | exact ⟨c, by omega, ⟨by omega, rfl⟩, by omega, rows_cells (by omega) (nine_len (by omega)) rfl (fun i v h => strs9_at h)⟩
      | exact ⟨(0, _), ⟨Nat.zero_le _, Nat.zero_le _⟩, rfl, ⟨rfl, rfl⟩, Sx.SBle.empty rfl⟩
      | exact ⟨y.2, grow_end hy (by assumption), ⟨grow_cols hy (by assumption), rfl⟩, by rw [grow_cols hy (by assumption)]; exact SBle.refl _⟩
      | (exfalso; exact hno ⟨by assumption, by assumption⟩)
      | exact ⟨(y.1 + 1, c), ⟨grow_next (_k := 0) hy (by assumption) hc, grow_less (by assumption)⟩, grow_cast y, ⟨rfl, rfl⟩, grow2_row (F := fun i => cutIn (subOf (itOf s 6) i 0)) (G := fun i => cutIn (subOf (itOf s 6) i 1)) rfl rfl rfl⟩
  | true =>
    have r := reply_facts hB
    obtain ⟨ok, put⟩ := getReplyB_iff.1 hB
    obtain ⟨t1, t2, t3, t4, t5⟩ := r.t6
    have row := r.row
    have h9 : ((9 : Nat) : Int) = 9 := rfl
    have u1 := up 1 r.g1.2
    have u2 := up 2 r.g2.2
    have u3 := up 3 r.g3.2
    have u4 := up 4 r.g4.2
    have q8 : ¬ (1048577 : Int) < numI (itOf s 8) := by have := r.g8.2; omega
    have u8 := up 8 q8
    have v1 : (-9223372036854775808 : Int) ≤ 1 ∧ (1 : Int) ≤ 9223372036854775807 := by omega
    have n32 := bnd32 (n := itemsN (cutIn (itOf s 6))) (by omega)
    have n80 : ¬ (80 : Int) < (itemsN (cutIn (itOf s 6)) : Int) := by omega
    have l0 := r.g0.2
    have z0 : ¬ (1048577 : Int) < 1 := by omega
    simp only [z, ok, put, r.b, r.l, r.r, r.ib, h9, r.n, r.g0, r.g1, r.g2, r.g3, r.g4, r.g8, r.t5, r.t7, t1, t2, t3, t4, n80, z0, u1, u2, u3, u4, q8, u8, v1, n32, Bool.false_eq_true, Bool.true_eq_false, false_imp_iff, forall_const, true_and, and_true, not_true_eq_false, not_false_eq_true]
    repeat' first
      | exact up _ (by assumption)
      | exact bnd32 (by assumption)
      | refine And.intro ?_ ?_
      | intro (y : Nat × Nat) (hy : Grow _ y)
      | intro (c : Nat) (hc : _ ≤ c)
      | fail
    · exact ⟨c, hc, rfl, by omega, rows_cells (by omega) (nine_len rfl) rfl (fun i v h => strs9_at h)⟩
    · exact ⟨(0, _), ⟨Nat.zero_le _, Nat.zero_le _⟩, rfl, ⟨rfl, rfl⟩, Sx.SBle.empty rfl⟩
    · intro hk
      obtain ⟨r1, r2, r3, r4, r5, ⟨r6, r7, r8⟩, ⟨r9, r10, r11⟩⟩ := row y.1 (by omega)
      have k0 : (0 : Int) ≤ (y.1 : Int) := by omega
      have h2 : ((2 : Nat) : Int) = 2 := rfl
      simp only [hk, k0, r1, r2, r3, r4, r5, r6, r7, r8, r9, r10, r11, h2, Bool.false_eq_true, Bool.true_eq_false, false_imp_iff, forall_const, true_and, and_true, not_true_eq_false]
      have hy2 := hy.le
      refine ⟨by omega, fun c2 _ => ⟨fun h => absurd h (by omega), fun _ => ⟨by omega, by omega, fun h => absurd h (by omega), fun _ => ⟨by omega, by omega, by omega, fun c hc => ⟨by omega, ?_⟩⟩⟩⟩⟩
      exact ⟨(y.1 + 1, c), ⟨grow_next (_k := 0) hy hk hc, grow_less hk⟩, grow_cast y, ⟨rfl, rfl⟩, grow2_row (F := fun i => cutIn (subOf (itOf s 6) i 0)) (G := fun i => cutIn (subOf (itOf s 6) i 1)) rfl rfl rfl⟩
    · intro hk
      exact ⟨y.2, grow_end hy hk, ⟨grow_cols hy hk, rfl⟩, by rw [grow_cols hy hk]; exact SBle.refl _⟩
    · exact SBle.cells (fun _ => rfl) rfl
    · exact Nat.le_refl _
    · refine ⟨c, hc, SBle.refl _, fun E => ?_⟩
      simp only [replyD]
      rfl
def fgrSpec : List SV → Option (Prop × Ans)
  | [.str false s] => some (s.length < 1099511627776, getReplyA s)
  | _ => none
theorem fgr_ok : CallOk Tryz.prog 21 (ansPT fgrSpec) := by
  refine ans_ok (n := 20) (fn := Tryz.f21) Tryz.func21 (by kernel_rfl) (by kernel_rfl) ?_
  intro args p a h hp
  unfold fgrSpec at h
  split at h
  · rename_i s
    injection h with h; injection h with h1 h2; subst h1; subst h2
    refine ⟨_, goodGR s, rfl, fun b => ?_, getreply_holds hp⟩
    cases b with
    | false => exact rfl
    | true =>
      intro c
      refine ⟨rfl, rfl, fun k => ?_, fun E E' k k' h => ?_⟩
      · simp [Rp.sv, SV.wf, SV.wfs, Nat.blt_eq]
      · have hk : E k = E' k' := h rfl
        simp only [SV.val, SV.vals, Rp.sv, hk]
  · cases h
end Go.Proofs.YtocikfhejpilaaaGreatDoor
