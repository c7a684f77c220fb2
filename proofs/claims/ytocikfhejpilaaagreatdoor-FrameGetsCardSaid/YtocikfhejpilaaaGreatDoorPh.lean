/-
  Frame: GetNotice: the contract.
-/
import Derived.Test.YtocikfhejpilaaaGreatDoorPg
import Derived.Test.YtocikfhejpilaaaGreatDoorPf
import Derived.Test.YtocikfhejpilaaaGreatDoorPd
import Derived.Test.YtocikfhejpilaaaGreatDoorOd
namespace Go.Proofs.YtocikfhejpilaaaGreatDoor
open Go Sx
set_option maxRecDepth 20000

theorem grow3_row {F G : Nat → List UInt8} {H : Nat → Bool} {k : Nat} {u v : List UInt8} {b : Bool} (hu : u = F k) (hv : v = G k) (hb : b = H k) {c c' : Nat} (hc : c = c') {ty : TypeId} :
    SBle (.rows false (k + 1) [.str fun j => if j < k then F j else selS [u] (j - k), .str fun j => if j < k then G j else selS [v] (j - k), .bool fun j => if j < k then H j else selB [b] (j - k)] false c ty) (.rows false (k + 1) (colsC F G H) false c' ty) := by
  refine Sx.SBle.rowsCongr rfl hc rfl fun i q c0 hi hq => ?_
  match q, hq with
  | 0, hq =>
    injection hq with hq; subst hq
    refine ⟨_, rfl, ?_⟩
    by_cases h : i < k
    · simp only [Col.at, if_pos h]
    · have e : i = k := by omega
      subst e; subst hu
      simp only [Col.at, if_neg h, Nat.sub_self]; rfl
  | 1, hq =>
    injection hq with hq; subst hq
    refine ⟨_, rfl, ?_⟩
    by_cases h : i < k
    · simp only [Col.at, if_pos h]
    · have e : i = k := by omega
      subst e; subst hv
      simp only [Col.at, if_neg h, Nat.sub_self]; rfl
  | 2, hq =>
    injection hq with hq; subst hq
    refine ⟨_, rfl, ?_⟩
    by_cases h : i < k
    · simp only [Col.at, if_pos h]
    · have e : i = k := by omega
      subst e; subst hb
      simp only [Col.at, if_neg h, Nat.sub_self]; rfl
theorem bnd40 {n : Nat} (h : ¬ (80 : Int) < (n : Int)) : 0 ≤ (n : Int) ∧ 40 * (n : Int) ≤ 140737488355328 ∧ (n : Int) ≤ 9223372036854775807 := by omega
/-- All that the reader asks of a notice's bytes is so. -/
structure NoticeFacts (s : List UInt8) : Prop where
  b : cutB s = true
  l : cutL s = true
  r : cutRest s = []
  ib : itemsB (cutIn s) = true
  n : itemsN (cutIn s) = 6
  g0 : getB (itOf s 0) = true ∧ numI (itOf s 0) = 2
  g1 : getB (itOf s 1) = true ∧ ¬ 1048577 < numI (itOf s 1)
  g2 : getB (itOf s 2) = true ∧ ¬ 1048577 < numI (itOf s 2)
  g3 : getB (itOf s 3) = true ∧ ¬ 1048577 < numI (itOf s 3)
  t4 : cutB (itOf s 4) = true ∧ cutL (itOf s 4) = false ∧ cutRest (itOf s 4) = []
  t5 : cutB (itOf s 5) = true ∧ cutL (itOf s 5) = true ∧ cutRest (itOf s 5) = [] ∧ itemsB (cutIn (itOf s 5)) = true ∧ itemsN (cutIn (itOf s 5)) ≤ 80
  row : ∀ i, i < itemsN (cutIn (itOf s 5)) → cutB (itemAt (cutIn (itOf s 5)) i) = true ∧ cutL (itemAt (cutIn (itOf s 5)) i) = true ∧ cutRest (itemAt (cutIn (itOf s 5)) i) = [] ∧
    itemsB (cutIn (itemAt (cutIn (itOf s 5)) i)) = true ∧ itemsN (cutIn (itemAt (cutIn (itOf s 5)) i)) = 3 ∧
    (cutB (subOf (itOf s 5) i 0) = true ∧ cutL (subOf (itOf s 5) i 0) = false ∧ cutRest (subOf (itOf s 5) i 0) = []) ∧
    (cutB (subOf (itOf s 5) i 1) = true ∧ cutL (subOf (itOf s 5) i 1) = false ∧ cutRest (subOf (itOf s 5) i 1) = []) ∧
    (getB (subOf (itOf s 5) i 2) = true ∧ ¬ 1 < numI (subOf (itOf s 5) i 2))
theorem notice_facts {s : List UInt8} (hB : getNoticeB s = true) : NoticeFacts s := by
  have m := getNoticeB_meets hB
  have ok := (getNoticeB_iff.1 hB).1
  generalize noticeD s = x at m ok
  have hs := m.small
  obtain ⟨h1, h2, h3, h5, h6, h7⟩ := m.small
  have R := Nt.rows_cut hs
  have en : itemsN (cutIn (itOf s 5)) = x.n := by rw [m.i5, R.n]; exact rowL_len _ _ _
  constructor
  · exact m.c.b
  · exact m.c.li
  · exact m.c.r
  · exact m.c.ib
  · rw [m.c.n]; rfl
  · rw [m.i0]; exact ⟨(num_facts (n := 2) (k := 2) (by omega) (by omega) (by omega)).1, numI_num (by omega) (by omega)⟩
  · rw [m.i1]; exact num_facts (by omega) (by omega) (by omega)
  · rw [m.i2]; exact num_facts (by omega) (by omega) (by omega)
  · rw [m.i3]; exact num_facts (by omega) (by omega) (by omega)
  · rw [m.i4]; exact text_facts (by omega)
  · rw [m.i5]; exact ⟨R.b, R.li, R.r, R.ib, by rw [R.n]; have : x.rows.length = x.n := rowL_len _ _ _; omega⟩
  · intro i hi
    rw [en] at hi
    have c := rowC_cut hs hi
    have r := h7 i hi
    obtain ⟨fa, fb⟩ := flagB_get (x.h i)
    simp only [subOf, m.row i hi, c.at' 0 _ rfl, c.at' 1 _ rfl, c.at' 2 _ rfl]
    exact ⟨c.b, c.li, c.r, c.ib, by rw [c.n]; rfl, text_facts (by omega), text_facts (by omega), fa, by rw [fb]; cases x.h i <;> simp⟩
attribute [local irreducible] numI itOf subOf itemsN itemsB itemAt cutIn cutB cutL cutRest getB num getNoticeB
set_option maxHeartbeats 800000 in
theorem getnotice_holds {s : List UInt8} (hs : s.length < 1099511627776) : Holds (runA (cfgGN s) 23 Tryz.f23 [.str false s] (getNoticeA s)) := by
  refine Holds.of_eq (vcFGN s) ?_
  have ex : ({ s := numI (itOf s 1), e := numI (itOf s 2), b := numI (itOf s 3), root := cutIn (itOf s 4), n := itemsN (cutIn (itOf s 5)), f := fun i => cutIn (subOf (itOf s 5) i 0), g := fun i => cutIn (subOf (itOf s 5) i 1), h := fun i => decide (numI (subOf (itOf s 5) i 2) = 1) } : Nt) = noticeD s := by simp only [noticeD]
  have hi := itOf_eq s
  have hi2 := subOf_eq (itOf s 5)
  have l1 : ∀ k, (itOf s k).length ≤ s.length := fun k => itOf_le s k
  have l2 : ∀ i, (itemAt (cutIn (itOf s 5)) i).length ≤ s.length := fun i => Nat.le_trans (Nat.le_trans (itemAt_le _ _) (cutIn_le _)) (l1 5)
  have l3 : ∀ i j, (subOf (itOf s 5) i j).length ≤ s.length := fun i j => Nat.le_trans (subOf_le _ i j) (l1 5)
  have b1 : ∀ k, (itOf s k).length < 1152921504606846976 := fun k => len_big hs (l1 k)
  have b2 : ∀ i, (itemAt (cutIn (itOf s 5)) i).length < 1152921504606846976 := fun i => len_big hs (l2 i)
  have b3 : ∀ i j, (subOf (itOf s 5) i j).length < 1152921504606846976 := fun i j => len_big hs (l3 i j)
  have b4 : (cutIn (itOf s 5)).length < 1099511627776 := Nat.lt_of_le_of_lt (Nat.le_trans (cutIn_le _) (l1 5)) hs
  have b5 : ∀ i, (cutIn (itemAt (cutIn (itOf s 5)) i)).length < 1099511627776 := fun i => Nat.lt_of_le_of_lt (Nat.le_trans (cutIn_le _) (l2 i)) hs
  have b6 : (cutIn s).length < 1099511627776 := Nat.lt_of_le_of_lt (cutIn_le _) hs
  have b7 : s.length < 1152921504606846976 := by omega
  have hn : ∀ k, 0 ≤ numI (itOf s k) := fun k => numI_nn _
  simp only [hi, hi2, numI_eq, ex, b1, b2, b3, b4, b5, b6, b7, sble_same, Int.toNat_natCast, Nat.zero_add, true_and, and_true, exists_const, implies_true, forall_const, decide_eq_true_eq, decide_eq_false_iff_not, Bool.not_eq_true', Bool.not_eq_false']
  have z : (0 : Nat) < 1152921504606846976 := by omega
  have hn2 : ∀ i j, 0 ≤ numI (subOf (itOf s 5) i j) := fun i j => numI_nn _
  have up2 : ∀ i j, ¬ (1048577 < numI (subOf (itOf s 5) i j)) → -9223372036854775808 ≤ numI (subOf (itOf s 5) i j) ∧ numI (subOf (itOf s 5) i j) ≤ 9223372036854775807 := fun i j h => by have := hn2 i j; omega
  have up : ∀ k, ¬ (1048577 < numI (itOf s k)) → -9223372036854775808 ≤ numI (itOf s k) ∧ numI (itOf s k) ≤ 9223372036854775807 := fun k h => by have := hn k; omega
  cases hB : getNoticeB s with
  | false =>
    have hno : ¬ ((noticeD s).ok = true ∧ (noticeD s).put = s) := fun h => by rw [getNoticeB_iff.2 h] at hB; cases hB
    simp only [z, Bool.false_eq_true, false_imp_iff, forall_const, true_and]
    repeat' first
      | exact up _ (by assumption)
      | exact up2 _ _ (by assumption)
      | exact bnd40 (by assumption)
      | refine And.intro ?_ ?_
      | exact ⟨(_, _, _), SBle.cells (fun _ => rfl) rfl, SBle.cells (fun _ => rfl) rfl, SBle.cells (fun _ => rfl) rfl⟩
      | exact ⟨(_, _), SBle.cells (fun _ => rfl) rfl, SBle.cells (fun _ => rfl) rfl⟩
      | exact ⟨_, SBle.cells (fun _ => rfl) rfl⟩
      | exact SBle.cells (fun _ => rfl) rfl
      | intro (_ : _ = _)
      | intro (_ : ¬ _)
      | intro (_ : _ < _)
      | intro (_ : (_ : Int) ≤ _)
      | intro (y : Nat × Nat) (hy : Grow _ y)
      | intro (c : Nat) (hc : _ ≤ c)
      | fail
    all_goals first
      | omega
      | exact notice_none
      | exact ⟨c, by omega, ⟨by omega, rfl⟩, by omega, rows_cells (by omega) (six_len (by omega)) rfl (fun i v h => strs6_at h)⟩
      | exact ⟨(0, _), ⟨Nat.zero_le _, Nat.zero_le _⟩, rfl, ⟨rfl, rfl⟩, Sx.SBle.empty rfl⟩
      | exact ⟨y.2, grow_end hy (by assumption), ⟨grow_cols hy (by assumption), rfl⟩, by rw [grow_cols hy (by assumption)]; exact SBle.refl _⟩
      | (exfalso; exact hno ⟨by assumption, by assumption⟩)
      | exact ⟨(y.1 + 1, c), ⟨grow_next (_k := 0) hy (by assumption) hc, grow_less (by assumption)⟩, grow_cast y, ⟨rfl, rfl⟩, grow3_row (F := fun i => cutIn (subOf (itOf s 5) i 0)) (G := fun i => cutIn (subOf (itOf s 5) i 1)) (H := fun i => decide (numI (subOf (itOf s 5) i 2) = 1)) rfl rfl rfl rfl⟩
  | true =>
    have r := notice_facts hB
    obtain ⟨ok, put⟩ := getNoticeB_iff.1 hB
    obtain ⟨t1, t2, t3, t4, t5⟩ := r.t5
    have row := r.row
    have h9 : ((6 : Nat) : Int) = 6 := rfl
    have u1 := up 1 r.g1.2
    have u2 := up 2 r.g2.2
    have u3 := up 3 r.g3.2
    have v1 : (-9223372036854775808 : Int) ≤ 2 ∧ (2 : Int) ≤ 9223372036854775807 := by omega
    have n32 := bnd40 (n := itemsN (cutIn (itOf s 5))) (by omega)
    have n80 : ¬ (80 : Int) < (itemsN (cutIn (itOf s 5)) : Int) := by omega
    have l0 := r.g0.2
    have z0 : ¬ (1048577 : Int) < 2 := by omega
    simp only [z, ok, put, r.b, r.l, r.r, r.ib, h9, r.n, r.g0, r.g1, r.g2, r.g3, r.t4, t1, t2, t3, t4, n80, z0, u1, u2, u3, v1, n32, Bool.false_eq_true, Bool.true_eq_false, false_imp_iff, forall_const, true_and, and_true, not_true_eq_false, not_false_eq_true]
    repeat' first
      | exact up _ (by assumption)
      | exact bnd40 (by assumption)
      | refine And.intro ?_ ?_
      | intro (y : Nat × Nat) (hy : Grow _ y)
      | intro (c : Nat) (hc : _ ≤ c)
      | fail
    · exact ⟨c, hc, rfl, by omega, rows_cells (by omega) (six_len rfl) rfl (fun i v h => strs6_at h)⟩
    · exact ⟨(0, _), ⟨Nat.zero_le _, Nat.zero_le _⟩, rfl, ⟨rfl, rfl⟩, Sx.SBle.empty rfl⟩
    · intro hk
      obtain ⟨r1, r2, r3, r4, r5, ⟨r6, r7, r8⟩, ⟨r9, r10, r11⟩, r12, r13⟩ := row y.1 (by omega)
      have k0 : (0 : Int) ≤ (y.1 : Int) := by omega
      have h2 : ((3 : Nat) : Int) = 3 := rfl
      have q2 : ¬ (1048577 : Int) < numI (subOf (itOf s 5) y.1 2) := by omega
      have u2 := up2 y.1 2 q2
      simp only [hk, k0, r1, r2, r3, r4, r5, r6, r7, r8, r9, r10, r11, r12, r13, q2, u2, h2, Bool.false_eq_true, Bool.true_eq_false, false_imp_iff, forall_const, true_and, and_true, not_true_eq_false, not_false_eq_true]
      have hy2 := hy.le
      refine ⟨by omega, fun c2 _ => ⟨fun h => absurd h (by omega), fun _ => ⟨by omega, by omega, fun h => absurd h (by omega), fun _ => ⟨by omega, by omega, fun h => absurd h (by omega), fun _ => ⟨by omega, by omega, by omega, fun c hc => ⟨by omega, ?_⟩⟩⟩⟩⟩⟩
      exact ⟨(y.1 + 1, c), ⟨grow_next (_k := 0) hy hk hc, grow_less hk⟩, grow_cast y, ⟨rfl, rfl⟩, grow3_row (F := fun i => cutIn (subOf (itOf s 5) i 0)) (G := fun i => cutIn (subOf (itOf s 5) i 1)) (H := fun i => decide (numI (subOf (itOf s 5) i 2) = 1)) rfl rfl rfl rfl⟩
    · intro hk
      exact ⟨y.2, grow_end hy hk, ⟨grow_cols hy hk, rfl⟩, by rw [grow_cols hy hk]; exact SBle.refl _⟩
    · exact Nat.le_refl _
    · refine ⟨c, hc, SBle.refl _, fun E => ?_⟩
      simp only [noticeD]
      rfl
def fgnSpec : List SV → Option (Prop × Ans)
  | [.str false s] => some (s.length < 1099511627776, getNoticeA s)
  | _ => none
theorem fgn_ok : CallOk Tryz.prog 23 (ansPT fgnSpec) := by
  refine ans_ok (n := 20) (fn := Tryz.f23) Tryz.func23 (by kernel_rfl) (by kernel_rfl) ?_
  intro args p a h hp
  unfold fgnSpec at h
  split at h
  · rename_i s
    injection h with h; injection h with h1 h2; subst h1; subst h2
    refine ⟨_, goodGN s, rfl, fun b => ?_, getnotice_holds hp⟩
    cases b with
    | false => exact rfl
    | true =>
      intro c
      refine ⟨rfl, rfl, fun k => ?_, fun E E' k k' h => ?_⟩
      · simp [Nt.sv, SV.wf, SV.wfs, Nat.blt_eq]
      · have hk : E k = E' k' := h rfl
        simp only [SV.val, SV.vals, Nt.sv, hk]
  · cases h
end Go.Proofs.YtocikfhejpilaaaGreatDoor
/-
  Frame: Kind: the set-up.
-/
namespace Go.Proofs.YtocikfhejpilaaaGreatDoor
open Go Sx
set_option maxRecDepth 20000

noncomputable def listF8 : List (FuncId × PT) := (21, ansPT fgrSpec) :: (23, ansPT fgnSpec) :: listF7
theorem listF8_ok : SummOk Tryz.prog (fun f => lookPT f listF8) := .cons fgr_ok (ansPT_mono _) (.cons fgn_ok (ansPT_mono _) listF7_ok)
noncomputable def cfgF8 : Cfg := { cfg0 with summ := fun f => lookPT f listF8 }
theorem goodF8 : Sx.Good Tryz.prog cfgF8 := ⟨mixes, listF8_ok, fns_ok⟩
def kindI (s : List UInt8) : Int := bif getAskB s then 0 else bif getReplyB s then 1 else bif getNoticeB s then 2 else -1
end Go.Proofs.YtocikfhejpilaaaGreatDoor
/-
  Conditions that the executor computes, written out by a program (vcgen.py).
-/
namespace Go.Proofs.YtocikfhejpilaaaGreatDoor
open Go Sx
set_option maxRecDepth 20000

theorem vcFKind (s : List UInt8) (R : SV → Prop) : VC.holds (runP cfgF8 27 Tryz.f27 [.str false s] R) = (s.length < (1099511627776 : Nat) ∧
 (getAskB s = true →
 R (SV.int IntKind.i64 true (0 : Int))) ∧
 (getAskB s = false →
 s.length < (1099511627776 : Nat) ∧
 (getReplyB s = true →
 ∀ (x : Nat), itemsN (cutIn (itOf s (6 : Nat))) ≤ x →
 R (SV.int IntKind.i64 true (1 : Int))) ∧
 (getReplyB s = false →
 s.length < (1099511627776 : Nat) ∧
 (getNoticeB s = true →
 ∀ (x : Nat), itemsN (cutIn (itOf s (5 : Nat))) ≤ x →
 R (SV.int IntKind.i64 true (2 : Int))) ∧
 (getNoticeB s = false →
 R (SV.int IntKind.i64 true (-1 : Int)))))) := by kernel_rfl
end Go.Proofs.YtocikfhejpilaaaGreatDoor
/-
  Frame: Kind: the contract; the examples: the set-up.
-/
namespace Go.Proofs.YtocikfhejpilaaaGreatDoor
open Go Sx
set_option maxRecDepth 20000

theorem int_same {k : IntKind} {l : Bool} {a b : Int} (h : a = b) : sameVal (.int k l a) (.int k false b) := fun E => by subst h; rfl
def fkindSpec : List SV → Option (Prop × SV)
  | [.str false s] => some (s.length < 1099511627776, .int .i64 false (kindI s))
  | _ => none
theorem fkind_ok : CallOk Tryz.prog 27 (purePT fkindSpec) := by
  refine pure_ok goodF8 (n := 20) (fn := Tryz.f27) Tryz.func27 (by kernel_rfl) (by kernel_rfl) ?_
  intro args p r h hp
  unfold fkindSpec at h
  split at h
  · rename_i s
    injection h with h; injection h with h1 h2; subst h1; subst h2
    refine ⟨rfl, rfl, Holds.of_eq (vcFKind s _) ?_⟩
    unfold kindI
    refine ⟨hp, fun a => int_same (by rw [a]; rfl), fun a => ⟨hp, fun b c _ => int_same (by rw [a, b]; rfl), fun b => ⟨hp, fun d c _ => int_same (by rw [a, b, d]; rfl), fun d => int_same (by rw [a, b, d]; rfl)⟩⟩⟩
  · cases h
noncomputable def listF9 : List (FuncId × PT) :=
  (27, pureLPT fkindSpec) :: (21, ansLPT fgrSpec) :: (23, ansLPT fgnSpec) :: (19, ansLPT fgetSpec) ::
  (9, ansVLPT shR fprSpec) :: (11, ansVLPT shN fpnSpec) :: (7, ansLPT fputSpec) ::
  (17, ansVLPT shR fvrSpec) :: (18, ansVLPT shN fvnSpec) :: (16, pureLPT fvalidSpec) :: reflList
theorem listF9_ok : SummOk Tryz.prog (fun f => lookPT f listF9) :=
  .cons (pureL_ok fkind_ok) (pureLPT_mono _) (.cons (ansL_ok fgr_ok) (ansLPT_mono _) (.cons (ansL_ok fgn_ok) (ansLPT_mono _) (.cons (ansL_ok fget_ok) (ansLPT_mono _)
    (.cons (ansVL_ok fpr_ok) (ansVLPT_mono _ _) (.cons (ansVL_ok fpn_ok) (ansVLPT_mono _ _) (.cons (ansL_ok fput_ok) (ansLPT_mono _)
      (.cons (ansVL_ok fvr_ok) (ansVLPT_mono _ _) (.cons (ansVL_ok fvn_ok) (ansVLPT_mono _ _) (.cons (pureL_ok fvalid_ok) (pureLPT_mono _) reflList_ok)))))))))
noncomputable def cfgF9 : Cfg := { cfg0 with summ := fun f => lookPT f listF9, rounds := 4 }
theorem goodF9 : Sx.Good Tryz.prog cfgF9 := ⟨mixes, listF9_ok, fns_ok⟩
end Go.Proofs.YtocikfhejpilaaaGreatDoor
/-
  Conditions that the executor computes, written out by a program (vcgen.py).
-/
namespace Go.Proofs.YtocikfhejpilaaaGreatDoor
open Go Sx
set_option maxRecDepth 20000

theorem vcFWorks  : VC.holds (runA cfgF9 5 Tryz.f5 [] (.ret (.bool false true))) = (True ∧
 (9 : Nat) < (1099511627776 : Nat) ∧
 (((True ∧
 True ∧
 True ∧
 True ∧
 True ∧
 True ∧
 True ∧
 True ∧
 True) ∧
 True) ∧
 True) ∧
 (13 : Nat) < (1099511627776 : Nat) ∧
 ∀ (x : Nat), (1 : Nat) ≤ x →
 (((True ∧
 True ∧
 True ∧
 True ∧
 True ∧
 True) ∧
 True) ∧
 True) ∧
 (11 : Nat) < (1099511627776 : Nat) ∧
 ∀ (x : Nat), (1 : Nat) ≤ x →
 (13 : Nat) < (1099511627776 : Nat) ∧
 (9 : Nat) < (1099511627776 : Nat) ∧
 (13 : Nat) < (1099511627776 : Nat) ∧
 (11 : Nat) < (1099511627776 : Nat) ∧
 (0 : Nat) < (1099511627776 : Nat) ∧
 True ∧
 (((True ∧
 True ∧
 True ∧
 True ∧
 True ∧
 True ∧
 True ∧
 True ∧
 True) ∧
 True) ∧
 True) ∧
 (((True ∧
 True ∧
 True ∧
 True ∧
 True ∧
 True) ∧
 True) ∧
 True) ∧
 sameVal (lit (SV.bool false { s := (3 : Int), e := (0 : Int), b := (4 : Int), root := [], n := (1 : Nat), f := fun (i : Nat) => svStr ((List.drop (0 : Nat) (setRange (times (1 : Nat) (SV.agg [SV.str true [], SV.str true [], SV.bool true false]).cells) (0 : Nat) (SV.agg (setRange (setRange [SV.str true [], SV.str true [], SV.bool true false] (0 : Nat) (SV.str true [(97 : UInt8)]).cells) (2 : Nat) (SV.bool true true).cells)).cells)).getD (i * (3 : Nat) + (0 : Nat)) SV.nilptr), g := fun (i : Nat) => svStr ((List.drop (0 : Nat) (setRange (times (1 : Nat) (SV.agg [SV.str true [], SV.str true [], SV.bool true false]).cells) (0 : Nat) (SV.agg (setRange (setRange [SV.str true [], SV.str true [], SV.bool true false] (0 : Nat) (SV.str true [(97 : UInt8)]).cells) (2 : Nat) (SV.bool true true).cells)).cells)).getD (i * (3 : Nat) + (1 : Nat)) SV.nilptr), h := fun (i : Nat) => svBool ((List.drop (0 : Nat) (setRange (times (1 : Nat) (SV.agg [SV.str true [], SV.str true [], SV.bool true false]).cells) (0 : Nat) (SV.agg (setRange (setRange [SV.str true [], SV.str true [], SV.bool true false] (0 : Nat) (SV.str true [(97 : UInt8)]).cells) (2 : Nat) (SV.bool true true).cells)).cells)).getD (i * (3 : Nat) + (2 : Nat)) SV.nilptr) : Nt }.ok)) (SV.bool false true)) := by kernel_rfl
end Go.Proofs.YtocikfhejpilaaaGreatDoor
/-
  Frame: the examples are as the document says; the statements' set-up.
-/
namespace Go.Proofs.YtocikfhejpilaaaGreatDoor
open Go Sx
set_option maxRecDepth 20000

theorem fworks_holds : Holds (runA cfgF9 5 Tryz.f5 [] (.ret (.bool false true))) := by
  refine Holds.of_eq vcFWorks ?_
  simp only [true_and, and_true, Nat.reduceLT]
  exact fun _ _ _ _ _ => by kernel_rfl
def fworksSpec : List SV → Option (Prop × SV)
  | [] => some (True, .bool true true)
  | _ => none
theorem fworks_ok : CallOk Tryz.prog 5 (purePT fworksSpec) := by
  have h : CallOk Tryz.prog 5 (ansPT fun args => match args with
      | [] => some (True, .ret (.bool false true))
      | _ => none) := by
    refine ans_ok (n := 20) (fn := Tryz.f5) Tryz.func5 (by kernel_rfl) (by kernel_rfl) ?_
    intro args p a h hp
    split at h
    · injection h with h; injection h with h1 h2; subst h1; subst h2
      exact ⟨_, goodF9, rfl, rfl, fworks_holds⟩
    · cases h
  intro args m nx K hk hwf hargs Γ E w hs
  unfold purePT fworksSpec at hk
  split at hk
  · rename_i p r hr
    split at hr
    · rename_i he
      have hn : args = [] := List.map_eq_nil_iff.1 he
      subst hn
      injection hr with hr; injection hr with h1 h2; subst h1; subst h2
      refine (h [] m nx (fun v m nx => K (lit v) m nx) ?_ hwf hargs Γ E w hs).mono fun e w' hh => After.relit hh
      exact ⟨trivial, hk.2⟩
    · cases hr
  · exact hk.elim
noncomputable def listFL : List (FuncId × PT) := (5, purePT fworksSpec) :: listF9
theorem listFL_ok : SummOk Tryz.prog (fun f => lookPT f listFL) := .cons fworks_ok (purePT_mono _) listF9_ok
noncomputable def cfgFL : Cfg := { cfg0 with summ := fun f => lookPT f listFL }
theorem goodFL : Sx.Good Tryz.prog cfgFL := ⟨mixes, listFL_ok, fns_ok⟩
def yes : Ans := .ret (.bool false true)
end Go.Proofs.YtocikfhejpilaaaGreatDoor
/-
  Frame: plain laws: how many bytes an ask's frame has; that a frame's beginning is none, nor one with more behind it; that it is of one kind.
-/
namespace Go.Proofs.YtocikfhejpilaaaGreatDoor
open Go Sx
set_option maxRecDepth 20000

theorem numOf_one {n : Int} (h0 : 0 ≤ n) (h : n ≤ 9) : (numOf n).length = 1 := by
  have : n = 0 ∨ n = 1 ∨ n = 2 ∨ n = 3 ∨ n = 4 ∨ n = 5 ∨ n = 6 ∨ n = 7 ∨ n = 8 ∨ n = 9 := by omega
  rcases this with rfl | rfl | rfl | rfl | rfl | rfl | rfl | rfl | rfl | rfl <;> decide
theorem textOf_small {b : List UInt8} (h : b.length ≤ 55) : 1 ≤ (textOf b).length ∧ (textOf b).length ≤ b.length + 1 := by
  by_cases c : b.length = 1 ∧ byteAt b 0 < 128
  · rw [text_short c]; omega
  · rw [text_long c, head_short h, List.length_append, List.length_singleton]; omega
theorem numOf_small {n : Int} (h : n < 16777216) : 1 ≤ (numOf n).length ∧ (numOf n).length ≤ 4 := by
  have h3 := digits_short h
  have := textOf_small (b := digits n) (by omega)
  unfold numOf; omega
theorem Ak.size {x : Ak} (h : x.ok = true) : 9 ≤ x.put.length ∧ x.put.length ≤ 32 := by
  obtain ⟨h1, h2, h3, h4, h5, h6, h7⟩ := Ak.ok_small h
  have z := numOf_one (n := 0) (by omega) (by omega)
  have k := numOf_one (n := x.k) (by omega) (by omega)
  have l := numOf_one (n := x.lim) (by omega) (by omega)
  have s := numOf_small (n := x.s) (by omega)
  have q := numOf_small (n := x.q) (by omega)
  have a := numOf_small (n := x.a + 1) (by omega)
  have u := textOf_small (b := x.key) (by omega)
  have v := textOf_small (b := x.to) (by omega)
  have e : (flat x.items).length = 1 + ((numOf x.k).length + ((numOf x.s).length + ((numOf x.q).length + ((numOf (x.a + 1)).length + ((textOf x.key).length + ((textOf x.to).length + (numOf x.lim).length)))))) := by
    unfold Ak.items
    simp only [flat_clen, flat_nlen, z, Nat.add_zero]
  rw [Ak.put_eq, listOf, head_short (by omega), List.length_append, List.length_singleton, e]
  omega
theorem getAskB_facts {s : List UInt8} (h : getAskB s = true) : (askD s).ok = true ∧ (askD s).put = s ∧ Whole s ∧ numI (itOf s 0) = 0 := by
  obtain ⟨x, hx, rfl⟩ := getAskB_iff.1 h
  have hs := Ak.ok_small hx
  have c := Ak.cut hs
  rw [askD_put hs]
  refine ⟨hx, rfl, ⟨c.b, c.r⟩, ?_⟩
  unfold itOf
  rw [c.i0]; exact numI_num (by omega) (by omega)
theorem getReplyB_facts {s : List UInt8} (h : getReplyB s = true) : (replyD s).ok = true ∧ (replyD s).put = s ∧ Whole s ∧ numI (itOf s 0) = 1 := by
  obtain ⟨a, b⟩ := getReplyB_iff.1 h
  have m := getReplyB_meets h
  exact ⟨a, b, m.c.whole, by rw [m.i0]; exact numI_num (by omega) (by omega)⟩
theorem getNoticeB_facts {s : List UInt8} (h : getNoticeB s = true) : (noticeD s).ok = true ∧ (noticeD s).put = s ∧ Whole s ∧ numI (itOf s 0) = 2 := by
  obtain ⟨a, b⟩ := getNoticeB_iff.1 h
  have m := getNoticeB_meets h
  exact ⟨a, b, m.c.whole, by rw [m.i0]; exact numI_num (by omega) (by omega)⟩
/-- Of one kind at most. -/
theorem one_kind {s : List UInt8} : (getAskB s = true → getReplyB s = false ∧ getNoticeB s = false) ∧ (getReplyB s = true → getAskB s = false ∧ getNoticeB s = false) ∧ (getNoticeB s = true → getAskB s = false ∧ getReplyB s = false) := by
  have a := fun h => (getAskB_facts (s := s) h).2.2.2
  have b := fun h => (getReplyB_facts (s := s) h).2.2.2
  have c := fun h => (getNoticeB_facts (s := s) h).2.2.2
  generalize numI (itOf s 0) = n at a b c
  cases h1 : getAskB s <;> cases h2 : getReplyB s <;> cases h3 : getNoticeB s
  all_goals simp only [h1, h2, h3, forall_const, Bool.false_eq_true, false_imp_iff] at a b c
  all_goals first
    | (exfalso; omega)
    | (refine ⟨?_, ?_, ?_⟩ <;> intro h <;> first | exact ⟨rfl, rfl⟩ | cases h)
theorem kind_whole {s : List UInt8} (h : kindI s ≠ -1) : Whole s := by
  unfold kindI at h
  cases h1 : getAskB s with
  | true => exact (getAskB_facts h1).2.2.1
  | false =>
    cases h2 : getReplyB s with
    | true => exact (getReplyB_facts h2).2.2.1
    | false =>
      cases h3 : getNoticeB s with
      | true => exact (getNoticeB_facts h3).2.2.1
      | false => rw [h1, h2, h3] at h; exact absurd rfl h
theorem kindI_ask {s : List UInt8} (h : getAskB s = true) : kindI s = 0 := by unfold kindI; rw [h]; rfl
theorem kindI_reply {s : List UInt8} (h : getReplyB s = true) : kindI s = 1 := by unfold kindI; rw [(one_kind.2.1 h).1, h]; rfl
theorem kindI_notice {s : List UInt8} (h : getNoticeB s = true) : kindI s = 2 := by unfold kindI; rw [(one_kind.2.2 h).1, (one_kind.2.2 h).2, h]; rfl
theorem kindI_none {s : List UInt8} (a : getAskB s = false) (b : getReplyB s = false) (c : getNoticeB s = false) : kindI s = -1 := by unfold kindI; rw [a, b, c]; rfl
theorem whole_more {s r : List UInt8} (h : Whole s) (hr : r ≠ []) : ¬ Whole (s ++ r) := fun h2 => by
  have := (cut_app h.1 r).2.2.2
  rw [h.2, h2.2] at this
  exact hr this.symm
theorem kind_more {s r : List UInt8} (h : Whole s) (hr : r ≠ []) : kindI (s ++ r) = -1 := by
  by_cases e : kindI (s ++ r) = -1
  · exact e
  · exact absurd (kind_whole e) (whole_more h hr)
theorem kind_less {s : List UInt8} (h : Whole s) {k : Nat} (hk : k < s.length) : kindI (s.take k) = -1 := by
  by_cases e : kindI (s.take k) = -1
  · exact e
  · refine absurd ?_ (whole_more (kind_whole e) (r := s.drop k) (fun h => ?_))
    · rw [List.take_append_drop]; exact h
    · have := congrArg List.length h
      rw [List.length_drop, List.length_nil] at this; omega
theorem ask_whole {x : Ak} (h : x.ok = true) : Whole x.put := by
  have c := Ak.cut (Ak.ok_small h)
  exact ⟨c.b, c.r⟩
theorem kind_ask {x : Ak} (h : x.ok = true) : getAskB x.put = true ∧ askD x.put = x ∧ kindI x.put = 0 := by
  have a := getAskB_iff.2 ⟨x, h, rfl⟩
  exact ⟨a, askD_put (Ak.ok_small h), by unfold kindI; rw [a]; rfl⟩
theorem kind_reply {x : Rp} (h : x.ok = true) : getReplyB x.put = true ∧ (replyD x.put).Like x ∧ kindI x.put = 1 := by
  obtain ⟨a, b⟩ := getReplyB_put h
  have := (one_kind.2.1 a).1
  exact ⟨a, b, by unfold kindI; rw [this, a]; rfl⟩
theorem kind_notice {x : Nt} (h : x.ok = true) : getNoticeB x.put = true ∧ (noticeD x.put).Like x ∧ kindI x.put = 2 := by
  obtain ⟨a, b⟩ := getNoticeB_put h
  obtain ⟨c, d⟩ := one_kind.2.2 a
  exact ⟨a, b, by unfold kindI; rw [c, d, a]; rfl⟩
end Go.Proofs.YtocikfhejpilaaaGreatDoor
