/-
  Rlp: plain laws: numbers and their bytes.
-/
import Derived.Test.YtkfdcapnogklfaaGreatDoorOc
import Derived.Test.YtkfdcapnogklfaaGreatDoorMg
namespace Go.Proofs.YtkfdcapnogklfaaGreatDoor
open Go Sx
set_option maxRecDepth 20000
theorem byteAt_left {x y : List UInt8} {i : Int} (h0 : 0 ≤ i) (h : i < x.length) : byteAt (x ++ y) i = byteAt x i := by
  unfold byteAt
  rw [List.getD_eq_getElem?_getD, List.getD_eq_getElem?_getD, List.getElem?_append_left (by omega)]
theorem byteAt_cons (b : UInt8) (l : List UInt8) : byteAt (b :: l) 0 = (b.toNat : Int) := rfl
theorem byteAt_cons1 (b c : UInt8) (l : List UInt8) : byteAt (b :: c :: l) 1 = (c.toNat : Int) := rfl
theorem ofNat_toNat {n : Int} (h0 : 0 ≤ n) (h : n < 256) : ((UInt8.ofNat n.toNat).toNat : Int) = n := by
  rw [UInt8.toNat_ofNat']; omega
theorem dig_zero {k : Nat} {n : Int} (h : n ≤ 0) : dig k n = [] := by
  cases k with
  | zero => rfl
  | succ k => unfold dig; rw [if_neg (by omega)]
theorem dig_pos {k : Nat} {n : Int} (h : 0 < n) : dig (k + 1) n = dig k (n / 256) ++ [UInt8.ofNat (n % 256).toNat] := by
  conv => lhs; unfold dig
  rw [if_pos h]
theorem dig_num : ∀ (k : Nat) (n : Int), 0 ≤ n → n < 256 ^ k → num (dig k n) = n
  | 0, n, h0, h => by
    have : n = 0 := by simp at h; omega
    subst this; rfl
  | k + 1, n, h0, h => by
    by_cases hp : 0 < n
    · rw [Int.pow_succ] at h
      rw [dig_pos hp, num_snoc, dig_num k (n / 256) (by omega) (by omega), ofNat_toNat (by omega) (by omega)]
      omega
    · have : n = 0 := by omega
      subst this; rw [dig_zero (Int.le_refl _)]; rfl
theorem byteAt_snoc {x : List UInt8} {b : UInt8} (h : x ≠ []) : byteAt (x ++ [b]) 0 = byteAt x 0 := by
  have := List.length_pos_iff.2 h
  exact byteAt_left (Int.le_refl _) (by omega)
theorem dig_head : ∀ (k : Nat) (n : Int), 0 < n → n < 256 ^ k → dig k n ≠ [] ∧ byteAt (dig k n) 0 ≠ 0
  | 0, n, h0, h => by simp at h; omega
  | k + 1, n, h0, h => by
    rw [Int.pow_succ] at h
    rw [dig_pos h0]
    refine ⟨by simp, ?_⟩
    by_cases hp : 0 < n / 256
    · obtain ⟨h1, h2⟩ := dig_head k (n / 256) hp (by omega)
      rw [byteAt_snoc h1]; exact h2
    · rw [dig_zero (by omega), List.nil_append, byteAt_cons, ofNat_toNat (by omega) (by omega)]
      omega
theorem num_pos' : ∀ (n : Nat) (l : List UInt8), l.length ≤ n → byteAt l 0 ≠ 0 → 0 < num l
  | 0, l, hn, h => by
    have : l = [] := List.length_eq_zero_iff.1 (by omega)
    subst this; exact absurd rfl h
  | n + 1, l, hn, h => by
    rcases List.eq_nil_or_concat l with rfl | ⟨r, b, rfl⟩
    · exact absurd rfl h
    · rw [List.concat_eq_append] at h hn ⊢
      rw [num_snoc]
      by_cases hr : r = []
      · subst hr
        rw [List.nil_append, byteAt_cons] at h
        have : num [] = 0 := rfl
        rw [this]
        omega
      · rw [byteAt_snoc hr] at h
        have h2 := num_pos' n r (by simp at hn; omega) h
        omega
theorem num_pos (l : List UInt8) (h : byteAt l 0 ≠ 0) : 0 < num l := num_pos' l.length l (Nat.le_refl _) h
theorem dig_of : ∀ (k : Nat) (l : List UInt8), l.length ≤ k → (l = [] ∨ byteAt l 0 ≠ 0) → dig k (num l) = l
  | 0, l, h, _ => by
    have : l = [] := List.length_eq_zero_iff.1 (by omega)
    subst this; rfl
  | k + 1, l, h, hl => by
    rcases List.eq_nil_or_concat l with rfl | ⟨r, b, rfl⟩
    · exact dig_zero (Int.le_refl _)
    · rw [List.concat_eq_append] at hl h ⊢
      have hne : byteAt (r ++ [b]) 0 ≠ 0 := by
        rcases hl with hl | hl
        · simp at hl
        · exact hl
      have hp := num_pos _ hne
      have hb := b.toNat_lt
      rw [dig_pos hp]
      rw [num_snoc] at hp ⊢
      have e1 : (num r * 256 + (b.toNat : Int)) / 256 = num r := by omega
      have e2 : ((num r * 256 + (b.toNat : Int)) % 256).toNat = b.toNat := by omega
      rw [e1, e2, UInt8.ofNat_toNat]
      congr 1
      refine dig_of k r (by simp at h; omega) ?_
      by_cases hr : r = []
      · exact .inl hr
      · rw [byteAt_snoc hr] at hne; exact .inr hne
theorem dig_short : ∀ (j k : Nat) (n : Int), n < 256 ^ j → (dig k n).length ≤ j
  | 0, k, n, h => by rw [dig_zero (by simp at h; omega)]; simp
  | j + 1, 0, n, h => by simp [dig]
  | j + 1, k + 1, n, h => by
    by_cases hp : 0 < n
    · rw [Int.pow_succ] at h
      rw [dig_pos hp]
      have := dig_short j k (n / 256) (by omega)
      simp only [List.length_append, List.length_cons, List.length_nil]; omega
    · rw [dig_zero (by omega)]; simp
theorem digits_num {n : Int} (h0 : 0 ≤ n) (h : n < 18446744073709551616) : num (digits n) = n := dig_num 8 n h0 h
theorem digits_head {n : Int} (h0 : 0 < n) (h : n < 18446744073709551616) : digits n ≠ [] ∧ byteAt (digits n) 0 ≠ 0 := dig_head 8 n h0 h
theorem digits_of {l : List UInt8} (h : l.length ≤ 8) (h2 : l = [] ∨ byteAt l 0 ≠ 0) : digits (num l) = l := dig_of 8 l h h2
theorem digits_short {n : Int} (h : n < 16777216) : (digits n).length ≤ 3 := dig_short 3 8 n h
end Go.Proofs.YtkfdcapnogklfaaGreatDoor
/-
  Rlp: plain laws: what is put is cut again; what ends too early is not.
-/
namespace Go.Proofs.YtkfdcapnogklfaaGreatDoor
open Go Sx
set_option maxRecDepth 20000
theorem head_short {base : Int} {n : Nat} (h : n ≤ 55) : headOf base n = [UInt8.ofNat (base + n).toNat] := if_pos h
theorem head_long {base : Int} {n : Nat} (h : ¬ n ≤ 55) : headOf base n = UInt8.ofNat (base + 55 + (digits n).length).toNat :: digits n := if_neg h
theorem lead_of {s : List UInt8} {base n : Int} (hb : base = 128 ∨ base = 192) (h0 : 0 ≤ n) (h : n < 64) (h1 : byteAt s 0 = base + n) : lead s = n ∧ ¬ byteAt s 0 < 128 ∧ (byteAt s 0 < 192 ↔ base = 128) := by
  unfold lead
  rcases hb with rfl | rfl
  · rw [if_pos (by omega)]; omega
  · rw [if_neg (by omega)]; omega
structure LongOf (base : Int) (n : Nat) (s d t : List UInt8) : Prop where
  eq : s = UInt8.ofNat (base + 55 + d.length).toNat :: (d ++ t)
  num : num d = n
  hd : byteAt d 0 ≠ 0
  len : 1 ≤ d.length ∧ d.length ≤ 3
theorem long_of {base : Int} {n : Nat} (h : ¬ n ≤ 55) (h2 : n ≤ 1048576) (t : List UInt8) : LongOf base n (headOf base n ++ t) (digits n) t := by
  have h1 := digits_head (n := n) (by omega) (by omega)
  have h3 := List.length_pos_iff.2 h1.1
  exact ⟨by rw [head_long h]; rfl, digits_num (by omega) (by omega), h1.2, by omega, digits_short (by omega)⟩
theorem LongOf.lead' {base : Int} {n : Nat} {s d t : List UInt8} (hb : base = 128 ∨ base = 192) (h : LongOf base n s d t) : byteAt s 0 = base + 55 + d.length ∧ lead s = 55 + d.length ∧ ¬ byteAt s 0 < 128 ∧ (byteAt s 0 < 192 ↔ base = 128) := by
  have hl := h.len
  have h0 : byteAt s 0 = base + 55 + d.length := by
    rw [h.eq, byteAt_cons, ofNat_toNat (by omega) (by omega)]
  obtain ⟨h1, h2, h3⟩ := lead_of (s := s) (base := base) (n := 55 + d.length) hb (by omega) (by omega) (by omega)
  exact ⟨h0, h1, h2, h3⟩
theorem LongOf.part' {base : Int} {n : Nat} {s d t : List UInt8} (h : LongOf base n s d t) : part s (d.length + 1) = n ∧ byteAt s 1 ≠ 0 := by
  have hl := h.len
  constructor
  · unfold part
    rw [h.eq]
    have e : ((d.length : Int) + 1 - 1).toNat = d.length := by omega
    rw [e, List.drop_one, List.tail_cons, List.take_left]
    exact h.num
  · rw [h.eq]
    have h2 := h.hd
    match d, hl with
    | c :: d, _ =>
      rw [byteAt_cons] at h2
      rw [List.cons_append, byteAt_cons1]
      exact h2
theorem LongOf.cut {base : Int} {n : Nat} {s d t : List UInt8} (hb : base = 128 ∨ base = 192) (hn : 55 < n) (hn2 : n ≤ 1048576) (h : LongOf base n s d t) : cutB s = decide (n ≤ t.length) ∧ cutL s = decide (base = 192) ∧ cutIn s = t.take n ∧ cutRest s = t.drop n := by
  obtain ⟨b0, l1, l2, l3⟩ := h.lead' hb
  obtain ⟨p1, p2⟩ := h.part'
  have hl := h.len
  have e1 : lead s - 54 = d.length + 1 := by omega
  have hs : s.length = 1 + d.length + t.length := by rw [h.eq]; simp; omega
  have hlen : lenB s (lead s - 54) = true := lenB_iff.2 (by rw [e1, p1]; exact ⟨by omega, p2, by omega, by omega⟩)
  rw [e1] at hlen
  obtain ⟨c1, c2⟩ := cut_long (s := s) l2 (by omega)
  refine ⟨?_, ?_, ?_, ?_⟩
  · rw [Bool.eq_iff_iff, cutB_iff]
    have hne : s ≠ [] := by rw [h.eq]; simp
    have hL : 55 < lead s := by omega
    simp only [hne, ne_eq, not_false_eq_true, l2, hL, hlen, e1, p1, true_and, false_or, not_true_eq_false, false_and, or_false, decide_eq_true_eq]
    omega
  · unfold cutL
    rcases hb with rfl | rfl
    · have := l3.2 rfl; simp; omega
    · simp; omega
  · rw [c1, e1, p1, h.eq]
    have e : ((d.length : Int) + 1).toNat = d.length + 1 := by omega
    rw [e, List.drop_succ_cons, List.drop_left, Int.toNat_natCast]
  · rw [c2, e1, p1, h.eq]
    have e : ((d.length : Int) + 1 + n).toNat = d.length + n + 1 := by omega
    rw [e, List.drop_succ_cons, ← List.drop_drop, List.drop_left]
theorem short_cut {base : Int} {n : Nat} {s t : List UInt8} (hb : base = 128 ∨ base = 192) (hn : n ≤ 55) (h : s = UInt8.ofNat (base + n).toNat :: t) :
    (cutB s = true ↔ n ≤ t.length ∧ ¬ (base = 128 ∧ n = 1 ∧ byteAt t 0 < 128)) ∧ cutL s = decide (base = 192) ∧ cutIn s = t.take n ∧ cutRest s = t.drop n := by
  have h0 : byteAt s 0 = base + n := by
    rw [h, byteAt_cons, ofNat_toNat (by omega) (by omega)]
  obtain ⟨l1, l2, l3⟩ := lead_of (s := s) (base := base) (n := n) hb (by omega) (by omega) h0
  have hs : s.length = 1 + t.length := by rw [h]; simp; omega
  obtain ⟨c1, c2⟩ := cut_mid (s := s) l2 (by omega)
  have hb1 : 0 < t.length → byteAt s 1 = byteAt t 0 := fun hp => by
    rw [h]
    match t, hp with
    | c :: t, _ => rw [byteAt_cons1, byteAt_cons]
  refine ⟨?_, ?_, ?_, ?_⟩
  · rw [cutB_iff]
    have hne : s ≠ [] := by rw [h]; simp
    have hL : ¬ (55 : Int) < n := by omega
    simp only [hne, ne_eq, not_false_eq_true, l2, hL, true_and, false_or, false_and, l1, l3]
    constructor
    · rintro ⟨a, b⟩
      refine ⟨by omega, fun ⟨x, y, z⟩ => b ⟨x, by omega, by rw [hb1 (by omega)]; exact z⟩⟩
    · rintro ⟨a, b⟩
      refine ⟨by omega, fun ⟨x, y, z⟩ => b ⟨x, by omega, by rw [hb1 (by omega)] at z; exact z⟩⟩
  · unfold cutL
    rcases hb with rfl | rfl
    · have := l3.2 rfl; simp; omega
    · simp; omega
  · rw [c1, l1, h, Int.toNat_natCast]; rfl
  · rw [c2, l1, h]
    have e : (1 + (n : Int)).toNat = n + 1 := by omega
    rw [e, List.drop_succ_cons]
theorem enc_cut {base : Int} {x : List UInt8} (hb : base = 128 ∨ base = 192) (hx : x.length ≤ 1048576) (h1 : ¬ (base = 128 ∧ x.length = 1 ∧ byteAt x 0 < 128)) (rest : List UInt8) :
    cutB (headOf base x.length ++ x ++ rest) = true ∧ cutL (headOf base x.length ++ x ++ rest) = decide (base = 192) ∧ cutIn (headOf base x.length ++ x ++ rest) = x ∧ cutRest (headOf base x.length ++ x ++ rest) = rest := by
  rw [List.append_assoc]
  by_cases hn : x.length ≤ 55
  · obtain ⟨g1, g2, g3, g4⟩ := short_cut (s := headOf base x.length ++ (x ++ rest)) (t := x ++ rest) hb hn (by rw [head_short hn]; rfl)
    refine ⟨g1.2 ⟨by simp, fun ⟨a, b, c⟩ => h1 ⟨a, b, ?_⟩⟩, g2, by rw [g3, List.take_left], by rw [g4, List.drop_left]⟩
    rwa [byteAt_left (Int.le_refl _) (by omega)] at c
  · obtain ⟨g1, g2, g3, g4⟩ := (long_of (base := base) hn hx (x ++ rest)).cut hb (by omega) hx
    exact ⟨by rw [g1]; simp, g2, by rw [g3, List.take_left], by rw [g4, List.drop_left]⟩
/-! ### Texts -/
theorem text_short {b : List UInt8} (h : b.length = 1 ∧ byteAt b 0 < 128) : textOf b = b := if_pos h
theorem text_cut {b : List UInt8} (hb : b.length ≤ 1048576) (rest : List UInt8) : cutB (textOf b ++ rest) = true ∧ cutL (textOf b ++ rest) = false ∧ cutIn (textOf b ++ rest) = b ∧ cutRest (textOf b ++ rest) = rest := by
  by_cases h : b.length = 1 ∧ byteAt b 0 < 128
  · rw [text_short h]
    match b, h with
    | [c], h =>
      have h0 : byteAt ([c] ++ rest) 0 < 128 := h.2
      obtain ⟨g1, g2, g3⟩ := cut_short h0
      exact ⟨cutB_iff.2 ⟨by simp, .inl h0⟩, g1, by rw [g2]; rfl, by rw [g3]; rfl⟩
  · rw [text_long h]
    exact enc_cut (base := 128) (.inl rfl) hb (fun x => h x.2) rest
end Go.Proofs.YtkfdcapnogklfaaGreatDoor
/-
  Rlp: functions of a row of texts: contracts.
-/
namespace Go.Proofs.YtkfdcapnogklfaaGreatDoor
open Go Sx
set_option maxRecDepth 20000
noncomputable def runS (cfg : Cfg) (f : Nat) (fn : Func) (args : List SV) (l : List Seen) (a : Ans) : VC := runFn Tryz.prog (calling Tryz.prog cfg 20) [] (cfg.anns f) cfg.rounds fn args (seenMem 0 l) l.length (fun v m _ => a.fit v m)
def noPT : PT := fun _ _ _ _ => .fail "not to be called"
theorem noPT_ok {P : Program} (f : FuncId) : CallOk P f noPT := fun _ _ _ _ h => h.elim
theorem noPT_mono : MonoPT noPT := fun _ _ _ _ _ _ h => h
/-! ### A row of texts as an argument -/
def listIn (m : Mem) (v : SV) : Option (List (List UInt8)) := match v with
  | .slc key o n _ _ => (match m.get key with
    | some (.cells cs _ _) => strCells ((cs.drop o).take n)
    | _ => none)
  | _ => none
theorem strCells_of {cs : List SV} {n : Nat} {l : List (List UInt8)} (h : strCells (cs.take n) = some l) (hn : n ≤ cs.length) : rowL (fun i => svStr (cs.getD (i * 1 + 0) .nilptr)) 0 n = l := by
  obtain ⟨g1, g2⟩ := strCells_get h
  rw [List.length_take] at g1
  apply List.ext_getElem?
  intro i
  by_cases hi : i < n
  · have hl : i < l.length := by omega
    obtain ⟨b, hb⟩ := g2 i _ (List.getElem?_eq_getElem hl)
    rw [List.getElem?_take_of_lt hi] at hb
    unfold rowL
    rw [List.getElem?_map, List.getElem?_range hi, List.getElem?_eq_getElem hl]
    simp only [Option.map_some, Nat.zero_add, Nat.mul_one, Nat.add_zero, List.getD_eq_getElem?_getD, hb, Option.getD_some, svStr]
  · rw [List.getElem?_eq_none (by rw [rowL_len]; omega), List.getElem?_eq_none (by omega)]
theorem allOk_len {l : List SV} {cols : List Col} (hc : 0 < cols.length) : ∀ {n : Nat}, allOk l 1 cols n = true → n ≤ l.length
  | 0, _ => Nat.zero_le _
  | i + 1, h => by
    simp only [allOk, Bool.and_eq_true] at h
    cases cols with
    | nil => simp at hc
    | cons c r =>
      have := h.1
      simp only [cellsOk, Bool.and_eq_true, Nat.blt_eq] at this
      omega
theorem listIn_eq {m : Mem} {v : SV} {p : Prop} {s : Seen} {f : Nat → List UInt8} {l : List (List UInt8)} (h : viewIn [.str fun _ => []] m v = some (p, s)) (hc : s.cols = [.str f]) (hl : listIn m v = some l) : rowL f 0 s.n = l := by
  unfold listIn at hl
  split at hl
  · rename_i key o n cl c
    simp only [viewIn] at h
    split at h
    · rename_i cs tot ty hk
      rw [hk] at hl
      simp only at hl
      cases n with
      | zero =>
        injection h with h; injection h with h1 h2; subst h2
        simp [strCells] at hl; subst hl; rfl
      | succ n =>
        simp only at h
        split at h
        · rename_i cols hcols
          split at h
          · rename_i hall
            injection h with h; injection h with h1 h2; subst h2
            simp only at hc
            subst hc
            simp only [List.length_cons, List.length_nil, Nat.zero_add, colsAt] at hcols
            split at hcols
            · rename_i a b ha hb
              injection hb with hb; subst hb
              injection hcols with e
              injection e with e _
              subst e
              have hlen := allOk_len (by simp) hall
              unfold colAt at ha
              split at ha
              · cases ha
              · cases ha
              · injection ha with ha
                injection ha with ha
                subst ha
                exact strCells_of hl hlen
              · cases ha
            · cases hcols
          · cases h
        · cases h
    · cases h
  · cases hl
noncomputable def strsPT (q : List (List UInt8) → Prop) (g : List (List UInt8) → SV) : PT := fun args m nx K => match args with
  | [v] => (match viewIn [.str fun _ => []] m v with
    | some (p, s) => (match s.cols with
      | [.str f] => (match listIn m v with
        | some l => .and (.atom (p ∧ q l)) (K (g l) m nx)
        | none => .and (.atom (p ∧ q (rowL f 0 s.n))) (K (g (rowL f 0 s.n)) m nx))
      | _ => .fail "texts that are not known")
    | none => .fail "texts that are not known")
  | _ => .fail "arguments"
theorem strsPT_mono (q : List (List UInt8) → Prop) (g : List (List UInt8) → SV) : MonoPT (strsPT q g) := by
  intro args m nx K K' hK h
  unfold strsPT at h ⊢
  split at h
  · split at h
    · split at h
      · split at h <;> exact ⟨h.1, hK _ _ _ h.2⟩
      · exact h
    · exact h
  · exact h
def shS : List Sh2 := [.of (.slice [.str fun _ => []])]
def rowOf (vs : List SV) (l : List Seen) : Option (Nat × (Nat → List UInt8) × Bool × Nat × Nat × Option Nat) := match vs, l with
  | [_], [⟨key, z, o, n, c, [.str f]⟩] => some (n, f, z, o, c, key)
  | _, _ => none
theorem rowOf_eq {vs : List SV} {l : List Seen} {n : Nat} {f : Nat → List UInt8} {z : Bool} {o c : Nat} {key : Option Nat} (h : rowOf vs l = some (n, f, z, o, c, key)) : filled shS vs l = [.vslc 0 1 z o 0 n c] ∧ l = [⟨key, z, o, n, c, [.str f]⟩] := by
  unfold rowOf at h
  split at h
  · injection h with h; injection h with h1 h; injection h with h2 h; injection h with h3 h; injection h with h4 h; injection h with h5 h6
    subst h1; subst h2; subst h3; subst h4; subst h5; subst h6
    exact ⟨rfl, rfl⟩
  · cases h
def strsSpec (q : List (List UInt8) → Prop) (g : List (List UInt8) → SV) (vs : List SV) (l : List Seen) : Option (Prop × Ans) := match rowOf vs l with
  | some (n, f, _) => some (q (rowL f 0 n), .ret (g (rowL f 0 n)))
  | none => none
theorem strs_ok {P : Program} {f : FuncId} {q : List (List UInt8) → Prop} {g : List (List UInt8) → SV} (h : CallOk P f (ansVPT shS (strsSpec q g))) : CallOk P f (strsPT q g) := by
  intro args m nx K hk hwf hargs Γ E w hs
  refine h args m nx K ?_ hwf hargs Γ E w hs
  unfold strsPT at hk
  split at hk
  · rename_i v
    split at hk
    · rename_i p s hv
      split at hk
      · rename_i f' hc
        have hk : (VC.and (.atom (p ∧ q (rowL f' 0 s.n))) (K (g (rowL f' 0 s.n)) m nx)).holds := by
          split at hk
          · rename_i l hl
            rw [listIn_eq hv hc hl]; exact hk
          · exact hk
        obtain ⟨key, z, o, n, c, cols⟩ := s
        simp only at hc
        subst hc
        have e : picks2 m 0 shS [v] = some ([(⟨key, z, o, n, c, [.str f']⟩ : Seen).sv 0], (p ∧ True), [⟨key, z, o, n, c, [.str f']⟩]) := by
          simp only [shS, picks2, pick2, pick1, hv, List.append_nil]
        unfold ansVPT
        rw [e]
        exact ⟨⟨⟨hk.1.1, trivial⟩, hk.1.2⟩, hk.2⟩
      · exact hk.elim
    · exact hk.elim
  · exact hk.elim
noncomputable def runT (cfg : Cfg) (f : Nat) (fn : Func) (n : Nat) (F : Nat → List UInt8) (z : Bool) (o c : Nat) (key : Option Nat) (g : List (List UInt8) → SV) : VC :=
  runS cfg f fn [.vslc 0 1 z o 0 n c] [⟨key, z, o, n, c, [.str F]⟩] (.ret (g (rowL F 0 n)))
end Go.Proofs.YtkfdcapnogklfaaGreatDoor
/-
  Rlp: plain laws: items, one behind the other; a list's items.
-/
namespace Go.Proofs.YtkfdcapnogklfaaGreatDoor
open Go Sx
set_option maxRecDepth 20000
theorem part_app {a b : List UInt8} {i : Int} (h : i ≤ a.length) : part (a ++ b) i = part a i := by
  unfold part
  by_cases h1 : 1 ≤ i
  · have hl : 1 ≤ a.length := by omega
    rw [List.drop_append_of_le_length hl, List.take_append_of_le_length (by simp only [List.length_drop]; omega)]
  · have : (i - 1).toNat = 0 := by omega
    rw [this]; rfl
theorem lenB_app {a b : List UInt8} {i : Int} (h2 : 2 ≤ i) (h : lenB a i = true) : lenB (a ++ b) i = true := by
  obtain ⟨h1, h3, h4, h5⟩ := lenB_iff.1 h
  refine lenB_iff.2 ⟨by simp only [List.length_append]; omega, ?_, ?_, ?_⟩
  · rw [byteAt_left (by omega) (by omega)]; exact h3
  · rw [part_app h1]; exact h4
  · rw [part_app h1]; exact h5
theorem cut_app {a : List UInt8} (h : cutB a = true) (b : List UInt8) : cutB (a ++ b) = true ∧ cutL (a ++ b) = cutL a ∧ cutIn (a ++ b) = cutIn a ∧ cutRest (a ++ b) = cutRest a ++ b := by
  obtain ⟨h0, hc⟩ := cutB_iff.1 h
  have hl := List.length_pos_iff.2 h0
  have e0 : byteAt (a ++ b) 0 = byteAt a 0 := byteAt_left (Int.le_refl _) (by omega)
  have el : lead (a ++ b) = lead a := by unfold lead; rw [e0]
  have eL : cutL (a ++ b) = cutL a := by unfold cutL; rw [e0]
  have hne : a ++ b ≠ [] := by simp [h0]
  refine ⟨?_, eL, ?_⟩
  · refine cutB_iff.2 ⟨hne, ?_⟩
    rw [e0, el]
    rcases hc with hA | ⟨hA, hB, hC, hD⟩ | ⟨hA, hB, hC, hD⟩
    · exact .inl hA
    · have hq := (lenB_iff.1 hC).1
      exact .inr (.inl ⟨hA, hB, lenB_app (by omega) hC, by rw [part_app hq]; simp only [List.length_append]; omega⟩)
    · exact .inr (.inr ⟨hA, hB, by simp only [List.length_append]; omega, fun ⟨x, y, z⟩ => hD ⟨x, y, by rwa [byteAt_left (by omega) (by omega)] at z⟩⟩)
  · rcases hc with hA | ⟨hA, hB, hC, hD⟩ | ⟨hA, hB, hC, hD⟩
    · obtain ⟨_, k2, k3⟩ := cut_short hA
      obtain ⟨_, j2, j3⟩ := cut_short (s := a ++ b) (by rw [e0]; exact hA)
      rw [k2, k3, j2, j3]
      exact ⟨List.take_append_of_le_length (by omega), List.drop_append_of_le_length (by omega)⟩
    · have hq := (lenB_iff.1 hC).1
      have hp := part_nn a (lead a - 54)
      obtain ⟨k2, k3⟩ := cut_long hA hB
      obtain ⟨j2, j3⟩ := cut_long (s := a ++ b) (by rw [e0]; exact hA) (by rw [el]; exact hB)
      rw [k2, k3, j2, j3, el, part_app hq]
      constructor
      · rw [List.drop_append_of_le_length (by omega), List.take_append_of_le_length (by simp only [List.length_drop]; omega)]
      · rw [List.drop_append_of_le_length (by omega)]
    · have hn := lead_nn hA
      obtain ⟨k2, k3⟩ := cut_mid hA hB
      obtain ⟨j2, j3⟩ := cut_mid (s := a ++ b) (by rw [e0]; exact hA) (by rw [el]; exact hB)
      rw [k2, k3, j2, j3, el]
      have e1 : (1 : Int).toNat = 1 := rfl
      rw [e1]
      constructor
      · rw [List.drop_append_of_le_length (by omega), List.take_append_of_le_length (by simp only [List.length_drop]; omega)]
      · rw [List.drop_append_of_le_length (by omega)]
theorem itemOf_app {a : List UInt8} (h : cutB a = true) (b : List UInt8) : itemOf (a ++ b) = itemOf a := by
  unfold itemOf
  rw [(cut_app h b).2.2.2, List.length_append, List.length_append]
  have : a.length + b.length - ((cutRest a).length + b.length) = a.length - (cutRest a).length := by omega
  rw [this, List.take_append_of_le_length (by omega)]
theorem Walk.app {a : List UInt8} (b : List UInt8) : ∀ {k : Nat}, Walk a k → restAt (a ++ b) k = restAt a k ++ b
  | 0, _ => by simp only [restAt]
  | k + 1, h => by
    have h1 := Walk.app b (k := k) (fun j hj => h j (by omega))
    simp only [restAt]
    rw [h1, (cut_app (h k (by omega)).2 b).2.2.2]
theorem Walk.take {a : List UInt8} {k j : Nat} (h : Walk a k) (hj : j ≤ k) : Walk a j := fun i hi => h i (by omega)
theorem Walk.join {a : List UInt8} (b : List UInt8) {k : Nat} (h : Walk a k) : Walk (a ++ b) k := fun j hj => by
  rw [(h.take (j := j) (by omega)).app b]
  obtain ⟨h1, h2⟩ := h j hj
  exact ⟨by simp [h1], (cut_app h2 b).1⟩
theorem Walk.item {a : List UInt8} (b : List UInt8) {k j : Nat} (h : Walk a k) (hj : j < k) : itemAt (a ++ b) j = itemAt a j := by
  unfold itemAt
  rw [(h.take (j := j) (by omega)).app b, itemOf_app (h j hj).2]
theorem items_walk (n : Nat) : ∀ (s : List UInt8), s.length ≤ n → itemsB s = true → Walk s (itemsN s) ∧ restAt s (itemsN s) = [] := by
  have nil : ∀ s : List UInt8, s = [] → Walk s (itemsN s) ∧ restAt s (itemsN s) = [] := by
    intro s hs
    rw [hs, items_nil.2]
    exact ⟨fun j hj => absurd hj (Nat.not_lt_zero _), by simp only [restAt]⟩
  induction n with
  | zero => exact fun s h _ => nil s (List.length_eq_zero_iff.1 (by omega))
  | succ n ih =>
    intro s h hb
    by_cases hne : s = []
    · exact nil s hne
    · have hc : cutB s = true := by
        cases hc : cutB s with
        | false => rw [items_bad hne hc] at hb; cases hb
        | true => rfl
      obtain ⟨h1, h2⟩ := items_cut hne hc
      have hl := cut_lt hc
      obtain ⟨h3, h4⟩ := ih (cutRest s) (by omega) (by rw [← h1]; exact hb)
      rw [h2]
      refine ⟨fun j hj => ?_, by rw [restAt_succ]; exact h4⟩
      cases j with
      | zero => simp only [restAt]; exact ⟨hne, hc⟩
      | succ j => rw [restAt_succ]; exact h3 j (by omega)
theorem restAt_add (s : List UInt8) (k : Nat) : ∀ j, restAt s (k + j) = restAt (restAt s k) j
  | 0 => by simp only [restAt, Nat.add_zero]
  | j + 1 => by rw [← Nat.add_assoc, restAt, restAt_add s k j]; simp only [restAt]
theorem items_join {a : List UInt8} (h : itemsB a = true) (b : List UInt8) : itemsB (a ++ b) = itemsB b ∧ itemsN (a ++ b) = itemsN a + itemsN b ∧
    (∀ j, j < itemsN a → itemAt (a ++ b) j = itemAt a j) ∧ ∀ j, itemAt (a ++ b) (itemsN a + j) = itemAt b j := by
  obtain ⟨h1, h2⟩ := items_walk a.length a (Nat.le_refl _) h
  have h3 := h1.app b
  rw [h2, List.nil_append] at h3
  obtain ⟨h4, h5⟩ := (h1.join b).items
  rw [h3] at h4 h5
  refine ⟨h4, by omega, fun j hj => h1.item b hj, fun j => ?_⟩
  unfold itemAt
  rw [restAt_add, h3]
theorem one_item {s : List UInt8} (h : cutB s = true) (h2 : cutRest s = []) : itemsB s = true ∧ itemsN s = 1 ∧ itemAt s 0 = s := by
  have hne := (cutB_iff.1 h).1
  obtain ⟨g1, g2⟩ := items_cut hne h
  rw [h2] at g1 g2
  refine ⟨by rw [g1]; exact items_nil.1, by rw [g2, items_nil.2], ?_⟩
  unfold itemAt itemOf
  simp only [restAt]
  rw [h2, List.length_nil, Nat.sub_zero, List.take_length]
theorem flat_cons (a : List UInt8) (r : List (List UInt8)) : flat (a :: r) = a ++ flat r := by simp [flat]
theorem flat_items : ∀ (l : List (List UInt8)), (∀ x ∈ l, cutB x = true ∧ cutRest x = []) → itemsB (flat l) = true ∧ itemsN (flat l) = l.length ∧ ∀ (j : Nat) (x : List UInt8), l[j]? = some x → itemAt (flat l) j = x
  | [], _ => ⟨items_nil.1, items_nil.2, fun j x h => by simp at h⟩
  | a :: r, h => by
    obtain ⟨h1, h2⟩ := h a (by simp)
    obtain ⟨o1, o2, o3⟩ := one_item h1 h2
    obtain ⟨g1, g2, g3⟩ := flat_items r fun x hx => h x (by simp [hx])
    obtain ⟨j1, j2, j3, j4⟩ := items_join o1 (flat r)
    rw [flat_cons]
    refine ⟨by rw [j1]; exact g1, by rw [j2, o2, g2, List.length_cons]; omega, fun j x hx => ?_⟩
    cases j with
    | zero =>
      simp only [List.getElem?_cons_zero, Option.some.injEq] at hx
      rw [j3 0 (by omega), o3, hx]
    | succ j =>
      have := j4 j
      rw [o2] at this
      rw [Nat.add_comm j 1, this]
      exact g3 j x (by simpa using hx)
theorem list_cut {l : List (List UInt8)} (hl : (flat l).length ≤ 1048576) (rest : List UInt8) :
    cutB (headOf 192 (flat l).length ++ flat l ++ rest) = true ∧ cutL (headOf 192 (flat l).length ++ flat l ++ rest) = true ∧ cutIn (headOf 192 (flat l).length ++ flat l ++ rest) = flat l ∧ cutRest (headOf 192 (flat l).length ++ flat l ++ rest) = rest := by
  obtain ⟨h1, h2, h3, h4⟩ := enc_cut (.inr rfl) hl (fun h => by omega) rest
  exact ⟨h1, by rw [h2]; rfl, h3, h4⟩
theorem cutRest_le (s : List UInt8) : (cutRest s).length ≤ s.length := by
  unfold cutRest; rw [List.length_drop]; omega
theorem restAt_le (s : List UInt8) : ∀ k, (restAt s k).length ≤ s.length
  | 0 => by simp only [restAt]; exact Nat.le_refl _
  | k + 1 => by simp only [restAt]; exact Nat.le_trans (cutRest_le _) (restAt_le s k)
theorem itemAt_le (s : List UInt8) (k : Nat) : (itemAt s k).length ≤ s.length := by
  have := restAt_le s k
  unfold itemAt itemOf; rw [List.length_take]; omega
theorem cutIn_le (s : List UInt8) : (cutIn s).length ≤ s.length := by
  unfold cutIn; simp only [List.length_take, List.length_drop]; omega
def listOf (l : List (List UInt8)) : List UInt8 := headOf 192 (flat l).length ++ flat l
end Go.Proofs.YtkfdcapnogklfaaGreatDoor
/-
  Rlp: plain laws: numbers as items.
-/
namespace Go.Proofs.YtkfdcapnogklfaaGreatDoor
open Go Sx
set_option maxRecDepth 20000
theorem byteAt_tail (c : UInt8) (t : List UInt8) : byteAt (c :: t) 1 = byteAt t 0 := by cases t <;> rfl
end Go.Proofs.YtkfdcapnogklfaaGreatDoor
/-
  Rlp: plain laws: an item is made of what is in it.
-/
namespace Go.Proofs.YtkfdcapnogklfaaGreatDoor
open Go Sx
set_option maxRecDepth 20000
def againOf (l : Bool) (b : List UInt8) : List UInt8 := bif l then headOf 192 b.length ++ b else textOf b
theorem toNat_eq {a b : UInt8} (h : a.toNat = b.toNat) : a = b := UInt8.toNat_inj.1 h
theorem byteAt_cons0 {s : List UInt8} (h : s ≠ []) : ∃ b t, s = b :: t ∧ byteAt s 0 = (b.toNat : Int) := by
  cases s with
  | nil => exact absurd rfl h
  | cons b t => exact ⟨b, t, rfl, rfl⟩
theorem cut_only {s : List UInt8} (h : cutB s = true) : againOf (cutL s) (cutIn s) ++ cutRest s = s := by
  obtain ⟨h0, h⟩ := cutB_iff.1 h
  obtain ⟨b, t, rfl, hb⟩ := byteAt_cons0 h0
  have hb8 := b.toNat_lt
  rcases h with hA | ⟨hA, hL, hB, hP⟩ | ⟨hA, hL, hP, hN⟩
  · obtain ⟨k1, k2, k3⟩ := cut_short hA
    rw [k1, k2, k3]
    simp only [againOf, cond_false, List.take_succ_cons, List.take_zero, List.drop_succ_cons, List.drop_zero]
    rw [text_short ⟨rfl, by rw [hb] at hA; exact hA⟩]; rfl
  · obtain ⟨k1, k2⟩ := cut_long hA hL
    obtain ⟨g1, g2, g3, g4⟩ := lenB_iff.1 hB
    have hl := g1
    simp only [List.length_cons] at hl g1 hP
    have hlead : lead (b :: t) < 64 ∧ 0 ≤ lead (b :: t) := by unfold lead; split <;> omega
    have hpn := part_nn (b :: t) (lead (b :: t) - 54)
    have elen : (cutIn (b :: t)).length = (part (b :: t) (lead (b :: t) - 54)).toNat := by
      rw [k1]; simp only [List.length_take, List.length_drop, List.length_cons]; omega
    have hd : digits (part (b :: t) (lead (b :: t) - 54)) = t.take (lead (b :: t) - 55).toNat := by
      have e : part (b :: t) (lead (b :: t) - 54) = num (t.take (lead (b :: t) - 55).toNat) := by
        unfold part
        simp only [List.drop_succ_cons, List.drop_zero]
        congr 2; omega
      rw [e]
      refine digits_of (by simp only [List.length_take]; omega) (.inr ?_)
      intro h
      apply g2
      rw [byteAt_tail]
      have : byteAt (t.take (lead (b :: t) - 55).toNat) 0 = byteAt t 0 := by
        obtain ⟨m, hm⟩ : ∃ m, (lead (b :: t) - 55).toNat = m + 1 := ⟨(lead (b :: t) - 55).toNat - 1, by omega⟩
        rw [hm]
        cases t <;> rfl
      rw [← this]; exact h
    have hhead : ∀ base : Int, lead (b :: t) = byteAt (b :: t) 0 - base → 0 ≤ base → headOf base (cutIn (b :: t)).length = b :: t.take (lead (b :: t) - 55).toNat := by
      intro base hbase hb0
      rw [head_long (by rw [elen]; omega), elen, show (((part (b :: t) (lead (b :: t) - 54)).toNat : Nat) : Int) = part (b :: t) (lead (b :: t) - 54) by omega, hd]
      congr 1
      apply toNat_eq
      have : (base + 55 + ((t.take (lead (b :: t) - 55).toNat).length : Int)).toNat = b.toNat := by
        rw [hb] at hbase
        simp only [List.length_take]; omega
      rw [this]
      simp
    have hcat : ∀ base : Int, lead (b :: t) = byteAt (b :: t) 0 - base → 0 ≤ base → headOf base (cutIn (b :: t)).length ++ cutIn (b :: t) ++ cutRest (b :: t) = b :: t := by
      intro base hbase hb0
      rw [hhead base hbase hb0, k1, k2, List.append_assoc]
      have e1 : (lead (b :: t) - 54).toNat = (lead (b :: t) - 55).toNat + 1 := by omega
      have e2 : (lead (b :: t) - 54 + part (b :: t) (lead (b :: t) - 54)).toNat = (lead (b :: t) - 55).toNat + 1 + (part (b :: t) (lead (b :: t) - 54)).toNat := by omega
      rw [e1, e2]
      generalize (lead (b :: t) - 55).toNat = k
      generalize (part (b :: t) (lead (b :: t) - 54)).toNat = p
      rw [show k + 1 + p = (k + p) + 1 by omega]
      simp only [List.drop_succ_cons, List.cons_append]
      rw [← List.drop_drop, List.take_append_drop, List.take_append_drop]
    by_cases hC : byteAt (b :: t) 0 < 192
    · have e3 : cutL (b :: t) = false := by simp [cutL]; omega
      rw [e3, againOf, cond_false, text_long (by rw [elen]; omega)]
      exact hcat 128 (lead_lt hC) (by omega)
    · have e3 : cutL (b :: t) = true := by simp [cutL]; omega
      rw [e3, againOf, cond_true]
      exact hcat 192 (lead_ge hC) (by omega)
  · obtain ⟨k1, k2⟩ := cut_mid hA hL
    simp only [List.length_cons] at hP
    have hlead := lead_nn hA
    have elen : (cutIn (b :: t)).length = (lead (b :: t)).toNat := by
      rw [k1]; simp only [List.length_take, List.length_drop, List.length_cons]; omega
    have ein : cutIn (b :: t) = t.take (lead (b :: t)).toNat := by rw [k1]; rfl
    have hcat : ∀ base : Int, lead (b :: t) = byteAt (b :: t) 0 - base → 0 ≤ base → headOf base (cutIn (b :: t)).length ++ cutIn (b :: t) ++ cutRest (b :: t) = b :: t := by
      intro base hbase hb0
      rw [head_short (by rw [elen]; omega), elen, ein, k2]
      have : (base + ((lead (b :: t)).toNat : Int)).toNat = b.toNat := by rw [hb] at hbase; omega
      rw [this, show (1 + lead (b :: t)).toNat = (lead (b :: t)).toNat + 1 by omega]
      simp
    by_cases hC : byteAt (b :: t) 0 < 192
    · have e3 : cutL (b :: t) = false := by simp [cutL]; omega
      rw [e3, againOf, cond_false, text_long ?_]
      · exact hcat 128 (lead_lt hC) (by omega)
      · rintro ⟨h1, h2⟩
        rw [elen] at h1
        apply hN
        refine ⟨hC, by omega, ?_⟩
        rw [byteAt_tail]
        rw [ein, h1] at h2
        cases t with
        | nil => exact h2
        | cons c u => exact h2
    · have e3 : cutL (b :: t) = true := by simp [cutL]; omega
      rw [e3, againOf, cond_true]
      exact hcat 192 (lead_ge hC) (by omega)
theorem again_cut {l : Bool} {b : List UInt8} (hb : b.length ≤ 1048576) (rest : List UInt8) : cutB (againOf l b ++ rest) = true ∧ cutL (againOf l b ++ rest) = l ∧ cutIn (againOf l b ++ rest) = b ∧ cutRest (againOf l b ++ rest) = rest := by
  cases l with
  | false => exact text_cut hb rest
  | true =>
    have := list_cut (l := [b]) (by simpa [flat] using hb) rest
    have e : flat [b] = b := by simp [flat]
    rw [e] at this
    exact this
end Go.Proofs.YtkfdcapnogklfaaGreatDoor
