/-
  The reference's rlp: bytes of numbers: the set-up.
-/
import Derived.Test.YtocikfhejpilaaaGreatDoorOd
import Derived.Test.YtocikfhejpilaaaGreatDoorOc
import Derived.Test.YtocikfhejpilaaaGreatDoorMg
namespace Go.Proofs.YtocikfhejpilaaaGreatDoor
open Go Sx
set_option maxRecDepth 20000

/-- A function's run with slices that are read. -/
noncomputable def runS (cfg : Cfg) (f : Nat) (fn : Func) (args : List SV) (l : List Seen) (a : Ans) : VC := runFn Tryz.prog (calling Tryz.prog cfg 20) [] (cfg.anns f) cfg.rounds fn args (seenMem 0 l) l.length (fun v m _ => a.fit v m)
/-- A contract that nothing fulfils. -/
def noPT : PT := fun _ _ _ _ => .fail "not to be called"
theorem noPT_ok {P : Program} (f : FuncId) : CallOk P f noPT := fun _ _ _ _ h => h.elim
theorem noPT_mono : MonoPT noPT := fun _ _ _ _ _ _ h => h
def byteSpec (k : Nat) : List SV → Option (Prop × SV)
  | [.int .u64 false n] => some (0 ≤ n ∧ n < 256 ^ k, .str false (dig k n))
  | _ => none
noncomputable def cfgB2 (pt : PT) : Cfg := { cfg0 with summ := fun f => lookPT f ((79, pt) :: list7) }
theorem goodB2 {pt : PT} (h : CallOk Tryz.prog 79 pt) (hm : MonoPT pt) : Sx.Good Tryz.prog (cfgB2 pt) := ⟨mixes, SummOk.cons h hm list7_ok, fns_ok⟩
/-! ### A row of texts as an argument -/
/-- The texts that a slice has, where they are written out. -/
def listIn (m : Mem) (v : SV) : Option (List (List UInt8)) := match v with
  | .slc key o n _ _ => (match m.get key with
    | some (.cells cs _ _) => strCells ((cs.drop o).take n)
    | _ => none)
  | _ => none
theorem strCells_of {cs : List SV} {n : Nat} {l : List (List UInt8)} (h : strCells (cs.take n) = some l) (hn : n ≤ cs.length) : rowL (fun i => svStr (cs.getD (i * 1 + 0) .nilptr)) 0 n = l := by
  obtain ⟨g1, g2⟩ := strCells_get h
  rw [List.length_take] at g1
  apply List.ext_getElem?
  intro i
  by_cases hi : i < n
  · have hl : i < l.length := by omega
    obtain ⟨b, hb⟩ := g2 i _ (List.getElem?_eq_getElem hl)
    rw [List.getElem?_take_of_lt hi] at hb
    unfold rowL
    rw [List.getElem?_map, List.getElem?_range hi, List.getElem?_eq_getElem hl]
    simp only [Option.map_some, Nat.zero_add, Nat.mul_one, Nat.add_zero, List.getD_eq_getElem?_getD, hb, Option.getD_some, svStr]
  · rw [List.getElem?_eq_none (by rw [rowL_len]; omega), List.getElem?_eq_none (by omega)]
theorem allOk_len {l : List SV} {cols : List Col} (hc : 0 < cols.length) : ∀ {n : Nat}, allOk l 1 cols n = true → n ≤ l.length
  | 0, _ => Nat.zero_le _
  | i + 1, h => by
    simp only [allOk, Bool.and_eq_true] at h
    cases cols with
    | nil => simp at hc
    | cons c r =>
      have := h.1
      simp only [cellsOk, Bool.and_eq_true, Nat.blt_eq] at this
      omega
theorem listIn_eq {m : Mem} {v : SV} {p : Prop} {s : Seen} {f : Nat → List UInt8} {l : List (List UInt8)} (h : viewIn [.str fun _ => []] m v = some (p, s)) (hc : s.cols = [.str f]) (hl : listIn m v = some l) : rowL f 0 s.n = l := by
  unfold listIn at hl
  split at hl
  · rename_i key o n cl c
    simp only [viewIn] at h
    split at h
    · rename_i cs tot ty hk
      rw [hk] at hl
      simp only at hl
      cases n with
      | zero =>
        injection h with h; injection h with h1 h2; subst h2
        simp [strCells] at hl; subst hl; rfl
      | succ n =>
        simp only at h
        split at h
        · rename_i cols hcols
          split at h
          · rename_i hall
            injection h with h; injection h with h1 h2; subst h2
            simp only at hc
            subst hc
            simp only [List.length_cons, List.length_nil, Nat.zero_add, colsAt] at hcols
            split at hcols
            · rename_i a b ha hb
              injection hb with hb; subst hb
              injection hcols with e
              injection e with e _
              subst e
              have hlen := allOk_len (by simp) hall
              unfold colAt at ha
              split at ha
              · cases ha
              · cases ha
              · injection ha with ha
                injection ha with ha
                subst ha
                exact strCells_of hl hlen
              · cases ha
            · cases hcols
          · cases h
        · cases h
    · cases h
  · cases hl
/-- A function of a row of texts: what it asks for, and its answer. -/
noncomputable def strsPT (q : List (List UInt8) → Prop) (g : List (List UInt8) → SV) : PT := fun args m nx K => match args with
  | [v] => (match viewIn [.str fun _ => []] m v with
    | some (p, s) => (match s.cols with
      | [.str f] => (match listIn m v with
        | some l => .and (.atom (p ∧ q l)) (K (g l) m nx)
        | none => .and (.atom (p ∧ q (rowL f 0 s.n))) (K (g (rowL f 0 s.n)) m nx))
      | _ => .fail "texts that are not known")
    | none => .fail "texts that are not known")
  | _ => .fail "arguments"
theorem strsPT_mono (q : List (List UInt8) → Prop) (g : List (List UInt8) → SV) : MonoPT (strsPT q g) := by
  intro args m nx K K' hK h
  unfold strsPT at h ⊢
  split at h
  · split at h
    · split at h
      · split at h <;> exact ⟨h.1, hK _ _ _ h.2⟩
      · exact h
    · exact h
  · exact h
def shS : List Sh2 := [.of (.slice [.str fun _ => []])]
def rowOf (vs : List SV) (l : List Seen) : Option (Nat × (Nat → List UInt8) × Bool × Nat × Nat × Option Nat) := match vs, l with
  | [_], [⟨key, z, o, n, c, [.str f]⟩] => some (n, f, z, o, c, key)
  | _, _ => none
theorem rowOf_eq {vs : List SV} {l : List Seen} {n : Nat} {f : Nat → List UInt8} {z : Bool} {o c : Nat} {key : Option Nat} (h : rowOf vs l = some (n, f, z, o, c, key)) : filled shS vs l = [.vslc 0 1 z o 0 n c] ∧ l = [⟨key, z, o, n, c, [.str f]⟩] := by
  unfold rowOf at h
  split at h
  · injection h with h; injection h with h1 h; injection h with h2 h; injection h with h3 h; injection h with h4 h; injection h with h5 h6
    subst h1; subst h2; subst h3; subst h4; subst h5; subst h6
    exact ⟨rfl, rfl⟩
  · cases h
def strsSpec (q : List (List UInt8) → Prop) (g : List (List UInt8) → SV) (vs : List SV) (l : List Seen) : Option (Prop × Ans) := match rowOf vs l with
  | some (n, f, _) => some (q (rowL f 0 n), .ret (g (rowL f 0 n)))
  | none => none
theorem strs_ok {P : Program} {f : FuncId} {q : List (List UInt8) → Prop} {g : List (List UInt8) → SV} (h : CallOk P f (ansVPT shS (strsSpec q g))) : CallOk P f (strsPT q g) := by
  intro args m nx K hk hwf hargs Γ E w hs
  refine h args m nx K ?_ hwf hargs Γ E w hs
  unfold strsPT at hk
  split at hk
  · rename_i v
    split at hk
    · rename_i p s hv
      split at hk
      · rename_i f' hc
        have hk : (VC.and (.atom (p ∧ q (rowL f' 0 s.n))) (K (g (rowL f' 0 s.n)) m nx)).holds := by
          split at hk
          · rename_i l hl
            rw [listIn_eq hv hc hl]; exact hk
          · exact hk
        obtain ⟨key, z, o, n, c, cols⟩ := s
        simp only at hc
        subst hc
        have e : picks2 m 0 shS [v] = some ([(⟨key, z, o, n, c, [.str f']⟩ : Seen).sv 0], (p ∧ True), [⟨key, z, o, n, c, [.str f']⟩]) := by
          simp only [shS, picks2, pick2, pick1, hv, List.append_nil]
        unfold ansVPT
        rw [e]
        exact ⟨⟨⟨hk.1.1, trivial⟩, hk.1.2⟩, hk.2⟩
      · exact hk.elim
    · exact hk.elim
  · exact hk.elim
/-- A run of such a function. -/
noncomputable def runT (cfg : Cfg) (f : Nat) (fn : Func) (n : Nat) (F : Nat → List UInt8) (z : Bool) (o c : Nat) (key : Option Nat) (g : List (List UInt8) → SV) : VC :=
  runS cfg f fn [.vslc 0 1 z o 0 n c] [⟨key, z, o, n, c, [.str F]⟩] (.ret (g (rowL F 0 n)))
end Go.Proofs.YtocikfhejpilaaaGreatDoor
/-
  Conditions that the executor computes, written out by a program (vcgen.py).
-/
namespace Go.Proofs.YtocikfhejpilaaaGreatDoor
open Go Sx
set_option maxRecDepth 20000

theorem vcBytes0 (n : Int) (R : SV → Prop) : VC.holds (runP (cfgB2 noPT) 79 Tryz.f79 [.int .u64 false n] R) = ((decide (n = (0 : Int)) = true →
 R (SV.str true [])) ∧
 (decide (n = (0 : Int)) = false →
 ((0 : Int) ≤ n ∧
 n ≤ (18446744073709551615 : Int) ∧
 (0 : Int) < (256 : Int)) ∧
 ((0 : Int) ≤ n ∧
 n ≤ (18446744073709551615 : Int) ∧
 (0 : Int) < (256 : Int)) ∧
 False ∧
 False)) := by kernel_rfl
theorem vcBytesS (k : Nat) (n : Int) (R : SV → Prop) : VC.holds (runP (cfgB2 (purePT (byteSpec k))) 79 Tryz.f79 [.int .u64 false n] R) = ((decide (n = (0 : Int)) = true →
 R (SV.str true [])) ∧
 (decide (n = (0 : Int)) = false →
 ((0 : Int) ≤ n ∧
 n ≤ (18446744073709551615 : Int) ∧
 (0 : Int) < (256 : Int)) ∧
 ((0 : Int) ≤ n ∧
 n ≤ (18446744073709551615 : Int) ∧
 (0 : Int) < (256 : Int)) ∧
 (((0 : Int) ≤ n / (256 : Int) ∧
 n / (256 : Int) < (256 : Int) ^ k) ∧
 (↑(dig k (n / (256 : Int))).length : Int) + (↑(1 : Nat) : Int) ≤ (9223372036854775807 : Int) ∧
 R (SV.str false (cat (dig k (n / (256 : Int))) [UInt8.ofNat (n % (256 : Int) % (256 : Int)).toNat]))) ∧
 ((0 : Int) ≤ n / (256 : Int) ∧
 n / (256 : Int) < (256 : Int) ^ k) ∧
 some (SB.cells (setRange (times (1 : Nat) (SV.int IntKind.u8 true (0 : Int)).cells) (0 : Nat) (SV.int IntKind.u8 false (n % (256 : Int) % (256 : Int))).cells) (1 : Nat) (5 : Nat)) = some (SB.cells (setRange (times (1 : Nat) (SV.int IntKind.u8 true (0 : Int)).cells) (0 : Nat) (SV.int IntKind.u8 false (n % (256 : Int) % (256 : Int))).cells) (1 : Nat) (5 : Nat)) ∧
 (↑(dig k (n / (256 : Int))).length : Int) + (↑(1 : Nat) : Int) ≤ (9223372036854775807 : Int) ∧
 R (SV.str false (cat (dig k (n / (256 : Int))) [UInt8.ofNat (n % (256 : Int) % (256 : Int)).toNat])))) := by kernel_rfl
end Go.Proofs.YtocikfhejpilaaaGreatDoor
/-
  The reference's rlp: bytes of numbers: the contract; texts, numbers, rows: the set-up.
-/

namespace Go.Proofs.YtocikfhejpilaaaGreatDoor
open Go Sx
set_option maxRecDepth 20000

theorem bytes_zero {n : Int} (h0 : 0 ≤ n) (h1 : n < 256 ^ 0) : Holds (runP (cfgB2 noPT) 79 Tryz.f79 [.int .u64 false n] (fun v => sameVal v (.str false (dig 0 n)))) := by
  refine Holds.of_eq (vcBytes0 n _) ?_
  have h1 : n < 1 := h1
  obtain rfl : n = 0 := by omega
  exact ⟨fun _ => fun _ => rfl, fun h => by simp at h⟩
theorem bytes_run {k : Nat} {n : Int} (h0 : 0 ≤ n) (h1 : n < 256 ^ (k + 1)) (hk : k < 8) : Holds (runP (cfgB2 (purePT (byteSpec k))) 79 Tryz.f79 [.int .u64 false n] (fun v => sameVal v (.str false (dig (k + 1) n)))) := by
  refine Holds.of_eq (vcBytesS k n _) ?_
  have hl := dig_len k (n / 256)
  have h3 : n < 18446744073709551616 := by
    have : ∀ j, j ≤ 8 → (256 : Int) ^ j ≤ 18446744073709551616 := by decide
    exact Int.lt_of_lt_of_le h1 (this (k + 1) (by omega))
  rw [Int.pow_succ] at h1
  generalize (256 : Int) ^ k = p at *
  refine ⟨fun h => ?_, fun h => ?_⟩
  · have h : n = 0 := by simpa using h
    subst h
    rw [dig_zero (Int.le_refl _)]; exact fun _ => rfl
  · have h : ¬ n = 0 := by simpa using h
    have e : sameVal (.str false (cat (dig k (n / 256)) [UInt8.ofNat (n % 256 % 256).toNat])) (.str false (dig (k + 1) n)) := by
      apply str_same
      rw [dig_pos (by omega), Int.emod_emod]; rfl
    exact ⟨by omega, by omega, ⟨⟨by omega, by omega⟩, by omega, e⟩, ⟨by omega, by omega⟩, rfl, by omega, e⟩
theorem bytes_ok' : ∀ k, k ≤ 8 → CallOk Tryz.prog 79 (purePT (byteSpec k))
  | 0, _ => by
    refine pure_ok (goodB2 (noPT_ok _) noPT_mono) (n := 20) (fn := Tryz.f79) Tryz.func79 (by kernel_rfl) (by kernel_rfl) ?_
    intro args p r h hp
    unfold byteSpec at h
    split at h
    · injection h with h; injection h with h1 h2; subst h1; subst h2
      exact ⟨rfl, rfl, bytes_zero hp.1 hp.2⟩
    · cases h
  | k + 1, hk => by
    refine pure_ok (goodB2 (bytes_ok' k (by omega)) (purePT_mono _)) (n := 20) (fn := Tryz.f79) Tryz.func79 (by kernel_rfl) (by kernel_rfl) ?_
    intro args p r h hp
    unfold byteSpec at h
    split at h
    · injection h with h; injection h with h1 h2; subst h1; subst h2
      exact ⟨rfl, rfl, bytes_run hp.1 hp.2 (by omega)⟩
    · cases h
theorem bytes_ok : CallOk Tryz.prog 79 (purePT digitsSpec) := by
  refine pure_ok (goodB2 (bytes_ok' 7 (by omega)) (purePT_mono _)) (n := 20) (fn := Tryz.f79) Tryz.func79 (by kernel_rfl) (by kernel_rfl) ?_
  intro args p r h hp
  unfold digitsSpec at h
  split at h
  · injection h with h; injection h with h1 h2; subst h1; subst h2
    exact ⟨rfl, rfl, bytes_run hp.1 hp.2 (by omega)⟩
  · cases h
noncomputable def listG1 : List (FuncId × PT) := (79, purePT digitsSpec) :: list7
theorem listG1_ok : SummOk Tryz.prog (fun f => lookPT f listG1) := .cons bytes_ok (purePT_mono _) list7_ok
noncomputable def cfgG1 : Cfg := { cfg0 with summ := fun f => lookPT f listG1 }
theorem goodG1 : Sx.Good Tryz.prog cfgG1 := ⟨mixes, listG1_ok, fns_ok⟩
noncomputable def annNum2 (l : List UInt8) : LoopAnn :=
  { α := Int, pre := fun _ i => 0 ≤ i ∧ i ≤ l.length, mea := fun _ i => (l.length - i).toNat, fresh := 0, slots := fun _ i => [(3, .int .u64 false (num (l.take i.toNat))), (4, .int .i64 false i)], mem := fun _ _ => [] }
noncomputable def cfgN2 (l : List UInt8) : Cfg := { cfg0 with summ := fun f => lookPT f listG1, anns := fun f => if f = 89 then [(3, always (annNum2 l))] else [] }
theorem goodN2 (l : List UInt8) : Sx.Good Tryz.prog (cfgN2 l) := ⟨mixes, listG1_ok, fns_ok⟩
noncomputable def annJoin2 (n : Nat) (f : Nat → List UInt8) : LoopAnn :=
  { α := Nat, pre := fun _ i => i ≤ n, mea := fun _ i => n - i, fresh := 0, slots := fun _ i => [(3, .str false (flat (rowL f 0 i))), (4, .int .i64 false i)], mem := fun _ _ => [] }
noncomputable def cfgJ2 (n : Nat) (f : Nat → List UInt8) : Cfg := { cfg0 with summ := fun f => lookPT f listG1, anns := fun g => if g = 65 then [(3, always (annJoin2 n f))] else [] }
theorem goodJ2 (n : Nat) (f : Nat → List UInt8) : Sx.Good Tryz.prog (cfgJ2 n f) := ⟨mixes, listG1_ok, fns_ok⟩
end Go.Proofs.YtocikfhejpilaaaGreatDoor
/-
  Conditions that the executor computes, written out by a program (vcgen.py).
-/
namespace Go.Proofs.YtocikfhejpilaaaGreatDoor
open Go Sx
set_option maxRecDepth 20000

theorem vcWrap2 (b : List UInt8) (base : Int) (R : SV → Prop) : VC.holds (runP cfgG1 64 Tryz.f64 [.str false b, .int .i64 false base] R) = ((decide ((↑b.length : Int) ≤ (55 : Int)) = true →
 ((-9223372036854775808 : Int) ≤ base + (↑b.length : Int) ∧
 base + (↑b.length : Int) ≤ (9223372036854775807 : Int)) ∧
 (↑(1 : Nat) : Int) + (↑b.length : Int) ≤ (9223372036854775807 : Int) ∧
 R (SV.str false (cat [UInt8.ofNat ((base + (↑b.length : Int)) % (256 : Int)).toNat] b))) ∧
 (decide ((↑b.length : Int) ≤ (55 : Int)) = false →
 ((0 : Int) ≤ (↑b.length : Int) % (18446744073709551616 : Int) ∧
 (↑b.length : Int) % (18446744073709551616 : Int) < (18446744073709551616 : Int)) ∧
 ((-9223372036854775808 : Int) ≤ base + (55 : Int) ∧
 base + (55 : Int) ≤ (9223372036854775807 : Int)) ∧
 ((-9223372036854775808 : Int) ≤ base + (55 : Int) + (↑(digits ((↑b.length : Int) % (18446744073709551616 : Int))).length : Int) ∧
 base + (55 : Int) + (↑(digits ((↑b.length : Int) % (18446744073709551616 : Int))).length : Int) ≤ (9223372036854775807 : Int)) ∧
 (↑(1 : Nat) : Int) + (↑(digits ((↑b.length : Int) % (18446744073709551616 : Int))).length : Int) ≤ (9223372036854775807 : Int) ∧
 (↑(cat [UInt8.ofNat ((base + (55 : Int) + (↑(digits ((↑b.length : Int) % (18446744073709551616 : Int))).length : Int)) % (256 : Int)).toNat] (digits ((↑b.length : Int) % (18446744073709551616 : Int)))).length : Int) + (↑b.length : Int) ≤ (9223372036854775807 : Int) ∧
 R (SV.str false (cat (cat [UInt8.ofNat ((base + (55 : Int) + (↑(digits ((↑b.length : Int) % (18446744073709551616 : Int))).length : Int)) % (256 : Int)).toNat] (digits ((↑b.length : Int) % (18446744073709551616 : Int)))) b)))) := by kernel_rfl
theorem vcText2 (b : List UInt8) (R : SV → Prop) : VC.holds (runP cfgG1 33 Tryz.f33 [.str false b] R) = ((decide ((↑b.length : Int) = (1 : Int)) = true →
 ((0 : Int) ≤ (0 : Int) ∧
 (0 : Int) < (↑b.length : Int)) ∧
 (decide (byteAt b (0 : Int) < (128 : Int)) = true →
 R (SV.str false b)) ∧
 (decide (byteAt b (0 : Int) < (128 : Int)) = false →
 (decide ((↑b.length : Int) ≤ (55 : Int)) = true →
 ((-9223372036854775808 : Int) ≤ (128 : Int) + (↑b.length : Int) ∧
 (128 : Int) + (↑b.length : Int) ≤ (9223372036854775807 : Int)) ∧
 (↑(1 : Nat) : Int) + (↑b.length : Int) ≤ (9223372036854775807 : Int) ∧
 R (SV.str false (cat [UInt8.ofNat (((128 : Int) + (↑b.length : Int)) % (256 : Int)).toNat] b))) ∧
 (decide ((↑b.length : Int) ≤ (55 : Int)) = false →
 ((0 : Int) ≤ (↑b.length : Int) % (18446744073709551616 : Int) ∧
 (↑b.length : Int) % (18446744073709551616 : Int) < (18446744073709551616 : Int)) ∧
 ((-9223372036854775808 : Int) ≤ (183 : Int) + (↑(digits ((↑b.length : Int) % (18446744073709551616 : Int))).length : Int) ∧
 (183 : Int) + (↑(digits ((↑b.length : Int) % (18446744073709551616 : Int))).length : Int) ≤ (9223372036854775807 : Int)) ∧
 (↑(1 : Nat) : Int) + (↑(digits ((↑b.length : Int) % (18446744073709551616 : Int))).length : Int) ≤ (9223372036854775807 : Int) ∧
 (↑(cat [UInt8.ofNat (((183 : Int) + (↑(digits ((↑b.length : Int) % (18446744073709551616 : Int))).length : Int)) % (256 : Int)).toNat] (digits ((↑b.length : Int) % (18446744073709551616 : Int)))).length : Int) + (↑b.length : Int) ≤ (9223372036854775807 : Int) ∧
 R (SV.str false (cat (cat [UInt8.ofNat (((183 : Int) + (↑(digits ((↑b.length : Int) % (18446744073709551616 : Int))).length : Int)) % (256 : Int)).toNat] (digits ((↑b.length : Int) % (18446744073709551616 : Int)))) b))))) ∧
 (decide ((↑b.length : Int) = (1 : Int)) = false →
 (decide ((↑b.length : Int) ≤ (55 : Int)) = true →
 ((-9223372036854775808 : Int) ≤ (128 : Int) + (↑b.length : Int) ∧
 (128 : Int) + (↑b.length : Int) ≤ (9223372036854775807 : Int)) ∧
 (↑(1 : Nat) : Int) + (↑b.length : Int) ≤ (9223372036854775807 : Int) ∧
 R (SV.str false (cat [UInt8.ofNat (((128 : Int) + (↑b.length : Int)) % (256 : Int)).toNat] b))) ∧
 (decide ((↑b.length : Int) ≤ (55 : Int)) = false →
 ((0 : Int) ≤ (↑b.length : Int) % (18446744073709551616 : Int) ∧
 (↑b.length : Int) % (18446744073709551616 : Int) < (18446744073709551616 : Int)) ∧
 ((-9223372036854775808 : Int) ≤ (183 : Int) + (↑(digits ((↑b.length : Int) % (18446744073709551616 : Int))).length : Int) ∧
 (183 : Int) + (↑(digits ((↑b.length : Int) % (18446744073709551616 : Int))).length : Int) ≤ (9223372036854775807 : Int)) ∧
 (↑(1 : Nat) : Int) + (↑(digits ((↑b.length : Int) % (18446744073709551616 : Int))).length : Int) ≤ (9223372036854775807 : Int) ∧
 (↑(cat [UInt8.ofNat (((183 : Int) + (↑(digits ((↑b.length : Int) % (18446744073709551616 : Int))).length : Int)) % (256 : Int)).toNat] (digits ((↑b.length : Int) % (18446744073709551616 : Int)))).length : Int) + (↑b.length : Int) ≤ (9223372036854775807 : Int) ∧
 R (SV.str false (cat (cat [UInt8.ofNat (((183 : Int) + (↑(digits ((↑b.length : Int) % (18446744073709551616 : Int))).length : Int)) % (256 : Int)).toNat] (digits ((↑b.length : Int) % (18446744073709551616 : Int)))) b))))) := by kernel_rfl
theorem vcNumber2 (l : List UInt8) (R : SV → Prop) : VC.holds (runP (cfgN2 l) 89 Tryz.f89 [.str false l] R) = ((∃ (y : Int), ((0 : Int) ≤ y ∧
 y ≤ (↑l.length : Int)) ∧
 (0 : Int) = num (List.take y.toNat l) ∧
 (0 : Int) = y ∧
 True) ∧
 ∀ (x : Int), (0 : Int) ≤ x ∧
 x ≤ (↑l.length : Int) →
 (decide (x < (↑l.length : Int)) = true →
 ((0 : Int) ≤ x ∧
 x < (↑l.length : Int)) ∧
 ((0 : Int) ≤ byteAt l x ∧
 byteAt l x ≤ (18446744073709551615 : Int)) ∧
 ((-9223372036854775808 : Int) ≤ x + (1 : Int) ∧
 x + (1 : Int) ≤ (9223372036854775807 : Int)) ∧
 ∃ (y : Int), (((0 : Int) ≤ y ∧
 y ≤ (↑l.length : Int)) ∧
 ((↑l.length : Int) - y).toNat < ((↑l.length : Int) - x).toNat) ∧
 (num (List.take x.toNat l) * (256 : Int) % (18446744073709551616 : Int) + byteAt l x) % (18446744073709551616 : Int) = num (List.take y.toNat l) ∧
 x + (1 : Int) = y ∧
 True) ∧
 (decide (x < (↑l.length : Int)) = false →
 R (SV.int IntKind.u64 false (num (List.take x.toNat l))))) := by kernel_rfl
theorem vcJoin2 (n : Nat) (f : Nat → List UInt8) (z : Bool) (o c : Nat) (key : Option Nat) : VC.holds (runS (cfgJ2 n f) 65 Tryz.f65 [.vslc 0 1 z o 0 n c] [⟨key, z, o, n, c, [.str f]⟩] (.ret (.str false (flat (rowL f 0 n))))) = ((∃ (y : Nat), y ≤ n ∧
 [] = flat (rowL f (0 : Nat) y) ∧
 (0 : Int) = (↑y : Int) ∧
 SBle { key := key, z := z, o := o, n := n, c := c, cols := [Col.str f] : Seen }.B { key := key, z := z, o := o, n := n, c := c, cols := [Col.str f] : Seen }.B ∧
 True) ∧
 ∀ (x : Nat), x ≤ n →
 (decide ((↑x : Int) < (↑n : Int)) = true →
 ((0 : Int) ≤ (↑x : Int) ∧
 (↑x : Int) < (↑n : Int)) ∧
 (o = o ∧
 (0 : Nat) + (↑x : Int).toNat < n) ∧
 (↑(flat (rowL f (0 : Nat) x)).length : Int) + (↑(f ((0 : Nat) + (↑x : Int).toNat)).length : Int) ≤ (9223372036854775807 : Int) ∧
 ((-9223372036854775808 : Int) ≤ (↑x : Int) + (1 : Int) ∧
 (↑x : Int) + (1 : Int) ≤ (9223372036854775807 : Int)) ∧
 ∃ (y : Nat), (y ≤ n ∧
 n - y < n - x) ∧
 cat (flat (rowL f (0 : Nat) x)) (f ((0 : Nat) + (↑x : Int).toNat)) = flat (rowL f (0 : Nat) y) ∧
 (↑x : Int) + (1 : Int) = (↑y : Int) ∧
 SBle { key := key, z := z, o := o, n := n, c := c, cols := [Col.str f] : Seen }.B { key := key, z := z, o := o, n := n, c := c, cols := [Col.str f] : Seen }.B ∧
 True) ∧
 (decide ((↑x : Int) < (↑n : Int)) = false →
 sameVal (SV.str false (flat (rowL f (0 : Nat) x))) (SV.str false (flat (rowL f (0 : Nat) n))))) := by kernel_rfl
end Go.Proofs.YtocikfhejpilaaaGreatDoor
/-
  The reference's rlp: texts, numbers, rows of texts: the contracts; lists, numbers as items: the set-up.
-/
namespace Go.Proofs.YtocikfhejpilaaaGreatDoor
open Go Sx
set_option maxRecDepth 20000

theorem wrap2_str {b : List UInt8} {base : Int} (h1 : base = 128 ∨ base = 192) (h2 : b.length < 1152921504606846976) :
    (decide ((b.length : Int) ≤ 55) = true → cat [UInt8.ofNat ((base + (b.length : Int)) % 256).toNat] b = headOf base b.length ++ b) ∧
    (decide ((b.length : Int) ≤ 55) = false → cat (cat [UInt8.ofNat ((base + 55 + ((digits ((b.length : Int) % 18446744073709551616)).length : Int)) % 256).toNat] (digits ((b.length : Int) % 18446744073709551616))) b = headOf base b.length ++ b) := by
  have e : (b.length : Int) % 18446744073709551616 = b.length := by omega
  have hd := digits_len b.length
  constructor
  · intro h
    simp only [decide_eq_true_eq] at h
    unfold headOf
    rw [if_pos (by omega), show (base + (b.length : Int)) % 256 = base + b.length by omega]; rfl
  · intro h
    simp only [decide_eq_false_iff_not] at h
    unfold headOf
    rw [e, if_neg (by omega), show (base + 55 + ((digits (b.length : Int)).length : Int)) % 256 = base + 55 + ((digits (b.length : Int)).length : Int) by omega]; rfl
theorem wrap2_holds {b : List UInt8} {base : Int} (h1 : base = 128 ∨ base = 192) (h2 : b.length < 1152921504606846976) : Holds (runP cfgG1 64 Tryz.f64 [.str false b, .int .i64 false base] (fun v => sameVal v (.str false (headOf base b.length ++ b)))) := by
  refine Holds.of_eq (vcWrap2 b base _) ?_
  obtain ⟨g1, g2⟩ := wrap2_str h1 h2
  have hd := digits_len ((b.length : Int) % 18446744073709551616)
  refine ⟨fun h => ⟨by omega, by omega, str_same (g1 h)⟩, fun h => ⟨by omega, by omega, by omega, by omega, ?_, str_same (g2 h)⟩⟩
  simp only [cat, List.length_append, List.length_cons, List.length_nil]; omega
def wrap2Spec : List SV → Option (Prop × SV)
  | [.str false b, .int .i64 false base] => some ((base = 128 ∨ base = 192) ∧ b.length < 1152921504606846976, .str false (headOf base b.length ++ b))
  | _ => none
theorem wrap2_ok : CallOk Tryz.prog 64 (purePT wrap2Spec) := by
  refine pure_ok goodG1 (n := 20) (fn := Tryz.f64) Tryz.func64 (by kernel_rfl) (by kernel_rfl) ?_
  intro args p r h hp
  unfold wrap2Spec at h
  split at h
  · injection h with h; injection h with h1 h2; subst h1; subst h2
    exact ⟨rfl, rfl, wrap2_holds hp.1 hp.2⟩
  · cases h
theorem text2_holds {b : List UInt8} (hb : b.length < 1152921504606846976) : Holds (runP cfgG1 33 Tryz.f33 [.str false b] (fun v => sameVal v (.str false (textOf b)))) := by
  refine Holds.of_eq (vcText2 b _) ?_
  obtain ⟨g1, g2⟩ := wrap2_str (base := 128) (.inl rfl) hb
  have hd := digits_len ((b.length : Int) % 18446744073709551616)
  have hc : ∀ x : UInt8, ((cat [x] (digits ((b.length : Int) % 18446744073709551616))).length : Int) ≤ 9 := fun x => by
    simp only [cat, List.length_append, List.length_cons, List.length_nil]; omega
  refine ⟨fun h => ⟨by simp at h; omega, fun h2 => str_same ?_, fun h2 => ?_⟩, fun h => ?_⟩
  · simp at h h2; exact (if_pos ⟨by omega, h2⟩).symm
  · have ht : headOf 128 b.length ++ b = textOf b := by
      simp only [decide_eq_false_iff_not] at h2
      exact (text_long fun x => h2 x.2).symm
    refine ⟨fun h => ⟨by omega, by omega, str_same ((g1 h).trans ht)⟩, fun h => ⟨by omega, by omega, by omega, ?_, str_same ((g2 h).trans ht)⟩⟩
    have := hc (UInt8.ofNat (((183 : Int) + ((digits ((b.length : Int) % 18446744073709551616)).length : Int)) % 256).toNat)
    omega
  · have ht : headOf 128 b.length ++ b = textOf b := by
      simp only [decide_eq_false_iff_not] at h
      exact (text_long fun x => h (by omega)).symm
    refine ⟨fun h => ⟨by omega, by omega, str_same ((g1 h).trans ht)⟩, fun h => ⟨by omega, by omega, by omega, ?_, str_same ((g2 h).trans ht)⟩⟩
    have := hc (UInt8.ofNat (((183 : Int) + ((digits ((b.length : Int) % 18446744073709551616)).length : Int)) % 256).toNat)
    omega
theorem text2_ok : CallOk Tryz.prog 33 (purePT textSpec) := by
  refine pure_ok goodG1 (n := 20) (fn := Tryz.f33) Tryz.func33 (by kernel_rfl) (by kernel_rfl) ?_
  intro args p r h hp
  unfold textSpec at h
  split at h
  · injection h with h; injection h with h1 h2; subst h1; subst h2
    exact ⟨rfl, rfl, text2_holds hp⟩
  · cases h
theorem number2_holds {l : List UInt8} (hl : l.length ≤ 8) : Holds (runP (cfgN2 l) 89 Tryz.f89 [.str false l] (fun v => sameVal v (.int .u64 false (num l)))) := by
  refine Holds.of_eq (vcNumber2 l _) ?_
  refine ⟨⟨0, by omega, rfl, rfl, trivial⟩, fun x ⟨h1, h2⟩ => ⟨fun h => ?_, fun h => ?_⟩⟩
  · simp only [decide_eq_true_eq] at h
    have h3 := num_lt7 h1 h hl
    have h4 := num_nn (l.take x.toNat)
    have h5 := byteAt_lt l x
    refine ⟨by omega, by omega, by omega, x + 1, by omega, ?_, rfl, trivial⟩
    rw [num_take h1 h]; omega
  · simp only [decide_eq_false_iff_not] at h
    obtain rfl : x = l.length := by omega
    rw [Int.toNat_natCast, List.take_length]; exact fun _ => rfl
def number2Spec : List SV → Option (Prop × SV)
  | [.str false l] => some (l.length ≤ 8, .int .u64 false (num l))
  | _ => none
theorem number2_ok : CallOk Tryz.prog 89 (ansPT fun l => (number2Spec l).map fun p => (p.1, .ret p.2)) := by
  refine ans_ok (n := 20) (fn := Tryz.f89) Tryz.func89 (by kernel_rfl) (by kernel_rfl) ?_
  intro args p a h hp
  unfold number2Spec at h
  split at h
  · rename_i l
    injection h with h; injection h with h1 h2; subst h1; subst h2
    exact ⟨_, goodN2 l, rfl, rfl, number2_holds hp⟩
  · cases h
theorem rowL_succ (f : Nat → List UInt8) (i : Nat) : rowL f 0 (i + 1) = rowL f 0 i ++ [f i] := by
  unfold rowL
  rw [List.range_succ, List.map_append]; simp
theorem flat_snoc (l : List (List UInt8)) (a : List UInt8) : flat (l ++ [a]) = flat l ++ a := by simp [flat]
theorem flat_row_le (f : Nat → List UInt8) {i : Nat} : ∀ {n : Nat}, i ≤ n → (flat (rowL f 0 i)).length ≤ (flat (rowL f 0 n)).length
  | 0, h => by obtain rfl : i = 0 := by omega
               exact Nat.le_refl _
  | n + 1, h => by
    by_cases e : i = n + 1
    · subst e; exact Nat.le_refl _
    · have := flat_row_le f (i := i) (n := n) (by omega)
      rw [rowL_succ, flat_snoc, List.length_append]; omega
theorem join2_holds {n : Nat} {f : Nat → List UInt8} (z : Bool) (o c : Nat) (key : Option Nat) (hf : (flat (rowL f 0 n)).length < 1152921504606846976) (hn : n < 1152921504606846976) :
    Holds (runS (cfgJ2 n f) 65 Tryz.f65 [.vslc 0 1 z o 0 n c] [⟨key, z, o, n, c, [.str f]⟩] (.ret (.str false (flat (rowL f 0 n))))) := by
  refine Holds.of_eq (vcJoin2 n f z o c key) ?_
  refine ⟨⟨0, Nat.zero_le _, rfl, rfl, SBle.refl _, trivial⟩, fun x hx => ⟨fun h => ?_, fun h => ?_⟩⟩
  · simp only [decide_eq_true_eq] at h
    have h1 := flat_row_le f (i := x + 1) (n := n) (by omega)
    rw [rowL_succ, flat_snoc, List.length_append] at h1
    simp only [Int.toNat_natCast, Nat.zero_add]
    refine ⟨by omega, ⟨trivial, by omega⟩, by omega, by omega, x + 1, by omega, ?_, by omega, SBle.refl _, trivial⟩
    rw [rowL_succ, flat_snoc]; rfl
  · simp only [decide_eq_false_iff_not] at h
    obtain rfl : x = n := by omega
    exact fun _ => rfl
def joinQ (l : List (List UInt8)) : Prop := (flat l).length < 1152921504606846976 ∧ l.length < 1152921504606846976
def joinG (l : List (List UInt8)) : SV := .str false (flat l)
theorem join2_ok : CallOk Tryz.prog 65 (strsPT joinQ joinG) := by
  refine strs_ok (ansV_ok (n := 20) (fn := Tryz.f65) Tryz.func65 (by kernel_rfl) (by kernel_rfl) ?_)
  intro vs l q a h hq
  unfold strsSpec at h
  split at h
  · rename_i n f r hx
    obtain ⟨z, o, c, key⟩ := r
    injection h with h; injection h with h1 h2; subst h1; subst h2
    obtain ⟨e1, e2⟩ := rowOf_eq hx
    rw [e1, e2]
    exact ⟨_, goodJ2 n f, rfl, rfl, join2_holds z o c key hq.1 (by have := hq.2; rwa [rowL_len] at this)⟩
  · cases h
noncomputable def number2PT : PT := ansPT fun l => (number2Spec l).map fun p => (p.1, .ret p.2)
noncomputable def listG2 : List (FuncId × PT) := (64, purePT wrap2Spec) :: (33, purePT textSpec) :: (89, number2PT) :: (65, strsPT joinQ joinG) :: listG1
theorem listG2_ok : SummOk Tryz.prog (fun f => lookPT f listG2) := .cons wrap2_ok (purePT_mono _) (.cons text2_ok (purePT_mono _) (.cons number2_ok (ansPT_mono _) (.cons join2_ok (strsPT_mono _ _) listG1_ok)))
noncomputable def cfgG2 : Cfg := { cfg0 with summ := fun f => lookPT f listG2 }
theorem goodG2 : Sx.Good Tryz.prog cfgG2 := ⟨mixes, listG2_ok, fns_ok⟩
end Go.Proofs.YtocikfhejpilaaaGreatDoor
/-
  Conditions that the executor computes, written out by a program (vcgen.py).
-/
namespace Go.Proofs.YtocikfhejpilaaaGreatDoor
open Go Sx
set_option maxRecDepth 20000
def head2B (s : List UInt8) : Bool := !decide (s = []) && (decide (byteAt s 0 < 128) || !decide (55 < lead s) || decide (lead s - 54 ≤ s.length))
def head2A (s : List UInt8) : Ans := .fork (head2B s) fun b => match b with
  | true => .ret (.tup [.bool false (cutL s), .int .i64 false (cutFrom s), .int .u64 false (cutN s), .bool true true])
  | false => .ret (.tup [.bool true false, .int .i64 true 0, .int .u64 true 0, .bool true false])
def listG (l : List (List UInt8)) : SV := .str false (headOf 192 (flat l).length ++ flat l)
theorem vcList2 (n : Nat) (f : Nat → List UInt8) (z : Bool) (o c : Nat) (key : Option Nat) : VC.holds (runT cfgG2 31 Tryz.f31 n f z o c key listG) = (((z = z ∧
 o = o ∧
 (0 : Nat) + n ≤ n) ∧
 joinQ (rowL f (0 : Nat) n)) ∧
 (((192 : Int) = (128 : Int) ∨ (192 : Int) = (192 : Int)) ∧
 (flat (rowL f (0 : Nat) n)).length < (1152921504606846976 : Nat)) ∧
 sameVal (SV.str false (headOf (192 : Int) (flat (rowL f (0 : Nat) n)).length ++ flat (rowL f (0 : Nat) n))) (listG (rowL f (0 : Nat) n))) := by kernel_rfl
theorem vcNum2 (n : Int) (R : SV → Prop) : VC.holds (runP cfgG2 66 Tryz.f66 [.int .u64 false n] R) = (((0 : Int) ≤ n ∧
 n < (18446744073709551616 : Int)) ∧
 (digits n).length < (1152921504606846976 : Nat) ∧
 R (SV.str false (textOf (digits n)))) := by kernel_rfl
theorem vcHead2 (s : List UInt8) : VC.holds (runA cfgG2 88 Tryz.f88 [.str false s] (head2A s)) = ((decide (s = []) = true →
 (head2B s = true →
 sameVal (SV.tup [SV.bool true false, SV.int IntKind.i64 true (0 : Int), SV.int IntKind.u64 true (0 : Int), SV.bool true false]) (SV.tup [SV.bool false (cutL s), SV.int IntKind.i64 false (cutFrom s), SV.int IntKind.u64 false (cutN s), SV.bool true true])) ∧
 (head2B s = false →
 sameVal (SV.tup [SV.bool true false, SV.int IntKind.i64 true (0 : Int), SV.int IntKind.u64 true (0 : Int), SV.bool true false]) (SV.tup [SV.bool true false, SV.int IntKind.i64 true (0 : Int), SV.int IntKind.u64 true (0 : Int), SV.bool true false]))) ∧
 (decide (s = []) = false →
 ((0 : Int) ≤ (0 : Int) ∧
 (0 : Int) < (↑s.length : Int)) ∧
 ((-9223372036854775808 : Int) ≤ byteAt s (0 : Int) ∧
 byteAt s (0 : Int) ≤ (9223372036854775807 : Int)) ∧
 (decide (byteAt s (0 : Int) < (128 : Int)) = true →
 (head2B s = true →
 sameVal (SV.tup [SV.bool true false, SV.int IntKind.i64 true (0 : Int), SV.int IntKind.u64 true (1 : Int), SV.bool true true]) (SV.tup [SV.bool false (cutL s), SV.int IntKind.i64 false (cutFrom s), SV.int IntKind.u64 false (cutN s), SV.bool true true])) ∧
 (head2B s = false →
 sameVal (SV.tup [SV.bool true false, SV.int IntKind.i64 true (0 : Int), SV.int IntKind.u64 true (1 : Int), SV.bool true true]) (SV.tup [SV.bool true false, SV.int IntKind.i64 true (0 : Int), SV.int IntKind.u64 true (0 : Int), SV.bool true false]))) ∧
 (decide (byteAt s (0 : Int) < (128 : Int)) = false →
 (decide ((192 : Int) ≤ byteAt s (0 : Int)) = true →
 (decide (byteAt s (0 : Int) ≤ (247 : Int)) = true →
 ((-9223372036854775808 : Int) ≤ byteAt s (0 : Int) - (192 : Int) ∧
 byteAt s (0 : Int) - (192 : Int) ≤ (9223372036854775807 : Int)) ∧
 (head2B s = true →
 sameVal (SV.tup [SV.bool (false && true) (decide ((192 : Int) ≤ byteAt s (0 : Int))), SV.int IntKind.i64 true (1 : Int), SV.int IntKind.u64 false ((byteAt s (0 : Int) - (192 : Int)) % (18446744073709551616 : Int)), SV.bool true true]) (SV.tup [SV.bool false (cutL s), SV.int IntKind.i64 false (cutFrom s), SV.int IntKind.u64 false (cutN s), SV.bool true true])) ∧
 (head2B s = false →
 sameVal (SV.tup [SV.bool (false && true) (decide ((192 : Int) ≤ byteAt s (0 : Int))), SV.int IntKind.i64 true (1 : Int), SV.int IntKind.u64 false ((byteAt s (0 : Int) - (192 : Int)) % (18446744073709551616 : Int)), SV.bool true true]) (SV.tup [SV.bool true false, SV.int IntKind.i64 true (0 : Int), SV.int IntKind.u64 true (0 : Int), SV.bool true false]))) ∧
 (decide (byteAt s (0 : Int) ≤ (247 : Int)) = false →
 ((-9223372036854775808 : Int) ≤ byteAt s (0 : Int) - (192 : Int) ∧
 byteAt s (0 : Int) - (192 : Int) ≤ (9223372036854775807 : Int)) ∧
 ((-9223372036854775808 : Int) ≤ byteAt s (0 : Int) - (192 : Int) - (55 : Int) ∧
 byteAt s (0 : Int) - (192 : Int) - (55 : Int) ≤ (9223372036854775807 : Int)) ∧
 ((-9223372036854775808 : Int) ≤ (1 : Int) + (byteAt s (0 : Int) - (192 : Int) - (55 : Int)) ∧
 (1 : Int) + (byteAt s (0 : Int) - (192 : Int) - (55 : Int)) ≤ (9223372036854775807 : Int)) ∧
 (decide ((↑s.length : Int) < (1 : Int) + (byteAt s (0 : Int) - (192 : Int) - (55 : Int))) = true →
 (head2B s = true →
 sameVal (SV.tup [SV.bool true false, SV.int IntKind.i64 true (0 : Int), SV.int IntKind.u64 true (0 : Int), SV.bool true false]) (SV.tup [SV.bool false (cutL s), SV.int IntKind.i64 false (cutFrom s), SV.int IntKind.u64 false (cutN s), SV.bool true true])) ∧
 (head2B s = false →
 sameVal (SV.tup [SV.bool true false, SV.int IntKind.i64 true (0 : Int), SV.int IntKind.u64 true (0 : Int), SV.bool true false]) (SV.tup [SV.bool true false, SV.int IntKind.i64 true (0 : Int), SV.int IntKind.u64 true (0 : Int), SV.bool true false]))) ∧
 (decide ((↑s.length : Int) < (1 : Int) + (byteAt s (0 : Int) - (192 : Int) - (55 : Int))) = false →
 ((-9223372036854775808 : Int) ≤ (1 : Int) + (byteAt s (0 : Int) - (192 : Int) - (55 : Int)) ∧
 (1 : Int) + (byteAt s (0 : Int) - (192 : Int) - (55 : Int)) ≤ (9223372036854775807 : Int)) ∧
 ((-9223372036854775808 : Int) ≤ (1 : Int) + (byteAt s (0 : Int) - (192 : Int) - (55 : Int)) ∧
 (1 : Int) + (byteAt s (0 : Int) - (192 : Int) - (55 : Int)) ≤ (9223372036854775807 : Int)) ∧
 ((0 : Int) ≤ (1 : Int) ∧
 (1 : Int) ≤ (1 : Int) + (byteAt s (0 : Int) - (192 : Int) - (55 : Int)) ∧
 (1 : Int) + (byteAt s (0 : Int) - (192 : Int) - (55 : Int)) ≤ (↑s.length : Int)) ∧
 (subStr s (some (Operand.const (Value.int IntKind.i64 (1 : Int)))) (some (Operand.tmp (43 : Nat))) (1 : Int) ((1 : Int) + (byteAt s (0 : Int) - (192 : Int) - (55 : Int)))).length ≤ (8 : Nat) ∧
 (head2B s = true →
 sameVal (SV.tup [SV.bool (false && true) (decide ((192 : Int) ≤ byteAt s (0 : Int))), SV.int IntKind.i64 false ((1 : Int) + (byteAt s (0 : Int) - (192 : Int) - (55 : Int))), SV.int IntKind.u64 false (num (subStr s (some (Operand.const (Value.int IntKind.i64 (1 : Int)))) (some (Operand.tmp (43 : Nat))) (1 : Int) ((1 : Int) + (byteAt s (0 : Int) - (192 : Int) - (55 : Int))))), SV.bool true true]) (SV.tup [SV.bool false (cutL s), SV.int IntKind.i64 false (cutFrom s), SV.int IntKind.u64 false (cutN s), SV.bool true true])) ∧
 (head2B s = false →
 sameVal (SV.tup [SV.bool (false && true) (decide ((192 : Int) ≤ byteAt s (0 : Int))), SV.int IntKind.i64 false ((1 : Int) + (byteAt s (0 : Int) - (192 : Int) - (55 : Int))), SV.int IntKind.u64 false (num (subStr s (some (Operand.const (Value.int IntKind.i64 (1 : Int)))) (some (Operand.tmp (43 : Nat))) (1 : Int) ((1 : Int) + (byteAt s (0 : Int) - (192 : Int) - (55 : Int))))), SV.bool true true]) (SV.tup [SV.bool true false, SV.int IntKind.i64 true (0 : Int), SV.int IntKind.u64 true (0 : Int), SV.bool true false]))))) ∧
 (decide ((192 : Int) ≤ byteAt s (0 : Int)) = false →
 (decide (byteAt s (0 : Int) ≤ (183 : Int)) = true →
 ((-9223372036854775808 : Int) ≤ byteAt s (0 : Int) - (128 : Int) ∧
 byteAt s (0 : Int) - (128 : Int) ≤ (9223372036854775807 : Int)) ∧
 (head2B s = true →
 sameVal (SV.tup [SV.bool (false && true) (decide ((192 : Int) ≤ byteAt s (0 : Int))), SV.int IntKind.i64 true (1 : Int), SV.int IntKind.u64 false ((byteAt s (0 : Int) - (128 : Int)) % (18446744073709551616 : Int)), SV.bool true true]) (SV.tup [SV.bool false (cutL s), SV.int IntKind.i64 false (cutFrom s), SV.int IntKind.u64 false (cutN s), SV.bool true true])) ∧
 (head2B s = false →
 sameVal (SV.tup [SV.bool (false && true) (decide ((192 : Int) ≤ byteAt s (0 : Int))), SV.int IntKind.i64 true (1 : Int), SV.int IntKind.u64 false ((byteAt s (0 : Int) - (128 : Int)) % (18446744073709551616 : Int)), SV.bool true true]) (SV.tup [SV.bool true false, SV.int IntKind.i64 true (0 : Int), SV.int IntKind.u64 true (0 : Int), SV.bool true false]))) ∧
 (decide (byteAt s (0 : Int) ≤ (183 : Int)) = false →
 ((-9223372036854775808 : Int) ≤ byteAt s (0 : Int) - (128 : Int) ∧
 byteAt s (0 : Int) - (128 : Int) ≤ (9223372036854775807 : Int)) ∧
 ((-9223372036854775808 : Int) ≤ byteAt s (0 : Int) - (128 : Int) - (55 : Int) ∧
 byteAt s (0 : Int) - (128 : Int) - (55 : Int) ≤ (9223372036854775807 : Int)) ∧
 ((-9223372036854775808 : Int) ≤ (1 : Int) + (byteAt s (0 : Int) - (128 : Int) - (55 : Int)) ∧
 (1 : Int) + (byteAt s (0 : Int) - (128 : Int) - (55 : Int)) ≤ (9223372036854775807 : Int)) ∧
 (decide ((↑s.length : Int) < (1 : Int) + (byteAt s (0 : Int) - (128 : Int) - (55 : Int))) = true →
 (head2B s = true →
 sameVal (SV.tup [SV.bool true false, SV.int IntKind.i64 true (0 : Int), SV.int IntKind.u64 true (0 : Int), SV.bool true false]) (SV.tup [SV.bool false (cutL s), SV.int IntKind.i64 false (cutFrom s), SV.int IntKind.u64 false (cutN s), SV.bool true true])) ∧
 (head2B s = false →
 sameVal (SV.tup [SV.bool true false, SV.int IntKind.i64 true (0 : Int), SV.int IntKind.u64 true (0 : Int), SV.bool true false]) (SV.tup [SV.bool true false, SV.int IntKind.i64 true (0 : Int), SV.int IntKind.u64 true (0 : Int), SV.bool true false]))) ∧
 (decide ((↑s.length : Int) < (1 : Int) + (byteAt s (0 : Int) - (128 : Int) - (55 : Int))) = false →
 ((-9223372036854775808 : Int) ≤ (1 : Int) + (byteAt s (0 : Int) - (128 : Int) - (55 : Int)) ∧
 (1 : Int) + (byteAt s (0 : Int) - (128 : Int) - (55 : Int)) ≤ (9223372036854775807 : Int)) ∧
 ((-9223372036854775808 : Int) ≤ (1 : Int) + (byteAt s (0 : Int) - (128 : Int) - (55 : Int)) ∧
 (1 : Int) + (byteAt s (0 : Int) - (128 : Int) - (55 : Int)) ≤ (9223372036854775807 : Int)) ∧
 ((0 : Int) ≤ (1 : Int) ∧
 (1 : Int) ≤ (1 : Int) + (byteAt s (0 : Int) - (128 : Int) - (55 : Int)) ∧
 (1 : Int) + (byteAt s (0 : Int) - (128 : Int) - (55 : Int)) ≤ (↑s.length : Int)) ∧
 (subStr s (some (Operand.const (Value.int IntKind.i64 (1 : Int)))) (some (Operand.tmp (43 : Nat))) (1 : Int) ((1 : Int) + (byteAt s (0 : Int) - (128 : Int) - (55 : Int)))).length ≤ (8 : Nat) ∧
 (head2B s = true →
 sameVal (SV.tup [SV.bool (false && true) (decide ((192 : Int) ≤ byteAt s (0 : Int))), SV.int IntKind.i64 false ((1 : Int) + (byteAt s (0 : Int) - (128 : Int) - (55 : Int))), SV.int IntKind.u64 false (num (subStr s (some (Operand.const (Value.int IntKind.i64 (1 : Int)))) (some (Operand.tmp (43 : Nat))) (1 : Int) ((1 : Int) + (byteAt s (0 : Int) - (128 : Int) - (55 : Int))))), SV.bool true true]) (SV.tup [SV.bool false (cutL s), SV.int IntKind.i64 false (cutFrom s), SV.int IntKind.u64 false (cutN s), SV.bool true true])) ∧
 (head2B s = false →
 sameVal (SV.tup [SV.bool (false && true) (decide ((192 : Int) ≤ byteAt s (0 : Int))), SV.int IntKind.i64 false ((1 : Int) + (byteAt s (0 : Int) - (128 : Int) - (55 : Int))), SV.int IntKind.u64 false (num (subStr s (some (Operand.const (Value.int IntKind.i64 (1 : Int)))) (some (Operand.tmp (43 : Nat))) (1 : Int) ((1 : Int) + (byteAt s (0 : Int) - (128 : Int) - (55 : Int))))), SV.bool true true]) (SV.tup [SV.bool true false, SV.int IntKind.i64 true (0 : Int), SV.int IntKind.u64 true (0 : Int), SV.bool true false])))))))) := by kernel_rfl
end Go.Proofs.YtocikfhejpilaaaGreatDoor
/-
  The reference's rlp: lists, numbers as items: the contracts; the first item: the set-up.
-/
namespace Go.Proofs.YtocikfhejpilaaaGreatDoor
open Go Sx
set_option maxRecDepth 20000

theorem rlist2_ok : CallOk Tryz.prog 31 (strsPT joinQ listG) := by
  refine strs_ok (ansV_ok (n := 20) (fn := Tryz.f31) Tryz.func31 (by kernel_rfl) (by kernel_rfl) ?_)
  intro vs l q a h hq
  unfold strsSpec at h
  split at h
  · rename_i n f r hx
    obtain ⟨z, o, c, key⟩ := r
    injection h with h; injection h with h1 h2; subst h1; subst h2
    obtain ⟨e1, e2⟩ := rowOf_eq hx
    rw [e1, e2]
    refine ⟨_, goodG2, rfl, rfl, Holds.of_eq (vcList2 n f z o c key) ?_⟩
    exact ⟨⟨⟨rfl, rfl, by omega⟩, hq⟩, ⟨.inr rfl, hq.1⟩, fun _ => rfl⟩
  · cases h
theorem num2_ok : CallOk Tryz.prog 66 (purePT numSpec) := by
  refine pure_ok goodG2 (n := 20) (fn := Tryz.f66) Tryz.func66 (by kernel_rfl) (by kernel_rfl) ?_
  intro args p r h hp
  unfold numSpec at h
  split at h
  · rename_i n
    injection h with h; injection h with h1 h2; subst h1; subst h2
    have := digits_len n
    exact ⟨rfl, rfl, Holds.of_eq (vcNum2 n _) ⟨hp, by omega, fun _ => rfl⟩⟩
  · cases h
theorem head2_iff {s : List UInt8} : head2B s = true ↔ s ≠ [] ∧ (byteAt s 0 < 128 ∨ ¬ 55 < lead s ∨ lead s - 54 ≤ s.length) := by
  simp only [head2B, Bool.and_eq_true, Bool.or_eq_true, Bool.not_eq_true', decide_eq_true_eq, decide_eq_false_iff_not, or_assoc, ne_eq]
theorem head2_same {a a' l1 l2 l3 l4 l5 l6 : Bool} {b b' c c' : Int} (h1 : a = a') (h2 : b = b') (h3 : c = c') : sameVal (.tup [.bool l1 a, .int .i64 l2 b, .int .u64 l3 c, .bool true true]) (.tup [.bool l4 a', .int .i64 l5 b', .int .u64 l6 c', .bool true true]) := by
  subst h1; subst h2; subst h3; exact fun _ => rfl
theorem head2_holds {s : List UInt8} (hs : s.length < 1152921504606846976) : Holds (runA cfgG2 88 Tryz.f88 [.str false s] (head2A s)) := by
  refine Holds.of_eq (vcHead2 s) ?_
  have g0 := byteAt_lt s 0
  have hl : s = [] ∨ 0 < s.length := by cases s <;> simp
  have e1 : byteAt s 0 < 192 → lead s = byteAt s 0 - 128 := lead_lt
  have e2 : ¬ byteAt s 0 < 192 → lead s = byteAt s 0 - 192 := lead_ge
  have eB : ∀ {p : Prop}, ¬ (s ≠ [] ∧ (byteAt s 0 < 128 ∨ ¬ 55 < lead s ∨ lead s - 54 ≤ s.length)) → head2B s = true → p := fun h h' => absurd (head2_iff.1 h') h
  have eN : ∀ {p : Prop}, (s ≠ [] ∧ (byteAt s 0 < 128 ∨ ¬ 55 < lead s ∨ lead s - 54 ≤ s.length)) → head2B s = false → p := fun h h' => by rw [head2_iff.2 h] at h'; cases h'
  repeat' first
    | apply And.intro
    | intro (h : _ = true)
    | intro (h : _ = false)
  all_goals simp only [decide_eq_true_eq, decide_eq_false_iff_not] at *
  all_goals first
    | omega
    | exact fun _ => rfl
    | (rcases hl with hl | hl
       · contradiction
       · omega)
    | (simp only [subStr, List.length_take, List.length_drop]; omega)
    | (refine eB (fun hh => ?_) (by assumption); obtain ⟨h1, h2⟩ := hh; first | contradiction | omega)
    | (refine eN ⟨by assumption, by omega⟩ (by assumption))
    | (have hA : byteAt s 0 < 128 := by assumption
       exact head2_same (by simp [cutL]; omega) (if_pos hA).symm (if_pos hA).symm)
    | (have hA : ¬ byteAt s 0 < 128 := by assumption
       have hL : 55 < lead s := by omega
       refine head2_same rfl ?_ ?_
       · unfold cutFrom; rw [if_neg hA, if_pos hL]; omega
       · unfold cutN part; rw [if_neg hA, if_pos hL]; simp only [subStr]; congr 2; omega)
    | (have hA : ¬ byteAt s 0 < 128 := by assumption
       have hL : ¬ 55 < lead s := by omega
       refine head2_same rfl ?_ ?_
       · unfold cutFrom; rw [if_neg hA, if_neg hL]
       · unfold cutN; rw [if_neg hA, if_neg hL]; omega)
def head2Spec : List SV → Option (Prop × Ans)
  | [.str false s] => some (s.length < 1152921504606846976, head2A s)
  | _ => none
theorem head2_ok : CallOk Tryz.prog 88 (ansPT head2Spec) := by
  refine ans_ok (n := 20) (fn := Tryz.f88) Tryz.func88 (by kernel_rfl) (by kernel_rfl) ?_
  intro args p a h hp
  unfold head2Spec at h
  split at h
  · rename_i s
    injection h with h; injection h with h1 h2; subst h1; subst h2
    refine ⟨_, goodG2, rfl, fun b => ?_, head2_holds hp⟩
    cases b <;> exact rfl
  · cases h
noncomputable def listG3 : List (FuncId × PT) := (31, strsPT joinQ listG) :: (66, purePT numSpec) :: (88, ansPT head2Spec) :: listG2
theorem listG3_ok : SummOk Tryz.prog (fun f => lookPT f listG3) := .cons rlist2_ok (strsPT_mono _ _) (.cons num2_ok (purePT_mono _) (.cons head2_ok (ansPT_mono _) listG2_ok))
noncomputable def cfgG3 : Cfg := { cfg0 with summ := fun f => lookPT f listG3 }
theorem goodG3 : Sx.Good Tryz.prog cfgG3 := ⟨mixes, listG3_ok, fns_ok⟩
end Go.Proofs.YtocikfhejpilaaaGreatDoor
/-
  Conditions that the executor computes, written out by a program (vcgen.py).
-/
namespace Go.Proofs.YtocikfhejpilaaaGreatDoor
open Go Sx
set_option maxRecDepth 20000

theorem vcSplit2 (s : List UInt8) : VC.holds (runA cfgG3 73 Tryz.f73 [.str false s] (splitA s)) = (s.length < (1152921504606846976 : Nat) ∧
 (head2B s = true →
 (decide ((1048576 : Int) < cutN s) = true →
 (cutB s = true →
 sameVal (SV.tup [SV.bool true false, SV.str true [], SV.str true [], SV.int IntKind.i64 true (2 : Int)]) (SV.tup [SV.bool false (cutL s), SV.str false (cutIn s), SV.str false (cutRest s), SV.int IntKind.i64 true (0 : Int)])) ∧
 (cutB s = false →
 sameVal (SV.tup [SV.bool true false, SV.str true [], SV.str true [], SV.int IntKind.i64 true (2 : Int)]) (SV.tup [SV.bool true false, SV.str true [], SV.str true [], SV.int IntKind.i64 true (2 : Int)]))) ∧
 (decide ((1048576 : Int) < cutN s) = false →
 (decide ((↑s.length : Int) % (18446744073709551616 : Int) < (cutFrom s % (18446744073709551616 : Int) + cutN s) % (18446744073709551616 : Int)) = true →
 (cutB s = true →
 sameVal (SV.tup [SV.bool true false, SV.str true [], SV.str true [], SV.int IntKind.i64 true (2 : Int)]) (SV.tup [SV.bool false (cutL s), SV.str false (cutIn s), SV.str false (cutRest s), SV.int IntKind.i64 true (0 : Int)])) ∧
 (cutB s = false →
 sameVal (SV.tup [SV.bool true false, SV.str true [], SV.str true [], SV.int IntKind.i64 true (2 : Int)]) (SV.tup [SV.bool true false, SV.str true [], SV.str true [], SV.int IntKind.i64 true (2 : Int)]))) ∧
 (decide ((↑s.length : Int) % (18446744073709551616 : Int) < (cutFrom s % (18446744073709551616 : Int) + cutN s) % (18446744073709551616 : Int)) = false →
 ((-9223372036854775808 : Int) ≤ cutN s ∧
 cutN s ≤ (9223372036854775807 : Int)) ∧
 ((-9223372036854775808 : Int) ≤ cutFrom s + cutN s ∧
 cutFrom s + cutN s ≤ (9223372036854775807 : Int)) ∧
 ((0 : Int) ≤ cutFrom s ∧
 cutFrom s ≤ cutFrom s + cutN s ∧
 cutFrom s + cutN s ≤ (↑s.length : Int)) ∧
 (subStr s (some (Operand.tmp (41 : Nat))) (some (Operand.tmp (42 : Nat))) (cutFrom s) (cutFrom s + cutN s)).length < (1152921504606846976 : Nat) ∧
 (cutL s = true →
 (True ∧
 joinQ [subStr s (some (Operand.tmp (41 : Nat))) (some (Operand.tmp (42 : Nat))) (cutFrom s) (cutFrom s + cutN s)]) ∧
 ((0 : Int) ≤ (0 : Int) ∧
 (0 : Int) ≤ cutFrom s + cutN s ∧
 cutFrom s + cutN s ≤ (↑s.length : Int)) ∧
 ((!decide (headOf (192 : Int) (flat [subStr s (some (Operand.tmp (41 : Nat))) (some (Operand.tmp (42 : Nat))) (cutFrom s) (cutFrom s + cutN s)]).length ++ flat [subStr s (some (Operand.tmp (41 : Nat))) (some (Operand.tmp (42 : Nat))) (cutFrom s) (cutFrom s + cutN s)] = subStr s none (some (Operand.tmp (52 : Nat))) (0 : Int) (cutFrom s + cutN s))) = true →
 (cutB s = true →
 sameVal (SV.tup [SV.bool true false, SV.str true [], SV.str true [], SV.int IntKind.i64 true (2 : Int)]) (SV.tup [SV.bool false (cutL s), SV.str false (cutIn s), SV.str false (cutRest s), SV.int IntKind.i64 true (0 : Int)])) ∧
 (cutB s = false →
 sameVal (SV.tup [SV.bool true false, SV.str true [], SV.str true [], SV.int IntKind.i64 true (2 : Int)]) (SV.tup [SV.bool true false, SV.str true [], SV.str true [], SV.int IntKind.i64 true (2 : Int)]))) ∧
 ((!decide (headOf (192 : Int) (flat [subStr s (some (Operand.tmp (41 : Nat))) (some (Operand.tmp (42 : Nat))) (cutFrom s) (cutFrom s + cutN s)]).length ++ flat [subStr s (some (Operand.tmp (41 : Nat))) (some (Operand.tmp (42 : Nat))) (cutFrom s) (cutFrom s + cutN s)] = subStr s none (some (Operand.tmp (52 : Nat))) (0 : Int) (cutFrom s + cutN s))) = false →
 ((0 : Int) ≤ cutFrom s + cutN s ∧
 cutFrom s + cutN s ≤ (↑s.length : Int) ∧
 (↑s.length : Int) ≤ (↑s.length : Int)) ∧
 (cutB s = true →
 sameVal (SV.tup [SV.bool false (cutL s), SV.str (false && false && false) (subStr s (some (Operand.tmp (41 : Nat))) (some (Operand.tmp (42 : Nat))) (cutFrom s) (cutFrom s + cutN s)), SV.str (false && false && false) (subStr s (some (Operand.tmp (58 : Nat))) none (cutFrom s + cutN s) (↑s.length : Int)), SV.int IntKind.i64 true (0 : Int)]) (SV.tup [SV.bool false (cutL s), SV.str false (cutIn s), SV.str false (cutRest s), SV.int IntKind.i64 true (0 : Int)])) ∧
 (cutB s = false →
 sameVal (SV.tup [SV.bool false (cutL s), SV.str (false && false && false) (subStr s (some (Operand.tmp (41 : Nat))) (some (Operand.tmp (42 : Nat))) (cutFrom s) (cutFrom s + cutN s)), SV.str (false && false && false) (subStr s (some (Operand.tmp (58 : Nat))) none (cutFrom s + cutN s) (↑s.length : Int)), SV.int IntKind.i64 true (0 : Int)]) (SV.tup [SV.bool true false, SV.str true [], SV.str true [], SV.int IntKind.i64 true (2 : Int)])))) ∧
 (cutL s = false →
 ((0 : Int) ≤ (0 : Int) ∧
 (0 : Int) ≤ cutFrom s + cutN s ∧
 cutFrom s + cutN s ≤ (↑s.length : Int)) ∧
 ((!decide (textOf (subStr s (some (Operand.tmp (41 : Nat))) (some (Operand.tmp (42 : Nat))) (cutFrom s) (cutFrom s + cutN s)) = subStr s none (some (Operand.tmp (52 : Nat))) (0 : Int) (cutFrom s + cutN s))) = true →
 (cutB s = true →
 sameVal (SV.tup [SV.bool true false, SV.str true [], SV.str true [], SV.int IntKind.i64 true (2 : Int)]) (SV.tup [SV.bool false (cutL s), SV.str false (cutIn s), SV.str false (cutRest s), SV.int IntKind.i64 true (0 : Int)])) ∧
 (cutB s = false →
 sameVal (SV.tup [SV.bool true false, SV.str true [], SV.str true [], SV.int IntKind.i64 true (2 : Int)]) (SV.tup [SV.bool true false, SV.str true [], SV.str true [], SV.int IntKind.i64 true (2 : Int)]))) ∧
 ((!decide (textOf (subStr s (some (Operand.tmp (41 : Nat))) (some (Operand.tmp (42 : Nat))) (cutFrom s) (cutFrom s + cutN s)) = subStr s none (some (Operand.tmp (52 : Nat))) (0 : Int) (cutFrom s + cutN s))) = false →
 ((0 : Int) ≤ cutFrom s + cutN s ∧
 cutFrom s + cutN s ≤ (↑s.length : Int) ∧
 (↑s.length : Int) ≤ (↑s.length : Int)) ∧
 (cutB s = true →
 sameVal (SV.tup [SV.bool false (cutL s), SV.str (false && false && false) (subStr s (some (Operand.tmp (41 : Nat))) (some (Operand.tmp (42 : Nat))) (cutFrom s) (cutFrom s + cutN s)), SV.str (false && false && false) (subStr s (some (Operand.tmp (58 : Nat))) none (cutFrom s + cutN s) (↑s.length : Int)), SV.int IntKind.i64 true (0 : Int)]) (SV.tup [SV.bool false (cutL s), SV.str false (cutIn s), SV.str false (cutRest s), SV.int IntKind.i64 true (0 : Int)])) ∧
 (cutB s = false →
 sameVal (SV.tup [SV.bool false (cutL s), SV.str (false && false && false) (subStr s (some (Operand.tmp (41 : Nat))) (some (Operand.tmp (42 : Nat))) (cutFrom s) (cutFrom s + cutN s)), SV.str (false && false && false) (subStr s (some (Operand.tmp (58 : Nat))) none (cutFrom s + cutN s) (↑s.length : Int)), SV.int IntKind.i64 true (0 : Int)]) (SV.tup [SV.bool true false, SV.str true [], SV.str true [], SV.int IntKind.i64 true (2 : Int)]))))))) ∧
 (head2B s = false →
 (cutB s = true →
 sameVal (SV.tup [SV.bool true false, SV.str true [], SV.str true [], SV.int IntKind.i64 true (2 : Int)]) (SV.tup [SV.bool false (cutL s), SV.str false (cutIn s), SV.str false (cutRest s), SV.int IntKind.i64 true (0 : Int)])) ∧
 (cutB s = false →
 sameVal (SV.tup [SV.bool true false, SV.str true [], SV.str true [], SV.int IntKind.i64 true (2 : Int)]) (SV.tup [SV.bool true false, SV.str true [], SV.str true [], SV.int IntKind.i64 true (2 : Int)])))) := by kernel_rfl
end Go.Proofs.YtocikfhejpilaaaGreatDoor
/-
  The reference's rlp: the first item: the contract; items, numbers: the set-up.
-/
namespace Go.Proofs.YtocikfhejpilaaaGreatDoor
open Go Sx
set_option maxRecDepth 20000

theorem head2_of_cut {s : List UInt8} (h : cutB s = true) : head2B s = true ∧ cutN s ≤ 1048576 ∧ 0 ≤ cutN s ∧ 0 ≤ cutFrom s ∧ cutFrom s + cutN s ≤ s.length := by
  obtain ⟨h0, h⟩ := cutB_iff.1 h
  have hl := List.length_pos_iff.2 h0
  rw [head2_iff]
  rcases h with hA | ⟨hA, hL, hB, hP⟩ | ⟨hA, hL, hP, hN⟩
  · unfold cutN cutFrom
    rw [if_pos hA, if_pos hA]
    exact ⟨⟨h0, .inl hA⟩, by omega, by omega, by omega, by omega⟩
  · obtain ⟨g1, g2, g3, g4⟩ := lenB_iff.1 hB
    unfold cutN cutFrom
    rw [if_neg hA, if_pos hL, if_neg hA, if_pos hL]
    exact ⟨⟨h0, .inr (.inr g1)⟩, by omega, by omega, by omega, by omega⟩
  · have := lead_nn hA
    unfold cutN cutFrom
    rw [if_neg hA, if_neg hL, if_neg hA, if_neg hL]
    exact ⟨⟨h0, .inr (.inl hL)⟩, by omega, by omega, by omega, by omega⟩
theorem head2_sums {s : List UInt8} (h : head2B s = true) : 0 ≤ cutFrom s ∧ 0 ≤ cutN s ∧ cutFrom s ≤ 9 := by
  obtain ⟨h0, h⟩ := head2_iff.1 h
  have g0 := byteAt_lt s 0
  by_cases hA : byteAt s 0 < 128
  · unfold cutN cutFrom
    rw [if_pos hA, if_pos hA]; omega
  · have := lead_nn hA
    have hlt : lead s < 64 := by unfold lead; split <;> omega
    have := part_nn s (lead s - 54)
    by_cases hL : 55 < lead s
    · unfold cutN cutFrom
      rw [if_neg hA, if_pos hL, if_neg hA, if_pos hL]; omega
    · unfold cutN cutFrom
      rw [if_neg hA, if_neg hL, if_neg hA, if_neg hL]; omega
theorem again_take {s : List UInt8} (_h0 : 0 ≤ cutFrom s) (h1 : 0 ≤ cutN s) (h2 : cutN s ≤ 1048576) (_h3 : cutFrom s + cutN s ≤ s.length) :
    againOf (cutL s) (cutIn s) = s.take (cutFrom s + cutN s).toNat ↔ cutB s = true := by
  constructor
  · intro h
    have e : s = againOf (cutL s) (cutIn s) ++ s.drop (cutFrom s + cutN s).toNat := by rw [h, List.take_append_drop]
    have hb : (cutIn s).length ≤ 1048576 := by
      unfold cutIn; simp only [List.length_take]; omega
    have := (again_cut (l := cutL s) hb (s.drop (cutFrom s + cutN s).toNat)).1
    rw [← e] at this; exact this
  · intro h
    have e := cut_only h
    have e2 : s.take (cutFrom s + cutN s).toNat ++ cutRest s = s := by unfold cutRest; rw [List.take_append_drop]
    exact List.append_cancel_right (e.trans e2.symm)
theorem split2_holds {s : List UInt8} (hs : s.length < 1152921504606846976) : Holds (runA cfgG3 73 Tryz.f73 [.str false s] (splitA s)) := by
  refine Holds.of_eq (vcSplit2 s) ?_
  cases hH : head2B s with
  | false =>
    have hB : cutB s = false := by
      rw [Bool.eq_false_iff]; intro h
      rw [(head2_of_cut h).1] at hH; cases hH
    rw [hB]
    refine ⟨hs, ?_⟩
    simp only [Bool.false_eq_true, false_imp_iff, true_and, forall_const]
    exact fun _ => rfl
  | true =>
    obtain ⟨a1, a2, a3⟩ := head2_sums hH
    refine ⟨hs, ?_, fun h => by cases h⟩
    intro _
    refine ⟨fun h => ?_, fun h => ?_⟩
    · have hB : cutB s = false := by
        rw [Bool.eq_false_iff]; intro h'
        have := (head2_of_cut h').2.1
        simp only [decide_eq_true_eq] at h; omega
      rw [hB]
      exact ⟨(fun h => by cases h), fun _ _ => rfl⟩
    · simp only [decide_eq_false_iff_not] at h
      refine ⟨fun g => ?_, fun g => ?_⟩
      · have hB : cutB s = false := by
          rw [Bool.eq_false_iff]; intro h'
          have := (head2_of_cut h').2.2.2.2
          simp only [decide_eq_true_eq] at g; omega
        rw [hB]
        exact ⟨(fun h => by cases h), fun _ _ => rfl⟩
      · simp only [decide_eq_false_iff_not] at g
        have g : cutFrom s + cutN s ≤ s.length := by omega
        have eT := again_take a1 a2 (by omega) g
        have eI : ∀ x y, subStr s (some (Operand.tmp x)) (some (Operand.tmp y)) (cutFrom s) (cutFrom s + cutN s) = cutIn s := fun x y => by
          simp only [subStr, cutIn]; congr 1; omega
        have eK : ∀ x, subStr s none (some (Operand.tmp x)) 0 (cutFrom s + cutN s) = s.take (cutFrom s + cutN s).toNat := fun _ => rfl
        have eR : ∀ x y, subStr s (some (Operand.tmp x)) none (cutFrom s + cutN s) y = cutRest s := fun _ _ => rfl
        have hl : (cutIn s).length ≤ s.length := by unfold cutIn; simp only [List.length_take, List.length_drop]; omega
        rw [eI, eK, eR]
        have fl : flat [cutIn s] = cutIn s := by simp [flat]
        rw [fl]
        refine ⟨by omega, by omega, by omega, by omega, fun hL => ?_, fun hL => ?_⟩
        · rw [hL] at eT ⊢
          simp only [againOf, cond_true] at eT
          refine ⟨⟨trivial, by rw [joinQ, fl]; exact ⟨by omega, (by show 1 < 1152921504606846976; decide)⟩⟩, by omega, fun k => ?_, fun k => ?_⟩
          · have hB : cutB s = false := by
              rw [Bool.eq_false_iff]; intro h'
              simp only [Bool.not_eq_true', decide_eq_false_iff_not] at k
              exact k (eT.2 h')
            rw [hB]
            exact ⟨(fun h => by cases h), fun _ _ => rfl⟩
          · have hB : cutB s = true := by
              simp only [Bool.not_eq_false', decide_eq_true_eq] at k
              exact eT.1 k
            rw [hB]
            exact ⟨by omega, fun _ _ => rfl, fun h => by cases h⟩
        · rw [hL] at eT ⊢
          simp only [againOf, cond_false] at eT
          refine ⟨by omega, fun k => ?_, fun k => ?_⟩
          · have hB : cutB s = false := by
              rw [Bool.eq_false_iff]; intro h'
              simp only [Bool.not_eq_true', decide_eq_false_iff_not] at k
              exact k (eT.2 h')
            rw [hB]
            exact ⟨(fun h => by cases h), fun _ _ => rfl⟩
          · have hB : cutB s = true := by
              simp only [Bool.not_eq_false', decide_eq_true_eq] at k
              exact eT.1 k
            rw [hB]
            exact ⟨by omega, fun _ _ => rfl, fun h => by cases h⟩
theorem split2_ok : CallOk Tryz.prog 73 (ansPT splitSpec) := by
  refine ans_ok (n := 20) (fn := Tryz.f73) Tryz.func73 (by kernel_rfl) (by kernel_rfl) ?_
  intro args p a h hp
  unfold splitSpec at h
  split at h
  · rename_i s
    injection h with h; injection h with h1 h2; subst h1; subst h2
    refine ⟨_, goodG3, rfl, fun b => ?_, split2_holds hp⟩
    cases b <;> exact rfl
  · cases h
noncomputable def listG4 : List (FuncId × PT) := (73, ansPT splitSpec) :: listG3
theorem listG4_ok : SummOk Tryz.prog (fun f => lookPT f listG4) := .cons split2_ok (ansPT_mono _) listG3_ok
noncomputable def cfgG4 : Cfg := { cfg0 with summ := fun f => lookPT f listG4 }
theorem goodG4 : Sx.Good Tryz.prog cfgG4 := ⟨mixes, listG4_ok, fns_ok⟩
noncomputable def annItems2 (s : List UInt8) : LoopAnn :=
  { α := ItemG, pre := fun _ x => ItemPre s x, mea := fun _ x => (restAt s x.k).length, fresh := 1, slots := fun st x => [(0, .str false (restAt s x.k)), (4, .rslc st.nx 1 true 0 x.k x.c)],
    mem := fun st x => [(st.nx, .rows true x.k [.str (itemAt s)] false x.c 9)] }
noncomputable def cfgI2 (s : List UInt8) : Cfg := { cfg0 with summ := fun f => lookPT f listG4, anns := fun f => if f = 56 then [(2, always (annItems2 s))] else [] }
theorem goodI2 (s : List UInt8) : Sx.Good Tryz.prog (cfgI2 s) := ⟨mixes, listG4_ok, fns_ok⟩
end Go.Proofs.YtocikfhejpilaaaGreatDoor
/-
  Conditions that the executor computes, written out by a program (vcgen.py).
-/
namespace Go.Proofs.YtocikfhejpilaaaGreatDoor
open Go Sx
set_option maxRecDepth 20000

theorem vcItems2 (s : List UInt8) : VC.holds (runA (cfgI2 s) 56 Tryz.f56 [.str false s] (itemsA s)) = ((∃ (y : ItemG), ItemPre s y ∧
 s = restAt s y.k ∧
 y.k = (0 : Nat) ∧
 (SB.rows true y.k [Col.str (itemAt s)] false y.c (9 : TypeId)).no = true ∧
 True) ∧
 ∀ (x : ItemG), ItemPre s x →
 ((!decide (restAt s x.k = [])) = true →
 (restAt s x.k).length < (1152921504606846976 : Nat) ∧
 (cutB (restAt s x.k) = true →
 ((-9223372036854775808 : Int) ≤ (↑(restAt s x.k).length : Int) - (↑(cutRest (restAt s x.k)).length : Int) ∧
 (↑(restAt s x.k).length : Int) - (↑(cutRest (restAt s x.k)).length : Int) ≤ (9223372036854775807 : Int)) ∧
 ((0 : Int) ≤ (0 : Int) ∧
 (0 : Int) ≤ (↑(restAt s x.k).length : Int) - (↑(cutRest (restAt s x.k)).length : Int) ∧
 (↑(restAt s x.k).length : Int) - (↑(cutRest (restAt s x.k)).length : Int) ≤ (↑(restAt s x.k).length : Int)) ∧
 ((0 : Nat) + x.k ≤ x.k ∧
 True ∧
 (2 : Nat) * (x.k + (1 : Nat)) * (16 : Nat) ≤ (281474976710656 : Nat) ∧
 x.k + (1 : Nat) < (9223372036854775808 : Nat)) ∧
 x.c = x.c * (1 : Nat) ∧
 ∀ (c : Nat), x.k + (1 : Nat) ≤ c →
 ∃ (y : ItemG), (ItemPre s y ∧
 (restAt s y.k).length < (restAt s x.k).length) ∧
 cutRest (restAt s x.k) = restAt s y.k ∧
 ((0 : Nat) = (0 : Nat) ∧
 x.k + (1 : Nat) = y.k ∧
 c = y.c) ∧
 True ∧
 SBle (SB.rows true (x.k + (1 : Nat)) [Col.str fun (j : Nat) => if j < x.k then itemAt s j else selS [subStr (restAt s x.k) none (some (Operand.tmp (27 : Nat))) (0 : Int) ((↑(restAt s x.k).length : Int) - (↑(cutRest (restAt s x.k)).length : Int))] (j - x.k)] false (c * (1 : Nat)) (9 : Nat)) (SB.rows true y.k [Col.str (itemAt s)] false y.c (9 : TypeId)) ∧
 True) ∧
 (cutB (restAt s x.k) = false →
 (itemsB s = true →
 ∃ (x : Nat), itemsN s ≤ x ∧
 False) ∧
 (itemsB s = false →
 sameVal (SV.tup [SV.nilslc, SV.int IntKind.i64 true (2 : Int)]) (SV.tup [SV.nilslc, SV.int IntKind.i64 true (2 : Int)])))) ∧
 ((!decide (restAt s x.k = [])) = false →
 (itemsB s = true →
 ∃ (x_4 : Nat), itemsN s ≤ x_4 ∧
 SBle (SB.rows true x.k [Col.str (itemAt s)] false x.c (9 : TypeId)) (SB.rows true (itemsN s) [Col.str (itemAt s)] false x_4 (9 : TypeId)) ∧
 sameVal (SV.tup [SV.rslc (0 : Nat) (1 : Nat) true (0 : Nat) x.k x.c, SV.int IntKind.i64 true (0 : Int)]) (SV.tup [SV.rslc (0 : Nat) (1 : Nat) true (0 : Nat) (itemsN s) x_4, SV.int IntKind.i64 true (0 : Int)])) ∧
 (itemsB s = false →
 sameVal (SV.tup [SV.rslc (0 : Nat) (1 : Nat) true (0 : Nat) x.k x.c, SV.int IntKind.i64 true (0 : Int)]) (SV.tup [SV.nilslc, SV.int IntKind.i64 true (2 : Int)])))) := by kernel_rfl
theorem vcGet2 (s : List UInt8) : VC.holds (runA cfgG4 74 Tryz.f74 [.str false s] (getA s)) = (s.length < (1152921504606846976 : Nat) ∧
 (cutB s = true →
 (cutL s = true →
 (getB s = true →
 sameVal (SV.tup [SV.int IntKind.u64 true (0 : Int), SV.int IntKind.i64 true (2 : Int)]) (SV.tup [SV.int IntKind.u64 false (num (cutIn s)), SV.int IntKind.i64 true (0 : Int)])) ∧
 (getB s = false →
 sameVal (SV.tup [SV.int IntKind.u64 true (0 : Int), SV.int IntKind.i64 true (2 : Int)]) (SV.tup [SV.int IntKind.u64 true (0 : Int), SV.int IntKind.i64 true (2 : Int)]))) ∧
 (cutL s = false →
 ((!decide (cutRest s = [])) = true →
 (getB s = true →
 sameVal (SV.tup [SV.int IntKind.u64 true (0 : Int), SV.int IntKind.i64 true (2 : Int)]) (SV.tup [SV.int IntKind.u64 false (num (cutIn s)), SV.int IntKind.i64 true (0 : Int)])) ∧
 (getB s = false →
 sameVal (SV.tup [SV.int IntKind.u64 true (0 : Int), SV.int IntKind.i64 true (2 : Int)]) (SV.tup [SV.int IntKind.u64 true (0 : Int), SV.int IntKind.i64 true (2 : Int)]))) ∧
 ((!decide (cutRest s = [])) = false →
 (decide ((8 : Int) < (↑(cutIn s).length : Int)) = true →
 (getB s = true →
 sameVal (SV.tup [SV.int IntKind.u64 true (0 : Int), SV.int IntKind.i64 true (2 : Int)]) (SV.tup [SV.int IntKind.u64 false (num (cutIn s)), SV.int IntKind.i64 true (0 : Int)])) ∧
 (getB s = false →
 sameVal (SV.tup [SV.int IntKind.u64 true (0 : Int), SV.int IntKind.i64 true (2 : Int)]) (SV.tup [SV.int IntKind.u64 true (0 : Int), SV.int IntKind.i64 true (2 : Int)]))) ∧
 (decide ((8 : Int) < (↑(cutIn s).length : Int)) = false →
 (cutIn s).length ≤ (8 : Nat) ∧
 ((0 : Int) ≤ num (cutIn s) ∧
 num (cutIn s) < (18446744073709551616 : Int)) ∧
 ((!decide (textOf (digits (num (cutIn s))) = s)) = true →
 (getB s = true →
 sameVal (SV.tup [SV.int IntKind.u64 true (0 : Int), SV.int IntKind.i64 true (2 : Int)]) (SV.tup [SV.int IntKind.u64 false (num (cutIn s)), SV.int IntKind.i64 true (0 : Int)])) ∧
 (getB s = false →
 sameVal (SV.tup [SV.int IntKind.u64 true (0 : Int), SV.int IntKind.i64 true (2 : Int)]) (SV.tup [SV.int IntKind.u64 true (0 : Int), SV.int IntKind.i64 true (2 : Int)]))) ∧
 ((!decide (textOf (digits (num (cutIn s))) = s)) = false →
 (cutIn s).length ≤ (8 : Nat) ∧
 (getB s = true →
 sameVal (SV.tup [SV.int IntKind.u64 false (num (cutIn s)), SV.int IntKind.i64 true (0 : Int)]) (SV.tup [SV.int IntKind.u64 false (num (cutIn s)), SV.int IntKind.i64 true (0 : Int)])) ∧
 (getB s = false →
 sameVal (SV.tup [SV.int IntKind.u64 false (num (cutIn s)), SV.int IntKind.i64 true (0 : Int)]) (SV.tup [SV.int IntKind.u64 true (0 : Int), SV.int IntKind.i64 true (2 : Int)]))))))) ∧
 (cutB s = false →
 (getB s = true →
 sameVal (SV.tup [SV.int IntKind.u64 true (0 : Int), SV.int IntKind.i64 true (2 : Int)]) (SV.tup [SV.int IntKind.u64 false (num (cutIn s)), SV.int IntKind.i64 true (0 : Int)])) ∧
 (getB s = false →
 sameVal (SV.tup [SV.int IntKind.u64 true (0 : Int), SV.int IntKind.i64 true (2 : Int)]) (SV.tup [SV.int IntKind.u64 true (0 : Int), SV.int IntKind.i64 true (2 : Int)])))) := by kernel_rfl
end Go.Proofs.YtocikfhejpilaaaGreatDoor
/-
  The reference's rlp: items, numbers: the contracts.
-/
namespace Go.Proofs.YtocikfhejpilaaaGreatDoor
open Go Sx
set_option maxRecDepth 20000

theorem items2_holds {s : List UInt8} (hs : s.length < 1099511627776) : Holds (runA (cfgI2 s) 56 Tryz.f56 [.str false s] (itemsA s)) := by
  refine Holds.of_eq (vcItems2 s) ?_
  refine ⟨⟨⟨0, 0⟩, ⟨fun j hj => absurd hj (Nat.not_lt_zero _), Nat.le_refl _⟩, rfl, rfl, rfl, trivial⟩, fun x hx => ?_⟩
  have hw : Walk s x.k := hx.walk
  have hl := hw.len
  obtain ⟨i1, i2⟩ := hw.items
  refine ⟨fun a => ?_, fun a => ?_⟩
  · have a : restAt s x.k ≠ [] := by simpa using a
    refine ⟨by omega, fun b => ?_, fun b => ?_⟩
    · have hlt := cut_lt b
      refine ⟨by omega, by omega, ⟨by omega, trivial, by omega, by omega⟩, by omega, fun c hc => ⟨⟨x.k + 1, c⟩, ⟨⟨hw.snoc a b, hc⟩, ?_⟩, ?_, ⟨rfl, rfl, rfl⟩, trivial, ?_, trivial⟩⟩
      · simp only [restAt]; exact hlt
      · simp only [restAt]
      · refine Sx.SBle.strRows rfl (Nat.mul_one c) fun i hi => ?_
        by_cases h : i < x.k
        · rw [if_pos h]
        · rw [if_neg h]
          have e : i = x.k := by omega
          subst e
          simp only [Nat.sub_self, selS, subStr, itemAt, itemOf]
          rw [show ((↑(restAt s x.k).length : Int) - (↑(cutRest (restAt s x.k)).length : Int)).toNat = (restAt s x.k).length - (cutRest (restAt s x.k)).length by omega]
          simp only [List.getD_cons_zero]
    · have hb := items_bad a b
      rw [← i1] at hb
      exact ⟨(fun h => by rw [hb] at h; cases h), fun _ _ => rfl⟩
  · have a : restAt s x.k = [] := by simpa using a
    rw [a] at i1 i2
    have n0 : itemsN s = x.k := by rw [i2, items_nil.2]; omega
    have b0 : itemsB s = true := by rw [i1, items_nil.1]
    refine ⟨fun _ => ⟨x.c, by rw [n0]; exact hx.cap, ?_, ?_⟩, fun h => by rw [b0] at h; cases h⟩
    · rw [n0]; exact SBle.refl _
    · rw [n0]; exact fun _ => rfl
theorem ritems2_ok : CallOk Tryz.prog 56 itemsPT := by
  refine ans_ok (n := 20) (fn := Tryz.f56) Tryz.func56 (by kernel_rfl) (by kernel_rfl) ?_
  intro args p a h hp
  unfold itemsSpec at h
  split at h
  · rename_i s
    injection h with h; injection h with h1 h2; subst h1; subst h2
    refine ⟨_, goodI2 s, rfl, fun b => ?_, items2_holds hp⟩
    cases b with
    | false => exact rfl
    | true =>
      intro c
      refine ⟨rfl, rfl, fun k => by simp [SV.wf, SV.wfs, Nat.blt_eq], fun E E' k k' h => ?_⟩
      cases hn : itemsN s with
      | zero => rfl
      | succ n =>
        rw [hn] at h
        have hk : E k = E' k' := h rfl
        simp [SV.val, SV.vals, hk]
  · cases h
theorem get2_holds {s : List UInt8} (hs : s.length < 1152921504606846976) : Holds (runA cfgG4 74 Tryz.f74 [.str false s] (getA s)) := by
  refine Holds.of_eq (vcGet2 s) ?_
  have F : ∀ {p q : Prop}, ¬ (cutB s = true ∧ cutL s = false ∧ cutRest s = [] ∧ (cutIn s).length ≤ 8 ∧ (cutIn s = [] ∨ byteAt (cutIn s) 0 ≠ 0)) → q → (getB s = true → p) ∧ (getB s = false → q) := fun h hq => ⟨fun e => absurd (getB_iff.1 e) h, fun _ => hq⟩
  refine ⟨hs, fun a => ⟨fun b => F (by simp [b]) fun _ => rfl, fun b => ⟨fun c => F (by simp at c; simp [c]) fun _ => rfl, fun c => ⟨fun d => F (by simp at d; omega) fun _ => rfl, fun d => ?_⟩⟩⟩, fun a => F (by simp [a]) fun _ => rfl⟩
  simp only [decide_eq_false_iff_not] at d
  have h0 := num_nn (cutIn s)
  have h1 : num (cutIn s) < 18446744073709551616 := num_lt 8 (cutIn s) (by omega)
  refine ⟨by omega, ⟨h0, h1⟩, fun e => ⟨fun g => ?_, fun _ => fun _ => rfl⟩, fun e => ⟨by omega, fun _ => fun _ => rfl, fun g => ?_⟩⟩
  · simp only [Bool.not_eq_true', decide_eq_false_iff_not] at e
    exact absurd (getB_only g) e
  · simp only [Bool.not_eq_false', decide_eq_true_eq] at e
    have := (getB_num h0 h1).1
    rw [e, g] at this; cases this
theorem rget2_ok : CallOk Tryz.prog 74 getPT := by
  refine ans_ok (n := 20) (fn := Tryz.f74) Tryz.func74 (by kernel_rfl) (by kernel_rfl) ?_
  intro args p a h hp
  unfold getSpec at h
  split at h
  · rename_i s
    injection h with h; injection h with h1 h2; subst h1; subst h2
    refine ⟨_, goodG4, rfl, fun b => ?_, get2_holds hp⟩
    cases b <;> exact rfl
  · cases h
/-- What is known of the reference's rlp. -/
noncomputable def listG5 : List (FuncId × PT) := (56, itemsPT) :: (74, getPT) :: listG4
theorem listG5_ok : SummOk Tryz.prog (fun f => lookPT f listG5) := .cons ritems2_ok (ansPT_mono _) (.cons rget2_ok (ansPT_mono _) listG4_ok)
noncomputable def cfgG5 : Cfg := { cfg0 with summ := fun f => lookPT f listG5 }
theorem goodG5 : Sx.Good Tryz.prog cfgG5 := ⟨mixes, listG5_ok, fns_ok⟩
end Go.Proofs.YtocikfhejpilaaaGreatDoor
