/-
  The reference's rlp: bytes of numbers: the set-up.
-/
import Derived.Test.YtoalfimkkibpdaaGreatDoorMn
import Derived.Test.YtoalfimkkibpdaaGreatDoorMp
namespace Go.Proofs.YtoalfimkkibpdaaGreatDoor
open Go Sx
set_option maxRecDepth 20000
def byteSpec (k : Nat) : List SV → Option (Prop × SV)
  | [.int .u64 false n] => some (0 ≤ n ∧ n < 256 ^ k, .str false (dig k n))
  | _ => none
noncomputable def cfgB2 (pt : PT) : Cfg := { cfg0 with summ := fun f => lookPT f ((63, pt) :: list7) }
theorem goodB2 {pt : PT} (h : CallOk Tryz.prog 63 pt) (hm : MonoPT pt) : Sx.Good Tryz.prog (cfgB2 pt) := ⟨mixes, SummOk.cons h hm list7_ok, fns_ok⟩
end Go.Proofs.YtoalfimkkibpdaaGreatDoor
/-
  Conditions that the executor computes, written out by a program (vcgen.py).
-/
namespace Go.Proofs.YtoalfimkkibpdaaGreatDoor
open Go Sx
set_option maxRecDepth 20000
theorem vcBytes0 (n : Int) (R : SV → Prop) : VC.holds (runP (cfgB2 noPT) 63 Tryz.f63 [.int .u64 false n] R) = ((decide (n = (0 : Int)) = true →
 R (SV.str true [])) ∧
 (decide (n = (0 : Int)) = false →
 ((0 : Int) ≤ n ∧
 n ≤ (18446744073709551615 : Int) ∧
 (0 : Int) < (256 : Int)) ∧
 ((0 : Int) ≤ n ∧
 n ≤ (18446744073709551615 : Int) ∧
 (0 : Int) < (256 : Int)) ∧
 False ∧
 False)) := by kernel_rfl
theorem vcBytesS (k : Nat) (n : Int) (R : SV → Prop) : VC.holds (runP (cfgB2 (purePT (byteSpec k))) 63 Tryz.f63 [.int .u64 false n] R) = ((decide (n = (0 : Int)) = true →
 R (SV.str true [])) ∧
 (decide (n = (0 : Int)) = false →
 ((0 : Int) ≤ n ∧
 n ≤ (18446744073709551615 : Int) ∧
 (0 : Int) < (256 : Int)) ∧
 ((0 : Int) ≤ n ∧
 n ≤ (18446744073709551615 : Int) ∧
 (0 : Int) < (256 : Int)) ∧
 (((0 : Int) ≤ n / (256 : Int) ∧
 n / (256 : Int) < (256 : Int) ^ k) ∧
 (↑(dig k (n / (256 : Int))).length : Int) + (↑(1 : Nat) : Int) ≤ (9223372036854775807 : Int) ∧
 R (SV.str false (cat (dig k (n / (256 : Int))) [UInt8.ofNat (n % (256 : Int) % (256 : Int)).toNat]))) ∧
 ((0 : Int) ≤ n / (256 : Int) ∧
 n / (256 : Int) < (256 : Int) ^ k) ∧
 some (SB.cells (setRange (times 1 (SV.int .u8 true 0).cells) 0 (SV.int .u8 false (n % (256 : Int) % (256 : Int))).cells) 1 5) = some (SB.cells (setRange (times 1 (SV.int .u8 true 0).cells) 0 (SV.int .u8 false (n % (256 : Int) % (256 : Int))).cells) 1 5) ∧
 (↑(dig k (n / (256 : Int))).length : Int) + (↑(1 : Nat) : Int) ≤ (9223372036854775807 : Int) ∧
 R (SV.str false (cat (dig k (n / (256 : Int))) [UInt8.ofNat (n % (256 : Int) % (256 : Int)).toNat])))) := by kernel_rfl
end Go.Proofs.YtoalfimkkibpdaaGreatDoor
/-
  The reference's rlp: bytes of numbers: the contract; texts, numbers, rows: the set-up.
-/
namespace Go.Proofs.YtoalfimkkibpdaaGreatDoor
open Go Sx
set_option maxRecDepth 20000
theorem bytes_zero {n : Int} (h0 : 0 ≤ n) (h1 : n < 256 ^ 0) : Holds (runP (cfgB2 noPT) 63 Tryz.f63 [.int .u64 false n] (fun v => sameVal v (.str false (dig 0 n)))) := by
  refine Holds.of_eq (vcBytes0 n _) ?_
  have h1 : n < 1 := h1
  obtain rfl : n = 0 := by omega
  exact ⟨fun _ => fun _ => rfl, fun h => by simp at h⟩
theorem bytes_run {k : Nat} {n : Int} (h0 : 0 ≤ n) (h1 : n < 256 ^ (k + 1)) (hk : k < 8) : Holds (runP (cfgB2 (purePT (byteSpec k))) 63 Tryz.f63 [.int .u64 false n] (fun v => sameVal v (.str false (dig (k + 1) n)))) := by
  refine Holds.of_eq (vcBytesS k n _) ?_
  have hl := dig_len k (n / 256)
  have h3 : n < 18446744073709551616 := by
    have : ∀ j, j ≤ 8 → (256 : Int) ^ j ≤ 18446744073709551616 := by decide
    exact Int.lt_of_lt_of_le h1 (this (k + 1) (by omega))
  rw [Int.pow_succ] at h1
  generalize (256 : Int) ^ k = p at *
  refine ⟨fun h => ?_, fun h => ?_⟩
  · have h : n = 0 := by simpa using h
    subst h
    rw [dig_zero (Int.le_refl _)]; exact fun _ => rfl
  · have h : ¬ n = 0 := by simpa using h
    have e : sameVal (.str false (cat (dig k (n / 256)) [UInt8.ofNat (n % 256 % 256).toNat])) (.str false (dig (k + 1) n)) := by
      apply str_same
      rw [dig_pos (by omega), Int.emod_emod]; rfl
    exact ⟨by omega, by omega, ⟨⟨by omega, by omega⟩, by omega, e⟩, ⟨by omega, by omega⟩, rfl, by omega, e⟩
theorem bytes_ok' : ∀ k, k ≤ 8 → CallOk Tryz.prog 63 (purePT (byteSpec k))
  | 0, _ => by
    refine pure_ok (goodB2 (noPT_ok _) noPT_mono) (n := 20) (fn := Tryz.f63) Tryz.func63 (by kernel_rfl) (by kernel_rfl) ?_
    intro args p r h hp
    unfold byteSpec at h
    split at h
    · injection h with h; injection h with h1 h2; subst h1; subst h2
      exact ⟨rfl, rfl, bytes_zero hp.1 hp.2⟩
    · cases h
  | k + 1, hk => by
    refine pure_ok (goodB2 (bytes_ok' k (by omega)) (purePT_mono _)) (n := 20) (fn := Tryz.f63) Tryz.func63 (by kernel_rfl) (by kernel_rfl) ?_
    intro args p r h hp
    unfold byteSpec at h
    split at h
    · injection h with h; injection h with h1 h2; subst h1; subst h2
      exact ⟨rfl, rfl, bytes_run hp.1 hp.2 (by omega)⟩
    · cases h
theorem bytes_ok : CallOk Tryz.prog 63 (purePT digitsSpec) := by
  refine pure_ok (goodB2 (bytes_ok' 7 (by omega)) (purePT_mono _)) (n := 20) (fn := Tryz.f63) Tryz.func63 (by kernel_rfl) (by kernel_rfl) ?_
  intro args p r h hp
  unfold digitsSpec at h
  split at h
  · injection h with h; injection h with h1 h2; subst h1; subst h2
    exact ⟨rfl, rfl, bytes_run hp.1 hp.2 (by omega)⟩
  · cases h
noncomputable def listG1 : List (FuncId × PT) := (63, purePT digitsSpec) :: list7
theorem listG1_ok : SummOk Tryz.prog (fun f => lookPT f listG1) := .cons bytes_ok (purePT_mono _) list7_ok
noncomputable def cfgG1 : Cfg := { cfg0 with summ := fun f => lookPT f listG1 }
theorem goodG1 : Sx.Good Tryz.prog cfgG1 := ⟨mixes, listG1_ok, fns_ok⟩
noncomputable def annNum2 (l : List UInt8) : LoopAnn :=
  { α := Int, pre := fun _ i => 0 ≤ i ∧ i ≤ l.length, mea := fun _ i => (l.length - i).toNat, fresh := 0, slots := fun _ i => [(3, .int .u64 false (num (l.take i.toNat))), (4, .int .i64 false i)], mem := fun _ _ => [] }
noncomputable def cfgNum2 (l : List UInt8) : Cfg := { cfg0 with summ := fun f => lookPT f listG1, anns := fun f => if f = 83 then [(3, always (annNum2 l))] else [] }
theorem goodNum2 (l : List UInt8) : Sx.Good Tryz.prog (cfgNum2 l) := ⟨mixes, listG1_ok, fns_ok⟩
noncomputable def annJoin2 (n : Nat) (f : Nat → List UInt8) : LoopAnn :=
  { α := Nat, pre := fun _ i => i ≤ n, mea := fun _ i => n - i, fresh := 0, slots := fun _ i => [(3, .str false (flat (rowL f 0 i))), (4, .int .i64 false i)], mem := fun _ _ => [] }
noncomputable def cfgJ2 (n : Nat) (f : Nat → List UInt8) : Cfg := { cfg0 with summ := fun f => lookPT f listG1, anns := fun g => if g = 62 then [(3, always (annJoin2 n f))] else [] }
theorem goodJ2 (n : Nat) (f : Nat → List UInt8) : Sx.Good Tryz.prog (cfgJ2 n f) := ⟨mixes, listG1_ok, fns_ok⟩
end Go.Proofs.YtoalfimkkibpdaaGreatDoor
/-
  Conditions that the executor computes, written out by a program (vcgen.py).
-/
namespace Go.Proofs.YtoalfimkkibpdaaGreatDoor
open Go Sx
set_option maxRecDepth 20000
theorem vcWrap2 (b : List UInt8) (base : Int) (R : SV → Prop) : VC.holds (runP cfgG1 61 Tryz.f61 [.str false b, .int .i64 false base] R) = ((decide ((↑b.length : Int) ≤ (55 : Int)) = true →
 ((-9223372036854775808 : Int) ≤ base + (↑b.length : Int) ∧
 base + (↑b.length : Int) ≤ (9223372036854775807 : Int)) ∧
 (↑(1 : Nat) : Int) + (↑b.length : Int) ≤ (9223372036854775807 : Int) ∧
 R (SV.str false (cat [UInt8.ofNat ((base + (↑b.length : Int)) % (256 : Int)).toNat] b))) ∧
 (decide ((↑b.length : Int) ≤ (55 : Int)) = false →
 ((0 : Int) ≤ (↑b.length : Int) % (18446744073709551616 : Int) ∧
 (↑b.length : Int) % (18446744073709551616 : Int) < (18446744073709551616 : Int)) ∧
 ((-9223372036854775808 : Int) ≤ base + (55 : Int) ∧
 base + (55 : Int) ≤ (9223372036854775807 : Int)) ∧
 ((-9223372036854775808 : Int) ≤ base + (55 : Int) + (↑(digits ((↑b.length : Int) % (18446744073709551616 : Int))).length : Int) ∧
 base + (55 : Int) + (↑(digits ((↑b.length : Int) % (18446744073709551616 : Int))).length : Int) ≤ (9223372036854775807 : Int)) ∧
 (↑(1 : Nat) : Int) + (↑(digits ((↑b.length : Int) % (18446744073709551616 : Int))).length : Int) ≤ (9223372036854775807 : Int) ∧
 (↑(cat [UInt8.ofNat ((base + (55 : Int) + (↑(digits ((↑b.length : Int) % (18446744073709551616 : Int))).length : Int)) % (256 : Int)).toNat] (digits ((↑b.length : Int) % (18446744073709551616 : Int)))).length : Int) + (↑b.length : Int) ≤ (9223372036854775807 : Int) ∧
 R (SV.str false (cat (cat [UInt8.ofNat ((base + (55 : Int) + (↑(digits ((↑b.length : Int) % (18446744073709551616 : Int))).length : Int)) % (256 : Int)).toNat] (digits ((↑b.length : Int) % (18446744073709551616 : Int)))) b)))) := by kernel_rfl
theorem vcTextR (b : List UInt8) (R : SV → Prop) : VC.holds (runP cfgG1 32 Tryz.f32 [.str false b] R) = ((decide ((↑b.length : Int) = (1 : Int)) = true →
 ((0 : Int) ≤ (0 : Int) ∧
 (0 : Int) < (↑b.length : Int)) ∧
 (decide (byteAt b (0 : Int) < (128 : Int)) = true →
 R (SV.str false b)) ∧
 (decide (byteAt b (0 : Int) < (128 : Int)) = false →
 (decide ((↑b.length : Int) ≤ (55 : Int)) = true →
 ((-9223372036854775808 : Int) ≤ (128 : Int) + (↑b.length : Int) ∧
 (128 : Int) + (↑b.length : Int) ≤ (9223372036854775807 : Int)) ∧
 (↑(1 : Nat) : Int) + (↑b.length : Int) ≤ (9223372036854775807 : Int) ∧
 R (SV.str false (cat [UInt8.ofNat (((128 : Int) + (↑b.length : Int)) % (256 : Int)).toNat] b))) ∧
 (decide ((↑b.length : Int) ≤ (55 : Int)) = false →
 ((0 : Int) ≤ (↑b.length : Int) % (18446744073709551616 : Int) ∧
 (↑b.length : Int) % (18446744073709551616 : Int) < (18446744073709551616 : Int)) ∧
 ((-9223372036854775808 : Int) ≤ (183 : Int) + (↑(digits ((↑b.length : Int) % (18446744073709551616 : Int))).length : Int) ∧
 (183 : Int) + (↑(digits ((↑b.length : Int) % (18446744073709551616 : Int))).length : Int) ≤ (9223372036854775807 : Int)) ∧
 (↑(1 : Nat) : Int) + (↑(digits ((↑b.length : Int) % (18446744073709551616 : Int))).length : Int) ≤ (9223372036854775807 : Int) ∧
 (↑(cat [UInt8.ofNat (((183 : Int) + (↑(digits ((↑b.length : Int) % (18446744073709551616 : Int))).length : Int)) % (256 : Int)).toNat] (digits ((↑b.length : Int) % (18446744073709551616 : Int)))).length : Int) + (↑b.length : Int) ≤ (9223372036854775807 : Int) ∧
 R (SV.str false (cat (cat [UInt8.ofNat (((183 : Int) + (↑(digits ((↑b.length : Int) % (18446744073709551616 : Int))).length : Int)) % (256 : Int)).toNat] (digits ((↑b.length : Int) % (18446744073709551616 : Int)))) b))))) ∧
 (decide ((↑b.length : Int) = (1 : Int)) = false →
 (decide ((↑b.length : Int) ≤ (55 : Int)) = true →
 ((-9223372036854775808 : Int) ≤ (128 : Int) + (↑b.length : Int) ∧
 (128 : Int) + (↑b.length : Int) ≤ (9223372036854775807 : Int)) ∧
 (↑(1 : Nat) : Int) + (↑b.length : Int) ≤ (9223372036854775807 : Int) ∧
 R (SV.str false (cat [UInt8.ofNat (((128 : Int) + (↑b.length : Int)) % (256 : Int)).toNat] b))) ∧
 (decide ((↑b.length : Int) ≤ (55 : Int)) = false →
 ((0 : Int) ≤ (↑b.length : Int) % (18446744073709551616 : Int) ∧
 (↑b.length : Int) % (18446744073709551616 : Int) < (18446744073709551616 : Int)) ∧
 ((-9223372036854775808 : Int) ≤ (183 : Int) + (↑(digits ((↑b.length : Int) % (18446744073709551616 : Int))).length : Int) ∧
 (183 : Int) + (↑(digits ((↑b.length : Int) % (18446744073709551616 : Int))).length : Int) ≤ (9223372036854775807 : Int)) ∧
 (↑(1 : Nat) : Int) + (↑(digits ((↑b.length : Int) % (18446744073709551616 : Int))).length : Int) ≤ (9223372036854775807 : Int) ∧
 (↑(cat [UInt8.ofNat (((183 : Int) + (↑(digits ((↑b.length : Int) % (18446744073709551616 : Int))).length : Int)) % (256 : Int)).toNat] (digits ((↑b.length : Int) % (18446744073709551616 : Int)))).length : Int) + (↑b.length : Int) ≤ (9223372036854775807 : Int) ∧
 R (SV.str false (cat (cat [UInt8.ofNat (((183 : Int) + (↑(digits ((↑b.length : Int) % (18446744073709551616 : Int))).length : Int)) % (256 : Int)).toNat] (digits ((↑b.length : Int) % (18446744073709551616 : Int)))) b))))) := by kernel_rfl
theorem vcNumber2 (l : List UInt8) (R : SV → Prop) : VC.holds (runP (cfgNum2 l) 83 Tryz.f83 [.str false l] R) = ((∃ (y : Int), ((0 : Int) ≤ y ∧
 y ≤ (↑l.length : Int)) ∧
 (0 : Int) = num (List.take y.toNat l) ∧
 (0 : Int) = y ∧
 True) ∧
 ∀ (x : Int), (0 : Int) ≤ x ∧
 x ≤ (↑l.length : Int) →
 (decide (x < (↑l.length : Int)) = true →
 ((0 : Int) ≤ x ∧
 x < (↑l.length : Int)) ∧
 ((0 : Int) ≤ byteAt l x ∧
 byteAt l x ≤ (18446744073709551615 : Int)) ∧
 ((-9223372036854775808 : Int) ≤ x + (1 : Int) ∧
 x + (1 : Int) ≤ (9223372036854775807 : Int)) ∧
 ∃ (y : Int), (((0 : Int) ≤ y ∧
 y ≤ (↑l.length : Int)) ∧
 ((↑l.length : Int) - y).toNat < ((↑l.length : Int) - x).toNat) ∧
 (num (List.take x.toNat l) * (256 : Int) % (18446744073709551616 : Int) + byteAt l x) % (18446744073709551616 : Int) = num (List.take y.toNat l) ∧
 x + (1 : Int) = y ∧
 True) ∧
 (decide (x < (↑l.length : Int)) = false →
 R (SV.int .u64 false (num (List.take x.toNat l))))) := by kernel_rfl
theorem vcJoin2 (n : Nat) (f : Nat → List UInt8) (z : Bool) (o c : Nat) (key : Option Nat) : VC.holds (runS (cfgJ2 n f) 62 Tryz.f62 [.vslc 0 1 z o 0 n c] [⟨key, z, o, n, c, [.str f]⟩] (.ret (.str false (flat (rowL f 0 n))))) = ((∃ (y : Nat), y ≤ n ∧
 [] = flat (rowL f 0 y) ∧
 (0 : Int) = (↑y : Int) ∧
 SBle { key := key, z := z, o := o, n := n, c := c, cols := [Col.str f] : Seen }.B { key := key, z := z, o := o, n := n, c := c, cols := [Col.str f] : Seen }.B ∧
 True) ∧
 ∀ (x : Nat), x ≤ n →
 (decide ((↑x : Int) < (↑n : Int)) = true →
 ((0 : Int) ≤ (↑x : Int) ∧
 (↑x : Int) < (↑n : Int)) ∧
 (o = o ∧
 (0 : Nat) + (↑x : Int).toNat < n) ∧
 (↑(flat (rowL f 0 x)).length : Int) + (↑(f ((0 : Nat) + (↑x : Int).toNat)).length : Int) ≤ (9223372036854775807 : Int) ∧
 ((-9223372036854775808 : Int) ≤ (↑x : Int) + (1 : Int) ∧
 (↑x : Int) + (1 : Int) ≤ (9223372036854775807 : Int)) ∧
 ∃ (y : Nat), (y ≤ n ∧
 n - y < n - x) ∧
 cat (flat (rowL f 0 x)) (f ((0 : Nat) + (↑x : Int).toNat)) = flat (rowL f 0 y) ∧
 (↑x : Int) + (1 : Int) = (↑y : Int) ∧
 SBle { key := key, z := z, o := o, n := n, c := c, cols := [Col.str f] : Seen }.B { key := key, z := z, o := o, n := n, c := c, cols := [Col.str f] : Seen }.B ∧
 True) ∧
 (decide ((↑x : Int) < (↑n : Int)) = false →
 sameVal (SV.str false (flat (rowL f 0 x))) (SV.str false (flat (rowL f 0 n))))) := by kernel_rfl
end Go.Proofs.YtoalfimkkibpdaaGreatDoor
/-
  The reference's rlp: texts, numbers, rows of texts: the contracts; lists, numbers as items: the set-up.
-/
namespace Go.Proofs.YtoalfimkkibpdaaGreatDoor
open Go Sx
set_option maxRecDepth 20000
theorem wrap2_str {b : List UInt8} {base : Int} (h1 : base = 128 ∨ base = 192) (h2 : b.length < 1152921504606846976) :
    (decide ((b.length : Int) ≤ 55) = true → cat [UInt8.ofNat ((base + (b.length : Int)) % 256).toNat] b = headOf base b.length ++ b) ∧
    (decide ((b.length : Int) ≤ 55) = false → cat (cat [UInt8.ofNat ((base + 55 + ((digits ((b.length : Int) % 18446744073709551616)).length : Int)) % 256).toNat] (digits ((b.length : Int) % 18446744073709551616))) b = headOf base b.length ++ b) := by
  have e : (b.length : Int) % 18446744073709551616 = b.length := by omega
  have hd := digits_len b.length
  constructor
  · intro h
    simp only [decide_eq_true_eq] at h
    unfold headOf
    rw [if_pos (by omega), show (base + (b.length : Int)) % 256 = base + b.length by omega]; rfl
  · intro h
    simp only [decide_eq_false_iff_not] at h
    unfold headOf
    rw [e, if_neg (by omega), show (base + 55 + ((digits (b.length : Int)).length : Int)) % 256 = base + 55 + ((digits (b.length : Int)).length : Int) by omega]; rfl
theorem wrap2_holds {b : List UInt8} {base : Int} (h1 : base = 128 ∨ base = 192) (h2 : b.length < 1152921504606846976) : Holds (runP cfgG1 61 Tryz.f61 [.str false b, .int .i64 false base] (fun v => sameVal v (.str false (headOf base b.length ++ b)))) := by
  refine Holds.of_eq (vcWrap2 b base _) ?_
  obtain ⟨g1, g2⟩ := wrap2_str h1 h2
  have hd := digits_len ((b.length : Int) % 18446744073709551616)
  refine ⟨fun h => ⟨by omega, by omega, str_same (g1 h)⟩, fun h => ⟨by omega, by omega, by omega, by omega, ?_, str_same (g2 h)⟩⟩
  simp only [cat, List.length_append, List.length_cons, List.length_nil]; omega
def wrap2Spec : List SV → Option (Prop × SV)
  | [.str false b, .int .i64 false base] => some ((base = 128 ∨ base = 192) ∧ b.length < 1152921504606846976, .str false (headOf base b.length ++ b))
  | _ => none
theorem wrap2_ok : CallOk Tryz.prog 61 (purePT wrap2Spec) := by
  refine pure_ok goodG1 (n := 20) (fn := Tryz.f61) Tryz.func61 (by kernel_rfl) (by kernel_rfl) ?_
  intro args p r h hp
  unfold wrap2Spec at h
  split at h
  · injection h with h; injection h with h1 h2; subst h1; subst h2
    exact ⟨rfl, rfl, wrap2_holds hp.1 hp.2⟩
  · cases h
theorem text2_holds {b : List UInt8} (hb : b.length < 1152921504606846976) : Holds (runP cfgG1 32 Tryz.f32 [.str false b] (fun v => sameVal v (.str false (textOf b)))) := by
  refine Holds.of_eq (vcTextR b _) ?_
  obtain ⟨g1, g2⟩ := wrap2_str (base := 128) (.inl rfl) hb
  have hd := digits_len ((b.length : Int) % 18446744073709551616)
  have hc : ∀ x : UInt8, ((cat [x] (digits ((b.length : Int) % 18446744073709551616))).length : Int) ≤ 9 := fun x => by
    simp only [cat, List.length_append, List.length_cons, List.length_nil]; omega
  refine ⟨fun h => ⟨by simp at h; omega, fun h2 => str_same ?_, fun h2 => ?_⟩, fun h => ?_⟩
  · simp at h h2; exact (if_pos ⟨by omega, h2⟩).symm
  · have ht : headOf 128 b.length ++ b = textOf b := by
      simp only [decide_eq_false_iff_not] at h2
      exact (text_long fun x => h2 x.2).symm
    refine ⟨fun h => ⟨by omega, by omega, str_same ((g1 h).trans ht)⟩, fun h => ⟨by omega, by omega, by omega, ?_, str_same ((g2 h).trans ht)⟩⟩
    have := hc (UInt8.ofNat (((183 : Int) + ((digits ((b.length : Int) % 18446744073709551616)).length : Int)) % 256).toNat)
    omega
  · have ht : headOf 128 b.length ++ b = textOf b := by
      simp only [decide_eq_false_iff_not] at h
      exact (text_long fun x => h (by omega)).symm
    refine ⟨fun h => ⟨by omega, by omega, str_same ((g1 h).trans ht)⟩, fun h => ⟨by omega, by omega, by omega, ?_, str_same ((g2 h).trans ht)⟩⟩
    have := hc (UInt8.ofNat (((183 : Int) + ((digits ((b.length : Int) % 18446744073709551616)).length : Int)) % 256).toNat)
    omega
theorem text2_ok : CallOk Tryz.prog 32 (purePT textSpec) := by
  refine pure_ok goodG1 (n := 20) (fn := Tryz.f32) Tryz.func32 (by kernel_rfl) (by kernel_rfl) ?_
  intro args p r h hp
  unfold textSpec at h
  split at h
  · injection h with h; injection h with h1 h2; subst h1; subst h2
    exact ⟨rfl, rfl, text2_holds hp⟩
  · cases h
theorem number2_holds {l : List UInt8} (hl : l.length ≤ 8) : Holds (runP (cfgNum2 l) 83 Tryz.f83 [.str false l] (fun v => sameVal v (.int .u64 false (num l)))) := by
  refine Holds.of_eq (vcNumber2 l _) ?_
  refine ⟨⟨0, by omega, rfl, rfl, trivial⟩, fun x ⟨h1, h2⟩ => ⟨fun h => ?_, fun h => ?_⟩⟩
  · simp only [decide_eq_true_eq] at h
    have h3 := num_lt7 h1 h hl
    have h4 := num_nn (l.take x.toNat)
    have h5 := byteAt_lt l x
    refine ⟨by omega, by omega, by omega, x + 1, by omega, ?_, rfl, trivial⟩
    rw [num_take h1 h]; omega
  · simp only [decide_eq_false_iff_not] at h
    obtain rfl : x = l.length := by omega
    rw [Int.toNat_natCast, List.take_length]; exact fun _ => rfl
def number2Spec : List SV → Option (Prop × SV)
  | [.str false l] => some (l.length ≤ 8, .int .u64 false (num l))
  | _ => none
theorem number2_ok : CallOk Tryz.prog 83 (ansPT fun l => (number2Spec l).map fun p => (p.1, .ret p.2)) := by
  refine ans_ok (n := 20) (fn := Tryz.f83) Tryz.func83 (by kernel_rfl) (by kernel_rfl) ?_
  intro args p a h hp
  unfold number2Spec at h
  split at h
  · rename_i l
    injection h with h; injection h with h1 h2; subst h1; subst h2
    exact ⟨_, goodNum2 l, rfl, rfl, number2_holds hp⟩
  · cases h
theorem rowL_succ (f : Nat → List UInt8) (i : Nat) : rowL f 0 (i + 1) = rowL f 0 i ++ [f i] := by
  unfold rowL
  rw [List.range_succ, List.map_append]; simp
theorem flat_snoc (l : List (List UInt8)) (a : List UInt8) : flat (l ++ [a]) = flat l ++ a := by simp [flat]
theorem flat_row_le (f : Nat → List UInt8) {i : Nat} : ∀ {n : Nat}, i ≤ n → (flat (rowL f 0 i)).length ≤ (flat (rowL f 0 n)).length
  | 0, h => by obtain rfl : i = 0 := by omega
               exact Nat.le_refl _
  | n + 1, h => by
    by_cases e : i = n + 1
    · subst e; exact Nat.le_refl _
    · have := flat_row_le f (i := i) (n := n) (by omega)
      rw [rowL_succ, flat_snoc, List.length_append]; omega
theorem join2_holds {n : Nat} {f : Nat → List UInt8} (z : Bool) (o c : Nat) (key : Option Nat) (hf : (flat (rowL f 0 n)).length < 1152921504606846976) (hn : n < 1152921504606846976) :
    Holds (runS (cfgJ2 n f) 62 Tryz.f62 [.vslc 0 1 z o 0 n c] [⟨key, z, o, n, c, [.str f]⟩] (.ret (.str false (flat (rowL f 0 n))))) := by
  refine Holds.of_eq (vcJoin2 n f z o c key) ?_
  refine ⟨⟨0, Nat.zero_le _, rfl, rfl, SBle.refl _, trivial⟩, fun x hx => ⟨fun h => ?_, fun h => ?_⟩⟩
  · simp only [decide_eq_true_eq] at h
    have h1 := flat_row_le f (i := x + 1) (n := n) (by omega)
    rw [rowL_succ, flat_snoc, List.length_append] at h1
    simp only [Int.toNat_natCast, Nat.zero_add]
    refine ⟨by omega, ⟨trivial, by omega⟩, by omega, by omega, x + 1, by omega, ?_, by omega, SBle.refl _, trivial⟩
    rw [rowL_succ, flat_snoc]; rfl
  · simp only [decide_eq_false_iff_not] at h
    obtain rfl : x = n := by omega
    exact fun _ => rfl
def joinQ (l : List (List UInt8)) : Prop := (flat l).length < 1152921504606846976 ∧ l.length < 1152921504606846976
def joinG (l : List (List UInt8)) : SV := .str false (flat l)
theorem join2_ok : CallOk Tryz.prog 62 (strsPT joinQ joinG) := by
  refine strs_ok (ansV_ok (n := 20) (fn := Tryz.f62) Tryz.func62 (by kernel_rfl) (by kernel_rfl) ?_)
  intro vs l q a h hq
  unfold strsSpec at h
  split at h
  · rename_i n f r hx
    obtain ⟨z, o, c, key⟩ := r
    injection h with h; injection h with h1 h2; subst h1; subst h2
    obtain ⟨e1, e2⟩ := rowOf_eq hx
    rw [e1, e2]
    exact ⟨_, goodJ2 n f, rfl, rfl, join2_holds z o c key hq.1 (by have := hq.2; rwa [rowL_len] at this)⟩
  · cases h
noncomputable def number2PT : PT := ansPT fun l => (number2Spec l).map fun p => (p.1, .ret p.2)
noncomputable def listG2 : List (FuncId × PT) := (61, purePT wrap2Spec) :: (32, purePT textSpec) :: (83, number2PT) :: (62, strsPT joinQ joinG) :: listG1
theorem listG2_ok : SummOk Tryz.prog (fun f => lookPT f listG2) := .cons wrap2_ok (purePT_mono _) (.cons text2_ok (purePT_mono _) (.cons number2_ok (ansPT_mono _) (.cons join2_ok (strsPT_mono _ _) listG1_ok)))
noncomputable def cfgG2 : Cfg := { cfg0 with summ := fun f => lookPT f listG2 }
theorem goodG2 : Sx.Good Tryz.prog cfgG2 := ⟨mixes, listG2_ok, fns_ok⟩
end Go.Proofs.YtoalfimkkibpdaaGreatDoor
/-
  Conditions that the executor computes, written out by a program (vcgen.py).
-/
namespace Go.Proofs.YtoalfimkkibpdaaGreatDoor
open Go Sx
set_option maxRecDepth 20000
def head2B (s : List UInt8) : Bool := !decide (s = []) && (decide (byteAt s 0 < 128) || !decide (55 < lead s) || decide (lead s - 54 ≤ s.length))
def head2A (s : List UInt8) : Ans := .fork (head2B s) fun b => match b with
  | true => .ret (.tup [.bool false (cutL s), .int .i64 false (cutFrom s), .int .u64 false (cutN s), .bool true true])
  | false => .ret (.tup [.bool true false, .int .i64 true 0, .int .u64 true 0, .bool true false])
def listG (l : List (List UInt8)) : SV := .str false (headOf 192 (flat l).length ++ flat l)
theorem vcList2 (n : Nat) (f : Nat → List UInt8) (z : Bool) (o c : Nat) (key : Option Nat) : VC.holds (runT cfgG2 33 Tryz.f33 n f z o c key listG) = (((z = z ∧
 o = o ∧
 (0 : Nat) + n ≤ n) ∧
 joinQ (rowL f 0 n)) ∧
 (((192 : Int) = (128 : Int) ∨ (192 : Int) = (192 : Int)) ∧
 (flat (rowL f 0 n)).length < (1152921504606846976 : Nat)) ∧
 sameVal (SV.str false (headOf 192 (flat (rowL f 0 n)).length ++ flat (rowL f 0 n))) (listG (rowL f 0 n))) := by kernel_rfl
theorem vcNum2 (n : Int) (R : SV → Prop) : VC.holds (runP cfgG2 34 Tryz.f34 [.int .u64 false n] R) = (((0 : Int) ≤ n ∧
 n < (18446744073709551616 : Int)) ∧
 (digits n).length < (1152921504606846976 : Nat) ∧
 R (SV.str false (textOf (digits n)))) := by kernel_rfl
theorem vcHead2 (s : List UInt8) : VC.holds (runA cfgG2 82 Tryz.f82 [.str false s] (head2A s)) = ((fun Q0 : SV => ((fun Q1 : SV => ((decide (s = []) = true →
 (head2B s = true →
 sameVal Q0 Q1) ∧
 (head2B s = false →
 sameVal Q0 Q0)) ∧
 (decide (s = []) = false →
 ((0 : Int) ≤ (0 : Int) ∧
 (0 : Int) < (↑s.length : Int)) ∧
 ((-9223372036854775808 : Int) ≤ byteAt s (0 : Int) ∧
 byteAt s (0 : Int) ≤ (9223372036854775807 : Int)) ∧
 (decide (byteAt s (0 : Int) < (128 : Int)) = true →
 (head2B s = true →
 sameVal (SV.tup [SV.bool true false, SV.int .i64 true 0, SV.int .u64 true 1, SV.bool true true]) Q1) ∧
 (head2B s = false →
 sameVal (SV.tup [SV.bool true false, SV.int .i64 true 0, SV.int .u64 true 1, SV.bool true true]) Q0)) ∧
 (decide (byteAt s (0 : Int) < (128 : Int)) = false →
 (decide ((192 : Int) ≤ byteAt s 0) = true →
 (decide (byteAt s (0 : Int) ≤ (247 : Int)) = true →
 ((-9223372036854775808 : Int) ≤ byteAt s (0 : Int) - (192 : Int) ∧
 byteAt s (0 : Int) - (192 : Int) ≤ (9223372036854775807 : Int)) ∧
 (head2B s = true →
 sameVal (SV.tup [SV.bool (false && true) (decide ((192 : Int) ≤ byteAt s 0)), SV.int .i64 true 1, SV.int .u64 false ((byteAt s (0 : Int) - (192 : Int)) % (18446744073709551616 : Int)), SV.bool true true]) Q1) ∧
 (head2B s = false →
 sameVal (SV.tup [SV.bool (false && true) (decide ((192 : Int) ≤ byteAt s 0)), SV.int .i64 true 1, SV.int .u64 false ((byteAt s (0 : Int) - (192 : Int)) % (18446744073709551616 : Int)), SV.bool true true]) Q0)) ∧
 (decide (byteAt s (0 : Int) ≤ (247 : Int)) = false →
 ((-9223372036854775808 : Int) ≤ byteAt s (0 : Int) - (192 : Int) ∧
 byteAt s (0 : Int) - (192 : Int) ≤ (9223372036854775807 : Int)) ∧
 ((-9223372036854775808 : Int) ≤ byteAt s (0 : Int) - (192 : Int) - (55 : Int) ∧
 byteAt s (0 : Int) - (192 : Int) - (55 : Int) ≤ (9223372036854775807 : Int)) ∧
 ((-9223372036854775808 : Int) ≤ (1 : Int) + (byteAt s (0 : Int) - (192 : Int) - (55 : Int)) ∧
 (1 : Int) + (byteAt s (0 : Int) - (192 : Int) - (55 : Int)) ≤ (9223372036854775807 : Int)) ∧
 (decide ((↑s.length : Int) < (1 : Int) + (byteAt s (0 : Int) - (192 : Int) - (55 : Int))) = true →
 (head2B s = true →
 sameVal Q0 Q1) ∧
 (head2B s = false →
 sameVal Q0 Q0)) ∧
 (decide ((↑s.length : Int) < (1 : Int) + (byteAt s (0 : Int) - (192 : Int) - (55 : Int))) = false →
 ((-9223372036854775808 : Int) ≤ (1 : Int) + (byteAt s (0 : Int) - (192 : Int) - (55 : Int)) ∧
 (1 : Int) + (byteAt s (0 : Int) - (192 : Int) - (55 : Int)) ≤ (9223372036854775807 : Int)) ∧
 ((-9223372036854775808 : Int) ≤ (1 : Int) + (byteAt s (0 : Int) - (192 : Int) - (55 : Int)) ∧
 (1 : Int) + (byteAt s (0 : Int) - (192 : Int) - (55 : Int)) ≤ (9223372036854775807 : Int)) ∧
 ((0 : Int) ≤ (1 : Int) ∧
 (1 : Int) ≤ (1 : Int) + (byteAt s (0 : Int) - (192 : Int) - (55 : Int)) ∧
 (1 : Int) + (byteAt s (0 : Int) - (192 : Int) - (55 : Int)) ≤ (↑s.length : Int)) ∧
 (subStr s (some (Operand.const (Value.int IntKind.i64 1))) (some (Operand.tmp 43)) 1 ((1 : Int) + (byteAt s (0 : Int) - (192 : Int) - (55 : Int)))).length ≤ (8 : Nat) ∧
 (head2B s = true →
 sameVal (SV.tup [SV.bool (false && true) (decide ((192 : Int) ≤ byteAt s 0)), SV.int .i64 false ((1 : Int) + (byteAt s (0 : Int) - (192 : Int) - (55 : Int))), SV.int .u64 false (num (subStr s (some (Operand.const (Value.int IntKind.i64 1))) (some (Operand.tmp 43)) 1 ((1 : Int) + (byteAt s (0 : Int) - (192 : Int) - (55 : Int))))), SV.bool true true]) Q1) ∧
 (head2B s = false →
 sameVal (SV.tup [SV.bool (false && true) (decide ((192 : Int) ≤ byteAt s 0)), SV.int .i64 false ((1 : Int) + (byteAt s (0 : Int) - (192 : Int) - (55 : Int))), SV.int .u64 false (num (subStr s (some (Operand.const (Value.int IntKind.i64 1))) (some (Operand.tmp 43)) 1 ((1 : Int) + (byteAt s (0 : Int) - (192 : Int) - (55 : Int))))), SV.bool true true]) Q0)))) ∧
 (decide ((192 : Int) ≤ byteAt s 0) = false →
 (decide (byteAt s (0 : Int) ≤ (183 : Int)) = true →
 ((-9223372036854775808 : Int) ≤ byteAt s (0 : Int) - (128 : Int) ∧
 byteAt s (0 : Int) - (128 : Int) ≤ (9223372036854775807 : Int)) ∧
 (head2B s = true →
 sameVal (SV.tup [SV.bool (false && true) (decide ((192 : Int) ≤ byteAt s 0)), SV.int .i64 true 1, SV.int .u64 false ((byteAt s (0 : Int) - (128 : Int)) % (18446744073709551616 : Int)), SV.bool true true]) Q1) ∧
 (head2B s = false →
 sameVal (SV.tup [SV.bool (false && true) (decide ((192 : Int) ≤ byteAt s 0)), SV.int .i64 true 1, SV.int .u64 false ((byteAt s (0 : Int) - (128 : Int)) % (18446744073709551616 : Int)), SV.bool true true]) Q0)) ∧
 (decide (byteAt s (0 : Int) ≤ (183 : Int)) = false →
 ((-9223372036854775808 : Int) ≤ byteAt s (0 : Int) - (128 : Int) ∧
 byteAt s (0 : Int) - (128 : Int) ≤ (9223372036854775807 : Int)) ∧
 ((-9223372036854775808 : Int) ≤ byteAt s (0 : Int) - (128 : Int) - (55 : Int) ∧
 byteAt s (0 : Int) - (128 : Int) - (55 : Int) ≤ (9223372036854775807 : Int)) ∧
 ((-9223372036854775808 : Int) ≤ (1 : Int) + (byteAt s (0 : Int) - (128 : Int) - (55 : Int)) ∧
 (1 : Int) + (byteAt s (0 : Int) - (128 : Int) - (55 : Int)) ≤ (9223372036854775807 : Int)) ∧
 (decide ((↑s.length : Int) < (1 : Int) + (byteAt s (0 : Int) - (128 : Int) - (55 : Int))) = true →
 (head2B s = true →
 sameVal Q0 Q1) ∧
 (head2B s = false →
 sameVal Q0 Q0)) ∧
 (decide ((↑s.length : Int) < (1 : Int) + (byteAt s (0 : Int) - (128 : Int) - (55 : Int))) = false →
 ((-9223372036854775808 : Int) ≤ (1 : Int) + (byteAt s (0 : Int) - (128 : Int) - (55 : Int)) ∧
 (1 : Int) + (byteAt s (0 : Int) - (128 : Int) - (55 : Int)) ≤ (9223372036854775807 : Int)) ∧
 ((-9223372036854775808 : Int) ≤ (1 : Int) + (byteAt s (0 : Int) - (128 : Int) - (55 : Int)) ∧
 (1 : Int) + (byteAt s (0 : Int) - (128 : Int) - (55 : Int)) ≤ (9223372036854775807 : Int)) ∧
 ((0 : Int) ≤ (1 : Int) ∧
 (1 : Int) ≤ (1 : Int) + (byteAt s (0 : Int) - (128 : Int) - (55 : Int)) ∧
 (1 : Int) + (byteAt s (0 : Int) - (128 : Int) - (55 : Int)) ≤ (↑s.length : Int)) ∧
 (subStr s (some (Operand.const (Value.int IntKind.i64 1))) (some (Operand.tmp 43)) 1 ((1 : Int) + (byteAt s (0 : Int) - (128 : Int) - (55 : Int)))).length ≤ (8 : Nat) ∧
 (head2B s = true →
 sameVal (SV.tup [SV.bool (false && true) (decide ((192 : Int) ≤ byteAt s 0)), SV.int .i64 false ((1 : Int) + (byteAt s (0 : Int) - (128 : Int) - (55 : Int))), SV.int .u64 false (num (subStr s (some (Operand.const (Value.int IntKind.i64 1))) (some (Operand.tmp 43)) 1 ((1 : Int) + (byteAt s (0 : Int) - (128 : Int) - (55 : Int))))), SV.bool true true]) Q1) ∧
 (head2B s = false →
 sameVal (SV.tup [SV.bool (false && true) (decide ((192 : Int) ≤ byteAt s 0)), SV.int .i64 false ((1 : Int) + (byteAt s (0 : Int) - (128 : Int) - (55 : Int))), SV.int .u64 false (num (subStr s (some (Operand.const (Value.int IntKind.i64 1))) (some (Operand.tmp 43)) 1 ((1 : Int) + (byteAt s (0 : Int) - (128 : Int) - (55 : Int))))), SV.bool true true]) Q0)))))))) (SV.tup [SV.bool false (cutL s), SV.int .i64 false (cutFrom s), SV.int .u64 false (cutN s), SV.bool true true]))) (SV.tup [SV.bool true false, SV.int .i64 true 0, SV.int .u64 true 0, SV.bool true false])) := by kernel_rfl
end Go.Proofs.YtoalfimkkibpdaaGreatDoor
/-
  The reference's rlp: lists, numbers as items: the contracts; the first item: the set-up.
-/
namespace Go.Proofs.YtoalfimkkibpdaaGreatDoor
open Go Sx
set_option maxRecDepth 20000
theorem rlist2_ok : CallOk Tryz.prog 33 (strsPT joinQ listG) := by
  refine strs_ok (ansV_ok (n := 20) (fn := Tryz.f33) Tryz.func33 (by kernel_rfl) (by kernel_rfl) ?_)
  intro vs l q a h hq
  unfold strsSpec at h
  split at h
  · rename_i n f r hx
    obtain ⟨z, o, c, key⟩ := r
    injection h with h; injection h with h1 h2; subst h1; subst h2
    obtain ⟨e1, e2⟩ := rowOf_eq hx
    rw [e1, e2]
    refine ⟨_, goodG2, rfl, rfl, Holds.of_eq (vcList2 n f z o c key) ?_⟩
    exact ⟨⟨⟨rfl, rfl, by omega⟩, hq⟩, ⟨.inr rfl, hq.1⟩, fun _ => rfl⟩
  · cases h
theorem num2_ok : CallOk Tryz.prog 34 (purePT numSpec) := by
  refine pure_ok goodG2 (n := 20) (fn := Tryz.f34) Tryz.func34 (by kernel_rfl) (by kernel_rfl) ?_
  intro args p r h hp
  unfold numSpec at h
  split at h
  · rename_i n
    injection h with h; injection h with h1 h2; subst h1; subst h2
    have := digits_len n
    exact ⟨rfl, rfl, Holds.of_eq (vcNum2 n _) ⟨hp, by omega, fun _ => rfl⟩⟩
  · cases h
theorem head2_iff {s : List UInt8} : head2B s = true ↔ s ≠ [] ∧ (byteAt s 0 < 128 ∨ ¬ 55 < lead s ∨ lead s - 54 ≤ s.length) := by
  simp only [head2B, Bool.and_eq_true, Bool.or_eq_true, Bool.not_eq_true', decide_eq_true_eq, decide_eq_false_iff_not, or_assoc, ne_eq]
theorem head2_same {a a' l1 l2 l3 l4 l5 l6 : Bool} {b b' c c' : Int} (h1 : a = a') (h2 : b = b') (h3 : c = c') : sameVal (.tup [.bool l1 a, .int .i64 l2 b, .int .u64 l3 c, .bool true true]) (.tup [.bool l4 a', .int .i64 l5 b', .int .u64 l6 c', .bool true true]) := by
  subst h1; subst h2; subst h3; exact fun _ => rfl
theorem head2_holds {s : List UInt8} (hs : s.length < 9223372036854775808) : Holds (runA cfgG2 82 Tryz.f82 [.str false s] (head2A s)) := by
  refine Holds.of_eq (vcHead2 s) ?_
  have g0 := byteAt_lt s 0
  have hl : s = [] ∨ 0 < s.length := by cases s <;> simp
  have e1 : byteAt s 0 < 192 → lead s = byteAt s 0 - 128 := lead_lt
  have e2 : ¬ byteAt s 0 < 192 → lead s = byteAt s 0 - 192 := lead_ge
  have eB : ∀ {p : Prop}, ¬ (s ≠ [] ∧ (byteAt s 0 < 128 ∨ ¬ 55 < lead s ∨ lead s - 54 ≤ s.length)) → head2B s = true → p := fun h h' => absurd (head2_iff.1 h') h
  have eN : ∀ {p : Prop}, (s ≠ [] ∧ (byteAt s 0 < 128 ∨ ¬ 55 < lead s ∨ lead s - 54 ≤ s.length)) → head2B s = false → p := fun h h' => by rw [head2_iff.2 h] at h'; cases h'
  repeat' first
    | apply And.intro
    | intro (h : _ = true)
    | intro (h : _ = false)
  all_goals simp only [decide_eq_true_eq, decide_eq_false_iff_not] at *
  all_goals first
    | omega
    | exact fun _ => rfl
    | (rcases hl with hl | hl
       · contradiction
       · omega)
    | (simp only [subStr, List.length_take, List.length_drop]; omega)
    | (refine eB (fun hh => ?_) (by assumption); obtain ⟨h1, h2⟩ := hh; first | contradiction | omega)
    | (refine eN ⟨by assumption, by omega⟩ (by assumption))
    | (have hA : byteAt s 0 < 128 := by assumption
       exact head2_same (by simp [cutL]; omega) (if_pos hA).symm (if_pos hA).symm)
    | (have hA : ¬ byteAt s 0 < 128 := by assumption
       have hL : 55 < lead s := by omega
       refine head2_same rfl ?_ ?_
       · unfold cutFrom; rw [if_neg hA, if_pos hL]; omega
       · unfold cutN part; rw [if_neg hA, if_pos hL]; simp only [subStr]; congr 2; omega)
    | (have hA : ¬ byteAt s 0 < 128 := by assumption
       have hL : ¬ 55 < lead s := by omega
       refine head2_same rfl ?_ ?_
       · unfold cutFrom; rw [if_neg hA, if_neg hL]
       · unfold cutN; rw [if_neg hA, if_neg hL]; omega)
def head2Spec : List SV → Option (Prop × Ans)
  | [.str false s] => some (s.length < 9223372036854775808, head2A s)
  | _ => none
theorem head2_ok : CallOk Tryz.prog 82 (ansPT head2Spec) := by
  refine ans_ok (n := 20) (fn := Tryz.f82) Tryz.func82 (by kernel_rfl) (by kernel_rfl) ?_
  intro args p a h hp
  unfold head2Spec at h
  split at h
  · rename_i s
    injection h with h; injection h with h1 h2; subst h1; subst h2
    refine ⟨_, goodG2, rfl, fun b => ?_, head2_holds hp⟩
    cases b <;> exact rfl
  · cases h
noncomputable def listG3 : List (FuncId × PT) := (33, strsPT joinQ listG) :: (34, purePT numSpec) :: (82, ansPT head2Spec) :: listG2
theorem listG3_ok : SummOk Tryz.prog (fun f => lookPT f listG3) := .cons rlist2_ok (strsPT_mono _ _) (.cons num2_ok (purePT_mono _) (.cons head2_ok (ansPT_mono _) listG2_ok))
noncomputable def cfgG3 : Cfg := { cfg0 with summ := fun f => lookPT f listG3 }
theorem goodG3 : Sx.Good Tryz.prog cfgG3 := ⟨mixes, listG3_ok, fns_ok⟩
end Go.Proofs.YtoalfimkkibpdaaGreatDoor
/-
  Conditions that the executor computes, written out by a program (vcgen.py).
-/
namespace Go.Proofs.YtoalfimkkibpdaaGreatDoor
open Go Sx
set_option maxRecDepth 20000
theorem vcSplit2 (s : List UInt8) : VC.holds (runA cfgG3 44 Tryz.f44 [.str false s] (splitA s)) = ((fun Q0 : SV => ((fun Q1 : SV => ((fun Q2 : SV => (s.length < (9223372036854775808 : Nat) ∧
 (head2B s = true →
 (decide ((1048576 : Int) < cutN s) = true →
 (cutB s = true →
 sameVal Q0 Q2) ∧
 (cutB s = false →
 sameVal Q0 Q0)) ∧
 (decide ((1048576 : Int) < cutN s) = false →
 (decide ((↑s.length : Int) % (18446744073709551616 : Int) < (cutFrom s % (18446744073709551616 : Int) + cutN s) % (18446744073709551616 : Int)) = true →
 (cutB s = true →
 sameVal Q0 Q2) ∧
 (cutB s = false →
 sameVal Q0 Q0)) ∧
 (decide ((↑s.length : Int) % (18446744073709551616 : Int) < (cutFrom s % (18446744073709551616 : Int) + cutN s) % (18446744073709551616 : Int)) = false →
 ((-9223372036854775808 : Int) ≤ cutN s ∧
 cutN s ≤ (9223372036854775807 : Int)) ∧
 ((-9223372036854775808 : Int) ≤ cutFrom s + cutN s ∧
 cutFrom s + cutN s ≤ (9223372036854775807 : Int)) ∧
 ((0 : Int) ≤ cutFrom s ∧
 cutFrom s ≤ cutFrom s + cutN s ∧
 cutFrom s + cutN s ≤ (↑s.length : Int)) ∧
 (subStr s (some (Operand.tmp 41)) (some (Operand.tmp 42)) (cutFrom s) (cutFrom s + cutN s)).length < (1152921504606846976 : Nat) ∧
 (cutL s = true →
 (True ∧
 joinQ [subStr s (some (Operand.tmp 41)) (some (Operand.tmp 42)) (cutFrom s) (cutFrom s + cutN s)]) ∧
 ((0 : Int) ≤ (0 : Int) ∧
 (0 : Int) ≤ cutFrom s + cutN s ∧
 cutFrom s + cutN s ≤ (↑s.length : Int)) ∧
 ((!decide (headOf 192 (flat [subStr s (some (Operand.tmp 41)) (some (Operand.tmp 42)) (cutFrom s) (cutFrom s + cutN s)]).length ++ flat [subStr s (some (Operand.tmp 41)) (some (Operand.tmp 42)) (cutFrom s) (cutFrom s + cutN s)] = subStr s none (some (Operand.tmp 52)) 0 (cutFrom s + cutN s))) = true →
 (cutB s = true →
 sameVal Q0 Q2) ∧
 (cutB s = false →
 sameVal Q0 Q0)) ∧
 ((!decide (headOf 192 (flat [subStr s (some (Operand.tmp 41)) (some (Operand.tmp 42)) (cutFrom s) (cutFrom s + cutN s)]).length ++ flat [subStr s (some (Operand.tmp 41)) (some (Operand.tmp 42)) (cutFrom s) (cutFrom s + cutN s)] = subStr s none (some (Operand.tmp 52)) 0 (cutFrom s + cutN s))) = false →
 ((0 : Int) ≤ cutFrom s + cutN s ∧
 cutFrom s + cutN s ≤ (↑s.length : Int) ∧
 (↑s.length : Int) ≤ (↑s.length : Int)) ∧
 (cutB s = true →
 sameVal Q1 Q2) ∧
 (cutB s = false →
 sameVal Q1 Q0))) ∧
 (cutL s = false →
 ((0 : Int) ≤ (0 : Int) ∧
 (0 : Int) ≤ cutFrom s + cutN s ∧
 cutFrom s + cutN s ≤ (↑s.length : Int)) ∧
 ((!decide (textOf (subStr s (some (Operand.tmp 41)) (some (Operand.tmp 42)) (cutFrom s) (cutFrom s + cutN s)) = subStr s none (some (Operand.tmp 52)) 0 (cutFrom s + cutN s))) = true →
 (cutB s = true →
 sameVal Q0 Q2) ∧
 (cutB s = false →
 sameVal Q0 Q0)) ∧
 ((!decide (textOf (subStr s (some (Operand.tmp 41)) (some (Operand.tmp 42)) (cutFrom s) (cutFrom s + cutN s)) = subStr s none (some (Operand.tmp 52)) 0 (cutFrom s + cutN s))) = false →
 ((0 : Int) ≤ cutFrom s + cutN s ∧
 cutFrom s + cutN s ≤ (↑s.length : Int) ∧
 (↑s.length : Int) ≤ (↑s.length : Int)) ∧
 (cutB s = true →
 sameVal Q1 Q2) ∧
 (cutB s = false →
 sameVal Q1 Q0)))))) ∧
 (head2B s = false →
 (cutB s = true →
 sameVal Q0 Q2) ∧
 (cutB s = false →
 sameVal Q0 Q0)))) (SV.tup [SV.bool false (cutL s), SV.str false (cutIn s), SV.str false (cutRest s), SV.int .i64 true 0]))) (SV.tup [SV.bool false (cutL s), SV.str (false && false && false) (subStr s (some (Operand.tmp 41)) (some (Operand.tmp 42)) (cutFrom s) (cutFrom s + cutN s)), SV.str (false && false && false) (subStr s (some (Operand.tmp 58)) none (cutFrom s + cutN s) (↑s.length : Int)), SV.int .i64 true 0]))) (SV.tup [SV.bool true false, SV.str true [], SV.str true [], SV.int .i64 true 2])) := by kernel_rfl
end Go.Proofs.YtoalfimkkibpdaaGreatDoor
/-
  The reference's rlp: the first item: the contract; items, numbers: the set-up.
-/
namespace Go.Proofs.YtoalfimkkibpdaaGreatDoor
open Go Sx
set_option maxRecDepth 20000
theorem head2_of_cut {s : List UInt8} (h : cutB s = true) : head2B s = true ∧ cutN s ≤ 1048576 ∧ 0 ≤ cutN s ∧ 0 ≤ cutFrom s ∧ cutFrom s + cutN s ≤ s.length := by
  obtain ⟨h0, h⟩ := cutB_iff.1 h
  have hl := List.length_pos_iff.2 h0
  rw [head2_iff]
  rcases h with hA | ⟨hA, hL, hB, hP⟩ | ⟨hA, hL, hP, hN⟩
  · unfold cutN cutFrom
    rw [if_pos hA, if_pos hA]
    exact ⟨⟨h0, .inl hA⟩, by omega, by omega, by omega, by omega⟩
  · obtain ⟨g1, g2, g3, g4⟩ := lenB_iff.1 hB
    unfold cutN cutFrom
    rw [if_neg hA, if_pos hL, if_neg hA, if_pos hL]
    exact ⟨⟨h0, .inr (.inr g1)⟩, by omega, by omega, by omega, by omega⟩
  · have := lead_nn hA
    unfold cutN cutFrom
    rw [if_neg hA, if_neg hL, if_neg hA, if_neg hL]
    exact ⟨⟨h0, .inr (.inl hL)⟩, by omega, by omega, by omega, by omega⟩
theorem head2_sums {s : List UInt8} (h : head2B s = true) : 0 ≤ cutFrom s ∧ 0 ≤ cutN s ∧ cutFrom s ≤ 9 := by
  obtain ⟨h0, h⟩ := head2_iff.1 h
  have g0 := byteAt_lt s 0
  by_cases hA : byteAt s 0 < 128
  · unfold cutN cutFrom
    rw [if_pos hA, if_pos hA]; omega
  · have := lead_nn hA
    have hlt : lead s < 64 := by unfold lead; split <;> omega
    have := part_nn s (lead s - 54)
    by_cases hL : 55 < lead s
    · unfold cutN cutFrom
      rw [if_neg hA, if_pos hL, if_neg hA, if_pos hL]; omega
    · unfold cutN cutFrom
      rw [if_neg hA, if_neg hL, if_neg hA, if_neg hL]; omega
theorem again_take {s : List UInt8} (_h0 : 0 ≤ cutFrom s) (h1 : 0 ≤ cutN s) (h2 : cutN s ≤ 1048576) (_h3 : cutFrom s + cutN s ≤ s.length) :
    againOf (cutL s) (cutIn s) = s.take (cutFrom s + cutN s).toNat ↔ cutB s = true := by
  constructor
  · intro h
    have e : s = againOf (cutL s) (cutIn s) ++ s.drop (cutFrom s + cutN s).toNat := by rw [h, List.take_append_drop]
    have hb : (cutIn s).length ≤ 1048576 := by
      unfold cutIn; simp only [List.length_take]; omega
    have := (again_cut (l := cutL s) hb (s.drop (cutFrom s + cutN s).toNat)).1
    rw [← e] at this; exact this
  · intro h
    have e := cut_only h
    have e2 : s.take (cutFrom s + cutN s).toNat ++ cutRest s = s := by unfold cutRest; rw [List.take_append_drop]
    exact List.append_cancel_right (e.trans e2.symm)
theorem split2_holds {s : List UInt8} (hs : s.length < 9223372036854775808) : Holds (runA cfgG3 44 Tryz.f44 [.str false s] (splitA s)) := by
  refine Holds.of_eq (vcSplit2 s) ?_
  cases hH : head2B s with
  | false =>
    have hB : cutB s = false := by
      rw [Bool.eq_false_iff]; intro h
      rw [(head2_of_cut h).1] at hH; cases hH
    rw [hB]
    refine ⟨hs, ?_⟩
    simp only [Bool.false_eq_true, false_imp_iff, true_and, forall_const]
    exact fun _ => rfl
  | true =>
    obtain ⟨a1, a2, a3⟩ := head2_sums hH
    refine ⟨hs, ?_, fun h => by cases h⟩
    intro _
    refine ⟨fun h => ?_, fun h => ?_⟩
    · have hB : cutB s = false := by
        rw [Bool.eq_false_iff]; intro h'
        have := (head2_of_cut h').2.1
        simp only [decide_eq_true_eq] at h; omega
      rw [hB]
      exact ⟨(fun h => by cases h), fun _ _ => rfl⟩
    · simp only [decide_eq_false_iff_not] at h
      refine ⟨fun g => ?_, fun g => ?_⟩
      · have hB : cutB s = false := by
          rw [Bool.eq_false_iff]; intro h'
          have := (head2_of_cut h').2.2.2.2
          simp only [decide_eq_true_eq] at g; omega
        rw [hB]
        exact ⟨(fun h => by cases h), fun _ _ => rfl⟩
      · simp only [decide_eq_false_iff_not] at g
        have g : cutFrom s + cutN s ≤ s.length := by omega
        have eT := again_take a1 a2 (by omega) g
        have eI : ∀ x y, subStr s (some (Operand.tmp x)) (some (Operand.tmp y)) (cutFrom s) (cutFrom s + cutN s) = cutIn s := fun x y => by
          simp only [subStr, cutIn]; congr 1; omega
        have eK : ∀ x, subStr s none (some (Operand.tmp x)) 0 (cutFrom s + cutN s) = s.take (cutFrom s + cutN s).toNat := fun _ => rfl
        have eR : ∀ x y, subStr s (some (Operand.tmp x)) none (cutFrom s + cutN s) y = cutRest s := fun _ _ => rfl
        have hl : (cutIn s).length ≤ s.length := by unfold cutIn; simp only [List.length_take, List.length_drop]; omega
        have hl2 : (cutIn s).length ≤ 1048576 := by unfold cutIn; simp only [List.length_take, List.length_drop]; omega
        rw [eI, eK, eR]
        have fl : flat [cutIn s] = cutIn s := by simp [flat]
        rw [fl]
        refine ⟨by omega, by omega, by omega, by omega, fun hL => ?_, fun hL => ?_⟩
        · rw [hL] at eT ⊢
          simp only [againOf, cond_true] at eT
          refine ⟨⟨trivial, by rw [joinQ, fl]; exact ⟨by omega, (by show 1 < 1152921504606846976; decide)⟩⟩, by omega, fun k => ?_, fun k => ?_⟩
          · have hB : cutB s = false := by
              rw [Bool.eq_false_iff]; intro h'
              simp only [Bool.not_eq_true', decide_eq_false_iff_not] at k
              exact k (eT.2 h')
            rw [hB]
            exact ⟨(fun h => by cases h), fun _ _ => rfl⟩
          · have hB : cutB s = true := by
              simp only [Bool.not_eq_false', decide_eq_true_eq] at k
              exact eT.1 k
            rw [hB]
            exact ⟨by omega, fun _ _ => rfl, fun h => by cases h⟩
        · rw [hL] at eT ⊢
          simp only [againOf, cond_false] at eT
          refine ⟨by omega, fun k => ?_, fun k => ?_⟩
          · have hB : cutB s = false := by
              rw [Bool.eq_false_iff]; intro h'
              simp only [Bool.not_eq_true', decide_eq_false_iff_not] at k
              exact k (eT.2 h')
            rw [hB]
            exact ⟨(fun h => by cases h), fun _ _ => rfl⟩
          · have hB : cutB s = true := by
              simp only [Bool.not_eq_false', decide_eq_true_eq] at k
              exact eT.1 k
            rw [hB]
            exact ⟨by omega, fun _ _ => rfl, fun h => by cases h⟩
theorem split2_ok : CallOk Tryz.prog 44 (ansPT splitSpec) := by
  refine ans_ok (n := 20) (fn := Tryz.f44) Tryz.func44 (by kernel_rfl) (by kernel_rfl) ?_
  intro args p a h hp
  unfold splitSpec at h
  split at h
  · rename_i s
    injection h with h; injection h with h1 h2; subst h1; subst h2
    refine ⟨_, goodG3, rfl, fun b => ?_, split2_holds hp⟩
    cases b <;> exact rfl
  · cases h
noncomputable def listG4 : List (FuncId × PT) := (44, ansPT splitSpec) :: listG3
theorem listG4_ok : SummOk Tryz.prog (fun f => lookPT f listG4) := .cons split2_ok (ansPT_mono _) listG3_ok
noncomputable def cfgG4 : Cfg := { cfg0 with summ := fun f => lookPT f listG4 }
theorem goodG4 : Sx.Good Tryz.prog cfgG4 := ⟨mixes, listG4_ok, fns_ok⟩
noncomputable def annItems2 (s : List UInt8) : LoopAnn :=
  { α := ItemG, pre := fun _ x => ItemPre s x, mea := fun _ x => (restAt s x.k).length, fresh := 1, slots := fun st x => [(0, .str false (restAt s x.k)), (4, .rslc st.nx 1 true 0 x.k x.c)],
    mem := fun st x => [(st.nx, .rows true x.k [.str (itemAt s)] false x.c 9)] }
noncomputable def cfgI2 (s : List UInt8) : Cfg := { cfg0 with summ := fun f => lookPT f listG4, anns := fun f => if f = 45 then [(2, always (annItems2 s))] else [] }
theorem goodI2 (s : List UInt8) : Sx.Good Tryz.prog (cfgI2 s) := ⟨mixes, listG4_ok, fns_ok⟩
end Go.Proofs.YtoalfimkkibpdaaGreatDoor
/-
  Conditions that the executor computes, written out by a program (vcgen.py).
-/
namespace Go.Proofs.YtoalfimkkibpdaaGreatDoor
open Go Sx
set_option maxRecDepth 20000
theorem vcItems2 (s : List UInt8) : VC.holds (runA (cfgI2 s) 45 Tryz.f45 [.str false s] (itemsA s)) = ((∃ (y : ItemG), ItemPre s y ∧
 s = restAt s y.k ∧
 y.k = (0 : Nat) ∧
 (SB.rows true y.k [Col.str (itemAt s)] false y.c 9).no = true ∧
 True) ∧
 ∀ (x : ItemG), ItemPre s x →
 ((!decide (restAt s x.k = [])) = true →
 (restAt s x.k).length < (9223372036854775808 : Nat) ∧
 (cutB (restAt s x.k) = true →
 ((-9223372036854775808 : Int) ≤ (↑(restAt s x.k).length : Int) - (↑(cutRest (restAt s x.k)).length : Int) ∧
 (↑(restAt s x.k).length : Int) - (↑(cutRest (restAt s x.k)).length : Int) ≤ (9223372036854775807 : Int)) ∧
 ((0 : Int) ≤ (0 : Int) ∧
 (0 : Int) ≤ (↑(restAt s x.k).length : Int) - (↑(cutRest (restAt s x.k)).length : Int) ∧
 (↑(restAt s x.k).length : Int) - (↑(cutRest (restAt s x.k)).length : Int) ≤ (↑(restAt s x.k).length : Int)) ∧
 ((0 : Nat) + x.k ≤ x.k ∧
 True ∧
 (2 : Nat) * (x.k + (1 : Nat)) * (16 : Nat) ≤ (281474976710656 : Nat) ∧
 x.k + (1 : Nat) < (9223372036854775808 : Nat)) ∧
 x.c = x.c * (1 : Nat) ∧
 ∀ (c : Nat), x.k + (1 : Nat) ≤ c →
 ∃ (y : ItemG), (ItemPre s y ∧
 (restAt s y.k).length < (restAt s x.k).length) ∧
 cutRest (restAt s x.k) = restAt s y.k ∧
 ((0 : Nat) = (0 : Nat) ∧
 x.k + (1 : Nat) = y.k ∧
 c = y.c) ∧
 True ∧
 SBle (SB.rows true (x.k + (1 : Nat)) [Col.str fun (j : Nat) => if j < x.k then itemAt s j else selS [subStr (restAt s x.k) none (some (Operand.tmp 27)) 0 ((↑(restAt s x.k).length : Int) - (↑(cutRest (restAt s x.k)).length : Int))] (j - x.k)] false (c * (1 : Nat)) 9) (SB.rows true y.k [Col.str (itemAt s)] false y.c 9) ∧
 True) ∧
 (cutB (restAt s x.k) = false →
 (itemsB s = true →
 ∃ (x : Nat), itemsN s ≤ x ∧
 False) ∧
 (itemsB s = false →
 sameVal (SV.tup [SV.nilslc, SV.int .i64 true 2]) (SV.tup [SV.nilslc, SV.int .i64 true 2])))) ∧
 ((!decide (restAt s x.k = [])) = false →
 (itemsB s = true →
 ∃ (x_4 : Nat), itemsN s ≤ x_4 ∧
 SBle (SB.rows true x.k [Col.str (itemAt s)] false x.c 9) (SB.rows true (itemsN s) [Col.str (itemAt s)] false x_4 9) ∧
 sameVal (SV.tup [SV.rslc 0 1 true 0 x.k x.c, SV.int .i64 true 0]) (SV.tup [SV.rslc 0 1 true 0 (itemsN s) x_4, SV.int .i64 true 0])) ∧
 (itemsB s = false →
 sameVal (SV.tup [SV.rslc 0 1 true 0 x.k x.c, SV.int .i64 true 0]) (SV.tup [SV.nilslc, SV.int .i64 true 2])))) := by kernel_rfl
theorem vcGet2 (s : List UInt8) : VC.holds (runA cfgG4 46 Tryz.f46 [.str false s] (getA s)) = ((fun Q0 : SV => ((fun Q1 : SV => (s.length < (9223372036854775808 : Nat) ∧
 (cutB s = true →
 (cutL s = true →
 (getB s = true →
 sameVal Q0 Q1) ∧
 (getB s = false →
 sameVal Q0 Q0)) ∧
 (cutL s = false →
 ((!decide (cutRest s = [])) = true →
 (getB s = true →
 sameVal Q0 Q1) ∧
 (getB s = false →
 sameVal Q0 Q0)) ∧
 ((!decide (cutRest s = [])) = false →
 (decide ((8 : Int) < (↑(cutIn s).length : Int)) = true →
 (getB s = true →
 sameVal Q0 Q1) ∧
 (getB s = false →
 sameVal Q0 Q0)) ∧
 (decide ((8 : Int) < (↑(cutIn s).length : Int)) = false →
 (cutIn s).length ≤ (8 : Nat) ∧
 ((0 : Int) ≤ num (cutIn s) ∧
 num (cutIn s) < (18446744073709551616 : Int)) ∧
 ((!decide (textOf (digits (num (cutIn s))) = s)) = true →
 (getB s = true →
 sameVal Q0 Q1) ∧
 (getB s = false →
 sameVal Q0 Q0)) ∧
 ((!decide (textOf (digits (num (cutIn s))) = s)) = false →
 (cutIn s).length ≤ (8 : Nat) ∧
 (getB s = true →
 sameVal Q1 Q1) ∧
 (getB s = false →
 sameVal Q1 Q0)))))) ∧
 (cutB s = false →
 (getB s = true →
 sameVal Q0 Q1) ∧
 (getB s = false →
 sameVal Q0 Q0)))) (SV.tup [SV.int .u64 false (num (cutIn s)), SV.int .i64 true 0]))) (SV.tup [SV.int .u64 true 0, SV.int .i64 true 2])) := by kernel_rfl
end Go.Proofs.YtoalfimkkibpdaaGreatDoor
/-
  The reference's rlp: items, numbers: the contracts.
-/
namespace Go.Proofs.YtoalfimkkibpdaaGreatDoor
open Go Sx
set_option maxRecDepth 20000
theorem items2_holds {s : List UInt8} (hs : s.length < 1099511627776) : Holds (runA (cfgI2 s) 45 Tryz.f45 [.str false s] (itemsA s)) := by
  refine Holds.of_eq (vcItems2 s) ?_
  refine ⟨⟨⟨0, 0⟩, ⟨fun j hj => absurd hj (Nat.not_lt_zero _), Nat.le_refl _⟩, rfl, rfl, rfl, trivial⟩, fun x hx => ?_⟩
  have hw : Walk s x.k := hx.walk
  have hl := hw.len
  obtain ⟨i1, i2⟩ := hw.items
  refine ⟨fun a => ?_, fun a => ?_⟩
  · have a : restAt s x.k ≠ [] := by simpa using a
    refine ⟨by omega, fun b => ?_, fun b => ?_⟩
    · have hlt := cut_lt b
      refine ⟨by omega, by omega, ⟨by omega, trivial, by omega, by omega⟩, by omega, fun c hc => ⟨⟨x.k + 1, c⟩, ⟨⟨hw.snoc a b, hc⟩, ?_⟩, ?_, ⟨rfl, rfl, rfl⟩, trivial, ?_, trivial⟩⟩
      · simp only [restAt]; exact hlt
      · simp only [restAt]
      · refine Sx.SBle.strRows rfl (Nat.mul_one c) fun i hi => ?_
        by_cases h : i < x.k
        · rw [if_pos h]
        · rw [if_neg h]
          have e : i = x.k := by omega
          subst e
          simp only [Nat.sub_self, selS, subStr, itemAt, itemOf]
          rw [show ((↑(restAt s x.k).length : Int) - (↑(cutRest (restAt s x.k)).length : Int)).toNat = (restAt s x.k).length - (cutRest (restAt s x.k)).length by omega]
          simp only [List.getD_cons_zero]
    · have hb := items_bad a b
      rw [← i1] at hb
      exact ⟨(fun h => by rw [hb] at h; cases h), fun _ _ => rfl⟩
  · have a : restAt s x.k = [] := by simpa using a
    rw [a] at i1 i2
    have n0 : itemsN s = x.k := by rw [i2, items_nil.2]; omega
    have b0 : itemsB s = true := by rw [i1, items_nil.1]
    refine ⟨fun _ => ⟨x.c, by rw [n0]; exact hx.cap, ?_, ?_⟩, fun h => by rw [b0] at h; cases h⟩
    · rw [n0]; exact SBle.refl _
    · rw [n0]; exact fun _ => rfl
theorem ritems2_ok : CallOk Tryz.prog 45 itemsPT := by
  refine ans_ok (n := 20) (fn := Tryz.f45) Tryz.func45 (by kernel_rfl) (by kernel_rfl) ?_
  intro args p a h hp
  unfold itemsSpec at h
  split at h
  · rename_i s
    injection h with h; injection h with h1 h2; subst h1; subst h2
    refine ⟨_, goodI2 s, rfl, fun b => ?_, items2_holds hp⟩
    cases b with
    | false => exact rfl
    | true =>
      intro c
      refine ⟨rfl, rfl, fun k => by simp [SV.wf, SV.wfs, Nat.blt_eq], fun E E' k k' h => ?_⟩
      cases hn : itemsN s with
      | zero => rfl
      | succ n =>
        rw [hn] at h
        have hk : E k = E' k' := h rfl
        simp [SV.val, SV.vals, hk]
  · cases h
theorem get2_holds {s : List UInt8} (hs : s.length < 9223372036854775808) : Holds (runA cfgG4 46 Tryz.f46 [.str false s] (getA s)) := by
  refine Holds.of_eq (vcGet2 s) ?_
  have F : ∀ {p q : Prop}, ¬ (cutB s = true ∧ cutL s = false ∧ cutRest s = [] ∧ (cutIn s).length ≤ 8 ∧ (cutIn s = [] ∨ byteAt (cutIn s) 0 ≠ 0)) → q → (getB s = true → p) ∧ (getB s = false → q) := fun h hq => ⟨fun e => absurd (getB_iff.1 e) h, fun _ => hq⟩
  refine ⟨hs, fun a => ⟨fun b => F (by simp [b]) fun _ => rfl, fun b => ⟨fun c => F (by simp at c; simp [c]) fun _ => rfl, fun c => ⟨fun d => F (by simp at d; omega) fun _ => rfl, fun d => ?_⟩⟩⟩, fun a => F (by simp [a]) fun _ => rfl⟩
  simp only [decide_eq_false_iff_not] at d
  have h0 := num_nn (cutIn s)
  have h1 : num (cutIn s) < 18446744073709551616 := num_lt 8 (cutIn s) (by omega)
  refine ⟨by omega, ⟨h0, h1⟩, fun e => ⟨fun g => ?_, fun _ => fun _ => rfl⟩, fun e => ⟨by omega, fun _ => fun _ => rfl, fun g => ?_⟩⟩
  · simp only [Bool.not_eq_true', decide_eq_false_iff_not] at e
    exact absurd (getB_only g) e
  · simp only [Bool.not_eq_false', decide_eq_true_eq] at e
    have := (getB_num h0 h1).1
    rw [e, g] at this; cases this
theorem rget2_ok : CallOk Tryz.prog 46 getPT := by
  refine ans_ok (n := 20) (fn := Tryz.f46) Tryz.func46 (by kernel_rfl) (by kernel_rfl) ?_
  intro args p a h hp
  unfold getSpec at h
  split at h
  · rename_i s
    injection h with h; injection h with h1 h2; subst h1; subst h2
    refine ⟨_, goodG4, rfl, fun b => ?_, get2_holds hp⟩
    cases b <;> exact rfl
  · cases h
noncomputable def listG5 : List (FuncId × PT) := (45, itemsPT) :: (46, getPT) :: listG4
theorem listG5_ok : SummOk Tryz.prog (fun f => lookPT f listG5) := .cons ritems2_ok (ansPT_mono _) (.cons rget2_ok (ansPT_mono _) listG4_ok)
end Go.Proofs.YtoalfimkkibpdaaGreatDoor
/-
  Wire's reference: Valid: the set-up.
-/
namespace Go.Proofs.YtoalfimkkibpdaaGreatDoor
open Go Sx
set_option maxRecDepth 20000
noncomputable def cfgGV (x : Pp) : Cfg := { cfg0 with summ := fun f => lookPT f listG5, anns := fun f => if f = 16 then [(4, always (annUpto 3 x.n (nodeOk x.f)))] else [] }
theorem goodGV (x : Pp) : Sx.Good Tryz.prog (cfgGV x) := ⟨mixes, listG5_ok, fns_ok⟩
noncomputable def annGrowZ (tmp slot : Nat) (n : Nat) (f : Nat → List UInt8) : LoopAnn :=
  { α := Nat × Nat, pre := fun _ x => Grow n x, mea := fun _ x => n - x.1, fresh := 1, slots := fun st x => [(tmp, .int .i64 false x.1), (slot, .rslc st.nx 1 true 0 x.1 x.2)],
    mem := fun st x => [(st.nx, .rows true x.1 [.str f] false x.2 9)] }
end Go.Proofs.YtoalfimkkibpdaaGreatDoor
/-
  Conditions that the executor computes, written out by a program (vcgen.py).
-/
namespace Go.Proofs.YtoalfimkkibpdaaGreatDoor
open Go Sx
set_option maxRecDepth 20000
theorem vcGValid (x : Pp) (z : Bool) (o c : Nat) (key : Option Nat) : VC.holds (runS (cfgGV x) 16 Tryz.f16 [x.sv (.vslc 0 1 z o 0 x.n c)] [seenP z o c x key] (.ret (.bool false x.ok))) = ((fun P0 : SB => ((((!decide (x.k = 0)) = true → ((!decide (x.k = 1)) = true → sameVal (SV.bool true false) (SV.bool false x.ok)) ∧ ((!decide (x.k = 1)) = false → ((!decide ((x.root.length : Int) = 32)) = true → sameVal (SV.bool true false) (SV.bool false x.ok)) ∧ ((!decide ((x.root.length : Int) = 32)) = false → (decide (6 < (x.key.length : Int)) = true → sameVal (SV.bool true false) (SV.bool false x.ok)) ∧ (decide (6 < (x.key.length : Int)) = false → (decide (6 < (x.to.length : Int)) = true → sameVal (SV.bool true false) (SV.bool false x.ok)) ∧ (decide (6 < (x.to.length : Int)) = false → (decide (x.k = 0) = true → ((!decide (x.to = [])) = true → sameVal (SV.bool true false) (SV.bool false x.ok)) ∧ ((!decide (x.to = [])) = false → (decide (200 < (x.n : Int)) = true → sameVal (SV.bool true false) (SV.bool false x.ok)) ∧ (decide (200 < (x.n : Int)) = false → (∃ (u11 : Nat), Upto x.n (nodeOk x.f) u11 ∧ 0 = (u11 : Int) ∧ SBle P0 P0 ∧ SBle (seenP z o c x key).B (seenP z o c x key).B ∧ True) ∧ ∀ (u10 : Nat), Upto x.n (nodeOk x.f) u10 → (decide ((u10 : Int) < (x.n : Int)) = true → (0 ≤ (u10 : Int) ∧ (u10 : Int) < (x.n : Int)) ∧ (o = o ∧ 0 + (u10 : Int).toNat < x.n) ∧
 (decide (1000 < (↑(x.f (0 + (u10 : Int).toNat)).length : Int)) = true → sameVal (SV.bool true false) (SV.bool false x.ok)) ∧ (decide (1000 < (↑(x.f (0 + (u10 : Int).toNat)).length : Int)) = false → ((-9223372036854775808 : Int) ≤ (u10 : Int) + 1 ∧ (u10 : Int) + 1 ≤ (9223372036854775807 : Int)) ∧ ∃ (u9 : Nat), (Upto x.n (nodeOk x.f) u9 ∧ x.n - u9 < x.n - u10) ∧ (u10 : Int) + 1 = (u9 : Int) ∧ SBle P0 P0 ∧ SBle (seenP z o c x key).B (seenP z o c x key).B ∧ True)) ∧ (decide ((u10 : Int) < (x.n : Int)) = false → sameVal (SV.bool true true) (SV.bool false x.ok))))) ∧ (decide (x.k = 0) = false → (decide (200 < (x.n : Int)) = true → sameVal (SV.bool true false) (SV.bool false x.ok)) ∧ (decide (200 < (x.n : Int)) = false → (∃ (u8 : Nat), Upto x.n (nodeOk x.f) u8 ∧ 0 = (u8 : Int) ∧ SBle P0 P0 ∧ SBle (seenP z o c x key).B (seenP z o c x key).B ∧ True) ∧ ∀ (u7 : Nat), Upto x.n (nodeOk x.f) u7 → (decide ((u7 : Int) < (x.n : Int)) = true → (0 ≤ (u7 : Int) ∧ (u7 : Int) < (x.n : Int)) ∧ (o = o ∧ 0 + (u7 : Int).toNat < x.n) ∧ (decide (1000 < (↑(x.f (0 + (u7 : Int).toNat)).length : Int)) = true → sameVal (SV.bool true false) (SV.bool false x.ok)) ∧
 (decide (1000 < (↑(x.f (0 + (u7 : Int).toNat)).length : Int)) = false → ((-9223372036854775808 : Int) ≤ (u7 : Int) + 1 ∧ (u7 : Int) + 1 ≤ (9223372036854775807 : Int)) ∧ ∃ (u6 : Nat), (Upto x.n (nodeOk x.f) u6 ∧ x.n - u6 < x.n - u7) ∧ (u7 : Int) + 1 = (u6 : Int) ∧ SBle P0 P0 ∧ SBle (seenP z o c x key).B (seenP z o c x key).B ∧ True)) ∧ (decide ((u7 : Int) < (x.n : Int)) = false → sameVal (SV.bool true true) (SV.bool false x.ok))))))))) ∧ ((!decide (x.k = 0)) = false → ((!decide ((x.root.length : Int) = 32)) = true → sameVal (SV.bool true false) (SV.bool false x.ok)) ∧ ((!decide ((x.root.length : Int) = 32)) = false → (decide (6 < (x.key.length : Int)) = true → sameVal (SV.bool true false) (SV.bool false x.ok)) ∧ (decide (6 < (x.key.length : Int)) = false → (decide (6 < (x.to.length : Int)) = true → sameVal (SV.bool true false) (SV.bool false x.ok)) ∧ (decide (6 < (x.to.length : Int)) = false → (decide (x.k = 0) = true → ((!decide (x.to = [])) = true → sameVal (SV.bool true false) (SV.bool false x.ok)) ∧ ((!decide (x.to = [])) = false → (decide (200 < (x.n : Int)) = true → sameVal (SV.bool true false) (SV.bool false x.ok)) ∧ (decide (200 < (x.n : Int)) = false →
 (∃ (u5 : Nat), Upto x.n (nodeOk x.f) u5 ∧ 0 = (u5 : Int) ∧ SBle P0 P0 ∧ SBle (seenP z o c x key).B (seenP z o c x key).B ∧ True) ∧ ∀ (u4 : Nat), Upto x.n (nodeOk x.f) u4 → (decide ((u4 : Int) < (x.n : Int)) = true → (0 ≤ (u4 : Int) ∧ (u4 : Int) < (x.n : Int)) ∧ (o = o ∧ 0 + (u4 : Int).toNat < x.n) ∧ (decide (1000 < (↑(x.f (0 + (u4 : Int).toNat)).length : Int)) = true → sameVal (SV.bool true false) (SV.bool false x.ok)) ∧ (decide (1000 < (↑(x.f (0 + (u4 : Int).toNat)).length : Int)) = false → ((-9223372036854775808 : Int) ≤ (u4 : Int) + 1 ∧ (u4 : Int) + 1 ≤ (9223372036854775807 : Int)) ∧ ∃ (u3 : Nat), (Upto x.n (nodeOk x.f) u3 ∧ x.n - u3 < x.n - u4) ∧ (u4 : Int) + 1 = (u3 : Int) ∧ SBle P0 P0 ∧ SBle (seenP z o c x key).B (seenP z o c x key).B ∧ True)) ∧ (decide ((u4 : Int) < (x.n : Int)) = false → sameVal (SV.bool true true) (SV.bool false x.ok))))) ∧ (decide (x.k = 0) = false → (decide (200 < (x.n : Int)) = true → sameVal (SV.bool true false) (SV.bool false x.ok)) ∧ (decide (200 < (x.n : Int)) = false → (∃ (u2 : Nat), Upto x.n (nodeOk x.f) u2 ∧ 0 = (u2 : Int) ∧ SBle P0 P0 ∧ SBle (seenP z o c x key).B (seenP z o c x key).B ∧ True) ∧ ∀ (u1 : Nat), Upto x.n (nodeOk x.f) u1 →
 (decide ((u1 : Int) < (x.n : Int)) = true → (0 ≤ (u1 : Int) ∧ (u1 : Int) < (x.n : Int)) ∧ (o = o ∧ 0 + (u1 : Int).toNat < x.n) ∧ (decide (1000 < (↑(x.f (0 + (u1 : Int).toNat)).length : Int)) = true → sameVal (SV.bool true false) (SV.bool false x.ok)) ∧ (decide (1000 < (↑(x.f (0 + (u1 : Int).toNat)).length : Int)) = false → ((-9223372036854775808 : Int) ≤ (u1 : Int) + 1 ∧ (u1 : Int) + 1 ≤ (9223372036854775807 : Int)) ∧ ∃ (u0 : Nat), (Upto x.n (nodeOk x.f) u0 ∧ x.n - u0 < x.n - u1) ∧ (u1 : Int) + 1 = (u0 : Int) ∧ SBle P0 P0 ∧ SBle (seenP z o c x key).B (seenP z o c x key).B ∧ True)) ∧ (decide ((u1 : Int) < (x.n : Int)) = false → sameVal (SV.bool true true) (SV.bool false x.ok))))))))))) (SB.cells (x.sv (SV.vslc 0 1 z o 0 x.n c)).cells 5 31)) := by kernel_rfl
end Go.Proofs.YtoalfimkkibpdaaGreatDoor
/-
  Wire's reference: Valid: the contract; Put: the set-up.
-/
namespace Go.Proofs.YtoalfimkkibpdaaGreatDoor
open Go Sx
set_option maxRecDepth 20000
set_option maxHeartbeats 4000000 in
theorem gvalid_holds (x : Pp) (z : Bool) (o c : Nat) (key : Option Nat) : Holds (runS (cfgGV x) 16 Tryz.f16 [x.sv (.vslc 0 1 z o 0 x.n c)] [seenP z o c x key] (.ret (.bool false x.ok))) := by
  refine Holds.of_eq (vcGValid x z o c key) ?_
  simp only [Int.toNat_natCast, Nat.zero_add]
  unfold Pp.ok
  have h01 : decide (x.k = 0) = true → decide (x.k = 1) = false := by simp only [decide_eq_true_eq, decide_eq_false_iff_not]; omega
  generalize decide (x.k = 0) = b1 at h01 ⊢
  generalize decide (x.k = 1) = b2 at h01 ⊢
  generalize decide (x.to = []) = b3
  generalize decide ((x.root.length : Int) = 32) = b4
  generalize decide ((6 : Int) < (x.key.length : Int)) = b5
  generalize decide ((6 : Int) < (x.to.length : Int)) = b6
  generalize hr : nodesOk x.n x.f = b9
  repeat' first
    | exact trivial
    | exact SBle.refl _
    | apply And.intro
    | intro (_ : _ = true)
    | intro (_ : _ = false)
    | refine ⟨0, ⟨Nat.zero_le _, fun j hj => absurd hj (Nat.not_lt_zero _)⟩, rfl, ?_⟩
    | intro (i : Nat) (hi : Upto _ _ i)
    | refine ⟨i + 1, ⟨upto_next hi ?_ ?_, ?_⟩, ?_, ?_⟩
    | fail
  all_goals try simp only [decide_eq_true_eq, decide_eq_false_iff_not] at *
  all_goals first
    | omega
    | exact nodeOk_true (by assumption)
    | (apply bool_same; subst hr; rw [nodesOk, upto_all hi (by assumption)]; simp_all; done)
    | (apply bool_same; subst hr; rw [nodesOk, upto_none (i := i) (by assumption) (nodeOk_f (by assumption))]; simp_all; done)
    | (apply bool_same; simp_all; done)
theorem gvalid_ok : CallOk Tryz.prog 16 (ansVPT shP pvalidSpec) := by
  refine ansV_ok (n := 20) (fn := Tryz.f16) Tryz.func16 (by kernel_rfl) (by kernel_rfl) ?_
  intro vs l q a h hq
  unfold pvalidSpec at h
  split at h
  · rename_i x r hx
    obtain ⟨z, o, c, key⟩ := r
    injection h with h; injection h with h1 h2; subst h1; subst h2
    obtain ⟨e1, e2⟩ := paperOf_eq hx
    rw [e1, e2]
    exact ⟨_, goodGV x, rfl, rfl, gvalid_holds x z o c key⟩
  · cases h
noncomputable def listGw1 : List (FuncId × PT) := (16, ansVPT shP pvalidSpec) :: listG5
theorem listGw1_ok : SummOk Tryz.prog (fun f => lookPT f listGw1) := .cons gvalid_ok (ansVPT_mono _ _) listG5_ok
noncomputable def cfgGP (x : Pp) : Cfg := { cfg0 with summ := fun f => lookPT f listGw1, anns := fun f => if f = 12 then [(5, always (annGrowZ 5 4 x.n (rowT x.f)))] else [] }
theorem goodGP (x : Pp) : Sx.Good Tryz.prog (cfgGP x) := ⟨mixes, listGw1_ok, fns_ok⟩
end Go.Proofs.YtoalfimkkibpdaaGreatDoor
