/-
  Hashes: what a text's hash is: the set-up.
-/
import Derived.Test.YtmipbcadcoahlaaDoorQb
import Derived.Test.YtmipbcadcoahlaaDoorOd
namespace Go.Proofs.YtmipbcadcoahlaaDoor
open Go Sx
set_option maxRecDepth 20000

/-- A number as eight bytes. -/
def sizeB (n : Int) : List UInt8 := [UInt8.ofNat (n / 72057594037927936 % 256).toNat, UInt8.ofNat (n / 281474976710656 % 256).toNat, UInt8.ofNat (n / 1099511627776 % 256).toNat, UInt8.ofNat (n / 4294967296 % 256).toNat, UInt8.ofNat (n / 16777216 % 256).toNat, UInt8.ofNat (n / 65536 % 256).toNat, UInt8.ofNat (n / 256 % 256).toNat, UInt8.ofNat (n / 1 % 256).toNat]
def zerosN (T : List UInt8) : Nat := (119 - T.length % 64) % 64
/-- What stands behind a text. -/
def tailL (T : List UInt8) : List UInt8 := 128 :: (List.replicate (zerosN T) 0 ++ sizeB ((T.length : Int) % 18446744073709551616 * 8 % 18446744073709551616))
def padT (T : List UInt8) : List UInt8 := T ++ tailL T
def outW (W : Nat → Int) : List UInt8 := [UInt8.ofNat (W 0 / 16777216 % 256).toNat, UInt8.ofNat (W 0 / 65536 % 256).toNat, UInt8.ofNat (W 0 / 256 % 256).toNat, UInt8.ofNat (W 0 % 256).toNat, UInt8.ofNat (W 1 / 16777216 % 256).toNat, UInt8.ofNat (W 1 / 65536 % 256).toNat, UInt8.ofNat (W 1 / 256 % 256).toNat, UInt8.ofNat (W 1 % 256).toNat, UInt8.ofNat (W 2 / 16777216 % 256).toNat, UInt8.ofNat (W 2 / 65536 % 256).toNat, UInt8.ofNat (W 2 / 256 % 256).toNat, UInt8.ofNat (W 2 % 256).toNat, UInt8.ofNat (W 3 / 16777216 % 256).toNat, UInt8.ofNat (W 3 / 65536 % 256).toNat, UInt8.ofNat (W 3 / 256 % 256).toNat, UInt8.ofNat (W 3 % 256).toNat, UInt8.ofNat (W 4 / 16777216 % 256).toNat, UInt8.ofNat (W 4 / 65536 % 256).toNat, UInt8.ofNat (W 4 / 256 % 256).toNat, UInt8.ofNat (W 4 % 256).toNat, UInt8.ofNat (W 5 / 16777216 % 256).toNat, UInt8.ofNat (W 5 / 65536 % 256).toNat, UInt8.ofNat (W 5 / 256 % 256).toNat, UInt8.ofNat (W 5 % 256).toNat, UInt8.ofNat (W 6 / 16777216 % 256).toNat, UInt8.ofNat (W 6 / 65536 % 256).toNat, UInt8.ofNat (W 6 / 256 % 256).toNat, UInt8.ofNat (W 6 % 256).toNat, UInt8.ofNat (W 7 / 16777216 % 256).toNat, UInt8.ofNat (W 7 / 65536 % 256).toNat, UInt8.ofNat (W 7 / 256 % 256).toNat, UInt8.ofNat (W 7 % 256).toNat]
/-- A text's hash. -/
def shaL (T : List UInt8) : List UInt8 := outW (wordsAt (padT T) ((padT T).length / 64))
noncomputable def listS4 : List (FuncId × PT) := (29, boxPT shSB writeSpec) :: reflList
theorem listS4_ok : SummOk Tryd.prog (fun f => lookPT f listS4) := .cons write_ok (boxPT_mono _ _) reflList_ok
noncomputable def cfgS4 : Cfg := { cfg0 with summ := fun f => lookPT f listS4 }
theorem goodS4 : Sx.Good Tryd.prog cfgS4 := ⟨mixes, listS4_ok, fns_ok⟩
def sumSpec : List SV → Option (Sh × List UInt8 → Prop × (Unit → Prop × SV × (Sh × List UInt8)))
  | [.ptr 0 true 0] => some fun g => (IsS g.1 g.2 ∧ g.2.length < 1152921504606846976, fun _ => (True, .str false (shaL g.2), g))
  | _ => none
noncomputable def listS5 : List (FuncId × PT) := (30, boxPT shSB sumSpec) :: listS4
noncomputable def annOf (n : Nat) (f : Nat → List UInt8) : LoopAnn :=
  { α := Nat × Sh, pre := fun _ x => x.1 ≤ n ∧ IsS x.2 (flat (rowL f 0 x.1)), mea := fun _ x => n - x.1, fresh := 0, slots := fun _ x => [(9, .int .i64 false x.1)], mem := fun _ x => [(1, x.2.sb)] }
noncomputable def cfgOf (n : Nat) (f : Nat → List UInt8) : Cfg := { cfg0 with summ := fun f => lookPT f listS5, anns := fun g => if g = 17 then [(3, always (annOf n f))] else [] }
def ofQ (l : List (List UInt8)) : Prop := (flat l).length < 1152921504606846976 ∧ l.length < 1152921504606846976
def ofG (l : List (List UInt8)) : SV := .str false (shaL (flat l))
end Go.Proofs.YtmipbcadcoahlaaDoor
/-
  Conditions that the executor computes, written out by a program (vcgen.py).
-/
namespace Go.Proofs.YtmipbcadcoahlaaDoor
open Go Sx
set_option maxRecDepth 20000

theorem vcSum (x : Sh) (T : List UInt8) : VC.holds (runBox cfgS4 30 Tryd.f30 [.ptr 0 true 0] shSB (x, T) (fun _ : Unit => (True, .str false (shaL T), (x, T)))) = (((-9223372036854775808 : Int) ≤ (119 : Int) - x.held ∧
 (119 : Int) - x.held ≤ (9223372036854775807 : Int)) ∧
 ((0 : Int) ≤ (119 : Int) - x.held ∧
 (119 : Int) - x.held ≤ (9223372036854775807 : Int) ∧
 (0 : Int) < (64 : Int)) ∧
 ((-9223372036854775808 : Int) ≤ (1 : Int) + ((119 : Int) - x.held) % (64 : Int) ∧
 (1 : Int) + ((119 : Int) - x.held) % (64 : Int) ≤ (9223372036854775807 : Int)) ∧
 ((-9223372036854775808 : Int) ≤ (1 : Int) + ((119 : Int) - x.held) % (64 : Int) + (8 : Int) ∧
 (1 : Int) + ((119 : Int) - x.held) % (64 : Int) + (8 : Int) ≤ (9223372036854775807 : Int)) ∧
 ((1 : Int) + ((119 : Int) - x.held) % (64 : Int) + (8 : Int) = (1 : Int) + ((119 : Int) - x.held) % (64 : Int) + (8 : Int) ∧
 (0 : Int) ≤ (1 : Int) + ((119 : Int) - x.held) % (64 : Int) + (8 : Int) ∧
 (1 : Int) * ((1 : Int) + ((119 : Int) - x.held) % (64 : Int) + (8 : Int)) ≤ (140737488355328 : Int) ∧
 (1 : Int) + ((119 : Int) - x.held) % (64 : Int) + (8 : Int) ≤ (9223372036854775807 : Int)) ∧
 ((0 : Int) ≤ (0 : Int) ∧
 (0 : Int) < (↑((1 : Int) + ((119 : Int) - x.held) % (64 : Int) + (8 : Int)).toNat : Int)) ∧
 (0 : Nat) < ((1 : Int) + ((119 : Int) - x.held) % (64 : Int) + (8 : Int)).toNat ∧
 ((-9223372036854775808 : Int) ≤ (1 : Int) + ((119 : Int) - x.held) % (64 : Int) ∧
 (1 : Int) + ((119 : Int) - x.held) % (64 : Int) ≤ (9223372036854775807 : Int)) ∧
 ((-9223372036854775808 : Int) ≤ (1 : Int) + ((119 : Int) - x.held) % (64 : Int) + (0 : Int) ∧
 (1 : Int) + ((119 : Int) - x.held) % (64 : Int) + (0 : Int) ≤ (9223372036854775807 : Int)) ∧
 ((0 : Int) ≤ (1 : Int) + ((119 : Int) - x.held) % (64 : Int) + (0 : Int) ∧
 (1 : Int) + ((119 : Int) - x.held) % (64 : Int) + (0 : Int) < (↑((1 : Int) + ((119 : Int) - x.held) % (64 : Int) + (8 : Int)).toNat : Int)) ∧
 (0 : Nat) + ((1 : Int) + ((119 : Int) - x.held) % (64 : Int) + (0 : Int)).toNat < ((1 : Int) + ((119 : Int) - x.held) % (64 : Int) + (8 : Int)).toNat ∧
 ((-9223372036854775808 : Int) ≤ (1 : Int) + ((119 : Int) - x.held) % (64 : Int) ∧
 (1 : Int) + ((119 : Int) - x.held) % (64 : Int) ≤ (9223372036854775807 : Int)) ∧
 ((-9223372036854775808 : Int) ≤ (1 : Int) + ((119 : Int) - x.held) % (64 : Int) + (1 : Int) ∧
 (1 : Int) + ((119 : Int) - x.held) % (64 : Int) + (1 : Int) ≤ (9223372036854775807 : Int)) ∧
 ((0 : Int) ≤ (1 : Int) + ((119 : Int) - x.held) % (64 : Int) + (1 : Int) ∧
 (1 : Int) + ((119 : Int) - x.held) % (64 : Int) + (1 : Int) < (↑((1 : Int) + ((119 : Int) - x.held) % (64 : Int) + (8 : Int)).toNat : Int)) ∧
 (0 : Nat) + ((1 : Int) + ((119 : Int) - x.held) % (64 : Int) + (1 : Int)).toNat < ((1 : Int) + ((119 : Int) - x.held) % (64 : Int) + (8 : Int)).toNat ∧
 ((-9223372036854775808 : Int) ≤ (1 : Int) + ((119 : Int) - x.held) % (64 : Int) ∧
 (1 : Int) + ((119 : Int) - x.held) % (64 : Int) ≤ (9223372036854775807 : Int)) ∧
 ((-9223372036854775808 : Int) ≤ (1 : Int) + ((119 : Int) - x.held) % (64 : Int) + (2 : Int) ∧
 (1 : Int) + ((119 : Int) - x.held) % (64 : Int) + (2 : Int) ≤ (9223372036854775807 : Int)) ∧
 ((0 : Int) ≤ (1 : Int) + ((119 : Int) - x.held) % (64 : Int) + (2 : Int) ∧
 (1 : Int) + ((119 : Int) - x.held) % (64 : Int) + (2 : Int) < (↑((1 : Int) + ((119 : Int) - x.held) % (64 : Int) + (8 : Int)).toNat : Int)) ∧
 (0 : Nat) + ((1 : Int) + ((119 : Int) - x.held) % (64 : Int) + (2 : Int)).toNat < ((1 : Int) + ((119 : Int) - x.held) % (64 : Int) + (8 : Int)).toNat ∧
 ((-9223372036854775808 : Int) ≤ (1 : Int) + ((119 : Int) - x.held) % (64 : Int) ∧
 (1 : Int) + ((119 : Int) - x.held) % (64 : Int) ≤ (9223372036854775807 : Int)) ∧
 ((-9223372036854775808 : Int) ≤ (1 : Int) + ((119 : Int) - x.held) % (64 : Int) + (3 : Int) ∧
 (1 : Int) + ((119 : Int) - x.held) % (64 : Int) + (3 : Int) ≤ (9223372036854775807 : Int)) ∧
 ((0 : Int) ≤ (1 : Int) + ((119 : Int) - x.held) % (64 : Int) + (3 : Int) ∧
 (1 : Int) + ((119 : Int) - x.held) % (64 : Int) + (3 : Int) < (↑((1 : Int) + ((119 : Int) - x.held) % (64 : Int) + (8 : Int)).toNat : Int)) ∧
 (0 : Nat) + ((1 : Int) + ((119 : Int) - x.held) % (64 : Int) + (3 : Int)).toNat < ((1 : Int) + ((119 : Int) - x.held) % (64 : Int) + (8 : Int)).toNat ∧
 ((-9223372036854775808 : Int) ≤ (1 : Int) + ((119 : Int) - x.held) % (64 : Int) ∧
 (1 : Int) + ((119 : Int) - x.held) % (64 : Int) ≤ (9223372036854775807 : Int)) ∧
 ((-9223372036854775808 : Int) ≤ (1 : Int) + ((119 : Int) - x.held) % (64 : Int) + (4 : Int) ∧
 (1 : Int) + ((119 : Int) - x.held) % (64 : Int) + (4 : Int) ≤ (9223372036854775807 : Int)) ∧
 ((0 : Int) ≤ (1 : Int) + ((119 : Int) - x.held) % (64 : Int) + (4 : Int) ∧
 (1 : Int) + ((119 : Int) - x.held) % (64 : Int) + (4 : Int) < (↑((1 : Int) + ((119 : Int) - x.held) % (64 : Int) + (8 : Int)).toNat : Int)) ∧
 (0 : Nat) + ((1 : Int) + ((119 : Int) - x.held) % (64 : Int) + (4 : Int)).toNat < ((1 : Int) + ((119 : Int) - x.held) % (64 : Int) + (8 : Int)).toNat ∧
 ((-9223372036854775808 : Int) ≤ (1 : Int) + ((119 : Int) - x.held) % (64 : Int) ∧
 (1 : Int) + ((119 : Int) - x.held) % (64 : Int) ≤ (9223372036854775807 : Int)) ∧
 ((-9223372036854775808 : Int) ≤ (1 : Int) + ((119 : Int) - x.held) % (64 : Int) + (5 : Int) ∧
 (1 : Int) + ((119 : Int) - x.held) % (64 : Int) + (5 : Int) ≤ (9223372036854775807 : Int)) ∧
 ((0 : Int) ≤ (1 : Int) + ((119 : Int) - x.held) % (64 : Int) + (5 : Int) ∧
 (1 : Int) + ((119 : Int) - x.held) % (64 : Int) + (5 : Int) < (↑((1 : Int) + ((119 : Int) - x.held) % (64 : Int) + (8 : Int)).toNat : Int)) ∧
 (0 : Nat) + ((1 : Int) + ((119 : Int) - x.held) % (64 : Int) + (5 : Int)).toNat < ((1 : Int) + ((119 : Int) - x.held) % (64 : Int) + (8 : Int)).toNat ∧
 ((-9223372036854775808 : Int) ≤ (1 : Int) + ((119 : Int) - x.held) % (64 : Int) ∧
 (1 : Int) + ((119 : Int) - x.held) % (64 : Int) ≤ (9223372036854775807 : Int)) ∧
 ((-9223372036854775808 : Int) ≤ (1 : Int) + ((119 : Int) - x.held) % (64 : Int) + (6 : Int) ∧
 (1 : Int) + ((119 : Int) - x.held) % (64 : Int) + (6 : Int) ≤ (9223372036854775807 : Int)) ∧
 ((0 : Int) ≤ (1 : Int) + ((119 : Int) - x.held) % (64 : Int) + (6 : Int) ∧
 (1 : Int) + ((119 : Int) - x.held) % (64 : Int) + (6 : Int) < (↑((1 : Int) + ((119 : Int) - x.held) % (64 : Int) + (8 : Int)).toNat : Int)) ∧
 (0 : Nat) + ((1 : Int) + ((119 : Int) - x.held) % (64 : Int) + (6 : Int)).toNat < ((1 : Int) + ((119 : Int) - x.held) % (64 : Int) + (8 : Int)).toNat ∧
 ((-9223372036854775808 : Int) ≤ (1 : Int) + ((119 : Int) - x.held) % (64 : Int) ∧
 (1 : Int) + ((119 : Int) - x.held) % (64 : Int) ≤ (9223372036854775807 : Int)) ∧
 ((-9223372036854775808 : Int) ≤ (1 : Int) + ((119 : Int) - x.held) % (64 : Int) + (7 : Int) ∧
 (1 : Int) + ((119 : Int) - x.held) % (64 : Int) + (7 : Int) ≤ (9223372036854775807 : Int)) ∧
 ((0 : Int) ≤ (1 : Int) + ((119 : Int) - x.held) % (64 : Int) + (7 : Int) ∧
 (1 : Int) + ((119 : Int) - x.held) % (64 : Int) + (7 : Int) < (↑((1 : Int) + ((119 : Int) - x.held) % (64 : Int) + (8 : Int)).toNat : Int)) ∧
 (0 : Nat) + ((1 : Int) + ((119 : Int) - x.held) % (64 : Int) + (7 : Int)).toNat < ((1 : Int) + ((119 : Int) - x.held) % (64 : Int) + (8 : Int)).toNat ∧
 (0 : Nat) + ((1 : Int) + ((119 : Int) - x.held) % (64 : Int) + (8 : Int)).toNat ≤ ((1 : Int) + ((119 : Int) - x.held) % (64 : Int) + (8 : Int)).toNat ∧
 ∃ (x_1 : Sh × List UInt8), SBle (SB.cells [SV.int .u32 false (x.W 0), SV.int .u32 false (x.W 1), SV.int .u32 false (x.W 2), SV.int .u32 false (x.W 3), SV.int .u32 false (x.W 4), SV.int .u32 false (x.W 5), SV.int .u32 false (x.W 6), SV.int .u32 false (x.W 7), SV.int .u8 false (x.B 0), SV.int .u8 false (x.B 1), SV.int .u8 false (x.B 2), SV.int .u8 false (x.B 3), SV.int .u8 false (x.B 4), SV.int .u8 false (x.B 5), SV.int .u8 false (x.B 6), SV.int .u8 false (x.B 7), SV.int .u8 false (x.B 8), SV.int .u8 false (x.B 9), SV.int .u8 false (x.B 10), SV.int .u8 false (x.B 11), SV.int .u8 false (x.B 12), SV.int .u8 false (x.B 13), SV.int .u8 false (x.B 14), SV.int .u8 false (x.B 15), SV.int .u8 false (x.B 16), SV.int .u8 false (x.B 17), SV.int .u8 false (x.B 18), SV.int .u8 false (x.B 19), SV.int .u8 false (x.B 20), SV.int .u8 false (x.B 21), SV.int .u8 false (x.B 22), SV.int .u8 false (x.B 23), SV.int .u8 false (x.B 24), SV.int .u8 false (x.B 25), SV.int .u8 false (x.B 26), SV.int .u8 false (x.B 27), SV.int .u8 false (x.B 28), SV.int .u8 false (x.B 29), SV.int .u8 false (x.B 30), SV.int .u8 false (x.B 31), SV.int .u8 false (x.B 32), SV.int .u8 false (x.B 33), SV.int .u8 false (x.B 34), SV.int .u8 false (x.B 35), SV.int .u8 false (x.B 36), SV.int .u8 false (x.B 37), SV.int .u8 false (x.B 38), SV.int .u8 false (x.B 39), SV.int .u8 false (x.B 40), SV.int .u8 false (x.B 41), SV.int .u8 false (x.B 42), SV.int .u8 false (x.B 43), SV.int .u8 false (x.B 44), SV.int .u8 false (x.B 45), SV.int .u8 false (x.B 46), SV.int .u8 false (x.B 47), SV.int .u8 false (x.B 48), SV.int .u8 false (x.B 49), SV.int .u8 false (x.B 50), SV.int .u8 false (x.B 51), SV.int .u8 false (x.B 52), SV.int .u8 false (x.B 53), SV.int .u8 false (x.B 54), SV.int .u8 false (x.B 55), SV.int .u8 false (x.B 56), SV.int .u8 false (x.B 57), SV.int .u8 false (x.B 58), SV.int .u8 false (x.B 59), SV.int .u8 false (x.B 60), SV.int .u8 false (x.B 61), SV.int .u8 false (x.B 62), SV.int .u8 false (x.B 63), SV.int .i64 false x.held, SV.int .u64 false x.size] 74 76) (SB.cells [SV.int .u32 false (x_1.fst.W 0), SV.int .u32 false (x_1.fst.W 1), SV.int .u32 false (x_1.fst.W 2), SV.int .u32 false (x_1.fst.W 3), SV.int .u32 false (x_1.fst.W 4), SV.int .u32 false (x_1.fst.W 5), SV.int .u32 false (x_1.fst.W 6), SV.int .u32 false (x_1.fst.W 7), SV.int .u8 false (x_1.fst.B 0), SV.int .u8 false (x_1.fst.B 1), SV.int .u8 false (x_1.fst.B 2), SV.int .u8 false (x_1.fst.B 3), SV.int .u8 false (x_1.fst.B 4), SV.int .u8 false (x_1.fst.B 5), SV.int .u8 false (x_1.fst.B 6), SV.int .u8 false (x_1.fst.B 7), SV.int .u8 false (x_1.fst.B 8), SV.int .u8 false (x_1.fst.B 9), SV.int .u8 false (x_1.fst.B 10), SV.int .u8 false (x_1.fst.B 11), SV.int .u8 false (x_1.fst.B 12), SV.int .u8 false (x_1.fst.B 13), SV.int .u8 false (x_1.fst.B 14), SV.int .u8 false (x_1.fst.B 15), SV.int .u8 false (x_1.fst.B 16), SV.int .u8 false (x_1.fst.B 17), SV.int .u8 false (x_1.fst.B 18), SV.int .u8 false (x_1.fst.B 19), SV.int .u8 false (x_1.fst.B 20), SV.int .u8 false (x_1.fst.B 21), SV.int .u8 false (x_1.fst.B 22), SV.int .u8 false (x_1.fst.B 23), SV.int .u8 false (x_1.fst.B 24), SV.int .u8 false (x_1.fst.B 25), SV.int .u8 false (x_1.fst.B 26), SV.int .u8 false (x_1.fst.B 27), SV.int .u8 false (x_1.fst.B 28), SV.int .u8 false (x_1.fst.B 29), SV.int .u8 false (x_1.fst.B 30), SV.int .u8 false (x_1.fst.B 31), SV.int .u8 false (x_1.fst.B 32), SV.int .u8 false (x_1.fst.B 33), SV.int .u8 false (x_1.fst.B 34), SV.int .u8 false (x_1.fst.B 35), SV.int .u8 false (x_1.fst.B 36), SV.int .u8 false (x_1.fst.B 37), SV.int .u8 false (x_1.fst.B 38), SV.int .u8 false (x_1.fst.B 39), SV.int .u8 false (x_1.fst.B 40), SV.int .u8 false (x_1.fst.B 41), SV.int .u8 false (x_1.fst.B 42), SV.int .u8 false (x_1.fst.B 43), SV.int .u8 false (x_1.fst.B 44), SV.int .u8 false (x_1.fst.B 45), SV.int .u8 false (x_1.fst.B 46), SV.int .u8 false (x_1.fst.B 47), SV.int .u8 false (x_1.fst.B 48), SV.int .u8 false (x_1.fst.B 49), SV.int .u8 false (x_1.fst.B 50), SV.int .u8 false (x_1.fst.B 51), SV.int .u8 false (x_1.fst.B 52), SV.int .u8 false (x_1.fst.B 53), SV.int .u8 false (x_1.fst.B 54), SV.int .u8 false (x_1.fst.B 55), SV.int .u8 false (x_1.fst.B 56), SV.int .u8 false (x_1.fst.B 57), SV.int .u8 false (x_1.fst.B 58), SV.int .u8 false (x_1.fst.B 59), SV.int .u8 false (x_1.fst.B 60), SV.int .u8 false (x_1.fst.B 61), SV.int .u8 false (x_1.fst.B 62), SV.int .u8 false (x_1.fst.B 63), SV.int .i64 false x_1.fst.held, SV.int .u64 false x_1.fst.size] 74 76) ∧
 (IsS x_1.fst x_1.snd ∧
 (bytesFrom (fun (j : Nat) => if j = (0 : Nat) + ((1 : Int) + ((119 : Int) - x.held) % (64 : Int) + (7 : Int)).toNat then x.size * (8 : Int) % (18446744073709551616 : Int) / (1 : Int) % (256 : Int) else if j = (0 : Nat) + ((1 : Int) + ((119 : Int) - x.held) % (64 : Int) + (6 : Int)).toNat then x.size * (8 : Int) % (18446744073709551616 : Int) / (256 : Int) % (256 : Int) else if j = (0 : Nat) + ((1 : Int) + ((119 : Int) - x.held) % (64 : Int) + (5 : Int)).toNat then x.size * (8 : Int) % (18446744073709551616 : Int) / (65536 : Int) % (256 : Int) else if j = (0 : Nat) + ((1 : Int) + ((119 : Int) - x.held) % (64 : Int) + (4 : Int)).toNat then x.size * (8 : Int) % (18446744073709551616 : Int) / (16777216 : Int) % (256 : Int) else if j = (0 : Nat) + ((1 : Int) + ((119 : Int) - x.held) % (64 : Int) + (3 : Int)).toNat then x.size * (8 : Int) % (18446744073709551616 : Int) / (4294967296 : Int) % (256 : Int) else if j = (0 : Nat) + ((1 : Int) + ((119 : Int) - x.held) % (64 : Int) + (2 : Int)).toNat then x.size * (8 : Int) % (18446744073709551616 : Int) / (1099511627776 : Int) % (256 : Int) else if j = (0 : Nat) + ((1 : Int) + ((119 : Int) - x.held) % (64 : Int) + (1 : Int)).toNat then x.size * (8 : Int) % (18446744073709551616 : Int) / (281474976710656 : Int) % (256 : Int) else if j = (0 : Nat) + ((1 : Int) + ((119 : Int) - x.held) % (64 : Int) + (0 : Int)).toNat then x.size * (8 : Int) % (18446744073709551616 : Int) / (72057594037927936 : Int) % (256 : Int) else if j = (0 : Nat) then 128 else 0) 0 ((1 : Int) + ((119 : Int) - x.held) % (64 : Int) + (8 : Int)).toNat).length < (1152921504606846976 : Nat)) ∧
 ∀ (y : Sh), IsS y (x_1.snd ++ bytesFrom (fun (j : Nat) => if j = (0 : Nat) + ((1 : Int) + ((119 : Int) - x.held) % (64 : Int) + (7 : Int)).toNat then x.size * (8 : Int) % (18446744073709551616 : Int) / (1 : Int) % (256 : Int) else if j = (0 : Nat) + ((1 : Int) + ((119 : Int) - x.held) % (64 : Int) + (6 : Int)).toNat then x.size * (8 : Int) % (18446744073709551616 : Int) / (256 : Int) % (256 : Int) else if j = (0 : Nat) + ((1 : Int) + ((119 : Int) - x.held) % (64 : Int) + (5 : Int)).toNat then x.size * (8 : Int) % (18446744073709551616 : Int) / (65536 : Int) % (256 : Int) else if j = (0 : Nat) + ((1 : Int) + ((119 : Int) - x.held) % (64 : Int) + (4 : Int)).toNat then x.size * (8 : Int) % (18446744073709551616 : Int) / (16777216 : Int) % (256 : Int) else if j = (0 : Nat) + ((1 : Int) + ((119 : Int) - x.held) % (64 : Int) + (3 : Int)).toNat then x.size * (8 : Int) % (18446744073709551616 : Int) / (4294967296 : Int) % (256 : Int) else if j = (0 : Nat) + ((1 : Int) + ((119 : Int) - x.held) % (64 : Int) + (2 : Int)).toNat then x.size * (8 : Int) % (18446744073709551616 : Int) / (1099511627776 : Int) % (256 : Int) else if j = (0 : Nat) + ((1 : Int) + ((119 : Int) - x.held) % (64 : Int) + (1 : Int)).toNat then x.size * (8 : Int) % (18446744073709551616 : Int) / (281474976710656 : Int) % (256 : Int) else if j = (0 : Nat) + ((1 : Int) + ((119 : Int) - x.held) % (64 : Int) + (0 : Int)).toNat then x.size * (8 : Int) % (18446744073709551616 : Int) / (72057594037927936 : Int) % (256 : Int) else if j = (0 : Nat) then 128 else 0) 0 ((1 : Int) + ((119 : Int) - x.held) % (64 : Int) + (8 : Int)).toNat) →
 ∃ (_y_1 : Unit), True ∧
 SBle (shSB (x, T)) (shSB (x, T)) ∧
 sameVal (SV.str (false && (false && (false && (false && (false && (false && (false && (false && (false && (false && (false && (false && (false && (false && (false && (false && (false && (false && (false && (false && (false && (false && (false && (false && (false && (false && (false && (false && (false && (false && (false && (false && true)))))))))))))))))))))))))))))))) [UInt8.ofNat (y.W (0 : Nat) / (16777216 : Int) % (256 : Int)).toNat, UInt8.ofNat (y.W (0 : Nat) / (65536 : Int) % (256 : Int)).toNat, UInt8.ofNat (y.W (0 : Nat) / (256 : Int) % (256 : Int)).toNat, UInt8.ofNat (y.W (0 : Nat) % (256 : Int)).toNat, UInt8.ofNat (y.W (1 : Nat) / (16777216 : Int) % (256 : Int)).toNat, UInt8.ofNat (y.W (1 : Nat) / (65536 : Int) % (256 : Int)).toNat, UInt8.ofNat (y.W (1 : Nat) / (256 : Int) % (256 : Int)).toNat, UInt8.ofNat (y.W (1 : Nat) % (256 : Int)).toNat, UInt8.ofNat (y.W (2 : Nat) / (16777216 : Int) % (256 : Int)).toNat, UInt8.ofNat (y.W (2 : Nat) / (65536 : Int) % (256 : Int)).toNat, UInt8.ofNat (y.W (2 : Nat) / (256 : Int) % (256 : Int)).toNat, UInt8.ofNat (y.W (2 : Nat) % (256 : Int)).toNat, UInt8.ofNat (y.W (3 : Nat) / (16777216 : Int) % (256 : Int)).toNat, UInt8.ofNat (y.W (3 : Nat) / (65536 : Int) % (256 : Int)).toNat, UInt8.ofNat (y.W (3 : Nat) / (256 : Int) % (256 : Int)).toNat, UInt8.ofNat (y.W (3 : Nat) % (256 : Int)).toNat, UInt8.ofNat (y.W (4 : Nat) / (16777216 : Int) % (256 : Int)).toNat, UInt8.ofNat (y.W (4 : Nat) / (65536 : Int) % (256 : Int)).toNat, UInt8.ofNat (y.W (4 : Nat) / (256 : Int) % (256 : Int)).toNat, UInt8.ofNat (y.W (4 : Nat) % (256 : Int)).toNat, UInt8.ofNat (y.W (5 : Nat) / (16777216 : Int) % (256 : Int)).toNat, UInt8.ofNat (y.W (5 : Nat) / (65536 : Int) % (256 : Int)).toNat, UInt8.ofNat (y.W (5 : Nat) / (256 : Int) % (256 : Int)).toNat, UInt8.ofNat (y.W (5 : Nat) % (256 : Int)).toNat, UInt8.ofNat (y.W (6 : Nat) / (16777216 : Int) % (256 : Int)).toNat, UInt8.ofNat (y.W (6 : Nat) / (65536 : Int) % (256 : Int)).toNat, UInt8.ofNat (y.W (6 : Nat) / (256 : Int) % (256 : Int)).toNat, UInt8.ofNat (y.W (6 : Nat) % (256 : Int)).toNat, UInt8.ofNat (y.W (7 : Nat) / (16777216 : Int) % (256 : Int)).toNat, UInt8.ofNat (y.W (7 : Nat) / (65536 : Int) % (256 : Int)).toNat, UInt8.ofNat (y.W (7 : Nat) / (256 : Int) % (256 : Int)).toNat, UInt8.ofNat (y.W (7 : Nat) % (256 : Int)).toNat]) (SV.str false (shaL T))) := by kernel_rfl
theorem vcOf (n : Nat) (f : Nat → List UInt8) (z : Bool) (o c : Nat) (key : Option Nat) : VC.holds (runS (cfgOf n f) 17 Tryd.f17 [.vslc 0 1 z o 0 n c] [⟨key, z, o, n, c, [.str f]⟩] (.ret (.str false (shaL (flat (rowL f 0 n)))))) = ((∃ (y : Nat × Sh), (y.fst ≤ n ∧
 IsS y.snd (flat (rowL f 0 y.fst))) ∧
 (0 : Int) = (↑y.fst : Int) ∧
 SBle (SB.cells [SV.int .u32 true 1779033703, SV.int .u32 true 3144134277, SV.int .u32 true 1013904242, SV.int .u32 true 2773480762, SV.int .u32 true 1359893119, SV.int .u32 true 2600822924, SV.int .u32 true 528734635, SV.int .u32 true 1541459225, SV.int .u8 true 0, SV.int .u8 true 0, SV.int .u8 true 0, SV.int .u8 true 0, SV.int .u8 true 0, SV.int .u8 true 0, SV.int .u8 true 0, SV.int .u8 true 0, SV.int .u8 true 0, SV.int .u8 true 0, SV.int .u8 true 0, SV.int .u8 true 0, SV.int .u8 true 0, SV.int .u8 true 0, SV.int .u8 true 0, SV.int .u8 true 0, SV.int .u8 true 0, SV.int .u8 true 0, SV.int .u8 true 0, SV.int .u8 true 0, SV.int .u8 true 0, SV.int .u8 true 0, SV.int .u8 true 0, SV.int .u8 true 0, SV.int .u8 true 0, SV.int .u8 true 0, SV.int .u8 true 0, SV.int .u8 true 0, SV.int .u8 true 0, SV.int .u8 true 0, SV.int .u8 true 0, SV.int .u8 true 0, SV.int .u8 true 0, SV.int .u8 true 0, SV.int .u8 true 0, SV.int .u8 true 0, SV.int .u8 true 0, SV.int .u8 true 0, SV.int .u8 true 0, SV.int .u8 true 0, SV.int .u8 true 0, SV.int .u8 true 0, SV.int .u8 true 0, SV.int .u8 true 0, SV.int .u8 true 0, SV.int .u8 true 0, SV.int .u8 true 0, SV.int .u8 true 0, SV.int .u8 true 0, SV.int .u8 true 0, SV.int .u8 true 0, SV.int .u8 true 0, SV.int .u8 true 0, SV.int .u8 true 0, SV.int .u8 true 0, SV.int .u8 true 0, SV.int .u8 true 0, SV.int .u8 true 0, SV.int .u8 true 0, SV.int .u8 true 0, SV.int .u8 true 0, SV.int .u8 true 0, SV.int .u8 true 0, SV.int .u8 true 0, SV.int .i64 true 0, SV.int .u64 true 0] 74 76) (SB.cells [SV.int .u32 false (y.snd.W 0), SV.int .u32 false (y.snd.W 1), SV.int .u32 false (y.snd.W 2), SV.int .u32 false (y.snd.W 3), SV.int .u32 false (y.snd.W 4), SV.int .u32 false (y.snd.W 5), SV.int .u32 false (y.snd.W 6), SV.int .u32 false (y.snd.W 7), SV.int .u8 false (y.snd.B 0), SV.int .u8 false (y.snd.B 1), SV.int .u8 false (y.snd.B 2), SV.int .u8 false (y.snd.B 3), SV.int .u8 false (y.snd.B 4), SV.int .u8 false (y.snd.B 5), SV.int .u8 false (y.snd.B 6), SV.int .u8 false (y.snd.B 7), SV.int .u8 false (y.snd.B 8), SV.int .u8 false (y.snd.B 9), SV.int .u8 false (y.snd.B 10), SV.int .u8 false (y.snd.B 11), SV.int .u8 false (y.snd.B 12), SV.int .u8 false (y.snd.B 13), SV.int .u8 false (y.snd.B 14), SV.int .u8 false (y.snd.B 15), SV.int .u8 false (y.snd.B 16), SV.int .u8 false (y.snd.B 17), SV.int .u8 false (y.snd.B 18), SV.int .u8 false (y.snd.B 19), SV.int .u8 false (y.snd.B 20), SV.int .u8 false (y.snd.B 21), SV.int .u8 false (y.snd.B 22), SV.int .u8 false (y.snd.B 23), SV.int .u8 false (y.snd.B 24), SV.int .u8 false (y.snd.B 25), SV.int .u8 false (y.snd.B 26), SV.int .u8 false (y.snd.B 27), SV.int .u8 false (y.snd.B 28), SV.int .u8 false (y.snd.B 29), SV.int .u8 false (y.snd.B 30), SV.int .u8 false (y.snd.B 31), SV.int .u8 false (y.snd.B 32), SV.int .u8 false (y.snd.B 33), SV.int .u8 false (y.snd.B 34), SV.int .u8 false (y.snd.B 35), SV.int .u8 false (y.snd.B 36), SV.int .u8 false (y.snd.B 37), SV.int .u8 false (y.snd.B 38), SV.int .u8 false (y.snd.B 39), SV.int .u8 false (y.snd.B 40), SV.int .u8 false (y.snd.B 41), SV.int .u8 false (y.snd.B 42), SV.int .u8 false (y.snd.B 43), SV.int .u8 false (y.snd.B 44), SV.int .u8 false (y.snd.B 45), SV.int .u8 false (y.snd.B 46), SV.int .u8 false (y.snd.B 47), SV.int .u8 false (y.snd.B 48), SV.int .u8 false (y.snd.B 49), SV.int .u8 false (y.snd.B 50), SV.int .u8 false (y.snd.B 51), SV.int .u8 false (y.snd.B 52), SV.int .u8 false (y.snd.B 53), SV.int .u8 false (y.snd.B 54), SV.int .u8 false (y.snd.B 55), SV.int .u8 false (y.snd.B 56), SV.int .u8 false (y.snd.B 57), SV.int .u8 false (y.snd.B 58), SV.int .u8 false (y.snd.B 59), SV.int .u8 false (y.snd.B 60), SV.int .u8 false (y.snd.B 61), SV.int .u8 false (y.snd.B 62), SV.int .u8 false (y.snd.B 63), SV.int .i64 false y.snd.held, SV.int .u64 false y.snd.size] 74 76) ∧
 SBle { key := key, z := z, o := o, n := n, c := c, cols := [Col.str f] : Seen }.B { key := key, z := z, o := o, n := n, c := c, cols := [Col.str f] : Seen }.B ∧
 True) ∧
 ∀ (x : Nat × Sh), x.fst ≤ n ∧
 IsS x.snd (flat (rowL f 0 x.fst)) →
 (decide ((↑x.fst : Int) < (↑n : Int)) = true →
 ((0 : Int) ≤ (↑x.fst : Int) ∧
 (↑x.fst : Int) < (↑n : Int)) ∧
 (o = o ∧
 (0 : Nat) + (↑x.fst : Int).toNat < n) ∧
 ∃ (x_3 : Sh × List UInt8), SBle (SB.cells [SV.int .u32 false (x.snd.W 0), SV.int .u32 false (x.snd.W 1), SV.int .u32 false (x.snd.W 2), SV.int .u32 false (x.snd.W 3), SV.int .u32 false (x.snd.W 4), SV.int .u32 false (x.snd.W 5), SV.int .u32 false (x.snd.W 6), SV.int .u32 false (x.snd.W 7), SV.int .u8 false (x.snd.B 0), SV.int .u8 false (x.snd.B 1), SV.int .u8 false (x.snd.B 2), SV.int .u8 false (x.snd.B 3), SV.int .u8 false (x.snd.B 4), SV.int .u8 false (x.snd.B 5), SV.int .u8 false (x.snd.B 6), SV.int .u8 false (x.snd.B 7), SV.int .u8 false (x.snd.B 8), SV.int .u8 false (x.snd.B 9), SV.int .u8 false (x.snd.B 10), SV.int .u8 false (x.snd.B 11), SV.int .u8 false (x.snd.B 12), SV.int .u8 false (x.snd.B 13), SV.int .u8 false (x.snd.B 14), SV.int .u8 false (x.snd.B 15), SV.int .u8 false (x.snd.B 16), SV.int .u8 false (x.snd.B 17), SV.int .u8 false (x.snd.B 18), SV.int .u8 false (x.snd.B 19), SV.int .u8 false (x.snd.B 20), SV.int .u8 false (x.snd.B 21), SV.int .u8 false (x.snd.B 22), SV.int .u8 false (x.snd.B 23), SV.int .u8 false (x.snd.B 24), SV.int .u8 false (x.snd.B 25), SV.int .u8 false (x.snd.B 26), SV.int .u8 false (x.snd.B 27), SV.int .u8 false (x.snd.B 28), SV.int .u8 false (x.snd.B 29), SV.int .u8 false (x.snd.B 30), SV.int .u8 false (x.snd.B 31), SV.int .u8 false (x.snd.B 32), SV.int .u8 false (x.snd.B 33), SV.int .u8 false (x.snd.B 34), SV.int .u8 false (x.snd.B 35), SV.int .u8 false (x.snd.B 36), SV.int .u8 false (x.snd.B 37), SV.int .u8 false (x.snd.B 38), SV.int .u8 false (x.snd.B 39), SV.int .u8 false (x.snd.B 40), SV.int .u8 false (x.snd.B 41), SV.int .u8 false (x.snd.B 42), SV.int .u8 false (x.snd.B 43), SV.int .u8 false (x.snd.B 44), SV.int .u8 false (x.snd.B 45), SV.int .u8 false (x.snd.B 46), SV.int .u8 false (x.snd.B 47), SV.int .u8 false (x.snd.B 48), SV.int .u8 false (x.snd.B 49), SV.int .u8 false (x.snd.B 50), SV.int .u8 false (x.snd.B 51), SV.int .u8 false (x.snd.B 52), SV.int .u8 false (x.snd.B 53), SV.int .u8 false (x.snd.B 54), SV.int .u8 false (x.snd.B 55), SV.int .u8 false (x.snd.B 56), SV.int .u8 false (x.snd.B 57), SV.int .u8 false (x.snd.B 58), SV.int .u8 false (x.snd.B 59), SV.int .u8 false (x.snd.B 60), SV.int .u8 false (x.snd.B 61), SV.int .u8 false (x.snd.B 62), SV.int .u8 false (x.snd.B 63), SV.int .i64 false x.snd.held, SV.int .u64 false x.snd.size] 74 76) (SB.cells [SV.int .u32 false (x_3.fst.W 0), SV.int .u32 false (x_3.fst.W 1), SV.int .u32 false (x_3.fst.W 2), SV.int .u32 false (x_3.fst.W 3), SV.int .u32 false (x_3.fst.W 4), SV.int .u32 false (x_3.fst.W 5), SV.int .u32 false (x_3.fst.W 6), SV.int .u32 false (x_3.fst.W 7), SV.int .u8 false (x_3.fst.B 0), SV.int .u8 false (x_3.fst.B 1), SV.int .u8 false (x_3.fst.B 2), SV.int .u8 false (x_3.fst.B 3), SV.int .u8 false (x_3.fst.B 4), SV.int .u8 false (x_3.fst.B 5), SV.int .u8 false (x_3.fst.B 6), SV.int .u8 false (x_3.fst.B 7), SV.int .u8 false (x_3.fst.B 8), SV.int .u8 false (x_3.fst.B 9), SV.int .u8 false (x_3.fst.B 10), SV.int .u8 false (x_3.fst.B 11), SV.int .u8 false (x_3.fst.B 12), SV.int .u8 false (x_3.fst.B 13), SV.int .u8 false (x_3.fst.B 14), SV.int .u8 false (x_3.fst.B 15), SV.int .u8 false (x_3.fst.B 16), SV.int .u8 false (x_3.fst.B 17), SV.int .u8 false (x_3.fst.B 18), SV.int .u8 false (x_3.fst.B 19), SV.int .u8 false (x_3.fst.B 20), SV.int .u8 false (x_3.fst.B 21), SV.int .u8 false (x_3.fst.B 22), SV.int .u8 false (x_3.fst.B 23), SV.int .u8 false (x_3.fst.B 24), SV.int .u8 false (x_3.fst.B 25), SV.int .u8 false (x_3.fst.B 26), SV.int .u8 false (x_3.fst.B 27), SV.int .u8 false (x_3.fst.B 28), SV.int .u8 false (x_3.fst.B 29), SV.int .u8 false (x_3.fst.B 30), SV.int .u8 false (x_3.fst.B 31), SV.int .u8 false (x_3.fst.B 32), SV.int .u8 false (x_3.fst.B 33), SV.int .u8 false (x_3.fst.B 34), SV.int .u8 false (x_3.fst.B 35), SV.int .u8 false (x_3.fst.B 36), SV.int .u8 false (x_3.fst.B 37), SV.int .u8 false (x_3.fst.B 38), SV.int .u8 false (x_3.fst.B 39), SV.int .u8 false (x_3.fst.B 40), SV.int .u8 false (x_3.fst.B 41), SV.int .u8 false (x_3.fst.B 42), SV.int .u8 false (x_3.fst.B 43), SV.int .u8 false (x_3.fst.B 44), SV.int .u8 false (x_3.fst.B 45), SV.int .u8 false (x_3.fst.B 46), SV.int .u8 false (x_3.fst.B 47), SV.int .u8 false (x_3.fst.B 48), SV.int .u8 false (x_3.fst.B 49), SV.int .u8 false (x_3.fst.B 50), SV.int .u8 false (x_3.fst.B 51), SV.int .u8 false (x_3.fst.B 52), SV.int .u8 false (x_3.fst.B 53), SV.int .u8 false (x_3.fst.B 54), SV.int .u8 false (x_3.fst.B 55), SV.int .u8 false (x_3.fst.B 56), SV.int .u8 false (x_3.fst.B 57), SV.int .u8 false (x_3.fst.B 58), SV.int .u8 false (x_3.fst.B 59), SV.int .u8 false (x_3.fst.B 60), SV.int .u8 false (x_3.fst.B 61), SV.int .u8 false (x_3.fst.B 62), SV.int .u8 false (x_3.fst.B 63), SV.int .i64 false x_3.fst.held, SV.int .u64 false x_3.fst.size] 74 76) ∧
 (IsS x_3.fst x_3.snd ∧
 (f ((0 : Nat) + (↑x.fst : Int).toNat)).length < (1152921504606846976 : Nat)) ∧
 ∀ (y : Sh), IsS y (x_3.snd ++ f ((0 : Nat) + (↑x.fst : Int).toNat)) →
 ((-9223372036854775808 : Int) ≤ (↑x.fst : Int) + (1 : Int) ∧
 (↑x.fst : Int) + (1 : Int) ≤ (9223372036854775807 : Int)) ∧
 ∃ (y_1 : Nat × Sh), ((y_1.fst ≤ n ∧
 IsS y_1.snd (flat (rowL f 0 y_1.fst))) ∧
 n - y_1.fst < n - x.fst) ∧
 (↑x.fst : Int) + (1 : Int) = (↑y_1.fst : Int) ∧
 SBle (SB.cells [SV.int .u32 false (y.W 0), SV.int .u32 false (y.W 1), SV.int .u32 false (y.W 2), SV.int .u32 false (y.W 3), SV.int .u32 false (y.W 4), SV.int .u32 false (y.W 5), SV.int .u32 false (y.W 6), SV.int .u32 false (y.W 7), SV.int .u8 false (y.B 0), SV.int .u8 false (y.B 1), SV.int .u8 false (y.B 2), SV.int .u8 false (y.B 3), SV.int .u8 false (y.B 4), SV.int .u8 false (y.B 5), SV.int .u8 false (y.B 6), SV.int .u8 false (y.B 7), SV.int .u8 false (y.B 8), SV.int .u8 false (y.B 9), SV.int .u8 false (y.B 10), SV.int .u8 false (y.B 11), SV.int .u8 false (y.B 12), SV.int .u8 false (y.B 13), SV.int .u8 false (y.B 14), SV.int .u8 false (y.B 15), SV.int .u8 false (y.B 16), SV.int .u8 false (y.B 17), SV.int .u8 false (y.B 18), SV.int .u8 false (y.B 19), SV.int .u8 false (y.B 20), SV.int .u8 false (y.B 21), SV.int .u8 false (y.B 22), SV.int .u8 false (y.B 23), SV.int .u8 false (y.B 24), SV.int .u8 false (y.B 25), SV.int .u8 false (y.B 26), SV.int .u8 false (y.B 27), SV.int .u8 false (y.B 28), SV.int .u8 false (y.B 29), SV.int .u8 false (y.B 30), SV.int .u8 false (y.B 31), SV.int .u8 false (y.B 32), SV.int .u8 false (y.B 33), SV.int .u8 false (y.B 34), SV.int .u8 false (y.B 35), SV.int .u8 false (y.B 36), SV.int .u8 false (y.B 37), SV.int .u8 false (y.B 38), SV.int .u8 false (y.B 39), SV.int .u8 false (y.B 40), SV.int .u8 false (y.B 41), SV.int .u8 false (y.B 42), SV.int .u8 false (y.B 43), SV.int .u8 false (y.B 44), SV.int .u8 false (y.B 45), SV.int .u8 false (y.B 46), SV.int .u8 false (y.B 47), SV.int .u8 false (y.B 48), SV.int .u8 false (y.B 49), SV.int .u8 false (y.B 50), SV.int .u8 false (y.B 51), SV.int .u8 false (y.B 52), SV.int .u8 false (y.B 53), SV.int .u8 false (y.B 54), SV.int .u8 false (y.B 55), SV.int .u8 false (y.B 56), SV.int .u8 false (y.B 57), SV.int .u8 false (y.B 58), SV.int .u8 false (y.B 59), SV.int .u8 false (y.B 60), SV.int .u8 false (y.B 61), SV.int .u8 false (y.B 62), SV.int .u8 false (y.B 63), SV.int .i64 false y.held, SV.int .u64 false y.size] 74 76) (SB.cells [SV.int .u32 false (y_1.snd.W 0), SV.int .u32 false (y_1.snd.W 1), SV.int .u32 false (y_1.snd.W 2), SV.int .u32 false (y_1.snd.W 3), SV.int .u32 false (y_1.snd.W 4), SV.int .u32 false (y_1.snd.W 5), SV.int .u32 false (y_1.snd.W 6), SV.int .u32 false (y_1.snd.W 7), SV.int .u8 false (y_1.snd.B 0), SV.int .u8 false (y_1.snd.B 1), SV.int .u8 false (y_1.snd.B 2), SV.int .u8 false (y_1.snd.B 3), SV.int .u8 false (y_1.snd.B 4), SV.int .u8 false (y_1.snd.B 5), SV.int .u8 false (y_1.snd.B 6), SV.int .u8 false (y_1.snd.B 7), SV.int .u8 false (y_1.snd.B 8), SV.int .u8 false (y_1.snd.B 9), SV.int .u8 false (y_1.snd.B 10), SV.int .u8 false (y_1.snd.B 11), SV.int .u8 false (y_1.snd.B 12), SV.int .u8 false (y_1.snd.B 13), SV.int .u8 false (y_1.snd.B 14), SV.int .u8 false (y_1.snd.B 15), SV.int .u8 false (y_1.snd.B 16), SV.int .u8 false (y_1.snd.B 17), SV.int .u8 false (y_1.snd.B 18), SV.int .u8 false (y_1.snd.B 19), SV.int .u8 false (y_1.snd.B 20), SV.int .u8 false (y_1.snd.B 21), SV.int .u8 false (y_1.snd.B 22), SV.int .u8 false (y_1.snd.B 23), SV.int .u8 false (y_1.snd.B 24), SV.int .u8 false (y_1.snd.B 25), SV.int .u8 false (y_1.snd.B 26), SV.int .u8 false (y_1.snd.B 27), SV.int .u8 false (y_1.snd.B 28), SV.int .u8 false (y_1.snd.B 29), SV.int .u8 false (y_1.snd.B 30), SV.int .u8 false (y_1.snd.B 31), SV.int .u8 false (y_1.snd.B 32), SV.int .u8 false (y_1.snd.B 33), SV.int .u8 false (y_1.snd.B 34), SV.int .u8 false (y_1.snd.B 35), SV.int .u8 false (y_1.snd.B 36), SV.int .u8 false (y_1.snd.B 37), SV.int .u8 false (y_1.snd.B 38), SV.int .u8 false (y_1.snd.B 39), SV.int .u8 false (y_1.snd.B 40), SV.int .u8 false (y_1.snd.B 41), SV.int .u8 false (y_1.snd.B 42), SV.int .u8 false (y_1.snd.B 43), SV.int .u8 false (y_1.snd.B 44), SV.int .u8 false (y_1.snd.B 45), SV.int .u8 false (y_1.snd.B 46), SV.int .u8 false (y_1.snd.B 47), SV.int .u8 false (y_1.snd.B 48), SV.int .u8 false (y_1.snd.B 49), SV.int .u8 false (y_1.snd.B 50), SV.int .u8 false (y_1.snd.B 51), SV.int .u8 false (y_1.snd.B 52), SV.int .u8 false (y_1.snd.B 53), SV.int .u8 false (y_1.snd.B 54), SV.int .u8 false (y_1.snd.B 55), SV.int .u8 false (y_1.snd.B 56), SV.int .u8 false (y_1.snd.B 57), SV.int .u8 false (y_1.snd.B 58), SV.int .u8 false (y_1.snd.B 59), SV.int .u8 false (y_1.snd.B 60), SV.int .u8 false (y_1.snd.B 61), SV.int .u8 false (y_1.snd.B 62), SV.int .u8 false (y_1.snd.B 63), SV.int .i64 false y_1.snd.held, SV.int .u64 false y_1.snd.size] 74 76) ∧
 SBle { key := key, z := z, o := o, n := n, c := c, cols := [Col.str f] : Seen }.B { key := key, z := z, o := o, n := n, c := c, cols := [Col.str f] : Seen }.B ∧
 True) ∧
 (decide ((↑x.fst : Int) < (↑n : Int)) = false →
 ∃ (x_3 : Sh × List UInt8), SBle (SB.cells [SV.int .u32 false (x.snd.W 0), SV.int .u32 false (x.snd.W 1), SV.int .u32 false (x.snd.W 2), SV.int .u32 false (x.snd.W 3), SV.int .u32 false (x.snd.W 4), SV.int .u32 false (x.snd.W 5), SV.int .u32 false (x.snd.W 6), SV.int .u32 false (x.snd.W 7), SV.int .u8 false (x.snd.B 0), SV.int .u8 false (x.snd.B 1), SV.int .u8 false (x.snd.B 2), SV.int .u8 false (x.snd.B 3), SV.int .u8 false (x.snd.B 4), SV.int .u8 false (x.snd.B 5), SV.int .u8 false (x.snd.B 6), SV.int .u8 false (x.snd.B 7), SV.int .u8 false (x.snd.B 8), SV.int .u8 false (x.snd.B 9), SV.int .u8 false (x.snd.B 10), SV.int .u8 false (x.snd.B 11), SV.int .u8 false (x.snd.B 12), SV.int .u8 false (x.snd.B 13), SV.int .u8 false (x.snd.B 14), SV.int .u8 false (x.snd.B 15), SV.int .u8 false (x.snd.B 16), SV.int .u8 false (x.snd.B 17), SV.int .u8 false (x.snd.B 18), SV.int .u8 false (x.snd.B 19), SV.int .u8 false (x.snd.B 20), SV.int .u8 false (x.snd.B 21), SV.int .u8 false (x.snd.B 22), SV.int .u8 false (x.snd.B 23), SV.int .u8 false (x.snd.B 24), SV.int .u8 false (x.snd.B 25), SV.int .u8 false (x.snd.B 26), SV.int .u8 false (x.snd.B 27), SV.int .u8 false (x.snd.B 28), SV.int .u8 false (x.snd.B 29), SV.int .u8 false (x.snd.B 30), SV.int .u8 false (x.snd.B 31), SV.int .u8 false (x.snd.B 32), SV.int .u8 false (x.snd.B 33), SV.int .u8 false (x.snd.B 34), SV.int .u8 false (x.snd.B 35), SV.int .u8 false (x.snd.B 36), SV.int .u8 false (x.snd.B 37), SV.int .u8 false (x.snd.B 38), SV.int .u8 false (x.snd.B 39), SV.int .u8 false (x.snd.B 40), SV.int .u8 false (x.snd.B 41), SV.int .u8 false (x.snd.B 42), SV.int .u8 false (x.snd.B 43), SV.int .u8 false (x.snd.B 44), SV.int .u8 false (x.snd.B 45), SV.int .u8 false (x.snd.B 46), SV.int .u8 false (x.snd.B 47), SV.int .u8 false (x.snd.B 48), SV.int .u8 false (x.snd.B 49), SV.int .u8 false (x.snd.B 50), SV.int .u8 false (x.snd.B 51), SV.int .u8 false (x.snd.B 52), SV.int .u8 false (x.snd.B 53), SV.int .u8 false (x.snd.B 54), SV.int .u8 false (x.snd.B 55), SV.int .u8 false (x.snd.B 56), SV.int .u8 false (x.snd.B 57), SV.int .u8 false (x.snd.B 58), SV.int .u8 false (x.snd.B 59), SV.int .u8 false (x.snd.B 60), SV.int .u8 false (x.snd.B 61), SV.int .u8 false (x.snd.B 62), SV.int .u8 false (x.snd.B 63), SV.int .i64 false x.snd.held, SV.int .u64 false x.snd.size] 74 76) (SB.cells [SV.int .u32 false (x_3.fst.W 0), SV.int .u32 false (x_3.fst.W 1), SV.int .u32 false (x_3.fst.W 2), SV.int .u32 false (x_3.fst.W 3), SV.int .u32 false (x_3.fst.W 4), SV.int .u32 false (x_3.fst.W 5), SV.int .u32 false (x_3.fst.W 6), SV.int .u32 false (x_3.fst.W 7), SV.int .u8 false (x_3.fst.B 0), SV.int .u8 false (x_3.fst.B 1), SV.int .u8 false (x_3.fst.B 2), SV.int .u8 false (x_3.fst.B 3), SV.int .u8 false (x_3.fst.B 4), SV.int .u8 false (x_3.fst.B 5), SV.int .u8 false (x_3.fst.B 6), SV.int .u8 false (x_3.fst.B 7), SV.int .u8 false (x_3.fst.B 8), SV.int .u8 false (x_3.fst.B 9), SV.int .u8 false (x_3.fst.B 10), SV.int .u8 false (x_3.fst.B 11), SV.int .u8 false (x_3.fst.B 12), SV.int .u8 false (x_3.fst.B 13), SV.int .u8 false (x_3.fst.B 14), SV.int .u8 false (x_3.fst.B 15), SV.int .u8 false (x_3.fst.B 16), SV.int .u8 false (x_3.fst.B 17), SV.int .u8 false (x_3.fst.B 18), SV.int .u8 false (x_3.fst.B 19), SV.int .u8 false (x_3.fst.B 20), SV.int .u8 false (x_3.fst.B 21), SV.int .u8 false (x_3.fst.B 22), SV.int .u8 false (x_3.fst.B 23), SV.int .u8 false (x_3.fst.B 24), SV.int .u8 false (x_3.fst.B 25), SV.int .u8 false (x_3.fst.B 26), SV.int .u8 false (x_3.fst.B 27), SV.int .u8 false (x_3.fst.B 28), SV.int .u8 false (x_3.fst.B 29), SV.int .u8 false (x_3.fst.B 30), SV.int .u8 false (x_3.fst.B 31), SV.int .u8 false (x_3.fst.B 32), SV.int .u8 false (x_3.fst.B 33), SV.int .u8 false (x_3.fst.B 34), SV.int .u8 false (x_3.fst.B 35), SV.int .u8 false (x_3.fst.B 36), SV.int .u8 false (x_3.fst.B 37), SV.int .u8 false (x_3.fst.B 38), SV.int .u8 false (x_3.fst.B 39), SV.int .u8 false (x_3.fst.B 40), SV.int .u8 false (x_3.fst.B 41), SV.int .u8 false (x_3.fst.B 42), SV.int .u8 false (x_3.fst.B 43), SV.int .u8 false (x_3.fst.B 44), SV.int .u8 false (x_3.fst.B 45), SV.int .u8 false (x_3.fst.B 46), SV.int .u8 false (x_3.fst.B 47), SV.int .u8 false (x_3.fst.B 48), SV.int .u8 false (x_3.fst.B 49), SV.int .u8 false (x_3.fst.B 50), SV.int .u8 false (x_3.fst.B 51), SV.int .u8 false (x_3.fst.B 52), SV.int .u8 false (x_3.fst.B 53), SV.int .u8 false (x_3.fst.B 54), SV.int .u8 false (x_3.fst.B 55), SV.int .u8 false (x_3.fst.B 56), SV.int .u8 false (x_3.fst.B 57), SV.int .u8 false (x_3.fst.B 58), SV.int .u8 false (x_3.fst.B 59), SV.int .u8 false (x_3.fst.B 60), SV.int .u8 false (x_3.fst.B 61), SV.int .u8 false (x_3.fst.B 62), SV.int .u8 false (x_3.fst.B 63), SV.int .i64 false x_3.fst.held, SV.int .u64 false x_3.fst.size] 74 76) ∧
 (IsS x_3.fst x_3.snd ∧
 x_3.snd.length < (1152921504606846976 : Nat)) ∧
 ∀ (_y : Unit), True →
 sameVal (unkey 1 (SV.str false (shaL x_3.snd))) (SV.str false (shaL (flat (rowL f 0 n)))))) := by kernel_rfl
end Go.Proofs.YtmipbcadcoahlaaDoor
/-
  Hashes: a text's hash: the contracts of Sum, Of.
-/
namespace Go.Proofs.YtmipbcadcoahlaaDoor
open Go Sx
set_option maxRecDepth 20000

theorem tail_eq (z : Nat) (n : Int) : bytesFrom (fun (j : Nat) => if j = 0 + (1 + (z : Int) + 7).toNat then n / 1 % 256 else if j = 0 + (1 + (z : Int) + 6).toNat then n / 256 % 256 else if j = 0 + (1 + (z : Int) + 5).toNat then n / 65536 % 256 else if j = 0 + (1 + (z : Int) + 4).toNat then n / 16777216 % 256 else if j = 0 + (1 + (z : Int) + 3).toNat then n / 4294967296 % 256 else if j = 0 + (1 + (z : Int) + 2).toNat then n / 1099511627776 % 256 else if j = 0 + (1 + (z : Int) + 1).toNat then n / 281474976710656 % 256 else if j = 0 + (1 + (z : Int) + 0).toNat then n / 72057594037927936 % 256 else if j = 0 then 128 else 0) 0 (1 + (z : Int) + 8).toNat
    = 128 :: (List.replicate z 0 ++ sizeB n) := by
  rw [show (1 + (z : Int) + 8).toNat = z + 9 by omega, show 0 + (1 + (z : Int) + 7).toNat = z + 8 by omega, show 0 + (1 + (z : Int) + 6).toNat = z + 7 by omega, show 0 + (1 + (z : Int) + 5).toNat = z + 6 by omega,
    show 0 + (1 + (z : Int) + 4).toNat = z + 5 by omega, show 0 + (1 + (z : Int) + 3).toNat = z + 4 by omega, show 0 + (1 + (z : Int) + 2).toNat = z + 3 by omega, show 0 + (1 + (z : Int) + 1).toNat = z + 2 by omega, show 0 + (1 + (z : Int) + 0).toNat = z + 1 by omega]
  apply List.ext_getElem?
  intro i
  unfold bytesFrom
  rw [List.getElem?_map]
  by_cases hi : i < z + 9
  · rw [List.getElem?_range hi]
    simp only [Option.map_some, Nat.zero_add]
    cases i with
    | zero =>
      rw [if_neg (by omega), if_neg (by omega), if_neg (by omega), if_neg (by omega), if_neg (by omega), if_neg (by omega), if_neg (by omega), if_neg (by omega), if_pos rfl]; rfl
    | succ i =>
      rw [List.getElem?_cons_succ]
      by_cases hz : i < z
      · rw [List.getElem?_append_left (by simpa using hz), List.getElem?_replicate, if_pos hz, if_neg (by omega), if_neg (by omega), if_neg (by omega), if_neg (by omega), if_neg (by omega), if_neg (by omega), if_neg (by omega), if_neg (by omega), if_neg (by omega)]; rfl
      · rw [List.getElem?_append_right (by simp; omega), List.length_replicate]
        obtain ⟨k, rfl⟩ : ∃ k, i = z + k := ⟨i - z, by omega⟩
        rw [Nat.add_sub_cancel_left]
        have hk : k = 0 ∨ k = 1 ∨ k = 2 ∨ k = 3 ∨ k = 4 ∨ k = 5 ∨ k = 6 ∨ k = 7 := by omega
        rcases hk with rfl | rfl | rfl | rfl | rfl | rfl | rfl | rfl
        · rw [if_neg (by omega), if_neg (by omega), if_neg (by omega), if_neg (by omega), if_neg (by omega), if_neg (by omega), if_neg (by omega), if_pos (by omega)]; rfl
        · rw [if_neg (by omega), if_neg (by omega), if_neg (by omega), if_neg (by omega), if_neg (by omega), if_neg (by omega), if_pos (by omega)]; rfl
        · rw [if_neg (by omega), if_neg (by omega), if_neg (by omega), if_neg (by omega), if_neg (by omega), if_pos (by omega)]; rfl
        · rw [if_neg (by omega), if_neg (by omega), if_neg (by omega), if_neg (by omega), if_pos (by omega)]; rfl
        · rw [if_neg (by omega), if_neg (by omega), if_neg (by omega), if_pos (by omega)]; rfl
        · rw [if_neg (by omega), if_neg (by omega), if_pos (by omega)]; rfl
        · rw [if_neg (by omega), if_pos (by omega)]; rfl
        · rw [if_pos (by omega)]; rfl
  · rw [List.getElem?_eq_none (by simpa using hi), List.getElem?_eq_none (by simp [sizeB]; omega)]; rfl
theorem tailL_len (T : List UInt8) : (tailL T).length < 100 := by
  simp only [tailL, sizeB, List.length_cons, List.length_append, List.length_replicate, List.length_nil, zerosN]; omega
theorem sum_holds {x : Sh} {T : List UInt8} (hx : IsS x T) (_hT : T.length < 1152921504606846976) :
    Holds (runBox cfgS4 30 Tryd.f30 [.ptr 0 true 0] shSB (x, T) (fun _ : Unit => (True, .str false (shaL T), (x, T)))) := by
  refine Holds.of_eq (vcSum x T) ?_
  have hh := hx.1.h
  have hz : (119 - x.held) % 64 = (zerosN T : Int) := by rw [hh]; unfold zerosN; omega
  have hl : zerosN T < 64 := Nat.mod_lt _ (by decide)
  have hb : x.held < 64 ∧ 0 ≤ x.held := by omega
  have hs := hx.2
  have ht : tailL T = 128 :: (List.replicate (zerosN T) 0 ++ sizeB (x.size * 8 % 18446744073709551616)) := by rw [hs]; rfl
  rw [hz]
  refine ⟨by omega, by omega, by omega, by omega, by omega, by omega, by omega, by omega, by omega, by omega, by omega, by omega, by omega, by omega, by omega, by omega, by omega, by omega, by omega, by omega, by omega, by omega, by omega, by omega, by omega, by omega, by omega, by omega, by omega, by omega, by omega, by omega, by omega, by omega, by omega, by omega, by omega, by omega, by omega, by omega, (x, T), SBle.refl _, ⟨hx, ?_⟩, fun y hy => ⟨(), trivial, SBle.refl _, ?_⟩⟩
  · rw [tail_eq, ← ht]
    have := tailL_len T
    omega
  · rw [tail_eq, ← ht] at hy
    have hy : IsS y (padT T) := hy
    have w := hy.1.w
    refine str_same ?_
    unfold shaL outW
    rw [← w 0 (by decide), ← w 1 (by decide), ← w 2 (by decide), ← w 3 (by decide), ← w 4 (by decide), ← w 5 (by decide), ← w 6 (by decide), ← w 7 (by decide)]
theorem sum_ok : CallOk Tryd.prog 30 (boxPT shSB sumSpec) := by
  refine box_ok (n := 20) (fn := Tryd.f30) Tryd.func30 (by kernel_rfl) (by kernel_rfl) shSB_ok ?_
  intro args g x h hp
  unfold sumSpec at h
  split at h
  · injection h with h; subst h
    obtain ⟨x, T⟩ := x
    exact ⟨cfgS4, [.ptr 0 true 0], goodS4, fun E => rfl, rfl, fun _ => rfl, sum_holds hp.1 hp.2⟩
  · cases h
theorem listS5_ok : SummOk Tryd.prog (fun f => lookPT f listS5) := .cons sum_ok (boxPT_mono _ _) listS4_ok
theorem goodOf (n : Nat) (f : Nat → List UInt8) : Sx.Good Tryd.prog (cfgOf n f) := ⟨mixes, listS5_ok, fns_ok⟩
theorem isS_new : IsS ⟨hash0, fun _ => 0, 0, 0⟩ [] := by
  refine ⟨⟨⟨by decide, fun j _ => by show (0 : Int) ≤ 0 ∧ (0 : Int) ≤ 255; decide⟩, fun j _ => rfl, fun j hj => absurd hj (Nat.not_lt_zero _), rfl⟩, rfl⟩
theorem flat_snocR (f : Nat → List UInt8) (i : Nat) : flat (rowL f 0 (i + 1)) = flat (rowL f 0 i) ++ f i := by
  unfold flat rowL
  rw [List.range_succ]
  simp
theorem flat_rowR_le (f : Nat → List UInt8) : ∀ {i n : Nat}, i ≤ n → (flat (rowL f 0 i)).length ≤ (flat (rowL f 0 n)).length := by
  intro i n h
  induction n with
  | zero => obtain rfl : i = 0 := by omega
            exact Nat.le_refl _
  | succ n ih =>
    by_cases e : i = n + 1
    · subst e; exact Nat.le_refl _
    · have := ih (by omega)
      rw [flat_snocR, List.length_append]; omega
theorem of_holds (n : Nat) (f : Nat → List UInt8) (z : Bool) (o c : Nat) (key : Option Nat) (h : (flat (rowL f 0 n)).length < 1152921504606846976) (hn : n < 1152921504606846976) :
    Holds (runS (cfgOf n f) 17 Tryd.f17 [.vslc 0 1 z o 0 n c] [⟨key, z, o, n, c, [.str f]⟩] (.ret (.str false (shaL (flat (rowL f 0 n)))))) := by
  refine Holds.of_eq (vcOf n f z o c key) ?_
  refine ⟨⟨(0, ⟨hash0, fun _ => 0, 0, 0⟩), ⟨Nat.zero_le _, isS_new⟩, rfl, Sx.SBle.cells (fun E => rfl) rfl, SBle.refl _, trivial⟩, fun g hg => ⟨fun a => ?_, fun a => ?_⟩⟩
  · have a := of_decide_eq_true a
    have h1 := flat_rowR_le f (i := g.1 + 1) (n := n) (by omega)
    rw [flat_snocR, List.length_append] at h1
    rw [Int.toNat_natCast, Nat.zero_add]
    refine ⟨by omega, ⟨rfl, by omega⟩, (g.2, flat (rowL f 0 g.1)), SBle.refl _, ⟨hg.2, by omega⟩, fun y hy => ⟨by omega, (g.1 + 1, y), ⟨⟨by show g.1 + 1 ≤ n; omega, ?_⟩, by show n - (g.1 + 1) < n - g.1; omega⟩, by show (g.1 : Int) + 1 = ((g.1 + 1 : Nat) : Int); omega, SBle.refl _, SBle.refl _, trivial⟩⟩
    show IsS y (flat (rowL f 0 (g.1 + 1)))
    rw [flat_snocR]; exact hy
  · have a := of_decide_eq_false a
    have hg1 := hg.1
    have e : g.1 = n := by omega
    refine ⟨(g.2, flat (rowL f 0 g.1)), SBle.refl _, ⟨hg.2, by rw [e]; exact h⟩, fun _ _ => ?_⟩
    rw [e]; exact fun _ => rfl
theorem of_ok : CallOk Tryd.prog 17 (strsPT ofQ ofG) := by
  refine strs_ok (ansV_ok (n := 20) (fn := Tryd.f17) Tryd.func17 (by kernel_rfl) (by kernel_rfl) ?_)
  intro vs l q a h hq
  unfold strsSpec at h
  split at h
  · rename_i n f r hx
    obtain ⟨z, o, c, key⟩ := r
    injection h with h; injection h with h1 h2; subst h1; subst h2
    obtain ⟨e1, e2⟩ := rowOf_eq hx
    rw [e1, e2]
    exact ⟨_, goodOf n f, rfl, rfl, of_holds n f z o c key hq.1 (by have := hq.2; rwa [rowL_len] at this)⟩
  · cases h
theorem outW_len (W : Nat → Int) : (outW W).length = 32 := rfl
theorem shaL_len (T : List UInt8) : (shaL T).length = 32 := rfl
end Go.Proofs.YtmipbcadcoahlaaDoor
