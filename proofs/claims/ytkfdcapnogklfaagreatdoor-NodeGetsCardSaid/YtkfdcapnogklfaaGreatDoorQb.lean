/-
  Hashes: what is written behind what was written: the set-up.
-/
import Derived.Test.YtkfdcapnogklfaaGreatDoorQa
import Derived.Test.YtkfdcapnogklfaaGreatDoorOa
namespace Go.Proofs.YtkfdcapnogklfaaGreatDoor
open Go Sx
set_option maxRecDepth 20000
def hash0 (j : Nat) : Int := sel [1779033703, 3144134277, 1013904242, 2773480762, 1359893119, 2600822924, 528734635, 1541459225] j
def blkAt (T : List UInt8) (q j : Nat) : Int := byteAt T ((64 * q + j : Nat) : Int)
def wordsAt (T : List UInt8) : Nat → Nat → Int
  | 0 => hash0
  | q + 1 => mixS (wordsAt T q) (blkAt T q)
structure IsSh (x : Sh) (T : List UInt8) : Prop where
  ok : x.Ok
  w : ∀ j, j < 8 → x.W j = wordsAt T (T.length / 64) j
  b : ∀ j, j < T.length % 64 → x.B j = blkAt T (T.length / 64) j
  h : x.held = ((T.length % 64 : Nat) : Int)
def IsS (x : Sh) (T : List UInt8) : Prop := IsSh x T ∧ x.size = (T.length : Int) % 18446744073709551616
noncomputable def annWrite (T s : List UInt8) (z : Int) : LoopAnn :=
  { α := Nat × Sh, pre := fun _ x => x.1 ≤ s.length ∧ IsSh x.2 (T ++ s.take x.1) ∧ x.2.size = z, mea := fun _ x => s.length - x.1, fresh := 0, slots := fun _ x => [(1, .str false (s.drop x.1))],
    mem := fun _ x => [(0, x.2.sb)] }
noncomputable def cfgWr (T s : List UInt8) (z : Int) : Cfg := { cfg0 with summ := fun f => lookPT f listS3, anns := fun f => if f = 39 then [(2, always (annWrite T s z))] else [] }
theorem goodWr (T s : List UInt8) (z : Int) : Sx.Good Tryz.prog (cfgWr T s z) := ⟨mixes, listS3_ok, fns_ok⟩
def shSB (g : Sh × List UInt8) : SB := g.1.sb
def writeSpec : List SV → Option (Sh × List UInt8 → Prop × (Sh → Prop × SV × (Sh × List UInt8)))
  | [.ptr 0 true 0, .str false s] => some fun g => (IsS g.1 g.2 ∧ s.length < 1152921504606846976, fun y => (IsS y (g.2 ++ s), .ptr 0 true 0, (y, g.2 ++ s)))
  | _ => none
def putSh (x : Sh) (D : List UInt8) : Sh :=
  ⟨x.W, fun j => if 8 + x.held.toNat - 8 ≤ j ∧ j < 8 + x.held.toNat - 8 + min D.length (64 - x.held.toNat) then ((D.getD (j - (8 + x.held.toNat - 8)) 0).toNat : Int) else x.B j, x.held + ((min D.length (64 - x.held.toNat) : Nat) : Int), x.size⟩
end Go.Proofs.YtkfdcapnogklfaaGreatDoor
/-
  Conditions that the executor computes, written out by a program (vcgen.py).
-/
namespace Go.Proofs.YtkfdcapnogklfaaGreatDoor
open Go Sx
set_option maxRecDepth 20000
theorem vcWrite (x : Sh) (T s : List UInt8) (z : Int) : VC.holds (runBox (cfgWr T s z) 39 Tryz.f39 [.ptr 0 true 0, .str false s] shSB (x, T) (fun y : Sh => (IsS y (T ++ s), .ptr 0 true 0, (y, T ++ s)))) = ((fun R0 : Nat → SV => ((fun R1 : Nat → SV => ((fun R2 : Nat → (Nat × Sh) → SV => ((fun R3 : Nat → (Nat × Sh) → SV => ((fun R4 : Nat → (Nat × Sh) → SV => ((fun R5 : Nat → (Nat × Sh) → SV => ((fun R6 : Nat → (Sh) → SV => ((fun R7 : Nat → (Sh) → SV => ((fun R8 : Nat → (Sh) → SV => ((fun R9 : Nat → (Nat × Sh) → SV => ((fun R10 : Nat → (Nat × Sh) → SV => ((fun R11 : Nat → (Nat × Sh) → SV => ((fun R12 : Nat → (Nat × Sh) → SV => ((fun R13 : Nat → (Nat × Sh) → SV => ((fun R14 : Nat → (Sh) → SV => ((fun R15 : Nat → (Sh) → SV => ((fun R16 : Nat → (Sh) → SV => ((fun R17 : Nat → (Nat × Sh) → SV => ((fun R18 : Nat → (Nat × Sh) → SV => ((fun R19 : Nat → (Nat × Sh) → SV => ((fun R20 : Nat → (Nat × Sh) → SV => ((fun R21 : Nat → (Nat × Sh) → SV => ((fun R22 : Nat → (Sh) → SV => ((fun R23 : Nat → (Sh) → SV => ((fun P0 : (Nat × Sh) → SB => ((fun P1 : (Nat × Sh) → SB => (((∃ (u10 : Nat × Sh), (u10.fst ≤ s.length ∧ IsSh u10.snd (T ++ List.take u10.fst s) ∧ u10.snd.size = z) ∧ s = List.drop u10.fst s ∧
 SBle (SB.cells [R0 0, R0 1, R0 2, R0 3, R0 4, R0 5, R0 6, R0 7, R1 0, R1 1, R1 2, R1 3, R1 4, R1 5, R1 6, R1 7, R1 8, R1 9, R1 10, R1 11, R1 12, R1 13, R1 14, R1 15, R1 16, R1 17, R1 18, R1 19, R1 20, R1 21, R1 22, R1 23, R1 24, R1 25, R1 26, R1 27, R1 28, R1 29, R1 30, R1 31, R1 32, R1 33, R1 34, R1 35, R1 36, R1 37, R1 38, R1 39, R1 40, R1 41, R1 42, R1 43, R1 44, R1 45, R1 46, R1 47, R1 48, R1 49, R1 50, R1 51, R1 52, R1 53, R1 54, R1 55, R1 56, R1 57, R1 58, R1 59, R1 60, R1 61, R1 62, R1 63, SV.int .i64 false x.held, SV.int .u64 false ((x.size + (s.length : Int) % 18446744073709551616) % 18446744073709551616)] 74 82) (SB.cells [R2 0 u10, R2 1 u10, R2 2 u10, R2 3 u10, R2 4 u10, R2 5 u10, R2 6 u10, R2 7 u10, R3 0 u10, R3 1 u10, R3 2 u10, R3 3 u10, R3 4 u10, R3 5 u10, R3 6 u10, R3 7 u10, R3 8 u10, R3 9 u10, R3 10 u10, R3 11 u10, R3 12 u10, R3 13 u10, R3 14 u10, R3 15 u10, R3 16 u10, R3 17 u10, R3 18 u10, R3 19 u10, R3 20 u10, R3 21 u10, R3 22 u10, R3 23 u10, R3 24 u10, R3 25 u10, R3 26 u10, R3 27 u10, R3 28 u10, R3 29 u10, R3 30 u10, R3 31 u10, R3 32 u10, R3 33 u10, R3 34 u10, R3 35 u10, R3 36 u10, R3 37 u10, R3 38 u10, R3 39 u10, R3 40 u10, R3 41 u10, R3 42 u10, R3 43 u10, R3 44 u10, R3 45 u10, R3 46 u10, R3 47 u10, R3 48 u10, R3 49 u10, R3 50 u10, R3 51 u10, R3 52 u10, R3 53 u10, R3 54 u10, R3 55 u10, R3 56 u10, R3 57 u10, R3 58 u10, R3 59 u10, R3 60 u10, R3 61 u10, R3 62 u10, R3 63 u10, SV.int .i64 false u10.snd.held, SV.int .u64 false u10.snd.size] 74 82) ∧
 True) ∧ ∀ (u9 : Nat × Sh), u9.fst ≤ s.length ∧ IsSh u9.snd (T ++ List.take u9.fst s) ∧ u9.snd.size = z → ((!decide (List.drop u9.fst s = [])) = true → (0 ≤ u9.snd.held ∧ u9.snd.held ≤ 64 ∧ (64 : Int) ≤ (64 : Int)) ∧ (decide (64 = u9.snd.held.toNat) = true → ((8 : Nat) ≤ (8 : Nat) ∧ 8 + (64 - u9.snd.held.toNat) ≤ 8 + (64 : Nat)) ∧ ((-9223372036854775808 : Int) ≤ u9.snd.held + (↑(min (List.drop u9.fst s).length (64 - u9.snd.held.toNat)) : Int) ∧ u9.snd.held + (↑(min (List.drop u9.fst s).length (64 - u9.snd.held.toNat)) : Int) ≤ 9223372036854775807) ∧ (0 ≤ (↑(min (List.drop u9.fst s).length (64 - u9.snd.held.toNat)) : Int) ∧ (↑(min (List.drop u9.fst s).length (64 - u9.snd.held.toNat)) : Int) ≤ (↑(List.drop u9.fst s).length : Int) ∧ (↑(List.drop u9.fst s).length : Int) ≤ (↑(List.drop u9.fst s).length : Int)) ∧ (decide (u9.snd.held + (↑(min (List.drop u9.fst s).length (64 - u9.snd.held.toNat)) : Int) = 64) = true →
 ∃ (u8 : Sh), SBle (P1 u9) (SB.cells [R6 0 u8, R6 1 u8, R6 2 u8, R6 3 u8, R6 4 u8, R6 5 u8, R6 6 u8, R6 7 u8, R7 0 u8, R7 1 u8, R7 2 u8, R7 3 u8, R7 4 u8, R7 5 u8, R7 6 u8, R7 7 u8, R7 8 u8, R7 9 u8, R7 10 u8, R7 11 u8, R7 12 u8, R7 13 u8, R7 14 u8, R7 15 u8, R7 16 u8, R7 17 u8, R7 18 u8, R7 19 u8, R7 20 u8, R7 21 u8, R7 22 u8, R7 23 u8, R7 24 u8, R7 25 u8, R7 26 u8, R7 27 u8, R7 28 u8, R7 29 u8, R7 30 u8, R7 31 u8, R7 32 u8, R7 33 u8, R7 34 u8, R7 35 u8, R7 36 u8, R7 37 u8, R7 38 u8, R7 39 u8, R7 40 u8, R7 41 u8, R7 42 u8, R7 43 u8, R7 44 u8, R7 45 u8, R7 46 u8, R7 47 u8, R7 48 u8, R7 49 u8, R7 50 u8, R7 51 u8, R7 52 u8, R7 53 u8, R7 54 u8, R7 55 u8, R7 56 u8, R7 57 u8, R7 58 u8, R7 59 u8, R7 60 u8, R7 61 u8, R7 62 u8, R7 63 u8, SV.int .i64 false u8.held, SV.int .u64 false u8.size] 74 82) ∧ u8.Ok ∧ ∀ (_u7 : Unit), True → ∃ (u6 : Nat × Sh), ((u6.fst ≤ s.length ∧ IsSh u6.snd (T ++ List.take u6.fst s) ∧ u6.snd.size = z) ∧ s.length - u6.fst < s.length - u9.fst) ∧ subStr (List.drop u9.fst s) (some (Operand.tmp 37)) none (↑(min (List.drop u9.fst s).length (64 - u9.snd.held.toNat)) : Int) (↑(List.drop u9.fst s).length : Int) = List.drop u6.fst s ∧
 SBle (SB.cells [R8 0 u8, R8 1 u8, R8 2 u8, R8 3 u8, R8 4 u8, R8 5 u8, R8 6 u8, R8 7 u8, R7 0 u8, R7 1 u8, R7 2 u8, R7 3 u8, R7 4 u8, R7 5 u8, R7 6 u8, R7 7 u8, R7 8 u8, R7 9 u8, R7 10 u8, R7 11 u8, R7 12 u8, R7 13 u8, R7 14 u8, R7 15 u8, R7 16 u8, R7 17 u8, R7 18 u8, R7 19 u8, R7 20 u8, R7 21 u8, R7 22 u8, R7 23 u8, R7 24 u8, R7 25 u8, R7 26 u8, R7 27 u8, R7 28 u8, R7 29 u8, R7 30 u8, R7 31 u8, R7 32 u8, R7 33 u8, R7 34 u8, R7 35 u8, R7 36 u8, R7 37 u8, R7 38 u8, R7 39 u8, R7 40 u8, R7 41 u8, R7 42 u8, R7 43 u8, R7 44 u8, R7 45 u8, R7 46 u8, R7 47 u8, R7 48 u8, R7 49 u8, R7 50 u8, R7 51 u8, R7 52 u8, R7 53 u8, R7 54 u8, R7 55 u8, R7 56 u8, R7 57 u8, R7 58 u8, R7 59 u8, R7 60 u8, R7 61 u8, R7 62 u8, R7 63 u8, SV.int .i64 true 0, SV.int .u64 false u8.size] 74 82) (SB.cells [R9 0 u6, R9 1 u6, R9 2 u6, R9 3 u6, R9 4 u6, R9 5 u6, R9 6 u6, R9 7 u6, R10 0 u6, R10 1 u6, R10 2 u6, R10 3 u6, R10 4 u6, R10 5 u6, R10 6 u6, R10 7 u6, R10 8 u6, R10 9 u6, R10 10 u6, R10 11 u6, R10 12 u6, R10 13 u6, R10 14 u6, R10 15 u6, R10 16 u6, R10 17 u6, R10 18 u6, R10 19 u6, R10 20 u6, R10 21 u6, R10 22 u6, R10 23 u6, R10 24 u6, R10 25 u6, R10 26 u6, R10 27 u6, R10 28 u6, R10 29 u6, R10 30 u6, R10 31 u6, R10 32 u6, R10 33 u6, R10 34 u6, R10 35 u6, R10 36 u6, R10 37 u6, R10 38 u6, R10 39 u6, R10 40 u6, R10 41 u6, R10 42 u6, R10 43 u6, R10 44 u6, R10 45 u6, R10 46 u6, R10 47 u6, R10 48 u6, R10 49 u6, R10 50 u6, R10 51 u6, R10 52 u6, R10 53 u6, R10 54 u6, R10 55 u6, R10 56 u6, R10 57 u6, R10 58 u6, R10 59 u6, R10 60 u6, R10 61 u6, R10 62 u6, R10 63 u6, SV.int .i64 false u6.snd.held, SV.int .u64 false u6.snd.size] 74 82) ∧
 True) ∧ (decide (u9.snd.held + (↑(min (List.drop u9.fst s).length (64 - u9.snd.held.toNat)) : Int) = 64) = false → ∃ (u5 : Nat × Sh), ((u5.fst ≤ s.length ∧ IsSh u5.snd (T ++ List.take u5.fst s) ∧ u5.snd.size = z) ∧ s.length - u5.fst < s.length - u9.fst) ∧ subStr (List.drop u9.fst s) (some (Operand.tmp 37)) none (↑(min (List.drop u9.fst s).length (64 - u9.snd.held.toNat)) : Int) (↑(List.drop u9.fst s).length : Int) = List.drop u5.fst s ∧
 SBle (P1 u9) (SB.cells [R11 0 u5, R11 1 u5, R11 2 u5, R11 3 u5, R11 4 u5, R11 5 u5, R11 6 u5, R11 7 u5, R12 0 u5, R12 1 u5, R12 2 u5, R12 3 u5, R12 4 u5, R12 5 u5, R12 6 u5, R12 7 u5, R12 8 u5, R12 9 u5, R12 10 u5, R12 11 u5, R12 12 u5, R12 13 u5, R12 14 u5, R12 15 u5, R12 16 u5, R12 17 u5, R12 18 u5, R12 19 u5, R12 20 u5, R12 21 u5, R12 22 u5, R12 23 u5, R12 24 u5, R12 25 u5, R12 26 u5, R12 27 u5, R12 28 u5, R12 29 u5, R12 30 u5, R12 31 u5, R12 32 u5, R12 33 u5, R12 34 u5, R12 35 u5, R12 36 u5, R12 37 u5, R12 38 u5, R12 39 u5, R12 40 u5, R12 41 u5, R12 42 u5, R12 43 u5, R12 44 u5, R12 45 u5, R12 46 u5, R12 47 u5, R12 48 u5, R12 49 u5, R12 50 u5, R12 51 u5, R12 52 u5, R12 53 u5, R12 54 u5, R12 55 u5, R12 56 u5, R12 57 u5, R12 58 u5, R12 59 u5, R12 60 u5, R12 61 u5, R12 62 u5, R12 63 u5, SV.int .i64 false u5.snd.held, SV.int .u64 false u5.snd.size] 74 82) ∧ True)) ∧ (decide (64 = u9.snd.held.toNat) = false → ((8 : Nat) ≤ 8 + u9.snd.held.toNat ∧ 8 + u9.snd.held.toNat + (64 - u9.snd.held.toNat) ≤ 8 + (64 : Nat)) ∧ ((-9223372036854775808 : Int) ≤ u9.snd.held + (↑(min (List.drop u9.fst s).length (64 - u9.snd.held.toNat)) : Int) ∧
 u9.snd.held + (↑(min (List.drop u9.fst s).length (64 - u9.snd.held.toNat)) : Int) ≤ 9223372036854775807) ∧ (0 ≤ (↑(min (List.drop u9.fst s).length (64 - u9.snd.held.toNat)) : Int) ∧ (↑(min (List.drop u9.fst s).length (64 - u9.snd.held.toNat)) : Int) ≤ (↑(List.drop u9.fst s).length : Int) ∧ (↑(List.drop u9.fst s).length : Int) ≤ (↑(List.drop u9.fst s).length : Int)) ∧ (decide (u9.snd.held + (↑(min (List.drop u9.fst s).length (64 - u9.snd.held.toNat)) : Int) = 64) = true →
 ∃ (u4 : Sh), SBle (P0 u9) (SB.cells [R14 0 u4, R14 1 u4, R14 2 u4, R14 3 u4, R14 4 u4, R14 5 u4, R14 6 u4, R14 7 u4, R15 0 u4, R15 1 u4, R15 2 u4, R15 3 u4, R15 4 u4, R15 5 u4, R15 6 u4, R15 7 u4, R15 8 u4, R15 9 u4, R15 10 u4, R15 11 u4, R15 12 u4, R15 13 u4, R15 14 u4, R15 15 u4, R15 16 u4, R15 17 u4, R15 18 u4, R15 19 u4, R15 20 u4, R15 21 u4, R15 22 u4, R15 23 u4, R15 24 u4, R15 25 u4, R15 26 u4, R15 27 u4, R15 28 u4, R15 29 u4, R15 30 u4, R15 31 u4, R15 32 u4, R15 33 u4, R15 34 u4, R15 35 u4, R15 36 u4, R15 37 u4, R15 38 u4, R15 39 u4, R15 40 u4, R15 41 u4, R15 42 u4, R15 43 u4, R15 44 u4, R15 45 u4, R15 46 u4, R15 47 u4, R15 48 u4, R15 49 u4, R15 50 u4, R15 51 u4, R15 52 u4, R15 53 u4, R15 54 u4, R15 55 u4, R15 56 u4, R15 57 u4, R15 58 u4, R15 59 u4, R15 60 u4, R15 61 u4, R15 62 u4, R15 63 u4, SV.int .i64 false u4.held, SV.int .u64 false u4.size] 74 82) ∧ u4.Ok ∧ ∀ (_u3 : Unit), True → ∃ (u2 : Nat × Sh), ((u2.fst ≤ s.length ∧ IsSh u2.snd (T ++ List.take u2.fst s) ∧ u2.snd.size = z) ∧ s.length - u2.fst < s.length - u9.fst) ∧
 subStr (List.drop u9.fst s) (some (Operand.tmp 37)) none (↑(min (List.drop u9.fst s).length (64 - u9.snd.held.toNat)) : Int) (↑(List.drop u9.fst s).length : Int) = List.drop u2.fst s ∧
 SBle (SB.cells [R16 0 u4, R16 1 u4, R16 2 u4, R16 3 u4, R16 4 u4, R16 5 u4, R16 6 u4, R16 7 u4, R15 0 u4, R15 1 u4, R15 2 u4, R15 3 u4, R15 4 u4, R15 5 u4, R15 6 u4, R15 7 u4, R15 8 u4, R15 9 u4, R15 10 u4, R15 11 u4, R15 12 u4, R15 13 u4, R15 14 u4, R15 15 u4, R15 16 u4, R15 17 u4, R15 18 u4, R15 19 u4, R15 20 u4, R15 21 u4, R15 22 u4, R15 23 u4, R15 24 u4, R15 25 u4, R15 26 u4, R15 27 u4, R15 28 u4, R15 29 u4, R15 30 u4, R15 31 u4, R15 32 u4, R15 33 u4, R15 34 u4, R15 35 u4, R15 36 u4, R15 37 u4, R15 38 u4, R15 39 u4, R15 40 u4, R15 41 u4, R15 42 u4, R15 43 u4, R15 44 u4, R15 45 u4, R15 46 u4, R15 47 u4, R15 48 u4, R15 49 u4, R15 50 u4, R15 51 u4, R15 52 u4, R15 53 u4, R15 54 u4, R15 55 u4, R15 56 u4, R15 57 u4, R15 58 u4, R15 59 u4, R15 60 u4, R15 61 u4, R15 62 u4, R15 63 u4, SV.int .i64 true 0, SV.int .u64 false u4.size] 74 82) (SB.cells [R17 0 u2, R17 1 u2, R17 2 u2, R17 3 u2, R17 4 u2, R17 5 u2, R17 6 u2, R17 7 u2, R18 0 u2, R18 1 u2, R18 2 u2, R18 3 u2, R18 4 u2, R18 5 u2, R18 6 u2, R18 7 u2, R18 8 u2, R18 9 u2, R18 10 u2, R18 11 u2, R18 12 u2, R18 13 u2, R18 14 u2, R18 15 u2, R18 16 u2, R18 17 u2, R18 18 u2, R18 19 u2, R18 20 u2, R18 21 u2, R18 22 u2, R18 23 u2, R18 24 u2, R18 25 u2, R18 26 u2, R18 27 u2, R18 28 u2, R18 29 u2, R18 30 u2, R18 31 u2, R18 32 u2, R18 33 u2, R18 34 u2, R18 35 u2, R18 36 u2, R18 37 u2, R18 38 u2, R18 39 u2, R18 40 u2, R18 41 u2, R18 42 u2, R18 43 u2, R18 44 u2, R18 45 u2, R18 46 u2, R18 47 u2, R18 48 u2, R18 49 u2, R18 50 u2, R18 51 u2, R18 52 u2, R18 53 u2, R18 54 u2, R18 55 u2, R18 56 u2, R18 57 u2, R18 58 u2, R18 59 u2, R18 60 u2, R18 61 u2, R18 62 u2, R18 63 u2, SV.int .i64 false u2.snd.held, SV.int .u64 false u2.snd.size] 74 82) ∧
 True) ∧ (decide (u9.snd.held + (↑(min (List.drop u9.fst s).length (64 - u9.snd.held.toNat)) : Int) = 64) = false → ∃ (u1 : Nat × Sh), ((u1.fst ≤ s.length ∧ IsSh u1.snd (T ++ List.take u1.fst s) ∧ u1.snd.size = z) ∧ s.length - u1.fst < s.length - u9.fst) ∧ subStr (List.drop u9.fst s) (some (Operand.tmp 37)) none (↑(min (List.drop u9.fst s).length (64 - u9.snd.held.toNat)) : Int) (↑(List.drop u9.fst s).length : Int) = List.drop u1.fst s ∧
 SBle (P0 u9) (SB.cells [R19 0 u1, R19 1 u1, R19 2 u1, R19 3 u1, R19 4 u1, R19 5 u1, R19 6 u1, R19 7 u1, R20 0 u1, R20 1 u1, R20 2 u1, R20 3 u1, R20 4 u1, R20 5 u1, R20 6 u1, R20 7 u1, R20 8 u1, R20 9 u1, R20 10 u1, R20 11 u1, R20 12 u1, R20 13 u1, R20 14 u1, R20 15 u1, R20 16 u1, R20 17 u1, R20 18 u1, R20 19 u1, R20 20 u1, R20 21 u1, R20 22 u1, R20 23 u1, R20 24 u1, R20 25 u1, R20 26 u1, R20 27 u1, R20 28 u1, R20 29 u1, R20 30 u1, R20 31 u1, R20 32 u1, R20 33 u1, R20 34 u1, R20 35 u1, R20 36 u1, R20 37 u1, R20 38 u1, R20 39 u1, R20 40 u1, R20 41 u1, R20 42 u1, R20 43 u1, R20 44 u1, R20 45 u1, R20 46 u1, R20 47 u1, R20 48 u1, R20 49 u1, R20 50 u1, R20 51 u1, R20 52 u1, R20 53 u1, R20 54 u1, R20 55 u1, R20 56 u1, R20 57 u1, R20 58 u1, R20 59 u1, R20 60 u1, R20 61 u1, R20 62 u1, R20 63 u1, SV.int .i64 false u1.snd.held, SV.int .u64 false u1.snd.size] 74 82) ∧ True))) ∧ ((!decide (List.drop u9.fst s = [])) = false → ∃ (u0 : Sh), IsS u0 (T ++ s) ∧
 SBle (SB.cells [R4 0 u9, R4 1 u9, R4 2 u9, R4 3 u9, R4 4 u9, R4 5 u9, R4 6 u9, R4 7 u9, R21 0 u9, R21 1 u9, R21 2 u9, R21 3 u9, R21 4 u9, R21 5 u9, R21 6 u9, R21 7 u9, R21 8 u9, R21 9 u9, R21 10 u9, R21 11 u9, R21 12 u9, R21 13 u9, R21 14 u9, R21 15 u9, R21 16 u9, R21 17 u9, R21 18 u9, R21 19 u9, R21 20 u9, R21 21 u9, R21 22 u9, R21 23 u9, R21 24 u9, R21 25 u9, R21 26 u9, R21 27 u9, R21 28 u9, R21 29 u9, R21 30 u9, R21 31 u9, R21 32 u9, R21 33 u9, R21 34 u9, R21 35 u9, R21 36 u9, R21 37 u9, R21 38 u9, R21 39 u9, R21 40 u9, R21 41 u9, R21 42 u9, R21 43 u9, R21 44 u9, R21 45 u9, R21 46 u9, R21 47 u9, R21 48 u9, R21 49 u9, R21 50 u9, R21 51 u9, R21 52 u9, R21 53 u9, R21 54 u9, R21 55 u9, R21 56 u9, R21 57 u9, R21 58 u9, R21 59 u9, R21 60 u9, R21 61 u9, R21 62 u9, R21 63 u9, SV.int .i64 false u9.snd.held, SV.int .u64 false u9.snd.size] 74 82) (SB.cells [R22 0 u0, R22 1 u0, R22 2 u0, R22 3 u0, R22 4 u0, R22 5 u0, R22 6 u0, R22 7 u0, R23 0 u0, R23 1 u0, R23 2 u0, R23 3 u0, R23 4 u0, R23 5 u0, R23 6 u0, R23 7 u0, R23 8 u0, R23 9 u0, R23 10 u0, R23 11 u0, R23 12 u0, R23 13 u0, R23 14 u0, R23 15 u0, R23 16 u0, R23 17 u0, R23 18 u0, R23 19 u0, R23 20 u0, R23 21 u0, R23 22 u0, R23 23 u0, R23 24 u0, R23 25 u0, R23 26 u0, R23 27 u0, R23 28 u0, R23 29 u0, R23 30 u0, R23 31 u0, R23 32 u0, R23 33 u0, R23 34 u0, R23 35 u0, R23 36 u0, R23 37 u0, R23 38 u0, R23 39 u0, R23 40 u0, R23 41 u0, R23 42 u0, R23 43 u0, R23 44 u0, R23 45 u0, R23 46 u0, R23 47 u0, R23 48 u0, R23 49 u0, R23 50 u0, R23 51 u0, R23 52 u0, R23 53 u0, R23 54 u0, R23 55 u0, R23 56 u0, R23 57 u0, R23 58 u0, R23 59 u0, R23 60 u0, R23 61 u0, R23 62 u0, R23 63 u0, SV.int .i64 false u0.held, SV.int .u64 false u0.size] 74 82) ∧
 sameVal (SV.ptr 0 true 0) (SV.ptr 0 true 0))))) (fun (u9 : Nat × Sh) => (SB.cells [R4 0 u9, R4 1 u9, R4 2 u9, R4 3 u9, R4 4 u9, R4 5 u9, R4 6 u9, R4 7 u9, R5 0 u9, R5 1 u9, R5 2 u9, R5 3 u9, R5 4 u9, R5 5 u9, R5 6 u9, R5 7 u9, R5 8 u9, R5 9 u9, R5 10 u9, R5 11 u9, R5 12 u9, R5 13 u9, R5 14 u9, R5 15 u9, R5 16 u9, R5 17 u9, R5 18 u9, R5 19 u9, R5 20 u9, R5 21 u9, R5 22 u9, R5 23 u9, R5 24 u9, R5 25 u9, R5 26 u9, R5 27 u9, R5 28 u9, R5 29 u9, R5 30 u9, R5 31 u9, R5 32 u9, R5 33 u9, R5 34 u9, R5 35 u9, R5 36 u9, R5 37 u9, R5 38 u9, R5 39 u9, R5 40 u9, R5 41 u9, R5 42 u9, R5 43 u9, R5 44 u9, R5 45 u9, R5 46 u9, R5 47 u9, R5 48 u9, R5 49 u9, R5 50 u9, R5 51 u9, R5 52 u9, R5 53 u9, R5 54 u9, R5 55 u9, R5 56 u9, R5 57 u9, R5 58 u9, R5 59 u9, R5 60 u9, R5 61 u9, R5 62 u9, R5 63 u9, SV.int .i64 false (u9.snd.held + (↑(min (List.drop u9.fst s).length (64 - u9.snd.held.toNat)) : Int)), SV.int .u64 false u9.snd.size] 74 82)))) (fun (u9 : Nat × Sh) => (SB.cells [R4 0 u9, R4 1 u9, R4 2 u9, R4 3 u9, R4 4 u9, R4 5 u9, R4 6 u9, R4 7 u9, R13 0 u9, R13 1 u9, R13 2 u9, R13 3 u9, R13 4 u9, R13 5 u9, R13 6 u9, R13 7 u9, R13 8 u9, R13 9 u9, R13 10 u9, R13 11 u9, R13 12 u9, R13 13 u9, R13 14 u9, R13 15 u9, R13 16 u9, R13 17 u9, R13 18 u9, R13 19 u9, R13 20 u9, R13 21 u9, R13 22 u9, R13 23 u9, R13 24 u9, R13 25 u9, R13 26 u9, R13 27 u9, R13 28 u9, R13 29 u9, R13 30 u9, R13 31 u9, R13 32 u9, R13 33 u9, R13 34 u9, R13 35 u9, R13 36 u9, R13 37 u9, R13 38 u9, R13 39 u9, R13 40 u9, R13 41 u9, R13 42 u9, R13 43 u9, R13 44 u9, R13 45 u9, R13 46 u9, R13 47 u9, R13 48 u9, R13 49 u9, R13 50 u9, R13 51 u9, R13 52 u9, R13 53 u9, R13 54 u9, R13 55 u9, R13 56 u9, R13 57 u9, R13 58 u9, R13 59 u9, R13 60 u9, R13 61 u9, R13 62 u9, R13 63 u9, SV.int .i64 false (u9.snd.held + (↑(min (List.drop u9.fst s).length (64 - u9.snd.held.toNat)) : Int)), SV.int .u64 false u9.snd.size] 74 82)))) (fun (n0 : Nat) (u0 : Sh) => SV.int .u8 false (u0.B n0)))) (fun (n0 : Nat) (u0 : Sh) => SV.int .u32 false (u0.W n0)))) (fun (n0 : Nat) (u9 : Nat × Sh) => SV.int .u8 false (u9.snd.B n0)))) (fun (n0 : Nat) (u1 : Nat × Sh) => SV.int .u8 false (u1.snd.B n0)))) (fun (n0 : Nat) (u1 : Nat × Sh) => SV.int .u32 false (u1.snd.W n0)))) (fun (n0 : Nat) (u2 : Nat × Sh) => SV.int .u8 false (u2.snd.B n0)))) (fun (n0 : Nat) (u2 : Nat × Sh) => SV.int .u32 false (u2.snd.W n0)))) (fun (n0 : Nat) (u4 : Sh) => SV.int .u32 false (mixS u4.W u4.B n0)))) (fun (n0 : Nat) (u4 : Sh) => SV.int .u8 false (u4.B n0)))) (fun (n0 : Nat) (u4 : Sh) => SV.int .u32 false (u4.W n0)))) (fun (n0 : Nat) (u9 : Nat × Sh) => SV.int .u8 false (if 8 + u9.snd.held.toNat - 8 ≤ (n0 : Nat) ∧ (n0 : Nat) < 8 + u9.snd.held.toNat - 8 + min (List.drop u9.fst s).length (64 - u9.snd.held.toNat) then (↑((List.drop u9.fst s).getD (n0 - (8 + u9.snd.held.toNat - 8)) (0 : UInt8)).toNat : Int) else u9.snd.B n0)))) (fun (n0 : Nat) (u5 : Nat × Sh) => SV.int .u8 false (u5.snd.B n0)))) (fun (n0 : Nat) (u5 : Nat × Sh) => SV.int .u32 false (u5.snd.W n0)))) (fun (n0 : Nat) (u6 : Nat × Sh) => SV.int .u8 false (u6.snd.B n0)))) (fun (n0 : Nat) (u6 : Nat × Sh) => SV.int .u32 false (u6.snd.W n0)))) (fun (n0 : Nat) (u8 : Sh) => SV.int .u32 false (mixS u8.W u8.B n0)))) (fun (n0 : Nat) (u8 : Sh) => SV.int .u8 false (u8.B n0)))) (fun (n0 : Nat) (u8 : Sh) => SV.int .u32 false (u8.W n0)))) (fun (n0 : Nat) (u9 : Nat × Sh) => SV.int .u8 false (if (0 : Nat) ≤ (n0 : Nat) ∧ (n0 : Nat) < 0 + min (List.drop u9.fst s).length (64 - u9.snd.held.toNat) then (↑((List.drop u9.fst s).getD n0 (0 : UInt8)).toNat : Int) else u9.snd.B n0)))) (fun (n0 : Nat) (u9 : Nat × Sh) => SV.int .u32 false (u9.snd.W n0)))) (fun (n0 : Nat) (u10 : Nat × Sh) => SV.int .u8 false (u10.snd.B n0)))) (fun (n0 : Nat) (u10 : Nat × Sh) => SV.int .u32 false (u10.snd.W n0)))) (fun (n0 : Nat)  => SV.int .u8 false (x.B n0)))) (fun (n0 : Nat)  => SV.int .u32 false (x.W n0))) := by kernel_rfl
end Go.Proofs.YtkfdcapnogklfaaGreatDoor
/-
  Hashes: what is written behind what was written: the contract.
-/
namespace Go.Proofs.YtkfdcapnogklfaaGreatDoor
open Go Sx
set_option maxRecDepth 20000
theorem wL_congr {B B' : Nat → Int} (h : ∀ j, j < 64 → B j = B' j) : ∀ (n j : Nat), wL B n j = wL B' n j
  | 0, j => by
    unfold wL
    by_cases e : j < 16
    · simp only [e, if_true, wordB, h (4 * j) (by omega), h (4 * j + 1) (by omega), h (4 * j + 2) (by omega), h (4 * j + 3) (by omega)]
    · simp only [e, if_false]
  | n + 1, j => by simp only [wL_succ, wL_congr h n]
theorem roundV_congr {v v' : Nat → Int} (h : ∀ j, j < 8 → v j = v' j) (k w : Int) : ∀ j, j < 8 → roundV v k w j = roundV v' k w j := by
  have h0 := h 0 (by decide)
  have h1 := h 1 (by decide)
  have h2 := h 2 (by decide)
  have h3 := h 3 (by decide)
  have h4 := h 4 (by decide)
  have h5 := h 5 (by decide)
  have h6 := h 6 (by decide)
  have h7 := h 7 (by decide)
  intro j hj
  match j, hj with
  | 0, _ => simp only [roundV, t1F, t2F, h0, h1, h2, h4, h5, h6, h7]
  | 1, _ => exact h0
  | 2, _ => exact h1
  | 3, _ => exact h2
  | 4, _ => simp only [roundV, t1F, h3, h4, h5, h6, h7]
  | 5, _ => exact h4
  | 6, _ => exact h5
  | 7, _ => exact h6
theorem vAt_congr {W W' B B' : Nat → Int} (hW : ∀ j, j < 8 → W j = W' j) (hB : ∀ j, j < 64 → B j = B' j) : ∀ i j, j < 8 → vAt W B i j = vAt W' B' i j
  | 0, j, hj => hW j hj
  | i + 1, j, hj => by
    simp only [vAt]
    rw [roundV_congr (vAt_congr hW hB i) _ _ j hj, wL_congr hB]
theorem mixS_congr {W W' B B' : Nat → Int} (hW : ∀ j, j < 8 → W j = W' j) (hB : ∀ j, j < 64 → B j = B' j) (j : Nat) (hj : j < 8) : mixS W B j = mixS W' B' j := by
  simp only [mixS, hW j hj, vAt_congr hW hB 64 j hj]
theorem blkAt_eq (T : List UInt8) (q j : Nat) : blkAt T q j = ((T.getD (64 * q + j) 0).toNat : Int) := by
  unfold blkAt byteAt
  rw [Int.toNat_natCast]
theorem blkAt_left {T : List UInt8} (D : List UInt8) {q j : Nat} (h : 64 * q + j < T.length) : blkAt (T ++ D) q j = blkAt T q j := by
  rw [blkAt_eq, blkAt_eq, List.getD_eq_getElem?_getD, List.getD_eq_getElem?_getD, List.getElem?_append_left h]
theorem blkAt_right {T : List UInt8} (D : List UInt8) {q j : Nat} (h : T.length ≤ 64 * q + j) : blkAt (T ++ D) q j = ((D.getD (64 * q + j - T.length) 0).toNat : Int) := by
  rw [blkAt_eq, List.getD_eq_getElem?_getD, List.getD_eq_getElem?_getD, List.getElem?_append_right h]
theorem words_append (T D : List UInt8) : ∀ q, 64 * q ≤ T.length → ∀ j, j < 8 → wordsAt (T ++ D) q j = wordsAt T q j
  | 0, _, _, _ => rfl
  | q + 1, h, j, hj => by
    simp only [wordsAt]
    exact mixS_congr (words_append T D q (by omega)) (fun i hi => blkAt_left D (by omega)) j hj
theorem mixS_u {W B : Nat → Int} (j : Nat) : U (mixS W B j) := um _
theorem getD_255 (D : List UInt8) (i : Nat) : 0 ≤ ((D.getD i 0).toNat : Int) ∧ ((D.getD i 0).toNat : Int) ≤ 255 := by
  have := (D.getD i 0).toNat_lt; omega
theorem getD_take {D : List UInt8} {n i : Nat} (h : i < n) : (D.take n).getD i 0 = D.getD i 0 := by
  rw [List.getD_eq_getElem?_getD, List.getD_eq_getElem?_getD, List.getElem?_take_of_lt h]
theorem put_ok {x : Sh} {T : List UInt8} (h : IsSh x T) (D : List UInt8) : (putSh x D).Ok := by
  refine ⟨h.ok.w, fun j hj => ?_⟩
  unfold putSh
  simp only
  split
  · exact getD_255 _ _
  · exact h.ok.b j hj
theorem put_b {x : Sh} {T : List UInt8} (h : IsSh x T) {D : List UInt8} (j : Nat) (hj : j < T.length % 64 + min D.length (64 - T.length % 64)) : (putSh x D).B j = blkAt (T ++ D.take (min D.length (64 - T.length % 64))) (T.length / 64) j := by
  have hh := h.h
  have e : x.held.toNat = T.length % 64 := by omega
  unfold putSh
  simp only [e]
  have hd := Nat.div_add_mod T.length 64
  by_cases c : j < T.length % 64
  · rw [if_neg (by omega), h.b j c, blkAt_left _ (by omega)]
  · rw [if_pos (by omega), blkAt_right _ (by omega), getD_take (by omega)]
    congr 3
    omega
theorem put_part {x : Sh} {T D : List UInt8} (h : IsSh x T) (hc : T.length % 64 + min D.length (64 - T.length % 64) < 64) : IsSh (putSh x D) (T ++ D.take (min D.length (64 - T.length % 64))) := by
  have hl : (T ++ D.take (min D.length (64 - T.length % 64))).length = T.length + min D.length (64 - T.length % 64) := by
    rw [List.length_append, List.length_take]; omega
  have hd := Nat.div_add_mod T.length 64
  have e1 : (T ++ D.take (min D.length (64 - T.length % 64))).length / 64 = T.length / 64 := by omega
  have e2 : (T ++ D.take (min D.length (64 - T.length % 64))).length % 64 = T.length % 64 + min D.length (64 - T.length % 64) := by omega
  refine ⟨put_ok h D, fun j hj => ?_, fun j hj => ?_, ?_⟩
  · rw [e1, words_append _ _ _ (by omega) j hj]; exact h.w j hj
  · rw [e2] at hj
    rw [e1]; exact put_b h j hj
  · have hh := h.h
    have e : x.held.toNat = T.length % 64 := by omega
    rw [e2]
    show x.held + ((min D.length (64 - x.held.toNat) : Nat) : Int) = _
    rw [e]; omega
theorem put_full {x : Sh} {T D : List UInt8} (h : IsSh x T) (hc : T.length % 64 + min D.length (64 - T.length % 64) = 64) : IsSh ⟨mixS (putSh x D).W (putSh x D).B, (putSh x D).B, 0, (putSh x D).size⟩ (T ++ D.take (min D.length (64 - T.length % 64))) := by
  have hl : (T ++ D.take (min D.length (64 - T.length % 64))).length = T.length + min D.length (64 - T.length % 64) := by
    rw [List.length_append, List.length_take]; omega
  have hd := Nat.div_add_mod T.length 64
  have e1 : (T ++ D.take (min D.length (64 - T.length % 64))).length / 64 = T.length / 64 + 1 := by omega
  have e2 : (T ++ D.take (min D.length (64 - T.length % 64))).length % 64 = 0 := by omega
  refine ⟨⟨fun j hj => mixS_u j, (put_ok h D).b⟩, fun j hj => ?_, fun j hj => ?_, ?_⟩
  · rw [e1]
    simp only [wordsAt]
    refine mixS_congr (fun i hi => ?_) (fun i hi => ?_) j hj
    · rw [words_append _ _ _ (by omega) i hi]; exact h.w i hi
    · exact put_b h i (by omega)
  · rw [e2] at hj; exact absurd hj (Nat.not_lt_zero _)
  · rw [e2]; rfl
theorem write_holds {x : Sh} {T s : List UInt8} (hx : IsS x T) (_hs : s.length < 1152921504606846976) :
    Holds (runBox (cfgWr T s (((T ++ s).length : Int) % 18446744073709551616)) 39 Tryz.f39 [.ptr 0 true 0, .str false s] shSB (x, T) (fun y : Sh => (IsS y (T ++ s), .ptr 0 true 0, (y, T ++ s)))) := by
  refine Holds.of_eq (vcWrite x T s _) ?_
  dsimp only
  obtain ⟨hx, hz⟩ := hx
  refine ⟨⟨(0, ⟨x.W, x.B, x.held, (x.size + (s.length : Int) % 18446744073709551616) % 18446744073709551616⟩), ⟨Nat.zero_le _, ?_, ?_⟩, rfl, SBle.refl _, trivial⟩, fun g hg => ⟨fun a => ?_, fun a => ?_⟩⟩
  · show IsSh _ (T ++ s.take 0)
    rw [List.take_zero, List.append_nil]
    exact ⟨⟨hx.ok.w, hx.ok.b⟩, hx.w, hx.b, hx.h⟩
  · show (x.size + (s.length : Int) % 18446744073709551616) % 18446744073709551616 = _
    rw [hz, List.length_append]
    omega
  · obtain ⟨hk, hi, hsz⟩ := hg
    have hD : s.drop g.1 ≠ [] := by simpa using a
    have hh := hi.h
    generalize hT : T ++ s.take g.1 = T' at hi hh
    have e : g.2.held.toNat = T'.length % 64 := by omega
    have hlt : T'.length % 64 < 64 := Nat.mod_lt _ (by decide)
    have hp := List.length_pos_iff.2 hD
    have hdl : (s.drop g.1).length = s.length - g.1 := List.length_drop ..
    have hmin : min (s.drop g.1).length (64 - g.2.held.toNat) = min (s.drop g.1).length (64 - T'.length % 64) := by rw [e]
    generalize hc : min (s.drop g.1).length (64 - g.2.held.toNat) = cnt at hmin ⊢
    have hT2 : T ++ s.take (g.1 + cnt) = T' ++ (s.drop g.1).take cnt := by
      rw [← hT, List.append_assoc, List.take_add]
    have hsub : subStr (s.drop g.1) (some (Operand.tmp 37)) none (cnt : Int) ((s.drop g.1).length : Int) = s.drop (g.1 + cnt) := by
      simp only [subStr, Int.toNat_natCast, List.drop_drop]
    have rest : ∀ {p : Prop}, (8 ≤ 8 + g.2.held.toNat ∧ 8 + g.2.held.toNat + (64 - g.2.held.toNat) ≤ 8 + 64 → (-9223372036854775808 ≤ g.2.held + (cnt : Int) ∧ g.2.held + (cnt : Int) ≤ 9223372036854775807) → (0 ≤ (cnt : Int) ∧ (cnt : Int) ≤ ((s.drop g.1).length : Int) ∧ ((s.drop g.1).length : Int) ≤ ((s.drop g.1).length : Int)) → p) → p := fun h => h (by omega) (by omega) (by omega)
    refine ⟨by omega, fun b => absurd (of_decide_eq_true b) (by omega), fun _ => rest fun r1 r2 r3 => ⟨r1, r2, r3, fun b => ?_, fun b => ?_⟩⟩
    · have b := of_decide_eq_true b
      refine ⟨putSh g.2 (s.drop g.1), ?_, put_ok hi _, fun _ _ => ⟨(g.1 + cnt, ⟨mixS (putSh g.2 (s.drop g.1)).W (putSh g.2 (s.drop g.1)).B, (putSh g.2 (s.drop g.1)).B, 0, (putSh g.2 (s.drop g.1)).size⟩), ⟨⟨?_, ?_, hsz⟩, ?_⟩, hsub, Sx.SBle.cells (fun E => rfl) rfl, trivial⟩⟩
      · subst hc; exact SBle.refl _
      · show g.1 + cnt ≤ s.length; omega
      · show IsSh _ (T ++ s.take (g.1 + cnt))
        rw [hT2, hmin]
        exact put_full hi (by omega)
      · show s.length - (g.1 + cnt) < s.length - g.1; omega
    · have b := of_decide_eq_false b
      refine ⟨(g.1 + cnt, putSh g.2 (s.drop g.1)), ⟨⟨?_, ?_, hsz⟩, ?_⟩, hsub, ?_, trivial⟩
      · show g.1 + cnt ≤ s.length; omega
      · show IsSh _ (T ++ s.take (g.1 + cnt))
        rw [hT2, hmin]
        exact put_part hi (by omega)
      · show s.length - (g.1 + cnt) < s.length - g.1; omega
      · subst hc; exact SBle.refl _
  · obtain ⟨hk, hi, hsz⟩ := hg
    have hD : s.drop g.1 = [] := by simpa using a
    have hl : (s.drop g.1).length = 0 := by rw [hD]; rfl
    rw [List.length_drop] at hl
    rw [List.take_of_length_le (by omega)] at hi
    exact ⟨g.2, ⟨hi, hsz⟩, SBle.refl _, fun _ => rfl⟩
theorem shSB_ok (x : Sh × List UInt8) : (shSB x).wf 0 = true ∧ (shSB x).ro = false ∧ (shSB x).no = false := ⟨rfl, rfl, rfl⟩
theorem write_ok : CallOk Tryz.prog 39 (boxPT shSB writeSpec) := by
  refine box_ok (n := 20) (fn := Tryz.f39) Tryz.func39 (by kernel_rfl) (by kernel_rfl) shSB_ok ?_
  intro args g x h hp
  unfold writeSpec at h
  split at h
  · rename_i s
    injection h with h; subst h
    obtain ⟨x, T⟩ := x
    exact ⟨cfgWr T s (((T ++ s).length : Int) % 18446744073709551616), [.ptr 0 true 0, .str false s], goodWr _ _ _, fun E => rfl, rfl, fun _ => rfl, write_holds hp.1 hp.2⟩
  · cases h
end Go.Proofs.YtkfdcapnogklfaaGreatDoor
