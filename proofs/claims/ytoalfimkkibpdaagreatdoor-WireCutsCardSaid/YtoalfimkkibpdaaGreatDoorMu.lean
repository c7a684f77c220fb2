/-
  Conditions that the executor computes, written out by a program (vcgen.py).
-/
import Derived.Test.YtoalfimkkibpdaaGreatDoorMt
import Derived.Test.YtoalfimkkibpdaaGreatDoorMn
import Derived.Test.YtoalfimkkibpdaaGreatDoorMs
namespace Go.Proofs.YtoalfimkkibpdaaGreatDoor
open Go Sx
set_option maxRecDepth 20000
theorem vcWrite (x : Sh) (T s : List UInt8) (z : Int) : VC.holds (runBox (cfgWr T s z) 100 Tryz.f100 [.ptr 0 true 0, .str false s] shSB (x, T) (fun y : Sh => (IsS y (T ++ s), .ptr 0 true 0, (y, T ++ s)))) = ((fun R0 : Nat → SV => ((fun R1 : Nat → SV => ((fun R2 : Nat → (Nat × Sh) → SV => ((fun R3 : Nat → (Nat × Sh) → SV => ((fun R4 : Nat → (Nat × Sh) → SV => ((fun R5 : Nat → (Nat × Sh) → SV => ((fun R6 : Nat → (Sh) → SV => ((fun R7 : Nat → (Sh) → SV => ((fun R8 : Nat → (Sh) → SV => ((fun R9 : Nat → (Nat × Sh) → SV => ((fun R10 : Nat → (Nat × Sh) → SV => ((fun R11 : Nat → (Nat × Sh) → SV => ((fun R12 : Nat → (Nat × Sh) → SV => ((fun R13 : Nat → (Nat × Sh) → SV => ((fun R14 : Nat → (Sh) → SV => ((fun R15 : Nat → (Sh) → SV => ((fun R16 : Nat → (Sh) → SV => ((fun R17 : Nat → (Nat × Sh) → SV => ((fun R18 : Nat → (Nat × Sh) → SV => ((fun R19 : Nat → (Nat × Sh) → SV => ((fun R20 : Nat → (Nat × Sh) → SV => ((fun R21 : Nat → (Nat × Sh) → SV => ((fun R22 : Nat → (Sh) → SV => ((fun R23 : Nat → (Sh) → SV => ((fun P0 : (Nat × Sh) → SB => ((fun P1 : (Nat × Sh) → SB => (((∃ (u10 : Nat × Sh), (u10.fst ≤ s.length ∧ IsSh u10.snd (T ++ List.take u10.fst s) ∧ u10.snd.size = z) ∧ s = List.drop u10.fst s ∧
 SBle (SB.cells [R0 0, R0 1, R0 2, R0 3, R0 4, R0 5, R0 6, R0 7, R1 0, R1 1, R1 2, R1 3, R1 4, R1 5, R1 6, R1 7, R1 8, R1 9, R1 10, R1 11, R1 12, R1 13, R1 14, R1 15, R1 16, R1 17, R1 18, R1 19, R1 20, R1 21, R1 22, R1 23, R1 24, R1 25, R1 26, R1 27, R1 28, R1 29, R1 30, R1 31, R1 32, R1 33, R1 34, R1 35, R1 36, R1 37, R1 38, R1 39, R1 40, R1 41, R1 42, R1 43, R1 44, R1 45, R1 46, R1 47, R1 48, R1 49, R1 50, R1 51, R1 52, R1 53, R1 54, R1 55, R1 56, R1 57, R1 58, R1 59, R1 60, R1 61, R1 62, R1 63, SV.int .i64 false x.held, SV.int .u64 false ((x.size + (s.length : Int) % 18446744073709551616) % 18446744073709551616)] 74 239) (SB.cells [R2 0 u10, R2 1 u10, R2 2 u10, R2 3 u10, R2 4 u10, R2 5 u10, R2 6 u10, R2 7 u10, R3 0 u10, R3 1 u10, R3 2 u10, R3 3 u10, R3 4 u10, R3 5 u10, R3 6 u10, R3 7 u10, R3 8 u10, R3 9 u10, R3 10 u10, R3 11 u10, R3 12 u10, R3 13 u10, R3 14 u10, R3 15 u10, R3 16 u10, R3 17 u10, R3 18 u10, R3 19 u10, R3 20 u10, R3 21 u10, R3 22 u10, R3 23 u10, R3 24 u10, R3 25 u10, R3 26 u10, R3 27 u10, R3 28 u10, R3 29 u10, R3 30 u10, R3 31 u10, R3 32 u10, R3 33 u10, R3 34 u10, R3 35 u10, R3 36 u10, R3 37 u10, R3 38 u10, R3 39 u10, R3 40 u10, R3 41 u10, R3 42 u10, R3 43 u10, R3 44 u10, R3 45 u10, R3 46 u10, R3 47 u10, R3 48 u10, R3 49 u10, R3 50 u10, R3 51 u10, R3 52 u10, R3 53 u10, R3 54 u10, R3 55 u10, R3 56 u10, R3 57 u10, R3 58 u10, R3 59 u10, R3 60 u10, R3 61 u10, R3 62 u10, R3 63 u10, SV.int .i64 false u10.snd.held, SV.int .u64 false u10.snd.size] 74 239) ∧
 True) ∧ ∀ (u9 : Nat × Sh), u9.fst ≤ s.length ∧ IsSh u9.snd (T ++ List.take u9.fst s) ∧ u9.snd.size = z → ((!decide (List.drop u9.fst s = [])) = true → (0 ≤ u9.snd.held ∧ u9.snd.held ≤ 64 ∧ (64 : Int) ≤ (64 : Int)) ∧ (decide (64 = u9.snd.held.toNat) = true → ((8 : Nat) ≤ (8 : Nat) ∧ 8 + (64 - u9.snd.held.toNat) ≤ 8 + (64 : Nat)) ∧ ((-9223372036854775808 : Int) ≤ u9.snd.held + (↑(min (List.drop u9.fst s).length (64 - u9.snd.held.toNat)) : Int) ∧ u9.snd.held + (↑(min (List.drop u9.fst s).length (64 - u9.snd.held.toNat)) : Int) ≤ 9223372036854775807) ∧ (0 ≤ (↑(min (List.drop u9.fst s).length (64 - u9.snd.held.toNat)) : Int) ∧ (↑(min (List.drop u9.fst s).length (64 - u9.snd.held.toNat)) : Int) ≤ (↑(List.drop u9.fst s).length : Int) ∧ (↑(List.drop u9.fst s).length : Int) ≤ (↑(List.drop u9.fst s).length : Int)) ∧ (decide (u9.snd.held + (↑(min (List.drop u9.fst s).length (64 - u9.snd.held.toNat)) : Int) = 64) = true →
 ∃ (u8 : Sh), SBle (P1 u9) (SB.cells [R6 0 u8, R6 1 u8, R6 2 u8, R6 3 u8, R6 4 u8, R6 5 u8, R6 6 u8, R6 7 u8, R7 0 u8, R7 1 u8, R7 2 u8, R7 3 u8, R7 4 u8, R7 5 u8, R7 6 u8, R7 7 u8, R7 8 u8, R7 9 u8, R7 10 u8, R7 11 u8, R7 12 u8, R7 13 u8, R7 14 u8, R7 15 u8, R7 16 u8, R7 17 u8, R7 18 u8, R7 19 u8, R7 20 u8, R7 21 u8, R7 22 u8, R7 23 u8, R7 24 u8, R7 25 u8, R7 26 u8, R7 27 u8, R7 28 u8, R7 29 u8, R7 30 u8, R7 31 u8, R7 32 u8, R7 33 u8, R7 34 u8, R7 35 u8, R7 36 u8, R7 37 u8, R7 38 u8, R7 39 u8, R7 40 u8, R7 41 u8, R7 42 u8, R7 43 u8, R7 44 u8, R7 45 u8, R7 46 u8, R7 47 u8, R7 48 u8, R7 49 u8, R7 50 u8, R7 51 u8, R7 52 u8, R7 53 u8, R7 54 u8, R7 55 u8, R7 56 u8, R7 57 u8, R7 58 u8, R7 59 u8, R7 60 u8, R7 61 u8, R7 62 u8, R7 63 u8, SV.int .i64 false u8.held, SV.int .u64 false u8.size] 74 239) ∧ u8.Ok ∧ ∀ (_u7 : Unit), True → ∃ (u6 : Nat × Sh), ((u6.fst ≤ s.length ∧ IsSh u6.snd (T ++ List.take u6.fst s) ∧ u6.snd.size = z) ∧ s.length - u6.fst < s.length - u9.fst) ∧ subStr (List.drop u9.fst s) (some (Operand.tmp 37)) none (↑(min (List.drop u9.fst s).length (64 - u9.snd.held.toNat)) : Int) (↑(List.drop u9.fst s).length : Int) = List.drop u6.fst s ∧
 SBle (SB.cells [R8 0 u8, R8 1 u8, R8 2 u8, R8 3 u8, R8 4 u8, R8 5 u8, R8 6 u8, R8 7 u8, R7 0 u8, R7 1 u8, R7 2 u8, R7 3 u8, R7 4 u8, R7 5 u8, R7 6 u8, R7 7 u8, R7 8 u8, R7 9 u8, R7 10 u8, R7 11 u8, R7 12 u8, R7 13 u8, R7 14 u8, R7 15 u8, R7 16 u8, R7 17 u8, R7 18 u8, R7 19 u8, R7 20 u8, R7 21 u8, R7 22 u8, R7 23 u8, R7 24 u8, R7 25 u8, R7 26 u8, R7 27 u8, R7 28 u8, R7 29 u8, R7 30 u8, R7 31 u8, R7 32 u8, R7 33 u8, R7 34 u8, R7 35 u8, R7 36 u8, R7 37 u8, R7 38 u8, R7 39 u8, R7 40 u8, R7 41 u8, R7 42 u8, R7 43 u8, R7 44 u8, R7 45 u8, R7 46 u8, R7 47 u8, R7 48 u8, R7 49 u8, R7 50 u8, R7 51 u8, R7 52 u8, R7 53 u8, R7 54 u8, R7 55 u8, R7 56 u8, R7 57 u8, R7 58 u8, R7 59 u8, R7 60 u8, R7 61 u8, R7 62 u8, R7 63 u8, SV.int .i64 true 0, SV.int .u64 false u8.size] 74 239) (SB.cells [R9 0 u6, R9 1 u6, R9 2 u6, R9 3 u6, R9 4 u6, R9 5 u6, R9 6 u6, R9 7 u6, R10 0 u6, R10 1 u6, R10 2 u6, R10 3 u6, R10 4 u6, R10 5 u6, R10 6 u6, R10 7 u6, R10 8 u6, R10 9 u6, R10 10 u6, R10 11 u6, R10 12 u6, R10 13 u6, R10 14 u6, R10 15 u6, R10 16 u6, R10 17 u6, R10 18 u6, R10 19 u6, R10 20 u6, R10 21 u6, R10 22 u6, R10 23 u6, R10 24 u6, R10 25 u6, R10 26 u6, R10 27 u6, R10 28 u6, R10 29 u6, R10 30 u6, R10 31 u6, R10 32 u6, R10 33 u6, R10 34 u6, R10 35 u6, R10 36 u6, R10 37 u6, R10 38 u6, R10 39 u6, R10 40 u6, R10 41 u6, R10 42 u6, R10 43 u6, R10 44 u6, R10 45 u6, R10 46 u6, R10 47 u6, R10 48 u6, R10 49 u6, R10 50 u6, R10 51 u6, R10 52 u6, R10 53 u6, R10 54 u6, R10 55 u6, R10 56 u6, R10 57 u6, R10 58 u6, R10 59 u6, R10 60 u6, R10 61 u6, R10 62 u6, R10 63 u6, SV.int .i64 false u6.snd.held, SV.int .u64 false u6.snd.size] 74 239) ∧
 True) ∧ (decide (u9.snd.held + (↑(min (List.drop u9.fst s).length (64 - u9.snd.held.toNat)) : Int) = 64) = false → ∃ (u5 : Nat × Sh), ((u5.fst ≤ s.length ∧ IsSh u5.snd (T ++ List.take u5.fst s) ∧ u5.snd.size = z) ∧ s.length - u5.fst < s.length - u9.fst) ∧ subStr (List.drop u9.fst s) (some (Operand.tmp 37)) none (↑(min (List.drop u9.fst s).length (64 - u9.snd.held.toNat)) : Int) (↑(List.drop u9.fst s).length : Int) = List.drop u5.fst s ∧
 SBle (P1 u9) (SB.cells [R11 0 u5, R11 1 u5, R11 2 u5, R11 3 u5, R11 4 u5, R11 5 u5, R11 6 u5, R11 7 u5, R12 0 u5, R12 1 u5, R12 2 u5, R12 3 u5, R12 4 u5, R12 5 u5, R12 6 u5, R12 7 u5, R12 8 u5, R12 9 u5, R12 10 u5, R12 11 u5, R12 12 u5, R12 13 u5, R12 14 u5, R12 15 u5, R12 16 u5, R12 17 u5, R12 18 u5, R12 19 u5, R12 20 u5, R12 21 u5, R12 22 u5, R12 23 u5, R12 24 u5, R12 25 u5, R12 26 u5, R12 27 u5, R12 28 u5, R12 29 u5, R12 30 u5, R12 31 u5, R12 32 u5, R12 33 u5, R12 34 u5, R12 35 u5, R12 36 u5, R12 37 u5, R12 38 u5, R12 39 u5, R12 40 u5, R12 41 u5, R12 42 u5, R12 43 u5, R12 44 u5, R12 45 u5, R12 46 u5, R12 47 u5, R12 48 u5, R12 49 u5, R12 50 u5, R12 51 u5, R12 52 u5, R12 53 u5, R12 54 u5, R12 55 u5, R12 56 u5, R12 57 u5, R12 58 u5, R12 59 u5, R12 60 u5, R12 61 u5, R12 62 u5, R12 63 u5, SV.int .i64 false u5.snd.held, SV.int .u64 false u5.snd.size] 74 239) ∧ True)) ∧ (decide (64 = u9.snd.held.toNat) = false → ((8 : Nat) ≤ 8 + u9.snd.held.toNat ∧ 8 + u9.snd.held.toNat + (64 - u9.snd.held.toNat) ≤ 8 + (64 : Nat)) ∧ ((-9223372036854775808 : Int) ≤ u9.snd.held + (↑(min (List.drop u9.fst s).length (64 - u9.snd.held.toNat)) : Int) ∧
 u9.snd.held + (↑(min (List.drop u9.fst s).length (64 - u9.snd.held.toNat)) : Int) ≤ 9223372036854775807) ∧ (0 ≤ (↑(min (List.drop u9.fst s).length (64 - u9.snd.held.toNat)) : Int) ∧ (↑(min (List.drop u9.fst s).length (64 - u9.snd.held.toNat)) : Int) ≤ (↑(List.drop u9.fst s).length : Int) ∧ (↑(List.drop u9.fst s).length : Int) ≤ (↑(List.drop u9.fst s).length : Int)) ∧ (decide (u9.snd.held + (↑(min (List.drop u9.fst s).length (64 - u9.snd.held.toNat)) : Int) = 64) = true →
 ∃ (u4 : Sh), SBle (P0 u9) (SB.cells [R14 0 u4, R14 1 u4, R14 2 u4, R14 3 u4, R14 4 u4, R14 5 u4, R14 6 u4, R14 7 u4, R15 0 u4, R15 1 u4, R15 2 u4, R15 3 u4, R15 4 u4, R15 5 u4, R15 6 u4, R15 7 u4, R15 8 u4, R15 9 u4, R15 10 u4, R15 11 u4, R15 12 u4, R15 13 u4, R15 14 u4, R15 15 u4, R15 16 u4, R15 17 u4, R15 18 u4, R15 19 u4, R15 20 u4, R15 21 u4, R15 22 u4, R15 23 u4, R15 24 u4, R15 25 u4, R15 26 u4, R15 27 u4, R15 28 u4, R15 29 u4, R15 30 u4, R15 31 u4, R15 32 u4, R15 33 u4, R15 34 u4, R15 35 u4, R15 36 u4, R15 37 u4, R15 38 u4, R15 39 u4, R15 40 u4, R15 41 u4, R15 42 u4, R15 43 u4, R15 44 u4, R15 45 u4, R15 46 u4, R15 47 u4, R15 48 u4, R15 49 u4, R15 50 u4, R15 51 u4, R15 52 u4, R15 53 u4, R15 54 u4, R15 55 u4, R15 56 u4, R15 57 u4, R15 58 u4, R15 59 u4, R15 60 u4, R15 61 u4, R15 62 u4, R15 63 u4, SV.int .i64 false u4.held, SV.int .u64 false u4.size] 74 239) ∧ u4.Ok ∧ ∀ (_u3 : Unit), True → ∃ (u2 : Nat × Sh), ((u2.fst ≤ s.length ∧ IsSh u2.snd (T ++ List.take u2.fst s) ∧ u2.snd.size = z) ∧ s.length - u2.fst < s.length - u9.fst) ∧
 subStr (List.drop u9.fst s) (some (Operand.tmp 37)) none (↑(min (List.drop u9.fst s).length (64 - u9.snd.held.toNat)) : Int) (↑(List.drop u9.fst s).length : Int) = List.drop u2.fst s ∧
 SBle (SB.cells [R16 0 u4, R16 1 u4, R16 2 u4, R16 3 u4, R16 4 u4, R16 5 u4, R16 6 u4, R16 7 u4, R15 0 u4, R15 1 u4, R15 2 u4, R15 3 u4, R15 4 u4, R15 5 u4, R15 6 u4, R15 7 u4, R15 8 u4, R15 9 u4, R15 10 u4, R15 11 u4, R15 12 u4, R15 13 u4, R15 14 u4, R15 15 u4, R15 16 u4, R15 17 u4, R15 18 u4, R15 19 u4, R15 20 u4, R15 21 u4, R15 22 u4, R15 23 u4, R15 24 u4, R15 25 u4, R15 26 u4, R15 27 u4, R15 28 u4, R15 29 u4, R15 30 u4, R15 31 u4, R15 32 u4, R15 33 u4, R15 34 u4, R15 35 u4, R15 36 u4, R15 37 u4, R15 38 u4, R15 39 u4, R15 40 u4, R15 41 u4, R15 42 u4, R15 43 u4, R15 44 u4, R15 45 u4, R15 46 u4, R15 47 u4, R15 48 u4, R15 49 u4, R15 50 u4, R15 51 u4, R15 52 u4, R15 53 u4, R15 54 u4, R15 55 u4, R15 56 u4, R15 57 u4, R15 58 u4, R15 59 u4, R15 60 u4, R15 61 u4, R15 62 u4, R15 63 u4, SV.int .i64 true 0, SV.int .u64 false u4.size] 74 239) (SB.cells [R17 0 u2, R17 1 u2, R17 2 u2, R17 3 u2, R17 4 u2, R17 5 u2, R17 6 u2, R17 7 u2, R18 0 u2, R18 1 u2, R18 2 u2, R18 3 u2, R18 4 u2, R18 5 u2, R18 6 u2, R18 7 u2, R18 8 u2, R18 9 u2, R18 10 u2, R18 11 u2, R18 12 u2, R18 13 u2, R18 14 u2, R18 15 u2, R18 16 u2, R18 17 u2, R18 18 u2, R18 19 u2, R18 20 u2, R18 21 u2, R18 22 u2, R18 23 u2, R18 24 u2, R18 25 u2, R18 26 u2, R18 27 u2, R18 28 u2, R18 29 u2, R18 30 u2, R18 31 u2, R18 32 u2, R18 33 u2, R18 34 u2, R18 35 u2, R18 36 u2, R18 37 u2, R18 38 u2, R18 39 u2, R18 40 u2, R18 41 u2, R18 42 u2, R18 43 u2, R18 44 u2, R18 45 u2, R18 46 u2, R18 47 u2, R18 48 u2, R18 49 u2, R18 50 u2, R18 51 u2, R18 52 u2, R18 53 u2, R18 54 u2, R18 55 u2, R18 56 u2, R18 57 u2, R18 58 u2, R18 59 u2, R18 60 u2, R18 61 u2, R18 62 u2, R18 63 u2, SV.int .i64 false u2.snd.held, SV.int .u64 false u2.snd.size] 74 239) ∧
 True) ∧ (decide (u9.snd.held + (↑(min (List.drop u9.fst s).length (64 - u9.snd.held.toNat)) : Int) = 64) = false → ∃ (u1 : Nat × Sh), ((u1.fst ≤ s.length ∧ IsSh u1.snd (T ++ List.take u1.fst s) ∧ u1.snd.size = z) ∧ s.length - u1.fst < s.length - u9.fst) ∧ subStr (List.drop u9.fst s) (some (Operand.tmp 37)) none (↑(min (List.drop u9.fst s).length (64 - u9.snd.held.toNat)) : Int) (↑(List.drop u9.fst s).length : Int) = List.drop u1.fst s ∧
 SBle (P0 u9) (SB.cells [R19 0 u1, R19 1 u1, R19 2 u1, R19 3 u1, R19 4 u1, R19 5 u1, R19 6 u1, R19 7 u1, R20 0 u1, R20 1 u1, R20 2 u1, R20 3 u1, R20 4 u1, R20 5 u1, R20 6 u1, R20 7 u1, R20 8 u1, R20 9 u1, R20 10 u1, R20 11 u1, R20 12 u1, R20 13 u1, R20 14 u1, R20 15 u1, R20 16 u1, R20 17 u1, R20 18 u1, R20 19 u1, R20 20 u1, R20 21 u1, R20 22 u1, R20 23 u1, R20 24 u1, R20 25 u1, R20 26 u1, R20 27 u1, R20 28 u1, R20 29 u1, R20 30 u1, R20 31 u1, R20 32 u1, R20 33 u1, R20 34 u1, R20 35 u1, R20 36 u1, R20 37 u1, R20 38 u1, R20 39 u1, R20 40 u1, R20 41 u1, R20 42 u1, R20 43 u1, R20 44 u1, R20 45 u1, R20 46 u1, R20 47 u1, R20 48 u1, R20 49 u1, R20 50 u1, R20 51 u1, R20 52 u1, R20 53 u1, R20 54 u1, R20 55 u1, R20 56 u1, R20 57 u1, R20 58 u1, R20 59 u1, R20 60 u1, R20 61 u1, R20 62 u1, R20 63 u1, SV.int .i64 false u1.snd.held, SV.int .u64 false u1.snd.size] 74 239) ∧ True))) ∧ ((!decide (List.drop u9.fst s = [])) = false → ∃ (u0 : Sh), IsS u0 (T ++ s) ∧
 SBle (SB.cells [R4 0 u9, R4 1 u9, R4 2 u9, R4 3 u9, R4 4 u9, R4 5 u9, R4 6 u9, R4 7 u9, R21 0 u9, R21 1 u9, R21 2 u9, R21 3 u9, R21 4 u9, R21 5 u9, R21 6 u9, R21 7 u9, R21 8 u9, R21 9 u9, R21 10 u9, R21 11 u9, R21 12 u9, R21 13 u9, R21 14 u9, R21 15 u9, R21 16 u9, R21 17 u9, R21 18 u9, R21 19 u9, R21 20 u9, R21 21 u9, R21 22 u9, R21 23 u9, R21 24 u9, R21 25 u9, R21 26 u9, R21 27 u9, R21 28 u9, R21 29 u9, R21 30 u9, R21 31 u9, R21 32 u9, R21 33 u9, R21 34 u9, R21 35 u9, R21 36 u9, R21 37 u9, R21 38 u9, R21 39 u9, R21 40 u9, R21 41 u9, R21 42 u9, R21 43 u9, R21 44 u9, R21 45 u9, R21 46 u9, R21 47 u9, R21 48 u9, R21 49 u9, R21 50 u9, R21 51 u9, R21 52 u9, R21 53 u9, R21 54 u9, R21 55 u9, R21 56 u9, R21 57 u9, R21 58 u9, R21 59 u9, R21 60 u9, R21 61 u9, R21 62 u9, R21 63 u9, SV.int .i64 false u9.snd.held, SV.int .u64 false u9.snd.size] 74 239) (SB.cells [R22 0 u0, R22 1 u0, R22 2 u0, R22 3 u0, R22 4 u0, R22 5 u0, R22 6 u0, R22 7 u0, R23 0 u0, R23 1 u0, R23 2 u0, R23 3 u0, R23 4 u0, R23 5 u0, R23 6 u0, R23 7 u0, R23 8 u0, R23 9 u0, R23 10 u0, R23 11 u0, R23 12 u0, R23 13 u0, R23 14 u0, R23 15 u0, R23 16 u0, R23 17 u0, R23 18 u0, R23 19 u0, R23 20 u0, R23 21 u0, R23 22 u0, R23 23 u0, R23 24 u0, R23 25 u0, R23 26 u0, R23 27 u0, R23 28 u0, R23 29 u0, R23 30 u0, R23 31 u0, R23 32 u0, R23 33 u0, R23 34 u0, R23 35 u0, R23 36 u0, R23 37 u0, R23 38 u0, R23 39 u0, R23 40 u0, R23 41 u0, R23 42 u0, R23 43 u0, R23 44 u0, R23 45 u0, R23 46 u0, R23 47 u0, R23 48 u0, R23 49 u0, R23 50 u0, R23 51 u0, R23 52 u0, R23 53 u0, R23 54 u0, R23 55 u0, R23 56 u0, R23 57 u0, R23 58 u0, R23 59 u0, R23 60 u0, R23 61 u0, R23 62 u0, R23 63 u0, SV.int .i64 false u0.held, SV.int .u64 false u0.size] 74 239) ∧
 sameVal (SV.ptr 0 true 0) (SV.ptr 0 true 0))))) (fun (u9 : Nat × Sh) => (SB.cells [R4 0 u9, R4 1 u9, R4 2 u9, R4 3 u9, R4 4 u9, R4 5 u9, R4 6 u9, R4 7 u9, R5 0 u9, R5 1 u9, R5 2 u9, R5 3 u9, R5 4 u9, R5 5 u9, R5 6 u9, R5 7 u9, R5 8 u9, R5 9 u9, R5 10 u9, R5 11 u9, R5 12 u9, R5 13 u9, R5 14 u9, R5 15 u9, R5 16 u9, R5 17 u9, R5 18 u9, R5 19 u9, R5 20 u9, R5 21 u9, R5 22 u9, R5 23 u9, R5 24 u9, R5 25 u9, R5 26 u9, R5 27 u9, R5 28 u9, R5 29 u9, R5 30 u9, R5 31 u9, R5 32 u9, R5 33 u9, R5 34 u9, R5 35 u9, R5 36 u9, R5 37 u9, R5 38 u9, R5 39 u9, R5 40 u9, R5 41 u9, R5 42 u9, R5 43 u9, R5 44 u9, R5 45 u9, R5 46 u9, R5 47 u9, R5 48 u9, R5 49 u9, R5 50 u9, R5 51 u9, R5 52 u9, R5 53 u9, R5 54 u9, R5 55 u9, R5 56 u9, R5 57 u9, R5 58 u9, R5 59 u9, R5 60 u9, R5 61 u9, R5 62 u9, R5 63 u9, SV.int .i64 false (u9.snd.held + (↑(min (List.drop u9.fst s).length (64 - u9.snd.held.toNat)) : Int)), SV.int .u64 false u9.snd.size] 74 239)))) (fun (u9 : Nat × Sh) => (SB.cells [R4 0 u9, R4 1 u9, R4 2 u9, R4 3 u9, R4 4 u9, R4 5 u9, R4 6 u9, R4 7 u9, R13 0 u9, R13 1 u9, R13 2 u9, R13 3 u9, R13 4 u9, R13 5 u9, R13 6 u9, R13 7 u9, R13 8 u9, R13 9 u9, R13 10 u9, R13 11 u9, R13 12 u9, R13 13 u9, R13 14 u9, R13 15 u9, R13 16 u9, R13 17 u9, R13 18 u9, R13 19 u9, R13 20 u9, R13 21 u9, R13 22 u9, R13 23 u9, R13 24 u9, R13 25 u9, R13 26 u9, R13 27 u9, R13 28 u9, R13 29 u9, R13 30 u9, R13 31 u9, R13 32 u9, R13 33 u9, R13 34 u9, R13 35 u9, R13 36 u9, R13 37 u9, R13 38 u9, R13 39 u9, R13 40 u9, R13 41 u9, R13 42 u9, R13 43 u9, R13 44 u9, R13 45 u9, R13 46 u9, R13 47 u9, R13 48 u9, R13 49 u9, R13 50 u9, R13 51 u9, R13 52 u9, R13 53 u9, R13 54 u9, R13 55 u9, R13 56 u9, R13 57 u9, R13 58 u9, R13 59 u9, R13 60 u9, R13 61 u9, R13 62 u9, R13 63 u9, SV.int .i64 false (u9.snd.held + (↑(min (List.drop u9.fst s).length (64 - u9.snd.held.toNat)) : Int)), SV.int .u64 false u9.snd.size] 74 239)))) (fun (n0 : Nat) (u0 : Sh) => SV.int .u8 false (u0.B n0)))) (fun (n0 : Nat) (u0 : Sh) => SV.int .u32 false (u0.W n0)))) (fun (n0 : Nat) (u9 : Nat × Sh) => SV.int .u8 false (u9.snd.B n0)))) (fun (n0 : Nat) (u1 : Nat × Sh) => SV.int .u8 false (u1.snd.B n0)))) (fun (n0 : Nat) (u1 : Nat × Sh) => SV.int .u32 false (u1.snd.W n0)))) (fun (n0 : Nat) (u2 : Nat × Sh) => SV.int .u8 false (u2.snd.B n0)))) (fun (n0 : Nat) (u2 : Nat × Sh) => SV.int .u32 false (u2.snd.W n0)))) (fun (n0 : Nat) (u4 : Sh) => SV.int .u32 false (mixS u4.W u4.B n0)))) (fun (n0 : Nat) (u4 : Sh) => SV.int .u8 false (u4.B n0)))) (fun (n0 : Nat) (u4 : Sh) => SV.int .u32 false (u4.W n0)))) (fun (n0 : Nat) (u9 : Nat × Sh) => SV.int .u8 false (if 8 + u9.snd.held.toNat - 8 ≤ (n0 : Nat) ∧ (n0 : Nat) < 8 + u9.snd.held.toNat - 8 + min (List.drop u9.fst s).length (64 - u9.snd.held.toNat) then (↑((List.drop u9.fst s).getD (n0 - (8 + u9.snd.held.toNat - 8)) (0 : UInt8)).toNat : Int) else u9.snd.B n0)))) (fun (n0 : Nat) (u5 : Nat × Sh) => SV.int .u8 false (u5.snd.B n0)))) (fun (n0 : Nat) (u5 : Nat × Sh) => SV.int .u32 false (u5.snd.W n0)))) (fun (n0 : Nat) (u6 : Nat × Sh) => SV.int .u8 false (u6.snd.B n0)))) (fun (n0 : Nat) (u6 : Nat × Sh) => SV.int .u32 false (u6.snd.W n0)))) (fun (n0 : Nat) (u8 : Sh) => SV.int .u32 false (mixS u8.W u8.B n0)))) (fun (n0 : Nat) (u8 : Sh) => SV.int .u8 false (u8.B n0)))) (fun (n0 : Nat) (u8 : Sh) => SV.int .u32 false (u8.W n0)))) (fun (n0 : Nat) (u9 : Nat × Sh) => SV.int .u8 false (if (0 : Nat) ≤ (n0 : Nat) ∧ (n0 : Nat) < 0 + min (List.drop u9.fst s).length (64 - u9.snd.held.toNat) then (↑((List.drop u9.fst s).getD n0 (0 : UInt8)).toNat : Int) else u9.snd.B n0)))) (fun (n0 : Nat) (u9 : Nat × Sh) => SV.int .u32 false (u9.snd.W n0)))) (fun (n0 : Nat) (u10 : Nat × Sh) => SV.int .u8 false (u10.snd.B n0)))) (fun (n0 : Nat) (u10 : Nat × Sh) => SV.int .u32 false (u10.snd.W n0)))) (fun (n0 : Nat)  => SV.int .u8 false (x.B n0)))) (fun (n0 : Nat)  => SV.int .u32 false (x.W n0))) := by kernel_rfl
end Go.Proofs.YtoalfimkkibpdaaGreatDoor
/-
  Hashes: what is written behind what was written: the contract.
-/
namespace Go.Proofs.YtoalfimkkibpdaaGreatDoor
open Go Sx
set_option maxRecDepth 20000
theorem wL_congr {B B' : Nat → Int} (h : ∀ j, j < 64 → B j = B' j) : ∀ (n j : Nat), wL B n j = wL B' n j
  | 0, j => by
    unfold wL
    by_cases e : j < 16
    · simp only [e, if_true, wordB, h (4 * j) (by omega), h (4 * j + 1) (by omega), h (4 * j + 2) (by omega), h (4 * j + 3) (by omega)]
    · simp only [e, if_false]
  | n + 1, j => by simp only [wL_succ, wL_congr h n]
theorem roundV_congr {v v' : Nat → Int} (h : ∀ j, j < 8 → v j = v' j) (k w : Int) : ∀ j, j < 8 → roundV v k w j = roundV v' k w j := by
  have h0 := h 0 (by decide)
  have h1 := h 1 (by decide)
  have h2 := h 2 (by decide)
  have h3 := h 3 (by decide)
  have h4 := h 4 (by decide)
  have h5 := h 5 (by decide)
  have h6 := h 6 (by decide)
  have h7 := h 7 (by decide)
  intro j hj
  match j, hj with
  | 0, _ => simp only [roundV, t1F, t2F, h0, h1, h2, h4, h5, h6, h7]
  | 1, _ => exact h0
  | 2, _ => exact h1
  | 3, _ => exact h2
  | 4, _ => simp only [roundV, t1F, h3, h4, h5, h6, h7]
  | 5, _ => exact h4
  | 6, _ => exact h5
  | 7, _ => exact h6
theorem vAt_congr {W W' B B' : Nat → Int} (hW : ∀ j, j < 8 → W j = W' j) (hB : ∀ j, j < 64 → B j = B' j) : ∀ i j, j < 8 → vAt W B i j = vAt W' B' i j
  | 0, j, hj => hW j hj
  | i + 1, j, hj => by
    simp only [vAt]
    rw [roundV_congr (vAt_congr hW hB i) _ _ j hj, wL_congr hB]
theorem mixS_congr {W W' B B' : Nat → Int} (hW : ∀ j, j < 8 → W j = W' j) (hB : ∀ j, j < 64 → B j = B' j) (j : Nat) (hj : j < 8) : mixS W B j = mixS W' B' j := by
  simp only [mixS, hW j hj, vAt_congr hW hB 64 j hj]
theorem blkAt_eq (T : List UInt8) (q j : Nat) : blkAt T q j = ((T.getD (64 * q + j) 0).toNat : Int) := by
  unfold blkAt byteAt
  rw [Int.toNat_natCast]
theorem blkAt_left {T : List UInt8} (D : List UInt8) {q j : Nat} (h : 64 * q + j < T.length) : blkAt (T ++ D) q j = blkAt T q j := by
  rw [blkAt_eq, blkAt_eq, List.getD_eq_getElem?_getD, List.getD_eq_getElem?_getD, List.getElem?_append_left h]
theorem blkAt_right {T : List UInt8} (D : List UInt8) {q j : Nat} (h : T.length ≤ 64 * q + j) : blkAt (T ++ D) q j = ((D.getD (64 * q + j - T.length) 0).toNat : Int) := by
  rw [blkAt_eq, List.getD_eq_getElem?_getD, List.getD_eq_getElem?_getD, List.getElem?_append_right h]
theorem words_append (T D : List UInt8) : ∀ q, 64 * q ≤ T.length → ∀ j, j < 8 → wordsAt (T ++ D) q j = wordsAt T q j
  | 0, _, _, _ => rfl
  | q + 1, h, j, hj => by
    simp only [wordsAt]
    exact mixS_congr (words_append T D q (by omega)) (fun i hi => blkAt_left D (by omega)) j hj
theorem mixS_u {W B : Nat → Int} (j : Nat) : U (mixS W B j) := um _
theorem getD_255 (D : List UInt8) (i : Nat) : 0 ≤ ((D.getD i 0).toNat : Int) ∧ ((D.getD i 0).toNat : Int) ≤ 255 := by
  have := (D.getD i 0).toNat_lt; omega
theorem getD_take {D : List UInt8} {n i : Nat} (h : i < n) : (D.take n).getD i 0 = D.getD i 0 := by
  rw [List.getD_eq_getElem?_getD, List.getD_eq_getElem?_getD, List.getElem?_take_of_lt h]
theorem put_ok {x : Sh} {T : List UInt8} (h : IsSh x T) (D : List UInt8) : (putSh x D).Ok := by
  refine ⟨h.ok.w, fun j hj => ?_⟩
  unfold putSh
  simp only
  split
  · exact getD_255 _ _
  · exact h.ok.b j hj
theorem put_b {x : Sh} {T : List UInt8} (h : IsSh x T) {D : List UInt8} (j : Nat) (hj : j < T.length % 64 + min D.length (64 - T.length % 64)) : (putSh x D).B j = blkAt (T ++ D.take (min D.length (64 - T.length % 64))) (T.length / 64) j := by
  have hh := h.h
  have e : x.held.toNat = T.length % 64 := by omega
  unfold putSh
  simp only [e]
  have hd := Nat.div_add_mod T.length 64
  by_cases c : j < T.length % 64
  · rw [if_neg (by omega), h.b j c, blkAt_left _ (by omega)]
  · rw [if_pos (by omega), blkAt_right _ (by omega), getD_take (by omega)]
    congr 3
    omega
theorem put_part {x : Sh} {T D : List UInt8} (h : IsSh x T) (hc : T.length % 64 + min D.length (64 - T.length % 64) < 64) : IsSh (putSh x D) (T ++ D.take (min D.length (64 - T.length % 64))) := by
  have hl : (T ++ D.take (min D.length (64 - T.length % 64))).length = T.length + min D.length (64 - T.length % 64) := by
    rw [List.length_append, List.length_take]; omega
  have hd := Nat.div_add_mod T.length 64
  have e1 : (T ++ D.take (min D.length (64 - T.length % 64))).length / 64 = T.length / 64 := by omega
  have e2 : (T ++ D.take (min D.length (64 - T.length % 64))).length % 64 = T.length % 64 + min D.length (64 - T.length % 64) := by omega
  refine ⟨put_ok h D, fun j hj => ?_, fun j hj => ?_, ?_⟩
  · rw [e1, words_append _ _ _ (by omega) j hj]; exact h.w j hj
  · rw [e2] at hj
    rw [e1]; exact put_b h j hj
  · have hh := h.h
    have e : x.held.toNat = T.length % 64 := by omega
    rw [e2]
    show x.held + ((min D.length (64 - x.held.toNat) : Nat) : Int) = _
    rw [e]; omega
theorem put_full {x : Sh} {T D : List UInt8} (h : IsSh x T) (hc : T.length % 64 + min D.length (64 - T.length % 64) = 64) : IsSh ⟨mixS (putSh x D).W (putSh x D).B, (putSh x D).B, 0, (putSh x D).size⟩ (T ++ D.take (min D.length (64 - T.length % 64))) := by
  have hl : (T ++ D.take (min D.length (64 - T.length % 64))).length = T.length + min D.length (64 - T.length % 64) := by
    rw [List.length_append, List.length_take]; omega
  have hd := Nat.div_add_mod T.length 64
  have e1 : (T ++ D.take (min D.length (64 - T.length % 64))).length / 64 = T.length / 64 + 1 := by omega
  have e2 : (T ++ D.take (min D.length (64 - T.length % 64))).length % 64 = 0 := by omega
  refine ⟨⟨fun j hj => mixS_u j, (put_ok h D).b⟩, fun j hj => ?_, fun j hj => ?_, ?_⟩
  · rw [e1]
    simp only [wordsAt]
    refine mixS_congr (fun i hi => ?_) (fun i hi => ?_) j hj
    · rw [words_append _ _ _ (by omega) i hi]; exact h.w i hi
    · exact put_b h i (by omega)
  · rw [e2] at hj; exact absurd hj (Nat.not_lt_zero _)
  · rw [e2]; rfl
theorem write_holds {x : Sh} {T s : List UInt8} (hx : IsS x T) (_hs : s.length < 1152921504606846976) :
    Holds (runBox (cfgWr T s (((T ++ s).length : Int) % 18446744073709551616)) 100 Tryz.f100 [.ptr 0 true 0, .str false s] shSB (x, T) (fun y : Sh => (IsS y (T ++ s), .ptr 0 true 0, (y, T ++ s)))) := by
  refine Holds.of_eq (vcWrite x T s _) ?_
  dsimp only
  obtain ⟨hx, hz⟩ := hx
  refine ⟨⟨(0, ⟨x.W, x.B, x.held, (x.size + (s.length : Int) % 18446744073709551616) % 18446744073709551616⟩), ⟨Nat.zero_le _, ?_, ?_⟩, rfl, SBle.refl _, trivial⟩, fun g hg => ⟨fun a => ?_, fun a => ?_⟩⟩
  · show IsSh _ (T ++ s.take 0)
    rw [List.take_zero, List.append_nil]
    exact ⟨⟨hx.ok.w, hx.ok.b⟩, hx.w, hx.b, hx.h⟩
  · show (x.size + (s.length : Int) % 18446744073709551616) % 18446744073709551616 = _
    rw [hz, List.length_append]
    omega
  · obtain ⟨hk, hi, hsz⟩ := hg
    have hD : s.drop g.1 ≠ [] := by simpa using a
    have hh := hi.h
    generalize hT : T ++ s.take g.1 = T' at hi hh
    have e : g.2.held.toNat = T'.length % 64 := by omega
    have hlt : T'.length % 64 < 64 := Nat.mod_lt _ (by decide)
    have hp := List.length_pos_iff.2 hD
    have hdl : (s.drop g.1).length = s.length - g.1 := List.length_drop ..
    have hmin : min (s.drop g.1).length (64 - g.2.held.toNat) = min (s.drop g.1).length (64 - T'.length % 64) := by rw [e]
    generalize hc : min (s.drop g.1).length (64 - g.2.held.toNat) = cnt at hmin ⊢
    have hT2 : T ++ s.take (g.1 + cnt) = T' ++ (s.drop g.1).take cnt := by
      rw [← hT, List.append_assoc, List.take_add]
    have hsub : subStr (s.drop g.1) (some (Operand.tmp 37)) none (cnt : Int) ((s.drop g.1).length : Int) = s.drop (g.1 + cnt) := by
      simp only [subStr, Int.toNat_natCast, List.drop_drop]
    have rest : ∀ {p : Prop}, (8 ≤ 8 + g.2.held.toNat ∧ 8 + g.2.held.toNat + (64 - g.2.held.toNat) ≤ 8 + 64 → (-9223372036854775808 ≤ g.2.held + (cnt : Int) ∧ g.2.held + (cnt : Int) ≤ 9223372036854775807) → (0 ≤ (cnt : Int) ∧ (cnt : Int) ≤ ((s.drop g.1).length : Int) ∧ ((s.drop g.1).length : Int) ≤ ((s.drop g.1).length : Int)) → p) → p := fun h => h (by omega) (by omega) (by omega)
    refine ⟨by omega, fun b => absurd (of_decide_eq_true b) (by omega), fun _ => rest fun r1 r2 r3 => ⟨r1, r2, r3, fun b => ?_, fun b => ?_⟩⟩
    · have b := of_decide_eq_true b
      refine ⟨putSh g.2 (s.drop g.1), ?_, put_ok hi _, fun _ _ => ⟨(g.1 + cnt, ⟨mixS (putSh g.2 (s.drop g.1)).W (putSh g.2 (s.drop g.1)).B, (putSh g.2 (s.drop g.1)).B, 0, (putSh g.2 (s.drop g.1)).size⟩), ⟨⟨?_, ?_, hsz⟩, ?_⟩, hsub, Sx.SBle.cells (fun E => rfl) rfl, trivial⟩⟩
      · subst hc; exact SBle.refl _
      · show g.1 + cnt ≤ s.length; omega
      · show IsSh _ (T ++ s.take (g.1 + cnt))
        rw [hT2, hmin]
        exact put_full hi (by omega)
      · show s.length - (g.1 + cnt) < s.length - g.1; omega
    · have b := of_decide_eq_false b
      refine ⟨(g.1 + cnt, putSh g.2 (s.drop g.1)), ⟨⟨?_, ?_, hsz⟩, ?_⟩, hsub, ?_, trivial⟩
      · show g.1 + cnt ≤ s.length; omega
      · show IsSh _ (T ++ s.take (g.1 + cnt))
        rw [hT2, hmin]
        exact put_part hi (by omega)
      · show s.length - (g.1 + cnt) < s.length - g.1; omega
      · subst hc; exact SBle.refl _
  · obtain ⟨hk, hi, hsz⟩ := hg
    have hD : s.drop g.1 = [] := by simpa using a
    have hl : (s.drop g.1).length = 0 := by rw [hD]; rfl
    rw [List.length_drop] at hl
    rw [List.take_of_length_le (by omega)] at hi
    exact ⟨g.2, ⟨hi, hsz⟩, SBle.refl _, fun _ => rfl⟩
theorem shSB_ok (x : Sh × List UInt8) : (shSB x).wf 0 = true ∧ (shSB x).ro = false ∧ (shSB x).no = false := ⟨rfl, rfl, rfl⟩
theorem write_ok : CallOk Tryz.prog 100 (boxPT shSB writeSpec) := by
  refine box_ok (n := 20) (fn := Tryz.f100) Tryz.func100 (by kernel_rfl) (by kernel_rfl) shSB_ok ?_
  intro args g x h hp
  unfold writeSpec at h
  split at h
  · rename_i s
    injection h with h; subst h
    obtain ⟨x, T⟩ := x
    exact ⟨cfgWr T s (((T ++ s).length : Int) % 18446744073709551616), [.ptr 0 true 0, .str false s], goodWr _ _ _, fun E => rfl, rfl, fun _ => rfl, write_holds hp.1 hp.2⟩
  · cases h
end Go.Proofs.YtoalfimkkibpdaaGreatDoor
/-
  Hashes: what a text's hash is: the set-up.
-/
namespace Go.Proofs.YtoalfimkkibpdaaGreatDoor
open Go Sx
set_option maxRecDepth 20000
def sizeB (n : Int) : List UInt8 := [UInt8.ofNat (n / 72057594037927936 % 256).toNat, UInt8.ofNat (n / 281474976710656 % 256).toNat, UInt8.ofNat (n / 1099511627776 % 256).toNat, UInt8.ofNat (n / 4294967296 % 256).toNat, UInt8.ofNat (n / 16777216 % 256).toNat, UInt8.ofNat (n / 65536 % 256).toNat, UInt8.ofNat (n / 256 % 256).toNat, UInt8.ofNat (n / 1 % 256).toNat]
def zerosN (T : List UInt8) : Nat := (119 - T.length % 64) % 64
def tailL (T : List UInt8) : List UInt8 := 128 :: (List.replicate (zerosN T) 0 ++ sizeB ((T.length : Int) % 18446744073709551616 * 8 % 18446744073709551616))
def padT (T : List UInt8) : List UInt8 := T ++ tailL T
def outW (W : Nat → Int) : List UInt8 := [UInt8.ofNat (W 0 / 16777216 % 256).toNat, UInt8.ofNat (W 0 / 65536 % 256).toNat, UInt8.ofNat (W 0 / 256 % 256).toNat, UInt8.ofNat (W 0 % 256).toNat, UInt8.ofNat (W 1 / 16777216 % 256).toNat, UInt8.ofNat (W 1 / 65536 % 256).toNat, UInt8.ofNat (W 1 / 256 % 256).toNat, UInt8.ofNat (W 1 % 256).toNat, UInt8.ofNat (W 2 / 16777216 % 256).toNat, UInt8.ofNat (W 2 / 65536 % 256).toNat, UInt8.ofNat (W 2 / 256 % 256).toNat, UInt8.ofNat (W 2 % 256).toNat, UInt8.ofNat (W 3 / 16777216 % 256).toNat, UInt8.ofNat (W 3 / 65536 % 256).toNat, UInt8.ofNat (W 3 / 256 % 256).toNat, UInt8.ofNat (W 3 % 256).toNat, UInt8.ofNat (W 4 / 16777216 % 256).toNat, UInt8.ofNat (W 4 / 65536 % 256).toNat, UInt8.ofNat (W 4 / 256 % 256).toNat, UInt8.ofNat (W 4 % 256).toNat, UInt8.ofNat (W 5 / 16777216 % 256).toNat, UInt8.ofNat (W 5 / 65536 % 256).toNat, UInt8.ofNat (W 5 / 256 % 256).toNat, UInt8.ofNat (W 5 % 256).toNat, UInt8.ofNat (W 6 / 16777216 % 256).toNat, UInt8.ofNat (W 6 / 65536 % 256).toNat, UInt8.ofNat (W 6 / 256 % 256).toNat, UInt8.ofNat (W 6 % 256).toNat, UInt8.ofNat (W 7 / 16777216 % 256).toNat, UInt8.ofNat (W 7 / 65536 % 256).toNat, UInt8.ofNat (W 7 / 256 % 256).toNat, UInt8.ofNat (W 7 % 256).toNat]
def shaL (T : List UInt8) : List UInt8 := outW (wordsAt (padT T) ((padT T).length / 64))
noncomputable def listS4 : List (FuncId × PT) := (100, boxPT shSB writeSpec) :: reflList
theorem listS4_ok : SummOk Tryz.prog (fun f => lookPT f listS4) := .cons write_ok (boxPT_mono _ _) reflList_ok
noncomputable def cfgS4 : Cfg := { cfg0 with summ := fun f => lookPT f listS4 }
theorem goodS4 : Sx.Good Tryz.prog cfgS4 := ⟨mixes, listS4_ok, fns_ok⟩
def sumSpec : List SV → Option (Sh × List UInt8 → Prop × (Unit → Prop × SV × (Sh × List UInt8)))
  | [.ptr 0 true 0] => some fun g => (IsS g.1 g.2 ∧ g.2.length < 1152921504606846976, fun _ => (True, .str false (shaL g.2), g))
  | _ => none
noncomputable def listS5 : List (FuncId × PT) := (101, boxPT shSB sumSpec) :: listS4
noncomputable def annOf (n : Nat) (f : Nat → List UInt8) : LoopAnn :=
  { α := Nat × Sh, pre := fun _ x => x.1 ≤ n ∧ IsS x.2 (flat (rowL f 0 x.1)), mea := fun _ x => n - x.1, fresh := 0, slots := fun _ x => [(9, .int .i64 false x.1)], mem := fun _ x => [(1, x.2.sb)] }
noncomputable def cfgOf (n : Nat) (f : Nat → List UInt8) : Cfg := { cfg0 with summ := fun f => lookPT f listS5, anns := fun g => if g = 64 then [(3, always (annOf n f))] else [] }
def ofQ (l : List (List UInt8)) : Prop := (flat l).length < 1152921504606846976 ∧ l.length < 1152921504606846976
def ofG (l : List (List UInt8)) : SV := .str false (shaL (flat l))
end Go.Proofs.YtoalfimkkibpdaaGreatDoor
/-
  Conditions that the executor computes, written out by a program (vcgen.py).
-/
namespace Go.Proofs.YtoalfimkkibpdaaGreatDoor
open Go Sx
set_option maxRecDepth 20000
theorem vcSum (x : Sh) (T : List UInt8) : VC.holds (runBox cfgS4 101 Tryz.f101 [.ptr 0 true 0] shSB (x, T) (fun _ : Unit => (True, .str false (shaL T), (x, T)))) = ((fun R0 : Nat → SV => ((fun R1 : Nat → SV => ((fun R2 : Nat → (Sh × List UInt8) → SV => ((fun R3 : Nat → (Sh × List UInt8) → SV => ((((-9223372036854775808 : Int) ≤ 119 - x.held ∧ 119 - x.held ≤ 9223372036854775807) ∧ ((0 : Int) ≤ 119 - x.held ∧ 119 - x.held ≤ 9223372036854775807 ∧ (0 : Int) < (64 : Int)) ∧ ((-9223372036854775808 : Int) ≤ 1 + (119 - x.held) % 64 ∧ 1 + (119 - x.held) % 64 ≤ (9223372036854775807 : Int)) ∧ ((-9223372036854775808 : Int) ≤ 1 + (119 - x.held) % 64 + (8 : Int) ∧ 1 + (119 - x.held) % 64 + (8 : Int) ≤ (9223372036854775807 : Int)) ∧ (1 + (119 - x.held) % 64 + (8 : Int) = 1 + (119 - x.held) % 64 + (8 : Int) ∧ (0 : Int) ≤ 1 + (119 - x.held) % 64 + (8 : Int) ∧ 1 * (1 + (119 - x.held) % 64 + (8 : Int)) ≤ 140737488355328 ∧ 1 + (119 - x.held) % 64 + (8 : Int) ≤ (9223372036854775807 : Int)) ∧ ((0 : Int) ≤ (0 : Int) ∧ 0 < (↑(1 + (119 - x.held) % 64 + (8 : Int)).toNat : Int)) ∧ 0 < (1 + (119 - x.held) % 64 + (8 : Int)).toNat ∧ ((-9223372036854775808 : Int) ≤ 1 + (119 - x.held) % 64 ∧ 1 + (119 - x.held) % 64 ≤ (9223372036854775807 : Int)) ∧ ((-9223372036854775808 : Int) ≤ 1 + (119 - x.held) % 64 + (0 : Int) ∧ 1 + (119 - x.held) % 64 + (0 : Int) ≤ (9223372036854775807 : Int)) ∧ ((0 : Int) ≤ 1 + (119 - x.held) % 64 + (0 : Int) ∧
 1 + (119 - x.held) % 64 + 0 < (↑(1 + (119 - x.held) % 64 + (8 : Int)).toNat : Int)) ∧ 0 + (1 + (119 - x.held) % 64 + (0 : Int)).toNat < (1 + (119 - x.held) % 64 + (8 : Int)).toNat ∧ ((-9223372036854775808 : Int) ≤ 1 + (119 - x.held) % 64 ∧ 1 + (119 - x.held) % 64 ≤ (9223372036854775807 : Int)) ∧ ((-9223372036854775808 : Int) ≤ 1 + (119 - x.held) % 64 + (1 : Int) ∧ 1 + (119 - x.held) % 64 + (1 : Int) ≤ (9223372036854775807 : Int)) ∧ ((0 : Int) ≤ 1 + (119 - x.held) % 64 + (1 : Int) ∧ 1 + (119 - x.held) % 64 + 1 < (↑(1 + (119 - x.held) % 64 + (8 : Int)).toNat : Int)) ∧ 0 + (1 + (119 - x.held) % 64 + (1 : Int)).toNat < (1 + (119 - x.held) % 64 + (8 : Int)).toNat ∧ ((-9223372036854775808 : Int) ≤ 1 + (119 - x.held) % 64 ∧ 1 + (119 - x.held) % 64 ≤ (9223372036854775807 : Int)) ∧ ((-9223372036854775808 : Int) ≤ 1 + (119 - x.held) % 64 + (2 : Int) ∧ 1 + (119 - x.held) % 64 + (2 : Int) ≤ (9223372036854775807 : Int)) ∧ ((0 : Int) ≤ 1 + (119 - x.held) % 64 + (2 : Int) ∧ 1 + (119 - x.held) % 64 + 2 < (↑(1 + (119 - x.held) % 64 + (8 : Int)).toNat : Int)) ∧ 0 + (1 + (119 - x.held) % 64 + (2 : Int)).toNat < (1 + (119 - x.held) % 64 + (8 : Int)).toNat ∧
 ((-9223372036854775808 : Int) ≤ 1 + (119 - x.held) % 64 ∧ 1 + (119 - x.held) % 64 ≤ (9223372036854775807 : Int)) ∧ ((-9223372036854775808 : Int) ≤ 1 + (119 - x.held) % 64 + (3 : Int) ∧ 1 + (119 - x.held) % 64 + (3 : Int) ≤ (9223372036854775807 : Int)) ∧ ((0 : Int) ≤ 1 + (119 - x.held) % 64 + (3 : Int) ∧ 1 + (119 - x.held) % 64 + 3 < (↑(1 + (119 - x.held) % 64 + (8 : Int)).toNat : Int)) ∧ 0 + (1 + (119 - x.held) % 64 + (3 : Int)).toNat < (1 + (119 - x.held) % 64 + (8 : Int)).toNat ∧ ((-9223372036854775808 : Int) ≤ 1 + (119 - x.held) % 64 ∧ 1 + (119 - x.held) % 64 ≤ (9223372036854775807 : Int)) ∧ ((-9223372036854775808 : Int) ≤ 1 + (119 - x.held) % 64 + (4 : Int) ∧ 1 + (119 - x.held) % 64 + (4 : Int) ≤ (9223372036854775807 : Int)) ∧ ((0 : Int) ≤ 1 + (119 - x.held) % 64 + (4 : Int) ∧ 1 + (119 - x.held) % 64 + 4 < (↑(1 + (119 - x.held) % 64 + (8 : Int)).toNat : Int)) ∧ 0 + (1 + (119 - x.held) % 64 + (4 : Int)).toNat < (1 + (119 - x.held) % 64 + (8 : Int)).toNat ∧ ((-9223372036854775808 : Int) ≤ 1 + (119 - x.held) % 64 ∧ 1 + (119 - x.held) % 64 ≤ (9223372036854775807 : Int)) ∧ ((-9223372036854775808 : Int) ≤ 1 + (119 - x.held) % 64 + (5 : Int) ∧
 1 + (119 - x.held) % 64 + (5 : Int) ≤ (9223372036854775807 : Int)) ∧ ((0 : Int) ≤ 1 + (119 - x.held) % 64 + (5 : Int) ∧ 1 + (119 - x.held) % 64 + 5 < (↑(1 + (119 - x.held) % 64 + (8 : Int)).toNat : Int)) ∧ 0 + (1 + (119 - x.held) % 64 + (5 : Int)).toNat < (1 + (119 - x.held) % 64 + (8 : Int)).toNat ∧ ((-9223372036854775808 : Int) ≤ 1 + (119 - x.held) % 64 ∧ 1 + (119 - x.held) % 64 ≤ (9223372036854775807 : Int)) ∧ ((-9223372036854775808 : Int) ≤ 1 + (119 - x.held) % 64 + (6 : Int) ∧ 1 + (119 - x.held) % 64 + (6 : Int) ≤ (9223372036854775807 : Int)) ∧ ((0 : Int) ≤ 1 + (119 - x.held) % 64 + (6 : Int) ∧ 1 + (119 - x.held) % 64 + 6 < (↑(1 + (119 - x.held) % 64 + (8 : Int)).toNat : Int)) ∧ 0 + (1 + (119 - x.held) % 64 + (6 : Int)).toNat < (1 + (119 - x.held) % 64 + (8 : Int)).toNat ∧ ((-9223372036854775808 : Int) ≤ 1 + (119 - x.held) % 64 ∧ 1 + (119 - x.held) % 64 ≤ (9223372036854775807 : Int)) ∧ ((-9223372036854775808 : Int) ≤ 1 + (119 - x.held) % 64 + (7 : Int) ∧ 1 + (119 - x.held) % 64 + (7 : Int) ≤ (9223372036854775807 : Int)) ∧ ((0 : Int) ≤ 1 + (119 - x.held) % 64 + (7 : Int) ∧ 1 + (119 - x.held) % 64 + 7 < (↑(1 + (119 - x.held) % 64 + (8 : Int)).toNat : Int)) ∧
 0 + (1 + (119 - x.held) % 64 + (7 : Int)).toNat < (1 + (119 - x.held) % 64 + (8 : Int)).toNat ∧ 0 + (1 + (119 - x.held) % 64 + (8 : Int)).toNat ≤ (1 + (119 - x.held) % 64 + (8 : Int)).toNat ∧
 ∃ (u4 : Sh × List UInt8), SBle (SB.cells [R0 0, R0 1, R0 2, R0 3, R0 4, R0 5, R0 6, R0 7, R1 0, R1 1, R1 2, R1 3, R1 4, R1 5, R1 6, R1 7, R1 8, R1 9, R1 10, R1 11, R1 12, R1 13, R1 14, R1 15, R1 16, R1 17, R1 18, R1 19, R1 20, R1 21, R1 22, R1 23, R1 24, R1 25, R1 26, R1 27, R1 28, R1 29, R1 30, R1 31, R1 32, R1 33, R1 34, R1 35, R1 36, R1 37, R1 38, R1 39, R1 40, R1 41, R1 42, R1 43, R1 44, R1 45, R1 46, R1 47, R1 48, R1 49, R1 50, R1 51, R1 52, R1 53, R1 54, R1 55, R1 56, R1 57, R1 58, R1 59, R1 60, R1 61, R1 62, R1 63, SV.int .i64 false x.held, SV.int .u64 false x.size] 74 239) (SB.cells [R2 0 u4, R2 1 u4, R2 2 u4, R2 3 u4, R2 4 u4, R2 5 u4, R2 6 u4, R2 7 u4, R3 0 u4, R3 1 u4, R3 2 u4, R3 3 u4, R3 4 u4, R3 5 u4, R3 6 u4, R3 7 u4, R3 8 u4, R3 9 u4, R3 10 u4, R3 11 u4, R3 12 u4, R3 13 u4, R3 14 u4, R3 15 u4, R3 16 u4, R3 17 u4, R3 18 u4, R3 19 u4, R3 20 u4, R3 21 u4, R3 22 u4, R3 23 u4, R3 24 u4, R3 25 u4, R3 26 u4, R3 27 u4, R3 28 u4, R3 29 u4, R3 30 u4, R3 31 u4, R3 32 u4, R3 33 u4, R3 34 u4, R3 35 u4, R3 36 u4, R3 37 u4, R3 38 u4, R3 39 u4, R3 40 u4, R3 41 u4, R3 42 u4, R3 43 u4, R3 44 u4, R3 45 u4, R3 46 u4, R3 47 u4, R3 48 u4, R3 49 u4, R3 50 u4, R3 51 u4, R3 52 u4, R3 53 u4, R3 54 u4, R3 55 u4, R3 56 u4, R3 57 u4, R3 58 u4, R3 59 u4, R3 60 u4, R3 61 u4, R3 62 u4, R3 63 u4, SV.int .i64 false u4.fst.held, SV.int .u64 false u4.fst.size] 74 239) ∧
 (IsS u4.fst u4.snd ∧
 (bytesFrom (fun (u3 : Nat) => if u3 = 0 + (1 + (119 - x.held) % 64 + (7 : Int)).toNat then x.size * 8 % (18446744073709551616 : Int) / (1 : Int) % (256 : Int) else if u3 = 0 + (1 + (119 - x.held) % 64 + (6 : Int)).toNat then x.size * 8 % (18446744073709551616 : Int) / (256 : Int) % (256 : Int) else if u3 = 0 + (1 + (119 - x.held) % 64 + (5 : Int)).toNat then x.size * 8 % (18446744073709551616 : Int) / (65536 : Int) % (256 : Int) else if u3 = 0 + (1 + (119 - x.held) % 64 + (4 : Int)).toNat then x.size * 8 % (18446744073709551616 : Int) / (16777216 : Int) % (256 : Int) else if u3 = 0 + (1 + (119 - x.held) % 64 + (3 : Int)).toNat then x.size * 8 % (18446744073709551616 : Int) / (4294967296 : Int) % (256 : Int) else if u3 = 0 + (1 + (119 - x.held) % 64 + (2 : Int)).toNat then x.size * 8 % (18446744073709551616 : Int) / (1099511627776 : Int) % (256 : Int) else if u3 = 0 + (1 + (119 - x.held) % 64 + (1 : Int)).toNat then x.size * 8 % (18446744073709551616 : Int) / (281474976710656 : Int) % (256 : Int) else if u3 = 0 + (1 + (119 - x.held) % 64 + (0 : Int)).toNat then x.size * 8 % (18446744073709551616 : Int) / (72057594037927936 : Int) % (256 : Int) else if u3 = 0 then 128 else 0) 0 (1 + (119 - x.held) % 64 + (8 : Int)).toNat).length < 1152921504606846976) ∧
 ∀ (u2 : Sh), IsS u2 (u4.snd ++ bytesFrom (fun (u1 : Nat) => if u1 = 0 + (1 + (119 - x.held) % 64 + (7 : Int)).toNat then x.size * 8 % (18446744073709551616 : Int) / (1 : Int) % (256 : Int) else if u1 = 0 + (1 + (119 - x.held) % 64 + (6 : Int)).toNat then x.size * 8 % (18446744073709551616 : Int) / (256 : Int) % (256 : Int) else if u1 = 0 + (1 + (119 - x.held) % 64 + (5 : Int)).toNat then x.size * 8 % (18446744073709551616 : Int) / (65536 : Int) % (256 : Int) else if u1 = 0 + (1 + (119 - x.held) % 64 + (4 : Int)).toNat then x.size * 8 % (18446744073709551616 : Int) / (16777216 : Int) % (256 : Int) else if u1 = 0 + (1 + (119 - x.held) % 64 + (3 : Int)).toNat then x.size * 8 % (18446744073709551616 : Int) / (4294967296 : Int) % (256 : Int) else if u1 = 0 + (1 + (119 - x.held) % 64 + (2 : Int)).toNat then x.size * 8 % (18446744073709551616 : Int) / (1099511627776 : Int) % (256 : Int) else if u1 = 0 + (1 + (119 - x.held) % 64 + (1 : Int)).toNat then x.size * 8 % (18446744073709551616 : Int) / (281474976710656 : Int) % (256 : Int) else if u1 = 0 + (1 + (119 - x.held) % 64 + (0 : Int)).toNat then x.size * 8 % (18446744073709551616 : Int) / (72057594037927936 : Int) % (256 : Int) else if u1 = 0 then 128 else 0) 0 (1 + (119 - x.held) % 64 + (8 : Int)).toNat) →
 ∃ (_u0 : Unit), True ∧ SBle (shSB (x, T)) (shSB (x, T)) ∧
 sameVal (SV.str (false && (false && (false && (false && (false && (false && (false && (false && (false && (false && (false && (false && (false && (false && (false && (false && (false && (false && (false && (false && (false && (false && (false && (false && (false && (false && (false && (false && (false && (false && (false && (false && true)))))))))))))))))))))))))))))))) [UInt8.ofNat (u2.W 0 / 16777216 % (256 : Int)).toNat, UInt8.ofNat (u2.W 0 / 65536 % (256 : Int)).toNat, UInt8.ofNat (u2.W 0 / 256 % (256 : Int)).toNat, UInt8.ofNat (u2.W 0 % 256).toNat, UInt8.ofNat (u2.W 1 / 16777216 % (256 : Int)).toNat, UInt8.ofNat (u2.W 1 / 65536 % (256 : Int)).toNat, UInt8.ofNat (u2.W 1 / 256 % (256 : Int)).toNat, UInt8.ofNat (u2.W 1 % 256).toNat, UInt8.ofNat (u2.W 2 / 16777216 % (256 : Int)).toNat, UInt8.ofNat (u2.W 2 / 65536 % (256 : Int)).toNat, UInt8.ofNat (u2.W 2 / 256 % (256 : Int)).toNat, UInt8.ofNat (u2.W 2 % 256).toNat, UInt8.ofNat (u2.W 3 / 16777216 % (256 : Int)).toNat, UInt8.ofNat (u2.W 3 / 65536 % (256 : Int)).toNat, UInt8.ofNat (u2.W 3 / 256 % (256 : Int)).toNat, UInt8.ofNat (u2.W 3 % 256).toNat, UInt8.ofNat (u2.W 4 / 16777216 % (256 : Int)).toNat, UInt8.ofNat (u2.W 4 / 65536 % (256 : Int)).toNat, UInt8.ofNat (u2.W 4 / 256 % (256 : Int)).toNat, UInt8.ofNat (u2.W 4 % 256).toNat, UInt8.ofNat (u2.W 5 / 16777216 % (256 : Int)).toNat, UInt8.ofNat (u2.W 5 / 65536 % (256 : Int)).toNat, UInt8.ofNat (u2.W 5 / 256 % (256 : Int)).toNat, UInt8.ofNat (u2.W 5 % 256).toNat, UInt8.ofNat (u2.W 6 / 16777216 % (256 : Int)).toNat, UInt8.ofNat (u2.W 6 / 65536 % (256 : Int)).toNat, UInt8.ofNat (u2.W 6 / 256 % (256 : Int)).toNat, UInt8.ofNat (u2.W 6 % 256).toNat, UInt8.ofNat (u2.W 7 / 16777216 % (256 : Int)).toNat, UInt8.ofNat (u2.W 7 / 65536 % (256 : Int)).toNat, UInt8.ofNat (u2.W 7 / 256 % (256 : Int)).toNat, UInt8.ofNat (u2.W 7 % 256).toNat]) (SV.str false (shaL T))))) (fun (n0 : Nat) (u4 : Sh × List UInt8) => SV.int .u8 false (u4.fst.B n0)))) (fun (n0 : Nat) (u4 : Sh × List UInt8) => SV.int .u32 false (u4.fst.W n0)))) (fun (n0 : Nat)  => SV.int .u8 false (x.B n0)))) (fun (n0 : Nat)  => SV.int .u32 false (x.W n0))) := by kernel_rfl
theorem vcOf (n : Nat) (f : Nat → List UInt8) (z : Bool) (o c : Nat) (key : Option Nat) : VC.holds (runS (cfgOf n f) 64 Tryz.f64 [.vslc 0 1 z o 0 n c] [⟨key, z, o, n, c, [.str f]⟩] (.ret (.str false (shaL (flat (rowL f 0 n)))))) = ((fun R0 : Nat → SV => ((fun R1 : Nat → (Nat × Sh) → SV => ((fun R2 : Nat → (Nat × Sh) → SV => ((fun R3 : Nat → (Nat × Sh) → SV => ((fun R4 : Nat → (Nat × Sh) → SV => ((fun R5 : Nat → (Sh × List UInt8) → SV => ((fun R6 : Nat → (Sh × List UInt8) → SV => ((fun R7 : Nat → (Sh) → SV => ((fun R8 : Nat → (Sh) → SV => ((fun R9 : Nat → (Nat × Sh) → SV => ((fun R10 : Nat → (Nat × Sh) → SV => ((fun R11 : Nat → (Sh × List UInt8) → SV => ((fun R12 : Nat → (Sh × List UInt8) → SV => ((fun P0 : (Nat × Sh) → SB => (((∃ (u6 : Nat × Sh), (u6.fst ≤ n ∧ IsS u6.snd (flat (rowL f 0 u6.fst))) ∧ 0 = (u6.fst : Int) ∧
 SBle (SB.cells [R0 1779033703, R0 3144134277, R0 1013904242, R0 2773480762, R0 1359893119, R0 2600822924, R0 528734635, R0 1541459225, SV.int .u8 true 0, SV.int .u8 true 0, SV.int .u8 true 0, SV.int .u8 true 0, SV.int .u8 true 0, SV.int .u8 true 0, SV.int .u8 true 0, SV.int .u8 true 0, SV.int .u8 true 0, SV.int .u8 true 0, SV.int .u8 true 0, SV.int .u8 true 0, SV.int .u8 true 0, SV.int .u8 true 0, SV.int .u8 true 0, SV.int .u8 true 0, SV.int .u8 true 0, SV.int .u8 true 0, SV.int .u8 true 0, SV.int .u8 true 0, SV.int .u8 true 0, SV.int .u8 true 0, SV.int .u8 true 0, SV.int .u8 true 0, SV.int .u8 true 0, SV.int .u8 true 0, SV.int .u8 true 0, SV.int .u8 true 0, SV.int .u8 true 0, SV.int .u8 true 0, SV.int .u8 true 0, SV.int .u8 true 0, SV.int .u8 true 0, SV.int .u8 true 0, SV.int .u8 true 0, SV.int .u8 true 0, SV.int .u8 true 0, SV.int .u8 true 0, SV.int .u8 true 0, SV.int .u8 true 0, SV.int .u8 true 0, SV.int .u8 true 0, SV.int .u8 true 0, SV.int .u8 true 0, SV.int .u8 true 0, SV.int .u8 true 0, SV.int .u8 true 0, SV.int .u8 true 0, SV.int .u8 true 0, SV.int .u8 true 0, SV.int .u8 true 0, SV.int .u8 true 0, SV.int .u8 true 0, SV.int .u8 true 0, SV.int .u8 true 0, SV.int .u8 true 0, SV.int .u8 true 0, SV.int .u8 true 0, SV.int .u8 true 0, SV.int .u8 true 0, SV.int .u8 true 0, SV.int .u8 true 0, SV.int .u8 true 0, SV.int .u8 true 0, SV.int .i64 true 0, SV.int .u64 true 0] 74 239) (SB.cells [R1 0 u6, R1 1 u6, R1 2 u6, R1 3 u6, R1 4 u6, R1 5 u6, R1 6 u6, R1 7 u6, R2 0 u6, R2 1 u6, R2 2 u6, R2 3 u6, R2 4 u6, R2 5 u6, R2 6 u6, R2 7 u6, R2 8 u6, R2 9 u6, R2 10 u6, R2 11 u6, R2 12 u6, R2 13 u6, R2 14 u6, R2 15 u6, R2 16 u6, R2 17 u6, R2 18 u6, R2 19 u6, R2 20 u6, R2 21 u6, R2 22 u6, R2 23 u6, R2 24 u6, R2 25 u6, R2 26 u6, R2 27 u6, R2 28 u6, R2 29 u6, R2 30 u6, R2 31 u6, R2 32 u6, R2 33 u6, R2 34 u6, R2 35 u6, R2 36 u6, R2 37 u6, R2 38 u6, R2 39 u6, R2 40 u6, R2 41 u6, R2 42 u6, R2 43 u6, R2 44 u6, R2 45 u6, R2 46 u6, R2 47 u6, R2 48 u6, R2 49 u6, R2 50 u6, R2 51 u6, R2 52 u6, R2 53 u6, R2 54 u6, R2 55 u6, R2 56 u6, R2 57 u6, R2 58 u6, R2 59 u6, R2 60 u6, R2 61 u6, R2 62 u6, R2 63 u6, SV.int .i64 false u6.snd.held, SV.int .u64 false u6.snd.size] 74 239) ∧
 SBle { key := key, z := z, o := o, n := n, c := c, cols := [Col.str f] : Seen }.B { key := key, z := z, o := o, n := n, c := c, cols := [Col.str f] : Seen }.B ∧ True) ∧ ∀ (u5 : Nat × Sh), u5.fst ≤ n ∧ IsS u5.snd (flat (rowL f 0 u5.fst)) → (decide ((u5.fst : Int) < (n : Int)) = true → (0 ≤ (u5.fst : Int) ∧ (u5.fst : Int) < (n : Int)) ∧ (o = o ∧ 0 + (u5.fst : Int).toNat < n) ∧
 ∃ (u4 : Sh × List UInt8), SBle (P0 u5) (SB.cells [R5 0 u4, R5 1 u4, R5 2 u4, R5 3 u4, R5 4 u4, R5 5 u4, R5 6 u4, R5 7 u4, R6 0 u4, R6 1 u4, R6 2 u4, R6 3 u4, R6 4 u4, R6 5 u4, R6 6 u4, R6 7 u4, R6 8 u4, R6 9 u4, R6 10 u4, R6 11 u4, R6 12 u4, R6 13 u4, R6 14 u4, R6 15 u4, R6 16 u4, R6 17 u4, R6 18 u4, R6 19 u4, R6 20 u4, R6 21 u4, R6 22 u4, R6 23 u4, R6 24 u4, R6 25 u4, R6 26 u4, R6 27 u4, R6 28 u4, R6 29 u4, R6 30 u4, R6 31 u4, R6 32 u4, R6 33 u4, R6 34 u4, R6 35 u4, R6 36 u4, R6 37 u4, R6 38 u4, R6 39 u4, R6 40 u4, R6 41 u4, R6 42 u4, R6 43 u4, R6 44 u4, R6 45 u4, R6 46 u4, R6 47 u4, R6 48 u4, R6 49 u4, R6 50 u4, R6 51 u4, R6 52 u4, R6 53 u4, R6 54 u4, R6 55 u4, R6 56 u4, R6 57 u4, R6 58 u4, R6 59 u4, R6 60 u4, R6 61 u4, R6 62 u4, R6 63 u4, SV.int .i64 false u4.fst.held, SV.int .u64 false u4.fst.size] 74 239) ∧ (IsS u4.fst u4.snd ∧ (f (0 + (u5.fst : Int).toNat)).length < 1152921504606846976) ∧ ∀ (u3 : Sh), IsS u3 (u4.snd ++ f (0 + (u5.fst : Int).toNat)) → ((-9223372036854775808 : Int) ≤ (u5.fst : Int) + 1 ∧ (u5.fst : Int) + 1 ≤ (9223372036854775807 : Int)) ∧ ∃ (u2 : Nat × Sh), ((u2.fst ≤ n ∧ IsS u2.snd (flat (rowL f 0 u2.fst))) ∧ n - u2.fst < n - u5.fst) ∧
 (u5.fst : Int) + 1 = (u2.fst : Int) ∧
 SBle (SB.cells [R7 0 u3, R7 1 u3, R7 2 u3, R7 3 u3, R7 4 u3, R7 5 u3, R7 6 u3, R7 7 u3, R8 0 u3, R8 1 u3, R8 2 u3, R8 3 u3, R8 4 u3, R8 5 u3, R8 6 u3, R8 7 u3, R8 8 u3, R8 9 u3, R8 10 u3, R8 11 u3, R8 12 u3, R8 13 u3, R8 14 u3, R8 15 u3, R8 16 u3, R8 17 u3, R8 18 u3, R8 19 u3, R8 20 u3, R8 21 u3, R8 22 u3, R8 23 u3, R8 24 u3, R8 25 u3, R8 26 u3, R8 27 u3, R8 28 u3, R8 29 u3, R8 30 u3, R8 31 u3, R8 32 u3, R8 33 u3, R8 34 u3, R8 35 u3, R8 36 u3, R8 37 u3, R8 38 u3, R8 39 u3, R8 40 u3, R8 41 u3, R8 42 u3, R8 43 u3, R8 44 u3, R8 45 u3, R8 46 u3, R8 47 u3, R8 48 u3, R8 49 u3, R8 50 u3, R8 51 u3, R8 52 u3, R8 53 u3, R8 54 u3, R8 55 u3, R8 56 u3, R8 57 u3, R8 58 u3, R8 59 u3, R8 60 u3, R8 61 u3, R8 62 u3, R8 63 u3, SV.int .i64 false u3.held, SV.int .u64 false u3.size] 74 239) (SB.cells [R9 0 u2, R9 1 u2, R9 2 u2, R9 3 u2, R9 4 u2, R9 5 u2, R9 6 u2, R9 7 u2, R10 0 u2, R10 1 u2, R10 2 u2, R10 3 u2, R10 4 u2, R10 5 u2, R10 6 u2, R10 7 u2, R10 8 u2, R10 9 u2, R10 10 u2, R10 11 u2, R10 12 u2, R10 13 u2, R10 14 u2, R10 15 u2, R10 16 u2, R10 17 u2, R10 18 u2, R10 19 u2, R10 20 u2, R10 21 u2, R10 22 u2, R10 23 u2, R10 24 u2, R10 25 u2, R10 26 u2, R10 27 u2, R10 28 u2, R10 29 u2, R10 30 u2, R10 31 u2, R10 32 u2, R10 33 u2, R10 34 u2, R10 35 u2, R10 36 u2, R10 37 u2, R10 38 u2, R10 39 u2, R10 40 u2, R10 41 u2, R10 42 u2, R10 43 u2, R10 44 u2, R10 45 u2, R10 46 u2, R10 47 u2, R10 48 u2, R10 49 u2, R10 50 u2, R10 51 u2, R10 52 u2, R10 53 u2, R10 54 u2, R10 55 u2, R10 56 u2, R10 57 u2, R10 58 u2, R10 59 u2, R10 60 u2, R10 61 u2, R10 62 u2, R10 63 u2, SV.int .i64 false u2.snd.held, SV.int .u64 false u2.snd.size] 74 239) ∧
 SBle { key := key, z := z, o := o, n := n, c := c, cols := [Col.str f] : Seen }.B { key := key, z := z, o := o, n := n, c := c, cols := [Col.str f] : Seen }.B ∧ True) ∧ (decide ((u5.fst : Int) < (n : Int)) = false → ∃ (u1 : Sh × List UInt8), SBle (P0 u5) (SB.cells [R11 0 u1, R11 1 u1, R11 2 u1, R11 3 u1, R11 4 u1, R11 5 u1, R11 6 u1, R11 7 u1, R12 0 u1, R12 1 u1, R12 2 u1, R12 3 u1, R12 4 u1, R12 5 u1, R12 6 u1, R12 7 u1, R12 8 u1, R12 9 u1, R12 10 u1, R12 11 u1, R12 12 u1, R12 13 u1, R12 14 u1, R12 15 u1, R12 16 u1, R12 17 u1, R12 18 u1, R12 19 u1, R12 20 u1, R12 21 u1, R12 22 u1, R12 23 u1, R12 24 u1, R12 25 u1, R12 26 u1, R12 27 u1, R12 28 u1, R12 29 u1, R12 30 u1, R12 31 u1, R12 32 u1, R12 33 u1, R12 34 u1, R12 35 u1, R12 36 u1, R12 37 u1, R12 38 u1, R12 39 u1, R12 40 u1, R12 41 u1, R12 42 u1, R12 43 u1, R12 44 u1, R12 45 u1, R12 46 u1, R12 47 u1, R12 48 u1, R12 49 u1, R12 50 u1, R12 51 u1, R12 52 u1, R12 53 u1, R12 54 u1, R12 55 u1, R12 56 u1, R12 57 u1, R12 58 u1, R12 59 u1, R12 60 u1, R12 61 u1, R12 62 u1, R12 63 u1, SV.int .i64 false u1.fst.held, SV.int .u64 false u1.fst.size] 74 239) ∧ (IsS u1.fst u1.snd ∧ u1.snd.length < 1152921504606846976) ∧ ∀ (_u0 : Unit), True →
 sameVal (unkey 1 (SV.str false (shaL u1.snd))) (SV.str false (shaL (flat (rowL f 0 n)))))))) (fun (u5 : Nat × Sh) => (SB.cells [R3 0 u5, R3 1 u5, R3 2 u5, R3 3 u5, R3 4 u5, R3 5 u5, R3 6 u5, R3 7 u5, R4 0 u5, R4 1 u5, R4 2 u5, R4 3 u5, R4 4 u5, R4 5 u5, R4 6 u5, R4 7 u5, R4 8 u5, R4 9 u5, R4 10 u5, R4 11 u5, R4 12 u5, R4 13 u5, R4 14 u5, R4 15 u5, R4 16 u5, R4 17 u5, R4 18 u5, R4 19 u5, R4 20 u5, R4 21 u5, R4 22 u5, R4 23 u5, R4 24 u5, R4 25 u5, R4 26 u5, R4 27 u5, R4 28 u5, R4 29 u5, R4 30 u5, R4 31 u5, R4 32 u5, R4 33 u5, R4 34 u5, R4 35 u5, R4 36 u5, R4 37 u5, R4 38 u5, R4 39 u5, R4 40 u5, R4 41 u5, R4 42 u5, R4 43 u5, R4 44 u5, R4 45 u5, R4 46 u5, R4 47 u5, R4 48 u5, R4 49 u5, R4 50 u5, R4 51 u5, R4 52 u5, R4 53 u5, R4 54 u5, R4 55 u5, R4 56 u5, R4 57 u5, R4 58 u5, R4 59 u5, R4 60 u5, R4 61 u5, R4 62 u5, R4 63 u5, SV.int .i64 false u5.snd.held, SV.int .u64 false u5.snd.size] 74 239)))) (fun (n0 : Nat) (u1 : Sh × List UInt8) => SV.int .u8 false (u1.fst.B n0)))) (fun (n0 : Nat) (u1 : Sh × List UInt8) => SV.int .u32 false (u1.fst.W n0)))) (fun (n0 : Nat) (u2 : Nat × Sh) => SV.int .u8 false (u2.snd.B n0)))) (fun (n0 : Nat) (u2 : Nat × Sh) => SV.int .u32 false (u2.snd.W n0)))) (fun (n0 : Nat) (u3 : Sh) => SV.int .u8 false (u3.B n0)))) (fun (n0 : Nat) (u3 : Sh) => SV.int .u32 false (u3.W n0)))) (fun (n0 : Nat) (u4 : Sh × List UInt8) => SV.int .u8 false (u4.fst.B n0)))) (fun (n0 : Nat) (u4 : Sh × List UInt8) => SV.int .u32 false (u4.fst.W n0)))) (fun (n0 : Nat) (u5 : Nat × Sh) => SV.int .u8 false (u5.snd.B n0)))) (fun (n0 : Nat) (u5 : Nat × Sh) => SV.int .u32 false (u5.snd.W n0)))) (fun (n0 : Nat) (u6 : Nat × Sh) => SV.int .u8 false (u6.snd.B n0)))) (fun (n0 : Nat) (u6 : Nat × Sh) => SV.int .u32 false (u6.snd.W n0)))) (fun (n0 : Nat)  => SV.int .u32 true n0)) := by kernel_rfl
end Go.Proofs.YtoalfimkkibpdaaGreatDoor
/-
  Hashes: a text's hash: the contracts of Sum, Of.
-/
namespace Go.Proofs.YtoalfimkkibpdaaGreatDoor
open Go Sx
set_option maxRecDepth 20000
theorem tail_eq (z : Nat) (n : Int) : bytesFrom (fun (j : Nat) => if j = 0 + (1 + (z : Int) + 7).toNat then n / 1 % 256 else if j = 0 + (1 + (z : Int) + 6).toNat then n / 256 % 256 else if j = 0 + (1 + (z : Int) + 5).toNat then n / 65536 % 256 else if j = 0 + (1 + (z : Int) + 4).toNat then n / 16777216 % 256 else if j = 0 + (1 + (z : Int) + 3).toNat then n / 4294967296 % 256 else if j = 0 + (1 + (z : Int) + 2).toNat then n / 1099511627776 % 256 else if j = 0 + (1 + (z : Int) + 1).toNat then n / 281474976710656 % 256 else if j = 0 + (1 + (z : Int) + 0).toNat then n / 72057594037927936 % 256 else if j = 0 then 128 else 0) 0 (1 + (z : Int) + 8).toNat
    = 128 :: (List.replicate z 0 ++ sizeB n) := by
  rw [show (1 + (z : Int) + 8).toNat = z + 9 by omega, show 0 + (1 + (z : Int) + 7).toNat = z + 8 by omega, show 0 + (1 + (z : Int) + 6).toNat = z + 7 by omega, show 0 + (1 + (z : Int) + 5).toNat = z + 6 by omega,
    show 0 + (1 + (z : Int) + 4).toNat = z + 5 by omega, show 0 + (1 + (z : Int) + 3).toNat = z + 4 by omega, show 0 + (1 + (z : Int) + 2).toNat = z + 3 by omega, show 0 + (1 + (z : Int) + 1).toNat = z + 2 by omega, show 0 + (1 + (z : Int) + 0).toNat = z + 1 by omega]
  apply List.ext_getElem?
  intro i
  unfold bytesFrom
  rw [List.getElem?_map]
  by_cases hi : i < z + 9
  · rw [List.getElem?_range hi]
    simp only [Option.map_some, Nat.zero_add]
    cases i with
    | zero =>
      rw [if_neg (by omega), if_neg (by omega), if_neg (by omega), if_neg (by omega), if_neg (by omega), if_neg (by omega), if_neg (by omega), if_neg (by omega), if_pos rfl]; rfl
    | succ i =>
      rw [List.getElem?_cons_succ]
      by_cases hz : i < z
      · rw [List.getElem?_append_left (by simpa using hz), List.getElem?_replicate, if_pos hz, if_neg (by omega), if_neg (by omega), if_neg (by omega), if_neg (by omega), if_neg (by omega), if_neg (by omega), if_neg (by omega), if_neg (by omega), if_neg (by omega)]; rfl
      · rw [List.getElem?_append_right (by simp; omega), List.length_replicate]
        obtain ⟨k, rfl⟩ : ∃ k, i = z + k := ⟨i - z, by omega⟩
        rw [Nat.add_sub_cancel_left]
        have hk : k = 0 ∨ k = 1 ∨ k = 2 ∨ k = 3 ∨ k = 4 ∨ k = 5 ∨ k = 6 ∨ k = 7 := by omega
        rcases hk with rfl | rfl | rfl | rfl | rfl | rfl | rfl | rfl
        · rw [if_neg (by omega), if_neg (by omega), if_neg (by omega), if_neg (by omega), if_neg (by omega), if_neg (by omega), if_neg (by omega), if_pos (by omega)]; rfl
        · rw [if_neg (by omega), if_neg (by omega), if_neg (by omega), if_neg (by omega), if_neg (by omega), if_neg (by omega), if_pos (by omega)]; rfl
        · rw [if_neg (by omega), if_neg (by omega), if_neg (by omega), if_neg (by omega), if_neg (by omega), if_pos (by omega)]; rfl
        · rw [if_neg (by omega), if_neg (by omega), if_neg (by omega), if_neg (by omega), if_pos (by omega)]; rfl
        · rw [if_neg (by omega), if_neg (by omega), if_neg (by omega), if_pos (by omega)]; rfl
        · rw [if_neg (by omega), if_neg (by omega), if_pos (by omega)]; rfl
        · rw [if_neg (by omega), if_pos (by omega)]; rfl
        · rw [if_pos (by omega)]; rfl
  · rw [List.getElem?_eq_none (by simpa using hi), List.getElem?_eq_none (by simp [sizeB]; omega)]; rfl
theorem tailL_len (T : List UInt8) : (tailL T).length < 100 := by
  simp only [tailL, sizeB, List.length_cons, List.length_append, List.length_replicate, List.length_nil, zerosN]; omega
theorem sum_holds {x : Sh} {T : List UInt8} (hx : IsS x T) (_hT : T.length < 1152921504606846976) :
    Holds (runBox cfgS4 101 Tryz.f101 [.ptr 0 true 0] shSB (x, T) (fun _ : Unit => (True, .str false (shaL T), (x, T)))) := by
  refine Holds.of_eq (vcSum x T) ?_
  dsimp only
  have hh := hx.1.h
  have hz : (119 - x.held) % 64 = (zerosN T : Int) := by rw [hh]; unfold zerosN; omega
  have hl : zerosN T < 64 := Nat.mod_lt _ (by decide)
  have hb : x.held < 64 ∧ 0 ≤ x.held := by omega
  have hs := hx.2
  have ht : tailL T = 128 :: (List.replicate (zerosN T) 0 ++ sizeB (x.size * 8 % 18446744073709551616)) := by rw [hs]; rfl
  rw [hz]
  refine ⟨by omega, by omega, by omega, by omega, by omega, by omega, by omega, by omega, by omega, by omega, by omega, by omega, by omega, by omega, by omega, by omega, by omega, by omega, by omega, by omega, by omega, by omega, by omega, by omega, by omega, by omega, by omega, by omega, by omega, by omega, by omega, by omega, by omega, by omega, by omega, by omega, by omega, by omega, by omega, by omega, (x, T), SBle.refl _, ⟨hx, ?_⟩, fun y hy => ⟨(), trivial, SBle.refl _, ?_⟩⟩
  · rw [tail_eq, ← ht]
    have := tailL_len T
    omega
  · rw [tail_eq, ← ht] at hy
    have hy : IsS y (padT T) := hy
    have w := hy.1.w
    refine str_same ?_
    unfold shaL outW
    rw [← w 0 (by decide), ← w 1 (by decide), ← w 2 (by decide), ← w 3 (by decide), ← w 4 (by decide), ← w 5 (by decide), ← w 6 (by decide), ← w 7 (by decide)]
theorem sum_ok : CallOk Tryz.prog 101 (boxPT shSB sumSpec) := by
  refine box_ok (n := 20) (fn := Tryz.f101) Tryz.func101 (by kernel_rfl) (by kernel_rfl) shSB_ok ?_
  intro args g x h hp
  unfold sumSpec at h
  split at h
  · injection h with h; subst h
    obtain ⟨x, T⟩ := x
    exact ⟨cfgS4, [.ptr 0 true 0], goodS4, fun E => rfl, rfl, fun _ => rfl, sum_holds hp.1 hp.2⟩
  · cases h
theorem listS5_ok : SummOk Tryz.prog (fun f => lookPT f listS5) := .cons sum_ok (boxPT_mono _ _) listS4_ok
theorem goodOf (n : Nat) (f : Nat → List UInt8) : Sx.Good Tryz.prog (cfgOf n f) := ⟨mixes, listS5_ok, fns_ok⟩
theorem isS_new : IsS ⟨hash0, fun _ => 0, 0, 0⟩ [] := by
  refine ⟨⟨⟨by decide, fun j _ => by show (0 : Int) ≤ 0 ∧ (0 : Int) ≤ 255; decide⟩, fun j _ => rfl, fun j hj => absurd hj (Nat.not_lt_zero _), rfl⟩, rfl⟩
theorem flat_snocR (f : Nat → List UInt8) (i : Nat) : flat (rowL f 0 (i + 1)) = flat (rowL f 0 i) ++ f i := by
  unfold flat rowL
  rw [List.range_succ]
  simp
theorem flat_rowR_le (f : Nat → List UInt8) : ∀ {i n : Nat}, i ≤ n → (flat (rowL f 0 i)).length ≤ (flat (rowL f 0 n)).length := by
  intro i n h
  induction n with
  | zero => obtain rfl : i = 0 := by omega
            exact Nat.le_refl _
  | succ n ih =>
    by_cases e : i = n + 1
    · subst e; exact Nat.le_refl _
    · have := ih (by omega)
      rw [flat_snocR, List.length_append]; omega
theorem of_holds (n : Nat) (f : Nat → List UInt8) (z : Bool) (o c : Nat) (key : Option Nat) (h : (flat (rowL f 0 n)).length < 1152921504606846976) (hn : n < 1152921504606846976) :
    Holds (runS (cfgOf n f) 64 Tryz.f64 [.vslc 0 1 z o 0 n c] [⟨key, z, o, n, c, [.str f]⟩] (.ret (.str false (shaL (flat (rowL f 0 n)))))) := by
  refine Holds.of_eq (vcOf n f z o c key) ?_
  dsimp only
  refine ⟨⟨(0, ⟨hash0, fun _ => 0, 0, 0⟩), ⟨Nat.zero_le _, isS_new⟩, rfl, Sx.SBle.cells (fun E => rfl) rfl, SBle.refl _, trivial⟩, fun g hg => ⟨fun a => ?_, fun a => ?_⟩⟩
  · have a := of_decide_eq_true a
    have h1 := flat_rowR_le f (i := g.1 + 1) (n := n) (by omega)
    rw [flat_snocR, List.length_append] at h1
    rw [Int.toNat_natCast, Nat.zero_add]
    refine ⟨by omega, ⟨rfl, by omega⟩, (g.2, flat (rowL f 0 g.1)), SBle.refl _, ⟨hg.2, by omega⟩, fun y hy => ⟨by omega, (g.1 + 1, y), ⟨⟨by show g.1 + 1 ≤ n; omega, ?_⟩, by show n - (g.1 + 1) < n - g.1; omega⟩, by show (g.1 : Int) + 1 = ((g.1 + 1 : Nat) : Int); omega, SBle.refl _, SBle.refl _, trivial⟩⟩
    show IsS y (flat (rowL f 0 (g.1 + 1)))
    rw [flat_snocR]; exact hy
  · have a := of_decide_eq_false a
    have hg1 := hg.1
    have e : g.1 = n := by omega
    refine ⟨(g.2, flat (rowL f 0 g.1)), SBle.refl _, ⟨hg.2, by rw [e]; exact h⟩, fun _ _ => ?_⟩
    rw [e]; exact fun _ => rfl
theorem of_ok : CallOk Tryz.prog 64 (strsPT ofQ ofG) := by
  refine strs_ok (ansV_ok (n := 20) (fn := Tryz.f64) Tryz.func64 (by kernel_rfl) (by kernel_rfl) ?_)
  intro vs l q a h hq
  unfold strsSpec at h
  split at h
  · rename_i n f r hx
    obtain ⟨z, o, c, key⟩ := r
    injection h with h; injection h with h1 h2; subst h1; subst h2
    obtain ⟨e1, e2⟩ := rowOf_eq hx
    rw [e1, e2]
    exact ⟨_, goodOf n f, rfl, rfl, of_holds n f z o c key hq.1 (by have := hq.2; rwa [rowL_len] at this)⟩
  · cases h
end Go.Proofs.YtoalfimkkibpdaaGreatDoor
/-
  Node: Put, Ref, Hashes: the set-up.
-/
namespace Go.Proofs.YtoalfimkkibpdaaGreatDoor
open Go Sx
set_option maxRecDepth 20000
noncomputable def listF1 : List (FuncId × PT) := (64, strsPT ofQ ofG) :: (136, ansPT (inlSpec 9223372036854775808)) :: (130, ansPT (getSpec' 9223372036854775808)) :: listN8 9223372036854775808
theorem listF1_ok : SummOk Tryz.prog (fun f => lookPT f listF1) := .cons of_ok (strsPT_mono _ _) (.cons (inline_all _) (ansPT_mono _) (.cons (nodeGet_ok (inline_all _)) (ansPT_mono _) (listN8_ok (inline_all _))))
noncomputable def cfgF1 : Cfg := { cfg0 with summ := fun f => lookPT f listF1 }
theorem goodF1 : Sx.Good Tryz.prog cfgF1 := ⟨mixes, listF1_ok, fns_ok⟩
def putA (x : Nd) : Ans := .fork (validB x) fun b => match b with
  | true => .ret (.tup [.str false (putT x), .int .i64 true 0])
  | false => .ret (.tup [.str true [], .int .i64 true 1])
def ndSpecA (g : Nd → Option (Prop × Ans)) : List SV → Option (Prop × Ans)
  | [.agg l] => (match ndOf l with
    | some x => g x
    | none => none)
  | _ => none
theorem ndSpecA_eq {g : Nd → Option (Prop × Ans)} {args : List SV} {p : Prop} {v : Ans} (h : ndSpecA g args = some (p, v)) : ∃ x, args = [x.sv] ∧ g x = some (p, v) := by
  unfold ndSpecA at h
  split at h
  · split at h
    · rename_i x hx
      exact ⟨x, by rw [ndOf_eq hx], h⟩
    · cases h
  · cases h
def refL (s : List UInt8) : List UInt8 := if s.length < 32 then s else textOf (shaL s)
/-! ### The hashes that a node refers to -/
def hashN (r : Nat → List UInt8) : Nat → Nat
  | 0 => 0
  | i + 1 => bif hashB (r i) then hashN r i + 1 else hashN r i
def hashAt (r : Nat → List UInt8) : Nat → Nat → List UInt8
  | 0 => fun _ => []
  | i + 1 => fun j => bif hashB (r i) then (if j = hashN r i then cutIn (r i) else hashAt r i j) else hashAt r i j
def Near : Nat → Nd → Prop
  | 0, _ => False
  | L + 1, x => ∀ j, j < 16 → x.r j = [] ∨ ((x.r j).length < L ∧ (x.r j).length < 32)
def nearSpec (L : Nat) : List SV → Option (Prop × SV) := ndSpec fun x => some (Near L x, .nilslc)
noncomputable def annNear : LoopAnn :=
  { α := Nat, pre := fun _ i => i ≤ 16, mea := fun _ i => 16 - i, fresh := 0, slots := fun _ i => [(7, .int .i64 false i)], mem := fun _ _ => [] }
noncomputable def cfgNear (L : Nat) : Cfg := { cfg0 with summ := fun f => lookPT f ((131, purePT (nearSpec L)) :: listF1), anns := fun f => if f = 192 then [(1, always annNear)] else [] }
noncomputable def annHs (x : Nd) : LoopAnn :=
  { α := Nat × Nat, pre := fun _ g => g.1 ≤ 16 ∧ hashN x.r g.1 ≤ g.2, mea := fun _ g => 16 - g.1, fresh := 1, slots := fun _ g => [(7, .int .i64 false g.1)],
    mem := fun st g => [(1, .cells [.rslc st.nx 1 true 0 (hashN x.r g.1) g.2] 1 22), (st.nx, .rows true (hashN x.r g.1) [.str (hashAt x.r g.1)] false g.2 9)] }
noncomputable def cfgHs (x : Nd) : Cfg := { cfg0 with summ := fun f => lookPT f ((131, purePT (nearSpec 64)) :: listF1), anns := fun f => if f = 192 then [(1, always (annHs x))] else [] }
def hashesA (x : Nd) : Ans := .fork (validB x) fun b => match b with
  | true => .all Nat fun c => .req (hashN x.r 16 ≤ c) (.new (fun k => .rslc k 1 true 0 (hashN x.r 16) c) (.rows true (hashN x.r 16) [.str (hashAt x.r 16)] false c 9))
  | false => .ret .nilslc
end Go.Proofs.YtoalfimkkibpdaaGreatDoor
