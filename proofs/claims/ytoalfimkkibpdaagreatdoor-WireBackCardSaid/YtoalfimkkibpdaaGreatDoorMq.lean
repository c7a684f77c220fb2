/-
  Conditions that the executor computes, written out by a program (vcgen.py).
-/
import Derived.Test.YtoalfimkkibpdaaGreatDoorMp
import Derived.Test.YtoalfimkkibpdaaGreatDoorMm
namespace Go.Proofs.YtoalfimkkibpdaaGreatDoor
open Go Sx
set_option maxRecDepth 20000
theorem vcWrite (x:Sh)(T s:List UInt8)(z:Int):VC.holds (runBox (cfgWr T s z) 100 Tryz.f100 [.ptr 0 true 0,.str false s] shSB (x,T) (fun y:Sh=>(IsS y (T++s),.ptr 0 true 0,(y,T++s))))=((fun R0:Nat→SV=>((fun R1:Nat→SV=>((fun R2:Nat→(Nat×Sh)→SV=>((fun R3:Nat→(Nat×Sh)→SV=>((fun R4:Nat→(Nat×Sh)→SV=>((fun R5:Nat→(Nat×Sh)→SV=>((fun R6:Nat→(Sh)→SV=>((fun R7:Nat→(Sh)→SV=>((fun R8:Nat→(Sh)→SV=>((fun R9:Nat→(Nat×Sh)→SV=>((fun R10:Nat→(Nat×Sh)→SV=>((fun R11:Nat→(Nat×Sh)→SV=>((fun R12:Nat→(Nat×Sh)→SV=>((fun R13:Nat→(Nat×Sh)→SV=>((fun R14:Nat→(Sh)→SV=>((fun R15:Nat→(Sh)→SV=>((fun R16:Nat→(Sh)→SV=>((fun R17:Nat→(Nat×Sh)→SV=>((fun R18:Nat→(Nat×Sh)→SV=>((fun R19:Nat→(Nat×Sh)→SV=>((fun R20:Nat→(Nat×Sh)→SV=>((fun R21:Nat→(Nat×Sh)→SV=>((fun R22:Nat→(Sh)→SV=>((fun R23:Nat→(Sh)→SV=>((fun P0:(Nat×Sh)→SB=>((fun P1:(Nat×Sh)→SB=>(((∃(u10:Nat×Sh),(u10.fst≤s.length∧IsSh u10.snd (T++List.take u10.fst s)∧u10.snd.size=z)∧s=List.drop u10.fst s ∧SBle (SB.cells [R0 0,R0 1,R0 2,R0 3,R0 4,R0 5,R0 6,R0 7,R1 0,R1 1,R1 2,R1 3,R1 4,R1 5,R1 6,R1 7,R1 8,R1 9,R1 10,R1 11,R1 12,R1 13,R1 14,R1 15,R1 16,R1 17,R1 18,R1 19,R1 20,R1 21,R1 22,R1 23,R1 24,R1 25,R1 26,R1 27,R1 28,R1 29,R1 30,R1 31,R1 32,R1 33,R1 34,R1 35,R1 36,R1 37,R1 38,R1 39,R1 40,R1 41,R1 42,R1 43,R1 44,R1 45,R1 46,R1 47,R1 48,R1 49,R1 50,R1 51,R1 52,R1 53,R1 54,R1 55,R1 56,R1 57,R1 58,R1 59,R1 60,R1 61,R1 62,R1 63,SV.int .i64 false x.held,SV.int .u64 false ((x.size+(s.length:Int)% 18446744073709551616)% 18446744073709551616)] 74 239) (SB.cells [R2 0 u10,R2 1 u10,R2 2 u10,R2 3 u10,R2 4 u10,R2 5 u10,R2 6 u10,R2 7 u10,R3 0 u10,R3 1 u10,R3 2 u10,R3 3 u10,R3 4 u10,R3 5 u10,R3 6 u10,R3 7 u10,R3 8 u10,R3 9 u10,R3 10 u10,R3 11 u10,R3 12 u10,R3 13 u10,R3 14 u10,R3 15 u10,R3 16 u10,R3 17 u10,R3 18 u10,R3 19 u10,R3 20 u10,R3 21 u10,R3 22 u10,R3 23 u10,R3 24 u10,R3 25 u10,R3 26 u10,R3 27 u10,R3 28 u10,R3 29 u10,R3 30 u10,R3 31 u10,R3 32 u10,R3 33 u10,R3 34 u10,R3 35 u10,R3 36 u10,R3 37 u10,R3 38 u10,R3 39 u10,R3 40 u10,R3 41 u10,R3 42 u10,R3 43 u10,R3 44 u10,R3 45 u10,R3 46 u10,R3 47 u10,R3 48 u10,R3 49 u10,R3 50 u10,R3 51 u10,R3 52 u10,R3 53 u10,R3 54 u10,R3 55 u10,R3 56 u10,R3 57 u10,R3 58 u10,R3 59 u10,R3 60 u10,R3 61 u10,R3 62 u10,R3 63 u10,SV.int .i64 false u10.snd.held,SV.int .u64 false u10.snd.size] 74 239) ∧True)∧∀(u9:Nat×Sh),u9.fst≤s.length∧IsSh u9.snd (T++List.take u9.fst s)∧u9.snd.size=z→((!decide (List.drop u9.fst s=[]))=true→(0≤u9.snd.held∧u9.snd.held≤64∧(64:Int)≤(64:Int))∧(decide (64=u9.snd.held.toNat)=true→((8:Nat)≤(8:Nat)∧8+(64 - u9.snd.held.toNat)≤8+(64:Nat))∧((-9223372036854775808:Int)≤u9.snd.held+(↑(min (List.drop u9.fst s).length (64 - u9.snd.held.toNat)):Int)∧u9.snd.held+(↑(min (List.drop u9.fst s).length (64 - u9.snd.held.toNat)):Int)≤9223372036854775807)∧(0≤(↑(min (List.drop u9.fst s).length (64 - u9.snd.held.toNat)):Int)∧(↑(min (List.drop u9.fst s).length (64 - u9.snd.held.toNat)):Int)≤(↑(List.drop u9.fst s).length:Int)∧(↑(List.drop u9.fst s).length:Int)≤(↑(List.drop u9.fst s).length:Int))∧(decide (u9.snd.held+(↑(min (List.drop u9.fst s).length (64 - u9.snd.held.toNat)):Int)=64)=true →∃(u8:Sh),SBle (P1 u9) (SB.cells [R6 0 u8,R6 1 u8,R6 2 u8,R6 3 u8,R6 4 u8,R6 5 u8,R6 6 u8,R6 7 u8,R7 0 u8,R7 1 u8,R7 2 u8,R7 3 u8,R7 4 u8,R7 5 u8,R7 6 u8,R7 7 u8,R7 8 u8,R7 9 u8,R7 10 u8,R7 11 u8,R7 12 u8,R7 13 u8,R7 14 u8,R7 15 u8,R7 16 u8,R7 17 u8,R7 18 u8,R7 19 u8,R7 20 u8,R7 21 u8,R7 22 u8,R7 23 u8,R7 24 u8,R7 25 u8,R7 26 u8,R7 27 u8,R7 28 u8,R7 29 u8,R7 30 u8,R7 31 u8,R7 32 u8,R7 33 u8,R7 34 u8,R7 35 u8,R7 36 u8,R7 37 u8,R7 38 u8,R7 39 u8,R7 40 u8,R7 41 u8,R7 42 u8,R7 43 u8,R7 44 u8,R7 45 u8,R7 46 u8,R7 47 u8,R7 48 u8,R7 49 u8,R7 50 u8,R7 51 u8,R7 52 u8,R7 53 u8,R7 54 u8,R7 55 u8,R7 56 u8,R7 57 u8,R7 58 u8,R7 59 u8,R7 60 u8,R7 61 u8,R7 62 u8,R7 63 u8,SV.int .i64 false u8.held,SV.int .u64 false u8.size] 74 239)∧u8.Ok∧∀(_u7:Unit),True→∃(u6:Nat×Sh),((u6.fst≤s.length∧IsSh u6.snd (T++List.take u6.fst s)∧u6.snd.size=z)∧s.length - u6.fst<s.length - u9.fst)∧subStr (List.drop u9.fst s) (some (Operand.tmp 37)) none (↑(min (List.drop u9.fst s).length (64 - u9.snd.held.toNat)):Int) (↑(List.drop u9.fst s).length:Int)=List.drop u6.fst s ∧SBle (SB.cells [R8 0 u8,R8 1 u8,R8 2 u8,R8 3 u8,R8 4 u8,R8 5 u8,R8 6 u8,R8 7 u8,R7 0 u8,R7 1 u8,R7 2 u8,R7 3 u8,R7 4 u8,R7 5 u8,R7 6 u8,R7 7 u8,R7 8 u8,R7 9 u8,R7 10 u8,R7 11 u8,R7 12 u8,R7 13 u8,R7 14 u8,R7 15 u8,R7 16 u8,R7 17 u8,R7 18 u8,R7 19 u8,R7 20 u8,R7 21 u8,R7 22 u8,R7 23 u8,R7 24 u8,R7 25 u8,R7 26 u8,R7 27 u8,R7 28 u8,R7 29 u8,R7 30 u8,R7 31 u8,R7 32 u8,R7 33 u8,R7 34 u8,R7 35 u8,R7 36 u8,R7 37 u8,R7 38 u8,R7 39 u8,R7 40 u8,R7 41 u8,R7 42 u8,R7 43 u8,R7 44 u8,R7 45 u8,R7 46 u8,R7 47 u8,R7 48 u8,R7 49 u8,R7 50 u8,R7 51 u8,R7 52 u8,R7 53 u8,R7 54 u8,R7 55 u8,R7 56 u8,R7 57 u8,R7 58 u8,R7 59 u8,R7 60 u8,R7 61 u8,R7 62 u8,R7 63 u8,SV.int .i64 true 0,SV.int .u64 false u8.size] 74 239) (SB.cells [R9 0 u6,R9 1 u6,R9 2 u6,R9 3 u6,R9 4 u6,R9 5 u6,R9 6 u6,R9 7 u6,R10 0 u6,R10 1 u6,R10 2 u6,R10 3 u6,R10 4 u6,R10 5 u6,R10 6 u6,R10 7 u6,R10 8 u6,R10 9 u6,R10 10 u6,R10 11 u6,R10 12 u6,R10 13 u6,R10 14 u6,R10 15 u6,R10 16 u6,R10 17 u6,R10 18 u6,R10 19 u6,R10 20 u6,R10 21 u6,R10 22 u6,R10 23 u6,R10 24 u6,R10 25 u6,R10 26 u6,R10 27 u6,R10 28 u6,R10 29 u6,R10 30 u6,R10 31 u6,R10 32 u6,R10 33 u6,R10 34 u6,R10 35 u6,R10 36 u6,R10 37 u6,R10 38 u6,R10 39 u6,R10 40 u6,R10 41 u6,R10 42 u6,R10 43 u6,R10 44 u6,R10 45 u6,R10 46 u6,R10 47 u6,R10 48 u6,R10 49 u6,R10 50 u6,R10 51 u6,R10 52 u6,R10 53 u6,R10 54 u6,R10 55 u6,R10 56 u6,R10 57 u6,R10 58 u6,R10 59 u6,R10 60 u6,R10 61 u6,R10 62 u6,R10 63 u6,SV.int .i64 false u6.snd.held,SV.int .u64 false u6.snd.size] 74 239) ∧True)∧(decide (u9.snd.held+(↑(min (List.drop u9.fst s).length (64 - u9.snd.held.toNat)):Int)=64)=false→∃(u5:Nat×Sh),((u5.fst≤s.length∧IsSh u5.snd (T++List.take u5.fst s)∧u5.snd.size=z)∧s.length - u5.fst<s.length - u9.fst)∧subStr (List.drop u9.fst s) (some (Operand.tmp 37)) none (↑(min (List.drop u9.fst s).length (64 - u9.snd.held.toNat)):Int) (↑(List.drop u9.fst s).length:Int)=List.drop u5.fst s ∧SBle (P1 u9) (SB.cells [R11 0 u5,R11 1 u5,R11 2 u5,R11 3 u5,R11 4 u5,R11 5 u5,R11 6 u5,R11 7 u5,R12 0 u5,R12 1 u5,R12 2 u5,R12 3 u5,R12 4 u5,R12 5 u5,R12 6 u5,R12 7 u5,R12 8 u5,R12 9 u5,R12 10 u5,R12 11 u5,R12 12 u5,R12 13 u5,R12 14 u5,R12 15 u5,R12 16 u5,R12 17 u5,R12 18 u5,R12 19 u5,R12 20 u5,R12 21 u5,R12 22 u5,R12 23 u5,R12 24 u5,R12 25 u5,R12 26 u5,R12 27 u5,R12 28 u5,R12 29 u5,R12 30 u5,R12 31 u5,R12 32 u5,R12 33 u5,R12 34 u5,R12 35 u5,R12 36 u5,R12 37 u5,R12 38 u5,R12 39 u5,R12 40 u5,R12 41 u5,R12 42 u5,R12 43 u5,R12 44 u5,R12 45 u5,R12 46 u5,R12 47 u5,R12 48 u5,R12 49 u5,R12 50 u5,R12 51 u5,R12 52 u5,R12 53 u5,R12 54 u5,R12 55 u5,R12 56 u5,R12 57 u5,R12 58 u5,R12 59 u5,R12 60 u5,R12 61 u5,R12 62 u5,R12 63 u5,SV.int .i64 false u5.snd.held,SV.int .u64 false u5.snd.size] 74 239)∧True))∧(decide (64=u9.snd.held.toNat)=false→((8:Nat)≤8+u9.snd.held.toNat∧8+u9.snd.held.toNat+(64 - u9.snd.held.toNat)≤8+(64:Nat))∧((-9223372036854775808:Int)≤u9.snd.held+(↑(min (List.drop u9.fst s).length (64 - u9.snd.held.toNat)):Int) ∧u9.snd.held+(↑(min (List.drop u9.fst s).length (64 - u9.snd.held.toNat)):Int)≤9223372036854775807)∧(0≤(↑(min (List.drop u9.fst s).length (64 - u9.snd.held.toNat)):Int)∧(↑(min (List.drop u9.fst s).length (64 - u9.snd.held.toNat)):Int)≤(↑(List.drop u9.fst s).length:Int)∧(↑(List.drop u9.fst s).length:Int)≤(↑(List.drop u9.fst s).length:Int))∧(decide (u9.snd.held+(↑(min (List.drop u9.fst s).length (64 - u9.snd.held.toNat)):Int)=64)=true →∃(u4:Sh),SBle (P0 u9) (SB.cells [R14 0 u4,R14 1 u4,R14 2 u4,R14 3 u4,R14 4 u4,R14 5 u4,R14 6 u4,R14 7 u4,R15 0 u4,R15 1 u4,R15 2 u4,R15 3 u4,R15 4 u4,R15 5 u4,R15 6 u4,R15 7 u4,R15 8 u4,R15 9 u4,R15 10 u4,R15 11 u4,R15 12 u4,R15 13 u4,R15 14 u4,R15 15 u4,R15 16 u4,R15 17 u4,R15 18 u4,R15 19 u4,R15 20 u4,R15 21 u4,R15 22 u4,R15 23 u4,R15 24 u4,R15 25 u4,R15 26 u4,R15 27 u4,R15 28 u4,R15 29 u4,R15 30 u4,R15 31 u4,R15 32 u4,R15 33 u4,R15 34 u4,R15 35 u4,R15 36 u4,R15 37 u4,R15 38 u4,R15 39 u4,R15 40 u4,R15 41 u4,R15 42 u4,R15 43 u4,R15 44 u4,R15 45 u4,R15 46 u4,R15 47 u4,R15 48 u4,R15 49 u4,R15 50 u4,R15 51 u4,R15 52 u4,R15 53 u4,R15 54 u4,R15 55 u4,R15 56 u4,R15 57 u4,R15 58 u4,R15 59 u4,R15 60 u4,R15 61 u4,R15 62 u4,R15 63 u4,SV.int .i64 false u4.held,SV.int .u64 false u4.size] 74 239)∧u4.Ok∧∀(_u3:Unit),True→∃(u2:Nat×Sh),((u2.fst≤s.length∧IsSh u2.snd (T++List.take u2.fst s)∧u2.snd.size=z)∧s.length - u2.fst<s.length - u9.fst) ∧subStr (List.drop u9.fst s) (some (Operand.tmp 37)) none (↑(min (List.drop u9.fst s).length (64 - u9.snd.held.toNat)):Int) (↑(List.drop u9.fst s).length:Int)=List.drop u2.fst s ∧SBle (SB.cells [R16 0 u4,R16 1 u4,R16 2 u4,R16 3 u4,R16 4 u4,R16 5 u4,R16 6 u4,R16 7 u4,R15 0 u4,R15 1 u4,R15 2 u4,R15 3 u4,R15 4 u4,R15 5 u4,R15 6 u4,R15 7 u4,R15 8 u4,R15 9 u4,R15 10 u4,R15 11 u4,R15 12 u4,R15 13 u4,R15 14 u4,R15 15 u4,R15 16 u4,R15 17 u4,R15 18 u4,R15 19 u4,R15 20 u4,R15 21 u4,R15 22 u4,R15 23 u4,R15 24 u4,R15 25 u4,R15 26 u4,R15 27 u4,R15 28 u4,R15 29 u4,R15 30 u4,R15 31 u4,R15 32 u4,R15 33 u4,R15 34 u4,R15 35 u4,R15 36 u4,R15 37 u4,R15 38 u4,R15 39 u4,R15 40 u4,R15 41 u4,R15 42 u4,R15 43 u4,R15 44 u4,R15 45 u4,R15 46 u4,R15 47 u4,R15 48 u4,R15 49 u4,R15 50 u4,R15 51 u4,R15 52 u4,R15 53 u4,R15 54 u4,R15 55 u4,R15 56 u4,R15 57 u4,R15 58 u4,R15 59 u4,R15 60 u4,R15 61 u4,R15 62 u4,R15 63 u4,SV.int .i64 true 0,SV.int .u64 false u4.size] 74 239) (SB.cells [R17 0 u2,R17 1 u2,R17 2 u2,R17 3 u2,R17 4 u2,R17 5 u2,R17 6 u2,R17 7 u2,R18 0 u2,R18 1 u2,R18 2 u2,R18 3 u2,R18 4 u2,R18 5 u2,R18 6 u2,R18 7 u2,R18 8 u2,R18 9 u2,R18 10 u2,R18 11 u2,R18 12 u2,R18 13 u2,R18 14 u2,R18 15 u2,R18 16 u2,R18 17 u2,R18 18 u2,R18 19 u2,R18 20 u2,R18 21 u2,R18 22 u2,R18 23 u2,R18 24 u2,R18 25 u2,R18 26 u2,R18 27 u2,R18 28 u2,R18 29 u2,R18 30 u2,R18 31 u2,R18 32 u2,R18 33 u2,R18 34 u2,R18 35 u2,R18 36 u2,R18 37 u2,R18 38 u2,R18 39 u2,R18 40 u2,R18 41 u2,R18 42 u2,R18 43 u2,R18 44 u2,R18 45 u2,R18 46 u2,R18 47 u2,R18 48 u2,R18 49 u2,R18 50 u2,R18 51 u2,R18 52 u2,R18 53 u2,R18 54 u2,R18 55 u2,R18 56 u2,R18 57 u2,R18 58 u2,R18 59 u2,R18 60 u2,R18 61 u2,R18 62 u2,R18 63 u2,SV.int .i64 false u2.snd.held,SV.int .u64 false u2.snd.size] 74 239) ∧True)∧(decide (u9.snd.held+(↑(min (List.drop u9.fst s).length (64 - u9.snd.held.toNat)):Int)=64)=false→∃(u1:Nat×Sh),((u1.fst≤s.length∧IsSh u1.snd (T++List.take u1.fst s)∧u1.snd.size=z)∧s.length - u1.fst<s.length - u9.fst)∧subStr (List.drop u9.fst s) (some (Operand.tmp 37)) none (↑(min (List.drop u9.fst s).length (64 - u9.snd.held.toNat)):Int) (↑(List.drop u9.fst s).length:Int)=List.drop u1.fst s ∧SBle (P0 u9) (SB.cells [R19 0 u1,R19 1 u1,R19 2 u1,R19 3 u1,R19 4 u1,R19 5 u1,R19 6 u1,R19 7 u1,R20 0 u1,R20 1 u1,R20 2 u1,R20 3 u1,R20 4 u1,R20 5 u1,R20 6 u1,R20 7 u1,R20 8 u1,R20 9 u1,R20 10 u1,R20 11 u1,R20 12 u1,R20 13 u1,R20 14 u1,R20 15 u1,R20 16 u1,R20 17 u1,R20 18 u1,R20 19 u1,R20 20 u1,R20 21 u1,R20 22 u1,R20 23 u1,R20 24 u1,R20 25 u1,R20 26 u1,R20 27 u1,R20 28 u1,R20 29 u1,R20 30 u1,R20 31 u1,R20 32 u1,R20 33 u1,R20 34 u1,R20 35 u1,R20 36 u1,R20 37 u1,R20 38 u1,R20 39 u1,R20 40 u1,R20 41 u1,R20 42 u1,R20 43 u1,R20 44 u1,R20 45 u1,R20 46 u1,R20 47 u1,R20 48 u1,R20 49 u1,R20 50 u1,R20 51 u1,R20 52 u1,R20 53 u1,R20 54 u1,R20 55 u1,R20 56 u1,R20 57 u1,R20 58 u1,R20 59 u1,R20 60 u1,R20 61 u1,R20 62 u1,R20 63 u1,SV.int .i64 false u1.snd.held,SV.int .u64 false u1.snd.size] 74 239)∧True)))∧((!decide (List.drop u9.fst s=[]))=false→∃(u0:Sh),IsS u0 (T++s) ∧SBle (SB.cells [R4 0 u9,R4 1 u9,R4 2 u9,R4 3 u9,R4 4 u9,R4 5 u9,R4 6 u9,R4 7 u9,R21 0 u9,R21 1 u9,R21 2 u9,R21 3 u9,R21 4 u9,R21 5 u9,R21 6 u9,R21 7 u9,R21 8 u9,R21 9 u9,R21 10 u9,R21 11 u9,R21 12 u9,R21 13 u9,R21 14 u9,R21 15 u9,R21 16 u9,R21 17 u9,R21 18 u9,R21 19 u9,R21 20 u9,R21 21 u9,R21 22 u9,R21 23 u9,R21 24 u9,R21 25 u9,R21 26 u9,R21 27 u9,R21 28 u9,R21 29 u9,R21 30 u9,R21 31 u9,R21 32 u9,R21 33 u9,R21 34 u9,R21 35 u9,R21 36 u9,R21 37 u9,R21 38 u9,R21 39 u9,R21 40 u9,R21 41 u9,R21 42 u9,R21 43 u9,R21 44 u9,R21 45 u9,R21 46 u9,R21 47 u9,R21 48 u9,R21 49 u9,R21 50 u9,R21 51 u9,R21 52 u9,R21 53 u9,R21 54 u9,R21 55 u9,R21 56 u9,R21 57 u9,R21 58 u9,R21 59 u9,R21 60 u9,R21 61 u9,R21 62 u9,R21 63 u9,SV.int .i64 false u9.snd.held,SV.int .u64 false u9.snd.size] 74 239) (SB.cells [R22 0 u0,R22 1 u0,R22 2 u0,R22 3 u0,R22 4 u0,R22 5 u0,R22 6 u0,R22 7 u0,R23 0 u0,R23 1 u0,R23 2 u0,R23 3 u0,R23 4 u0,R23 5 u0,R23 6 u0,R23 7 u0,R23 8 u0,R23 9 u0,R23 10 u0,R23 11 u0,R23 12 u0,R23 13 u0,R23 14 u0,R23 15 u0,R23 16 u0,R23 17 u0,R23 18 u0,R23 19 u0,R23 20 u0,R23 21 u0,R23 22 u0,R23 23 u0,R23 24 u0,R23 25 u0,R23 26 u0,R23 27 u0,R23 28 u0,R23 29 u0,R23 30 u0,R23 31 u0,R23 32 u0,R23 33 u0,R23 34 u0,R23 35 u0,R23 36 u0,R23 37 u0,R23 38 u0,R23 39 u0,R23 40 u0,R23 41 u0,R23 42 u0,R23 43 u0,R23 44 u0,R23 45 u0,R23 46 u0,R23 47 u0,R23 48 u0,R23 49 u0,R23 50 u0,R23 51 u0,R23 52 u0,R23 53 u0,R23 54 u0,R23 55 u0,R23 56 u0,R23 57 u0,R23 58 u0,R23 59 u0,R23 60 u0,R23 61 u0,R23 62 u0,R23 63 u0,SV.int .i64 false u0.held,SV.int .u64 false u0.size] 74 239) ∧sameVal (SV.ptr 0 true 0) (SV.ptr 0 true 0))))) (fun(u9:Nat×Sh)=>(SB.cells [R4 0 u9,R4 1 u9,R4 2 u9,R4 3 u9,R4 4 u9,R4 5 u9,R4 6 u9,R4 7 u9,R5 0 u9,R5 1 u9,R5 2 u9,R5 3 u9,R5 4 u9,R5 5 u9,R5 6 u9,R5 7 u9,R5 8 u9,R5 9 u9,R5 10 u9,R5 11 u9,R5 12 u9,R5 13 u9,R5 14 u9,R5 15 u9,R5 16 u9,R5 17 u9,R5 18 u9,R5 19 u9,R5 20 u9,R5 21 u9,R5 22 u9,R5 23 u9,R5 24 u9,R5 25 u9,R5 26 u9,R5 27 u9,R5 28 u9,R5 29 u9,R5 30 u9,R5 31 u9,R5 32 u9,R5 33 u9,R5 34 u9,R5 35 u9,R5 36 u9,R5 37 u9,R5 38 u9,R5 39 u9,R5 40 u9,R5 41 u9,R5 42 u9,R5 43 u9,R5 44 u9,R5 45 u9,R5 46 u9,R5 47 u9,R5 48 u9,R5 49 u9,R5 50 u9,R5 51 u9,R5 52 u9,R5 53 u9,R5 54 u9,R5 55 u9,R5 56 u9,R5 57 u9,R5 58 u9,R5 59 u9,R5 60 u9,R5 61 u9,R5 62 u9,R5 63 u9,SV.int .i64 false (u9.snd.held+(↑(min (List.drop u9.fst s).length (64 - u9.snd.held.toNat)):Int)),SV.int .u64 false u9.snd.size] 74 239)))) (fun(u9:Nat×Sh)=>(SB.cells [R4 0 u9,R4 1 u9,R4 2 u9,R4 3 u9,R4 4 u9,R4 5 u9,R4 6 u9,R4 7 u9,R13 0 u9,R13 1 u9,R13 2 u9,R13 3 u9,R13 4 u9,R13 5 u9,R13 6 u9,R13 7 u9,R13 8 u9,R13 9 u9,R13 10 u9,R13 11 u9,R13 12 u9,R13 13 u9,R13 14 u9,R13 15 u9,R13 16 u9,R13 17 u9,R13 18 u9,R13 19 u9,R13 20 u9,R13 21 u9,R13 22 u9,R13 23 u9,R13 24 u9,R13 25 u9,R13 26 u9,R13 27 u9,R13 28 u9,R13 29 u9,R13 30 u9,R13 31 u9,R13 32 u9,R13 33 u9,R13 34 u9,R13 35 u9,R13 36 u9,R13 37 u9,R13 38 u9,R13 39 u9,R13 40 u9,R13 41 u9,R13 42 u9,R13 43 u9,R13 44 u9,R13 45 u9,R13 46 u9,R13 47 u9,R13 48 u9,R13 49 u9,R13 50 u9,R13 51 u9,R13 52 u9,R13 53 u9,R13 54 u9,R13 55 u9,R13 56 u9,R13 57 u9,R13 58 u9,R13 59 u9,R13 60 u9,R13 61 u9,R13 62 u9,R13 63 u9,SV.int .i64 false (u9.snd.held+(↑(min (List.drop u9.fst s).length (64 - u9.snd.held.toNat)):Int)),SV.int .u64 false u9.snd.size] 74 239)))) (fun(n0:Nat) (u0:Sh)=>SV.int .u8 false (u0.B n0)))) (fun(n0:Nat) (u0:Sh)=>SV.int .u32 false (u0.W n0)))) (fun(n0:Nat) (u9:Nat×Sh)=>SV.int .u8 false (u9.snd.B n0)))) (fun(n0:Nat) (u1:Nat×Sh)=>SV.int .u8 false (u1.snd.B n0)))) (fun(n0:Nat) (u1:Nat×Sh)=>SV.int .u32 false (u1.snd.W n0)))) (fun(n0:Nat) (u2:Nat×Sh)=>SV.int .u8 false (u2.snd.B n0)))) (fun(n0:Nat) (u2:Nat×Sh)=>SV.int .u32 false (u2.snd.W n0)))) (fun(n0:Nat) (u4:Sh)=>SV.int .u32 false (mixS u4.W u4.B n0)))) (fun(n0:Nat) (u4:Sh)=>SV.int .u8 false (u4.B n0)))) (fun(n0:Nat) (u4:Sh)=>SV.int .u32 false (u4.W n0)))) (fun(n0:Nat) (u9:Nat×Sh)=>SV.int .u8 false (if 8+u9.snd.held.toNat - 8≤(n0:Nat)∧(n0:Nat)<8+u9.snd.held.toNat - 8+min (List.drop u9.fst s).length (64 - u9.snd.held.toNat)then(↑((List.drop u9.fst s).getD (n0 - (8+u9.snd.held.toNat - 8)) (0:UInt8)).toNat:Int)else u9.snd.B n0)))) (fun(n0:Nat) (u5:Nat×Sh)=>SV.int .u8 false (u5.snd.B n0)))) (fun(n0:Nat) (u5:Nat×Sh)=>SV.int .u32 false (u5.snd.W n0)))) (fun(n0:Nat) (u6:Nat×Sh)=>SV.int .u8 false (u6.snd.B n0)))) (fun(n0:Nat) (u6:Nat×Sh)=>SV.int .u32 false (u6.snd.W n0)))) (fun(n0:Nat) (u8:Sh)=>SV.int .u32 false (mixS u8.W u8.B n0)))) (fun(n0:Nat) (u8:Sh)=>SV.int .u8 false (u8.B n0)))) (fun(n0:Nat) (u8:Sh)=>SV.int .u32 false (u8.W n0)))) (fun(n0:Nat) (u9:Nat×Sh)=>SV.int .u8 false (if(0:Nat)≤(n0:Nat)∧(n0:Nat)<0+min (List.drop u9.fst s).length (64 - u9.snd.held.toNat)then(↑((List.drop u9.fst s).getD n0 (0:UInt8)).toNat:Int)else u9.snd.B n0)))) (fun(n0:Nat) (u9:Nat×Sh)=>SV.int .u32 false (u9.snd.W n0)))) (fun(n0:Nat) (u10:Nat×Sh)=>SV.int .u8 false (u10.snd.B n0)))) (fun(n0:Nat) (u10:Nat×Sh)=>SV.int .u32 false (u10.snd.W n0)))) (fun(n0:Nat)=>SV.int .u8 false (x.B n0)))) (fun(n0:Nat)=>SV.int .u32 false (x.W n0))):=by kernel_rfl
end Go.Proofs.YtoalfimkkibpdaaGreatDoor
namespace Go.Proofs.YtoalfimkkibpdaaGreatDoor
open Go Sx
set_option maxRecDepth 20000
theorem wL_congr {B B':Nat→Int} (h: ∀ j,j<64→B j=B' j): ∀(n j:Nat),wL B n j=wL B' n j
 | 0,j=>by
   unfold wL
   by_cases e:j<16
   ·simp only[e,if_true,wordB,h (4*j) (by omega),h (4*j+1) (by omega),h (4*j+2) (by omega),h (4*j+3) (by omega)]
   ·simp only[e,if_false]
 | n+1,j=>by simp only[wL_succ,wL_congr h n]
theorem roundV_congr {v v':Nat→Int} (h: ∀ j,j<8→v j=v' j)(k w:Int): ∀ j,j<8→roundV v k w j=roundV v' k w j:=by
 have h0:=h 0 (by decide)
 have h1:=h 1 (by decide)
 have h2:=h 2 (by decide)
 have h3:=h 3 (by decide)
 have h4:=h 4 (by decide)
 have h5:=h 5 (by decide)
 have h6:=h 6 (by decide)
 have h7:=h 7 (by decide)
 intro j hj
 match j,hj with
 | 0,_=>simp only[roundV,t1F,t2F,h0,h1,h2,h4,h5,h6,h7]
 | 1,_=>exact h0
 | 2,_=>exact h1
 | 3,_=>exact h2
 | 4,_=>simp only[roundV,t1F,h3,h4,h5,h6,h7]
 | 5,_=>exact h4
 | 6,_=>exact h5
 | 7,_=>exact h6
theorem vAt_congr {W W' B B':Nat→Int} (hW: ∀ j,j<8→W j=W' j)(hB: ∀ j,j<64→B j=B' j): ∀ i j,j<8→vAt W B i j=vAt W' B' i j
 | 0,j,hj=>hW j hj
 | i+1,j,hj=>by
   simp only[vAt]
   rw[roundV_congr (vAt_congr hW hB i) _ _ j hj,wL_congr hB]
theorem mixS_congr {W W' B B':Nat→Int} (hW: ∀ j,j<8→W j=W' j)(hB: ∀ j,j<64→B j=B' j)(j:Nat)(hj:j<8):mixS W B j=mixS W' B' j:=by
 simp only[mixS,hW j hj,vAt_congr hW hB 64 j hj]
theorem blkAt_eq (T:List UInt8)(q j:Nat):blkAt T q j=((T.getD (64*q+j) 0).toNat:Int):=by
 unfold blkAt byteAt
 rw[Int.toNat_natCast]
theorem blkAt_left {T:List UInt8} (D:List UInt8) {q j:Nat} (h:64*q+j<T.length):blkAt (T++D) q j=blkAt T q j:=by
 rw[blkAt_eq,blkAt_eq,List.getD_eq_getElem?_getD,List.getD_eq_getElem?_getD,List.getElem?_append_left h]
theorem blkAt_right {T:List UInt8} (D:List UInt8) {q j:Nat} (h:T.length≤64*q+j):blkAt (T++D) q j=((D.getD (64*q+j - T.length) 0).toNat:Int):=by
 rw[blkAt_eq,List.getD_eq_getElem?_getD,List.getD_eq_getElem?_getD,List.getElem?_append_right h]
theorem words_append (T D:List UInt8): ∀ q,64*q≤T.length→∀ j,j<8→wordsAt (T++D) q j=wordsAt T q j
 | 0,_,_,_=>rfl
 | q+1,h,j,hj=>by
   simp only[wordsAt]
   exact mixS_congr (words_append T D q (by omega)) (fun i hi=>blkAt_left D (by omega)) j hj
theorem mixS_u {W B:Nat→Int} (j:Nat):U (mixS W B j):=um _
theorem getD_255 (D:List UInt8)(i:Nat):0≤((D.getD i 0).toNat:Int)∧((D.getD i 0).toNat:Int)≤255:=by
 have:=(D.getD i 0).toNat_lt;omega
theorem getD_take {D:List UInt8} {n i:Nat} (h:i<n):(D.take n).getD i 0=D.getD i 0:=by
 rw[List.getD_eq_getElem?_getD,List.getD_eq_getElem?_getD,List.getElem?_take_of_lt h]
theorem put_ok {x:Sh} {T:List UInt8} (h:IsSh x T)(D:List UInt8):(putSh x D).Ok:=by
 refine⟨h.ok.w,fun j hj=> ?_⟩
 unfold putSh
 simp only
 split
 ·exact getD_255 _ _
 ·exact h.ok.b j hj
theorem put_b {x:Sh} {T:List UInt8} (h:IsSh x T) {D:List UInt8} (j:Nat)(hj:j<T.length% 64+min D.length (64 - T.length% 64)):(putSh x D).B j=blkAt (T++D.take (min D.length (64 - T.length% 64))) (T.length / 64) j:=by
 have hh:=h.h
 have e:x.held.toNat=T.length% 64:=by omega
 unfold putSh
 simp only[e]
 have hd:=Nat.div_add_mod T.length 64
 by_cases c:j<T.length% 64
 ·rw[if_neg (by omega),h.b j c,blkAt_left _ (by omega)]
 ·rw[if_pos (by omega),blkAt_right _ (by omega),getD_take (by omega)]
  congr 3
  omega
theorem put_part {x:Sh} {T D:List UInt8} (h:IsSh x T)(hc:T.length% 64+min D.length (64 - T.length% 64)<64):IsSh (putSh x D) (T++D.take (min D.length (64 - T.length% 64))):=by
 have hl:(T++D.take (min D.length (64 - T.length% 64))).length=T.length+min D.length (64 - T.length% 64):=by
  rw[List.length_append,List.length_take];omega
 have hd:=Nat.div_add_mod T.length 64
 have e1:(T++D.take (min D.length (64 - T.length% 64))).length / 64=T.length / 64:=by omega
 have e2:(T++D.take (min D.length (64 - T.length% 64))).length% 64=T.length% 64+min D.length (64 - T.length% 64):=by omega
 refine⟨put_ok h D,fun j hj=> ?_,fun j hj=> ?_,?_⟩
 ·rw[e1,words_append _ _ _ (by omega) j hj];exact h.w j hj
 ·rw[e2] at hj
  rw[e1];exact put_b h j hj
 ·have hh:=h.h
  have e:x.held.toNat=T.length% 64:=by omega
  rw[e2]
  show x.held+((min D.length (64 - x.held.toNat):Nat):Int)=_
  rw[e];omega
theorem put_full {x:Sh} {T D:List UInt8} (h:IsSh x T)(hc:T.length% 64+min D.length (64 - T.length% 64)=64):IsSh ⟨mixS (putSh x D).W (putSh x D).B,(putSh x D).B,0,(putSh x D).size⟩ (T++D.take (min D.length (64 - T.length% 64))):=by
 have hl:(T++D.take (min D.length (64 - T.length% 64))).length=T.length+min D.length (64 - T.length% 64):=by
  rw[List.length_append,List.length_take];omega
 have hd:=Nat.div_add_mod T.length 64
 have e1:(T++D.take (min D.length (64 - T.length% 64))).length / 64=T.length / 64+1:=by omega
 have e2:(T++D.take (min D.length (64 - T.length% 64))).length% 64=0:=by omega
 refine⟨⟨fun j hj=>mixS_u j,(put_ok h D).b⟩,fun j hj=> ?_,fun j hj=> ?_,?_⟩
 ·rw[e1]
  simp only[wordsAt]
  refine mixS_congr (fun i hi=> ?_) (fun i hi=> ?_) j hj
  ·rw[words_append _ _ _ (by omega) i hi];exact h.w i hi
  ·exact put_b h i (by omega)
 ·rw[e2] at hj;exact absurd hj (Nat.not_lt_zero _)
 ·rw[e2];rfl
theorem write_holds {x:Sh} {T s:List UInt8} (hx:IsS x T)(_hs:s.length<1152921504606846976) :
  Holds (runBox (cfgWr T s (((T++s).length:Int)% 18446744073709551616)) 100 Tryz.f100 [.ptr 0 true 0,.str false s] shSB (x,T) (fun y:Sh=>(IsS y (T++s),.ptr 0 true 0,(y,T++s)))):=by
 refine Holds.of_eq (vcWrite x T s _) ?_
 dsimp only
 obtain⟨hx,hz⟩:=hx
 refine⟨⟨(0,⟨x.W,x.B,x.held,(x.size+(s.length:Int)% 18446744073709551616)% 18446744073709551616⟩),⟨Nat.zero_le _,?_,?_⟩,rfl,SBle.refl _,trivial⟩,fun g hg=>⟨fun a=> ?_,fun a=> ?_⟩⟩
 ·show IsSh _ (T++s.take 0)
  rw[List.take_zero,List.append_nil]
  exact⟨⟨hx.ok.w,hx.ok.b⟩,hx.w,hx.b,hx.h⟩
 ·show(x.size+(s.length:Int)% 18446744073709551616)% 18446744073709551616=_
  rw[hz,List.length_append]
  omega
 ·obtain⟨hk,hi,hsz⟩:=hg
  have hD:s.drop g.1≠[]:=by simpa using a
  have hh:=hi.h
  generalize hT:T++s.take g.1=T' at hi hh
  have e:g.2.held.toNat=T'.length% 64:=by omega
  have hlt:T'.length% 64<64:=Nat.mod_lt _ (by decide)
  have hp:=List.length_pos_iff.2 hD
  have hdl:(s.drop g.1).length=s.length - g.1:=List.length_drop ..
  have hmin:min (s.drop g.1).length (64 - g.2.held.toNat)=min (s.drop g.1).length (64 - T'.length% 64):=by rw[e]
  generalize hc:min (s.drop g.1).length (64 - g.2.held.toNat)=cnt at hmin ⊢
  have hT2:T++s.take (g.1+cnt)=T'++(s.drop g.1).take cnt:=by
   rw[← hT,List.append_assoc,List.take_add]
  have hsub:subStr (s.drop g.1) (some (Operand.tmp 37)) none (cnt:Int) ((s.drop g.1).length:Int)=s.drop (g.1+cnt):=by
   simp only[subStr,Int.toNat_natCast,List.drop_drop]
  have rest: ∀ {p:Prop},(8≤8+g.2.held.toNat∧8+g.2.held.toNat+(64 - g.2.held.toNat)≤8+64→(-9223372036854775808≤g.2.held+(cnt:Int)∧g.2.held+(cnt:Int)≤9223372036854775807)→(0≤(cnt:Int)∧(cnt:Int)≤((s.drop g.1).length:Int)∧((s.drop g.1).length:Int)≤((s.drop g.1).length:Int))→p)→p:=fun h=>h (by omega) (by omega) (by omega)
  refine⟨by omega,fun b=>absurd (of_decide_eq_true b) (by omega),fun _=>rest fun r1 r2 r3=>⟨r1,r2,r3,fun b=> ?_,fun b=> ?_⟩⟩
  ·have b:=of_decide_eq_true b
   refine⟨putSh g.2 (s.drop g.1),?_,put_ok hi _,fun _ _=>⟨(g.1+cnt,⟨mixS (putSh g.2 (s.drop g.1)).W (putSh g.2 (s.drop g.1)).B,(putSh g.2 (s.drop g.1)).B,0,(putSh g.2 (s.drop g.1)).size⟩),⟨⟨?_,?_,hsz⟩,?_⟩,hsub,Sx.SBle.cells (fun E=>rfl) rfl,trivial⟩⟩
   ·subst hc;exact SBle.refl _
   ·show g.1+cnt≤s.length;omega
   ·show IsSh _ (T++s.take (g.1+cnt))
    rw[hT2,hmin]
    exact put_full hi (by omega)
   ·show s.length - (g.1+cnt)<s.length - g.1;omega
  ·have b:=of_decide_eq_false b
   refine⟨(g.1+cnt,putSh g.2 (s.drop g.1)),⟨⟨?_,?_,hsz⟩,?_⟩,hsub,?_,trivial⟩
   ·show g.1+cnt≤s.length;omega
   ·show IsSh _ (T++s.take (g.1+cnt))
    rw[hT2,hmin]
    exact put_part hi (by omega)
   ·show s.length - (g.1+cnt)<s.length - g.1;omega
   ·subst hc;exact SBle.refl _
 ·obtain⟨hk,hi,hsz⟩:=hg
  have hD:s.drop g.1=[]:=by simpa using a
  have hl:(s.drop g.1).length=0:=by rw[hD];rfl
  rw[List.length_drop] at hl
  rw[List.take_of_length_le (by omega)] at hi
  exact⟨g.2,⟨hi,hsz⟩,SBle.refl _,fun _=>rfl⟩
theorem shSB_ok (x:Sh×List UInt8):(shSB x).wf 0=true∧(shSB x).ro=false∧(shSB x).no=false:=⟨rfl,rfl,rfl⟩
theorem write_ok:CallOk Tryz.prog 100 (boxPT shSB writeSpec):=by
 refine box_ok (n:=20) (fn:=Tryz.f100) Tryz.func100 (by kernel_rfl) (by kernel_rfl) shSB_ok ?_
 intro args g x h hp
 unfold writeSpec at h
 split at h
 ·rename_i s
  injection h with h;subst h
  obtain⟨x,T⟩:=x
  exact⟨cfgWr T s (((T++s).length:Int)% 18446744073709551616),[.ptr 0 true 0,.str false s],goodWr _ _ _,fun E=>rfl,rfl,fun _=>rfl,write_holds hp.1 hp.2⟩
 ·cases h
end Go.Proofs.YtoalfimkkibpdaaGreatDoor
namespace Go.Proofs.YtoalfimkkibpdaaGreatDoor.Sx
open Go
theorem Col.at_val (c:Col)(i:Nat)(E E':Nat→Nat):(c.at i).val E=(c.at i).val E':=by cases c<;>rfl
structure Seen where
 key:Option Nat
 z:Bool
 o:Nat
 n:Nat
 c:Nat
 cols:List Col
def Seen.B (s:Seen):SB:=.view s.z s.o s.n s.cols
def Seen.sv (j:Nat)(s:Seen):SV:=.vslc j s.cols.length s.z s.o 0 s.n s.c
def Seen.Stands (m:Mem)(s:Seen):Prop:=∀ Γ E nx w,SatM Γ E m nx w→s.B.no=false→∃ key X,s.key=some key∧m.get key=some X∧X.no=false∧∃ ob,w.heap[E key]?=some ob∧∀ E',BlkOk E' s.B ob
def SeenOf (m:Mem)(v:SV)(s:Seen):Prop:=(∀(E E':Nat→Nat)(j:Nat),(∀ key,s.key=some key→E' j=E key)→v.val E=(s.sv j).val E')∧s.Stands m
theorem view_ok_of {z:Bool} {o n:Nat} {cols:List Col} {ce:Array Value} {ty:TypeId} {fr:Nat×Nat} (h: ∀(i k:Nat)(col:Col),i<n→cols[k]?=some col→ce[o+i*cols.length+k]?=some ((col.at i).val (fun _=>0)))(E':Nat→Nat) :
  BlkOk E' (.view z o n cols) (.cells ce ty fr):=⟨ce,ty,fr,rfl,fun i k col hi hk=>by rw[Col.at_val col i E' (fun _=>0)];exact h i k col hi hk⟩
theorem seen_nil (m:Mem)(cols:List Col):SeenOf m .nilslc ⟨none,true,0,0,0,cols⟩:=⟨fun _ _ _ _=>rfl,fun _ _ _ _ _ h=>by cases h⟩
theorem shiftCols_map (i:Nat)(cols:List Col)(k:Nat)(col:Col)(h:(shiftCols i cols)[k]?=some col): ∃ d,cols[k]?=some d∧∀(j:Nat)(E:Nat→Nat),(col.at j).val E=(d.at (i+j)).val E:=by
 obtain⟨d,h1,h2⟩:=shiftCols_get h
 exact⟨d,h1,fun j E=>by rw[h2 j]⟩
theorem seen_rows {m:Mem} {key i n c n':Nat} {z:Bool} {cols:List Col} {ro:Bool} {tot:Nat} {ty:TypeId} (hk:m.get key=some (SB.rows z n' cols ro tot ty))(hn:i+n≤n') :
  SeenOf m (.rslc key cols.length z i n c) ⟨some key,z,i*cols.length,n,c,shiftCols i cols⟩:=by
 refine⟨fun E E' j h=>by simp[SV.val,Seen.sv,h key rfl],fun Γ E nx w hs h=> ?_⟩
 have hno:(SB.rows z n' cols ro tot ty).no=false:=by
  cases n with
  | zero =>
    have hz:z=false:=by
     cases z with
     | false=>rfl
     | true=>cases h
    subst hz;rfl
  | succ n=>exact SB.no_rows (i:=0) (by omega)
 obtain⟨ob,ho,ce,fr,rfl,_,_,_,h4⟩:=hs.blk key _ hk hno
 refine⟨key,_,rfl,hk,hno,_,ho,view_ok_of fun a b col ha hb=> ?_⟩
 obtain⟨d,h1,h2⟩:=shiftCols_map _ _ _ _ hb
 have:=h4 (i+a) b d (by simp only at ha;omega) h1
 rw[h2 a,Col.at_val d _ _ E,shiftCols_len,← this]
 congr 1
 rw[Nat.add_mul]
theorem seen_view {m:Mem} {key o i n c n':Nat} {z:Bool} {cols:List Col} (hk:m.get key=some (SB.view z o n' cols))(hn:i+n≤n') :
  SeenOf m (.vslc key cols.length z o i n c) ⟨some key,z,o+i*cols.length,n,c,shiftCols i cols⟩:=by
 refine⟨fun E E' j h=>by simp[SV.val,Seen.sv,h key rfl],fun Γ E nx w hs h=> ?_⟩
 have hno:(SB.view z o n' cols).no=false:=by
  cases n with
  | zero =>
    have hz:z=false:=by
     cases z with
     | false=>rfl
     | true=>cases h
    subst hz;rfl
  | succ n=>exact SB.no_view (i:=0) (by omega)
 obtain⟨ob,ho,ce,ty,fr,rfl,h4⟩:=hs.blk key _ hk hno
 refine⟨key,_,rfl,hk,hno,_,ho,view_ok_of fun a b col ha hb=> ?_⟩
 obtain⟨d,h1,h2⟩:=shiftCols_map _ _ _ _ hb
 have:=h4 (i+a) b d (by simp only at ha;omega) h1
 rw[h2 a,Col.at_val d _ _ E,shiftCols_len,← this]
 congr 1
 show o+i*cols.length+a*cols.length+b=o+(i+a)*cols.length+b
 rw[Nat.add_mul];omega
def svInt:SV→Int
 | .int _ _ n=>n
 | _=>0
def svBool:SV→Bool
 | .bool _ b=>b
 | _=>false
def svStr:SV→List UInt8
 | .str _ s=>s
 | _=>[]
def colAt (l:List SV)(w j:Nat):Option Col:=match l[j]? with
 | some (.int k _ _)=>some (.int k fun i=>svInt (l.getD (i*w+j) .nilptr))
 | some (.bool _ _)=>some (.bool fun i=>svBool (l.getD (i*w+j) .nilptr))
 | some (.str _ _)=>some (.str fun i=>svStr (l.getD (i*w+j) .nilptr))
 | _=>none
def kindOk:Col→SV→Bool
 | .int k _,.int k' _ _=>decide (k=k')
 | .bool _,.bool _ _=>true
 | .str _,.str _ _=>true
 | _,_=>false
theorem colAt_val {l:List SV} {w j i:Nat} {col:Col} (h:colAt l w j=some col)(hk:kindOk col (l.getD (i*w+j) .nilptr)=true)(E:Nat→Nat):(l.getD (i*w+j) .nilptr).val E=(col.at i).val E:=by
 unfold colAt at h
 split at h
 ·injection h with h;subst h
  unfold kindOk at hk
  split at hk
  ·rename_i e1 e2
   injection e1 with e1 _;subst e1
   simp only[decide_eq_true_eq] at hk
   rw[e2];simp only[Col.at,e2,svInt,SV.val,hk]
  ·cases ‹Col.int _ _=Col.bool _›
  ·cases ‹Col.int _ _=Col.str _›
  ·cases hk
 ·injection h with h;subst h
  unfold kindOk at hk
  split at hk
  ·cases ‹Col.bool _=Col.int _ _›
  ·rename_i e1 e2
   rw[e2];simp only[Col.at,e2,svBool,SV.val]
  ·cases ‹Col.bool _=Col.str _›
  ·cases hk
 ·injection h with h;subst h
  unfold kindOk at hk
  split at hk
  ·cases ‹Col.str _=Col.int _ _›
  ·cases ‹Col.str _=Col.bool _›
  ·rename_i e1 e2
   rw[e2];simp only[Col.at,e2,svStr,SV.val]
  ·cases hk
 ·cases h
theorem seen_cells {m:Mem} {key o n c tot:Nat} {cl:Bool} {ty:TypeId} {cs:List SV} {cols:List Col} (hk:m.get key=some (.cells cs tot ty))
  (hc: ∀(i j:Nat) (col:Col),i<n→cols[j]?=some col→∃ v,cs[o+i*cols.length+j]?=some v∧∀ E,v.val E=(col.at i).val E):SeenOf m (.slc key o n cl c) ⟨some key,false,o,n,c,cols⟩:=by
 refine⟨fun E E' j h=>by simp[SV.val,Seen.sv,h key rfl],fun Γ E nx w hs _=> ?_⟩
 obtain⟨ob,ho,ce,fr,rfl,_,h4,_⟩:=hs.blk key _ hk rfl
 refine⟨key,_,rfl,hk,rfl,_,ho,view_ok_of fun i j col hi hj=> ?_⟩
 obtain⟨v,g1,g2⟩:=hc i j col hi hj
 rw[h4 _ _ g1,g2 E,Col.at_val col i E (fun _=>0)]
def colsAt (l:List SV)(w:Nat):Nat→Nat→Option (List Col)
 | _,0=>some []
 | j,r+1=>match colAt l w j,colsAt l w (j+1) r with
   | some c,some cs=>some (c::cs)
   | _,_=>none
theorem colsAt_get {l:List SV} {w:Nat}: ∀ {r j:Nat} {cols:List Col},colsAt l w j r=some cols→cols.length=r∧∀(k:Nat)(c:Col),cols[k]?=some c→colAt l w (j+k)=some c
 | 0,_,_,h=>by injection h with h;subst h;exact⟨rfl,fun k c hc=>by simp at hc⟩
 | r+1,j,cols,h=>by
   unfold colsAt at h
   split at h
   ·rename_i c cs h1 h2
    injection h with h;subst h
    obtain⟨g1,g2⟩:=colsAt_get h2
    refine⟨by simp[g1],fun k d hd=> ?_⟩
    cases k with
    | zero=>injection hd with hd;subst hd;exact h1
    | succ k =>
      have:=g2 k d (by simpa using hd)
      rw[show j+(k+1)=j+1+k by omega];exact this
   ·cases h
def cellsOk (l:List SV)(w i j:Nat):List Col→Bool
 | []=>true
 | col::r=>Nat.blt (i*w+j) l.length&&kindOk col (l.getD (i*w+j) .nilptr)&&cellsOk l w i (j+1) r
theorem cellsOk_get {l:List SV} {w i:Nat}: ∀ {cols:List Col} {j:Nat},cellsOk l w i j cols=true→∀(k:Nat)(c:Col),cols[k]?=some c→i*w+(j+k)<l.length∧kindOk c (l.getD (i*w+(j+k)) .nilptr)=true
 | [],_,_,k,c,hc=>by simp at hc
 | d::r,j,h,k,c,hc=>by
   simp only[cellsOk,Bool.and_eq_true,Nat.blt_eq] at h
   obtain⟨⟨h1,h2⟩,h3⟩:=h
   cases k with
   | zero=>injection hc with hc;subst hc;exact⟨h1,h2⟩
   | succ k =>
     have:=cellsOk_get h3 k c (by simpa using hc)
     rw[show j+(k+1)=j+1+k by omega];exact this
def allOk (l:List SV)(w:Nat)(cols:List Col):Nat→Bool
 | 0=>true
 | i+1=>cellsOk l w i 0 cols&&allOk l w cols i
theorem allOk_get {l:List SV} {w:Nat} {cols:List Col}: ∀ {n:Nat},allOk l w cols n=true→∀ i,i<n→cellsOk l w i 0 cols=true
 | 0,_,i,hi=>absurd hi (Nat.not_lt_zero _)
 | n+1,h,i,hi=>by
   simp only[allOk,Bool.and_eq_true] at h
   by_cases e:i=n
   ·subst e;exact h.1
   ·exact allOk_get h.2 i (by omega)
def viewIn (d:List Col)(m:Mem):SV→Option (Prop×Seen)
 | .nilslc=>some (True,⟨none,true,0,0,0,d⟩)
 | .rslc key w z i n c=>(match m.get key with
   | some (.rows z' n' cols _ _ _)=>if w=cols.length then some (z=z'∧i+n≤n',⟨some key,z,i*w,n,c,shiftCols i cols⟩)else none
   | _=>none)
 | .vslc key w z o i n c=>(match m.get key with
   | some (.view z' o' n' cols)=>if w=cols.length then some (z=z'∧o'=o∧i+n≤n',⟨some key,z,o+i*w,n,c,shiftCols i cols⟩)else none
   | _=>none)
 | .slc key o n _ c=>(match m.get key with
   | some (.cells cs _ _)=>(match n with
     | 0=>some (True,⟨some key,false,o,0,c,d⟩)
     | n+1=>(match colsAt (cs.drop o) d.length 0 d.length with
       | some cols=>if allOk (cs.drop o) d.length cols (n+1)=true then some (True,⟨some key,false,o,n+1,c,cols⟩)else none
       | none=>none))
   | _=>none)
 | _=>none
theorem viewIn_ok {d:List Col} {m:Mem} {v:SV} {p:Prop} {s:Seen} (h:viewIn d m v=some (p,s))(hp:p):SeenOf m v s:=by
 unfold viewIn at h
 split at h
 ·injection h with h;injection h with h1 h2;subst h2;exact seen_nil m d
 ·rename_i key w z i n c
  split at h
  ·rename_i z' n' cols ro tot ty hk
   split at h
   ·rename_i hc
    subst hc
    injection h with h;injection h with h1 h2;subst h1;subst h2
    obtain⟨rfl,hp⟩:=hp
    exact seen_rows hk hp
   ·cases h
  ·cases h
 ·rename_i key w z o i n c
  split at h
  ·rename_i z' o' n' cols hk
   split at h
   ·rename_i hc
    subst hc
    injection h with h;injection h with h1 h2;subst h1;subst h2
    obtain⟨rfl,rfl,hp⟩:=hp
    exact seen_view hk hp
   ·cases h
  ·cases h
 ·rename_i key o n cl c
  split at h
  ·rename_i cs tot ty hk
   split at h
   ·injection h with h;injection h with h1 h2;subst h2
    exact seen_cells hk fun i j col hi=>absurd hi (Nat.not_lt_zero _)
   ·rename_i n
    split at h
    ·rename_i cols hcols
     split at h
     ·rename_i hall
      injection h with h;injection h with h1 h2;subst h2
      obtain⟨g1,g2⟩:=colsAt_get hcols
      refine seen_cells hk fun i j col hi hj=> ?_
      have h1:=g2 j col hj
      obtain⟨h2,h3⟩:=cellsOk_get (allOk_get hall i hi) j col hj
      rw[Nat.zero_add] at h1 h2 h3
      have h4:=colAt_val h1 h3
      refine⟨(cs.drop o).getD (i*d.length+j) .nilptr,?_,h4⟩
      rw[g1,Nat.add_assoc,← List.getElem?_drop,List.getD_eq_getElem?_getD,List.getElem?_eq_getElem h2]
      rfl
     ·cases h
    ·cases h
  ·cases h
 ·cases h
inductive Sh1 where
 | one
 | slice (d:List Col)
inductive Sh2 where
 | of (h:Sh1)
 | agg (l:List Sh1)
abbrev Pk (α:Type):=Option (α×Prop×List Seen)
def pick1 (m:Mem)(j:Nat)(h:Sh1)(v:SV):Pk SV:=match h with
 | .one=>if v.wf 0=true then some (unlit v,True,[])else none
 | .slice d=>match viewIn d m v with
   | some (p,s)=>some (s.sv j,p,[s])
   | none=>none
def picks1 (m:Mem):Nat→List Sh1→List SV→Pk (List SV)
 | _,[],[]=>some ([],True,[])
 | j,h::hs,v::vs=>(match pick1 m j h v with
   | some (v',p,l)=>(match picks1 m (j+l.length) hs vs with
     | some (vs',q,r)=>some (v'::vs',p∧q,l++r)
     | none=>none)
   | none=>none)
 | _,_,_=>none
def pick2 (m:Mem)(j:Nat)(h:Sh2)(v:SV):Pk SV:=match h,v with
 | .of h,v=>pick1 m j h v
 | .agg hs,.agg vs=>(match picks1 m j hs vs with
   | some (vs',p,l)=>some (.agg vs',p,l)
   | none=>none)
 | _,_=>none
def picks2 (m:Mem):Nat→List Sh2→List SV→Pk (List SV)
 | _,[],[]=>some ([],True,[])
 | j,h::hs,v::vs=>(match pick2 m j h v with
   | some (v',p,l)=>(match picks2 m (j+l.length) hs vs with
     | some (vs',q,r)=>some (v'::vs',p∧q,l++r)
     | none=>none)
   | none=>none)
 | _,_,_=>none
def Names (E E':Nat→Nat)(j:Nat)(l:List Seen):Prop:=∀(i:Nat)(s:Seen),l[i]?=some s→∀ key,s.key=some key→E' (j+i)=E key
theorem Names.left {E E':Nat→Nat} {j:Nat} {l r:List Seen} (h:Names E E' j (l++r)):Names E E' j l:=fun i s hi=>h i s (by
 rw[List.getElem?_append_left (List.getElem?_eq_some_iff.1 hi).1];exact hi)
theorem Names.right {E E':Nat→Nat} {j:Nat} {l r:List Seen} (h:Names E E' j (l++r)):Names E E' (j+l.length) r:=fun i s hi=>by
 rw[Nat.add_assoc]
 exact h (l.length+i) s (by rw[List.getElem?_append_right (by omega)];rw[Nat.add_sub_cancel_left];exact hi)
theorem pick1_ok {m:Mem} {j:Nat} {h:Sh1} {v v':SV} {p:Prop} {l:List Seen} (e:pick1 m j h v=some (v',p,l))(hp:p):(∀ E E',Names E E' j l→v.val E=v'.val E')∧∀ s∈ l,s.Stands m:=by
 unfold pick1 at e
 split at e
 ·split at e
  ·rename_i hw
   injection e with e;injection e with e1 e;injection e with e2 e3;subst e1;subst e3
   exact⟨fun E E' _=>by rw[unlit_val];exact SV.val_pure hw E E',fun s hs=>by cases hs⟩
  ·cases e
 ·split at e
  ·rename_i q s hq
   injection e with e;injection e with e1 e;injection e with e2 e3;subst e1;subst e2;subst e3
   obtain⟨h1,h2⟩:=viewIn_ok hq hp
   exact⟨fun E E' hn=>h1 E E' j fun key hk=>hn 0 s rfl key hk,fun t ht=>by rw[List.mem_singleton] at ht;subst ht;exact h2⟩
  ·cases e
theorem picks1_ok {m:Mem}: ∀ {hs:List Sh1} {j:Nat} {vs vs':List SV} {p:Prop} {l:List Seen},picks1 m j hs vs=some (vs',p,l)→p→(∀ E E',Names E E' j l→SV.vals E vs=SV.vals E' vs')∧∀ s∈ l,s.Stands m
 | [],_,[],_,_,_,e,_=>by
   injection e with e;injection e with e1 e;injection e with e2 e3;subst e1;subst e3
   exact⟨fun _ _ _=>rfl,fun s hs=>by cases hs⟩
 | h::hs,j,v::vs,vs',p,l,e,hp=>by
   simp only[picks1] at e
   split at e
   ·rename_i v1 p1 l1 h1
    split at e
    ·rename_i vs2 p2 l2 h2
     injection e with e;injection e with e1 e;injection e with e2 e3;subst e1;subst e2;subst e3
     obtain⟨a1,a2⟩:=pick1_ok h1 hp.1
     obtain⟨b1,b2⟩:=picks1_ok h2 hp.2
     refine⟨fun E E' hn=>by simp only[SV.vals];rw[a1 E E' hn.left,b1 E E' hn.right],fun s hs=> ?_⟩
     rcases List.mem_append.1 hs with hs | hs
     ·exact a2 s hs
     ·exact b2 s hs
    ·cases e
   ·cases e
 | [],_,_::_,_,_,_,e,_=>by cases e
 | _::_,_,[],_,_,_,e,_=>by cases e
theorem pick2_ok {m:Mem} {j:Nat} {h:Sh2} {v v':SV} {p:Prop} {l:List Seen} (e:pick2 m j h v=some (v',p,l))(hp:p):(∀ E E',Names E E' j l→v.val E=v'.val E')∧∀ s∈ l,s.Stands m:=by
 unfold pick2 at e
 split at e
 ·exact pick1_ok e hp
 ·split at e
  ·rename_i vs' p' l' h'
   injection e with e;injection e with e1 e;injection e with e2 e3;subst e1;subst e2;subst e3
   obtain⟨a1,a2⟩:=picks1_ok h' hp
   exact⟨fun E E' hn=>by simp only[SV.val];rw[a1 E E' hn],a2⟩
  ·cases e
 ·cases e
theorem picks2_ok {m:Mem}: ∀ {hs:List Sh2} {j:Nat} {vs vs':List SV} {p:Prop} {l:List Seen},picks2 m j hs vs=some (vs',p,l)→p→(∀ E E',Names E E' j l→SV.vals E vs=SV.vals E' vs')∧∀ s∈ l,s.Stands m
 | [],_,[],_,_,_,e,_=>by
   injection e with e;injection e with e1 e;injection e with e2 e3;subst e1;subst e3
   exact⟨fun _ _ _=>rfl,fun s hs=>by cases hs⟩
 | h::hs,j,v::vs,vs',p,l,e,hp=>by
   simp only[picks2] at e
   split at e
   ·rename_i v1 p1 l1 h1
    split at e
    ·rename_i vs2 p2 l2 h2
     injection e with e;injection e with e1 e;injection e with e2 e3;subst e1;subst e2;subst e3
     obtain⟨a1,a2⟩:=pick2_ok h1 hp.1
     obtain⟨b1,b2⟩:=picks2_ok h2 hp.2
     refine⟨fun E E' hn=>by simp only[SV.vals];rw[a1 E E' hn.left,b1 E E' hn.right],fun s hs=> ?_⟩
     rcases List.mem_append.1 hs with hs | hs
     ·exact a2 s hs
     ·exact b2 s hs
    ·cases e
   ·cases e
 | [],_,_::_,_,_,_,e,_=>by cases e
 | _::_,_,[],_,_,_,e,_=>by cases e
def fill1 (j:Nat)(h:Sh1)(v:SV)(l:List Seen):SV×Nat×List Seen:=match h,l with
 | .slice _,s::r=>(s.sv j,j+1,r)
 | _,l=>(v,j,l)
def fills1:Nat→List Sh1→List SV→List Seen→List SV×Nat×List Seen
 | j,h::hs,v::vs,l=>match fill1 j h v l with
   | (v',j',l')=>match fills1 j' hs vs l' with
     | (vs',j'',l'')=>(v'::vs',j'',l'')
 | j,_,vs,l=>(vs,j,l)
def fill2 (j:Nat)(h:Sh2)(v:SV)(l:List Seen):SV×Nat×List Seen:=match h,v with
 | .of h,v=>fill1 j h v l
 | .agg hs,.agg vs=>(match fills1 j hs vs l with
   | (vs',j',l')=>(.agg vs',j',l'))
 | _,v=>(v,j,l)
def fills2:Nat→List Sh2→List SV→List Seen→List SV×Nat×List Seen
 | j,h::hs,v::vs,l=>match fill2 j h v l with
   | (v',j',l')=>match fills2 j' hs vs l' with
     | (vs',j'',l'')=>(v'::vs',j'',l'')
 | j,_,vs,l=>(vs,j,l)
theorem fill1_eq {m:Mem} {j:Nat} {h:Sh1} {v v':SV} {p:Prop} {l:List Seen} (e:pick1 m j h v=some (v',p,l))(r:List Seen):fill1 j h v' (l++r)=(v',j+l.length,r):=by
 unfold pick1 at e
 split at e
 ·split at e
  ·injection e with e;injection e with e1 e;injection e with e2 e3;subst e1;subst e3;rfl
  ·cases e
 ·split at e
  ·injection e with e;injection e with e1 e;injection e with e2 e3;subst e1;subst e3;rfl
  ·cases e
theorem fills1_eq {m:Mem}: ∀ {hs:List Sh1} {j:Nat} {vs vs':List SV} {p:Prop} {l:List Seen},picks1 m j hs vs=some (vs',p,l)→∀ r,fills1 j hs vs' (l++r)=(vs',j+l.length,r)
 | [],_,[],_,_,_,e,r=>by
   injection e with e;injection e with e1 e;injection e with e2 e3;subst e1;subst e3;rfl
 | h::hs,j,v::vs,vs',p,l,e,r=>by
   simp only[picks1] at e
   split at e
   ·rename_i v1 p1 l1 h1
    split at e
    ·rename_i vs2 p2 l2 h2
     injection e with e;injection e with e1 e;injection e with e2 e3;subst e1;subst e2;subst e3
     have a:=fill1_eq h1 (l2++r)
     have b:=fills1_eq h2 r
     rw[List.append_assoc]
     simp only[fills1,a,b,List.length_append,Nat.add_assoc]
    ·cases e
   ·cases e
 | [],_,_::_,_,_,_,e,_=>by cases e
 | _::_,_,[],_,_,_,e,_=>by cases e
theorem fill2_eq {m:Mem} {j:Nat} {h:Sh2} {v v':SV} {p:Prop} {l:List Seen} (e:pick2 m j h v=some (v',p,l))(r:List Seen):fill2 j h v' (l++r)=(v',j+l.length,r):=by
 unfold pick2 at e
 split at e
 ·exact fill1_eq e r
 ·split at e
  ·rename_i vs' p' l' h'
   injection e with e;injection e with e1 e;injection e with e2 e3;subst e1;subst e2;subst e3
   have a:=fills1_eq h' r
   simp only[fill2,a]
  ·cases e
 ·cases e
theorem fills2_eq {m:Mem}: ∀ {hs:List Sh2} {j:Nat} {vs vs':List SV} {p:Prop} {l:List Seen},picks2 m j hs vs=some (vs',p,l)→∀ r,fills2 j hs vs' (l++r)=(vs',j+l.length,r)
 | [],_,[],_,_,_,e,r=>by
   injection e with e;injection e with e1 e;injection e with e2 e3;subst e1;subst e3;rfl
 | h::hs,j,v::vs,vs',p,l,e,r=>by
   simp only[picks2] at e
   split at e
   ·rename_i v1 p1 l1 h1
    split at e
    ·rename_i vs2 p2 l2 h2
     injection e with e;injection e with e1 e;injection e with e2 e3;subst e1;subst e2;subst e3
     have a:=fill2_eq h1 (l2++r)
     have b:=fills2_eq h2 r
     rw[List.append_assoc]
     simp only[fills2,a,b,List.length_append,Nat.add_assoc]
    ·cases e
   ·cases e
 | [],_,_::_,_,_,_,e,_=>by cases e
 | _::_,_,[],_,_,_,e,_=>by cases e
def filled (sh:List Sh2)(vs:List SV)(l:List Seen):List SV:=(fills2 0 sh vs l).1
theorem filled_eq {m:Mem} {hs:List Sh2} {vs vs':List SV} {p:Prop} {l:List Seen} (e:picks2 m 0 hs vs=some (vs',p,l)):filled hs vs' l=vs':=by
 have:=fills2_eq e []
 rw[List.append_nil] at this
 unfold filled
 rw[this]
def seenMem:Nat→List Seen→Mem
 | _,[]=>[]
 | j,s::r=>(j,s.B)::seenMem (j+1) r
theorem seenMem_get: ∀ {l:List Seen} {j k:Nat} {B:SB},(seenMem j l).get k=some B→∃ i s,k=j+i∧l[i]?=some s∧B=s.B
 | [],_,_,_,h=>by cases h
 | s::r,j,k,B,h=>by
   rcases Mem.get_cons h with ⟨rfl,rfl⟩ | ⟨_,h⟩
   ·exact⟨0,s,rfl,rfl,rfl⟩
   ·obtain⟨i,t,e1,e2,e3⟩:=seenMem_get h
    exact⟨i+1,t,by omega,by simpa using e2,e3⟩
def seenE (E:Nat→Nat)(l:List Seen)(j:Nat):Nat:=match l[j]? with
 | some s=>(match s.key with
   | some k=>E k
   | none=>0)
 | none=>0
theorem names_seenE (E:Nat→Nat)(l:List Seen):Names E (seenE E l) 0 l:=fun i s hi key hk=>by simp only[seenE,Nat.zero_add,hi,hk]
theorem seen_sat {m:Mem} {l:List Seen} (h: ∀ s∈ l,s.Stands m) {Γ:Base} {E:Nat→Nat} {nx:Nat} {w:World} (hs:SatM Γ E m nx w) :
  SatM (Base.at w (fun _=>False) hs.glob (fun _ _ h=>h)) (seenE E l) (seenMem 0 l) l.length w:=by
 refine⟨fun j B hj hn=> ?_,fun j j' B B' hj hn hj' hn' hr he=> ?_,fun j B hj=> ?_,fun j B hj hn hro=> ?_,Ext.refl _ _,⟨Nat.zero_le _,fun k hk=>absurd hk (Nat.not_lt_zero _)⟩,fun D hD=>by cases hD⟩
 ·obtain⟨i,s,e1,e2,rfl⟩:=seenMem_get hj
  rw[Nat.zero_add] at e1;subst e1
  obtain⟨key,X,g1,g2,g3,ob,g4,g5⟩:=h s (List.mem_of_getElem? e2) Γ E nx w hs hn
  exact⟨ob,by simp only[seenE,e2,g1];exact g4,g5 _⟩
 ·obtain⟨i,s,e1,e2,rfl⟩:=seenMem_get hj
  obtain⟨i',s',e1',e2',rfl⟩:=seenMem_get hj'
  rcases hr with hr | hr<;>cases hr
 ·obtain⟨i,s,e1,e2,rfl⟩:=seenMem_get hj
  have:=(List.getElem?_eq_some_iff.1 e2).1
  omega
 ·obtain⟨i,s,e1,e2,rfl⟩:=seenMem_get hj
  cases hro
noncomputable def ansVPT (sh:List Sh2)(spec:List SV→List Seen→Option (Prop×Ans)):PT:=fun args m nx K=>match picks2 m 0 sh args with
 | some (vs,p,l)=>(match spec vs l with
   | some (q,a)=>.and (.atom (p∧q)) (a.vc m nx K)
   | none=>.fail "arguments that nothing is said of")
 | none=>.fail "a slice that is not known"
theorem ansVPT_mono (sh:List Sh2)(spec:List SV→List Seen→Option (Prop×Ans)):MonoPT (ansVPT sh spec):=by
 intro args m nx K K' hK h
 unfold ansVPT at h ⊢
 split at h
 ·split at h
  ·exact⟨h.1,Ans.vc_mono hK h.2⟩
  ·exact h
 ·exact h
theorem ansV_ok {P:Program} {f:FuncId} {fn:Func} (hf:P.funcs[f]?=some fn)(hn:(fn.name== "runtime.NumGoroutine")=false)(hb:fn.body.isSome=true) {n:Nat} {sh:List Sh2}
  {spec:List SV→List Seen→Option (Prop×Ans)}
  (h: ∀ vs l q a,spec vs l=some (q,a)→q→∃ cfg,Good P cfg∧SV.wfs l.length (filled sh vs l)=true∧a.Ok∧Holds (runFn P (calling P cfg n) [] noP (cfg.anns f) cfg.rounds fn (filled sh vs l) (seenMem 0 l) l.length (fun v m _=>a.fit v m))):CallOk P f (ansVPT sh spec):=by
 intro args m nx K hk hwf hargs Γ E w hs
 unfold ansVPT at hk
 split at hk
 ·rename_i vs p l hx
  split at hk
  ·rename_i q a hq
   obtain⟨⟨hxp,hqq⟩,hk⟩:=hk
   obtain⟨cfg,hg,h1,h2,h3⟩:=h _ _ _ _ hq hqq
   rw[filled_eq hx] at h1 h3
   obtain⟨e1,e2⟩:=picks2_ok hx hxp
   have hwm: ∀(j:Nat) (l:List Seen),Mem.wf l.length (seenMem j l)=true:=by
    intro j l
    have: ∀(j n:Nat) (l:List Seen),Mem.wf n (seenMem j l)=true:=by
     intro j n l
     induction l generalizing j with
     | nil=>rfl
     | cons s r ih=>simp only[seenMem,Mem.wf,Bool.and_eq_true];exact⟨rfl,ih _⟩
    exact this j _ l
   have hc:=calls_of_holds hg hf hn hb h3 (hwm 0 l) h1 (seen_sat e2 hs)
   rw[← e1 E _ (names_seenE E l)] at hc
   refine out_of_calls hf hn hb (hc.mono ?_)
   rintro e w' ⟨v,rfl,E',sv,m',nx',_,_,g3,g4,g5⟩
   refine⟨v,rfl,?_⟩
   cases sv with
   | none=>exact g5.elim
   | some u=>rw[g3 u rfl];exact Ans.told hs hwf g4 h2 g5 hk
  ·exact hk.elim
 ·exact hk.elim
end Go.Proofs.YtoalfimkkibpdaaGreatDoor.Sx
namespace Go.Proofs.YtoalfimkkibpdaaGreatDoor
open Go Sx
set_option maxRecDepth 20000
noncomputable def runS (cfg:Cfg)(f:Nat)(fn:Func)(args:List SV)(l:List Seen)(a:Ans):VC:=runFn Tryz.prog (calling Tryz.prog cfg 20) [] noP (cfg.anns f) cfg.rounds fn args (seenMem 0 l) l.length (fun v m _=>a.fit v m)
def listIn (m:Mem)(v:SV):Option (List (List UInt8)):=match v with
 | .slc key o n _ _=>(match m.get key with
   | some (.cells cs _ _)=>strCells ((cs.drop o).take n)
   | _=>none)
 | _=>none
theorem strCells_of {cs:List SV} {n:Nat} {l:List (List UInt8)} (h:strCells (cs.take n)=some l)(hn:n≤cs.length):rowL (fun i=>svStr (cs.getD (i*1+0) .nilptr)) 0 n=l:=by
 obtain⟨g1,g2⟩:=strCells_get h
 rw[List.length_take] at g1
 apply List.ext_getElem?
 intro i
 by_cases hi:i<n
 ·have hl:i<l.length:=by omega
  obtain⟨b,hb⟩:=g2 i _ (List.getElem?_eq_getElem hl)
  rw[List.getElem?_take_of_lt hi] at hb
  unfold rowL
  rw[List.getElem?_map,List.getElem?_range hi,List.getElem?_eq_getElem hl]
  simp only[Option.map_some,Nat.zero_add,Nat.mul_one,Nat.add_zero,List.getD_eq_getElem?_getD,hb,Option.getD_some,svStr]
 ·rw[List.getElem?_eq_none (by rw[rowL_len];omega),List.getElem?_eq_none (by omega)]
theorem allOk_len {l:List SV} {cols:List Col} (hc:0<cols.length): ∀ {n:Nat},allOk l 1 cols n=true→n≤l.length
 | 0,_=>Nat.zero_le _
 | i+1,h=>by
   simp only[allOk,Bool.and_eq_true] at h
   cases cols with
   | nil=>simp at hc
   | cons c r =>
     have:=h.1
     simp only[cellsOk,Bool.and_eq_true,Nat.blt_eq] at this
     omega
theorem listIn_eq {m:Mem} {v:SV} {p:Prop} {s:Seen} {f:Nat→List UInt8} {l:List (List UInt8)} (h:viewIn [.str fun _=>[]] m v=some (p,s))(hc:s.cols=[.str f])(hl:listIn m v=some l):rowL f 0 s.n=l:=by
 unfold listIn at hl
 split at hl
 ·rename_i key o n cl c
  simp only[viewIn] at h
  split at h
  ·rename_i cs tot ty hk
   rw[hk] at hl
   simp only at hl
   cases n with
   | zero =>
     injection h with h;injection h with h1 h2;subst h2
     simp[strCells] at hl;subst hl;rfl
   | succ n =>
     simp only at h
     split at h
     ·rename_i cols hcols
      split at h
      ·rename_i hall
       injection h with h;injection h with h1 h2;subst h2
       simp only at hc
       subst hc
       simp only[List.length_cons,List.length_nil,Nat.zero_add,colsAt] at hcols
       split at hcols
       ·rename_i a b ha hb
        injection hb with hb;subst hb
        injection hcols with e
        injection e with e _
        subst e
        have hlen:=allOk_len (by simp) hall
        unfold colAt at ha
        split at ha
        ·cases ha
        ·cases ha
        ·injection ha with ha
         injection ha with ha
         subst ha
         exact strCells_of hl hlen
        ·cases ha
       ·cases hcols
      ·cases h
     ·cases h
  ·cases h
 ·cases hl
noncomputable def strsPT (q:List (List UInt8)→Prop)(g:List (List UInt8)→SV):PT:=fun args m nx K=>match args with
 | [v]=>(match viewIn [.str fun _=>[]] m v with
   | some (p,s)=>(match s.cols with
     | [.str f]=>(match listIn m v with
       | some l=>.and (.atom (p∧q l)) (K (g l) m nx)
       | none=>.and (.atom (p∧q (rowL f 0 s.n))) (K (g (rowL f 0 s.n)) m nx))
     | _=>.fail "texts that are not known")
   | none=>.fail "texts that are not known")
 | _=>.fail "arguments"
theorem strsPT_mono (q:List (List UInt8)→Prop)(g:List (List UInt8)→SV):MonoPT (strsPT q g):=by
 intro args m nx K K' hK h
 unfold strsPT at h ⊢
 split at h
 ·split at h
  ·split at h
   ·split at h<;>exact⟨h.1,hK _ _ _ h.2⟩
   ·exact h
  ·exact h
 ·exact h
def shS:List Sh2:=[.of (.slice [.str fun _=>[]])]
def rowOf (vs:List SV)(l:List Seen):Option (Nat×(Nat→List UInt8)×Bool×Nat×Nat×Option Nat):=match vs,l with
 | [_],[⟨key,z,o,n,c,[.str f]⟩]=>some (n,f,z,o,c,key)
 | _,_=>none
theorem rowOf_eq {vs:List SV} {l:List Seen} {n:Nat} {f:Nat→List UInt8} {z:Bool} {o c:Nat} {key:Option Nat} (h:rowOf vs l=some (n,f,z,o,c,key)):filled shS vs l=[.vslc 0 1 z o 0 n c]∧l=[⟨key,z,o,n,c,[.str f]⟩]:=by
 unfold rowOf at h
 split at h
 ·injection h with h;injection h with h1 h;injection h with h2 h;injection h with h3 h;injection h with h4 h;injection h with h5 h6
  subst h1;subst h2;subst h3;subst h4;subst h5;subst h6
  exact⟨rfl,rfl⟩
 ·cases h
def strsSpec (q:List (List UInt8)→Prop)(g:List (List UInt8)→SV)(vs:List SV)(l:List Seen):Option (Prop×Ans):=match rowOf vs l with
 | some (n,f,_)=>some (q (rowL f 0 n),.ret (g (rowL f 0 n)))
 | none=>none
theorem strs_ok {P:Program} {f:FuncId} {q:List (List UInt8)→Prop} {g:List (List UInt8)→SV} (h:CallOk P f (ansVPT shS (strsSpec q g))):CallOk P f (strsPT q g):=by
 intro args m nx K hk hwf hargs Γ E w hs
 refine h args m nx K ?_ hwf hargs Γ E w hs
 unfold strsPT at hk
 split at hk
 ·rename_i v
  split at hk
  ·rename_i p s hv
   split at hk
   ·rename_i f' hc
    have hk:(VC.and (.atom (p∧q (rowL f' 0 s.n))) (K (g (rowL f' 0 s.n)) m nx)).holds:=by
     split at hk
     ·rename_i l hl
      rw[listIn_eq hv hc hl];exact hk
     ·exact hk
    obtain⟨key,z,o,n,c,cols⟩:=s
    simp only at hc
    subst hc
    have e:picks2 m 0 shS [v]=some ([(⟨key,z,o,n,c,[.str f']⟩:Seen).sv 0],(p∧True),[⟨key,z,o,n,c,[.str f']⟩]):=by
     simp only[shS,picks2,pick2,pick1,hv,List.append_nil]
    unfold ansVPT
    rw[e]
    exact⟨⟨⟨hk.1.1,trivial⟩,hk.1.2⟩,hk.2⟩
   ·exact hk.elim
  ·exact hk.elim
 ·exact hk.elim
end Go.Proofs.YtoalfimkkibpdaaGreatDoor
namespace Go.Proofs.YtoalfimkkibpdaaGreatDoor
open Go Sx
set_option maxRecDepth 20000
def sizeB (n:Int):List UInt8:=[UInt8.ofNat (n / 72057594037927936% 256).toNat,UInt8.ofNat (n / 281474976710656% 256).toNat,UInt8.ofNat (n / 1099511627776% 256).toNat,UInt8.ofNat (n / 4294967296% 256).toNat,UInt8.ofNat (n / 16777216% 256).toNat,UInt8.ofNat (n / 65536% 256).toNat,UInt8.ofNat (n / 256% 256).toNat,UInt8.ofNat (n / 1% 256).toNat]
def zerosN (T:List UInt8):Nat:=(119 - T.length% 64)% 64
def tailL (T:List UInt8):List UInt8:=128::(List.replicate (zerosN T) 0++sizeB ((T.length:Int)% 18446744073709551616*8% 18446744073709551616))
def padT (T:List UInt8):List UInt8:=T++tailL T
def outW (W:Nat→Int):List UInt8:=[UInt8.ofNat (W 0 / 16777216% 256).toNat,UInt8.ofNat (W 0 / 65536% 256).toNat,UInt8.ofNat (W 0 / 256% 256).toNat,UInt8.ofNat (W 0% 256).toNat,UInt8.ofNat (W 1 / 16777216% 256).toNat,UInt8.ofNat (W 1 / 65536% 256).toNat,UInt8.ofNat (W 1 / 256% 256).toNat,UInt8.ofNat (W 1% 256).toNat,UInt8.ofNat (W 2 / 16777216% 256).toNat,UInt8.ofNat (W 2 / 65536% 256).toNat,UInt8.ofNat (W 2 / 256% 256).toNat,UInt8.ofNat (W 2% 256).toNat,UInt8.ofNat (W 3 / 16777216% 256).toNat,UInt8.ofNat (W 3 / 65536% 256).toNat,UInt8.ofNat (W 3 / 256% 256).toNat,UInt8.ofNat (W 3% 256).toNat,UInt8.ofNat (W 4 / 16777216% 256).toNat,UInt8.ofNat (W 4 / 65536% 256).toNat,UInt8.ofNat (W 4 / 256% 256).toNat,UInt8.ofNat (W 4% 256).toNat,UInt8.ofNat (W 5 / 16777216% 256).toNat,UInt8.ofNat (W 5 / 65536% 256).toNat,UInt8.ofNat (W 5 / 256% 256).toNat,UInt8.ofNat (W 5% 256).toNat,UInt8.ofNat (W 6 / 16777216% 256).toNat,UInt8.ofNat (W 6 / 65536% 256).toNat,UInt8.ofNat (W 6 / 256% 256).toNat,UInt8.ofNat (W 6% 256).toNat,UInt8.ofNat (W 7 / 16777216% 256).toNat,UInt8.ofNat (W 7 / 65536% 256).toNat,UInt8.ofNat (W 7 / 256% 256).toNat,UInt8.ofNat (W 7% 256).toNat]
def shaL (T:List UInt8):List UInt8:=outW (wordsAt (padT T) ((padT T).length / 64))
noncomputable def listS4:List (FuncId×PT):=(100,boxPT shSB writeSpec)::reflList
theorem listS4_ok:SummOk Tryz.prog (fun f=>lookPT f listS4):=.cons write_ok (boxPT_mono _ _) reflList_ok
noncomputable def cfgS4:Cfg:={cfg0 with summ:=fun f=>lookPT f listS4}
theorem goodS4:Sx.Good Tryz.prog cfgS4:=⟨mixes,listS4_ok,fns_ok⟩
def sumSpec:List SV→Option (Sh×List UInt8→Prop×(Unit→Prop×SV×(Sh×List UInt8)))
 | [.ptr 0 true 0]=>some fun g=>(IsS g.1 g.2∧g.2.length<1152921504606846976,fun _=>(True,.str false (shaL g.2),g))
 | _=>none
noncomputable def listS5:List (FuncId×PT):=(101,boxPT shSB sumSpec)::listS4
noncomputable def annOf (n:Nat)(f:Nat→List UInt8):LoopAnn :=
 {α:=Nat×Sh,pre:=fun _ x=>x.1≤n∧IsS x.2 (flat (rowL f 0 x.1)),mea:=fun _ x=>n - x.1,fresh:=0,slots:=fun _ x=>[(9,.int .i64 false x.1)],mem:=fun _ x=>[(1,x.2.sb)]}
noncomputable def cfgOf (n:Nat)(f:Nat→List UInt8):Cfg:={cfg0 with summ:=fun f=>lookPT f listS5,anns:=fun g=>if g=64 then [(3,always (annOf n f))] else []}
def ofQ (l:List (List UInt8)):Prop:=(flat l).length<1152921504606846976∧l.length<1152921504606846976
def ofG (l:List (List UInt8)):SV:=.str false (shaL (flat l))
end Go.Proofs.YtoalfimkkibpdaaGreatDoor
