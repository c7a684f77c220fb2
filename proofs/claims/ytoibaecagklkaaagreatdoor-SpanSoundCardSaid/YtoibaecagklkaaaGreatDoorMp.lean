/-
  Conditions that the executor computes, written out by a program (vcgen.py).
-/
import Derived.Test.YtoibaecagklkaaaGreatDoorMo
import Derived.Test.YtoibaecagklkaaaGreatDoorMk
import Derived.Test.YtoibaecagklkaaaGreatDoorMl
namespace Go.Proofs.YtoibaecagklkaaaGreatDoor
open Go Sx
set_option maxRecDepth 20000
theorem Su (x:Sh)(T s:List UInt8)(z:Int):VC.holds (n8 (Kq T s z) 60 Tryz.f60 [.ptr 0 true 0,.str false s] uv (x,T) (fun y:Sh=>(AQ y (T++s),.ptr 0 true 0,(y,T++s))))=((fun R0:Nat->SV=>((fun R1:Nat->SV=>((fun R2:Nat->(Nat×Sh)->SV=>((fun R3:Nat->(Nat×Sh)->SV=>((fun R4:Nat->(Nat×Sh)->SV=>((fun R5:Nat->(Nat×Sh)->SV=>((fun R6:Nat->(Sh)->SV=>((fun R7:Nat->(Sh)->SV=>((fun R8:Nat->(Sh)->SV=>((fun R9:Nat->(Nat×Sh)->SV=>((fun R10:Nat->(Nat×Sh)->SV=>((fun R11:Nat->(Nat×Sh)->SV=>((fun R12:Nat->(Nat×Sh)->SV=>((fun R13:Nat->(Nat×Sh)->SV=>((fun R14:Nat->(Sh)->SV=>((fun R15:Nat->(Sh)->SV=>((fun R16:Nat->(Sh)->SV=>((fun R17:Nat->(Nat×Sh)->SV=>((fun R18:Nat->(Nat×Sh)->SV=>((fun R19:Nat->(Nat×Sh)->SV=>((fun R20:Nat->(Nat×Sh)->SV=>((fun R21:Nat->(Nat×Sh)->SV=>((fun R22:Nat->(Sh)->SV=>((fun R23:Nat->(Sh)->SV=>((fun P0:(Nat×Sh)->SB=>((fun P1:(Nat×Sh)->SB=>(((∃(u10:Nat×Sh),(u10.fst<=s.length/\ov u10.snd (T++List.take u10.fst s)/\u10.snd.size=z)/\s=List.drop u10.fst s /\ah (SB.cells [R0 0,R0 1,R0 2,R0 3,R0 4,R0 5,R0 6,R0 7,R1 0,R1 1,R1 2,R1 3,R1 4,R1 5,R1 6,R1 7,R1 8,R1 9,R1 10,R1 11,R1 12,R1 13,R1 14,R1 15,R1 16,R1 17,R1 18,R1 19,R1 20,R1 21,R1 22,R1 23,R1 24,R1 25,R1 26,R1 27,R1 28,R1 29,R1 30,R1 31,R1 32,R1 33,R1 34,R1 35,R1 36,R1 37,R1 38,R1 39,R1 40,R1 41,R1 42,R1 43,R1 44,R1 45,R1 46,R1 47,R1 48,R1 49,R1 50,R1 51,R1 52,R1 53,R1 54,R1 55,R1 56,R1 57,R1 58,R1 59,R1 60,R1 61,R1 62,R1 63,SV.int .i64 false x.held,SV.int .u64 false ((x.size+(s.length:Int)% 18446744073709551616)% 18446744073709551616)] 74 171) (SB.cells [R2 0 u10,R2 1 u10,R2 2 u10,R2 3 u10,R2 4 u10,R2 5 u10,R2 6 u10,R2 7 u10,R3 0 u10,R3 1 u10,R3 2 u10,R3 3 u10,R3 4 u10,R3 5 u10,R3 6 u10,R3 7 u10,R3 8 u10,R3 9 u10,R3 10 u10,R3 11 u10,R3 12 u10,R3 13 u10,R3 14 u10,R3 15 u10,R3 16 u10,R3 17 u10,R3 18 u10,R3 19 u10,R3 20 u10,R3 21 u10,R3 22 u10,R3 23 u10,R3 24 u10,R3 25 u10,R3 26 u10,R3 27 u10,R3 28 u10,R3 29 u10,R3 30 u10,R3 31 u10,R3 32 u10,R3 33 u10,R3 34 u10,R3 35 u10,R3 36 u10,R3 37 u10,R3 38 u10,R3 39 u10,R3 40 u10,R3 41 u10,R3 42 u10,R3 43 u10,R3 44 u10,R3 45 u10,R3 46 u10,R3 47 u10,R3 48 u10,R3 49 u10,R3 50 u10,R3 51 u10,R3 52 u10,R3 53 u10,R3 54 u10,R3 55 u10,R3 56 u10,R3 57 u10,R3 58 u10,R3 59 u10,R3 60 u10,R3 61 u10,R3 62 u10,R3 63 u10,SV.int .i64 false u10.snd.held,SV.int .u64 false u10.snd.size] 74 171) /\True)/\∀(u9:Nat×Sh),u9.fst<=s.length/\ov u9.snd (T++List.take u9.fst s)/\u9.snd.size=z->((!decide (List.drop u9.fst s=[]))=true->(0<=u9.snd.held/\u9.snd.held<=64/\(64:Int)<=(64:Int))/\(decide (64=u9.snd.held.toNat)=true->((8:Nat)<=(8:Nat)/\8+(64 - u9.snd.held.toNat)<=8+(64:Nat))/\((-9223372036854775808:Int)<=u9.snd.held+(↑(min (List.drop u9.fst s).length (64 - u9.snd.held.toNat)):Int)/\u9.snd.held+(↑(min (List.drop u9.fst s).length (64 - u9.snd.held.toNat)):Int)<=9223372036854775807)/\(0<=(↑(min (List.drop u9.fst s).length (64 - u9.snd.held.toNat)):Int)/\(↑(min (List.drop u9.fst s).length (64 - u9.snd.held.toNat)):Int)<=(↑(List.drop u9.fst s).length:Int)/\(↑(List.drop u9.fst s).length:Int)<=(↑(List.drop u9.fst s).length:Int))/\(decide (u9.snd.held+(↑(min (List.drop u9.fst s).length (64 - u9.snd.held.toNat)):Int)=64)=true ->∃(u8:Sh),ah (P1 u9) (SB.cells [R6 0 u8,R6 1 u8,R6 2 u8,R6 3 u8,R6 4 u8,R6 5 u8,R6 6 u8,R6 7 u8,R7 0 u8,R7 1 u8,R7 2 u8,R7 3 u8,R7 4 u8,R7 5 u8,R7 6 u8,R7 7 u8,R7 8 u8,R7 9 u8,R7 10 u8,R7 11 u8,R7 12 u8,R7 13 u8,R7 14 u8,R7 15 u8,R7 16 u8,R7 17 u8,R7 18 u8,R7 19 u8,R7 20 u8,R7 21 u8,R7 22 u8,R7 23 u8,R7 24 u8,R7 25 u8,R7 26 u8,R7 27 u8,R7 28 u8,R7 29 u8,R7 30 u8,R7 31 u8,R7 32 u8,R7 33 u8,R7 34 u8,R7 35 u8,R7 36 u8,R7 37 u8,R7 38 u8,R7 39 u8,R7 40 u8,R7 41 u8,R7 42 u8,R7 43 u8,R7 44 u8,R7 45 u8,R7 46 u8,R7 47 u8,R7 48 u8,R7 49 u8,R7 50 u8,R7 51 u8,R7 52 u8,R7 53 u8,R7 54 u8,R7 55 u8,R7 56 u8,R7 57 u8,R7 58 u8,R7 59 u8,R7 60 u8,R7 61 u8,R7 62 u8,R7 63 u8,SV.int .i64 false u8.held,SV.int .u64 false u8.size] 74 171)/\u8.Ok/\∀(_:Unit),True->∃(u6:Nat×Sh),((u6.fst<=s.length/\ov u6.snd (T++List.take u6.fst s)/\u6.snd.size=z)/\s.length - u6.fst<s.length - u9.fst)/\bz (List.drop u9.fst s) (some (Operand.tmp 37)) none (↑(min (List.drop u9.fst s).length (64 - u9.snd.held.toNat)):Int) (↑(List.drop u9.fst s).length:Int)=List.drop u6.fst s /\ah (SB.cells [R8 0 u8,R8 1 u8,R8 2 u8,R8 3 u8,R8 4 u8,R8 5 u8,R8 6 u8,R8 7 u8,R7 0 u8,R7 1 u8,R7 2 u8,R7 3 u8,R7 4 u8,R7 5 u8,R7 6 u8,R7 7 u8,R7 8 u8,R7 9 u8,R7 10 u8,R7 11 u8,R7 12 u8,R7 13 u8,R7 14 u8,R7 15 u8,R7 16 u8,R7 17 u8,R7 18 u8,R7 19 u8,R7 20 u8,R7 21 u8,R7 22 u8,R7 23 u8,R7 24 u8,R7 25 u8,R7 26 u8,R7 27 u8,R7 28 u8,R7 29 u8,R7 30 u8,R7 31 u8,R7 32 u8,R7 33 u8,R7 34 u8,R7 35 u8,R7 36 u8,R7 37 u8,R7 38 u8,R7 39 u8,R7 40 u8,R7 41 u8,R7 42 u8,R7 43 u8,R7 44 u8,R7 45 u8,R7 46 u8,R7 47 u8,R7 48 u8,R7 49 u8,R7 50 u8,R7 51 u8,R7 52 u8,R7 53 u8,R7 54 u8,R7 55 u8,R7 56 u8,R7 57 u8,R7 58 u8,R7 59 u8,R7 60 u8,R7 61 u8,R7 62 u8,R7 63 u8,SV.int .i64 true 0,SV.int .u64 false u8.size] 74 171) (SB.cells [R9 0 u6,R9 1 u6,R9 2 u6,R9 3 u6,R9 4 u6,R9 5 u6,R9 6 u6,R9 7 u6,R10 0 u6,R10 1 u6,R10 2 u6,R10 3 u6,R10 4 u6,R10 5 u6,R10 6 u6,R10 7 u6,R10 8 u6,R10 9 u6,R10 10 u6,R10 11 u6,R10 12 u6,R10 13 u6,R10 14 u6,R10 15 u6,R10 16 u6,R10 17 u6,R10 18 u6,R10 19 u6,R10 20 u6,R10 21 u6,R10 22 u6,R10 23 u6,R10 24 u6,R10 25 u6,R10 26 u6,R10 27 u6,R10 28 u6,R10 29 u6,R10 30 u6,R10 31 u6,R10 32 u6,R10 33 u6,R10 34 u6,R10 35 u6,R10 36 u6,R10 37 u6,R10 38 u6,R10 39 u6,R10 40 u6,R10 41 u6,R10 42 u6,R10 43 u6,R10 44 u6,R10 45 u6,R10 46 u6,R10 47 u6,R10 48 u6,R10 49 u6,R10 50 u6,R10 51 u6,R10 52 u6,R10 53 u6,R10 54 u6,R10 55 u6,R10 56 u6,R10 57 u6,R10 58 u6,R10 59 u6,R10 60 u6,R10 61 u6,R10 62 u6,R10 63 u6,SV.int .i64 false u6.snd.held,SV.int .u64 false u6.snd.size] 74 171) /\True)/\(decide (u9.snd.held+(↑(min (List.drop u9.fst s).length (64 - u9.snd.held.toNat)):Int)=64)=false->∃(u5:Nat×Sh),((u5.fst<=s.length/\ov u5.snd (T++List.take u5.fst s)/\u5.snd.size=z)/\s.length - u5.fst<s.length - u9.fst)/\bz (List.drop u9.fst s) (some (Operand.tmp 37)) none (↑(min (List.drop u9.fst s).length (64 - u9.snd.held.toNat)):Int) (↑(List.drop u9.fst s).length:Int)=List.drop u5.fst s /\ah (P1 u9) (SB.cells [R11 0 u5,R11 1 u5,R11 2 u5,R11 3 u5,R11 4 u5,R11 5 u5,R11 6 u5,R11 7 u5,R12 0 u5,R12 1 u5,R12 2 u5,R12 3 u5,R12 4 u5,R12 5 u5,R12 6 u5,R12 7 u5,R12 8 u5,R12 9 u5,R12 10 u5,R12 11 u5,R12 12 u5,R12 13 u5,R12 14 u5,R12 15 u5,R12 16 u5,R12 17 u5,R12 18 u5,R12 19 u5,R12 20 u5,R12 21 u5,R12 22 u5,R12 23 u5,R12 24 u5,R12 25 u5,R12 26 u5,R12 27 u5,R12 28 u5,R12 29 u5,R12 30 u5,R12 31 u5,R12 32 u5,R12 33 u5,R12 34 u5,R12 35 u5,R12 36 u5,R12 37 u5,R12 38 u5,R12 39 u5,R12 40 u5,R12 41 u5,R12 42 u5,R12 43 u5,R12 44 u5,R12 45 u5,R12 46 u5,R12 47 u5,R12 48 u5,R12 49 u5,R12 50 u5,R12 51 u5,R12 52 u5,R12 53 u5,R12 54 u5,R12 55 u5,R12 56 u5,R12 57 u5,R12 58 u5,R12 59 u5,R12 60 u5,R12 61 u5,R12 62 u5,R12 63 u5,SV.int .i64 false u5.snd.held,SV.int .u64 false u5.snd.size] 74 171)/\True))/\(decide (64=u9.snd.held.toNat)=false->((8:Nat)<=8+u9.snd.held.toNat/\8+u9.snd.held.toNat+(64 - u9.snd.held.toNat)<=8+(64:Nat))/\((-9223372036854775808:Int)<=u9.snd.held+(↑(min (List.drop u9.fst s).length (64 - u9.snd.held.toNat)):Int) /\u9.snd.held+(↑(min (List.drop u9.fst s).length (64 - u9.snd.held.toNat)):Int)<=9223372036854775807)/\(0<=(↑(min (List.drop u9.fst s).length (64 - u9.snd.held.toNat)):Int)/\(↑(min (List.drop u9.fst s).length (64 - u9.snd.held.toNat)):Int)<=(↑(List.drop u9.fst s).length:Int)/\(↑(List.drop u9.fst s).length:Int)<=(↑(List.drop u9.fst s).length:Int))/\(decide (u9.snd.held+(↑(min (List.drop u9.fst s).length (64 - u9.snd.held.toNat)):Int)=64)=true ->∃(u4:Sh),ah (P0 u9) (SB.cells [R14 0 u4,R14 1 u4,R14 2 u4,R14 3 u4,R14 4 u4,R14 5 u4,R14 6 u4,R14 7 u4,R15 0 u4,R15 1 u4,R15 2 u4,R15 3 u4,R15 4 u4,R15 5 u4,R15 6 u4,R15 7 u4,R15 8 u4,R15 9 u4,R15 10 u4,R15 11 u4,R15 12 u4,R15 13 u4,R15 14 u4,R15 15 u4,R15 16 u4,R15 17 u4,R15 18 u4,R15 19 u4,R15 20 u4,R15 21 u4,R15 22 u4,R15 23 u4,R15 24 u4,R15 25 u4,R15 26 u4,R15 27 u4,R15 28 u4,R15 29 u4,R15 30 u4,R15 31 u4,R15 32 u4,R15 33 u4,R15 34 u4,R15 35 u4,R15 36 u4,R15 37 u4,R15 38 u4,R15 39 u4,R15 40 u4,R15 41 u4,R15 42 u4,R15 43 u4,R15 44 u4,R15 45 u4,R15 46 u4,R15 47 u4,R15 48 u4,R15 49 u4,R15 50 u4,R15 51 u4,R15 52 u4,R15 53 u4,R15 54 u4,R15 55 u4,R15 56 u4,R15 57 u4,R15 58 u4,R15 59 u4,R15 60 u4,R15 61 u4,R15 62 u4,R15 63 u4,SV.int .i64 false u4.held,SV.int .u64 false u4.size] 74 171)/\u4.Ok/\∀(_:Unit),True->∃(u2:Nat×Sh),((u2.fst<=s.length/\ov u2.snd (T++List.take u2.fst s)/\u2.snd.size=z)/\s.length - u2.fst<s.length - u9.fst) /\bz (List.drop u9.fst s) (some (Operand.tmp 37)) none (↑(min (List.drop u9.fst s).length (64 - u9.snd.held.toNat)):Int) (↑(List.drop u9.fst s).length:Int)=List.drop u2.fst s /\ah (SB.cells [R16 0 u4,R16 1 u4,R16 2 u4,R16 3 u4,R16 4 u4,R16 5 u4,R16 6 u4,R16 7 u4,R15 0 u4,R15 1 u4,R15 2 u4,R15 3 u4,R15 4 u4,R15 5 u4,R15 6 u4,R15 7 u4,R15 8 u4,R15 9 u4,R15 10 u4,R15 11 u4,R15 12 u4,R15 13 u4,R15 14 u4,R15 15 u4,R15 16 u4,R15 17 u4,R15 18 u4,R15 19 u4,R15 20 u4,R15 21 u4,R15 22 u4,R15 23 u4,R15 24 u4,R15 25 u4,R15 26 u4,R15 27 u4,R15 28 u4,R15 29 u4,R15 30 u4,R15 31 u4,R15 32 u4,R15 33 u4,R15 34 u4,R15 35 u4,R15 36 u4,R15 37 u4,R15 38 u4,R15 39 u4,R15 40 u4,R15 41 u4,R15 42 u4,R15 43 u4,R15 44 u4,R15 45 u4,R15 46 u4,R15 47 u4,R15 48 u4,R15 49 u4,R15 50 u4,R15 51 u4,R15 52 u4,R15 53 u4,R15 54 u4,R15 55 u4,R15 56 u4,R15 57 u4,R15 58 u4,R15 59 u4,R15 60 u4,R15 61 u4,R15 62 u4,R15 63 u4,SV.int .i64 true 0,SV.int .u64 false u4.size] 74 171) (SB.cells [R17 0 u2,R17 1 u2,R17 2 u2,R17 3 u2,R17 4 u2,R17 5 u2,R17 6 u2,R17 7 u2,R18 0 u2,R18 1 u2,R18 2 u2,R18 3 u2,R18 4 u2,R18 5 u2,R18 6 u2,R18 7 u2,R18 8 u2,R18 9 u2,R18 10 u2,R18 11 u2,R18 12 u2,R18 13 u2,R18 14 u2,R18 15 u2,R18 16 u2,R18 17 u2,R18 18 u2,R18 19 u2,R18 20 u2,R18 21 u2,R18 22 u2,R18 23 u2,R18 24 u2,R18 25 u2,R18 26 u2,R18 27 u2,R18 28 u2,R18 29 u2,R18 30 u2,R18 31 u2,R18 32 u2,R18 33 u2,R18 34 u2,R18 35 u2,R18 36 u2,R18 37 u2,R18 38 u2,R18 39 u2,R18 40 u2,R18 41 u2,R18 42 u2,R18 43 u2,R18 44 u2,R18 45 u2,R18 46 u2,R18 47 u2,R18 48 u2,R18 49 u2,R18 50 u2,R18 51 u2,R18 52 u2,R18 53 u2,R18 54 u2,R18 55 u2,R18 56 u2,R18 57 u2,R18 58 u2,R18 59 u2,R18 60 u2,R18 61 u2,R18 62 u2,R18 63 u2,SV.int .i64 false u2.snd.held,SV.int .u64 false u2.snd.size] 74 171) /\True)/\(decide (u9.snd.held+(↑(min (List.drop u9.fst s).length (64 - u9.snd.held.toNat)):Int)=64)=false->∃(u1:Nat×Sh),((u1.fst<=s.length/\ov u1.snd (T++List.take u1.fst s)/\u1.snd.size=z)/\s.length - u1.fst<s.length - u9.fst)/\bz (List.drop u9.fst s) (some (Operand.tmp 37)) none (↑(min (List.drop u9.fst s).length (64 - u9.snd.held.toNat)):Int) (↑(List.drop u9.fst s).length:Int)=List.drop u1.fst s /\ah (P0 u9) (SB.cells [R19 0 u1,R19 1 u1,R19 2 u1,R19 3 u1,R19 4 u1,R19 5 u1,R19 6 u1,R19 7 u1,R20 0 u1,R20 1 u1,R20 2 u1,R20 3 u1,R20 4 u1,R20 5 u1,R20 6 u1,R20 7 u1,R20 8 u1,R20 9 u1,R20 10 u1,R20 11 u1,R20 12 u1,R20 13 u1,R20 14 u1,R20 15 u1,R20 16 u1,R20 17 u1,R20 18 u1,R20 19 u1,R20 20 u1,R20 21 u1,R20 22 u1,R20 23 u1,R20 24 u1,R20 25 u1,R20 26 u1,R20 27 u1,R20 28 u1,R20 29 u1,R20 30 u1,R20 31 u1,R20 32 u1,R20 33 u1,R20 34 u1,R20 35 u1,R20 36 u1,R20 37 u1,R20 38 u1,R20 39 u1,R20 40 u1,R20 41 u1,R20 42 u1,R20 43 u1,R20 44 u1,R20 45 u1,R20 46 u1,R20 47 u1,R20 48 u1,R20 49 u1,R20 50 u1,R20 51 u1,R20 52 u1,R20 53 u1,R20 54 u1,R20 55 u1,R20 56 u1,R20 57 u1,R20 58 u1,R20 59 u1,R20 60 u1,R20 61 u1,R20 62 u1,R20 63 u1,SV.int .i64 false u1.snd.held,SV.int .u64 false u1.snd.size] 74 171)/\True)))/\((!decide (List.drop u9.fst s=[]))=false->∃(u0:Sh),AQ u0 (T++s) /\ah (SB.cells [R4 0 u9,R4 1 u9,R4 2 u9,R4 3 u9,R4 4 u9,R4 5 u9,R4 6 u9,R4 7 u9,R21 0 u9,R21 1 u9,R21 2 u9,R21 3 u9,R21 4 u9,R21 5 u9,R21 6 u9,R21 7 u9,R21 8 u9,R21 9 u9,R21 10 u9,R21 11 u9,R21 12 u9,R21 13 u9,R21 14 u9,R21 15 u9,R21 16 u9,R21 17 u9,R21 18 u9,R21 19 u9,R21 20 u9,R21 21 u9,R21 22 u9,R21 23 u9,R21 24 u9,R21 25 u9,R21 26 u9,R21 27 u9,R21 28 u9,R21 29 u9,R21 30 u9,R21 31 u9,R21 32 u9,R21 33 u9,R21 34 u9,R21 35 u9,R21 36 u9,R21 37 u9,R21 38 u9,R21 39 u9,R21 40 u9,R21 41 u9,R21 42 u9,R21 43 u9,R21 44 u9,R21 45 u9,R21 46 u9,R21 47 u9,R21 48 u9,R21 49 u9,R21 50 u9,R21 51 u9,R21 52 u9,R21 53 u9,R21 54 u9,R21 55 u9,R21 56 u9,R21 57 u9,R21 58 u9,R21 59 u9,R21 60 u9,R21 61 u9,R21 62 u9,R21 63 u9,SV.int .i64 false u9.snd.held,SV.int .u64 false u9.snd.size] 74 171) (SB.cells [R22 0 u0,R22 1 u0,R22 2 u0,R22 3 u0,R22 4 u0,R22 5 u0,R22 6 u0,R22 7 u0,R23 0 u0,R23 1 u0,R23 2 u0,R23 3 u0,R23 4 u0,R23 5 u0,R23 6 u0,R23 7 u0,R23 8 u0,R23 9 u0,R23 10 u0,R23 11 u0,R23 12 u0,R23 13 u0,R23 14 u0,R23 15 u0,R23 16 u0,R23 17 u0,R23 18 u0,R23 19 u0,R23 20 u0,R23 21 u0,R23 22 u0,R23 23 u0,R23 24 u0,R23 25 u0,R23 26 u0,R23 27 u0,R23 28 u0,R23 29 u0,R23 30 u0,R23 31 u0,R23 32 u0,R23 33 u0,R23 34 u0,R23 35 u0,R23 36 u0,R23 37 u0,R23 38 u0,R23 39 u0,R23 40 u0,R23 41 u0,R23 42 u0,R23 43 u0,R23 44 u0,R23 45 u0,R23 46 u0,R23 47 u0,R23 48 u0,R23 49 u0,R23 50 u0,R23 51 u0,R23 52 u0,R23 53 u0,R23 54 u0,R23 55 u0,R23 56 u0,R23 57 u0,R23 58 u0,R23 59 u0,R23 60 u0,R23 61 u0,R23 62 u0,R23 63 u0,SV.int .i64 false u0.held,SV.int .u64 false u0.size] 74 171) /\af (SV.ptr 0 true 0) (SV.ptr 0 true 0))))) (fun(u9:Nat×Sh)=>(SB.cells [R4 0 u9,R4 1 u9,R4 2 u9,R4 3 u9,R4 4 u9,R4 5 u9,R4 6 u9,R4 7 u9,R5 0 u9,R5 1 u9,R5 2 u9,R5 3 u9,R5 4 u9,R5 5 u9,R5 6 u9,R5 7 u9,R5 8 u9,R5 9 u9,R5 10 u9,R5 11 u9,R5 12 u9,R5 13 u9,R5 14 u9,R5 15 u9,R5 16 u9,R5 17 u9,R5 18 u9,R5 19 u9,R5 20 u9,R5 21 u9,R5 22 u9,R5 23 u9,R5 24 u9,R5 25 u9,R5 26 u9,R5 27 u9,R5 28 u9,R5 29 u9,R5 30 u9,R5 31 u9,R5 32 u9,R5 33 u9,R5 34 u9,R5 35 u9,R5 36 u9,R5 37 u9,R5 38 u9,R5 39 u9,R5 40 u9,R5 41 u9,R5 42 u9,R5 43 u9,R5 44 u9,R5 45 u9,R5 46 u9,R5 47 u9,R5 48 u9,R5 49 u9,R5 50 u9,R5 51 u9,R5 52 u9,R5 53 u9,R5 54 u9,R5 55 u9,R5 56 u9,R5 57 u9,R5 58 u9,R5 59 u9,R5 60 u9,R5 61 u9,R5 62 u9,R5 63 u9,SV.int .i64 false (u9.snd.held+(↑(min (List.drop u9.fst s).length (64 - u9.snd.held.toNat)):Int)),SV.int .u64 false u9.snd.size] 74 171)))) (fun(u9:Nat×Sh)=>(SB.cells [R4 0 u9,R4 1 u9,R4 2 u9,R4 3 u9,R4 4 u9,R4 5 u9,R4 6 u9,R4 7 u9,R13 0 u9,R13 1 u9,R13 2 u9,R13 3 u9,R13 4 u9,R13 5 u9,R13 6 u9,R13 7 u9,R13 8 u9,R13 9 u9,R13 10 u9,R13 11 u9,R13 12 u9,R13 13 u9,R13 14 u9,R13 15 u9,R13 16 u9,R13 17 u9,R13 18 u9,R13 19 u9,R13 20 u9,R13 21 u9,R13 22 u9,R13 23 u9,R13 24 u9,R13 25 u9,R13 26 u9,R13 27 u9,R13 28 u9,R13 29 u9,R13 30 u9,R13 31 u9,R13 32 u9,R13 33 u9,R13 34 u9,R13 35 u9,R13 36 u9,R13 37 u9,R13 38 u9,R13 39 u9,R13 40 u9,R13 41 u9,R13 42 u9,R13 43 u9,R13 44 u9,R13 45 u9,R13 46 u9,R13 47 u9,R13 48 u9,R13 49 u9,R13 50 u9,R13 51 u9,R13 52 u9,R13 53 u9,R13 54 u9,R13 55 u9,R13 56 u9,R13 57 u9,R13 58 u9,R13 59 u9,R13 60 u9,R13 61 u9,R13 62 u9,R13 63 u9,SV.int .i64 false (u9.snd.held+(↑(min (List.drop u9.fst s).length (64 - u9.snd.held.toNat)):Int)),SV.int .u64 false u9.snd.size] 74 171)))) (fun(n0:Nat) (u0:Sh)=>SV.int .u8 false (u0.B n0)))) (fun(n0:Nat) (u0:Sh)=>SV.int .u32 false (u0.W n0)))) (fun(n0:Nat) (u9:Nat×Sh)=>SV.int .u8 false (u9.snd.B n0)))) (fun(n0:Nat) (u1:Nat×Sh)=>SV.int .u8 false (u1.snd.B n0)))) (fun(n0:Nat) (u1:Nat×Sh)=>SV.int .u32 false (u1.snd.W n0)))) (fun(n0:Nat) (u2:Nat×Sh)=>SV.int .u8 false (u2.snd.B n0)))) (fun(n0:Nat) (u2:Nat×Sh)=>SV.int .u32 false (u2.snd.W n0)))) (fun(n0:Nat) (u4:Sh)=>SV.int .u32 false (jF u4.W u4.B n0)))) (fun(n0:Nat) (u4:Sh)=>SV.int .u8 false (u4.B n0)))) (fun(n0:Nat) (u4:Sh)=>SV.int .u32 false (u4.W n0)))) (fun(n0:Nat) (u9:Nat×Sh)=>SV.int .u8 false (if 8+u9.snd.held.toNat - 8<=(n0:Nat)/\(n0:Nat)<8+u9.snd.held.toNat - 8+min (List.drop u9.fst s).length (64 - u9.snd.held.toNat)then(↑((List.drop u9.fst s).getD (n0 - (8+u9.snd.held.toNat - 8)) (0:UInt8)).toNat:Int)else u9.snd.B n0)))) (fun(n0:Nat) (u5:Nat×Sh)=>SV.int .u8 false (u5.snd.B n0)))) (fun(n0:Nat) (u5:Nat×Sh)=>SV.int .u32 false (u5.snd.W n0)))) (fun(n0:Nat) (u6:Nat×Sh)=>SV.int .u8 false (u6.snd.B n0)))) (fun(n0:Nat) (u6:Nat×Sh)=>SV.int .u32 false (u6.snd.W n0)))) (fun(n0:Nat) (u8:Sh)=>SV.int .u32 false (jF u8.W u8.B n0)))) (fun(n0:Nat) (u8:Sh)=>SV.int .u8 false (u8.B n0)))) (fun(n0:Nat) (u8:Sh)=>SV.int .u32 false (u8.W n0)))) (fun(n0:Nat) (u9:Nat×Sh)=>SV.int .u8 false (if(0:Nat)<=(n0:Nat)/\(n0:Nat)<0+min (List.drop u9.fst s).length (64 - u9.snd.held.toNat)then(↑((List.drop u9.fst s).getD n0 (0:UInt8)).toNat:Int)else u9.snd.B n0)))) (fun(n0:Nat) (u9:Nat×Sh)=>SV.int .u32 false (u9.snd.W n0)))) (fun(n0:Nat) (u10:Nat×Sh)=>SV.int .u8 false (u10.snd.B n0)))) (fun(n0:Nat) (u10:Nat×Sh)=>SV.int .u32 false (u10.snd.W n0)))) (fun(n0:Nat)=>SV.int .u8 false (x.B n0)))) (fun(n0:Nat)=>SV.int .u32 false (x.W n0))):=by kernel_rfl
theorem EJ {B B':Nat->Int}(h: ∀ j,j<64->B j=B' j): ∀(n j:Nat),wL B n j=wL B' n j
 | 0,j=>by
   unfold wL
   by_cases e:j<16
   ·simp only[e,if_true,OW,h (4*j) (by omega),h (4*j+1) (by omega),h (4*j+2) (by omega),h (4*j+3) (by omega)]
   ·simp only[e,if_false]
 | n+1,j=>by simp only[Dj,EJ h n]
theorem DT {v v':Nat->Int}(h: ∀ j,j<8->v j=v' j)(k w:Int): ∀ j,j<8->uG v k w j=uG v' k w j:=by
 have h0:=h 0 (by decide)
 have h1:=h 1 (by decide)
 have h2:=h 2 (by decide)
 have h3:=h 3 (by decide)
 have h4:=h 4 (by decide)
 have h5:=h 5 (by decide)
 have h6:=h 6 (by decide)
 have h7:=h 7 (by decide)
 intro j hj
 match j,hj with
 | 0,_=>simp only[uG,TO,WZ,h0,h1,h2,h4,h5,h6,h7]
 | 1,_=>exact h0
 | 2,_=>exact h1
 | 3,_=>exact h2
 | 4,_=>simp only[uG,TO,h3,h4,h5,h6,h7]
 | 5,_=>exact h4
 | 6,_=>exact h5
 | 7,_=>exact h6
theorem Co {W W' B B':Nat->Int}(hW: ∀ j,j<8->W j=W' j)(hB: ∀ j,j<64->B j=B' j): ∀ i j,j<8->cH W B i j=cH W' B' i j
 | 0,j,hj=>hW j hj
 | i+1,j,hj=>by
   simp only[cH]
   rw[DT (Co hW hB i) _ _ j hj,EJ hB]
theorem Af {W W' B B':Nat->Int}(hW: ∀ j,j<8->W j=W' j)(hB: ∀ j,j<64->B j=B' j)(j:Nat)(hj:j<8):jF W B j=jF W' B' j:=by
 simp only[jF,hW j hj,Co hW hB 64 j hj]
theorem Ab (T:List UInt8)(q j:Nat):wg T q j=((T.getD (64*q+j) 0).toNat:Int):=by
 unfold wg ai
 rw[Int.toNat_natCast]
theorem zM {T:List UInt8}(D:List UInt8){q j:Nat}(h:64*q+j<T.length):wg (T++D) q j=wg T q j:=by
 rw[Ab,Ab,List.getD_eq_getElem?_getD,List.getD_eq_getElem?_getD,List.getElem?_append_left h]
theorem GB {T:List UInt8}(D:List UInt8){q j:Nat}(h:T.length<=64*q+j):wg (T++D) q j=((D.getD (64*q+j - T.length) 0).toNat:Int):=by
 rw[Ab,List.getD_eq_getElem?_getD,List.getD_eq_getElem?_getD,List.getElem?_append_right h]
theorem nu (T D:List UInt8): ∀ q,64*q<=T.length->∀ j,j<8->nH (T++D) q j=nH T q j
 | 0,_,_,_=>rfl
 | q+1,h,j,hj=>by
   simp only[nH]
   exact Af (nu T D q (by omega)) (fun i hi=>zM D (by omega)) j hj
theorem Wc {W B:Nat->Int}(j:Nat):U (jF W B j):=um _
theorem OR (D:List UInt8)(i:Nat):0<=((D.getD i 0).toNat:Int)/\((D.getD i 0).toNat:Int)<=255:=by
 have:=(D.getD i 0).toNat_lt;omega
theorem getD_take {D:List UInt8}{n i:Nat}(h:i<n):(D.take n).getD i 0=D.getD i 0:=by
 rw[List.getD_eq_getElem?_getD,List.getD_eq_getElem?_getD,List.getElem?_take_of_lt h]
theorem Jf {x:Sh}{T:List UInt8}(h:ov x T)(D:List UInt8):(kG x D).Ok:=by
 refine⟨h.ok.w,fun j hj=> ?_⟩
 unfold kG
 simp only
 split
 ·exact OR _ _
 ·exact h.ok.b j hj
theorem TW {x:Sh}{T:List UInt8}(h:ov x T){D:List UInt8}(j:Nat)(hj:j<T.length% 64+min D.length (64 - T.length% 64)):(kG x D).B j=wg (T++D.take (min D.length (64 - T.length% 64))) (T.length / 64) j:=by
 have hh:=h.h
 have e:x.held.toNat=T.length% 64:=by omega
 unfold kG
 simp only[e]
 have hd:=Nat.div_add_mod T.length 64
 by_cases c:j<T.length% 64
 ·rw[if_neg (by omega),h.b j c,zM _ (by omega)]
 ·rw[if_pos (by omega),GB _ (by omega),getD_take (by omega)]
  congr 3
  omega
theorem OY {x:Sh}{T D:List UInt8}(h:ov x T)(hc:T.length% 64+min D.length (64 - T.length% 64)<64):ov (kG x D) (T++D.take (min D.length (64 - T.length% 64))):=by
 have hl:(T++D.take (min D.length (64 - T.length% 64))).length=T.length+min D.length (64 - T.length% 64):=by
  rw[List.length_append,List.length_take];omega
 have hd:=Nat.div_add_mod T.length 64
 have e1:(T++D.take (min D.length (64 - T.length% 64))).length / 64=T.length / 64:=by omega
 have e2:(T++D.take (min D.length (64 - T.length% 64))).length% 64=T.length% 64+min D.length (64 - T.length% 64):=by omega
 refine⟨Jf h D,fun j hj=> ?_,fun j hj=> ?_,?_⟩
 ·rw[e1,nu _ _ _ (by omega) j hj];exact h.w j hj
 ·rw[e2] at hj
  rw[e1];exact TW h j hj
 ·have hh:=h.h
  have e:x.held.toNat=T.length% 64:=by omega
  rw[e2]
  show x.held+((min D.length (64 - x.held.toNat):Nat):Int)=_
  rw[e];omega
theorem PY {x:Sh}{T D:List UInt8}(h:ov x T)(hc:T.length% 64+min D.length (64 - T.length% 64)=64):ov ⟨jF (kG x D).W (kG x D).B,(kG x D).B,0,(kG x D).size⟩ (T++D.take (min D.length (64 - T.length% 64))):=by
 have hl:(T++D.take (min D.length (64 - T.length% 64))).length=T.length+min D.length (64 - T.length% 64):=by
  rw[List.length_append,List.length_take];omega
 have hd:=Nat.div_add_mod T.length 64
 have e1:(T++D.take (min D.length (64 - T.length% 64))).length / 64=T.length / 64+1:=by omega
 have e2:(T++D.take (min D.length (64 - T.length% 64))).length% 64=0:=by omega
 refine⟨⟨fun j hj=>Wc j,(Jf h D).b⟩,fun j hj=> ?_,fun j hj=> ?_,?_⟩
 ·rw[e1]
  simp only[nH]
  refine Af (fun i hi=> ?_) (fun i hi=> ?_) j hj
  ·rw[nu _ _ _ (by omega) i hi];exact h.w i hi
  ·exact TW h i (by omega)
 ·rw[e2] at hj;exact absurd hj (Nat.not_lt_zero _)
 ·rw[e2];rfl
theorem ER {x:Sh}{T s:List UInt8}(hx:AQ x T)(_hs:s.length<1152921504606846976) :
  aA (n8 (Kq T s (((T++s).length:Int)% 18446744073709551616)) 60 Tryz.f60 [.ptr 0 true 0,.str false s] uv (x,T) (fun y:Sh=>(AQ y (T++s),.ptr 0 true 0,(y,T++s)))):=by
 refine aA.of_eq (Su x T s _) ?_
 dsimp only
 obtain⟨hx,hz⟩:=hx
 refine⟨⟨(0,⟨x.W,x.B,x.held,(x.size+(s.length:Int)% 18446744073709551616)% 18446744073709551616⟩),⟨Nat.zero_le _,?_,?_⟩,rfl,ah.refl _,trivial⟩,fun g hg=>⟨fun a=> ?_,fun a=> ?_⟩⟩
 ·show ov _ (T++s.take 0)
  rw[List.take_zero,List.append_nil]
  exact⟨⟨hx.ok.w,hx.ok.b⟩,hx.w,hx.b,hx.h⟩
 ·show(x.size+(s.length:Int)% 18446744073709551616)% 18446744073709551616=_
  rw[hz,List.length_append]
  omega
 ·obtain⟨hk,hi,hsz⟩:=hg
  have hD:s.drop g.1≠[]:=by simpa using a
  have hh:=hi.h
  generalize hT:T++s.take g.1=T' at hi hh
  have e:g.2.held.toNat=T'.length% 64:=by omega
  have hlt:T'.length% 64<64:=Nat.mod_lt _ (by decide)
  have hp:=List.length_pos_iff.2 hD
  have hdl:(s.drop g.1).length=s.length - g.1:=List.length_drop ..
  have hmin:min (s.drop g.1).length (64 - g.2.held.toNat)=min (s.drop g.1).length (64 - T'.length% 64):=by rw[e]
  generalize hc:min (s.drop g.1).length (64 - g.2.held.toNat)=cnt at hmin ⊢
  have hT2:T++s.take (g.1+cnt)=T'++(s.drop g.1).take cnt:=by
   rw[← hT,List.append_assoc,List.take_add]
  have hsub:bz (s.drop g.1) (some (Operand.tmp 37)) none (cnt:Int) ((s.drop g.1).length:Int)=s.drop (g.1+cnt):=by
   simp only[bz,Int.toNat_natCast,List.drop_drop]
  have rest: ∀ {p:Prop},(8<=8+g.2.held.toNat/\8+g.2.held.toNat+(64 - g.2.held.toNat)<=8+64->(-9223372036854775808<=g.2.held+(cnt:Int)/\g.2.held+(cnt:Int)<=9223372036854775807)->(0<=(cnt:Int)/\(cnt:Int)<=((s.drop g.1).length:Int)/\((s.drop g.1).length:Int)<=((s.drop g.1).length:Int))->p)->p:=fun h=>h (by omega) (by omega) (by omega)
  refine⟨by omega,fun b=>absurd (of_decide_eq_true b) (by omega),fun _=>rest fun r1 r2 r3=>⟨r1,r2,r3,fun b=> ?_,fun b=> ?_⟩⟩
  ·have b:=of_decide_eq_true b
   refine⟨kG g.2 (s.drop g.1),?_,Jf hi _,fun _ _=>⟨(g.1+cnt,⟨jF (kG g.2 (s.drop g.1)).W (kG g.2 (s.drop g.1)).B,(kG g.2 (s.drop g.1)).B,0,(kG g.2 (s.drop g.1)).size⟩),⟨⟨?_,?_,hsz⟩,?_⟩,hsub,Sx.ah.cells (fun E=>rfl) rfl,trivial⟩⟩
   ·subst hc;exact ah.refl _
   ·show g.1+cnt<=s.length;omega
   ·show ov _ (T++s.take (g.1+cnt))
    rw[hT2,hmin]
    exact PY hi (by omega)
   ·show s.length - (g.1+cnt)<s.length - g.1;omega
  ·have b:=of_decide_eq_false b
   refine⟨(g.1+cnt,kG g.2 (s.drop g.1)),⟨⟨?_,?_,hsz⟩,?_⟩,hsub,?_,trivial⟩
   ·show g.1+cnt<=s.length;omega
   ·show ov _ (T++s.take (g.1+cnt))
    rw[hT2,hmin]
    exact OY hi (by omega)
   ·show s.length - (g.1+cnt)<s.length - g.1;omega
   ·subst hc;exact ah.refl _
 ·obtain⟨hk,hi,hsz⟩:=hg
  have hD:s.drop g.1=[]:=by simpa using a
  have hl:(s.drop g.1).length=0:=by rw[hD];rfl
  rw[List.length_drop] at hl
  rw[List.take_of_length_le (by omega)] at hi
  exact⟨g.2,⟨hi,hsz⟩,ah.refl _,fun _=>rfl⟩
theorem Ko (x:Sh×List UInt8):(uv x).wf 0=true/\(uv x).ro=false/\(uv x).no=false:=⟨rfl,rfl,rfl⟩
theorem OA:aB Tryz.prog 60 (nP uv uL):=by
 refine Dg (n:=20) (fn:=Tryz.f60) Tryz.func60 (by kernel_rfl) (by kernel_rfl) Ko ?_
 intro args g x h hp
 unfold uL at h
 split at h
 ·rename_i s
  injection h with h;subst h
  obtain⟨x,T⟩:=x
  exact⟨Kq T s (((T++s).length:Int)% 18446744073709551616),[.ptr 0 true 0,.str false s],VD _ _ _,fun E=>rfl,rfl,fun _=>rfl,ER hp.1 hp.2⟩
 ·cases h
end Go.Proofs.YtoibaecagklkaaaGreatDoor
namespace Go.Proofs.YtoibaecagklkaaaGreatDoor.Sx
open Go
theorem au.DK (c:au)(i:Nat)(E E':Nat->Nat):(c.at i).val E=(c.at i).val E':=by cases c<;>rfl
structure Seen where
 key:Option Nat
 z:Bool
 o:Nat
 n:Nat
 c:Nat
 av:List au
def Seen.B (s:Seen):SB:=.view s.z s.o s.n s.av
def Seen.sv (j:Nat)(s:Seen):SV:=.bP j s.av.length s.z s.o 0 s.n s.c
def Seen.vj (m:Mem)(s:Seen):Prop:=∀ Γ E nx w,aJ Γ E m nx w->s.B.no=false->∃ key X,s.key=some key/\m.get key=some X/\X.no=false/\∃ ob,w.heap[E key]?=some ob/\∀ E',bn E' s.B ob
def zw (m:Mem)(v:SV)(s:Seen):Prop:=(∀(E E':Nat->Nat) (j:Nat),(∀ key,s.key=some key->E' j=E key)->v.val E=(s.sv j).val E')/\s.vj m
theorem ko {z:Bool}{o n:Nat}{av:List au}{ce:Array Value}{ty:TypeId}{fr:Nat×Nat}(h: ∀(i k:Nat) (col:au),i<n->av[k]?=some col->ce[o+i*av.length+k]?=some ((col.at i).val (fun _=>0)))(E':Nat->Nat) :
  bn E' (.view z o n av) (.cells ce ty fr):=⟨ce,ty,fr,rfl,fun i k col hi hk=>by rw[au.DK col i E' (fun _=>0)];exact h i k col hi hk⟩
theorem Om (m:Mem)(av:List au):zw m .aO ⟨none,true,0,0,0,av⟩:=⟨fun _ _ _ _=>rfl,fun _ _ _ _ _ h=>by cases h⟩
theorem qK (i:Nat)(av:List au)(k:Nat)(col:au)(h:(dF i av)[k]?=some col): ∃ d,av[k]?=some d/\∀(j:Nat) (E:Nat->Nat),(col.at j).val E=(d.at (i+j)).val E:=by
 obtain⟨d,h1,h2⟩:=lT h
 exact⟨d,h1,fun j E=>by rw[h2 j]⟩
theorem K6 {m:Mem}{key i n c n':Nat}{z:Bool}{av:List au}{ro:Bool}{tot:Nat}{ty:TypeId}(hk:m.get key=some (SB.rows z n' av ro tot ty))(hn:i+n<=n') :
  zw m (.bw key av.length z i n c) ⟨some key,z,i*av.length,n,c,dF i av⟩:=by
 refine⟨fun E E' j h=>by simp[SV.val,Seen.sv,h key rfl],fun Γ E nx w hs h=> ?_⟩
 have hno:(SB.rows z n' av ro tot ty).no=false:=by
  cases n with
  | zero =>
    have hz:z=false:=by
     cases z with
     | false=>rfl
     | true=>cases h
    subst hz;rfl
  | succ n=>exact SB.ic (i:=0) (by omega)
 obtain⟨ob,ho,ce,fr,rfl,_,_,_,h4⟩:=hs.kO key _ hk hno
 refine⟨key,_,rfl,hk,hno,_,ho,ko fun a b col ha hb=> ?_⟩
 obtain⟨d,h1,h2⟩:=qK _ _ _ _ hb
 have:=h4 (i+a) b d (by simp only at ha;omega) h1
 rw[h2 a,au.DK d _ _ E,fh,← this]
 congr 1
 rw[Nat.add_mul]
theorem Lr {m:Mem}{key o i n c n':Nat}{z:Bool}{av:List au}(hk:m.get key=some (SB.view z o n' av))(hn:i+n<=n') :
  zw m (.bP key av.length z o i n c) ⟨some key,z,o+i*av.length,n,c,dF i av⟩:=by
 refine⟨fun E E' j h=>by simp[SV.val,Seen.sv,h key rfl],fun Γ E nx w hs h=> ?_⟩
 have hno:(SB.view z o n' av).no=false:=by
  cases n with
  | zero =>
    have hz:z=false:=by
     cases z with
     | false=>rfl
     | true=>cases h
    subst hz;rfl
  | succ n=>exact SB.wS (i:=0) (by omega)
 obtain⟨ob,ho,ce,ty,fr,rfl,h4⟩:=hs.kO key _ hk hno
 refine⟨key,_,rfl,hk,hno,_,ho,ko fun a b col ha hb=> ?_⟩
 obtain⟨d,h1,h2⟩:=qK _ _ _ _ hb
 have:=h4 (i+a) b d (by simp only at ha;omega) h1
 rw[h2 a,au.DK d _ _ E,fh,← this]
 congr 1
 show o+i*av.length+a*av.length+b=o+(i+a)*av.length+b
 rw[Nat.add_mul];omega
def TP:SV->Int
 | .int _ _ n=>n
 | _=>0
def PZ:SV->Bool
 | .bool _ b=>b
 | _=>false
def k5:SV->List UInt8
 | .str _ s=>s
 | _=>[]
def Gt (l:List SV)(w j:Nat):Option au:=match l[j]? with
 | some (.int k _ _)=>some (.int k fun i=>TP (l.getD (i*w+j) .bD))
 | some (.bool _ _)=>some (.bool fun i=>PZ (l.getD (i*w+j) .bD))
 | some (.str _ _)=>some (.str fun i=>k5 (l.getD (i*w+j) .bD))
 | _=>none
def kindOk:au->SV->Bool
 | .int k _,.int k' _ _=>decide (k=k')
 | .bool _,.bool _ _=>true
 | .str _,.str _ _=>true
 | _,_=>false
theorem LK {l:List SV}{w j i:Nat}{col:au}(h:Gt l w j=some col)(hk:kindOk col (l.getD (i*w+j) .bD)=true)(E:Nat->Nat):(l.getD (i*w+j) .bD).val E=(col.at i).val E:=by
 unfold Gt at h
 split at h
 ·injection h with h;subst h
  unfold kindOk at hk
  split at hk
  ·rename_i e1 e2
   injection e1 with e1 _;subst e1
   simp only[decide_eq_true_eq] at hk
   rw[e2];simp only[au.at,e2,TP,SV.val,hk]
  ·cases ‹au.int _ _=au.bool _›
  ·cases ‹au.int _ _=au.str _›
  ·cases hk
 ·injection h with h;subst h
  unfold kindOk at hk
  split at hk
  ·cases ‹au.bool _=au.int _ _›
  ·rename_i e1 e2
   rw[e2];simp only[au.at,e2,PZ,SV.val]
  ·cases ‹au.bool _=au.str _›
  ·cases hk
 ·injection h with h;subst h
  unfold kindOk at hk
  split at hk
  ·cases ‹au.str _=au.int _ _›
  ·cases ‹au.str _=au.bool _›
  ·rename_i e1 e2
   rw[e2];simp only[au.at,e2,k5,SV.val]
  ·cases hk
 ·cases h
theorem seen_cells {m:Mem}{key o n c tot:Nat}{cl:Bool}{ty:TypeId}{cs:List SV}{av:List au}(hk:m.get key=some (.cells cs tot ty))
  (hc: ∀(i j:Nat) (col:au),i<n->av[j]?=some col->∃ v,cs[o+i*av.length+j]?=some v/\∀ E,v.val E=(col.at i).val E):zw m (.slc key o n cl c) ⟨some key,false,o,n,c,av⟩:=by
 refine⟨fun E E' j h=>by simp[SV.val,Seen.sv,h key rfl],fun Γ E nx w hs _=> ?_⟩
 obtain⟨ob,ho,ce,fr,rfl,_,h4,_⟩:=hs.kO key _ hk rfl
 refine⟨key,_,rfl,hk,rfl,_,ho,ko fun i j col hi hj=> ?_⟩
 obtain⟨v,g1,g2⟩:=hc i j col hi hj
 rw[h4 _ _ g1,g2 E,au.DK col i E (fun _=>0)]
def yo (l:List SV)(w:Nat):Nat->Nat->Option (List au)
 | _,0=>some []
 | j,r+1=>match Gt l w j,yo l w (j+1) r with
   | some c,some cs=>some (c::cs)
   | _,_=>none
theorem xA {l:List SV}{w:Nat}: ∀ {r j:Nat} {av:List au},yo l w j r=some av->av.length=r/\∀(k:Nat) (c:au),av[k]?=some c->Gt l w (j+k)=some c
 | 0,_,_,h=>by injection h with h;subst h;exact⟨rfl,fun k c hc=>by simp at hc⟩
 | r+1,j,av,h=>by
   unfold yo at h
   split at h
   ·rename_i c cs h1 h2
    injection h with h;subst h
    obtain⟨g1,g2⟩:=xA h2
    refine⟨by simp[g1],fun k d hd=> ?_⟩
    cases k with
    | zero=>injection hd with hd;subst hd;exact h1
    | succ k =>
      have:=g2 k d (by simpa using hd)
      rw[show j+(k+1)=j+1+k by omega];exact this
   ·cases h
def qv (l:List SV)(w i j:Nat):List au->Bool
 | []=>true
 | col::r=>Nat.blt (i*w+j) l.length&&kindOk col (l.getD (i*w+j) .bD)&&qv l w i (j+1) r
theorem vQ {l:List SV}{w i:Nat}: ∀ {av:List au} {j:Nat},qv l w i j av=true->∀(k:Nat) (c:au),av[k]?=some c->i*w+(j+k)<l.length/\kindOk c (l.getD (i*w+(j+k)) .bD)=true
 | [],_,_,k,c,hc=>by simp at hc
 | d::r,j,h,k,c,hc=>by
   simp only[qv,Bool.and_eq_true,Nat.blt_eq] at h
   obtain⟨⟨h1,h2⟩,h3⟩:=h
   cases k with
   | zero=>injection hc with hc;subst hc;exact⟨h1,h2⟩
   | succ k =>
     have:=vQ h3 k c (by simpa using hc)
     rw[show j+(k+1)=j+1+k by omega];exact this
def BF (l:List SV)(w:Nat)(av:List au):Nat->Bool
 | 0=>true
 | i+1=>qv l w i 0 av&&BF l w av i
theorem AO {l:List SV}{w:Nat}{av:List au}: ∀ {n:Nat},BF l w av n=true->∀ i,i<n->qv l w i 0 av=true
 | 0,_,i,hi=>absurd hi (Nat.not_lt_zero _)
 | n+1,h,i,hi=>by
   simp only[BF,Bool.and_eq_true] at h
   by_cases e:i=n
   ·subst e;exact h.1
   ·exact AO h.2 i (by omega)
def uo (d:List au)(m:Mem):SV->Option (Prop×Seen)
 | .aO=>some (True,⟨none,true,0,0,0,d⟩)
 | .bw key w z i n c=>(match m.get key with
   | some (.rows z' n' av _ _ _)=>if w=av.length then some (z=z'/\i+n<=n',⟨some key,z,i*w,n,c,dF i av⟩)else none
   | _=>none)
 | .bP key w z o i n c=>(match m.get key with
   | some (.view z' o' n' av)=>if w=av.length then some (z=z'/\o'=o/\i+n<=n',⟨some key,z,o+i*w,n,c,dF i av⟩)else none
   | _=>none)
 | .slc key o n _ c=>(match m.get key with
   | some (.cells cs _ _)=>(match n with
     | 0=>some (True,⟨some key,false,o,0,c,d⟩)
     | n+1=>(match yo (cs.drop o) d.length 0 d.length with
       | some av=>if BF (cs.drop o) d.length av (n+1)=true then some (True,⟨some key,false,o,n+1,c,av⟩)else none
       | none=>none))
   | _=>none)
 | _=>none
theorem KR {d:List au}{m:Mem}{v:SV}{p:Prop}{s:Seen}(h:uo d m v=some (p,s))(hp:p):zw m v s:=by
 unfold uo at h
 split at h
 ·injection h with h;injection h with h1 h2;subst h2;exact Om m d
 ·rename_i key w z i n c
  split at h
  ·rename_i z' n' av ro tot ty hk
   split at h
   ·rename_i hc
    subst hc
    injection h with h;injection h with h1 h2;subst h1;subst h2
    obtain⟨rfl,hp⟩:=hp
    exact K6 hk hp
   ·cases h
  ·cases h
 ·rename_i key w z o i n c
  split at h
  ·rename_i z' o' n' av hk
   split at h
   ·rename_i hc
    subst hc
    injection h with h;injection h with h1 h2;subst h1;subst h2
    obtain⟨rfl,rfl,hp⟩:=hp
    exact Lr hk hp
   ·cases h
  ·cases h
 ·rename_i key o n cl c
  split at h
  ·rename_i cs tot ty hk
   split at h
   ·injection h with h;injection h with h1 h2;subst h2
    exact seen_cells hk fun i j col hi=>absurd hi (Nat.not_lt_zero _)
   ·rename_i n
    split at h
    ·rename_i av hcols
     split at h
     ·rename_i hall
      injection h with h;injection h with h1 h2;subst h2
      obtain⟨g1,g2⟩:=xA hcols
      refine seen_cells hk fun i j col hi hj=> ?_
      have h1:=g2 j col hj
      obtain⟨h2,h3⟩:=vQ (AO hall i hi) j col hj
      rw[Nat.zero_add] at h1 h2 h3
      have h4:=LK h1 h3
      refine⟨(cs.drop o).getD (i*d.length+j) .bD,?_,h4⟩
      rw[g1,Nat.add_assoc,← List.getElem?_drop,List.getD_eq_getElem?_getD,List.getElem?_eq_getElem h2]
      rfl
     ·cases h
    ·cases h
  ·cases h
 ·cases h
inductive MT where
 | one
 | slice (d:List au)
inductive vv where
 | of (h:MT)
 | agg (l:List MT)
abbrev Pk (α:Type):=Option (α×Prop×List Seen)
def yR (m:Mem)(j:Nat)(h:MT)(v:SV):Pk SV:=match h with
 | .one=>if v.wf 0=true then some (yM v,True,[])else none
 | .slice d=>match uo d m v with
   | some (p,s)=>some (s.sv j,p,[s])
   | none=>none
def uf (m:Mem):Nat->List MT->List SV->Pk (List SV)
 | _,[],[]=>some ([],True,[])
 | j,h::hs,v::vs=>(match yR m j h v with
   | some (v',p,l)=>(match uf m (j+l.length) hs vs with
     | some (vs',q,r)=>some (v'::vs',p/\q,l++r)
     | none=>none)
   | none=>none)
 | _,_,_=>none
def BA (m:Mem)(j:Nat)(h:vv)(v:SV):Pk SV:=match h,v with
 | .of h,v=>yR m j h v
 | .agg hs,.agg vs=>(match uf m j hs vs with
   | some (vs',p,l)=>some (.agg vs',p,l)
   | none=>none)
 | _,_=>none
def lK (m:Mem):Nat->List vv->List SV->Pk (List SV)
 | _,[],[]=>some ([],True,[])
 | j,h::hs,v::vs=>(match BA m j h v with
   | some (v',p,l)=>(match lK m (j+l.length) hs vs with
     | some (vs',q,r)=>some (v'::vs',p/\q,l++r)
     | none=>none)
   | none=>none)
 | _,_,_=>none
def Names (E E':Nat->Nat)(j:Nat)(l:List Seen):Prop:=∀(i:Nat) (s:Seen),l[i]?=some s->∀ key,s.key=some key->E' (j+i)=E key
theorem Names.left {E E':Nat->Nat}{j:Nat}{l r:List Seen}(h:Names E E' j (l++r)):Names E E' j l:=fun i s hi=>h i s (by
 rw[List.getElem?_append_left (List.getElem?_eq_some_iff.1 hi).1];exact hi)
theorem Names.right {E E':Nat->Nat}{j:Nat}{l r:List Seen}(h:Names E E' j (l++r)):Names E E' (j+l.length) r:=fun i s hi=>by
 rw[Nat.add_assoc]
 exact h (l.length+i) s (by rw[List.getElem?_append_right (by omega)];rw[Nat.add_sub_cancel_left];exact hi)
theorem EP {m:Mem}{j:Nat}{h:MT}{v v':SV}{p:Prop}{l:List Seen}(e:yR m j h v=some (v',p,l))(hp:p):(∀ E E',Names E E' j l->v.val E=v'.val E')/\∀ s∈ l,s.vj m:=by
 unfold yR at e
 split at e
 ·split at e
  ·rename_i hw
   injection e with e;injection e with e1 e;injection e with e2 e3;subst e1;subst e3
   exact⟨fun E E' _=>by rw[Ce];exact SV.sN hw E E',fun s hs=>by cases hs⟩
  ·cases e
 ·split at e
  ·rename_i q s hq
   injection e with e;injection e with e1 e;injection e with e2 e3;subst e1;subst e2;subst e3
   obtain⟨h1,h2⟩:=KR hq hp
   exact⟨fun E E' hn=>h1 E E' j fun key hk=>hn 0 s rfl key hk,fun t ht=>by rw[List.mem_singleton] at ht;subst ht;exact h2⟩
  ·cases e
theorem Bh {m:Mem}: ∀ {hs:List MT} {j:Nat} {vs vs':List SV} {p:Prop} {l:List Seen},uf m j hs vs=some (vs',p,l)->p->(∀ E E',Names E E' j l->SV.vals E vs=SV.vals E' vs')/\∀ s∈ l,s.vj m
 | [],_,[],_,_,_,e,_=>by
   injection e with e;injection e with e1 e;injection e with e2 e3;subst e1;subst e3
   exact⟨fun _ _ _=>rfl,fun s hs=>by cases hs⟩
 | h::hs,j,v::vs,vs',p,l,e,hp=>by
   simp only[uf] at e
   split at e
   ·rename_i v1 p1 l1 h1
    split at e
    ·rename_i vs2 p2 l2 h2
     injection e with e;injection e with e1 e;injection e with e2 e3;subst e1;subst e2;subst e3
     obtain⟨a1,a2⟩:=EP h1 hp.1
     obtain⟨b1,b2⟩:=Bh h2 hp.2
     refine⟨fun E E' hn=>by simp only[SV.vals];rw[a1 E E' hn.left,b1 E E' hn.right],fun s hs=> ?_⟩
     rcases List.mem_append.1 hs with hs | hs
     ·exact a2 s hs
     ·exact b2 s hs
    ·cases e
   ·cases e
 | [],_,_::_,_,_,_,e,_=>by cases e
 | _::_,_,[],_,_,_,e,_=>by cases e
theorem Rq {m:Mem}{j:Nat}{h:vv}{v v':SV}{p:Prop}{l:List Seen}(e:BA m j h v=some (v',p,l))(hp:p):(∀ E E',Names E E' j l->v.val E=v'.val E')/\∀ s∈ l,s.vj m:=by
 unfold BA at e
 split at e
 ·exact EP e hp
 ·split at e
  ·rename_i vs' p' l' h'
   injection e with e;injection e with e1 e;injection e with e2 e3;subst e1;subst e2;subst e3
   obtain⟨a1,a2⟩:=Bh h' hp
   exact⟨fun E E' hn=>by simp only[SV.val];rw[a1 E E' hn],a2⟩
  ·cases e
 ·cases e
theorem BL {m:Mem}: ∀ {hs:List vv} {j:Nat} {vs vs':List SV} {p:Prop} {l:List Seen},lK m j hs vs=some (vs',p,l)->p->(∀ E E',Names E E' j l->SV.vals E vs=SV.vals E' vs')/\∀ s∈ l,s.vj m
 | [],_,[],_,_,_,e,_=>by
   injection e with e;injection e with e1 e;injection e with e2 e3;subst e1;subst e3
   exact⟨fun _ _ _=>rfl,fun s hs=>by cases hs⟩
 | h::hs,j,v::vs,vs',p,l,e,hp=>by
   simp only[lK] at e
   split at e
   ·rename_i v1 p1 l1 h1
    split at e
    ·rename_i vs2 p2 l2 h2
     injection e with e;injection e with e1 e;injection e with e2 e3;subst e1;subst e2;subst e3
     obtain⟨a1,a2⟩:=Rq h1 hp.1
     obtain⟨b1,b2⟩:=BL h2 hp.2
     refine⟨fun E E' hn=>by simp only[SV.vals];rw[a1 E E' hn.left,b1 E E' hn.right],fun s hs=> ?_⟩
     rcases List.mem_append.1 hs with hs | hs
     ·exact a2 s hs
     ·exact b2 s hs
    ·cases e
   ·cases e
 | [],_,_::_,_,_,_,e,_=>by cases e
 | _::_,_,[],_,_,_,e,_=>by cases e
def O9 (j:Nat)(h:MT)(v:SV)(l:List Seen):SV×Nat×List Seen:=match h,l with
 | .slice _,s::r=>(s.sv j,j+1,r)
 | _,l=>(v,j,l)
def DU:Nat->List MT->List SV->List Seen->List SV×Nat×List Seen
 | j,h::hs,v::vs,l=>match O9 j h v l with
   | (v',j',l')=>match DU j' hs vs l' with
     | (vs',j'',l'')=>(v'::vs',j'',l'')
 | j,_,vs,l=>(vs,j,l)
def PW (j:Nat)(h:vv)(v:SV)(l:List Seen):SV×Nat×List Seen:=match h,v with
 | .of h,v=>O9 j h v l
 | .agg hs,.agg vs=>(match DU j hs vs l with
   | (vs',j',l')=>(.agg vs',j',l'))
 | _,v=>(v,j,l)
def C2:Nat->List vv->List SV->List Seen->List SV×Nat×List Seen
 | j,h::hs,v::vs,l=>match PW j h v l with
   | (v',j',l')=>match C2 j' hs vs l' with
     | (vs',j'',l'')=>(v'::vs',j'',l'')
 | j,_,vs,l=>(vs,j,l)
theorem GL {m:Mem}{j:Nat}{h:MT}{v v':SV}{p:Prop}{l:List Seen}(e:yR m j h v=some (v',p,l))(r:List Seen):O9 j h v' (l++r)=(v',j+l.length,r):=by
 unfold yR at e
 split at e
 ·split at e
  ·injection e with e;injection e with e1 e;injection e with e2 e3;subst e1;subst e3;rfl
  ·cases e
 ·split at e
  ·injection e with e;injection e with e1 e;injection e with e2 e3;subst e1;subst e3;rfl
  ·cases e
theorem BK {m:Mem}: ∀ {hs:List MT} {j:Nat} {vs vs':List SV} {p:Prop} {l:List Seen},uf m j hs vs=some (vs',p,l)->∀ r,DU j hs vs' (l++r)=(vs',j+l.length,r)
 | [],_,[],_,_,_,e,r=>by
   injection e with e;injection e with e1 e;injection e with e2 e3;subst e1;subst e3;rfl
 | h::hs,j,v::vs,vs',p,l,e,r=>by
   simp only[uf] at e
   split at e
   ·rename_i v1 p1 l1 h1
    split at e
    ·rename_i vs2 p2 l2 h2
     injection e with e;injection e with e1 e;injection e with e2 e3;subst e1;subst e2;subst e3
     have a:=GL h1 (l2++r)
     have b:=BK h2 r
     rw[List.append_assoc]
     simp only[DU,a,b,List.length_append,Nat.add_assoc]
    ·cases e
   ·cases e
 | [],_,_::_,_,_,_,e,_=>by cases e
 | _::_,_,[],_,_,_,e,_=>by cases e
theorem Rp {m:Mem}{j:Nat}{h:vv}{v v':SV}{p:Prop}{l:List Seen}(e:BA m j h v=some (v',p,l))(r:List Seen):PW j h v' (l++r)=(v',j+l.length,r):=by
 unfold BA at e
 split at e
 ·exact GL e r
 ·split at e
  ·rename_i vs' p' l' h'
   injection e with e;injection e with e1 e;injection e with e2 e3;subst e1;subst e2;subst e3
   have a:=BK h' r
   simp only[PW,a]
  ·cases e
 ·cases e
theorem Ca {m:Mem}: ∀ {hs:List vv} {j:Nat} {vs vs':List SV} {p:Prop} {l:List Seen},lK m j hs vs=some (vs',p,l)->∀ r,C2 j hs vs' (l++r)=(vs',j+l.length,r)
 | [],_,[],_,_,_,e,r=>by
   injection e with e;injection e with e1 e;injection e with e2 e3;subst e1;subst e3;rfl
 | h::hs,j,v::vs,vs',p,l,e,r=>by
   simp only[lK] at e
   split at e
   ·rename_i v1 p1 l1 h1
    split at e
    ·rename_i vs2 p2 l2 h2
     injection e with e;injection e with e1 e;injection e with e2 e3;subst e1;subst e2;subst e3
     have a:=Rp h1 (l2++r)
     have b:=Ca h2 r
     rw[List.append_assoc]
     simp only[C2,a,b,List.length_append,Nat.add_assoc]
    ·cases e
   ·cases e
 | [],_,_::_,_,_,_,e,_=>by cases e
 | _::_,_,[],_,_,_,e,_=>by cases e
def filled (sh:List vv)(vs:List SV)(l:List Seen):List SV:=(C2 0 sh vs l).1
theorem Lx {m:Mem}{hs:List vv}{vs vs':List SV}{p:Prop}{l:List Seen}(e:lK m 0 hs vs=some (vs',p,l)):filled hs vs' l=vs':=by
 have:=Ca e []
 rw[List.append_nil] at this
 unfold filled
 rw[this]
def ja:Nat->List Seen->Mem
 | _,[]=>[]
 | j,s::r=>(j,s.B)::ja (j+1) r
theorem dj: ∀ {l:List Seen} {j k:Nat} {B:SB},(ja j l).get k=some B->∃ i s,k=j+i/\l[i]?=some s/\B=s.B
 | [],_,_,_,h=>by cases h
 | s::r,j,k,B,h=>by
   rcases Mem.eJ h with ⟨rfl,rfl⟩ | ⟨_,h⟩
   ·exact⟨0,s,rfl,rfl,rfl⟩
   ·obtain⟨i,t,e1,e2,e3⟩:=dj h
    exact⟨i+1,t,by omega,by simpa using e2,e3⟩
def mo (E:Nat->Nat)(l:List Seen)(j:Nat):Nat:=match l[j]? with
 | some s=>(match s.key with
   | some k=>E k
   | none=>0)
 | none=>0
theorem GS (E:Nat->Nat)(l:List Seen):Names E (mo E l) 0 l:=fun i s hi key hk=>by simp only[mo,Nat.zero_add,hi,hk]
theorem Q7 {m:Mem}{l:List Seen}(h: ∀ s∈ l,s.vj m){Γ:aY}{E:Nat->Nat}{nx:Nat}{w:World}(hs:aJ Γ E m nx w) :
  aJ (aY.at w (fun _=>False) hs.Hi (fun _ _ h=>h)) (mo E l) (ja 0 l) l.length w:=by
 refine⟨fun j B a hj hn=> ?_,fun j j' B B' a hj hn hj' hn' hr=> ?_,fun j B hj=> ?_,fun j B a hj hn hro=> ?_,Ext.refl _ _,⟨Nat.zero_le _,fun k hk=>absurd hk (Nat.not_lt_zero _)⟩,fun D hD=>by cases hD⟩
 ·obtain⟨i,s,e1,e2,rfl⟩:=dj hj
  rw[Nat.zero_add] at e1;subst e1
  obtain⟨hn1,rfl⟩:=(SB.gy (B:=s.B) rfl).1 hn
  obtain⟨key,X,g1,g2,g3,ob,g4,g5⟩:=h s (List.mem_of_getElem? e2) Γ E nx w hs hn1
  exact⟨ob,by simp only[mo,e2,g1];exact g4,g5 _⟩
 ·obtain⟨i,s,e1,e2,rfl⟩:=dj hj
  obtain⟨i',s',e1',e2',rfl⟩:=dj hj'
  rcases hr with hr | hr<;>cases hr
 ·obtain⟨i,s,e1,e2,rfl⟩:=dj hj
  have:=(List.getElem?_eq_some_iff.1 e2).1
  omega
 ·obtain⟨i,s,e1,e2,rfl⟩:=dj hj
  cases hro
noncomputable def cr (sh:List vv)(spec:List SV->List Seen->Option (Prop×c6)):PT:=fun args m nx K=>match lK m 0 sh args with
 | some (vs,p,l)=>(match spec vs l with
   | some (q,a)=>.and (.atom (p/\q)) (a.vc m nx K)
   | none=>.fail "arguments that nothing is said of")
 | none=>.fail "a slice that is not known"
theorem cG (sh:List vv)(spec:List SV->List Seen->Option (Prop×c6)):aR (cr sh spec):=by
 intro args m nx K K' hK h
 unfold cr at h ⊢
 split at h
 ·split at h
  ·exact⟨h.1,c6.tu hK h.2⟩
  ·exact h
 ·exact h
theorem fD {P:Program}{f:FuncId}{fn:Func}(hf:P.funcs[f]?=some fn) (hn:(fn.name== "runtime.NumGoroutine")=false) (hb:fn.body.isSome=true) {n:Nat} {sh:List vv}
  {spec:List SV->List Seen->Option (Prop×c6)}
  (h: ∀ vs l q a,spec vs l=some (q,a)->q->∃ cfg,Good P cfg/\SV.ep l.length (filled sh vs l)=true/\a.Ok/\aA (dR P (calling P cfg n) [] vL (cfg.br f) cfg.rounds fn (filled sh vs l) (ja 0 l) l.length (fun v m _=>a.fit v m))):aB P f (cr sh spec):=by
 intro args m nx K hk hwf hargs Γ E w hs
 unfold cr at hk
 split at hk
 ·rename_i vs p l hx
  split at hk
  ·rename_i q a hq
   obtain⟨⟨hxp,hqq⟩,hk⟩:=hk
   obtain⟨cfg,hg,h1,h2,h3⟩:=h _ _ _ _ hq hqq
   rw[Lx hx] at h1 h3
   obtain⟨e1,e2⟩:=BL hx hxp
   have hwm: ∀(j:Nat) (l:List Seen),Mem.wf l.length (ja j l)=true:=by
    intro j l
    have: ∀(j n:Nat) (l:List Seen),Mem.wf n (ja j l)=true:=by
     intro j n l
     induction l generalizing j with
     | nil=>rfl
     | cons s r ih=>simp only[ja,Mem.wf,Bool.and_eq_true];exact⟨rfl,ih _⟩
    exact this j _ l
   have hc:=de hg hf hn hb h3 (hwm 0 l) h1 (Q7 e2 hs)
   rw[← e1 E _ (GS E l)] at hc
   refine dZ hf hn hb (hc.mono ?_)
   rintro e w' ⟨v,rfl,E',sv,m',nx',_,_,g3,g4,g5⟩
   refine⟨v,rfl,?_⟩
   cases sv with
   | none=>exact g5.elim
   | some u=>rw[g3 u rfl];exact c6.told hs hwf g4 h2 g5 hk
  ·exact hk.elim
 ·exact hk.elim
def Q9 (m:Mem)(h:MT)(v:SV):Bool:=match h with
 | .one=>isLit v
 | .slice _=>litCells' m v
where litCells' (m:Mem):SV->Bool
 | .aO=>true
 | .slc key _ _ _ _=>(match m.get key with
   | some (.cells cs _ _)=>yJ cs
   | _=>false)
 | _=>false
def JZ (m:Mem):List MT->List SV->Bool
 | h::hs,v::vs=>Q9 m h v&&JZ m hs vs
 | _,_=>true
def UQ (m:Mem):vv->SV->Bool
 | .of h,v=>Q9 m h v
 | .agg hs,.agg vs=>JZ m hs vs
 | _,_=>false
def Kb (m:Mem):List vv->List SV->Bool
 | h::hs,v::vs=>UQ m h v&&Kb m hs vs
 | _,_=>true
noncomputable def nh (sh:List vv)(spec:List SV->List Seen->Option (Prop×c6)):PT:=fun args m nx K=>match Kb m sh args with
 | true=>(match lK m 0 sh args with
   | some (vs,p,l)=>(match spec vs l with
     | some (q,a)=>.and (.atom (p/\q)) (a.RY m nx K)
     | none=>.fail "arguments that nothing is said of")
   | none=>.fail "a slice that is not known")
 | false=>cr sh spec args m nx K
theorem nF (sh:List vv)(spec:List SV->List Seen->Option (Prop×c6)):aR (nh sh spec):=by
 intro args m nx K K' hK h
 unfold nh at h ⊢
 split at h
 ·split at h
  ·split at h
   ·exact⟨h.1,c6.mb hK h.2⟩
   ·exact h
  ·exact h
 ·exact cG sh spec _ _ _ _ _ hK h
theorem yB {P:Program}{f:FuncId}{sh:List vv}{spec:List SV->List Seen->Option (Prop×c6)}(h:aB P f (cr sh spec)):aB P f (nh sh spec):=by
 intro args m nx K hk hwf hargs Γ E w hs
 unfold nh at hk
 split at hk
 ·have:(cr sh spec args m nx (U4 Γ E nx K)).holds:=by
   unfold cr
   split at hk
   ·rename_i vs p l hp
    split at hk
    ·rename_i q a hq
     first
      | exact⟨hk.1,c6.lA hk.2⟩
      | (rw[hp];simp only[hq];exact⟨hk.1,c6.lA hk.2⟩)
    ·exact hk.elim
   ·exact hk.elim
  refine(h args m nx _ this hwf hargs Γ E w hs).mono (fun e w' hh=> ?_) (fun _ _ h=>h)
  obtain⟨E',sv,m',nx',h1,h2,h3,h4,h5⟩:=hh
  cases sv with
  | none=>exact h5.elim
  | some v=>rw[h3 v rfl];exact h5 E' w' h1 h2 h4
 ·exact h args m nx K hk hwf hargs Γ E w hs
end Go.Proofs.YtoibaecagklkaaaGreatDoor.Sx
namespace Go.Proofs.YtoibaecagklkaaaGreatDoor
open Go Sx
set_option maxRecDepth 20000
noncomputable def gJ (cfg:ff)(f:Nat)(fn:Func)(args:List SV)(l:List Seen)(a:c6):VC:=dR Tryz.prog (calling Tryz.prog cfg 20) [] vL (cfg.br f) cfg.rounds fn args (ja 0 l) l.length (fun v m _=>a.fit v m)
def I0 (m:Mem)(v:SV):Option (List (List UInt8)):=match v with
 | .slc key o n _ _=>(match m.get key with
   | some (.cells cs _ _)=>strCells ((cs.drop o).take n)
   | _=>none)
 | _=>none
theorem FH {cs:List SV}{n:Nat}{l:List (List UInt8)}(h:strCells (cs.take n)=some l)(hn:n<=cs.length):gr (fun i=>k5 (cs.getD (i*1+0) .bD)) 0 n=l:=by
 obtain⟨g1,g2⟩:=sD h
 rw[List.length_take] at g1
 apply List.ext_getElem?
 intro i
 by_cases hi:i<n
 ·have hl:i<l.length:=by omega
  obtain⟨b,hb⟩:=g2 i _ (List.getElem?_eq_getElem hl)
  rw[List.getElem?_take_of_lt hi] at hb
  unfold gr
  rw[List.getElem?_map,List.getElem?_range hi,List.getElem?_eq_getElem hl]
  simp only[Option.map_some,Nat.zero_add,Nat.mul_one,Nat.add_zero,List.getD_eq_getElem?_getD,hb,Option.getD_some,k5]
 ·rw[List.getElem?_eq_none (by rw[mu];omega),List.getElem?_eq_none (by omega)]
theorem KY {l:List SV}{av:List au}(hc:0<av.length): ∀ {n:Nat},BF l 1 av n=true->n<=l.length
 | 0,_=>Nat.zero_le _
 | i+1,h=>by
   simp only[BF,Bool.and_eq_true] at h
   cases av with
   | nil=>simp at hc
   | cons c r =>
     have:=h.1
     simp only[qv,Bool.and_eq_true,Nat.blt_eq] at this
     omega
theorem Mi {m:Mem}{v:SV}{p:Prop}{s:Seen}{f:Nat->List UInt8}{l:List (List UInt8)}(h:uo [.str fun _=>[]] m v=some (p,s))(hc:s.av=[.str f])(hl:I0 m v=some l):gr f 0 s.n=l:=by
 unfold I0 at hl
 split at hl
 ·rename_i key o n cl c
  simp only[uo] at h
  split at h
  ·rename_i cs tot ty hk
   rw[hk] at hl
   simp only at hl
   cases n with
   | zero =>
     injection h with h;injection h with h1 h2;subst h2
     simp[strCells] at hl;subst hl;rfl
   | succ n =>
     simp only at h
     split at h
     ·rename_i av hcols
      split at h
      ·rename_i hall
       injection h with h;injection h with h1 h2;subst h2
       simp only at hc
       subst hc
       simp only[List.length_cons,List.length_nil,Nat.zero_add,yo] at hcols
       split at hcols
       ·rename_i a b ha hb
        injection hb with hb;subst hb
        injection hcols with e
        injection e with e _
        subst e
        have hlen:=KY (by simp) hall
        unfold Gt at ha
        split at ha
        ·cases ha
        ·cases ha
        ·injection ha with ha
         injection ha with ha
         subst ha
         exact FH hl hlen
        ·cases ha
       ·cases hcols
      ·cases h
     ·cases h
  ·cases h
 ·cases hl
noncomputable def pn (q:List (List UInt8)->Prop)(g:List (List UInt8)->SV):PT:=fun args m nx K=>match args with
 | [v]=>(match uo [.str fun _=>[]] m v with
   | some (p,s)=>(match s.av with
     | [.str f]=>(match I0 m v with
       | some l=>.and (.atom (p/\q l)) (K (g l) m nx)
       | none=>.and (.atom (p/\q (gr f 0 s.n))) (K (g (gr f 0 s.n)) m nx))
     | _=>.fail "texts that are not known")
   | none=>.fail "texts that are not known")
 | _=>.fail "arguments"
theorem oe (q:List (List UInt8)->Prop)(g:List (List UInt8)->SV):aR (pn q g):=by
 intro args m nx K K' hK h
 unfold pn at h ⊢
 split at h
 ·split at h
  ·split at h
   ·split at h<;>exact⟨h.1,hK _ _ _ h.2⟩
   ·exact h
  ·exact h
 ·exact h
def Xp:List vv:=[.of (.slice [.str fun _=>[]])]
def rowOf (vs:List SV)(l:List Seen):Option (Nat×(Nat->List UInt8)×Bool×Nat×Nat×Option Nat):=match vs,l with
 | [_],[⟨key,z,o,n,c,[.str f]⟩]=>some (n,f,z,o,c,key)
 | _,_=>none
theorem Rh {vs:List SV}{l:List Seen}{n:Nat}{f:Nat->List UInt8}{z:Bool}{o c:Nat}{key:Option Nat}(h:rowOf vs l=some (n,f,z,o,c,key)):filled Xp vs l=[.bP 0 1 z o 0 n c]/\l=[⟨key,z,o,n,c,[.str f]⟩]:=by
 unfold rowOf at h
 split at h
 ·injection h with h;injection h with h1 h;injection h with h2 h;injection h with h3 h;injection h with h4 h;injection h with h5 h6
  subst h1;subst h2;subst h3;subst h4;subst h5;subst h6
  exact⟨rfl,rfl⟩
 ·cases h
def FW (q:List (List UInt8)->Prop)(g:List (List UInt8)->SV)(vs:List SV)(l:List Seen):Option (Prop×c6):=match rowOf vs l with
 | some (n,f,_)=>some (q (gr f 0 n),.ret (g (gr f 0 n)))
 | none=>none
theorem RB {P:Program}{f:FuncId}{q:List (List UInt8)->Prop}{g:List (List UInt8)->SV}(h:aB P f (cr Xp (FW q g))):aB P f (pn q g):=by
 intro args m nx K hk hwf hargs Γ E w hs
 refine h args m nx K ?_ hwf hargs Γ E w hs
 unfold pn at hk
 split at hk
 ·rename_i v
  split at hk
  ·rename_i p s hv
   split at hk
   ·rename_i f' hc
    have hk:(VC.and (.atom (p/\q (gr f' 0 s.n))) (K (g (gr f' 0 s.n)) m nx)).holds:=by
     split at hk
     ·rename_i l hl
      rw[Mi hv hc hl];exact hk
     ·exact hk
    obtain⟨key,z,o,n,c,av⟩:=s
    simp only at hc
    subst hc
    have e:lK m 0 Xp [v]=some ([(⟨key,z,o,n,c,[.str f']⟩:Seen).sv 0],(p/\True),[⟨key,z,o,n,c,[.str f']⟩]):=by
     simp only[Xp,lK,BA,yR,hv,List.append_nil]
    unfold cr
    rw[e]
    exact⟨⟨⟨hk.1.1,trivial⟩,hk.1.2⟩,hk.2⟩
   ·exact hk.elim
  ·exact hk.elim
 ·exact hk.elim
def EL (n:Int):List UInt8:=[UInt8.ofNat (n / 72057594037927936% 256).toNat,UInt8.ofNat (n / 281474976710656% 256).toNat,UInt8.ofNat (n / 1099511627776% 256).toNat,UInt8.ofNat (n / 4294967296% 256).toNat,UInt8.ofNat (n / 16777216% 256).toNat,UInt8.ofNat (n / 65536% 256).toNat,UInt8.ofNat (n / 256% 256).toNat,UInt8.ofNat (n / 1% 256).toNat]
def uZ (T:List UInt8):Nat:=(119 - T.length% 64)% 64
def J0 (T:List UInt8):List UInt8:=128::(List.replicate (uZ T) 0++EL ((T.length:Int)% 18446744073709551616*8% 18446744073709551616))
def Vt (T:List UInt8):List UInt8:=T++J0 T
def W0 (W:Nat->Int):List UInt8:=[UInt8.ofNat (W 0 / 16777216% 256).toNat,UInt8.ofNat (W 0 / 65536% 256).toNat,UInt8.ofNat (W 0 / 256% 256).toNat,UInt8.ofNat (W 0% 256).toNat,UInt8.ofNat (W 1 / 16777216% 256).toNat,UInt8.ofNat (W 1 / 65536% 256).toNat,UInt8.ofNat (W 1 / 256% 256).toNat,UInt8.ofNat (W 1% 256).toNat,UInt8.ofNat (W 2 / 16777216% 256).toNat,UInt8.ofNat (W 2 / 65536% 256).toNat,UInt8.ofNat (W 2 / 256% 256).toNat,UInt8.ofNat (W 2% 256).toNat,UInt8.ofNat (W 3 / 16777216% 256).toNat,UInt8.ofNat (W 3 / 65536% 256).toNat,UInt8.ofNat (W 3 / 256% 256).toNat,UInt8.ofNat (W 3% 256).toNat,UInt8.ofNat (W 4 / 16777216% 256).toNat,UInt8.ofNat (W 4 / 65536% 256).toNat,UInt8.ofNat (W 4 / 256% 256).toNat,UInt8.ofNat (W 4% 256).toNat,UInt8.ofNat (W 5 / 16777216% 256).toNat,UInt8.ofNat (W 5 / 65536% 256).toNat,UInt8.ofNat (W 5 / 256% 256).toNat,UInt8.ofNat (W 5% 256).toNat,UInt8.ofNat (W 6 / 16777216% 256).toNat,UInt8.ofNat (W 6 / 65536% 256).toNat,UInt8.ofNat (W 6 / 256% 256).toNat,UInt8.ofNat (W 6% 256).toNat,UInt8.ofNat (W 7 / 16777216% 256).toNat,UInt8.ofNat (W 7 / 65536% 256).toNat,UInt8.ofNat (W 7 / 256% 256).toNat,UInt8.ofNat (W 7% 256).toNat]
def cL (T:List UInt8):List UInt8:=W0 (nH (Vt T) ((Vt T).length / 64))
noncomputable def HX:List (FuncId×PT):=(60,nP uv uL)::e8
theorem Cg:bl Tryz.prog (fun f=>aG f HX):=.cons OA (nv _ _) di
noncomputable def J7:ff:={cg with cI:=fun f=>aG f HX}
theorem Wl:Sx.Good Tryz.prog J7:=.of bS Cg bt
def C':List SV->Option (Sh×List UInt8->Prop×(Unit->Prop×SV×(Sh×List UInt8)))
 | [.ptr 0 true 0]=>some fun g=>(AQ g.1 g.2/\g.2.length<1152921504606846976,fun _=>(True,.str false (cL g.2),g))
 | _=>none
noncomputable def O2:List (FuncId×PT):=(61,nP uv C')::HX
noncomputable def Wz (n:Nat)(f:Nat->List UInt8):bC :=
 {α:=Nat×Sh,pre:=fun _ x=>x.1<=n/\AQ x.2 (flat (gr f 0 x.1)),nY:=fun _ x=>n - x.1,fresh:=0,slots:=fun _ x=>[(9,.int .i64 false x.1)],mem:=fun _ x=>[(1,x.2.sb)]}
noncomputable def Re (n:Nat)(f:Nat->List UInt8):ff:={cg with cI:=fun f=>aG f O2,br:=fun g=>if g=25 then [(3,always (Wz n f))] else []}
def Gq (l:List (List UInt8)):Prop:=(flat l).length<1152921504606846976/\l.length<1152921504606846976
def Rf (l:List (List UInt8)):SV:=.str false (cL (flat l))
end Go.Proofs.YtoibaecagklkaaaGreatDoor
