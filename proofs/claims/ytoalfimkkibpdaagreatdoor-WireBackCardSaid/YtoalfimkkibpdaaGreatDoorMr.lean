/-
  Conditions that the executor computes, written out by a program (vcgen.py).
-/
import Derived.Test.YtoalfimkkibpdaaGreatDoorMq
import Derived.Test.YtoalfimkkibpdaaGreatDoorMo
namespace Go.Proofs.YtoalfimkkibpdaaGreatDoor
open Go Sx
set_option maxRecDepth 20000
theorem vcSum (x:Sh)(T:List UInt8):VC.holds (runBox cfgS4 101 Tryz.f101 [.ptr 0 true 0] shSB (x,T) (fun _:Unit=>(True,.str false (shaL T),(x,T))))=((fun R0:Nat→SV=>((fun R1:Nat→SV=>((fun R2:Nat→(Sh×List UInt8)→SV=>((fun R3:Nat→(Sh×List UInt8)→SV=>((((-9223372036854775808:Int)≤119 - x.held∧119 - x.held≤9223372036854775807)∧((0:Int)≤119 - x.held∧119 - x.held≤9223372036854775807∧(0:Int)<(64:Int))∧((-9223372036854775808:Int)≤1+(119 - x.held)% 64∧1+(119 - x.held)% 64≤(9223372036854775807:Int))∧((-9223372036854775808:Int)≤1+(119 - x.held)% 64+(8:Int)∧1+(119 - x.held)% 64+(8:Int)≤(9223372036854775807:Int))∧(1+(119 - x.held)% 64+(8:Int)=1+(119 - x.held)% 64+(8:Int)∧(0:Int)≤1+(119 - x.held)% 64+(8:Int)∧1*(1+(119 - x.held)% 64+(8:Int))≤140737488355328∧1+(119 - x.held)% 64+(8:Int)≤(9223372036854775807:Int))∧((0:Int)≤(0:Int)∧0<(↑(1+(119 - x.held)% 64+(8:Int)).toNat:Int))∧0<(1+(119 - x.held)% 64+(8:Int)).toNat∧((-9223372036854775808:Int)≤1+(119 - x.held)% 64∧1+(119 - x.held)% 64≤(9223372036854775807:Int))∧((-9223372036854775808:Int)≤1+(119 - x.held)% 64+(0:Int)∧1+(119 - x.held)% 64+(0:Int)≤(9223372036854775807:Int))∧((0:Int)≤1+(119 - x.held)% 64+(0:Int) ∧1+(119 - x.held)% 64+0<(↑(1+(119 - x.held)% 64+(8:Int)).toNat:Int))∧0+(1+(119 - x.held)% 64+(0:Int)).toNat<(1+(119 - x.held)% 64+(8:Int)).toNat∧((-9223372036854775808:Int)≤1+(119 - x.held)% 64∧1+(119 - x.held)% 64≤(9223372036854775807:Int))∧((-9223372036854775808:Int)≤1+(119 - x.held)% 64+(1:Int)∧1+(119 - x.held)% 64+(1:Int)≤(9223372036854775807:Int))∧((0:Int)≤1+(119 - x.held)% 64+(1:Int)∧1+(119 - x.held)% 64+1<(↑(1+(119 - x.held)% 64+(8:Int)).toNat:Int))∧0+(1+(119 - x.held)% 64+(1:Int)).toNat<(1+(119 - x.held)% 64+(8:Int)).toNat∧((-9223372036854775808:Int)≤1+(119 - x.held)% 64∧1+(119 - x.held)% 64≤(9223372036854775807:Int))∧((-9223372036854775808:Int)≤1+(119 - x.held)% 64+(2:Int)∧1+(119 - x.held)% 64+(2:Int)≤(9223372036854775807:Int))∧((0:Int)≤1+(119 - x.held)% 64+(2:Int)∧1+(119 - x.held)% 64+2<(↑(1+(119 - x.held)% 64+(8:Int)).toNat:Int))∧0+(1+(119 - x.held)% 64+(2:Int)).toNat<(1+(119 - x.held)% 64+(8:Int)).toNat ∧((-9223372036854775808:Int)≤1+(119 - x.held)% 64∧1+(119 - x.held)% 64≤(9223372036854775807:Int))∧((-9223372036854775808:Int)≤1+(119 - x.held)% 64+(3:Int)∧1+(119 - x.held)% 64+(3:Int)≤(9223372036854775807:Int))∧((0:Int)≤1+(119 - x.held)% 64+(3:Int)∧1+(119 - x.held)% 64+3<(↑(1+(119 - x.held)% 64+(8:Int)).toNat:Int))∧0+(1+(119 - x.held)% 64+(3:Int)).toNat<(1+(119 - x.held)% 64+(8:Int)).toNat∧((-9223372036854775808:Int)≤1+(119 - x.held)% 64∧1+(119 - x.held)% 64≤(9223372036854775807:Int))∧((-9223372036854775808:Int)≤1+(119 - x.held)% 64+(4:Int)∧1+(119 - x.held)% 64+(4:Int)≤(9223372036854775807:Int))∧((0:Int)≤1+(119 - x.held)% 64+(4:Int)∧1+(119 - x.held)% 64+4<(↑(1+(119 - x.held)% 64+(8:Int)).toNat:Int))∧0+(1+(119 - x.held)% 64+(4:Int)).toNat<(1+(119 - x.held)% 64+(8:Int)).toNat∧((-9223372036854775808:Int)≤1+(119 - x.held)% 64∧1+(119 - x.held)% 64≤(9223372036854775807:Int))∧((-9223372036854775808:Int)≤1+(119 - x.held)% 64+(5:Int) ∧1+(119 - x.held)% 64+(5:Int)≤(9223372036854775807:Int))∧((0:Int)≤1+(119 - x.held)% 64+(5:Int)∧1+(119 - x.held)% 64+5<(↑(1+(119 - x.held)% 64+(8:Int)).toNat:Int))∧0+(1+(119 - x.held)% 64+(5:Int)).toNat<(1+(119 - x.held)% 64+(8:Int)).toNat∧((-9223372036854775808:Int)≤1+(119 - x.held)% 64∧1+(119 - x.held)% 64≤(9223372036854775807:Int))∧((-9223372036854775808:Int)≤1+(119 - x.held)% 64+(6:Int)∧1+(119 - x.held)% 64+(6:Int)≤(9223372036854775807:Int))∧((0:Int)≤1+(119 - x.held)% 64+(6:Int)∧1+(119 - x.held)% 64+6<(↑(1+(119 - x.held)% 64+(8:Int)).toNat:Int))∧0+(1+(119 - x.held)% 64+(6:Int)).toNat<(1+(119 - x.held)% 64+(8:Int)).toNat∧((-9223372036854775808:Int)≤1+(119 - x.held)% 64∧1+(119 - x.held)% 64≤(9223372036854775807:Int))∧((-9223372036854775808:Int)≤1+(119 - x.held)% 64+(7:Int)∧1+(119 - x.held)% 64+(7:Int)≤(9223372036854775807:Int))∧((0:Int)≤1+(119 - x.held)% 64+(7:Int)∧1+(119 - x.held)% 64+7<(↑(1+(119 - x.held)% 64+(8:Int)).toNat:Int)) ∧0+(1+(119 - x.held)% 64+(7:Int)).toNat<(1+(119 - x.held)% 64+(8:Int)).toNat∧0+(1+(119 - x.held)% 64+(8:Int)).toNat≤(1+(119 - x.held)% 64+(8:Int)).toNat ∧∃(u4:Sh×List UInt8),SBle (SB.cells [R0 0,R0 1,R0 2,R0 3,R0 4,R0 5,R0 6,R0 7,R1 0,R1 1,R1 2,R1 3,R1 4,R1 5,R1 6,R1 7,R1 8,R1 9,R1 10,R1 11,R1 12,R1 13,R1 14,R1 15,R1 16,R1 17,R1 18,R1 19,R1 20,R1 21,R1 22,R1 23,R1 24,R1 25,R1 26,R1 27,R1 28,R1 29,R1 30,R1 31,R1 32,R1 33,R1 34,R1 35,R1 36,R1 37,R1 38,R1 39,R1 40,R1 41,R1 42,R1 43,R1 44,R1 45,R1 46,R1 47,R1 48,R1 49,R1 50,R1 51,R1 52,R1 53,R1 54,R1 55,R1 56,R1 57,R1 58,R1 59,R1 60,R1 61,R1 62,R1 63,SV.int .i64 false x.held,SV.int .u64 false x.size] 74 239) (SB.cells [R2 0 u4,R2 1 u4,R2 2 u4,R2 3 u4,R2 4 u4,R2 5 u4,R2 6 u4,R2 7 u4,R3 0 u4,R3 1 u4,R3 2 u4,R3 3 u4,R3 4 u4,R3 5 u4,R3 6 u4,R3 7 u4,R3 8 u4,R3 9 u4,R3 10 u4,R3 11 u4,R3 12 u4,R3 13 u4,R3 14 u4,R3 15 u4,R3 16 u4,R3 17 u4,R3 18 u4,R3 19 u4,R3 20 u4,R3 21 u4,R3 22 u4,R3 23 u4,R3 24 u4,R3 25 u4,R3 26 u4,R3 27 u4,R3 28 u4,R3 29 u4,R3 30 u4,R3 31 u4,R3 32 u4,R3 33 u4,R3 34 u4,R3 35 u4,R3 36 u4,R3 37 u4,R3 38 u4,R3 39 u4,R3 40 u4,R3 41 u4,R3 42 u4,R3 43 u4,R3 44 u4,R3 45 u4,R3 46 u4,R3 47 u4,R3 48 u4,R3 49 u4,R3 50 u4,R3 51 u4,R3 52 u4,R3 53 u4,R3 54 u4,R3 55 u4,R3 56 u4,R3 57 u4,R3 58 u4,R3 59 u4,R3 60 u4,R3 61 u4,R3 62 u4,R3 63 u4,SV.int .i64 false u4.fst.held,SV.int .u64 false u4.fst.size] 74 239) ∧(IsS u4.fst u4.snd ∧(bytesFrom (fun(u3:Nat)=>if u3=0+(1+(119 - x.held)% 64+(7:Int)).toNat then x.size*8% (18446744073709551616:Int) / (1:Int)% (256:Int)else if u3=0+(1+(119 - x.held)% 64+(6:Int)).toNat then x.size*8% (18446744073709551616:Int) / (256:Int)% (256:Int)else if u3=0+(1+(119 - x.held)% 64+(5:Int)).toNat then x.size*8% (18446744073709551616:Int) / (65536:Int)% (256:Int)else if u3=0+(1+(119 - x.held)% 64+(4:Int)).toNat then x.size*8% (18446744073709551616:Int) / (16777216:Int)% (256:Int)else if u3=0+(1+(119 - x.held)% 64+(3:Int)).toNat then x.size*8% (18446744073709551616:Int) / (4294967296:Int)% (256:Int)else if u3=0+(1+(119 - x.held)% 64+(2:Int)).toNat then x.size*8% (18446744073709551616:Int) / (1099511627776:Int)% (256:Int)else if u3=0+(1+(119 - x.held)% 64+(1:Int)).toNat then x.size*8% (18446744073709551616:Int) / (281474976710656:Int)% (256:Int)else if u3=0+(1+(119 - x.held)% 64+(0:Int)).toNat then x.size*8% (18446744073709551616:Int) / (72057594037927936:Int)% (256:Int)else if u3=0 then 128 else 0) 0 (1+(119 - x.held)% 64+(8:Int)).toNat).length<1152921504606846976) ∧∀(u2:Sh),IsS u2 (u4.snd++bytesFrom (fun(u1:Nat)=>if u1=0+(1+(119 - x.held)% 64+(7:Int)).toNat then x.size*8% (18446744073709551616:Int) / (1:Int)% (256:Int)else if u1=0+(1+(119 - x.held)% 64+(6:Int)).toNat then x.size*8% (18446744073709551616:Int) / (256:Int)% (256:Int)else if u1=0+(1+(119 - x.held)% 64+(5:Int)).toNat then x.size*8% (18446744073709551616:Int) / (65536:Int)% (256:Int)else if u1=0+(1+(119 - x.held)% 64+(4:Int)).toNat then x.size*8% (18446744073709551616:Int) / (16777216:Int)% (256:Int)else if u1=0+(1+(119 - x.held)% 64+(3:Int)).toNat then x.size*8% (18446744073709551616:Int) / (4294967296:Int)% (256:Int)else if u1=0+(1+(119 - x.held)% 64+(2:Int)).toNat then x.size*8% (18446744073709551616:Int) / (1099511627776:Int)% (256:Int)else if u1=0+(1+(119 - x.held)% 64+(1:Int)).toNat then x.size*8% (18446744073709551616:Int) / (281474976710656:Int)% (256:Int)else if u1=0+(1+(119 - x.held)% 64+(0:Int)).toNat then x.size*8% (18446744073709551616:Int) / (72057594037927936:Int)% (256:Int)else if u1=0 then 128 else 0) 0 (1+(119 - x.held)% 64+(8:Int)).toNat) →∃(_u0:Unit),True∧SBle (shSB (x,T)) (shSB (x,T)) ∧sameVal (SV.str (false&&(false&&(false&&(false&&(false&&(false&&(false&&(false&&(false&&(false&&(false&&(false&&(false&&(false&&(false&&(false&&(false&&(false&&(false&&(false&&(false&&(false&&(false&&(false&&(false&&(false&&(false&&(false&&(false&&(false&&(false&&(false&&true)))))))))))))))))))))))))))))))) [UInt8.ofNat (u2.W 0 / 16777216% (256:Int)).toNat,UInt8.ofNat (u2.W 0 / 65536% (256:Int)).toNat,UInt8.ofNat (u2.W 0 / 256% (256:Int)).toNat,UInt8.ofNat (u2.W 0% 256).toNat,UInt8.ofNat (u2.W 1 / 16777216% (256:Int)).toNat,UInt8.ofNat (u2.W 1 / 65536% (256:Int)).toNat,UInt8.ofNat (u2.W 1 / 256% (256:Int)).toNat,UInt8.ofNat (u2.W 1% 256).toNat,UInt8.ofNat (u2.W 2 / 16777216% (256:Int)).toNat,UInt8.ofNat (u2.W 2 / 65536% (256:Int)).toNat,UInt8.ofNat (u2.W 2 / 256% (256:Int)).toNat,UInt8.ofNat (u2.W 2% 256).toNat,UInt8.ofNat (u2.W 3 / 16777216% (256:Int)).toNat,UInt8.ofNat (u2.W 3 / 65536% (256:Int)).toNat,UInt8.ofNat (u2.W 3 / 256% (256:Int)).toNat,UInt8.ofNat (u2.W 3% 256).toNat,UInt8.ofNat (u2.W 4 / 16777216% (256:Int)).toNat,UInt8.ofNat (u2.W 4 / 65536% (256:Int)).toNat,UInt8.ofNat (u2.W 4 / 256% (256:Int)).toNat,UInt8.ofNat (u2.W 4% 256).toNat,UInt8.ofNat (u2.W 5 / 16777216% (256:Int)).toNat,UInt8.ofNat (u2.W 5 / 65536% (256:Int)).toNat,UInt8.ofNat (u2.W 5 / 256% (256:Int)).toNat,UInt8.ofNat (u2.W 5% 256).toNat,UInt8.ofNat (u2.W 6 / 16777216% (256:Int)).toNat,UInt8.ofNat (u2.W 6 / 65536% (256:Int)).toNat,UInt8.ofNat (u2.W 6 / 256% (256:Int)).toNat,UInt8.ofNat (u2.W 6% 256).toNat,UInt8.ofNat (u2.W 7 / 16777216% (256:Int)).toNat,UInt8.ofNat (u2.W 7 / 65536% (256:Int)).toNat,UInt8.ofNat (u2.W 7 / 256% (256:Int)).toNat,UInt8.ofNat (u2.W 7% 256).toNat]) (SV.str false (shaL T))))) (fun(n0:Nat) (u4:Sh×List UInt8)=>SV.int .u8 false (u4.fst.B n0)))) (fun(n0:Nat) (u4:Sh×List UInt8)=>SV.int .u32 false (u4.fst.W n0)))) (fun(n0:Nat)=>SV.int .u8 false (x.B n0)))) (fun(n0:Nat)=>SV.int .u32 false (x.W n0))):=by kernel_rfl
theorem vcOf (n:Nat)(f:Nat→List UInt8)(z:Bool)(o c:Nat)(key:Option Nat):VC.holds (runS (cfgOf n f) 64 Tryz.f64 [.vslc 0 1 z o 0 n c] [⟨key,z,o,n,c,[.str f]⟩] (.ret (.str false (shaL (flat (rowL f 0 n))))))=((fun R0:Nat→SV=>((fun R1:Nat→(Nat×Sh)→SV=>((fun R2:Nat→(Nat×Sh)→SV=>((fun R3:Nat→(Nat×Sh)→SV=>((fun R4:Nat→(Nat×Sh)→SV=>((fun R5:Nat→(Sh×List UInt8)→SV=>((fun R6:Nat→(Sh×List UInt8)→SV=>((fun R7:Nat→(Sh)→SV=>((fun R8:Nat→(Sh)→SV=>((fun R9:Nat→(Nat×Sh)→SV=>((fun R10:Nat→(Nat×Sh)→SV=>((fun R11:Nat→(Sh×List UInt8)→SV=>((fun R12:Nat→(Sh×List UInt8)→SV=>((fun P0:(Nat×Sh)→SB=>(((∃(u6:Nat×Sh),(u6.fst≤n∧IsS u6.snd (flat (rowL f 0 u6.fst)))∧0=(u6.fst:Int) ∧SBle (SB.cells [R0 1779033703,R0 3144134277,R0 1013904242,R0 2773480762,R0 1359893119,R0 2600822924,R0 528734635,R0 1541459225,SV.int .u8 true 0,SV.int .u8 true 0,SV.int .u8 true 0,SV.int .u8 true 0,SV.int .u8 true 0,SV.int .u8 true 0,SV.int .u8 true 0,SV.int .u8 true 0,SV.int .u8 true 0,SV.int .u8 true 0,SV.int .u8 true 0,SV.int .u8 true 0,SV.int .u8 true 0,SV.int .u8 true 0,SV.int .u8 true 0,SV.int .u8 true 0,SV.int .u8 true 0,SV.int .u8 true 0,SV.int .u8 true 0,SV.int .u8 true 0,SV.int .u8 true 0,SV.int .u8 true 0,SV.int .u8 true 0,SV.int .u8 true 0,SV.int .u8 true 0,SV.int .u8 true 0,SV.int .u8 true 0,SV.int .u8 true 0,SV.int .u8 true 0,SV.int .u8 true 0,SV.int .u8 true 0,SV.int .u8 true 0,SV.int .u8 true 0,SV.int .u8 true 0,SV.int .u8 true 0,SV.int .u8 true 0,SV.int .u8 true 0,SV.int .u8 true 0,SV.int .u8 true 0,SV.int .u8 true 0,SV.int .u8 true 0,SV.int .u8 true 0,SV.int .u8 true 0,SV.int .u8 true 0,SV.int .u8 true 0,SV.int .u8 true 0,SV.int .u8 true 0,SV.int .u8 true 0,SV.int .u8 true 0,SV.int .u8 true 0,SV.int .u8 true 0,SV.int .u8 true 0,SV.int .u8 true 0,SV.int .u8 true 0,SV.int .u8 true 0,SV.int .u8 true 0,SV.int .u8 true 0,SV.int .u8 true 0,SV.int .u8 true 0,SV.int .u8 true 0,SV.int .u8 true 0,SV.int .u8 true 0,SV.int .u8 true 0,SV.int .u8 true 0,SV.int .i64 true 0,SV.int .u64 true 0] 74 239) (SB.cells [R1 0 u6,R1 1 u6,R1 2 u6,R1 3 u6,R1 4 u6,R1 5 u6,R1 6 u6,R1 7 u6,R2 0 u6,R2 1 u6,R2 2 u6,R2 3 u6,R2 4 u6,R2 5 u6,R2 6 u6,R2 7 u6,R2 8 u6,R2 9 u6,R2 10 u6,R2 11 u6,R2 12 u6,R2 13 u6,R2 14 u6,R2 15 u6,R2 16 u6,R2 17 u6,R2 18 u6,R2 19 u6,R2 20 u6,R2 21 u6,R2 22 u6,R2 23 u6,R2 24 u6,R2 25 u6,R2 26 u6,R2 27 u6,R2 28 u6,R2 29 u6,R2 30 u6,R2 31 u6,R2 32 u6,R2 33 u6,R2 34 u6,R2 35 u6,R2 36 u6,R2 37 u6,R2 38 u6,R2 39 u6,R2 40 u6,R2 41 u6,R2 42 u6,R2 43 u6,R2 44 u6,R2 45 u6,R2 46 u6,R2 47 u6,R2 48 u6,R2 49 u6,R2 50 u6,R2 51 u6,R2 52 u6,R2 53 u6,R2 54 u6,R2 55 u6,R2 56 u6,R2 57 u6,R2 58 u6,R2 59 u6,R2 60 u6,R2 61 u6,R2 62 u6,R2 63 u6,SV.int .i64 false u6.snd.held,SV.int .u64 false u6.snd.size] 74 239) ∧SBle {key:=key,z:=z,o:=o,n:=n,c:=c,cols:=[Col.str f]:Seen}.B {key:=key,z:=z,o:=o,n:=n,c:=c,cols:=[Col.str f]:Seen}.B∧True)∧∀(u5:Nat×Sh),u5.fst≤n∧IsS u5.snd (flat (rowL f 0 u5.fst))→(decide ((u5.fst:Int)<(n:Int))=true→(0≤(u5.fst:Int)∧(u5.fst:Int)<(n:Int))∧(o=o∧0+(u5.fst:Int).toNat<n) ∧∃(u4:Sh×List UInt8),SBle (P0 u5) (SB.cells [R5 0 u4,R5 1 u4,R5 2 u4,R5 3 u4,R5 4 u4,R5 5 u4,R5 6 u4,R5 7 u4,R6 0 u4,R6 1 u4,R6 2 u4,R6 3 u4,R6 4 u4,R6 5 u4,R6 6 u4,R6 7 u4,R6 8 u4,R6 9 u4,R6 10 u4,R6 11 u4,R6 12 u4,R6 13 u4,R6 14 u4,R6 15 u4,R6 16 u4,R6 17 u4,R6 18 u4,R6 19 u4,R6 20 u4,R6 21 u4,R6 22 u4,R6 23 u4,R6 24 u4,R6 25 u4,R6 26 u4,R6 27 u4,R6 28 u4,R6 29 u4,R6 30 u4,R6 31 u4,R6 32 u4,R6 33 u4,R6 34 u4,R6 35 u4,R6 36 u4,R6 37 u4,R6 38 u4,R6 39 u4,R6 40 u4,R6 41 u4,R6 42 u4,R6 43 u4,R6 44 u4,R6 45 u4,R6 46 u4,R6 47 u4,R6 48 u4,R6 49 u4,R6 50 u4,R6 51 u4,R6 52 u4,R6 53 u4,R6 54 u4,R6 55 u4,R6 56 u4,R6 57 u4,R6 58 u4,R6 59 u4,R6 60 u4,R6 61 u4,R6 62 u4,R6 63 u4,SV.int .i64 false u4.fst.held,SV.int .u64 false u4.fst.size] 74 239)∧(IsS u4.fst u4.snd∧(f (0+(u5.fst:Int).toNat)).length<1152921504606846976)∧∀(u3:Sh),IsS u3 (u4.snd++f (0+(u5.fst:Int).toNat))→((-9223372036854775808:Int)≤(u5.fst:Int)+1∧(u5.fst:Int)+1≤(9223372036854775807:Int))∧∃(u2:Nat×Sh),((u2.fst≤n∧IsS u2.snd (flat (rowL f 0 u2.fst)))∧n - u2.fst<n - u5.fst) ∧(u5.fst:Int)+1=(u2.fst:Int) ∧SBle (SB.cells [R7 0 u3,R7 1 u3,R7 2 u3,R7 3 u3,R7 4 u3,R7 5 u3,R7 6 u3,R7 7 u3,R8 0 u3,R8 1 u3,R8 2 u3,R8 3 u3,R8 4 u3,R8 5 u3,R8 6 u3,R8 7 u3,R8 8 u3,R8 9 u3,R8 10 u3,R8 11 u3,R8 12 u3,R8 13 u3,R8 14 u3,R8 15 u3,R8 16 u3,R8 17 u3,R8 18 u3,R8 19 u3,R8 20 u3,R8 21 u3,R8 22 u3,R8 23 u3,R8 24 u3,R8 25 u3,R8 26 u3,R8 27 u3,R8 28 u3,R8 29 u3,R8 30 u3,R8 31 u3,R8 32 u3,R8 33 u3,R8 34 u3,R8 35 u3,R8 36 u3,R8 37 u3,R8 38 u3,R8 39 u3,R8 40 u3,R8 41 u3,R8 42 u3,R8 43 u3,R8 44 u3,R8 45 u3,R8 46 u3,R8 47 u3,R8 48 u3,R8 49 u3,R8 50 u3,R8 51 u3,R8 52 u3,R8 53 u3,R8 54 u3,R8 55 u3,R8 56 u3,R8 57 u3,R8 58 u3,R8 59 u3,R8 60 u3,R8 61 u3,R8 62 u3,R8 63 u3,SV.int .i64 false u3.held,SV.int .u64 false u3.size] 74 239) (SB.cells [R9 0 u2,R9 1 u2,R9 2 u2,R9 3 u2,R9 4 u2,R9 5 u2,R9 6 u2,R9 7 u2,R10 0 u2,R10 1 u2,R10 2 u2,R10 3 u2,R10 4 u2,R10 5 u2,R10 6 u2,R10 7 u2,R10 8 u2,R10 9 u2,R10 10 u2,R10 11 u2,R10 12 u2,R10 13 u2,R10 14 u2,R10 15 u2,R10 16 u2,R10 17 u2,R10 18 u2,R10 19 u2,R10 20 u2,R10 21 u2,R10 22 u2,R10 23 u2,R10 24 u2,R10 25 u2,R10 26 u2,R10 27 u2,R10 28 u2,R10 29 u2,R10 30 u2,R10 31 u2,R10 32 u2,R10 33 u2,R10 34 u2,R10 35 u2,R10 36 u2,R10 37 u2,R10 38 u2,R10 39 u2,R10 40 u2,R10 41 u2,R10 42 u2,R10 43 u2,R10 44 u2,R10 45 u2,R10 46 u2,R10 47 u2,R10 48 u2,R10 49 u2,R10 50 u2,R10 51 u2,R10 52 u2,R10 53 u2,R10 54 u2,R10 55 u2,R10 56 u2,R10 57 u2,R10 58 u2,R10 59 u2,R10 60 u2,R10 61 u2,R10 62 u2,R10 63 u2,SV.int .i64 false u2.snd.held,SV.int .u64 false u2.snd.size] 74 239) ∧SBle {key:=key,z:=z,o:=o,n:=n,c:=c,cols:=[Col.str f]:Seen}.B {key:=key,z:=z,o:=o,n:=n,c:=c,cols:=[Col.str f]:Seen}.B∧True)∧(decide ((u5.fst:Int)<(n:Int))=false→∃(u1:Sh×List UInt8),SBle (P0 u5) (SB.cells [R11 0 u1,R11 1 u1,R11 2 u1,R11 3 u1,R11 4 u1,R11 5 u1,R11 6 u1,R11 7 u1,R12 0 u1,R12 1 u1,R12 2 u1,R12 3 u1,R12 4 u1,R12 5 u1,R12 6 u1,R12 7 u1,R12 8 u1,R12 9 u1,R12 10 u1,R12 11 u1,R12 12 u1,R12 13 u1,R12 14 u1,R12 15 u1,R12 16 u1,R12 17 u1,R12 18 u1,R12 19 u1,R12 20 u1,R12 21 u1,R12 22 u1,R12 23 u1,R12 24 u1,R12 25 u1,R12 26 u1,R12 27 u1,R12 28 u1,R12 29 u1,R12 30 u1,R12 31 u1,R12 32 u1,R12 33 u1,R12 34 u1,R12 35 u1,R12 36 u1,R12 37 u1,R12 38 u1,R12 39 u1,R12 40 u1,R12 41 u1,R12 42 u1,R12 43 u1,R12 44 u1,R12 45 u1,R12 46 u1,R12 47 u1,R12 48 u1,R12 49 u1,R12 50 u1,R12 51 u1,R12 52 u1,R12 53 u1,R12 54 u1,R12 55 u1,R12 56 u1,R12 57 u1,R12 58 u1,R12 59 u1,R12 60 u1,R12 61 u1,R12 62 u1,R12 63 u1,SV.int .i64 false u1.fst.held,SV.int .u64 false u1.fst.size] 74 239)∧(IsS u1.fst u1.snd∧u1.snd.length<1152921504606846976)∧∀(_u0:Unit),True →sameVal (unkey 1 (SV.str false (shaL u1.snd))) (SV.str false (shaL (flat (rowL f 0 n)))))))) (fun(u5:Nat×Sh)=>(SB.cells [R3 0 u5,R3 1 u5,R3 2 u5,R3 3 u5,R3 4 u5,R3 5 u5,R3 6 u5,R3 7 u5,R4 0 u5,R4 1 u5,R4 2 u5,R4 3 u5,R4 4 u5,R4 5 u5,R4 6 u5,R4 7 u5,R4 8 u5,R4 9 u5,R4 10 u5,R4 11 u5,R4 12 u5,R4 13 u5,R4 14 u5,R4 15 u5,R4 16 u5,R4 17 u5,R4 18 u5,R4 19 u5,R4 20 u5,R4 21 u5,R4 22 u5,R4 23 u5,R4 24 u5,R4 25 u5,R4 26 u5,R4 27 u5,R4 28 u5,R4 29 u5,R4 30 u5,R4 31 u5,R4 32 u5,R4 33 u5,R4 34 u5,R4 35 u5,R4 36 u5,R4 37 u5,R4 38 u5,R4 39 u5,R4 40 u5,R4 41 u5,R4 42 u5,R4 43 u5,R4 44 u5,R4 45 u5,R4 46 u5,R4 47 u5,R4 48 u5,R4 49 u5,R4 50 u5,R4 51 u5,R4 52 u5,R4 53 u5,R4 54 u5,R4 55 u5,R4 56 u5,R4 57 u5,R4 58 u5,R4 59 u5,R4 60 u5,R4 61 u5,R4 62 u5,R4 63 u5,SV.int .i64 false u5.snd.held,SV.int .u64 false u5.snd.size] 74 239)))) (fun(n0:Nat) (u1:Sh×List UInt8)=>SV.int .u8 false (u1.fst.B n0)))) (fun(n0:Nat) (u1:Sh×List UInt8)=>SV.int .u32 false (u1.fst.W n0)))) (fun(n0:Nat) (u2:Nat×Sh)=>SV.int .u8 false (u2.snd.B n0)))) (fun(n0:Nat) (u2:Nat×Sh)=>SV.int .u32 false (u2.snd.W n0)))) (fun(n0:Nat) (u3:Sh)=>SV.int .u8 false (u3.B n0)))) (fun(n0:Nat) (u3:Sh)=>SV.int .u32 false (u3.W n0)))) (fun(n0:Nat) (u4:Sh×List UInt8)=>SV.int .u8 false (u4.fst.B n0)))) (fun(n0:Nat) (u4:Sh×List UInt8)=>SV.int .u32 false (u4.fst.W n0)))) (fun(n0:Nat) (u5:Nat×Sh)=>SV.int .u8 false (u5.snd.B n0)))) (fun(n0:Nat) (u5:Nat×Sh)=>SV.int .u32 false (u5.snd.W n0)))) (fun(n0:Nat) (u6:Nat×Sh)=>SV.int .u8 false (u6.snd.B n0)))) (fun(n0:Nat) (u6:Nat×Sh)=>SV.int .u32 false (u6.snd.W n0)))) (fun(n0:Nat)=>SV.int .u32 true n0)):=by kernel_rfl
end Go.Proofs.YtoalfimkkibpdaaGreatDoor
namespace Go.Proofs.YtoalfimkkibpdaaGreatDoor
open Go Sx
set_option maxRecDepth 20000
theorem tail_eq (z:Nat)(n:Int):bytesFrom (fun(j:Nat)=>if j=0+(1+(z:Int)+7).toNat then n / 1% 256 else if j=0+(1+(z:Int)+6).toNat then n / 256% 256 else if j=0+(1+(z:Int)+5).toNat then n / 65536% 256 else if j=0+(1+(z:Int)+4).toNat then n / 16777216% 256 else if j=0+(1+(z:Int)+3).toNat then n / 4294967296% 256 else if j=0+(1+(z:Int)+2).toNat then n / 1099511627776% 256 else if j=0+(1+(z:Int)+1).toNat then n / 281474976710656% 256 else if j=0+(1+(z:Int)+0).toNat then n / 72057594037927936% 256 else if j=0 then 128 else 0) 0 (1+(z:Int)+8).toNat
  = 128::(List.replicate z 0++sizeB n):=by
 rw[show(1+(z:Int)+8).toNat=z+9 by omega,show 0+(1+(z:Int)+7).toNat=z+8 by omega,show 0+(1+(z:Int)+6).toNat=z+7 by omega,show 0+(1+(z:Int)+5).toNat=z+6 by omega,
  show 0+(1+(z:Int)+4).toNat=z+5 by omega,show 0+(1+(z:Int)+3).toNat=z+4 by omega,show 0+(1+(z:Int)+2).toNat=z+3 by omega,show 0+(1+(z:Int)+1).toNat=z+2 by omega,show 0+(1+(z:Int)+0).toNat=z+1 by omega]
 apply List.ext_getElem?
 intro i
 unfold bytesFrom
 rw[List.getElem?_map]
 by_cases hi:i<z+9
 ·rw[List.getElem?_range hi]
  simp only[Option.map_some,Nat.zero_add]
  cases i with
  | zero =>
    rw[if_neg (by omega),if_neg (by omega),if_neg (by omega),if_neg (by omega),if_neg (by omega),if_neg (by omega),if_neg (by omega),if_neg (by omega),if_pos rfl];rfl
  | succ i =>
    rw[List.getElem?_cons_succ]
    by_cases hz:i<z
    ·rw[List.getElem?_append_left (by simpa using hz),List.getElem?_replicate,if_pos hz,if_neg (by omega),if_neg (by omega),if_neg (by omega),if_neg (by omega),if_neg (by omega),if_neg (by omega),if_neg (by omega),if_neg (by omega),if_neg (by omega)];rfl
    ·rw[List.getElem?_append_right (by simp;omega),List.length_replicate]
     obtain⟨k,rfl⟩: ∃ k,i=z+k:=⟨i - z,by omega⟩
     rw[Nat.add_sub_cancel_left]
     have hk:k=0∨k=1∨k=2∨k=3∨k=4∨k=5∨k=6∨k=7:=by omega
     rcases hk with rfl | rfl | rfl | rfl | rfl | rfl | rfl | rfl
     ·rw[if_neg (by omega),if_neg (by omega),if_neg (by omega),if_neg (by omega),if_neg (by omega),if_neg (by omega),if_neg (by omega),if_pos (by omega)];rfl
     ·rw[if_neg (by omega),if_neg (by omega),if_neg (by omega),if_neg (by omega),if_neg (by omega),if_neg (by omega),if_pos (by omega)];rfl
     ·rw[if_neg (by omega),if_neg (by omega),if_neg (by omega),if_neg (by omega),if_neg (by omega),if_pos (by omega)];rfl
     ·rw[if_neg (by omega),if_neg (by omega),if_neg (by omega),if_neg (by omega),if_pos (by omega)];rfl
     ·rw[if_neg (by omega),if_neg (by omega),if_neg (by omega),if_pos (by omega)];rfl
     ·rw[if_neg (by omega),if_neg (by omega),if_pos (by omega)];rfl
     ·rw[if_neg (by omega),if_pos (by omega)];rfl
     ·rw[if_pos (by omega)];rfl
 ·rw[List.getElem?_eq_none (by simpa using hi),List.getElem?_eq_none (by simp[sizeB];omega)];rfl
theorem tailL_len (T:List UInt8):(tailL T).length<100:=by
 simp only[tailL,sizeB,List.length_cons,List.length_append,List.length_replicate,List.length_nil,zerosN];omega
theorem sum_holds {x:Sh} {T:List UInt8} (hx:IsS x T)(_hT:T.length<1152921504606846976) :
  Holds (runBox cfgS4 101 Tryz.f101 [.ptr 0 true 0] shSB (x,T) (fun _:Unit=>(True,.str false (shaL T),(x,T)))):=by
 refine Holds.of_eq (vcSum x T) ?_
 dsimp only
 have hh:=hx.1.h
 have hz:(119 - x.held)% 64=(zerosN T:Int):=by rw[hh];unfold zerosN;omega
 have hl:zerosN T<64:=Nat.mod_lt _ (by decide)
 have hb:x.held<64∧0≤x.held:=by omega
 have hs:=hx.2
 have ht:tailL T=128::(List.replicate (zerosN T) 0++sizeB (x.size*8% 18446744073709551616)):=by rw[hs];rfl
 rw[hz]
 refine⟨by omega,by omega,by omega,by omega,by omega,by omega,by omega,by omega,by omega,by omega,by omega,by omega,by omega,by omega,by omega,by omega,by omega,by omega,by omega,by omega,by omega,by omega,by omega,by omega,by omega,by omega,by omega,by omega,by omega,by omega,by omega,by omega,by omega,by omega,by omega,by omega,by omega,by omega,by omega,by omega,(x,T),SBle.refl _,⟨hx,?_⟩,fun y hy=>⟨(),trivial,SBle.refl _,?_⟩⟩
 ·rw[tail_eq,← ht]
  have:=tailL_len T
  omega
 ·rw[tail_eq,← ht] at hy
  have hy:IsS y (padT T):=hy
  have w:=hy.1.w
  refine str_same ?_
  unfold shaL outW
  rw[← w 0 (by decide),← w 1 (by decide),← w 2 (by decide),← w 3 (by decide),← w 4 (by decide),← w 5 (by decide),← w 6 (by decide),← w 7 (by decide)]
theorem sum_ok:CallOk Tryz.prog 101 (boxPT shSB sumSpec):=by
 refine box_ok (n:=20) (fn:=Tryz.f101) Tryz.func101 (by kernel_rfl) (by kernel_rfl) shSB_ok ?_
 intro args g x h hp
 unfold sumSpec at h
 split at h
 ·injection h with h;subst h
  obtain⟨x,T⟩:=x
  exact⟨cfgS4,[.ptr 0 true 0],goodS4,fun E=>rfl,rfl,fun _=>rfl,sum_holds hp.1 hp.2⟩
 ·cases h
theorem listS5_ok:SummOk Tryz.prog (fun f=>lookPT f listS5):=.cons sum_ok (boxPT_mono _ _) listS4_ok
theorem goodOf (n:Nat)(f:Nat→List UInt8):Sx.Good Tryz.prog (cfgOf n f):=⟨mixes,listS5_ok,fns_ok⟩
theorem isS_new:IsS ⟨hash0,fun _=>0,0,0⟩ []:=by
 refine⟨⟨⟨by decide,fun j _=>by show(0:Int)≤0∧(0:Int)≤255;decide⟩,fun j _=>rfl,fun j hj=>absurd hj (Nat.not_lt_zero _),rfl⟩,rfl⟩
theorem flat_snocR (f:Nat→List UInt8)(i:Nat):flat (rowL f 0 (i+1))=flat (rowL f 0 i)++f i:=by
 unfold flat rowL
 rw[List.range_succ]
 simp
theorem flat_rowR_le (f:Nat→List UInt8): ∀ {i n:Nat},i≤n→(flat (rowL f 0 i)).length≤(flat (rowL f 0 n)).length:=by
 intro i n h
 induction n with
 | zero=>obtain rfl:i=0:=by omega
         exact Nat.le_refl _
 | succ n ih =>
   by_cases e:i=n+1
   ·subst e;exact Nat.le_refl _
   ·have:=ih (by omega)
    rw[flat_snocR,List.length_append];omega
theorem of_holds (n:Nat)(f:Nat→List UInt8)(z:Bool)(o c:Nat)(key:Option Nat)(h:(flat (rowL f 0 n)).length<1152921504606846976)(hn:n<1152921504606846976) :
  Holds (runS (cfgOf n f) 64 Tryz.f64 [.vslc 0 1 z o 0 n c] [⟨key,z,o,n,c,[.str f]⟩] (.ret (.str false (shaL (flat (rowL f 0 n)))))):=by
 refine Holds.of_eq (vcOf n f z o c key) ?_
 dsimp only
 refine⟨⟨(0,⟨hash0,fun _=>0,0,0⟩),⟨Nat.zero_le _,isS_new⟩,rfl,Sx.SBle.cells (fun E=>rfl) rfl,SBle.refl _,trivial⟩,fun g hg=>⟨fun a=> ?_,fun a=> ?_⟩⟩
 ·have a:=of_decide_eq_true a
  have h1:=flat_rowR_le f (i:=g.1+1) (n:=n) (by omega)
  rw[flat_snocR,List.length_append] at h1
  rw[Int.toNat_natCast,Nat.zero_add]
  refine⟨by omega,⟨rfl,by omega⟩,(g.2,flat (rowL f 0 g.1)),SBle.refl _,⟨hg.2,by omega⟩,fun y hy=>⟨by omega,(g.1+1,y),⟨⟨by show g.1+1≤n;omega,?_⟩,by show n - (g.1+1)<n - g.1;omega⟩,by show(g.1:Int)+1=((g.1+1:Nat):Int);omega,SBle.refl _,SBle.refl _,trivial⟩⟩
  show IsS y (flat (rowL f 0 (g.1+1)))
  rw[flat_snocR];exact hy
 ·have a:=of_decide_eq_false a
  have hg1:=hg.1
  have e:g.1=n:=by omega
  refine⟨(g.2,flat (rowL f 0 g.1)),SBle.refl _,⟨hg.2,by rw[e];exact h⟩,fun _ _=> ?_⟩
  rw[e];exact fun _=>rfl
theorem of_ok:CallOk Tryz.prog 64 (strsPT ofQ ofG):=by
 refine strs_ok (ansV_ok (n:=20) (fn:=Tryz.f64) Tryz.func64 (by kernel_rfl) (by kernel_rfl) ?_)
 intro vs l q a h hq
 unfold strsSpec at h
 split at h
 ·rename_i n f r hx
  obtain⟨z,o,c,key⟩:=r
  injection h with h;injection h with h1 h2;subst h1;subst h2
  obtain⟨e1,e2⟩:=rowOf_eq hx
  rw[e1,e2]
  exact⟨_,goodOf n f,rfl,rfl,of_holds n f z o c key hq.1 (by have:=hq.2;rwa [rowL_len] at this)⟩
 ·cases h
end Go.Proofs.YtoalfimkkibpdaaGreatDoor
namespace Go.Proofs.YtoalfimkkibpdaaGreatDoor
open Go Sx
set_option maxRecDepth 20000
noncomputable def listF1:List (FuncId×PT):=(64,strsPT ofQ ofG)::(136,ansPT (inlSpec 9223372036854775808))::(130,ansPT (getSpec' 9223372036854775808))::listN8 9223372036854775808
theorem listF1_ok:SummOk Tryz.prog (fun f=>lookPT f listF1):=.cons of_ok (strsPT_mono _ _) (.cons (inline_all _) (ansPT_mono _) (.cons (nodeGet_ok (inline_all _)) (ansPT_mono _) (listN8_ok (inline_all _))))
noncomputable def cfgF1:Cfg:={cfg0 with summ:=fun f=>lookPT f listF1}
theorem goodF1:Sx.Good Tryz.prog cfgF1:=⟨mixes,listF1_ok,fns_ok⟩
def putA (x:Nd):Ans:=.fork (validB x) fun b=>match b with
 | true=>.ret (.tup [.str false (putT x),.int .i64 true 0])
 | false=>.ret (.tup [.str true [],.int .i64 true 1])
def ndSpecA (g:Nd→Option (Prop×Ans)):List SV→Option (Prop×Ans)
 | [.agg l]=>(match ndOf l with
   | some x=>g x
   | none=>none)
 | _=>none
theorem ndSpecA_eq {g:Nd→Option (Prop×Ans)} {args:List SV} {p:Prop} {v:Ans} (h:ndSpecA g args=some (p,v)): ∃ x,args=[x.sv]∧g x=some (p,v):=by
 unfold ndSpecA at h
 split at h
 ·split at h
  ·rename_i x hx
   exact⟨x,by rw[ndOf_eq hx],h⟩
  ·cases h
 ·cases h
def refL (s:List UInt8):List UInt8:=if s.length<32 then s else textOf (shaL s)
def hashN (r:Nat→List UInt8):Nat→Nat
 | 0=>0
 | i+1=>bif hashB (r i)then hashN r i+1 else hashN r i
def hashAt (r:Nat→List UInt8):Nat→Nat→List UInt8
 | 0=>fun _=>[]
 | i+1=>fun j=>bif hashB (r i)then(if j=hashN r i then cutIn (r i)else hashAt r i j)else hashAt r i j
def Near:Nat→Nd→Prop
 | 0,_=>False
 | L+1,x=>∀ j,j<16→x.r j=[]∨((x.r j).length<L∧(x.r j).length<32)
def nearSpec (L:Nat):List SV→Option (Prop×SV):=ndSpec fun x=>some (Near L x,.nilslc)
noncomputable def annNear:LoopAnn :=
 {α:=Nat,pre:=fun _ i=>i≤16,mea:=fun _ i=>16 - i,fresh:=0,slots:=fun _ i=>[(7,.int .i64 false i)],mem:=fun _ _=>[]}
noncomputable def cfgNear (L:Nat):Cfg:={cfg0 with summ:=fun f=>lookPT f ((131,purePT (nearSpec L))::listF1),anns:=fun f=>if f=192 then [(1,always annNear)] else []}
noncomputable def annHs (x:Nd):LoopAnn :=
 {α:=Nat×Nat,pre:=fun _ g=>g.1≤16∧hashN x.r g.1≤g.2,mea:=fun _ g=>16 - g.1,fresh:=1,slots:=fun _ g=>[(7,.int .i64 false g.1)],
  mem:=fun st g=>[(1,.cells [.rslc st.nx 1 true 0 (hashN x.r g.1) g.2] 1 22),(st.nx,.rows true (hashN x.r g.1) [.str (hashAt x.r g.1)] false g.2 9)]}
noncomputable def cfgHs (x:Nd):Cfg:={cfg0 with summ:=fun f=>lookPT f ((131,purePT (nearSpec 64))::listF1),anns:=fun f=>if f=192 then [(1,always (annHs x))] else []}
def hashesA (x:Nd):Ans:=.fork (validB x) fun b=>match b with
 | true=>.all Nat fun c=>.req (hashN x.r 16≤c) (.new (fun k=>.rslc k 1 true 0 (hashN x.r 16) c) (.rows true (hashN x.r 16) [.str (hashAt x.r 16)] false c 9))
 | false=>.ret .nilslc
end Go.Proofs.YtoalfimkkibpdaaGreatDoor
namespace Go.Proofs.YtoalfimkkibpdaaGreatDoor
open Go Sx
set_option maxRecDepth 20000
theorem vcNodePut (x:Nd):VC.holds (runA cfgF1 127 Tryz.f127 [x.sv] (putA x))=((RelR 9223372036854775808 fun(i:Nat)=>[x.r 0,x.r 1,x.r 2,x.r 3,x.r 4,x.r 5,x.r 6,x.r 7,x.r 8,x.r 9,x.r 10,x.r 11,x.r 12,x.r 13,x.r 14,x.r 15].getD i []) ∧((!validB {k:=x.k,p:=x.p,v:=x.v,r:=fun(i:Nat)=>[x.r 0,x.r 1,x.r 2,x.r 3,x.r 4,x.r 5,x.r 6,x.r 7,x.r 8,x.r 9,x.r 10,x.r 11,x.r 12,x.r 13,x.r 14,x.r 15].getD i []:Nd})=true →(validB x=true →sameVal (SV.tup [SV.str true [],SV.int .i64 true 1]) (SV.tup [SV.str false (putT x),SV.int .i64 true 0])) ∧(validB x=false →sameVal (SV.tup [SV.str true [],SV.int .i64 true 1]) (SV.tup [SV.str true [],SV.int .i64 true 1]))) ∧((!validB {k:=x.k,p:=x.p,v:=x.v,r:=fun(i:Nat)=>[x.r 0,x.r 1,x.r 2,x.r 3,x.r 4,x.r 5,x.r 6,x.r 7,x.r 8,x.r 9,x.r 10,x.r 11,x.r 12,x.r 13,x.r 14,x.r 15].getD i []:Nd})=false →(((0:Int)≤x.k ∧x.k≤(3:Int)) ∧{k:=x.k,p:=x.p,v:=x.v,r:=fun(i:Nat)=>[x.r 0,x.r 1,x.r 2,x.r 3,x.r 4,x.r 5,x.r 6,x.r 7,x.r 8,x.r 9,x.r 10,x.r 11,x.r 12,x.r 13,x.r 14,x.r 15].getD i []:Nd}.Few) ∧(validB x=true →sameVal (SV.tup [SV.str false (putT {k:=x.k,p:=x.p,v:=x.v,r:=fun(i:Nat)=>[x.r 0,x.r 1,x.r 2,x.r 3,x.r 4,x.r 5,x.r 6,x.r 7,x.r 8,x.r 9,x.r 10,x.r 11,x.r 12,x.r 13,x.r 14,x.r 15].getD i []:Nd}),SV.int .i64 true 0]) (SV.tup [SV.str false (putT x),SV.int .i64 true 0])) ∧(validB x=false →sameVal (SV.tup [SV.str false (putT {k:=x.k,p:=x.p,v:=x.v,r:=fun(i:Nat)=>[x.r 0,x.r 1,x.r 2,x.r 3,x.r 4,x.r 5,x.r 6,x.r 7,x.r 8,x.r 9,x.r 10,x.r 11,x.r 12,x.r 13,x.r 14,x.r 15].getD i []:Nd}),SV.int .i64 true 0]) (SV.tup [SV.str true [],SV.int .i64 true 1])))):=by kernel_rfl
theorem vcRef (s:List UInt8)(R:SV→Prop):VC.holds (runP cfgF1 159 Tryz.f159 [.str false s] R)=((decide ((↑s.length:Int)<(32:Int))=true →R (SV.str false s)) ∧(decide ((↑s.length:Int)<(32:Int))=false →(True ∧ofQ [s]) ∧(32:Nat)<(1152921504606846976:Nat) ∧R (SV.str false (textOf (shaL (flat [s])))))):=by kernel_rfl
theorem vcNear (L:Nat)(x:Nd)(R:SV→Prop):VC.holds (runP (cfgNear L) 131 Tryz.f131 [x.sv] R)=((fun Q0:SB=>((RelR 9223372036854775808 fun(i:Nat)=>[x.r 0,x.r 1,x.r 2,x.r 3,x.r 4,x.r 5,x.r 6,x.r 7,x.r 8,x.r 9,x.r 10,x.r 11,x.r 12,x.r 13,x.r 14,x.r 15].getD i []) ∧((!validB {k:=x.k,p:=x.p,v:=x.v,r:=fun(i:Nat)=>[x.r 0,x.r 1,x.r 2,x.r 3,x.r 4,x.r 5,x.r 6,x.r 7,x.r 8,x.r 9,x.r 10,x.r 11,x.r 12,x.r 13,x.r 14,x.r 15].getD i []:Nd})=true →R SV.nilslc) ∧((!validB {k:=x.k,p:=x.p,v:=x.v,r:=fun(i:Nat)=>[x.r 0,x.r 1,x.r 2,x.r 3,x.r 4,x.r 5,x.r 6,x.r 7,x.r 8,x.r 9,x.r 10,x.r 11,x.r 12,x.r 13,x.r 14,x.r 15].getD i []:Nd})=false →∀(R_1:Loop),(∃(y:Nat),y≤(16:Nat) ∧(0:Int)=(↑y:Int) ∧SBle (SB.loop LoopState.ready none R_1) (SB.loop LoopState.ready none R_1) ∧SBle Q0 Q0 ∧SBle (SB.cells SV.nilslc.cells 1 22) (SB.cells SV.nilslc.cells 1 22) ∧SBle (SB.cells x.sv.cells 19 116) (SB.cells x.sv.cells 19 116) ∧True) ∧∀(x_2:Nat),x_2≤(16:Nat) →(decide ((↑x_2:Int)<(16:Int))=true →((0:Int)≤(↑x_2:Int) ∧(↑x_2:Int)<(16:Int) ∧(↑x_2:Int)<(↑(16:Nat):Int)) ∧((!decide (selS [x.r 0,x.r 1,x.r 2,x.r 3,x.r 4,x.r 5,x.r 6,x.r 7,x.r 8,x.r 9,x.r 10,x.r 11,x.r 12,x.r 13,x.r 14,x.r 15] (↑x_2:Int).toNat=[]))=true →R_1=R_1 ∧(selS [x.r 0,x.r 1,x.r 2,x.r 3,x.r 4,x.r 5,x.r 6,x.r 7,x.r 8,x.r 9,x.r 10,x.r 11,x.r 12,x.r 13,x.r 14,x.r 15] (↑x_2:Int).toNat).length<(9223372036854775808:Nat) ∧(hashB (selS [x.r 0,x.r 1,x.r 2,x.r 3,x.r 4,x.r 5,x.r 6,x.r 7,x.r 8,x.r 9,x.r 10,x.r 11,x.r 12,x.r 13,x.r 14,x.r 15] (↑x_2:Int).toNat)=true →∀(c:Nat),(1:Nat)≤c →((-9223372036854775808:Int)≤(↑x_2:Int)+(1:Int) ∧(↑x_2:Int)+(1:Int)≤(9223372036854775807:Int)) ∧∃(y:Nat),(y≤(16:Nat) ∧(16:Nat) - y<(16:Nat) - x_2) ∧(↑x_2:Int)+(1:Int)=(↑y:Int) ∧SBle (SB.loop LoopState.ready none R_1) (SB.loop LoopState.ready none R_1) ∧SBle Q0 Q0 ∧SBle (SB.cells [SV.slc ((0:Nat)+(1:Nat)+(1:Nat)+(1:Nat)+(1:Nat)+(0:Nat)+(1:Nat)) 0 1 false c] 1 22) (SB.cells [SV.nilslc] 1 22) ∧SBle (SB.cells x.sv.cells 19 116) (SB.cells x.sv.cells 19 116) ∧True) ∧(hashB (selS [x.r 0,x.r 1,x.r 2,x.r 3,x.r 4,x.r 5,x.r 6,x.r 7,x.r 8,x.r 9,x.r 10,x.r 11,x.r 12,x.r 13,x.r 14,x.r 15] (↑x_2:Int).toNat)=false →Rel 9223372036854775808 (selS [x.r 0,x.r 1,x.r 2,x.r 3,x.r 4,x.r 5,x.r 6,x.r 7,x.r 8,x.r 9,x.r 10,x.r 11,x.r 12,x.r 13,x.r 14,x.r 15] (↑x_2:Int).toNat) ∧(inlB (selS [x.r 0,x.r 1,x.r 2,x.r 3,x.r 4,x.r 5,x.r 6,x.r 7,x.r 8,x.r 9,x.r 10,x.r 11,x.r 12,x.r 13,x.r 14,x.r 15] (↑x_2:Int).toNat)=true →Near L {k:=(getD (selS [x.r 0,x.r 1,x.r 2,x.r 3,x.r 4,x.r 5,x.r 6,x.r 7,x.r 8,x.r 9,x.r 10,x.r 11,x.r 12,x.r 13,x.r 14,x.r 15] (↑x_2:Int).toNat)).k,p:=(getD (selS [x.r 0,x.r 1,x.r 2,x.r 3,x.r 4,x.r 5,x.r 6,x.r 7,x.r 8,x.r 9,x.r 10,x.r 11,x.r 12,x.r 13,x.r 14,x.r 15] (↑x_2:Int).toNat)).p,v:=(getD (selS [x.r 0,x.r 1,x.r 2,x.r 3,x.r 4,x.r 5,x.r 6,x.r 7,x.r 8,x.r 9,x.r 10,x.r 11,x.r 12,x.r 13,x.r 14,x.r 15] (↑x_2:Int).toNat)).v,r:=fun(i:Nat)=>[(getD (selS [x.r 0,x.r 1,x.r 2,x.r 3,x.r 4,x.r 5,x.r 6,x.r 7,x.r 8,x.r 9,x.r 10,x.r 11,x.r 12,x.r 13,x.r 14,x.r 15] (↑x_2:Int).toNat)).r 0,(getD (selS [x.r 0,x.r 1,x.r 2,x.r 3,x.r 4,x.r 5,x.r 6,x.r 7,x.r 8,x.r 9,x.r 10,x.r 11,x.r 12,x.r 13,x.r 14,x.r 15] (↑x_2:Int).toNat)).r 1,(getD (selS [x.r 0,x.r 1,x.r 2,x.r 3,x.r 4,x.r 5,x.r 6,x.r 7,x.r 8,x.r 9,x.r 10,x.r 11,x.r 12,x.r 13,x.r 14,x.r 15] (↑x_2:Int).toNat)).r 2,(getD (selS [x.r 0,x.r 1,x.r 2,x.r 3,x.r 4,x.r 5,x.r 6,x.r 7,x.r 8,x.r 9,x.r 10,x.r 11,x.r 12,x.r 13,x.r 14,x.r 15] (↑x_2:Int).toNat)).r 3,(getD (selS [x.r 0,x.r 1,x.r 2,x.r 3,x.r 4,x.r 5,x.r 6,x.r 7,x.r 8,x.r 9,x.r 10,x.r 11,x.r 12,x.r 13,x.r 14,x.r 15] (↑x_2:Int).toNat)).r 4,(getD (selS [x.r 0,x.r 1,x.r 2,x.r 3,x.r 4,x.r 5,x.r 6,x.r 7,x.r 8,x.r 9,x.r 10,x.r 11,x.r 12,x.r 13,x.r 14,x.r 15] (↑x_2:Int).toNat)).r 5,(getD (selS [x.r 0,x.r 1,x.r 2,x.r 3,x.r 4,x.r 5,x.r 6,x.r 7,x.r 8,x.r 9,x.r 10,x.r 11,x.r 12,x.r 13,x.r 14,x.r 15] (↑x_2:Int).toNat)).r 6,(getD (selS [x.r 0,x.r 1,x.r 2,x.r 3,x.r 4,x.r 5,x.r 6,x.r 7,x.r 8,x.r 9,x.r 10,x.r 11,x.r 12,x.r 13,x.r 14,x.r 15] (↑x_2:Int).toNat)).r 7,(getD (selS [x.r 0,x.r 1,x.r 2,x.r 3,x.r 4,x.r 5,x.r 6,x.r 7,x.r 8,x.r 9,x.r 10,x.r 11,x.r 12,x.r 13,x.r 14,x.r 15] (↑x_2:Int).toNat)).r 8,(getD (selS [x.r 0,x.r 1,x.r 2,x.r 3,x.r 4,x.r 5,x.r 6,x.r 7,x.r 8,x.r 9,x.r 10,x.r 11,x.r 12,x.r 13,x.r 14,x.r 15] (↑x_2:Int).toNat)).r 9,(getD (selS [x.r 0,x.r 1,x.r 2,x.r 3,x.r 4,x.r 5,x.r 6,x.r 7,x.r 8,x.r 9,x.r 10,x.r 11,x.r 12,x.r 13,x.r 14,x.r 15] (↑x_2:Int).toNat)).r 10,(getD (selS [x.r 0,x.r 1,x.r 2,x.r 3,x.r 4,x.r 5,x.r 6,x.r 7,x.r 8,x.r 9,x.r 10,x.r 11,x.r 12,x.r 13,x.r 14,x.r 15] (↑x_2:Int).toNat)).r 11,(getD (selS [x.r 0,x.r 1,x.r 2,x.r 3,x.r 4,x.r 5,x.r 6,x.r 7,x.r 8,x.r 9,x.r 10,x.r 11,x.r 12,x.r 13,x.r 14,x.r 15] (↑x_2:Int).toNat)).r 12,(getD (selS [x.r 0,x.r 1,x.r 2,x.r 3,x.r 4,x.r 5,x.r 6,x.r 7,x.r 8,x.r 9,x.r 10,x.r 11,x.r 12,x.r 13,x.r 14,x.r 15] (↑x_2:Int).toNat)).r 13,(getD (selS [x.r 0,x.r 1,x.r 2,x.r 3,x.r 4,x.r 5,x.r 6,x.r 7,x.r 8,x.r 9,x.r 10,x.r 11,x.r 12,x.r 13,x.r 14,x.r 15] (↑x_2:Int).toNat)).r 14,(getD (selS [x.r 0,x.r 1,x.r 2,x.r 3,x.r 4,x.r 5,x.r 6,x.r 7,x.r 8,x.r 9,x.r 10,x.r 11,x.r 12,x.r 13,x.r 14,x.r 15] (↑x_2:Int).toNat)).r 15].getD i []:Nd} ∧some (SB.cells SV.nilslc.cells 1 22)=some (SB.cells SV.nilslc.cells 1 22) ∧((-9223372036854775808:Int)≤(↑x_2:Int)+(1:Int) ∧(↑x_2:Int)+(1:Int)≤(9223372036854775807:Int)) ∧∃(y:Nat),(y≤(16:Nat) ∧(16:Nat) - y<(16:Nat) - x_2) ∧(↑x_2:Int)+(1:Int)=(↑y:Int) ∧SBle (SB.loop LoopState.ready none R_1) (SB.loop LoopState.ready none R_1) ∧SBle Q0 Q0 ∧SBle (SB.cells [SV.nilslc] 1 22) (SB.cells [SV.nilslc] 1 22) ∧SBle (SB.cells x.sv.cells 19 116) (SB.cells x.sv.cells 19 116) ∧True) ∧(inlB (selS [x.r 0,x.r 1,x.r 2,x.r 3,x.r 4,x.r 5,x.r 6,x.r 7,x.r 8,x.r 9,x.r 10,x.r 11,x.r 12,x.r 13,x.r 14,x.r 15] (↑x_2:Int).toNat)=false →Near L {k:=(0:Int),p:=[],v:=[],r:=fun(i:Nat)=>[[],[],[],[],[],[],[],[],[],[],[],[],[],[],[],[]].getD i []:Nd} ∧some (SB.cells SV.nilslc.cells 1 22)=some (SB.cells SV.nilslc.cells 1 22) ∧((-9223372036854775808:Int)≤(↑x_2:Int)+(1:Int) ∧(↑x_2:Int)+(1:Int)≤(9223372036854775807:Int)) ∧∃(y:Nat),(y≤(16:Nat) ∧(16:Nat) - y<(16:Nat) - x_2) ∧(↑x_2:Int)+(1:Int)=(↑y:Int) ∧SBle (SB.loop LoopState.ready none R_1) (SB.loop LoopState.ready none R_1) ∧SBle Q0 Q0 ∧SBle (SB.cells [SV.nilslc] 1 22) (SB.cells [SV.nilslc] 1 22) ∧SBle (SB.cells x.sv.cells 19 116) (SB.cells x.sv.cells 19 116) ∧True))) ∧((!decide (selS [x.r 0,x.r 1,x.r 2,x.r 3,x.r 4,x.r 5,x.r 6,x.r 7,x.r 8,x.r 9,x.r 10,x.r 11,x.r 12,x.r 13,x.r 14,x.r 15] (↑x_2:Int).toNat=[]))=false →((-9223372036854775808:Int)≤(↑x_2:Int)+(1:Int) ∧(↑x_2:Int)+(1:Int)≤(9223372036854775807:Int)) ∧∃(y:Nat),(y≤(16:Nat) ∧(16:Nat) - y<(16:Nat) - x_2) ∧(↑x_2:Int)+(1:Int)=(↑y:Int) ∧SBle (SB.loop LoopState.ready none R_1) (SB.loop LoopState.ready none R_1) ∧SBle Q0 Q0 ∧SBle (SB.cells SV.nilslc.cells 1 22) (SB.cells SV.nilslc.cells 1 22) ∧SBle (SB.cells x.sv.cells 19 116) (SB.cells x.sv.cells 19 116) ∧True)) ∧(decide ((↑x_2:Int)<(16:Int))=false →R SV.nilslc)))) (SB.cells (SV.agg [SV.int .i64 false x.k,SV.str false x.p,SV.str false x.v,SV.str false (x.r 0),SV.str false (x.r 1),SV.str false (x.r 2),SV.str false (x.r 3),SV.str false (x.r 4),SV.str false (x.r 5),SV.str false (x.r 6),SV.str false (x.r 7),SV.str false (x.r 8),SV.str false (x.r 9),SV.str false (x.r 10),SV.str false (x.r 11),SV.str false (x.r 12),SV.str false (x.r 13),SV.str false (x.r 14),SV.str false (x.r 15)]).cells 19 259)):=by kernel_rfl
theorem vcHashes (x:Nd):VC.holds (runA (cfgHs x) 131 Tryz.f131 [x.sv] (hashesA x))=((fun Q0:SB=>((RelR 9223372036854775808 fun(i:Nat)=>[x.r 0,x.r 1,x.r 2,x.r 3,x.r 4,x.r 5,x.r 6,x.r 7,x.r 8,x.r 9,x.r 10,x.r 11,x.r 12,x.r 13,x.r 14,x.r 15].getD i []) ∧((!validB {k:=x.k,p:=x.p,v:=x.v,r:=fun(i:Nat)=>[x.r 0,x.r 1,x.r 2,x.r 3,x.r 4,x.r 5,x.r 6,x.r 7,x.r 8,x.r 9,x.r 10,x.r 11,x.r 12,x.r 13,x.r 14,x.r 15].getD i []:Nd})=true →(validB x=true →∃(x_3:Nat),hashN x.r (16:Nat)≤x_3 ∧False) ∧(validB x=false →sameVal SV.nilslc SV.nilslc)) ∧((!validB {k:=x.k,p:=x.p,v:=x.v,r:=fun(i:Nat)=>[x.r 0,x.r 1,x.r 2,x.r 3,x.r 4,x.r 5,x.r 6,x.r 7,x.r 8,x.r 9,x.r 10,x.r 11,x.r 12,x.r 13,x.r 14,x.r 15].getD i []:Nd})=false →∀(R:Loop),(∃(y:Nat×Nat),(y.fst≤(16:Nat) ∧hashN x.r y.fst≤y.snd) ∧(0:Int)=(↑y.fst:Int) ∧(1:Nat)=(1:Nat) ∧hashN x.r y.fst=(0:Nat) ∧(SB.rows true (hashN x.r y.fst) [Col.str (hashAt x.r y.fst)] false y.snd 9).no=true ∧SBle (SB.loop LoopState.ready none R) (SB.loop LoopState.ready none R) ∧SBle Q0 Q0 ∧SBle (SB.cells x.sv.cells 19 116) (SB.cells x.sv.cells 19 116) ∧True) ∧∀(x_2:Nat×Nat),x_2.fst≤(16:Nat) ∧hashN x.r x_2.fst≤x_2.snd →(decide ((↑x_2.fst:Int)<(16:Int))=true →((0:Int)≤(↑x_2.fst:Int) ∧(↑x_2.fst:Int)<(16:Int) ∧(↑x_2.fst:Int)<(↑(16:Nat):Int)) ∧((!decide (selS [x.r 0,x.r 1,x.r 2,x.r 3,x.r 4,x.r 5,x.r 6,x.r 7,x.r 8,x.r 9,x.r 10,x.r 11,x.r 12,x.r 13,x.r 14,x.r 15] (↑x_2.fst:Int).toNat=[]))=true →R=R ∧(selS [x.r 0,x.r 1,x.r 2,x.r 3,x.r 4,x.r 5,x.r 6,x.r 7,x.r 8,x.r 9,x.r 10,x.r 11,x.r 12,x.r 13,x.r 14,x.r 15] (↑x_2.fst:Int).toNat).length<(9223372036854775808:Nat) ∧(hashB (selS [x.r 0,x.r 1,x.r 2,x.r 3,x.r 4,x.r 5,x.r 6,x.r 7,x.r 8,x.r 9,x.r 10,x.r 11,x.r 12,x.r 13,x.r 14,x.r 15] (↑x_2.fst:Int).toNat)=true →((0:Nat)+hashN x.r x_2.fst≤hashN x.r x_2.fst ∧True ∧(2:Nat)*(hashN x.r x_2.fst+(1:Nat))*(16:Nat)≤(281474976710656:Nat) ∧hashN x.r x_2.fst+(1:Nat)<(9223372036854775808:Nat)) ∧x_2.snd=x_2.snd*(1:Nat) ∧∀(c:Nat),hashN x.r x_2.fst+(1:Nat)≤c →((-9223372036854775808:Int)≤(↑x_2.fst:Int)+(1:Int) ∧(↑x_2.fst:Int)+(1:Int)≤(9223372036854775807:Int)) ∧∃(y:Nat×Nat),((y.fst≤(16:Nat) ∧hashN x.r y.fst≤y.snd) ∧(16:Nat) - y.fst<(16:Nat) - x_2.fst) ∧(↑x_2.fst:Int)+(1:Int)=(↑y.fst:Int) ∧(1:Nat)=(1:Nat) ∧((0:Nat)=(0:Nat) ∧hashN x.r x_2.fst+(1:Nat)=hashN x.r y.fst ∧c=y.snd) ∧True ∧SBle (SB.rows true (hashN x.r x_2.fst+(1:Nat)) [Col.str fun(j:Nat)=>if j<hashN x.r x_2.fst then hashAt x.r x_2.fst j else selS [cutIn (selS [x.r 0,x.r 1,x.r 2,x.r 3,x.r 4,x.r 5,x.r 6,x.r 7,x.r 8,x.r 9,x.r 10,x.r 11,x.r 12,x.r 13,x.r 14,x.r 15] (↑x_2.fst:Int).toNat)] (j - hashN x.r x_2.fst)] false (c*(1:Nat)) 9) (SB.rows true (hashN x.r y.fst) [Col.str (hashAt x.r y.fst)] false y.snd 9) ∧SBle (SB.loop LoopState.ready none R) (SB.loop LoopState.ready none R) ∧SBle Q0 Q0 ∧SBle (SB.cells x.sv.cells 19 116) (SB.cells x.sv.cells 19 116) ∧True) ∧(hashB (selS [x.r 0,x.r 1,x.r 2,x.r 3,x.r 4,x.r 5,x.r 6,x.r 7,x.r 8,x.r 9,x.r 10,x.r 11,x.r 12,x.r 13,x.r 14,x.r 15] (↑x_2.fst:Int).toNat)=false →Rel 9223372036854775808 (selS [x.r 0,x.r 1,x.r 2,x.r 3,x.r 4,x.r 5,x.r 6,x.r 7,x.r 8,x.r 9,x.r 10,x.r 11,x.r 12,x.r 13,x.r 14,x.r 15] (↑x_2.fst:Int).toNat) ∧(inlB (selS [x.r 0,x.r 1,x.r 2,x.r 3,x.r 4,x.r 5,x.r 6,x.r 7,x.r 8,x.r 9,x.r 10,x.r 11,x.r 12,x.r 13,x.r 14,x.r 15] (↑x_2.fst:Int).toNat)=true →Near 64 {k:=(getD (selS [x.r 0,x.r 1,x.r 2,x.r 3,x.r 4,x.r 5,x.r 6,x.r 7,x.r 8,x.r 9,x.r 10,x.r 11,x.r 12,x.r 13,x.r 14,x.r 15] (↑x_2.fst:Int).toNat)).k,p:=(getD (selS [x.r 0,x.r 1,x.r 2,x.r 3,x.r 4,x.r 5,x.r 6,x.r 7,x.r 8,x.r 9,x.r 10,x.r 11,x.r 12,x.r 13,x.r 14,x.r 15] (↑x_2.fst:Int).toNat)).p,v:=(getD (selS [x.r 0,x.r 1,x.r 2,x.r 3,x.r 4,x.r 5,x.r 6,x.r 7,x.r 8,x.r 9,x.r 10,x.r 11,x.r 12,x.r 13,x.r 14,x.r 15] (↑x_2.fst:Int).toNat)).v,r:=fun(i:Nat)=>[(getD (selS [x.r 0,x.r 1,x.r 2,x.r 3,x.r 4,x.r 5,x.r 6,x.r 7,x.r 8,x.r 9,x.r 10,x.r 11,x.r 12,x.r 13,x.r 14,x.r 15] (↑x_2.fst:Int).toNat)).r 0,(getD (selS [x.r 0,x.r 1,x.r 2,x.r 3,x.r 4,x.r 5,x.r 6,x.r 7,x.r 8,x.r 9,x.r 10,x.r 11,x.r 12,x.r 13,x.r 14,x.r 15] (↑x_2.fst:Int).toNat)).r 1,(getD (selS [x.r 0,x.r 1,x.r 2,x.r 3,x.r 4,x.r 5,x.r 6,x.r 7,x.r 8,x.r 9,x.r 10,x.r 11,x.r 12,x.r 13,x.r 14,x.r 15] (↑x_2.fst:Int).toNat)).r 2,(getD (selS [x.r 0,x.r 1,x.r 2,x.r 3,x.r 4,x.r 5,x.r 6,x.r 7,x.r 8,x.r 9,x.r 10,x.r 11,x.r 12,x.r 13,x.r 14,x.r 15] (↑x_2.fst:Int).toNat)).r 3,(getD (selS [x.r 0,x.r 1,x.r 2,x.r 3,x.r 4,x.r 5,x.r 6,x.r 7,x.r 8,x.r 9,x.r 10,x.r 11,x.r 12,x.r 13,x.r 14,x.r 15] (↑x_2.fst:Int).toNat)).r 4,(getD (selS [x.r 0,x.r 1,x.r 2,x.r 3,x.r 4,x.r 5,x.r 6,x.r 7,x.r 8,x.r 9,x.r 10,x.r 11,x.r 12,x.r 13,x.r 14,x.r 15] (↑x_2.fst:Int).toNat)).r 5,(getD (selS [x.r 0,x.r 1,x.r 2,x.r 3,x.r 4,x.r 5,x.r 6,x.r 7,x.r 8,x.r 9,x.r 10,x.r 11,x.r 12,x.r 13,x.r 14,x.r 15] (↑x_2.fst:Int).toNat)).r 6,(getD (selS [x.r 0,x.r 1,x.r 2,x.r 3,x.r 4,x.r 5,x.r 6,x.r 7,x.r 8,x.r 9,x.r 10,x.r 11,x.r 12,x.r 13,x.r 14,x.r 15] (↑x_2.fst:Int).toNat)).r 7,(getD (selS [x.r 0,x.r 1,x.r 2,x.r 3,x.r 4,x.r 5,x.r 6,x.r 7,x.r 8,x.r 9,x.r 10,x.r 11,x.r 12,x.r 13,x.r 14,x.r 15] (↑x_2.fst:Int).toNat)).r 8,(getD (selS [x.r 0,x.r 1,x.r 2,x.r 3,x.r 4,x.r 5,x.r 6,x.r 7,x.r 8,x.r 9,x.r 10,x.r 11,x.r 12,x.r 13,x.r 14,x.r 15] (↑x_2.fst:Int).toNat)).r 9,(getD (selS [x.r 0,x.r 1,x.r 2,x.r 3,x.r 4,x.r 5,x.r 6,x.r 7,x.r 8,x.r 9,x.r 10,x.r 11,x.r 12,x.r 13,x.r 14,x.r 15] (↑x_2.fst:Int).toNat)).r 10,(getD (selS [x.r 0,x.r 1,x.r 2,x.r 3,x.r 4,x.r 5,x.r 6,x.r 7,x.r 8,x.r 9,x.r 10,x.r 11,x.r 12,x.r 13,x.r 14,x.r 15] (↑x_2.fst:Int).toNat)).r 11,(getD (selS [x.r 0,x.r 1,x.r 2,x.r 3,x.r 4,x.r 5,x.r 6,x.r 7,x.r 8,x.r 9,x.r 10,x.r 11,x.r 12,x.r 13,x.r 14,x.r 15] (↑x_2.fst:Int).toNat)).r 12,(getD (selS [x.r 0,x.r 1,x.r 2,x.r 3,x.r 4,x.r 5,x.r 6,x.r 7,x.r 8,x.r 9,x.r 10,x.r 11,x.r 12,x.r 13,x.r 14,x.r 15] (↑x_2.fst:Int).toNat)).r 13,(getD (selS [x.r 0,x.r 1,x.r 2,x.r 3,x.r 4,x.r 5,x.r 6,x.r 7,x.r 8,x.r 9,x.r 10,x.r 11,x.r 12,x.r 13,x.r 14,x.r 15] (↑x_2.fst:Int).toNat)).r 14,(getD (selS [x.r 0,x.r 1,x.r 2,x.r 3,x.r 4,x.r 5,x.r 6,x.r 7,x.r 8,x.r 9,x.r 10,x.r 11,x.r 12,x.r 13,x.r 14,x.r 15] (↑x_2.fst:Int).toNat)).r 15].getD i []:Nd} ∧some (SB.cells [SV.rslc ((0:Nat)+(1:Nat)+(1:Nat)+(1:Nat)+(1:Nat)) 1 true 0 (hashN x.r x_2.fst) x_2.snd] 1 22)=some (SB.cells [SV.rslc ((0:Nat)+(1:Nat)+(1:Nat)+(1:Nat)+(1:Nat)) 1 true 0 (hashN x.r x_2.fst) x_2.snd] 1 22) ∧((0:Nat)+hashN x.r x_2.fst≤hashN x.r x_2.fst ∧True ∧(2:Nat)*(hashN x.r x_2.fst+(0:Nat))*(16:Nat)≤(281474976710656:Nat) ∧hashN x.r x_2.fst+(0:Nat)<(9223372036854775808:Nat)) ∧x_2.snd=x_2.snd*(1:Nat) ∧∀(c:Nat),hashN x.r x_2.fst+(0:Nat)≤c →((-9223372036854775808:Int)≤(↑x_2.fst:Int)+(1:Int) ∧(↑x_2.fst:Int)+(1:Int)≤(9223372036854775807:Int)) ∧∃(y:Nat×Nat),((y.fst≤(16:Nat) ∧hashN x.r y.fst≤y.snd) ∧(16:Nat) - y.fst<(16:Nat) - x_2.fst) ∧(↑x_2.fst:Int)+(1:Int)=(↑y.fst:Int) ∧(1:Nat)=(1:Nat) ∧((0:Nat)=(0:Nat) ∧hashN x.r x_2.fst+(0:Nat)=hashN x.r y.fst ∧c=y.snd) ∧True ∧SBle (SB.rows true (hashN x.r x_2.fst+(0:Nat)) [Col.str (hashAt x.r x_2.fst)] false (c*(1:Nat)) 9) (SB.rows true (hashN x.r y.fst) [Col.str (hashAt x.r y.fst)] false y.snd 9) ∧SBle (SB.loop LoopState.ready none R) (SB.loop LoopState.ready none R) ∧SBle Q0 Q0 ∧SBle (SB.cells x.sv.cells 19 116) (SB.cells x.sv.cells 19 116) ∧True) ∧(inlB (selS [x.r 0,x.r 1,x.r 2,x.r 3,x.r 4,x.r 5,x.r 6,x.r 7,x.r 8,x.r 9,x.r 10,x.r 11,x.r 12,x.r 13,x.r 14,x.r 15] (↑x_2.fst:Int).toNat)=false →Near 64 {k:=(0:Int),p:=[],v:=[],r:=fun(i:Nat)=>[[],[],[],[],[],[],[],[],[],[],[],[],[],[],[],[]].getD i []:Nd} ∧some (SB.cells [SV.rslc ((0:Nat)+(1:Nat)+(1:Nat)+(1:Nat)+(1:Nat)) 1 true 0 (hashN x.r x_2.fst) x_2.snd] 1 22)=some (SB.cells [SV.rslc ((0:Nat)+(1:Nat)+(1:Nat)+(1:Nat)+(1:Nat)) 1 true 0 (hashN x.r x_2.fst) x_2.snd] 1 22) ∧((0:Nat)+hashN x.r x_2.fst≤hashN x.r x_2.fst ∧True ∧(2:Nat)*(hashN x.r x_2.fst+(0:Nat))*(16:Nat)≤(281474976710656:Nat) ∧hashN x.r x_2.fst+(0:Nat)<(9223372036854775808:Nat)) ∧x_2.snd=x_2.snd*(1:Nat) ∧∀(c:Nat),hashN x.r x_2.fst+(0:Nat)≤c →((-9223372036854775808:Int)≤(↑x_2.fst:Int)+(1:Int) ∧(↑x_2.fst:Int)+(1:Int)≤(9223372036854775807:Int)) ∧∃(y:Nat×Nat),((y.fst≤(16:Nat) ∧hashN x.r y.fst≤y.snd) ∧(16:Nat) - y.fst<(16:Nat) - x_2.fst) ∧(↑x_2.fst:Int)+(1:Int)=(↑y.fst:Int) ∧(1:Nat)=(1:Nat) ∧((0:Nat)=(0:Nat) ∧hashN x.r x_2.fst+(0:Nat)=hashN x.r y.fst ∧c=y.snd) ∧True ∧SBle (SB.rows true (hashN x.r x_2.fst+(0:Nat)) [Col.str (hashAt x.r x_2.fst)] false (c*(1:Nat)) 9) (SB.rows true (hashN x.r y.fst) [Col.str (hashAt x.r y.fst)] false y.snd 9) ∧SBle (SB.loop LoopState.ready none R) (SB.loop LoopState.ready none R) ∧SBle Q0 Q0 ∧SBle (SB.cells x.sv.cells 19 116) (SB.cells x.sv.cells 19 116) ∧True))) ∧((!decide (selS [x.r 0,x.r 1,x.r 2,x.r 3,x.r 4,x.r 5,x.r 6,x.r 7,x.r 8,x.r 9,x.r 10,x.r 11,x.r 12,x.r 13,x.r 14,x.r 15] (↑x_2.fst:Int).toNat=[]))=false →((-9223372036854775808:Int)≤(↑x_2.fst:Int)+(1:Int) ∧(↑x_2.fst:Int)+(1:Int)≤(9223372036854775807:Int)) ∧∃(y:Nat×Nat),((y.fst≤(16:Nat) ∧hashN x.r y.fst≤y.snd) ∧(16:Nat) - y.fst<(16:Nat) - x_2.fst) ∧(↑x_2.fst:Int)+(1:Int)=(↑y.fst:Int) ∧(1:Nat)=(1:Nat) ∧((0:Nat)=(0:Nat) ∧hashN x.r x_2.fst=hashN x.r y.fst ∧x_2.snd=y.snd) ∧True ∧SBle (SB.rows true (hashN x.r x_2.fst) [Col.str (hashAt x.r x_2.fst)] false x_2.snd 9) (SB.rows true (hashN x.r y.fst) [Col.str (hashAt x.r y.fst)] false y.snd 9) ∧SBle (SB.loop LoopState.ready none R) (SB.loop LoopState.ready none R) ∧SBle Q0 Q0 ∧SBle (SB.cells x.sv.cells 19 116) (SB.cells x.sv.cells 19 116) ∧True)) ∧(decide ((↑x_2.fst:Int)<(16:Int))=false →(validB x=true →∃(x_6:Nat),hashN x.r (16:Nat)≤x_6 ∧SBle (SB.rows true (hashN x.r x_2.fst) [Col.str (hashAt x.r x_2.fst)] false x_2.snd 9) (SB.rows true (hashN x.r 16) [Col.str (hashAt x.r 16)] false x_6 9) ∧sameVal (SV.rslc ((0:Nat)+(1:Nat)+(1:Nat)+(1:Nat)+(1:Nat)) 1 true 0 (hashN x.r x_2.fst) x_2.snd) (SV.rslc ((0:Nat)+(1:Nat)+(1:Nat)+(1:Nat)+(1:Nat)) 1 true 0 (hashN x.r 16) x_6)) ∧(validB x=false →sameVal (SV.rslc ((0:Nat)+(1:Nat)+(1:Nat)+(1:Nat)+(1:Nat)) 1 true 0 (hashN x.r x_2.fst) x_2.snd) SV.nilslc))))) (SB.cells (SV.agg [SV.int .i64 false x.k,SV.str false x.p,SV.str false x.v,SV.str false (x.r 0),SV.str false (x.r 1),SV.str false (x.r 2),SV.str false (x.r 3),SV.str false (x.r 4),SV.str false (x.r 5),SV.str false (x.r 6),SV.str false (x.r 7),SV.str false (x.r 8),SV.str false (x.r 9),SV.str false (x.r 10),SV.str false (x.r 11),SV.str false (x.r 12),SV.str false (x.r 13),SV.str false (x.r 14),SV.str false (x.r 15)]).cells 19 259)):=by kernel_rfl
end Go.Proofs.YtoalfimkkibpdaaGreatDoor
namespace Go.Proofs.YtoalfimkkibpdaaGreatDoor
open Go Sx
set_option maxRecDepth 20000
structure Nd.Same (x y:Nd):Prop where
 k:x.k=y.k
 p:x.p=y.p
 v:x.v=y.v
 r: ∀ j,j<16→x.r j=y.r j
theorem mays_ext {inl:List UInt8→Bool} {r r':Nat→List UInt8}: ∀ {n:Nat},(∀ j,j<n→r j=r' j)→mays inl r n=mays inl r' n∧fullN r n=fullN r' n
 | 0,_=>⟨rfl,rfl⟩
 | n+1,h=>by
   obtain⟨h1,h2⟩:=mays_ext (inl:=inl) (n:=n) fun j hj=>h j (by omega)
   simp only[mays,fullN,h1,h2,h n (by omega),and_self]
theorem valid_ext {x y:Nd} (h:x.Same y):validB x=validB y:=by
 obtain⟨h1,h2⟩:=mays_ext (inl:=inlB) h.r
 have e0:noneB x=noneB y:=by
  unfold noneB
  rw[h.k,h.p,h.v]
  congr 3
  rw[Bool.eq_iff_iff,List.all_eq_true,List.all_eq_true]
  constructor
  ·intro g j hj;rw[← h.r j (List.mem_range.1 hj)];exact g j hj
  ·intro g j hj;rw[h.r j (List.mem_range.1 hj)];exact g j hj
 have e1:leafB x=leafB y:=by unfold leafB pathB;rw[h.p,h.v,behindI_congr h.r]
 have e2:extW inlB x=extW inlB y:=by unfold extW pathB;rw[h.p,h.v,behindI_congr h.r,h.r 0 (by decide)]
 have e3:branchW inlB x=branchW inlB y:=by unfold branchW;rw[h.p,h.v,h1,h2]
 unfold validB validW
 rw[h.k,e0,e1,e2,e3]
theorem put_ext {x y:Nd} (h:x.Same y):putT x=putT y:=by
 have e1:leafT x=leafT y:=by unfold leafT pathT;rw[h.p,h.v]
 have e2:extT x=extT y:=by unfold extT pathT;rw[h.p,h.r 0 (by decide)]
 have e3:branchT x=branchT y:=by
  have hb: ∀ j,j<16→brI x.r 16 j=brI y.r 16 j:=fun j hj=>by unfold brI;rw[h.r j hj]
  unfold branchT
  rw[hb 0 (by decide),hb 1 (by decide),hb 2 (by decide),hb 3 (by decide),hb 4 (by decide),hb 5 (by decide),hb 6 (by decide),hb 7 (by decide),hb 8 (by decide),hb 9 (by decide),hb 10 (by decide),hb 11 (by decide),hb 12 (by decide),hb 13 (by decide),hb 14 (by decide),hb 15 (by decide),h.v]
 unfold putT
 rw[h.k,e1,e2,e3]
theorem same_mk (x:Nd):Nd.Same {k:=x.k,p:=x.p,v:=x.v,r:=fun(i:Nat)=>[x.r 0,x.r 1,x.r 2,x.r 3,x.r 4,x.r 5,x.r 6,x.r 7,x.r 8,x.r 9,x.r 10,x.r 11,x.r 12,x.r 13,x.r 14,x.r 15].getD i []} x:=⟨rfl,rfl,rfl,fun j hj=>getD16 x.r j hj⟩
theorem Nd.Few.same {x y:Nd} (h:x.Same y)(hf:y.Few):x.Few:=⟨by rw[h.p];exact hf.p,by rw[h.v];exact hf.v,fun j hj=>by rw[h.r j hj];exact hf.r j hj⟩
def Fits (x:Nd):Prop:=∀ j,j<16→(x.r j).length<9223372036854775808
theorem fits_rel {x:Nd} (h:Fits x):RelR 9223372036854775808 (fun(i:Nat)=>[x.r 0,x.r 1,x.r 2,x.r 3,x.r 4,x.r 5,x.r 6,x.r 7,x.r 8,x.r 9,x.r 10,x.r 11,x.r 12,x.r 13,x.r 14,x.r 15].getD i []):=fun j hj=>by
 show Rel _ ([x.r 0,x.r 1,x.r 2,x.r 3,x.r 4,x.r 5,x.r 6,x.r 7,x.r 8,x.r 9,x.r 10,x.r 11,x.r 12,x.r 13,x.r 14,x.r 15].getD j [])
 rw[getD16 x.r j hj]
 exact⟨.inl (h j hj),h j hj⟩
theorem nodePut_ok:CallOk Tryz.prog 127 (ansPT (ndSpecA fun x=>some (Fits x,putA x))):=by
 refine ans_ok (n:=20) (fn:=Tryz.f127) Tryz.func127 (by kernel_rfl) (by kernel_rfl) ?_
 intro args p a h hp
 obtain⟨x,hx,hg⟩:=ndSpecA_eq h
 subst hx
 injection hg with hg;injection hg with h1 h2;subst h1;subst h2
 refine⟨cfgF1,goodF1,rfl,fun b=>by cases b<;>exact rfl,Holds.of_eq (vcNodePut x) ?_⟩
 have e:=valid_ext (same_mk x)
 have e2:=put_ext (same_mk x)
 refine⟨fits_rel hp,fun a=> ?_,fun a=> ?_⟩
 ·rw[e] at a
  have a:validB x=false:=by simpa using a
  rw[a]
  exact⟨(fun h=>by cases h),fun _ _=>rfl⟩
 ·rw[e] at a
  have a:validB x=true:=by simpa using a
  have hs:=valid_short a
  rw[e2,a]
  exact⟨⟨hs.k,Nd.Few.same (same_mk x) hs.few⟩,fun _ _=>rfl,fun h=>by cases h⟩
theorem flat1 (s:List UInt8):flat [s]=s:=by simp[flat]
theorem ofQ1 {s:List UInt8} (h:s.length<1152921504606846976):True∧ofQ [s]:=⟨trivial,by rw[flat1];exact h,by simp⟩
def refSpec:List SV→Option (Prop×SV)
 | [.str false s]=>some (s.length<1152921504606846976,.str false (refL s))
 | _=>none
theorem nodeRef_ok:CallOk Tryz.prog 159 (purePT refSpec):=by
 refine pure_ok goodF1 (n:=20) (fn:=Tryz.f159) Tryz.func159 (by kernel_rfl) (by kernel_rfl) ?_
 intro args p r h hp
 unfold refSpec at h
 split at h
 ·rename_i s
  injection h with h;injection h with h1 h2;subst h1;subst h2
  refine⟨rfl,rfl,Holds.of_eq (vcRef s _) ⟨fun a=> ?_,fun a=>⟨ofQ1 hp,by omega,?_⟩⟩⟩
  ·have a:=of_decide_eq_true a
   exact str_same (by rw[refL,if_pos (by omega)])
  ·have a:=of_decide_eq_false a
   exact str_same (by rw[refL,if_neg (by omega),flat1])
 ·cases h
theorem near_get {L:Nat} {x:Nd} (h:Near L x): ∃ K,L=K+1∧∀ j,j<16→x.r j=[]∨((x.r j).length<K∧(x.r j).length<32):=by
 cases L with
 | zero=>exact h.elim
 | succ K=>exact⟨K,rfl,h⟩
theorem near_fits {L:Nat} {x:Nd} (h:Near L x):Fits x:=fun j hj=>by
 obtain⟨K,_,h⟩:=near_get h
 rcases h j hj with h | h
 ·rw[h];simp
 ·omega
theorem near_in {L:Nat} {t:List UInt8} (hk:0≤shapeK t)(h:t.length<L)(h32:t.length<32):Near L (getD t):=by
 cases L with
 | zero=>exact absurd h (Nat.not_lt_zero _)
 | succ L =>
   intro j _
   by_cases e:(getD t).r j=[]
   ·exact .inl e
   ·have:=refs_lt hk j e
    exact .inr ⟨by omega,by omega⟩
theorem near_same {L:Nat} {x y:Nd} (h:x.Same y)(hn:Near L y):Near L x:=by
 cases L with
 | zero=>exact hn.elim
 | succ L=>intro j hj;rw[h.r j hj];exact hn j hj
theorem near_zero {L:Nat} (h:0<L):Near L zeroNd:=by
 cases L with
 | zero=>omega
 | succ L=>intro j hj;exact .inl (getD16 (fun _=>[]) j hj)
theorem inl_shape {t:List UInt8} (h:inlB t=true):0≤shapeK t∧getB' t=true∧(getD t).k≠0:=by
 rw[inl_eq] at h
 simp only[Bool.and_eq_true,decide_eq_true_eq,Bool.not_eq_true',decide_eq_false_iff_not] at h
 refine⟨?_,h.2.1,h.2.2⟩
 by_cases g:0≤shapeK t
 ·exact g
 ·rw[get_no g] at h;exact absurd h.2.1 (by decide)
theorem near_step {L:Nat} (hH:CallOk Tryz.prog 131 (purePT (nearSpec L))):CallOk Tryz.prog 131 (purePT (nearSpec (L+1))):=by
 refine nd_ok Tryz.func131 (by kernel_rfl) (by kernel_rfl) fun x p v h hp=> ?_
 injection h with h;injection h with h1 h2;subst h1;subst h2
 have hp:Near (L+1) x:=hp
 refine⟨cfgNear L,[x.sv],⟨mixes,SummOk.cons hH (purePT_mono _) listF1_ok,fns_ok⟩,fun E=>rfl,rfl,rfl,Holds.of_eq (vcNear L x _) ?_⟩
 refine⟨fits_rel (near_fits hp),fun _ _=>rfl,fun _ R=>⟨⟨0,by omega,rfl,SBle.refl _,SBle.refl _,SBle.refl _,SBle.refl _,trivial⟩,fun i hi=>⟨fun c=> ?_,fun _ _=>rfl⟩⟩⟩
 have c:=of_decide_eq_true c
 have ei:i<16:=by omega
 rw[Int.toNat_natCast,sel16 x.r ei]
 refine⟨by omega,fun d=> ?_,fun d=>⟨by omega,i+1,by omega,by omega,SBle.refl _,SBle.refl _,SBle.refl _,SBle.refl _,trivial⟩⟩
 have d: ¬ x.r i=[]:=by simpa using d
 obtain⟨hl,h32⟩:(x.r i).length<L∧(x.r i).length<32:=by
  rcases hp i ei with h | h
  ·exact absurd h d
  ·exact h
 have hlp:0<L:=by omega
 refine⟨rfl,by omega,fun e=> ?_,fun e=>⟨⟨.inl (by omega),by omega⟩,fun f=>⟨?_,rfl,by omega,i+1,by omega,by omega,SBle.refl _,SBle.refl _,SBle.refl _,SBle.refl _,trivial⟩,fun f=>⟨near_zero hlp,rfl,by omega,i+1,by omega,by omega,SBle.refl _,SBle.refl _,SBle.refl _,SBle.refl _,trivial⟩⟩⟩
 ·have:=hash_len e
  omega
 ·exact near_same (same_mk (getD (x.r i))) (near_in (inl_shape f).1 hl h32)
theorem near_all: ∀ L,CallOk Tryz.prog 131 (purePT (nearSpec L))
 | 0=>nd_ok Tryz.func131 (by kernel_rfl) (by kernel_rfl) fun x p v h hp=>by
   injection h with h;injection h with h1 h2;subst h1
   exact hp.elim
 | L+1=>near_step (near_all L)
theorem hashN_le (r:Nat→List UInt8): ∀ i,hashN r i≤i
 | 0=>Nat.le_refl _
 | i+1=>by
   have:=hashN_le r i
   unfold hashN
   cases hashB (r i)<;>simp only[cond_true,cond_false]<;>omega
theorem goodHs (x:Nd):Sx.Good Tryz.prog (cfgHs x):=⟨mixes,SummOk.cons (near_all 64) (purePT_mono _) listF1_ok,fns_ok⟩
end Go.Proofs.YtoalfimkkibpdaaGreatDoor
namespace Go.Proofs.YtoalfimkkibpdaaGreatDoor
open Go Sx
set_option maxRecDepth 20000
theorem hashAt_step {r:Nat→List UInt8} {i:Nat} (h:hashB (r i)=true)(j:Nat)(hj:j<hashN r i+1):(if j<hashN r i then hashAt r i j else selS [cutIn (r i)] (j - hashN r i))=hashAt r (i+1) j:=by
 show _=(bif hashB (r i)then(if j=hashN r i then cutIn (r i)else hashAt r i j)else hashAt r i j)
 rw[h]
 simp only[cond_true]
 by_cases e:j<hashN r i
 ·rw[if_pos e,if_neg (by omega)]
 ·have e:j=hashN r i:=by omega
  subst e
  rw[if_neg (by omega),if_pos rfl,Nat.sub_self];rfl
theorem hashN_step {r:Nat→List UInt8} {i:Nat} (h:hashB (r i)=true):hashN r (i+1)=hashN r i+1:=by rw[hashN,h];rfl
theorem hashN_skip {r:Nat→List UInt8} {i:Nat} (h:hashB (r i)=false):hashN r (i+1)=hashN r i∧∀ j,hashAt r (i+1) j=hashAt r i j:=by
 refine⟨by rw[hashN,h];rfl,fun j=> ?_⟩
 show(bif hashB (r i)then(if j=hashN r i then cutIn (r i)else hashAt r i j)else hashAt r i j)=_
 rw[h];rfl
theorem hashes_holds {x:Nd} (hp:Fits x):Holds (runA (cfgHs x) 131 Tryz.f131 [x.sv] (hashesA x)):=by
 refine Holds.of_eq (vcHashes x) ?_
 have ev:=valid_ext (same_mk x)
 rw[ev]
 refine⟨fits_rel hp,fun a=>⟨fun b=> ?_,fun _ _=>rfl⟩,fun a R=>⟨⟨(0,0),⟨Nat.zero_le _,Nat.le_refl _⟩,rfl,rfl,rfl,rfl,SBle.refl _,SBle.refl _,SBle.refl _,trivial⟩,fun g hg=>⟨fun c=> ?_,fun c=> ?_⟩⟩⟩
 ·rw[b] at a;cases a
 ·have c:=of_decide_eq_true c
  have ei:g.1<16:=by omega
  rw[Int.toNat_natCast,sel16 x.r ei]
  have hf:=hp g.1 ei
  have hn:=hashN_le x.r g.1
  have hg2:=hg.2
  have hs:validB x=true:=by simpa using a
  refine⟨by omega,fun d=> ?_,fun d=> ?_⟩
  ·have d: ¬ x.r g.1=[]:=by simpa using d
   refine⟨rfl,hf,fun e=> ?_,fun e=>⟨⟨.inl hf,hf⟩,fun f=> ?_,fun f=> ?_⟩⟩
   ·refine⟨⟨by omega,trivial,by omega,by omega⟩,by omega,fun cap hcap=>⟨by omega,(g.1+1,cap),⟨⟨by show g.1+1≤16;omega,?_⟩,by show 16 - (g.1+1)<_;omega⟩,by show(g.1:Int)+1=((g.1+1:Nat):Int);omega,rfl,⟨rfl,(hashN_step e).symm,rfl⟩,trivial,?_,SBle.refl _,SBle.refl _,SBle.refl _,trivial⟩⟩
    ·show hashN x.r (g.1+1)≤cap
     rw[hashN_step e];exact hcap
    ·exact Sx.SBle.strRows (hashN_step e).symm (Nat.mul_one cap) fun j hj=>hashAt_step e j hj
   ·have hk:=inl_shape f
    have hil:=inl_len f
    refine⟨near_same (same_mk (getD (x.r g.1))) (near_in hk.1 (by omega) hil),rfl,⟨by omega,trivial,by omega,by omega⟩,by omega,fun cap hcap=>⟨by omega,(g.1+1,cap),⟨⟨by show g.1+1≤16;omega,?_⟩,by show 16 - (g.1+1)<_;omega⟩,by show(g.1:Int)+1=((g.1+1:Nat):Int);omega,rfl,⟨rfl,(hashN_skip e).1.symm,rfl⟩,trivial,?_,SBle.refl _,SBle.refl _,SBle.refl _,trivial⟩⟩
    ·show hashN x.r (g.1+1)≤cap
     rw[(hashN_skip e).1];exact hcap
    ·exact Sx.SBle.strRows (hashN_skip e).1.symm (Nat.mul_one cap) fun j _=>((hashN_skip e).2 j).symm
   ·refine⟨near_zero (by decide),rfl,⟨by omega,trivial,by omega,by omega⟩,by omega,fun cap hcap=>⟨by omega,(g.1+1,cap),⟨⟨by show g.1+1≤16;omega,?_⟩,by show 16 - (g.1+1)<_;omega⟩,by show(g.1:Int)+1=((g.1+1:Nat):Int);omega,rfl,⟨rfl,(hashN_skip e).1.symm,rfl⟩,trivial,?_,SBle.refl _,SBle.refl _,SBle.refl _,trivial⟩⟩
    ·show hashN x.r (g.1+1)≤cap
     rw[(hashN_skip e).1];exact hcap
    ·exact Sx.SBle.strRows (hashN_skip e).1.symm (Nat.mul_one cap) fun j _=>((hashN_skip e).2 j).symm
  ·have d:x.r g.1=[]:=by simpa using d
   have e:hashB (x.r g.1)=false:=by rw[d];rfl
   refine⟨by omega,(g.1+1,g.2),⟨⟨by show g.1+1≤16;omega,?_⟩,by show 16 - (g.1+1)<_;omega⟩,by show(g.1:Int)+1=((g.1+1:Nat):Int);omega,rfl,⟨rfl,(hashN_skip e).1.symm,rfl⟩,trivial,?_,SBle.refl _,SBle.refl _,SBle.refl _,trivial⟩
   ·show hashN x.r (g.1+1)≤g.2
    rw[(hashN_skip e).1];exact hg2
   ·exact Sx.SBle.strRows (hashN_skip e).1.symm rfl fun j _=>((hashN_skip e).2 j).symm
 ·have c:=of_decide_eq_false c
  have hg1:=hg.1
  have e:g.1=16:=by omega
  have hg2:=hg.2
  rw[e] at hg2 ⊢
  exact⟨fun _=>⟨g.2,hg2,SBle.refl _,fun _=>rfl⟩,fun h=>by rw[h] at a;cases a⟩
theorem hashes_ok:CallOk Tryz.prog 131 (ansPT (ndSpecA fun x=>some (Fits x,hashesA x))):=by
 refine ans_ok (n:=20) (fn:=Tryz.f131) Tryz.func131 (by kernel_rfl) (by kernel_rfl) ?_
 intro args p a h hp
 obtain⟨x,hx,hg⟩:=ndSpecA_eq h
 subst hx
 injection hg with hg;injection hg with h1 h2;subst h1;subst h2
 refine⟨cfgHs x,goodHs x,rfl,fun b=> ?_,hashes_holds hp⟩
 cases b with
 | false=>exact rfl
 | true =>
   intro c
   refine⟨rfl,rfl,fun k=>by simp[SV.wf,Nat.blt_eq],fun E E' k k' h=> ?_⟩
   cases hn:hashN x.r 16 with
   | zero=>rfl
   | succ n =>
     rw[hn] at h
     have hk:E k=E' k':=h rfl
     simp[SV.val,hk]
end Go.Proofs.YtoalfimkkibpdaaGreatDoor
