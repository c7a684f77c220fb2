/-
  Conditions that the executor computes, written out by a program (vcgen.py).
-/
import Derived.Test.YtoibaecagklkaaaGreatDoorMp
import Derived.Test.YtoibaecagklkaaaGreatDoorMn
namespace Go.Proofs.YtoibaecagklkaaaGreatDoor
open Go Sx
set_option maxRecDepth 20000
theorem Xc (x:Sh)(T:List UInt8):VC.holds (n8 J7 61 Tryz.f61 [.ptr 0 true 0] uv (x,T) (fun _:Unit=>(True,.str false (cL T),(x,T))))=((fun R0:Nat->SV=>((fun R1:Nat->SV=>((fun R2:Nat->(Sh×List UInt8)->SV=>((fun R3:Nat->(Sh×List UInt8)->SV=>((((-9223372036854775808:Int)<=119 - x.held/\119 - x.held<=9223372036854775807)/\((0:Int)<=119 - x.held/\119 - x.held<=9223372036854775807/\(0:Int)<(64:Int))/\((-9223372036854775808:Int)<=1+(119 - x.held)% 64/\1+(119 - x.held)% 64<=(9223372036854775807:Int))/\((-9223372036854775808:Int)<=1+(119 - x.held)% 64+(8:Int)/\1+(119 - x.held)% 64+(8:Int)<=(9223372036854775807:Int))/\(1+(119 - x.held)% 64+(8:Int)=1+(119 - x.held)% 64+(8:Int)/\(0:Int)<=1+(119 - x.held)% 64+(8:Int)/\1*(1+(119 - x.held)% 64+(8:Int))<=140737488355328/\1+(119 - x.held)% 64+(8:Int)<=(9223372036854775807:Int))/\((0:Int)<=(0:Int)/\0<(↑(1+(119 - x.held)% 64+(8:Int)).toNat:Int))/\0<(1+(119 - x.held)% 64+(8:Int)).toNat/\((-9223372036854775808:Int)<=1+(119 - x.held)% 64/\1+(119 - x.held)% 64<=(9223372036854775807:Int))/\((-9223372036854775808:Int)<=1+(119 - x.held)% 64+(0:Int)/\1+(119 - x.held)% 64+(0:Int)<=(9223372036854775807:Int))/\((0:Int)<=1+(119 - x.held)% 64+(0:Int) /\1+(119 - x.held)% 64+0<(↑(1+(119 - x.held)% 64+(8:Int)).toNat:Int))/\0+(1+(119 - x.held)% 64+(0:Int)).toNat<(1+(119 - x.held)% 64+(8:Int)).toNat/\((-9223372036854775808:Int)<=1+(119 - x.held)% 64/\1+(119 - x.held)% 64<=(9223372036854775807:Int))/\((-9223372036854775808:Int)<=1+(119 - x.held)% 64+(1:Int)/\1+(119 - x.held)% 64+(1:Int)<=(9223372036854775807:Int))/\((0:Int)<=1+(119 - x.held)% 64+(1:Int)/\1+(119 - x.held)% 64+1<(↑(1+(119 - x.held)% 64+(8:Int)).toNat:Int))/\0+(1+(119 - x.held)% 64+(1:Int)).toNat<(1+(119 - x.held)% 64+(8:Int)).toNat/\((-9223372036854775808:Int)<=1+(119 - x.held)% 64/\1+(119 - x.held)% 64<=(9223372036854775807:Int))/\((-9223372036854775808:Int)<=1+(119 - x.held)% 64+(2:Int)/\1+(119 - x.held)% 64+(2:Int)<=(9223372036854775807:Int))/\((0:Int)<=1+(119 - x.held)% 64+(2:Int)/\1+(119 - x.held)% 64+2<(↑(1+(119 - x.held)% 64+(8:Int)).toNat:Int))/\0+(1+(119 - x.held)% 64+(2:Int)).toNat<(1+(119 - x.held)% 64+(8:Int)).toNat /\((-9223372036854775808:Int)<=1+(119 - x.held)% 64/\1+(119 - x.held)% 64<=(9223372036854775807:Int))/\((-9223372036854775808:Int)<=1+(119 - x.held)% 64+(3:Int)/\1+(119 - x.held)% 64+(3:Int)<=(9223372036854775807:Int))/\((0:Int)<=1+(119 - x.held)% 64+(3:Int)/\1+(119 - x.held)% 64+3<(↑(1+(119 - x.held)% 64+(8:Int)).toNat:Int))/\0+(1+(119 - x.held)% 64+(3:Int)).toNat<(1+(119 - x.held)% 64+(8:Int)).toNat/\((-9223372036854775808:Int)<=1+(119 - x.held)% 64/\1+(119 - x.held)% 64<=(9223372036854775807:Int))/\((-9223372036854775808:Int)<=1+(119 - x.held)% 64+(4:Int)/\1+(119 - x.held)% 64+(4:Int)<=(9223372036854775807:Int))/\((0:Int)<=1+(119 - x.held)% 64+(4:Int)/\1+(119 - x.held)% 64+4<(↑(1+(119 - x.held)% 64+(8:Int)).toNat:Int))/\0+(1+(119 - x.held)% 64+(4:Int)).toNat<(1+(119 - x.held)% 64+(8:Int)).toNat/\((-9223372036854775808:Int)<=1+(119 - x.held)% 64/\1+(119 - x.held)% 64<=(9223372036854775807:Int))/\((-9223372036854775808:Int)<=1+(119 - x.held)% 64+(5:Int) /\1+(119 - x.held)% 64+(5:Int)<=(9223372036854775807:Int))/\((0:Int)<=1+(119 - x.held)% 64+(5:Int)/\1+(119 - x.held)% 64+5<(↑(1+(119 - x.held)% 64+(8:Int)).toNat:Int))/\0+(1+(119 - x.held)% 64+(5:Int)).toNat<(1+(119 - x.held)% 64+(8:Int)).toNat/\((-9223372036854775808:Int)<=1+(119 - x.held)% 64/\1+(119 - x.held)% 64<=(9223372036854775807:Int))/\((-9223372036854775808:Int)<=1+(119 - x.held)% 64+(6:Int)/\1+(119 - x.held)% 64+(6:Int)<=(9223372036854775807:Int))/\((0:Int)<=1+(119 - x.held)% 64+(6:Int)/\1+(119 - x.held)% 64+6<(↑(1+(119 - x.held)% 64+(8:Int)).toNat:Int))/\0+(1+(119 - x.held)% 64+(6:Int)).toNat<(1+(119 - x.held)% 64+(8:Int)).toNat/\((-9223372036854775808:Int)<=1+(119 - x.held)% 64/\1+(119 - x.held)% 64<=(9223372036854775807:Int))/\((-9223372036854775808:Int)<=1+(119 - x.held)% 64+(7:Int)/\1+(119 - x.held)% 64+(7:Int)<=(9223372036854775807:Int))/\((0:Int)<=1+(119 - x.held)% 64+(7:Int)/\1+(119 - x.held)% 64+7<(↑(1+(119 - x.held)% 64+(8:Int)).toNat:Int)) /\0+(1+(119 - x.held)% 64+(7:Int)).toNat<(1+(119 - x.held)% 64+(8:Int)).toNat/\0+(1+(119 - x.held)% 64+(8:Int)).toNat<=(1+(119 - x.held)% 64+(8:Int)).toNat /\∃(u4:Sh×List UInt8),ah (SB.cells [R0 0,R0 1,R0 2,R0 3,R0 4,R0 5,R0 6,R0 7,R1 0,R1 1,R1 2,R1 3,R1 4,R1 5,R1 6,R1 7,R1 8,R1 9,R1 10,R1 11,R1 12,R1 13,R1 14,R1 15,R1 16,R1 17,R1 18,R1 19,R1 20,R1 21,R1 22,R1 23,R1 24,R1 25,R1 26,R1 27,R1 28,R1 29,R1 30,R1 31,R1 32,R1 33,R1 34,R1 35,R1 36,R1 37,R1 38,R1 39,R1 40,R1 41,R1 42,R1 43,R1 44,R1 45,R1 46,R1 47,R1 48,R1 49,R1 50,R1 51,R1 52,R1 53,R1 54,R1 55,R1 56,R1 57,R1 58,R1 59,R1 60,R1 61,R1 62,R1 63,SV.int .i64 false x.held,SV.int .u64 false x.size] 74 171) (SB.cells [R2 0 u4,R2 1 u4,R2 2 u4,R2 3 u4,R2 4 u4,R2 5 u4,R2 6 u4,R2 7 u4,R3 0 u4,R3 1 u4,R3 2 u4,R3 3 u4,R3 4 u4,R3 5 u4,R3 6 u4,R3 7 u4,R3 8 u4,R3 9 u4,R3 10 u4,R3 11 u4,R3 12 u4,R3 13 u4,R3 14 u4,R3 15 u4,R3 16 u4,R3 17 u4,R3 18 u4,R3 19 u4,R3 20 u4,R3 21 u4,R3 22 u4,R3 23 u4,R3 24 u4,R3 25 u4,R3 26 u4,R3 27 u4,R3 28 u4,R3 29 u4,R3 30 u4,R3 31 u4,R3 32 u4,R3 33 u4,R3 34 u4,R3 35 u4,R3 36 u4,R3 37 u4,R3 38 u4,R3 39 u4,R3 40 u4,R3 41 u4,R3 42 u4,R3 43 u4,R3 44 u4,R3 45 u4,R3 46 u4,R3 47 u4,R3 48 u4,R3 49 u4,R3 50 u4,R3 51 u4,R3 52 u4,R3 53 u4,R3 54 u4,R3 55 u4,R3 56 u4,R3 57 u4,R3 58 u4,R3 59 u4,R3 60 u4,R3 61 u4,R3 62 u4,R3 63 u4,SV.int .i64 false u4.fst.held,SV.int .u64 false u4.fst.size] 74 171) /\(AQ u4.fst u4.snd /\(cO (fun(u3:Nat)=>if u3=0+(1+(119 - x.held)% 64+(7:Int)).toNat then x.size*8% (18446744073709551616:Int) / (1:Int)% (256:Int)else if u3=0+(1+(119 - x.held)% 64+(6:Int)).toNat then x.size*8% (18446744073709551616:Int) / (256:Int)% (256:Int)else if u3=0+(1+(119 - x.held)% 64+(5:Int)).toNat then x.size*8% (18446744073709551616:Int) / (65536:Int)% (256:Int)else if u3=0+(1+(119 - x.held)% 64+(4:Int)).toNat then x.size*8% (18446744073709551616:Int) / (16777216:Int)% (256:Int)else if u3=0+(1+(119 - x.held)% 64+(3:Int)).toNat then x.size*8% (18446744073709551616:Int) / (4294967296:Int)% (256:Int)else if u3=0+(1+(119 - x.held)% 64+(2:Int)).toNat then x.size*8% (18446744073709551616:Int) / (1099511627776:Int)% (256:Int)else if u3=0+(1+(119 - x.held)% 64+(1:Int)).toNat then x.size*8% (18446744073709551616:Int) / (281474976710656:Int)% (256:Int)else if u3=0+(1+(119 - x.held)% 64+(0:Int)).toNat then x.size*8% (18446744073709551616:Int) / (72057594037927936:Int)% (256:Int)else if u3=0 then 128 else 0) 0 (1+(119 - x.held)% 64+(8:Int)).toNat).length<1152921504606846976) /\∀(u2:Sh),AQ u2 (u4.snd++cO (fun(u1:Nat)=>if u1=0+(1+(119 - x.held)% 64+(7:Int)).toNat then x.size*8% (18446744073709551616:Int) / (1:Int)% (256:Int)else if u1=0+(1+(119 - x.held)% 64+(6:Int)).toNat then x.size*8% (18446744073709551616:Int) / (256:Int)% (256:Int)else if u1=0+(1+(119 - x.held)% 64+(5:Int)).toNat then x.size*8% (18446744073709551616:Int) / (65536:Int)% (256:Int)else if u1=0+(1+(119 - x.held)% 64+(4:Int)).toNat then x.size*8% (18446744073709551616:Int) / (16777216:Int)% (256:Int)else if u1=0+(1+(119 - x.held)% 64+(3:Int)).toNat then x.size*8% (18446744073709551616:Int) / (4294967296:Int)% (256:Int)else if u1=0+(1+(119 - x.held)% 64+(2:Int)).toNat then x.size*8% (18446744073709551616:Int) / (1099511627776:Int)% (256:Int)else if u1=0+(1+(119 - x.held)% 64+(1:Int)).toNat then x.size*8% (18446744073709551616:Int) / (281474976710656:Int)% (256:Int)else if u1=0+(1+(119 - x.held)% 64+(0:Int)).toNat then x.size*8% (18446744073709551616:Int) / (72057594037927936:Int)% (256:Int)else if u1=0 then 128 else 0) 0 (1+(119 - x.held)% 64+(8:Int)).toNat) ->∃(_:Unit),True/\ah (uv (x,T)) (uv (x,T)) /\af (SV.str (false&&(false&&(false&&(false&&(false&&(false&&(false&&(false&&(false&&(false&&(false&&(false&&(false&&(false&&(false&&(false&&(false&&(false&&(false&&(false&&(false&&(false&&(false&&(false&&(false&&(false&&(false&&(false&&(false&&(false&&(false&&(false&&true)))))))))))))))))))))))))))))))) [UInt8.ofNat (u2.W 0 / 16777216% (256:Int)).toNat,UInt8.ofNat (u2.W 0 / 65536% (256:Int)).toNat,UInt8.ofNat (u2.W 0 / 256% (256:Int)).toNat,UInt8.ofNat (u2.W 0% 256).toNat,UInt8.ofNat (u2.W 1 / 16777216% (256:Int)).toNat,UInt8.ofNat (u2.W 1 / 65536% (256:Int)).toNat,UInt8.ofNat (u2.W 1 / 256% (256:Int)).toNat,UInt8.ofNat (u2.W 1% 256).toNat,UInt8.ofNat (u2.W 2 / 16777216% (256:Int)).toNat,UInt8.ofNat (u2.W 2 / 65536% (256:Int)).toNat,UInt8.ofNat (u2.W 2 / 256% (256:Int)).toNat,UInt8.ofNat (u2.W 2% 256).toNat,UInt8.ofNat (u2.W 3 / 16777216% (256:Int)).toNat,UInt8.ofNat (u2.W 3 / 65536% (256:Int)).toNat,UInt8.ofNat (u2.W 3 / 256% (256:Int)).toNat,UInt8.ofNat (u2.W 3% 256).toNat,UInt8.ofNat (u2.W 4 / 16777216% (256:Int)).toNat,UInt8.ofNat (u2.W 4 / 65536% (256:Int)).toNat,UInt8.ofNat (u2.W 4 / 256% (256:Int)).toNat,UInt8.ofNat (u2.W 4% 256).toNat,UInt8.ofNat (u2.W 5 / 16777216% (256:Int)).toNat,UInt8.ofNat (u2.W 5 / 65536% (256:Int)).toNat,UInt8.ofNat (u2.W 5 / 256% (256:Int)).toNat,UInt8.ofNat (u2.W 5% 256).toNat,UInt8.ofNat (u2.W 6 / 16777216% (256:Int)).toNat,UInt8.ofNat (u2.W 6 / 65536% (256:Int)).toNat,UInt8.ofNat (u2.W 6 / 256% (256:Int)).toNat,UInt8.ofNat (u2.W 6% 256).toNat,UInt8.ofNat (u2.W 7 / 16777216% (256:Int)).toNat,UInt8.ofNat (u2.W 7 / 65536% (256:Int)).toNat,UInt8.ofNat (u2.W 7 / 256% (256:Int)).toNat,UInt8.ofNat (u2.W 7% 256).toNat]) (SV.str false (cL T))))) (fun(n0:Nat) (u4:Sh×List UInt8)=>SV.int .u8 false (u4.fst.B n0)))) (fun(n0:Nat) (u4:Sh×List UInt8)=>SV.int .u32 false (u4.fst.W n0)))) (fun(n0:Nat)=>SV.int .u8 false (x.B n0)))) (fun(n0:Nat)=>SV.int .u32 false (x.W n0))):=by kernel_rfl
theorem XI (n:Nat)(f:Nat->List UInt8)(z:Bool)(o c:Nat)(key:Option Nat):VC.holds (gJ (Re n f) 25 Tryz.f25 [.bP 0 1 z o 0 n c] [⟨key,z,o,n,c,[.str f]⟩] (.ret (.str false (cL (flat (gr f 0 n))))))=((fun R0:Nat->SV=>((fun R1:Nat->(Nat×Sh)->SV=>((fun R2:Nat->(Nat×Sh)->SV=>((fun R3:Nat->(Nat×Sh)->SV=>((fun R4:Nat->(Nat×Sh)->SV=>((fun R5:Nat->(Sh×List UInt8)->SV=>((fun R6:Nat->(Sh×List UInt8)->SV=>((fun R7:Nat->(Sh)->SV=>((fun R8:Nat->(Sh)->SV=>((fun R9:Nat->(Nat×Sh)->SV=>((fun R10:Nat->(Nat×Sh)->SV=>((fun R11:Nat->(Sh×List UInt8)->SV=>((fun R12:Nat->(Sh×List UInt8)->SV=>((fun P0:(Nat×Sh)->SB=>(((∃(u6:Nat×Sh),(u6.fst<=n/\AQ u6.snd (flat (gr f 0 u6.fst)))/\0=(u6.fst:Int) /\ah (SB.cells [R0 1779033703,R0 3144134277,R0 1013904242,R0 2773480762,R0 1359893119,R0 2600822924,R0 528734635,R0 1541459225,SV.int .u8 true 0,SV.int .u8 true 0,SV.int .u8 true 0,SV.int .u8 true 0,SV.int .u8 true 0,SV.int .u8 true 0,SV.int .u8 true 0,SV.int .u8 true 0,SV.int .u8 true 0,SV.int .u8 true 0,SV.int .u8 true 0,SV.int .u8 true 0,SV.int .u8 true 0,SV.int .u8 true 0,SV.int .u8 true 0,SV.int .u8 true 0,SV.int .u8 true 0,SV.int .u8 true 0,SV.int .u8 true 0,SV.int .u8 true 0,SV.int .u8 true 0,SV.int .u8 true 0,SV.int .u8 true 0,SV.int .u8 true 0,SV.int .u8 true 0,SV.int .u8 true 0,SV.int .u8 true 0,SV.int .u8 true 0,SV.int .u8 true 0,SV.int .u8 true 0,SV.int .u8 true 0,SV.int .u8 true 0,SV.int .u8 true 0,SV.int .u8 true 0,SV.int .u8 true 0,SV.int .u8 true 0,SV.int .u8 true 0,SV.int .u8 true 0,SV.int .u8 true 0,SV.int .u8 true 0,SV.int .u8 true 0,SV.int .u8 true 0,SV.int .u8 true 0,SV.int .u8 true 0,SV.int .u8 true 0,SV.int .u8 true 0,SV.int .u8 true 0,SV.int .u8 true 0,SV.int .u8 true 0,SV.int .u8 true 0,SV.int .u8 true 0,SV.int .u8 true 0,SV.int .u8 true 0,SV.int .u8 true 0,SV.int .u8 true 0,SV.int .u8 true 0,SV.int .u8 true 0,SV.int .u8 true 0,SV.int .u8 true 0,SV.int .u8 true 0,SV.int .u8 true 0,SV.int .u8 true 0,SV.int .u8 true 0,SV.int .u8 true 0,SV.int .i64 true 0,SV.int .u64 true 0] 74 171) (SB.cells [R1 0 u6,R1 1 u6,R1 2 u6,R1 3 u6,R1 4 u6,R1 5 u6,R1 6 u6,R1 7 u6,R2 0 u6,R2 1 u6,R2 2 u6,R2 3 u6,R2 4 u6,R2 5 u6,R2 6 u6,R2 7 u6,R2 8 u6,R2 9 u6,R2 10 u6,R2 11 u6,R2 12 u6,R2 13 u6,R2 14 u6,R2 15 u6,R2 16 u6,R2 17 u6,R2 18 u6,R2 19 u6,R2 20 u6,R2 21 u6,R2 22 u6,R2 23 u6,R2 24 u6,R2 25 u6,R2 26 u6,R2 27 u6,R2 28 u6,R2 29 u6,R2 30 u6,R2 31 u6,R2 32 u6,R2 33 u6,R2 34 u6,R2 35 u6,R2 36 u6,R2 37 u6,R2 38 u6,R2 39 u6,R2 40 u6,R2 41 u6,R2 42 u6,R2 43 u6,R2 44 u6,R2 45 u6,R2 46 u6,R2 47 u6,R2 48 u6,R2 49 u6,R2 50 u6,R2 51 u6,R2 52 u6,R2 53 u6,R2 54 u6,R2 55 u6,R2 56 u6,R2 57 u6,R2 58 u6,R2 59 u6,R2 60 u6,R2 61 u6,R2 62 u6,R2 63 u6,SV.int .i64 false u6.snd.held,SV.int .u64 false u6.snd.size] 74 171) /\ah {key:=key,z:=z,o:=o,n:=n,c:=c,av:=[au.str f]:Seen}.B {key:=key,z:=z,o:=o,n:=n,c:=c,av:=[au.str f]:Seen}.B/\True)/\∀(u5:Nat×Sh),u5.fst<=n/\AQ u5.snd (flat (gr f 0 u5.fst))->(decide ((u5.fst:Int)<(n:Int))=true->(0<=(u5.fst:Int)/\(u5.fst:Int)<(n:Int))/\(o=o/\0+(u5.fst:Int).toNat<n) /\∃(u4:Sh×List UInt8),ah (P0 u5) (SB.cells [R5 0 u4,R5 1 u4,R5 2 u4,R5 3 u4,R5 4 u4,R5 5 u4,R5 6 u4,R5 7 u4,R6 0 u4,R6 1 u4,R6 2 u4,R6 3 u4,R6 4 u4,R6 5 u4,R6 6 u4,R6 7 u4,R6 8 u4,R6 9 u4,R6 10 u4,R6 11 u4,R6 12 u4,R6 13 u4,R6 14 u4,R6 15 u4,R6 16 u4,R6 17 u4,R6 18 u4,R6 19 u4,R6 20 u4,R6 21 u4,R6 22 u4,R6 23 u4,R6 24 u4,R6 25 u4,R6 26 u4,R6 27 u4,R6 28 u4,R6 29 u4,R6 30 u4,R6 31 u4,R6 32 u4,R6 33 u4,R6 34 u4,R6 35 u4,R6 36 u4,R6 37 u4,R6 38 u4,R6 39 u4,R6 40 u4,R6 41 u4,R6 42 u4,R6 43 u4,R6 44 u4,R6 45 u4,R6 46 u4,R6 47 u4,R6 48 u4,R6 49 u4,R6 50 u4,R6 51 u4,R6 52 u4,R6 53 u4,R6 54 u4,R6 55 u4,R6 56 u4,R6 57 u4,R6 58 u4,R6 59 u4,R6 60 u4,R6 61 u4,R6 62 u4,R6 63 u4,SV.int .i64 false u4.fst.held,SV.int .u64 false u4.fst.size] 74 171)/\(AQ u4.fst u4.snd/\(f (0+(u5.fst:Int).toNat)).length<1152921504606846976)/\∀(u3:Sh),AQ u3 (u4.snd++f (0+(u5.fst:Int).toNat))->((-9223372036854775808:Int)<=(u5.fst:Int)+1/\(u5.fst:Int)+1<=(9223372036854775807:Int))/\∃(u2:Nat×Sh),((u2.fst<=n/\AQ u2.snd (flat (gr f 0 u2.fst)))/\n - u2.fst<n - u5.fst) /\(u5.fst:Int)+1=(u2.fst:Int) /\ah (SB.cells [R7 0 u3,R7 1 u3,R7 2 u3,R7 3 u3,R7 4 u3,R7 5 u3,R7 6 u3,R7 7 u3,R8 0 u3,R8 1 u3,R8 2 u3,R8 3 u3,R8 4 u3,R8 5 u3,R8 6 u3,R8 7 u3,R8 8 u3,R8 9 u3,R8 10 u3,R8 11 u3,R8 12 u3,R8 13 u3,R8 14 u3,R8 15 u3,R8 16 u3,R8 17 u3,R8 18 u3,R8 19 u3,R8 20 u3,R8 21 u3,R8 22 u3,R8 23 u3,R8 24 u3,R8 25 u3,R8 26 u3,R8 27 u3,R8 28 u3,R8 29 u3,R8 30 u3,R8 31 u3,R8 32 u3,R8 33 u3,R8 34 u3,R8 35 u3,R8 36 u3,R8 37 u3,R8 38 u3,R8 39 u3,R8 40 u3,R8 41 u3,R8 42 u3,R8 43 u3,R8 44 u3,R8 45 u3,R8 46 u3,R8 47 u3,R8 48 u3,R8 49 u3,R8 50 u3,R8 51 u3,R8 52 u3,R8 53 u3,R8 54 u3,R8 55 u3,R8 56 u3,R8 57 u3,R8 58 u3,R8 59 u3,R8 60 u3,R8 61 u3,R8 62 u3,R8 63 u3,SV.int .i64 false u3.held,SV.int .u64 false u3.size] 74 171) (SB.cells [R9 0 u2,R9 1 u2,R9 2 u2,R9 3 u2,R9 4 u2,R9 5 u2,R9 6 u2,R9 7 u2,R10 0 u2,R10 1 u2,R10 2 u2,R10 3 u2,R10 4 u2,R10 5 u2,R10 6 u2,R10 7 u2,R10 8 u2,R10 9 u2,R10 10 u2,R10 11 u2,R10 12 u2,R10 13 u2,R10 14 u2,R10 15 u2,R10 16 u2,R10 17 u2,R10 18 u2,R10 19 u2,R10 20 u2,R10 21 u2,R10 22 u2,R10 23 u2,R10 24 u2,R10 25 u2,R10 26 u2,R10 27 u2,R10 28 u2,R10 29 u2,R10 30 u2,R10 31 u2,R10 32 u2,R10 33 u2,R10 34 u2,R10 35 u2,R10 36 u2,R10 37 u2,R10 38 u2,R10 39 u2,R10 40 u2,R10 41 u2,R10 42 u2,R10 43 u2,R10 44 u2,R10 45 u2,R10 46 u2,R10 47 u2,R10 48 u2,R10 49 u2,R10 50 u2,R10 51 u2,R10 52 u2,R10 53 u2,R10 54 u2,R10 55 u2,R10 56 u2,R10 57 u2,R10 58 u2,R10 59 u2,R10 60 u2,R10 61 u2,R10 62 u2,R10 63 u2,SV.int .i64 false u2.snd.held,SV.int .u64 false u2.snd.size] 74 171) /\ah {key:=key,z:=z,o:=o,n:=n,c:=c,av:=[au.str f]:Seen}.B {key:=key,z:=z,o:=o,n:=n,c:=c,av:=[au.str f]:Seen}.B/\True)/\(decide ((u5.fst:Int)<(n:Int))=false->∃(u1:Sh×List UInt8),ah (P0 u5) (SB.cells [R11 0 u1,R11 1 u1,R11 2 u1,R11 3 u1,R11 4 u1,R11 5 u1,R11 6 u1,R11 7 u1,R12 0 u1,R12 1 u1,R12 2 u1,R12 3 u1,R12 4 u1,R12 5 u1,R12 6 u1,R12 7 u1,R12 8 u1,R12 9 u1,R12 10 u1,R12 11 u1,R12 12 u1,R12 13 u1,R12 14 u1,R12 15 u1,R12 16 u1,R12 17 u1,R12 18 u1,R12 19 u1,R12 20 u1,R12 21 u1,R12 22 u1,R12 23 u1,R12 24 u1,R12 25 u1,R12 26 u1,R12 27 u1,R12 28 u1,R12 29 u1,R12 30 u1,R12 31 u1,R12 32 u1,R12 33 u1,R12 34 u1,R12 35 u1,R12 36 u1,R12 37 u1,R12 38 u1,R12 39 u1,R12 40 u1,R12 41 u1,R12 42 u1,R12 43 u1,R12 44 u1,R12 45 u1,R12 46 u1,R12 47 u1,R12 48 u1,R12 49 u1,R12 50 u1,R12 51 u1,R12 52 u1,R12 53 u1,R12 54 u1,R12 55 u1,R12 56 u1,R12 57 u1,R12 58 u1,R12 59 u1,R12 60 u1,R12 61 u1,R12 62 u1,R12 63 u1,SV.int .i64 false u1.fst.held,SV.int .u64 false u1.fst.size] 74 171)/\(AQ u1.fst u1.snd/\u1.snd.length<1152921504606846976)/\∀(_:Unit),True ->af (FZ 1 (SV.str false (cL u1.snd))) (SV.str false (cL (flat (gr f 0 n)))))))) (fun(u5:Nat×Sh)=>(SB.cells [R3 0 u5,R3 1 u5,R3 2 u5,R3 3 u5,R3 4 u5,R3 5 u5,R3 6 u5,R3 7 u5,R4 0 u5,R4 1 u5,R4 2 u5,R4 3 u5,R4 4 u5,R4 5 u5,R4 6 u5,R4 7 u5,R4 8 u5,R4 9 u5,R4 10 u5,R4 11 u5,R4 12 u5,R4 13 u5,R4 14 u5,R4 15 u5,R4 16 u5,R4 17 u5,R4 18 u5,R4 19 u5,R4 20 u5,R4 21 u5,R4 22 u5,R4 23 u5,R4 24 u5,R4 25 u5,R4 26 u5,R4 27 u5,R4 28 u5,R4 29 u5,R4 30 u5,R4 31 u5,R4 32 u5,R4 33 u5,R4 34 u5,R4 35 u5,R4 36 u5,R4 37 u5,R4 38 u5,R4 39 u5,R4 40 u5,R4 41 u5,R4 42 u5,R4 43 u5,R4 44 u5,R4 45 u5,R4 46 u5,R4 47 u5,R4 48 u5,R4 49 u5,R4 50 u5,R4 51 u5,R4 52 u5,R4 53 u5,R4 54 u5,R4 55 u5,R4 56 u5,R4 57 u5,R4 58 u5,R4 59 u5,R4 60 u5,R4 61 u5,R4 62 u5,R4 63 u5,SV.int .i64 false u5.snd.held,SV.int .u64 false u5.snd.size] 74 171)))) (fun(n0:Nat) (u1:Sh×List UInt8)=>SV.int .u8 false (u1.fst.B n0)))) (fun(n0:Nat) (u1:Sh×List UInt8)=>SV.int .u32 false (u1.fst.W n0)))) (fun(n0:Nat) (u2:Nat×Sh)=>SV.int .u8 false (u2.snd.B n0)))) (fun(n0:Nat) (u2:Nat×Sh)=>SV.int .u32 false (u2.snd.W n0)))) (fun(n0:Nat) (u3:Sh)=>SV.int .u8 false (u3.B n0)))) (fun(n0:Nat) (u3:Sh)=>SV.int .u32 false (u3.W n0)))) (fun(n0:Nat) (u4:Sh×List UInt8)=>SV.int .u8 false (u4.fst.B n0)))) (fun(n0:Nat) (u4:Sh×List UInt8)=>SV.int .u32 false (u4.fst.W n0)))) (fun(n0:Nat) (u5:Nat×Sh)=>SV.int .u8 false (u5.snd.B n0)))) (fun(n0:Nat) (u5:Nat×Sh)=>SV.int .u32 false (u5.snd.W n0)))) (fun(n0:Nat) (u6:Nat×Sh)=>SV.int .u8 false (u6.snd.B n0)))) (fun(n0:Nat) (u6:Nat×Sh)=>SV.int .u32 false (u6.snd.W n0)))) (fun(n0:Nat)=>SV.int .u32 true n0)):=by kernel_rfl
theorem KG (z:Nat)(n:Int):cO (fun(j:Nat)=>if j=0+(1+(z:Int)+7).toNat then n / 1% 256 else if j=0+(1+(z:Int)+6).toNat then n / 256% 256 else if j=0+(1+(z:Int)+5).toNat then n / 65536% 256 else if j=0+(1+(z:Int)+4).toNat then n / 16777216% 256 else if j=0+(1+(z:Int)+3).toNat then n / 4294967296% 256 else if j=0+(1+(z:Int)+2).toNat then n / 1099511627776% 256 else if j=0+(1+(z:Int)+1).toNat then n / 281474976710656% 256 else if j=0+(1+(z:Int)+0).toNat then n / 72057594037927936% 256 else if j=0 then 128 else 0) 0 (1+(z:Int)+8).toNat
  = 128::(List.replicate z 0++EL n):=by
 rw[show(1+(z:Int)+8).toNat=z+9 by omega,show 0+(1+(z:Int)+7).toNat=z+8 by omega,show 0+(1+(z:Int)+6).toNat=z+7 by omega,show 0+(1+(z:Int)+5).toNat=z+6 by omega,
  show 0+(1+(z:Int)+4).toNat=z+5 by omega,show 0+(1+(z:Int)+3).toNat=z+4 by omega,show 0+(1+(z:Int)+2).toNat=z+3 by omega,show 0+(1+(z:Int)+1).toNat=z+2 by omega,show 0+(1+(z:Int)+0).toNat=z+1 by omega]
 apply List.ext_getElem?
 intro i
 unfold cO
 rw[List.getElem?_map]
 by_cases hi:i<z+9
 ·rw[List.getElem?_range hi]
  simp only[Option.map_some,Nat.zero_add]
  cases i with
  | zero =>
    rw[if_neg (by omega),if_neg (by omega),if_neg (by omega),if_neg (by omega),if_neg (by omega),if_neg (by omega),if_neg (by omega),if_neg (by omega),if_pos rfl];rfl
  | succ i =>
    rw[List.getElem?_cons_succ]
    by_cases hz:i<z
    ·rw[List.getElem?_append_left (by simpa using hz),List.getElem?_replicate,if_pos hz,if_neg (by omega),if_neg (by omega),if_neg (by omega),if_neg (by omega),if_neg (by omega),if_neg (by omega),if_neg (by omega),if_neg (by omega),if_neg (by omega)];rfl
    ·rw[List.getElem?_append_right (by simp;omega),List.length_replicate]
     obtain⟨k,rfl⟩: ∃ k,i=z+k:=⟨i - z,by omega⟩
     rw[Nat.add_sub_cancel_left]
     have hk:k=0∨k=1∨k=2∨k=3∨k=4∨k=5∨k=6∨k=7:=by omega
     rcases hk with rfl | rfl | rfl | rfl | rfl | rfl | rfl | rfl
     ·rw[if_neg (by omega),if_neg (by omega),if_neg (by omega),if_neg (by omega),if_neg (by omega),if_neg (by omega),if_neg (by omega),if_pos (by omega)];rfl
     ·rw[if_neg (by omega),if_neg (by omega),if_neg (by omega),if_neg (by omega),if_neg (by omega),if_neg (by omega),if_pos (by omega)];rfl
     ·rw[if_neg (by omega),if_neg (by omega),if_neg (by omega),if_neg (by omega),if_neg (by omega),if_pos (by omega)];rfl
     ·rw[if_neg (by omega),if_neg (by omega),if_neg (by omega),if_neg (by omega),if_pos (by omega)];rfl
     ·rw[if_neg (by omega),if_neg (by omega),if_neg (by omega),if_pos (by omega)];rfl
     ·rw[if_neg (by omega),if_neg (by omega),if_pos (by omega)];rfl
     ·rw[if_neg (by omega),if_pos (by omega)];rfl
     ·rw[if_pos (by omega)];rfl
 ·rw[List.getElem?_eq_none (by simpa using hi),List.getElem?_eq_none (by simp[EL];omega)];rfl
theorem LI (T:List UInt8):(J0 T).length<100:=by
 simp only[J0,EL,List.length_cons,List.length_append,List.length_replicate,List.length_nil,uZ];omega
theorem Lj {x:Sh}{T:List UInt8}(hx:AQ x T)(_hT:T.length<1152921504606846976) :
  aA (n8 J7 61 Tryz.f61 [.ptr 0 true 0] uv (x,T) (fun _:Unit=>(True,.str false (cL T),(x,T)))):=by
 refine aA.of_eq (Xc x T) ?_
 dsimp only
 have hh:=hx.1.h
 have hz:(119 - x.held)% 64=(uZ T:Int):=by rw[hh];unfold uZ;omega
 have hl:uZ T<64:=Nat.mod_lt _ (by decide)
 have hb:x.held<64/\0<=x.held:=by omega
 have hs:=hx.2
 have ht:J0 T=128::(List.replicate (uZ T) 0++EL (x.size*8% 18446744073709551616)):=by rw[hs];rfl
 rw[hz]
 refine⟨by omega,by omega,by omega,by omega,by omega,by omega,by omega,by omega,by omega,by omega,by omega,by omega,by omega,by omega,by omega,by omega,by omega,by omega,by omega,by omega,by omega,by omega,by omega,by omega,by omega,by omega,by omega,by omega,by omega,by omega,by omega,by omega,by omega,by omega,by omega,by omega,by omega,by omega,by omega,by omega,(x,T),ah.refl _,⟨hx,?_⟩,fun y hy=>⟨(),trivial,ah.refl _,?_⟩⟩
 ·rw[KG,← ht]
  have:=LI T
  omega
 ·rw[KG,← ht] at hy
  have hy:AQ y (Vt T):=hy
  have w:=hy.1.w
  refine fO ?_
  unfold cL W0
  rw[← w 0 (by decide),← w 1 (by decide),← w 2 (by decide),← w 3 (by decide),← w 4 (by decide),← w 5 (by decide),← w 6 (by decide),← w 7 (by decide)]
theorem Ut:aB Tryz.prog 61 (nP uv C'):=by
 refine Dg (n:=20) (fn:=Tryz.f61) Tryz.func61 (by kernel_rfl) (by kernel_rfl) Ko ?_
 intro args g x h hp
 unfold C' at h
 split at h
 ·injection h with h;subst h
  obtain⟨x,T⟩:=x
  exact⟨J7,[.ptr 0 true 0],Wl,fun E=>rfl,rfl,fun _=>rfl,Lj hp.1 hp.2⟩
 ·cases h
theorem LS:bl Tryz.prog (fun f=>aG f O2):=.cons Ut (nv _ _) Cg
theorem Vh (n:Nat)(f:Nat->List UInt8):Sx.Good Tryz.prog (Re n f):=.of bS LS bt
theorem Ty:AQ ⟨Qh,fun _=>0,0,0⟩ []:=by
 refine⟨⟨⟨by decide,fun j _=>by show(0:Int)<=0/\(0:Int)<=255;decide⟩,fun j _=>rfl,fun j hj=>absurd hj (Nat.not_lt_zero _),rfl⟩,rfl⟩
theorem rO (f:Nat->List UInt8)(i:Nat):flat (gr f 0 (i+1))=flat (gr f 0 i)++f i:=by
 unfold flat gr
 rw[List.range_succ]
 simp
theorem Dt (f:Nat->List UInt8): ∀ {i n:Nat},i<=n->(flat (gr f 0 i)).length<=(flat (gr f 0 n)).length:=by
 intro i n h
 induction n with
 | zero=>obtain rfl:i=0:=by omega
         exact Nat.le_refl _
 | succ n ih =>
   by_cases e:i=n+1
   ·subst e;exact Nat.le_refl _
   ·have:=ih (by omega)
    rw[rO,List.length_append];omega
theorem Pq (n:Nat)(f:Nat->List UInt8)(z:Bool)(o c:Nat)(key:Option Nat)(h:(flat (gr f 0 n)).length<1152921504606846976)(hn:n<1152921504606846976) :
  aA (gJ (Re n f) 25 Tryz.f25 [.bP 0 1 z o 0 n c] [⟨key,z,o,n,c,[.str f]⟩] (.ret (.str false (cL (flat (gr f 0 n)))))):=by
 refine aA.of_eq (XI n f z o c key) ?_
 dsimp only
 refine⟨⟨(0,⟨Qh,fun _=>0,0,0⟩),⟨Nat.zero_le _,Ty⟩,rfl,Sx.ah.cells (fun E=>rfl) rfl,ah.refl _,trivial⟩,fun g hg=>⟨fun a=> ?_,fun a=> ?_⟩⟩
 ·have a:=of_decide_eq_true a
  have h1:=Dt f (i:=g.1+1) (n:=n) (by omega)
  rw[rO,List.length_append] at h1
  rw[Int.toNat_natCast,Nat.zero_add]
  refine⟨by omega,⟨rfl,by omega⟩,(g.2,flat (gr f 0 g.1)),ah.refl _,⟨hg.2,by omega⟩,fun y hy=>⟨by omega,(g.1+1,y),⟨⟨by show g.1+1<=n;omega,?_⟩,by show n - (g.1+1)<n - g.1;omega⟩,by show(g.1:Int)+1=((g.1+1:Nat):Int);omega,ah.refl _,ah.refl _,trivial⟩⟩
  show AQ y (flat (gr f 0 (g.1+1)))
  rw[rO];exact hy
 ·have a:=of_decide_eq_false a
  have hg1:=hg.1
  have e:g.1=n:=by omega
  refine⟨(g.2,flat (gr f 0 g.1)),ah.refl _,⟨hg.2,by rw[e];exact h⟩,fun _ _=> ?_⟩
  rw[e];exact fun _=>rfl
theorem Ro:aB Tryz.prog 25 (pn Gq Rf):=by
 refine RB (fD (n:=20) (fn:=Tryz.f25) Tryz.func25 (by kernel_rfl) (by kernel_rfl) ?_)
 intro vs l q a h hq
 unfold FW at h
 split at h
 ·rename_i n f r hx
  obtain⟨z,o,c,key⟩:=r
  injection h with h;injection h with h1 h2;subst h1;subst h2
  obtain⟨e1,e2⟩:=Rh hx
  rw[e1,e2]
  exact⟨_,Vh n f,rfl,rfl,Pq n f z o c key hq.1 (by have:=hq.2;rwa [mu] at this)⟩
 ·cases h
theorem Gp (T:List UInt8):(cL T).length=32:=rfl
noncomputable def ya:List (FuncId×PT):=(25,pn Gq Rf)::(155,cE (i6 9223372036854775808))::(127,cE (oE 9223372036854775808))::Iy 9223372036854775808
theorem qj:bl Tryz.prog (fun f=>aG f ya):=.cons Ro (oe _ _) (.cons (gG _) (cj _) (.cons (rz (gG _)) (cj _) (Ch (gG _))))
noncomputable def vW:ff:={cg with cI:=fun f=>aG f ya}
theorem Dd:Sx.Good Tryz.prog vW:=.of bS qj bt
def S9 (x:Nd):c6:=.fork (aS x) fun b=>match b with
 | true=>.ret (.aL [.str false (cu x),.int .i64 true 0])
 | false=>.ret (.aL [.str true [],.int .i64 true 1])
def mZ (g:Nd->Option (Prop×c6)):List SV->Option (Prop×c6)
 | [.agg l]=>(match Ii l with
   | some x=>g x
   | none=>none)
 | _=>none
theorem xU {g:Nd->Option (Prop×c6)}{args:List SV}{p:Prop}{v:c6}(h:mZ g args=some (p,v)): ∃ x,args=[x.sv]/\g x=some (p,v):=by
 unfold mZ at h
 split at h
 ·split at h
  ·rename_i x hx
   exact⟨x,by rw[tZ hx],h⟩
  ·cases h
 ·cases h
def dx (s:List UInt8):List UInt8:=if s.length<32 then s else ax (cL s)
def cm (a b:List UInt8):Bool:=!decide (a=b)&&decide (cL a=cL b)
def bh (r:Nat->List UInt8):Nat->Nat
 | 0=>0
 | i+1=>bif bI (r i)then bh r i+1 else bh r i
def dN (r:Nat->List UInt8):Nat->Nat->List UInt8
 | 0=>fun _=>[]
 | i+1=>fun j=>bif bI (r i)then(if j=bh r i then aa (r i)else dN r i j)else dN r i j
def wJ:Nat->Nd->Prop
 | 0,_=>False
 | L+1,x=>∀ j,j<16->x.r j=[]∨((x.r j).length<L/\(x.r j).length<32)
def oG (L:Nat):List SV->Option (Prop×SV):=dM fun x=>some (wJ L x,.aO)
noncomputable def Tn:bC :=
 {α:=Nat,pre:=fun _ i=>i<=16,nY:=fun _ i=>16 - i,fresh:=0,slots:=fun _ i=>[(7,.int .i64 false i)],mem:=fun _ _=>[]}
noncomputable def KF (L:Nat):ff:={cg with cI:=fun f=>aG f ((128,aU (oG L))::ya),br:=fun f=>if f=201 then [(1,always Tn)] else []}
noncomputable def Wt (x:Nd):bC :=
 {α:=Nat×Nat,pre:=fun _ g=>g.1<=16/\bh x.r g.1<=g.2,nY:=fun _ g=>16 - g.1,fresh:=1,slots:=fun _ g=>[(7,.int .i64 false g.1)],
  mem:=fun st g=>[(1,.cells [.bw st.nx 1 true 0 (bh x.r g.1) g.2] 1 29),(st.nx,.rows true (bh x.r g.1) [.str (dN x.r g.1)] false g.2 9)]}
noncomputable def JY (x:Nd):ff:={cg with cI:=fun f=>aG f ((128,aU (oG 64))::ya),br:=fun f=>if f=201 then [(1,always (Wt x))] else []}
def wY (x:Nd):c6:=.fork (aS x) fun b=>match b with
 | true=>.all Nat fun c=>.req (bh x.r 16<=c) (.new (fun k=>.bw k 1 true 0 (bh x.r 16) c) (.rows true (bh x.r 16) [.str (dN x.r 16)] false c 9))
 | false=>.ret .aO
theorem KS (x:Nd):VC.holds (fW vW 105 Tryz.f105 [x.sv] (S9 x))=((l7 9223372036854775808 fun(i:Nat)=>[x.r 0,x.r 1,x.r 2,x.r 3,x.r 4,x.r 5,x.r 6,x.r 7,x.r 8,x.r 9,x.r 10,x.r 11,x.r 12,x.r 13,x.r 14,x.r 15].getD i []) /\((!aS {k:=x.k,p:=x.p,v:=x.v,r:=fun(i:Nat)=>[x.r 0,x.r 1,x.r 2,x.r 3,x.r 4,x.r 5,x.r 6,x.r 7,x.r 8,x.r 9,x.r 10,x.r 11,x.r 12,x.r 13,x.r 14,x.r 15].getD i []:Nd})=true ->(aS x=true ->af (SV.aL [SV.str true [],SV.int .i64 true 1]) (SV.aL [SV.str false (cu x),SV.int .i64 true 0])) /\(aS x=false ->af (SV.aL [SV.str true [],SV.int .i64 true 1]) (SV.aL [SV.str true [],SV.int .i64 true 1]))) /\((!aS {k:=x.k,p:=x.p,v:=x.v,r:=fun(i:Nat)=>[x.r 0,x.r 1,x.r 2,x.r 3,x.r 4,x.r 5,x.r 6,x.r 7,x.r 8,x.r 9,x.r 10,x.r 11,x.r 12,x.r 13,x.r 14,x.r 15].getD i []:Nd})=false ->(((0:Int)<=x.k /\x.k<=(3:Int)) /\{k:=x.k,p:=x.p,v:=x.v,r:=fun(i:Nat)=>[x.r 0,x.r 1,x.r 2,x.r 3,x.r 4,x.r 5,x.r 6,x.r 7,x.r 8,x.r 9,x.r 10,x.r 11,x.r 12,x.r 13,x.r 14,x.r 15].getD i []:Nd}.mQ) /\(aS x=true ->af (SV.aL [SV.str false (cu {k:=x.k,p:=x.p,v:=x.v,r:=fun(i:Nat)=>[x.r 0,x.r 1,x.r 2,x.r 3,x.r 4,x.r 5,x.r 6,x.r 7,x.r 8,x.r 9,x.r 10,x.r 11,x.r 12,x.r 13,x.r 14,x.r 15].getD i []:Nd}),SV.int .i64 true 0]) (SV.aL [SV.str false (cu x),SV.int .i64 true 0])) /\(aS x=false ->af (SV.aL [SV.str false (cu {k:=x.k,p:=x.p,v:=x.v,r:=fun(i:Nat)=>[x.r 0,x.r 1,x.r 2,x.r 3,x.r 4,x.r 5,x.r 6,x.r 7,x.r 8,x.r 9,x.r 10,x.r 11,x.r 12,x.r 13,x.r 14,x.r 15].getD i []:Nd}),SV.int .i64 true 0]) (SV.aL [SV.str true [],SV.int .i64 true 1])))):=by kernel_rfl
theorem WN (s:List UInt8)(R:SV->Prop):VC.holds (dm vW 150 Tryz.f150 [.str false s] R)=((decide ((↑s.length:Int)<(32:Int))=true ->R (SV.str false s)) /\(decide ((↑s.length:Int)<(32:Int))=false ->(True /\Gq [s]) /\(32:Nat)<(1152921504606846976:Nat) /\R (SV.str false (ax (cL (flat [s])))))):=by kernel_rfl
theorem KT (a b:List UInt8)(R:SV->Prop):VC.holds (dm vW 24 Tryz.f24 [.str false a,.str false b] R)=(((!decide (a=b))=true ->(True /\Gq [a]) /\(True /\Gq [b]) /\R (SV.bool (false&&false) (decide (cL (flat [a])=cL (flat [b]))))) /\((!decide (a=b))=false ->R (SV.bool true false))):=by kernel_rfl
theorem UI (L:Nat)(x:Nd)(R:SV->Prop):VC.holds (dm (KF L) 128 Tryz.f128 [x.sv] R)=((fun Q0:SB=>((l7 9223372036854775808 fun(i:Nat)=>[x.r 0,x.r 1,x.r 2,x.r 3,x.r 4,x.r 5,x.r 6,x.r 7,x.r 8,x.r 9,x.r 10,x.r 11,x.r 12,x.r 13,x.r 14,x.r 15].getD i []) /\((!aS {k:=x.k,p:=x.p,v:=x.v,r:=fun(i:Nat)=>[x.r 0,x.r 1,x.r 2,x.r 3,x.r 4,x.r 5,x.r 6,x.r 7,x.r 8,x.r 9,x.r 10,x.r 11,x.r 12,x.r 13,x.r 14,x.r 15].getD i []:Nd})=true ->R SV.aO) /\((!aS {k:=x.k,p:=x.p,v:=x.v,r:=fun(i:Nat)=>[x.r 0,x.r 1,x.r 2,x.r 3,x.r 4,x.r 5,x.r 6,x.r 7,x.r 8,x.r 9,x.r 10,x.r 11,x.r 12,x.r 13,x.r 14,x.r 15].getD i []:Nd})=false ->∀(R_1:Loop),(∃(y:Nat),y<=(16:Nat) /\(0:Int)=(↑y:Int) /\ah (SB.loop LoopState.ready none R_1) (SB.loop LoopState.ready none R_1) /\ah Q0 Q0 /\ah (SB.cells SV.aO.cells 1 29) (SB.cells SV.aO.cells 1 29) /\ah (SB.cells x.sv.cells 19 138) (SB.cells x.sv.cells 19 138) /\True) /\∀(x_2:Nat),x_2<=(16:Nat) ->(decide ((↑x_2:Int)<(16:Int))=true ->((0:Int)<=(↑x_2:Int) /\(↑x_2:Int)<(16:Int) /\(↑x_2:Int)<(↑(16:Nat):Int)) /\((!decide (bq [x.r 0,x.r 1,x.r 2,x.r 3,x.r 4,x.r 5,x.r 6,x.r 7,x.r 8,x.r 9,x.r 10,x.r 11,x.r 12,x.r 13,x.r 14,x.r 15] (↑x_2:Int).toNat=[]))=true ->R_1=R_1 /\(bq [x.r 0,x.r 1,x.r 2,x.r 3,x.r 4,x.r 5,x.r 6,x.r 7,x.r 8,x.r 9,x.r 10,x.r 11,x.r 12,x.r 13,x.r 14,x.r 15] (↑x_2:Int).toNat).length<(9223372036854775808:Nat) /\(bI (bq [x.r 0,x.r 1,x.r 2,x.r 3,x.r 4,x.r 5,x.r 6,x.r 7,x.r 8,x.r 9,x.r 10,x.r 11,x.r 12,x.r 13,x.r 14,x.r 15] (↑x_2:Int).toNat)=true ->∀(c:Nat),(1:Nat)<=c ->((-9223372036854775808:Int)<=(↑x_2:Int)+(1:Int) /\(↑x_2:Int)+(1:Int)<=(9223372036854775807:Int)) /\∃(y:Nat),(y<=(16:Nat) /\(16:Nat) - y<(16:Nat) - x_2) /\(↑x_2:Int)+(1:Int)=(↑y:Int) /\ah (SB.loop LoopState.ready none R_1) (SB.loop LoopState.ready none R_1) /\ah Q0 Q0 /\ah (SB.cells [SV.slc ((0:Nat)+(1:Nat)+(1:Nat)+(1:Nat)+(1:Nat)+(0:Nat)+(1:Nat)) 0 1 false c] 1 29) (SB.cells [SV.aO] 1 29) /\ah (SB.cells x.sv.cells 19 138) (SB.cells x.sv.cells 19 138) /\True) /\(bI (bq [x.r 0,x.r 1,x.r 2,x.r 3,x.r 4,x.r 5,x.r 6,x.r 7,x.r 8,x.r 9,x.r 10,x.r 11,x.r 12,x.r 13,x.r 14,x.r 15] (↑x_2:Int).toNat)=false ->Rel 9223372036854775808 (bq [x.r 0,x.r 1,x.r 2,x.r 3,x.r 4,x.r 5,x.r 6,x.r 7,x.r 8,x.r 9,x.r 10,x.r 11,x.r 12,x.r 13,x.r 14,x.r 15] (↑x_2:Int).toNat) /\(bO (bq [x.r 0,x.r 1,x.r 2,x.r 3,x.r 4,x.r 5,x.r 6,x.r 7,x.r 8,x.r 9,x.r 10,x.r 11,x.r 12,x.r 13,x.r 14,x.r 15] (↑x_2:Int).toNat)=true ->wJ L {k:=(getD (bq [x.r 0,x.r 1,x.r 2,x.r 3,x.r 4,x.r 5,x.r 6,x.r 7,x.r 8,x.r 9,x.r 10,x.r 11,x.r 12,x.r 13,x.r 14,x.r 15] (↑x_2:Int).toNat)).k,p:=(getD (bq [x.r 0,x.r 1,x.r 2,x.r 3,x.r 4,x.r 5,x.r 6,x.r 7,x.r 8,x.r 9,x.r 10,x.r 11,x.r 12,x.r 13,x.r 14,x.r 15] (↑x_2:Int).toNat)).p,v:=(getD (bq [x.r 0,x.r 1,x.r 2,x.r 3,x.r 4,x.r 5,x.r 6,x.r 7,x.r 8,x.r 9,x.r 10,x.r 11,x.r 12,x.r 13,x.r 14,x.r 15] (↑x_2:Int).toNat)).v,r:=fun(i:Nat)=>[(getD (bq [x.r 0,x.r 1,x.r 2,x.r 3,x.r 4,x.r 5,x.r 6,x.r 7,x.r 8,x.r 9,x.r 10,x.r 11,x.r 12,x.r 13,x.r 14,x.r 15] (↑x_2:Int).toNat)).r 0,(getD (bq [x.r 0,x.r 1,x.r 2,x.r 3,x.r 4,x.r 5,x.r 6,x.r 7,x.r 8,x.r 9,x.r 10,x.r 11,x.r 12,x.r 13,x.r 14,x.r 15] (↑x_2:Int).toNat)).r 1,(getD (bq [x.r 0,x.r 1,x.r 2,x.r 3,x.r 4,x.r 5,x.r 6,x.r 7,x.r 8,x.r 9,x.r 10,x.r 11,x.r 12,x.r 13,x.r 14,x.r 15] (↑x_2:Int).toNat)).r 2,(getD (bq [x.r 0,x.r 1,x.r 2,x.r 3,x.r 4,x.r 5,x.r 6,x.r 7,x.r 8,x.r 9,x.r 10,x.r 11,x.r 12,x.r 13,x.r 14,x.r 15] (↑x_2:Int).toNat)).r 3,(getD (bq [x.r 0,x.r 1,x.r 2,x.r 3,x.r 4,x.r 5,x.r 6,x.r 7,x.r 8,x.r 9,x.r 10,x.r 11,x.r 12,x.r 13,x.r 14,x.r 15] (↑x_2:Int).toNat)).r 4,(getD (bq [x.r 0,x.r 1,x.r 2,x.r 3,x.r 4,x.r 5,x.r 6,x.r 7,x.r 8,x.r 9,x.r 10,x.r 11,x.r 12,x.r 13,x.r 14,x.r 15] (↑x_2:Int).toNat)).r 5,(getD (bq [x.r 0,x.r 1,x.r 2,x.r 3,x.r 4,x.r 5,x.r 6,x.r 7,x.r 8,x.r 9,x.r 10,x.r 11,x.r 12,x.r 13,x.r 14,x.r 15] (↑x_2:Int).toNat)).r 6,(getD (bq [x.r 0,x.r 1,x.r 2,x.r 3,x.r 4,x.r 5,x.r 6,x.r 7,x.r 8,x.r 9,x.r 10,x.r 11,x.r 12,x.r 13,x.r 14,x.r 15] (↑x_2:Int).toNat)).r 7,(getD (bq [x.r 0,x.r 1,x.r 2,x.r 3,x.r 4,x.r 5,x.r 6,x.r 7,x.r 8,x.r 9,x.r 10,x.r 11,x.r 12,x.r 13,x.r 14,x.r 15] (↑x_2:Int).toNat)).r 8,(getD (bq [x.r 0,x.r 1,x.r 2,x.r 3,x.r 4,x.r 5,x.r 6,x.r 7,x.r 8,x.r 9,x.r 10,x.r 11,x.r 12,x.r 13,x.r 14,x.r 15] (↑x_2:Int).toNat)).r 9,(getD (bq [x.r 0,x.r 1,x.r 2,x.r 3,x.r 4,x.r 5,x.r 6,x.r 7,x.r 8,x.r 9,x.r 10,x.r 11,x.r 12,x.r 13,x.r 14,x.r 15] (↑x_2:Int).toNat)).r 10,(getD (bq [x.r 0,x.r 1,x.r 2,x.r 3,x.r 4,x.r 5,x.r 6,x.r 7,x.r 8,x.r 9,x.r 10,x.r 11,x.r 12,x.r 13,x.r 14,x.r 15] (↑x_2:Int).toNat)).r 11,(getD (bq [x.r 0,x.r 1,x.r 2,x.r 3,x.r 4,x.r 5,x.r 6,x.r 7,x.r 8,x.r 9,x.r 10,x.r 11,x.r 12,x.r 13,x.r 14,x.r 15] (↑x_2:Int).toNat)).r 12,(getD (bq [x.r 0,x.r 1,x.r 2,x.r 3,x.r 4,x.r 5,x.r 6,x.r 7,x.r 8,x.r 9,x.r 10,x.r 11,x.r 12,x.r 13,x.r 14,x.r 15] (↑x_2:Int).toNat)).r 13,(getD (bq [x.r 0,x.r 1,x.r 2,x.r 3,x.r 4,x.r 5,x.r 6,x.r 7,x.r 8,x.r 9,x.r 10,x.r 11,x.r 12,x.r 13,x.r 14,x.r 15] (↑x_2:Int).toNat)).r 14,(getD (bq [x.r 0,x.r 1,x.r 2,x.r 3,x.r 4,x.r 5,x.r 6,x.r 7,x.r 8,x.r 9,x.r 10,x.r 11,x.r 12,x.r 13,x.r 14,x.r 15] (↑x_2:Int).toNat)).r 15].getD i []:Nd} /\some (SB.cells SV.aO.cells 1 29)=some (SB.cells SV.aO.cells 1 29) /\((-9223372036854775808:Int)<=(↑x_2:Int)+(1:Int) /\(↑x_2:Int)+(1:Int)<=(9223372036854775807:Int)) /\∃(y:Nat),(y<=(16:Nat) /\(16:Nat) - y<(16:Nat) - x_2) /\(↑x_2:Int)+(1:Int)=(↑y:Int) /\ah (SB.loop LoopState.ready none R_1) (SB.loop LoopState.ready none R_1) /\ah Q0 Q0 /\ah (SB.cells [SV.aO] 1 29) (SB.cells [SV.aO] 1 29) /\ah (SB.cells x.sv.cells 19 138) (SB.cells x.sv.cells 19 138) /\True) /\(bO (bq [x.r 0,x.r 1,x.r 2,x.r 3,x.r 4,x.r 5,x.r 6,x.r 7,x.r 8,x.r 9,x.r 10,x.r 11,x.r 12,x.r 13,x.r 14,x.r 15] (↑x_2:Int).toNat)=false ->wJ L {k:=(0:Int),p:=[],v:=[],r:=fun(i:Nat)=>[[],[],[],[],[],[],[],[],[],[],[],[],[],[],[],[]].getD i []:Nd} /\some (SB.cells SV.aO.cells 1 29)=some (SB.cells SV.aO.cells 1 29) /\((-9223372036854775808:Int)<=(↑x_2:Int)+(1:Int) /\(↑x_2:Int)+(1:Int)<=(9223372036854775807:Int)) /\∃(y:Nat),(y<=(16:Nat) /\(16:Nat) - y<(16:Nat) - x_2) /\(↑x_2:Int)+(1:Int)=(↑y:Int) /\ah (SB.loop LoopState.ready none R_1) (SB.loop LoopState.ready none R_1) /\ah Q0 Q0 /\ah (SB.cells [SV.aO] 1 29) (SB.cells [SV.aO] 1 29) /\ah (SB.cells x.sv.cells 19 138) (SB.cells x.sv.cells 19 138) /\True))) /\((!decide (bq [x.r 0,x.r 1,x.r 2,x.r 3,x.r 4,x.r 5,x.r 6,x.r 7,x.r 8,x.r 9,x.r 10,x.r 11,x.r 12,x.r 13,x.r 14,x.r 15] (↑x_2:Int).toNat=[]))=false ->((-9223372036854775808:Int)<=(↑x_2:Int)+(1:Int) /\(↑x_2:Int)+(1:Int)<=(9223372036854775807:Int)) /\∃(y:Nat),(y<=(16:Nat) /\(16:Nat) - y<(16:Nat) - x_2) /\(↑x_2:Int)+(1:Int)=(↑y:Int) /\ah (SB.loop LoopState.ready none R_1) (SB.loop LoopState.ready none R_1) /\ah Q0 Q0 /\ah (SB.cells SV.aO.cells 1 29) (SB.cells SV.aO.cells 1 29) /\ah (SB.cells x.sv.cells 19 138) (SB.cells x.sv.cells 19 138) /\True)) /\(decide ((↑x_2:Int)<(16:Int))=false ->R SV.aO)))) (SB.cells (SV.agg [SV.int .i64 false x.k,SV.str false x.p,SV.str false x.v,SV.str false (x.r 0),SV.str false (x.r 1),SV.str false (x.r 2),SV.str false (x.r 3),SV.str false (x.r 4),SV.str false (x.r 5),SV.str false (x.r 6),SV.str false (x.r 7),SV.str false (x.r 8),SV.str false (x.r 9),SV.str false (x.r 10),SV.str false (x.r 11),SV.str false (x.r 12),SV.str false (x.r 13),SV.str false (x.r 14),SV.str false (x.r 15)]).cells 19 238)):=by kernel_rfl
theorem O7 (x:Nd):VC.holds (fW (JY x) 128 Tryz.f128 [x.sv] (wY x))=((fun Q0:SB=>((l7 9223372036854775808 fun(i:Nat)=>[x.r 0,x.r 1,x.r 2,x.r 3,x.r 4,x.r 5,x.r 6,x.r 7,x.r 8,x.r 9,x.r 10,x.r 11,x.r 12,x.r 13,x.r 14,x.r 15].getD i []) /\((!aS {k:=x.k,p:=x.p,v:=x.v,r:=fun(i:Nat)=>[x.r 0,x.r 1,x.r 2,x.r 3,x.r 4,x.r 5,x.r 6,x.r 7,x.r 8,x.r 9,x.r 10,x.r 11,x.r 12,x.r 13,x.r 14,x.r 15].getD i []:Nd})=true ->(aS x=true ->∃(x_3:Nat),bh x.r (16:Nat)<=x_3 /\False) /\(aS x=false ->af SV.aO SV.aO)) /\((!aS {k:=x.k,p:=x.p,v:=x.v,r:=fun(i:Nat)=>[x.r 0,x.r 1,x.r 2,x.r 3,x.r 4,x.r 5,x.r 6,x.r 7,x.r 8,x.r 9,x.r 10,x.r 11,x.r 12,x.r 13,x.r 14,x.r 15].getD i []:Nd})=false ->∀(R:Loop),(∃(y:Nat×Nat),(y.fst<=(16:Nat) /\bh x.r y.fst<=y.snd) /\(0:Int)=(↑y.fst:Int) /\(1:Nat)=(1:Nat) /\bh x.r y.fst=(0:Nat) /\(SB.rows true (bh x.r y.fst) [au.str (dN x.r y.fst)] false y.snd 9).no=true /\ah (SB.loop LoopState.ready none R) (SB.loop LoopState.ready none R) /\ah Q0 Q0 /\ah (SB.cells x.sv.cells 19 138) (SB.cells x.sv.cells 19 138) /\True) /\∀(x_2:Nat×Nat),x_2.fst<=(16:Nat) /\bh x.r x_2.fst<=x_2.snd ->(decide ((↑x_2.fst:Int)<(16:Int))=true ->((0:Int)<=(↑x_2.fst:Int) /\(↑x_2.fst:Int)<(16:Int) /\(↑x_2.fst:Int)<(↑(16:Nat):Int)) /\((!decide (bq [x.r 0,x.r 1,x.r 2,x.r 3,x.r 4,x.r 5,x.r 6,x.r 7,x.r 8,x.r 9,x.r 10,x.r 11,x.r 12,x.r 13,x.r 14,x.r 15] (↑x_2.fst:Int).toNat=[]))=true ->R=R /\(bq [x.r 0,x.r 1,x.r 2,x.r 3,x.r 4,x.r 5,x.r 6,x.r 7,x.r 8,x.r 9,x.r 10,x.r 11,x.r 12,x.r 13,x.r 14,x.r 15] (↑x_2.fst:Int).toNat).length<(9223372036854775808:Nat) /\(bI (bq [x.r 0,x.r 1,x.r 2,x.r 3,x.r 4,x.r 5,x.r 6,x.r 7,x.r 8,x.r 9,x.r 10,x.r 11,x.r 12,x.r 13,x.r 14,x.r 15] (↑x_2.fst:Int).toNat)=true ->((0:Nat)+bh x.r x_2.fst<=bh x.r x_2.fst /\True /\(2:Nat)*(bh x.r x_2.fst+(1:Nat))*(16:Nat)<=(281474976710656:Nat) /\bh x.r x_2.fst+(1:Nat)<(9223372036854775808:Nat)) /\x_2.snd=x_2.snd*(1:Nat) /\∀(c:Nat),bh x.r x_2.fst+(1:Nat)<=c ->((-9223372036854775808:Int)<=(↑x_2.fst:Int)+(1:Int) /\(↑x_2.fst:Int)+(1:Int)<=(9223372036854775807:Int)) /\∃(y:Nat×Nat),((y.fst<=(16:Nat) /\bh x.r y.fst<=y.snd) /\(16:Nat) - y.fst<(16:Nat) - x_2.fst) /\(↑x_2.fst:Int)+(1:Int)=(↑y.fst:Int) /\(1:Nat)=(1:Nat) /\((0:Nat)=(0:Nat) /\bh x.r x_2.fst+(1:Nat)=bh x.r y.fst /\c=y.snd) /\True /\ah (SB.rows true (bh x.r x_2.fst+(1:Nat)) [au.str fun(j:Nat)=>if j<bh x.r x_2.fst then dN x.r x_2.fst j else bq [aa (bq [x.r 0,x.r 1,x.r 2,x.r 3,x.r 4,x.r 5,x.r 6,x.r 7,x.r 8,x.r 9,x.r 10,x.r 11,x.r 12,x.r 13,x.r 14,x.r 15] (↑x_2.fst:Int).toNat)] (j - bh x.r x_2.fst)] false (c*(1:Nat)) 9) (SB.rows true (bh x.r y.fst) [au.str (dN x.r y.fst)] false y.snd 9) /\ah (SB.loop LoopState.ready none R) (SB.loop LoopState.ready none R) /\ah Q0 Q0 /\ah (SB.cells x.sv.cells 19 138) (SB.cells x.sv.cells 19 138) /\True) /\(bI (bq [x.r 0,x.r 1,x.r 2,x.r 3,x.r 4,x.r 5,x.r 6,x.r 7,x.r 8,x.r 9,x.r 10,x.r 11,x.r 12,x.r 13,x.r 14,x.r 15] (↑x_2.fst:Int).toNat)=false ->Rel 9223372036854775808 (bq [x.r 0,x.r 1,x.r 2,x.r 3,x.r 4,x.r 5,x.r 6,x.r 7,x.r 8,x.r 9,x.r 10,x.r 11,x.r 12,x.r 13,x.r 14,x.r 15] (↑x_2.fst:Int).toNat) /\(bO (bq [x.r 0,x.r 1,x.r 2,x.r 3,x.r 4,x.r 5,x.r 6,x.r 7,x.r 8,x.r 9,x.r 10,x.r 11,x.r 12,x.r 13,x.r 14,x.r 15] (↑x_2.fst:Int).toNat)=true ->wJ 64 {k:=(getD (bq [x.r 0,x.r 1,x.r 2,x.r 3,x.r 4,x.r 5,x.r 6,x.r 7,x.r 8,x.r 9,x.r 10,x.r 11,x.r 12,x.r 13,x.r 14,x.r 15] (↑x_2.fst:Int).toNat)).k,p:=(getD (bq [x.r 0,x.r 1,x.r 2,x.r 3,x.r 4,x.r 5,x.r 6,x.r 7,x.r 8,x.r 9,x.r 10,x.r 11,x.r 12,x.r 13,x.r 14,x.r 15] (↑x_2.fst:Int).toNat)).p,v:=(getD (bq [x.r 0,x.r 1,x.r 2,x.r 3,x.r 4,x.r 5,x.r 6,x.r 7,x.r 8,x.r 9,x.r 10,x.r 11,x.r 12,x.r 13,x.r 14,x.r 15] (↑x_2.fst:Int).toNat)).v,r:=fun(i:Nat)=>[(getD (bq [x.r 0,x.r 1,x.r 2,x.r 3,x.r 4,x.r 5,x.r 6,x.r 7,x.r 8,x.r 9,x.r 10,x.r 11,x.r 12,x.r 13,x.r 14,x.r 15] (↑x_2.fst:Int).toNat)).r 0,(getD (bq [x.r 0,x.r 1,x.r 2,x.r 3,x.r 4,x.r 5,x.r 6,x.r 7,x.r 8,x.r 9,x.r 10,x.r 11,x.r 12,x.r 13,x.r 14,x.r 15] (↑x_2.fst:Int).toNat)).r 1,(getD (bq [x.r 0,x.r 1,x.r 2,x.r 3,x.r 4,x.r 5,x.r 6,x.r 7,x.r 8,x.r 9,x.r 10,x.r 11,x.r 12,x.r 13,x.r 14,x.r 15] (↑x_2.fst:Int).toNat)).r 2,(getD (bq [x.r 0,x.r 1,x.r 2,x.r 3,x.r 4,x.r 5,x.r 6,x.r 7,x.r 8,x.r 9,x.r 10,x.r 11,x.r 12,x.r 13,x.r 14,x.r 15] (↑x_2.fst:Int).toNat)).r 3,(getD (bq [x.r 0,x.r 1,x.r 2,x.r 3,x.r 4,x.r 5,x.r 6,x.r 7,x.r 8,x.r 9,x.r 10,x.r 11,x.r 12,x.r 13,x.r 14,x.r 15] (↑x_2.fst:Int).toNat)).r 4,(getD (bq [x.r 0,x.r 1,x.r 2,x.r 3,x.r 4,x.r 5,x.r 6,x.r 7,x.r 8,x.r 9,x.r 10,x.r 11,x.r 12,x.r 13,x.r 14,x.r 15] (↑x_2.fst:Int).toNat)).r 5,(getD (bq [x.r 0,x.r 1,x.r 2,x.r 3,x.r 4,x.r 5,x.r 6,x.r 7,x.r 8,x.r 9,x.r 10,x.r 11,x.r 12,x.r 13,x.r 14,x.r 15] (↑x_2.fst:Int).toNat)).r 6,(getD (bq [x.r 0,x.r 1,x.r 2,x.r 3,x.r 4,x.r 5,x.r 6,x.r 7,x.r 8,x.r 9,x.r 10,x.r 11,x.r 12,x.r 13,x.r 14,x.r 15] (↑x_2.fst:Int).toNat)).r 7,(getD (bq [x.r 0,x.r 1,x.r 2,x.r 3,x.r 4,x.r 5,x.r 6,x.r 7,x.r 8,x.r 9,x.r 10,x.r 11,x.r 12,x.r 13,x.r 14,x.r 15] (↑x_2.fst:Int).toNat)).r 8,(getD (bq [x.r 0,x.r 1,x.r 2,x.r 3,x.r 4,x.r 5,x.r 6,x.r 7,x.r 8,x.r 9,x.r 10,x.r 11,x.r 12,x.r 13,x.r 14,x.r 15] (↑x_2.fst:Int).toNat)).r 9,(getD (bq [x.r 0,x.r 1,x.r 2,x.r 3,x.r 4,x.r 5,x.r 6,x.r 7,x.r 8,x.r 9,x.r 10,x.r 11,x.r 12,x.r 13,x.r 14,x.r 15] (↑x_2.fst:Int).toNat)).r 10,(getD (bq [x.r 0,x.r 1,x.r 2,x.r 3,x.r 4,x.r 5,x.r 6,x.r 7,x.r 8,x.r 9,x.r 10,x.r 11,x.r 12,x.r 13,x.r 14,x.r 15] (↑x_2.fst:Int).toNat)).r 11,(getD (bq [x.r 0,x.r 1,x.r 2,x.r 3,x.r 4,x.r 5,x.r 6,x.r 7,x.r 8,x.r 9,x.r 10,x.r 11,x.r 12,x.r 13,x.r 14,x.r 15] (↑x_2.fst:Int).toNat)).r 12,(getD (bq [x.r 0,x.r 1,x.r 2,x.r 3,x.r 4,x.r 5,x.r 6,x.r 7,x.r 8,x.r 9,x.r 10,x.r 11,x.r 12,x.r 13,x.r 14,x.r 15] (↑x_2.fst:Int).toNat)).r 13,(getD (bq [x.r 0,x.r 1,x.r 2,x.r 3,x.r 4,x.r 5,x.r 6,x.r 7,x.r 8,x.r 9,x.r 10,x.r 11,x.r 12,x.r 13,x.r 14,x.r 15] (↑x_2.fst:Int).toNat)).r 14,(getD (bq [x.r 0,x.r 1,x.r 2,x.r 3,x.r 4,x.r 5,x.r 6,x.r 7,x.r 8,x.r 9,x.r 10,x.r 11,x.r 12,x.r 13,x.r 14,x.r 15] (↑x_2.fst:Int).toNat)).r 15].getD i []:Nd} /\some (SB.cells [SV.bw ((0:Nat)+(1:Nat)+(1:Nat)+(1:Nat)+(1:Nat)) 1 true 0 (bh x.r x_2.fst) x_2.snd] 1 29)=some (SB.cells [SV.bw ((0:Nat)+(1:Nat)+(1:Nat)+(1:Nat)+(1:Nat)) 1 true 0 (bh x.r x_2.fst) x_2.snd] 1 29) /\((0:Nat)+bh x.r x_2.fst<=bh x.r x_2.fst /\True /\(2:Nat)*(bh x.r x_2.fst+(0:Nat))*(16:Nat)<=(281474976710656:Nat) /\bh x.r x_2.fst+(0:Nat)<(9223372036854775808:Nat)) /\x_2.snd=x_2.snd*(1:Nat) /\∀(c:Nat),bh x.r x_2.fst+(0:Nat)<=c ->((-9223372036854775808:Int)<=(↑x_2.fst:Int)+(1:Int) /\(↑x_2.fst:Int)+(1:Int)<=(9223372036854775807:Int)) /\∃(y:Nat×Nat),((y.fst<=(16:Nat) /\bh x.r y.fst<=y.snd) /\(16:Nat) - y.fst<(16:Nat) - x_2.fst) /\(↑x_2.fst:Int)+(1:Int)=(↑y.fst:Int) /\(1:Nat)=(1:Nat) /\((0:Nat)=(0:Nat) /\bh x.r x_2.fst+(0:Nat)=bh x.r y.fst /\c=y.snd) /\True /\ah (SB.rows true (bh x.r x_2.fst+(0:Nat)) [au.str (dN x.r x_2.fst)] false (c*(1:Nat)) 9) (SB.rows true (bh x.r y.fst) [au.str (dN x.r y.fst)] false y.snd 9) /\ah (SB.loop LoopState.ready none R) (SB.loop LoopState.ready none R) /\ah Q0 Q0 /\ah (SB.cells x.sv.cells 19 138) (SB.cells x.sv.cells 19 138) /\True) /\(bO (bq [x.r 0,x.r 1,x.r 2,x.r 3,x.r 4,x.r 5,x.r 6,x.r 7,x.r 8,x.r 9,x.r 10,x.r 11,x.r 12,x.r 13,x.r 14,x.r 15] (↑x_2.fst:Int).toNat)=false ->wJ 64 {k:=(0:Int),p:=[],v:=[],r:=fun(i:Nat)=>[[],[],[],[],[],[],[],[],[],[],[],[],[],[],[],[]].getD i []:Nd} /\some (SB.cells [SV.bw ((0:Nat)+(1:Nat)+(1:Nat)+(1:Nat)+(1:Nat)) 1 true 0 (bh x.r x_2.fst) x_2.snd] 1 29)=some (SB.cells [SV.bw ((0:Nat)+(1:Nat)+(1:Nat)+(1:Nat)+(1:Nat)) 1 true 0 (bh x.r x_2.fst) x_2.snd] 1 29) /\((0:Nat)+bh x.r x_2.fst<=bh x.r x_2.fst /\True /\(2:Nat)*(bh x.r x_2.fst+(0:Nat))*(16:Nat)<=(281474976710656:Nat) /\bh x.r x_2.fst+(0:Nat)<(9223372036854775808:Nat)) /\x_2.snd=x_2.snd*(1:Nat) /\∀(c:Nat),bh x.r x_2.fst+(0:Nat)<=c ->((-9223372036854775808:Int)<=(↑x_2.fst:Int)+(1:Int) /\(↑x_2.fst:Int)+(1:Int)<=(9223372036854775807:Int)) /\∃(y:Nat×Nat),((y.fst<=(16:Nat) /\bh x.r y.fst<=y.snd) /\(16:Nat) - y.fst<(16:Nat) - x_2.fst) /\(↑x_2.fst:Int)+(1:Int)=(↑y.fst:Int) /\(1:Nat)=(1:Nat) /\((0:Nat)=(0:Nat) /\bh x.r x_2.fst+(0:Nat)=bh x.r y.fst /\c=y.snd) /\True /\ah (SB.rows true (bh x.r x_2.fst+(0:Nat)) [au.str (dN x.r x_2.fst)] false (c*(1:Nat)) 9) (SB.rows true (bh x.r y.fst) [au.str (dN x.r y.fst)] false y.snd 9) /\ah (SB.loop LoopState.ready none R) (SB.loop LoopState.ready none R) /\ah Q0 Q0 /\ah (SB.cells x.sv.cells 19 138) (SB.cells x.sv.cells 19 138) /\True))) /\((!decide (bq [x.r 0,x.r 1,x.r 2,x.r 3,x.r 4,x.r 5,x.r 6,x.r 7,x.r 8,x.r 9,x.r 10,x.r 11,x.r 12,x.r 13,x.r 14,x.r 15] (↑x_2.fst:Int).toNat=[]))=false ->((-9223372036854775808:Int)<=(↑x_2.fst:Int)+(1:Int) /\(↑x_2.fst:Int)+(1:Int)<=(9223372036854775807:Int)) /\∃(y:Nat×Nat),((y.fst<=(16:Nat) /\bh x.r y.fst<=y.snd) /\(16:Nat) - y.fst<(16:Nat) - x_2.fst) /\(↑x_2.fst:Int)+(1:Int)=(↑y.fst:Int) /\(1:Nat)=(1:Nat) /\((0:Nat)=(0:Nat) /\bh x.r x_2.fst=bh x.r y.fst /\x_2.snd=y.snd) /\True /\ah (SB.rows true (bh x.r x_2.fst) [au.str (dN x.r x_2.fst)] false x_2.snd 9) (SB.rows true (bh x.r y.fst) [au.str (dN x.r y.fst)] false y.snd 9) /\ah (SB.loop LoopState.ready none R) (SB.loop LoopState.ready none R) /\ah Q0 Q0 /\ah (SB.cells x.sv.cells 19 138) (SB.cells x.sv.cells 19 138) /\True)) /\(decide ((↑x_2.fst:Int)<(16:Int))=false ->(aS x=true ->∃(x_6:Nat),bh x.r (16:Nat)<=x_6 /\ah (SB.rows true (bh x.r x_2.fst) [au.str (dN x.r x_2.fst)] false x_2.snd 9) (SB.rows true (bh x.r 16) [au.str (dN x.r 16)] false x_6 9) /\af (SV.bw ((0:Nat)+(1:Nat)+(1:Nat)+(1:Nat)+(1:Nat)) 1 true 0 (bh x.r x_2.fst) x_2.snd) (SV.bw ((0:Nat)+(1:Nat)+(1:Nat)+(1:Nat)+(1:Nat)) 1 true 0 (bh x.r 16) x_6)) /\(aS x=false ->af (SV.bw ((0:Nat)+(1:Nat)+(1:Nat)+(1:Nat)+(1:Nat)) 1 true 0 (bh x.r x_2.fst) x_2.snd) SV.aO))))) (SB.cells (SV.agg [SV.int .i64 false x.k,SV.str false x.p,SV.str false x.v,SV.str false (x.r 0),SV.str false (x.r 1),SV.str false (x.r 2),SV.str false (x.r 3),SV.str false (x.r 4),SV.str false (x.r 5),SV.str false (x.r 6),SV.str false (x.r 7),SV.str false (x.r 8),SV.str false (x.r 9),SV.str false (x.r 10),SV.str false (x.r 11),SV.str false (x.r 12),SV.str false (x.r 13),SV.str false (x.r 14),SV.str false (x.r 15)]).cells 19 238)):=by kernel_rfl
structure Nd.C0 (x y:Nd):Prop where
 k:x.k=y.k
 p:x.p=y.p
 v:x.v=y.v
 r: ∀ j,j<16->x.r j=y.r j
theorem Eu {inl:List UInt8->Bool}{r r':Nat->List UInt8}: ∀ {n:Nat},(∀ j,j<n->r j=r' j)->iH inl r n=iH inl r' n/\cK r n=cK r' n
 | 0,_=>⟨rfl,rfl⟩
 | n+1,h=>by
   obtain⟨h1,h2⟩:=Eu (inl:=inl) (n:=n) fun j hj=>h j (by omega)
   simp only[iH,cK,h1,h2,h n (by omega),and_self]
theorem vE {x y:Nd}(h:x.C0 y):aS x=aS y:=by
 obtain⟨h1,h2⟩:=Eu (inl:=bO) h.r
 have e0:nR x=nR y:=by
  unfold nR
  rw[h.k,h.p,h.v]
  congr 3
  rw[Bool.eq_iff_iff,List.all_eq_true,List.all_eq_true]
  constructor
  ·intro g j hj;rw[← h.r j (List.mem_range.1 hj)];exact g j hj
  ·intro g j hj;rw[h.r j (List.mem_range.1 hj)];exact g j hj
 have e1:js x=js y:=by unfold js fZ;rw[h.p,h.v,ew h.r]
 have e2:mJ bO x=mJ bO y:=by unfold mJ fZ;rw[h.p,h.v,ew h.r,h.r 0 (by decide)]
 have e3:c7 bO x=c7 bO y:=by unfold c7;rw[h.p,h.v,h1,h2]
 unfold aS gC
 rw[h.k,e0,e1,e2,e3]
theorem Kx {x y:Nd}(h:x.C0 y):cu x=cu y:=by
 have e1:iI x=iI y:=by unfold iI cD;rw[h.p,h.v]
 have e2:nX x=nX y:=by unfold nX cD;rw[h.p,h.r 0 (by decide)]
 have e3:eF x=eF y:=by
  have hb: ∀ j,j<16->aQ x.r 16 j=aQ y.r 16 j:=fun j hj=>by unfold aQ;rw[h.r j hj]
  unfold eF
  rw[hb 0 (by decide),hb 1 (by decide),hb 2 (by decide),hb 3 (by decide),hb 4 (by decide),hb 5 (by decide),hb 6 (by decide),hb 7 (by decide),hb 8 (by decide),hb 9 (by decide),hb 10 (by decide),hb 11 (by decide),hb 12 (by decide),hb 13 (by decide),hb 14 (by decide),hb 15 (by decide),h.v]
 unfold cu
 rw[h.k,e1,e2,e3]
theorem pY (x:Nd):Nd.C0 {k:=x.k,p:=x.p,v:=x.v,r:=fun(i:Nat)=>[x.r 0,x.r 1,x.r 2,x.r 3,x.r 4,x.r 5,x.r 6,x.r 7,x.r 8,x.r 9,x.r 10,x.r 11,x.r 12,x.r 13,x.r 14,x.r 15].getD i []} x:=⟨rfl,rfl,rfl,fun j hj=>eo x.r j hj⟩
theorem Nd.mQ.same {x y:Nd}(h:x.C0 y)(hf:y.mQ):x.mQ:=⟨by rw[h.p];exact hf.p,by rw[h.v];exact hf.v,fun j hj=>by rw[h.r j hj];exact hf.r j hj⟩
def Fits (x:Nd):Prop:=∀ j,j<16->(x.r j).length<9223372036854775808
theorem yb {x:Nd}(h:Fits x):l7 9223372036854775808 (fun(i:Nat)=>[x.r 0,x.r 1,x.r 2,x.r 3,x.r 4,x.r 5,x.r 6,x.r 7,x.r 8,x.r 9,x.r 10,x.r 11,x.r 12,x.r 13,x.r 14,x.r 15].getD i []):=fun j hj=>by
 show Rel _ ([x.r 0,x.r 1,x.r 2,x.r 3,x.r 4,x.r 5,x.r 6,x.r 7,x.r 8,x.r 9,x.r 10,x.r 11,x.r 12,x.r 13,x.r 14,x.r 15].getD j [])
 rw[eo x.r j hj]
 exact⟨.inl (h j hj),h j hj⟩
theorem zN:aB Tryz.prog 105 (cE (mZ fun x=>some (Fits x,S9 x))):=by
 refine dA (n:=20) (fn:=Tryz.f105) Tryz.func105 (by kernel_rfl) (by kernel_rfl) ?_
 intro args p a h hp
 obtain⟨x,hx,hg⟩:=xU h
 subst hx
 injection hg with hg;injection hg with h1 h2;subst h1;subst h2
 refine⟨vW,Dd,rfl,fun b=>by cases b<;>exact rfl,aA.of_eq (KS x) ?_⟩
 have e:=vE (pY x)
 have e2:=Kx (pY x)
 refine⟨yb hp,fun a=> ?_,fun a=> ?_⟩
 ·rw[e] at a
  have a:aS x=false:=by simpa using a
  rw[a]
  exact⟨(fun h=>by cases h),fun _ _=>rfl⟩
 ·rw[e] at a
  have a:aS x=true:=by simpa using a
  have hs:=kW a
  rw[e2,a]
  exact⟨⟨hs.k,Nd.mQ.same (pY x) hs.U9⟩,fun _ _=>rfl,fun h=>by cases h⟩
theorem JI (s:List UInt8):flat [s]=s:=by simp[flat]
theorem Vc {s:List UInt8}(h:s.length<1152921504606846976):True/\Gq [s]:=⟨trivial,by rw[JI];exact h,by simp⟩
def w7:List SV->Option (Prop×SV)
 | [.str false s]=>some (s.length<1152921504606846976,.str false (dx s))
 | _=>none
theorem xT:aB Tryz.prog 150 (aU w7):=by
 refine fX Dd (n:=20) (fn:=Tryz.f150) Tryz.func150 (by kernel_rfl) (by kernel_rfl) ?_
 intro args p r h hp
 unfold w7 at h
 split at h
 ·rename_i s
  injection h with h;injection h with h1 h2;subst h1;subst h2
  refine⟨rfl,rfl,aA.of_eq (WN s _) ⟨fun a=> ?_,fun a=>⟨Vc hp,by omega,?_⟩⟩⟩
  ·have a:=of_decide_eq_true a
   exact fO (by rw[dx,if_pos (by omega)])
  ·have a:=of_decide_eq_false a
   exact fO (by rw[dx,if_neg (by omega),JI])
 ·cases h
def lq:List SV->Option (Prop×SV)
 | [.str false a,.str false b]=>some (a.length<1152921504606846976/\b.length<1152921504606846976,.bool false (cm a b))
 | _=>none
theorem x6:aB Tryz.prog 24 (aU lq):=by
 refine fX Dd (n:=20) (fn:=Tryz.f24) Tryz.func24 (by kernel_rfl) (by kernel_rfl) ?_
 intro args p r h hp
 unfold lq at h
 split at h
 ·rename_i a b
  injection h with h;injection h with h1 h2;subst h1;subst h2
  refine⟨rfl,rfl,aA.of_eq (KT a b _) ⟨fun c=>⟨Vc hp.1,Vc hp.2,cq ?_⟩,fun c=>cq ?_⟩⟩
  ·rw[JI,JI,cm,c,Bool.true_and]
  ·rw[cm,c,Bool.false_and]
 ·cases h
theorem PM {L:Nat}{x:Nd}(h:wJ L x): ∃ K,L=K+1/\∀ j,j<16->x.r j=[]∨((x.r j).length<K/\(x.r j).length<32):=by
 cases L with
 | zero=>exact h.elim
 | succ K=>exact⟨K,rfl,h⟩
theorem MG {L:Nat}{x:Nd}(h:wJ L x):Fits x:=fun j hj=>by
 obtain⟨K,_,h⟩:=PM h
 rcases h j hj with h | h
 ·rw[h];simp
 ·omega
theorem Ky {L:Nat}{t:List UInt8}(hk:0<=aq t)(h:t.length<L)(h32:t.length<32):wJ L (getD t):=by
 cases L with
 | zero=>exact absurd h (Nat.not_lt_zero _)
 | succ L =>
   intro j _
   by_cases e:(getD t).r j=[]
   ·exact .inl e
   ·have:=De hk j e
    exact .inr ⟨by omega,by omega⟩
theorem AW {L:Nat}{x y:Nd}(h:x.C0 y)(hn:wJ L y):wJ L x:=by
 cases L with
 | zero=>exact hn.elim
 | succ L=>intro j hj;rw[h.r j hj];exact hn j hj
theorem A5 {L:Nat}(h:0<L):wJ L eN:=by
 cases L with
 | zero=>omega
 | succ L=>intro j hj;exact .inl (eo (fun _=>[]) j hj)
theorem ve {t:List UInt8}(h:bO t=true):0<=aq t/\bG t=true/\(getD t).k≠0:=by
 rw[uK] at h
 simp only[Bool.and_eq_true,decide_eq_true_eq,Bool.not_eq_true',decide_eq_false_iff_not] at h
 refine⟨?_,h.2.1,h.2.2⟩
 by_cases g:0<=aq t
 ·exact g
 ·rw[OM g] at h;exact absurd h.2.1 (by decide)
theorem LP {L:Nat}(hH:aB Tryz.prog 128 (aU (oG L))):aB Tryz.prog 128 (aU (oG (L+1))):=by
 refine B4 Tryz.func128 (by kernel_rfl) (by kernel_rfl) fun x p v h hp=> ?_
 injection h with h;injection h with h1 h2;subst h1;subst h2
 have hp:wJ (L+1) x:=hp
 refine⟨KF L,[x.sv],.of bS (bl.cons hH (aN _) qj) bt,fun E=>rfl,rfl,rfl,aA.of_eq (UI L x _) ?_⟩
 refine⟨yb (MG hp),fun _ _=>rfl,fun _ R=>⟨⟨0,by omega,rfl,ah.refl _,ah.refl _,ah.refl _,ah.refl _,trivial⟩,fun i hi=>⟨fun c=> ?_,fun _ _=>rfl⟩⟩⟩
 have c:=of_decide_eq_true c
 have ei:i<16:=by omega
 rw[Int.toNat_natCast,Ad x.r ei]
 refine⟨by omega,fun d=> ?_,fun d=>⟨by omega,i+1,by omega,by omega,ah.refl _,ah.refl _,ah.refl _,ah.refl _,trivial⟩⟩
 have d: ¬ x.r i=[]:=by simpa using d
 obtain⟨hl,h32⟩:(x.r i).length<L/\(x.r i).length<32:=by
  rcases hp i ei with h | h
  ·exact absurd h d
  ·exact h
 have hlp:0<L:=by omega
 refine⟨rfl,by omega,fun e=> ?_,fun e=>⟨⟨.inl (by omega),by omega⟩,fun f=>⟨?_,rfl,by omega,i+1,by omega,by omega,ah.refl _,ah.refl _,ah.refl _,ah.refl _,trivial⟩,fun f=>⟨A5 hlp,rfl,by omega,i+1,by omega,by omega,ah.refl _,ah.refl _,ah.refl _,ah.refl _,trivial⟩⟩⟩
 ·have:=od e
  omega
 ·exact AW (pY (getD (x.r i))) (Ky (ve f).1 hl h32)
theorem EC: ∀ L,aB Tryz.prog 128 (aU (oG L))
 | 0=>B4 Tryz.func128 (by kernel_rfl) (by kernel_rfl) fun x p v h hp=>by
   injection h with h;injection h with h1 h2;subst h1
   exact hp.elim
 | L+1=>LP (EC L)
theorem GN (r:Nat->List UInt8): ∀ i,bh r i<=i
 | 0=>Nat.le_refl _
 | i+1=>by
   have:=GN r i
   unfold bh
   cases bI (r i)<;>simp only[cond_true,cond_false]<;>omega
theorem V9 (x:Nd):Sx.Good Tryz.prog (JY x):=.of bS (bl.cons (EC 64) (aN _) qj) bt
theorem Ff {r:Nat->List UInt8}{i:Nat}(h:bI (r i)=true)(j:Nat)(hj:j<bh r i+1):(if j<bh r i then dN r i j else bq [aa (r i)] (j - bh r i))=dN r (i+1) j:=by
 show _=(bif bI (r i)then(if j=bh r i then aa (r i)else dN r i j)else dN r i j)
 rw[h]
 simp only[cond_true]
 by_cases e:j<bh r i
 ·rw[if_pos e,if_neg (by omega)]
 ·have e:j=bh r i:=by omega
  subst e
  rw[if_neg (by omega),if_pos rfl,Nat.sub_self];rfl
theorem sg {r:Nat->List UInt8}{i:Nat}(h:bI (r i)=true):bh r (i+1)=bh r i+1:=by rw[bh,h];rfl
theorem dy {r:Nat->List UInt8}{i:Nat}(h:bI (r i)=false):bh r (i+1)=bh r i/\∀ j,dN r (i+1) j=dN r i j:=by
 refine⟨by rw[bh,h];rfl,fun j=> ?_⟩
 show(bif bI (r i)then(if j=bh r i then aa (r i)else dN r i j)else dN r i j)=_
 rw[h];rfl
theorem CZ {x:Nd}(hp:Fits x):aA (fW (JY x) 128 Tryz.f128 [x.sv] (wY x)):=by
 refine aA.of_eq (O7 x) ?_
 have ev:=vE (pY x)
 rw[ev]
 refine⟨yb hp,fun a=>⟨fun b=> ?_,fun _ _=>rfl⟩,fun a R=>⟨⟨(0,0),⟨Nat.zero_le _,Nat.le_refl _⟩,rfl,rfl,rfl,rfl,ah.refl _,ah.refl _,ah.refl _,trivial⟩,fun g hg=>⟨fun c=> ?_,fun c=> ?_⟩⟩⟩
 ·rw[b] at a;cases a
 ·have c:=of_decide_eq_true c
  have ei:g.1<16:=by omega
  rw[Int.toNat_natCast,Ad x.r ei]
  have hf:=hp g.1 ei
  have hn:=GN x.r g.1
  have hg2:=hg.2
  have hs:aS x=true:=by simpa using a
  refine⟨by omega,fun d=> ?_,fun d=> ?_⟩
  ·have d: ¬ x.r g.1=[]:=by simpa using d
   refine⟨rfl,hf,fun e=> ?_,fun e=>⟨⟨.inl hf,hf⟩,fun f=> ?_,fun f=> ?_⟩⟩
   ·refine⟨⟨by omega,trivial,by omega,by omega⟩,by omega,fun cap hcap=>⟨by omega,(g.1+1,cap),⟨⟨by show g.1+1<=16;omega,?_⟩,by show 16 - (g.1+1)<_;omega⟩,by show(g.1:Int)+1=((g.1+1:Nat):Int);omega,rfl,⟨rfl,(sg e).symm,rfl⟩,trivial,?_,ah.refl _,ah.refl _,ah.refl _,trivial⟩⟩
    ·show bh x.r (g.1+1)<=cap
     rw[sg e];exact hcap
    ·exact Sx.ah.tB (sg e).symm (Nat.mul_one cap) fun j hj=>Ff e j hj
   ·have hk:=ve f
    have hil:=p4 f
    refine⟨AW (pY (getD (x.r g.1))) (Ky hk.1 (by omega) hil),rfl,⟨by omega,trivial,by omega,by omega⟩,by omega,fun cap hcap=>⟨by omega,(g.1+1,cap),⟨⟨by show g.1+1<=16;omega,?_⟩,by show 16 - (g.1+1)<_;omega⟩,by show(g.1:Int)+1=((g.1+1:Nat):Int);omega,rfl,⟨rfl,(dy e).1.symm,rfl⟩,trivial,?_,ah.refl _,ah.refl _,ah.refl _,trivial⟩⟩
    ·show bh x.r (g.1+1)<=cap
     rw[(dy e).1];exact hcap
    ·exact Sx.ah.tB (dy e).1.symm (Nat.mul_one cap) fun j _=>((dy e).2 j).symm
   ·refine⟨A5 (by decide),rfl,⟨by omega,trivial,by omega,by omega⟩,by omega,fun cap hcap=>⟨by omega,(g.1+1,cap),⟨⟨by show g.1+1<=16;omega,?_⟩,by show 16 - (g.1+1)<_;omega⟩,by show(g.1:Int)+1=((g.1+1:Nat):Int);omega,rfl,⟨rfl,(dy e).1.symm,rfl⟩,trivial,?_,ah.refl _,ah.refl _,ah.refl _,trivial⟩⟩
    ·show bh x.r (g.1+1)<=cap
     rw[(dy e).1];exact hcap
    ·exact Sx.ah.tB (dy e).1.symm (Nat.mul_one cap) fun j _=>((dy e).2 j).symm
  ·have d:x.r g.1=[]:=by simpa using d
   have e:bI (x.r g.1)=false:=by rw[d];rfl
   refine⟨by omega,(g.1+1,g.2),⟨⟨by show g.1+1<=16;omega,?_⟩,by show 16 - (g.1+1)<_;omega⟩,by show(g.1:Int)+1=((g.1+1:Nat):Int);omega,rfl,⟨rfl,(dy e).1.symm,rfl⟩,trivial,?_,ah.refl _,ah.refl _,ah.refl _,trivial⟩
   ·show bh x.r (g.1+1)<=g.2
    rw[(dy e).1];exact hg2
   ·exact Sx.ah.tB (dy e).1.symm rfl fun j _=>((dy e).2 j).symm
 ·have c:=of_decide_eq_false c
  have hg1:=hg.1
  have e:g.1=16:=by omega
  have hg2:=hg.2
  rw[e] at hg2 ⊢
  exact⟨fun _=>⟨g.2,hg2,ah.refl _,fun _=>rfl⟩,fun h=>by rw[h] at a;cases a⟩
theorem MI:aB Tryz.prog 128 (cE (mZ fun x=>some (Fits x,wY x))):=by
 refine dA (n:=20) (fn:=Tryz.f128) Tryz.func128 (by kernel_rfl) (by kernel_rfl) ?_
 intro args p a h hp
 obtain⟨x,hx,hg⟩:=xU h
 subst hx
 injection hg with hg;injection hg with h1 h2;subst h1;subst h2
 refine⟨JY x,V9 x,rfl,fun b=> ?_,CZ hp⟩
 cases b with
 | false=>exact rfl
 | true =>
   intro c
   refine⟨rfl,rfl,fun k=>by simp[SV.wf,Nat.blt_eq],fun E E' k k' h=> ?_⟩
   cases hn:bh x.r 16 with
   | zero=>rfl
   | succ n =>
     rw[hn] at h
     have hk:E k=E' k':=h rfl
     simp[SV.val,hk]
end Go.Proofs.YtoibaecagklkaaaGreatDoor
namespace Go.Proofs.YtoibaecagklkaaaGreatDoor.Sx
open Go
end Go.Proofs.YtoibaecagklkaaaGreatDoor.Sx
namespace Go.Proofs.YtoibaecagklkaaaGreatDoor
open Go Sx
set_option maxRecDepth 20000
def OH (args:List SV)(_:Mem):Bool:=match args with
 | [.str true s]=>decide (s.length<32)
 | _=>false
noncomputable def IP:List (FuncId×PT):=(25,pn Gq Rf)::(150,xH OH (aU w7))::(151,iS pE)::(155,iS (i6 9223372036854775808))::(127,iS (oE 9223372036854775808)) ::
 (105,iS (mZ fun x=>some (Fits x,S9 x)))::(152,k6 (dM fun x=>some (l7 9223372036854775808 x.r,.bool false (aS x))))::(128,iS (mZ fun x=>some (Fits x,wY x)))::(24,aU lq)::rQ
theorem Br:bl Tryz.prog (fun f=>aG f IP):=.cons Ro (oe _ _) (.cons (xM xT) (rW (aN _)) (.cons (jL DD) (dY _) (.cons (jL (gG _)) (dY _) (.cons (jL (rz (gG _))) (dY _)
 (.cons (jL zN) (dY _) (.cons (sR (z7 (gG _))) (jG _) (.cons (jL MI) (dY _) (.cons x6 (aN _) jP))))))))
noncomputable def TV:ff:={cg with cI:=fun f=>aG f IP}
theorem Vy:Sx.Good Tryz.prog TV:=.of bS Br bt
def yes:c6:=.ret (.bool false true)
end Go.Proofs.YtoibaecagklkaaaGreatDoor
namespace Go.Proofs.YtoibaecagklkaaaGreatDoor.Sx
open Go
noncomputable section
def sB (ca:List SV->Option Nat)(cb:SB->Bool)(B:SB)(p:Nat->Prop)(r:Nat->Nat->SV)(B2:Nat->SB):PT:=fun args m nx K=>match ca args with
 | some key=>(match m.get key with
   | some X=>(match cb X with
     | true=>.all Nat fun c=>.imp (p c) (K (r c nx) ((nx,B2 c)::m.put key B) (nx+1))
     | false=>.fail "another example")
   | none=>.fail "another example")
 | none=>.fail "another example"
theorem CK {ca cb B p r B2}:aR (sB ca cb B p r B2):=by
 intro args m nx K K' hK h
 unfold sB at h ⊢
 split at h
 ·split at h
  ·split at h
   ·exact fun c hc=>hK _ _ _ (h c hc)
   ·exact h
  ·exact h
 ·exact h
def Jh (B:SB)(p:Nat->Prop)(r:Nat->Nat->SV)(B2:Nat->SB):SV->Mem->Nat->VC:=fun v m _=>match m.get 0,v.key with
 | some X,some k=>(match m.get k,Nat.beq k 0 with
   | some Y,false=>.and (WY X B) (.ex Nat fun c=>.and (.atom (p c)) (.and (WY Y (B2 c)) (XD v (r c k))))
   | _,_=>.fail "no block")
 | _,_=>.fail "no block"
structure Xm (B:SB):Prop where
 wf:B.wf 0=true
 ro:B.ro=false
 no:B.no=false
theorem PG {P:Program}{cfg:ff}(hg:Good P cfg){f:FuncId}{fn:Func}(hf:P.funcs[f]?=some fn) (hn:(fn.name== "runtime.NumGoroutine")=false) (hb:fn.body.isSome=true) {n:Nat} {ca:List SV->Option Nat} {cb:SB->Bool} {B:SB} {p:Nat->Prop} {r:Nat->Nat->SV} {B2:Nat->SB} {args0:List SV}
  (hB:Xm B) (hB2: ∀ c,Xm (B2 c)) (hr: ∀ c (E E':Nat->Nat) k k',E k=E' k'->(r c k).val E=(r c k').val E') (hw0:SV.ep 1 args0=true) (hca: ∀ args key,ca args=some key->∀ E,SV.vals E args=SV.vals (fun _=>E key) args0) (hcb: ∀ X,cb X=true->ah X B)
  (h:aA (dR P (calling P cfg n) [] vL (cfg.br f) cfg.rounds fn args0 [(0,B)] 1 (Jh B p r B2))):aB P f (sB ca cb B p r B2):=by
 intro args m nx K hk hwf hargs Γ E w hs
 unfold sB at hk
 split at hk
 ·rename_i key hkey
  split at hk
  ·rename_i X hX
   split at hk
   ·rename_i hb2
    have hle:=hcb X hb2
    have hone:=hs.one hX hle hB.no hB.ro hB.wf
    have hc:=de hg hf hn hb h (by simp only[Mem.wf,Bool.and_true];exact SB.eV (Nat.zero_le _) hB.wf) hw0 hone
    rw[← hca _ _ hkey E] at hc
    refine dZ hf hn hb (hc.mono ?_)
    rintro e w' ⟨v,rfl,E1,u,m1,nx1,g1,g2,g3,g4,g5⟩
    refine⟨v,rfl,?_⟩
    cases u with
    | none=>exact g5.elim
    | some u =>
      simp only[lift,Jh] at g5
      split at g5
      ·rename_i Y k hY hkk
       split at g5
       ·rename_i Z hZ hk0
        obtain⟨y1,c,y2,y3,y4⟩:=g5
        have y1:ah Y B:=y1
        have y2:p c:=y2
        have y3:ah Z (B2 c):=y3
        have y4:af u (r c k):=y4
        have hne:k≠0:=fun e=>by subst e;cases hk0
        have hE0:E1 0=E key:=g1 0 (by omega)
        have hs1:=(g4.swap hY y1).swap (j:=k) (X:=Z) (by rw[Mem.pR hne];exact hZ) y3
        have e1:((m1.put 0 B).put k (B2 c)).get 0=some B:=by rw[Mem.pR (fun e=>hne e.symm)];exact Mem.qc hY
        have e2:((m1.put 0 B).put k (B2 c)).get k=some (B2 c):=Mem.qc (X:=Z) (by rw[Mem.pR hne];exact hZ)
        obtain⟨E',q1,q2,q3⟩:=hs.U3 hwf hX (hle.old hB.no).1 ((hle.old hB.no).2.2 hB.ro) hs1 hE0 e1 hB.no hB.ro hB.wf hne e2 (hB2 c).wf (hB2 c).ro
        exact⟨E',some (r c nx),_,nx+1,q1,Nat.le_succ _,fun z hz=>by injection hz with hz;subst hz;rw[g3 u rfl,y4 E1];exact hr c _ _ _ _ (q2 (hB2 c).no).symm,q3,hk c y2⟩
       ·exact g5.elim
      ·exact g5.elim
   ·exact hk.elim
  ·exact hk.elim
 ·exact hk.elim
end
end Go.Proofs.YtoibaecagklkaaaGreatDoor.Sx
namespace Go.Proofs.YtoibaecagklkaaaGreatDoor
open Go Sx
set_option maxRecDepth 20000
def uw:SB:=.cells [.str true [97],.str true [49],.str true [98],.str true [50]] 4 50
def cB:List UInt8:=[215,22,213,128,194,32,49,194,32,50,128,128,128,128,128,128,128,128,128,128,128,128,128,128]
def tL (c:Nat):SB:=.cells [.str true cB] c 9
def QM (n:Nat):List SV->Option Nat
 | [.slc key 0 k true k']=>(match Nat.beq k n&&Nat.beq k' n with
   | true=>some key
   | false=>none)
 | _=>none
def Ja:SB->Bool
 | .cells [.str _ a,.str _ b,.str _ c,.str _ d] tot ty=>decide (a=[97])&&decide (b=[49])&&decide (c=[98])&&decide (d=[50])&&Nat.beq tot 4&&Nat.beq ty 50
 | _=>false
theorem Ld {X:SB}(h:Ja X=true):ah X uw:=by
 unfold Ja at h
 split at h
 ·rename_i la a lb b lc c ld d tot ty
  simp only[Bool.and_eq_true,decide_eq_true_eq] at h
  obtain⟨⟨⟨⟨⟨rfl,rfl⟩,rfl⟩,rfl⟩,ht⟩,hy⟩:=h
  obtain rfl:=Nat.eq_of_beq_eq_true ht
  obtain rfl:=Nat.eq_of_beq_eq_true hy
  exact ah.cells (fun E=>rfl) rfl
 ·cases h
theorem HJ {n:Nat}{args:List SV}{key:Nat}(h:QM n args=some key)(E:Nat->Nat):SV.vals E args=SV.vals (fun _=>E key) [.slc 0 0 n true n]:=by
 unfold QM at h
 split at h
 ·rename_i key' k k'
  split at h
  ·rename_i hk
   injection h with h;subst h
   simp only[Bool.and_eq_true] at hk
   obtain rfl:=Nat.eq_of_beq_eq_true hk.1
   obtain rfl:=Nat.eq_of_beq_eq_true hk.2
   rfl
  ·cases h
 ·cases h
theorem LM:Xm uw:=⟨rfl,rfl,rfl⟩
theorem Jc (c:Nat):Xm (tL c):=⟨rfl,rfl,rfl⟩
def tJ (c k:Nat):SV:=.aL [.slc k 0 1 false c,.int .i64 true 0]
noncomputable def BT:PT:=sB (QM 2) Ja uw (fun c=>1<=c) tJ tL
noncomputable def Us (cfg:ff)(f:Nat)(fn:Func)(args0:List SV)(B:SB)(p:Nat->Prop)(r:Nat->Nat->SV)(B2:Nat->SB):VC:=dR Tryz.prog (calling Tryz.prog cfg 30) [] vL (cfg.br f) cfg.rounds fn args0 [(0,B)] 1 (Jh B p r B2)
end Go.Proofs.YtoibaecagklkaaaGreatDoor
