/-
  Hashes: what SHA-256 is: the set-up.
-/
import Derived.Test.YtmipbcadcoahlaaDoorMg
import Derived.Test.YtmipbcadcoahlaaDoorOa
namespace Go.Proofs.YtmipbcadcoahlaaDoor
open Go Sx
set_option maxRecDepth 20000

def xor3 (a b c : Int) : Int := bitsOf .xor (bitsOf .xor a b) c
/-- Turned round to the right. -/
def rotr (x n : Int) : Int := bitsOf .or (x * (2 ^ (32 - n).toNat : Nat) % 4294967296) (x / (2 ^ n.toNat : Nat))
def bigS0 (a : Int) : Int := xor3 (rotr a 2) (rotr a 13) (rotr a 22)
def bigS1 (e : Int) : Int := xor3 (rotr e 6) (rotr e 11) (rotr e 25)
def smS0 (x : Int) : Int := xor3 (rotr x 7) (rotr x 18) (x / 8)
def smS1 (y : Int) : Int := xor3 (rotr y 17) (rotr y 19) (y / 1024)
def chF (e f g : Int) : Int := bitsOf .xor (bitsOf .and e f) (bitsOf .and (bitsOf .xor 4294967295 e) g)
def majF (a b c : Int) : Int := xor3 (bitsOf .and a b) (bitsOf .and a c) (bitsOf .and b c)
def cubeL : List Int := [1116352408, 1899447441, 3049323471, 3921009573, 961987163, 1508970993, 2453635748, 2870763221, 3624381080, 310598401, 607225278, 1426881987, 1925078388, 2162078206, 2614888103, 3248222580, 3835390401, 4022224774, 264347078, 604807628, 770255983, 1249150122, 1555081692, 1996064986, 2554220882, 2821834349, 2952996808, 3210313671, 3336571891, 3584528711, 113926993, 338241895, 666307205, 773529912, 1294757372, 1396182291, 1695183700, 1986661051, 2177026350, 2456956037, 2730485921, 2820302411, 3259730800, 3345764771, 3516065817, 3600352804, 4094571909, 275423344, 430227734, 506948616, 659060556, 883997877, 958139571, 1322822218, 1537002063, 1747873779, 1955562222, 2024104815, 2227730452, 2361852424, 2428436474, 2756734187, 3204031479, 3329325298]
def cube (i : Nat) : Int := sel cubeL i
/-- A block's words. -/
def wordB (b : Nat → Int) (j : Nat) : Int := bitsOf .or (bitsOf .or (bitsOf .or (b (4 * j) * 16777216 % 4294967296) (b (4 * j + 1) * 65536 % 4294967296)) (b (4 * j + 2) * 256 % 4294967296)) (b (4 * j + 3))
def nextW (a b c d : Int) : Int := (((a + smS0 b) % 4294967296 + c) % 4294967296 + smS1 d) % 4294967296
def wL (b : Nat → Int) : Nat → Nat → Int
  | 0 => fun j => if j < 16 then wordB b j else 0
  | n + 1 => fun j => if j = 16 + n then nextW (wL b n (16 + n - 16)) (wL b n (16 + n - 15)) (wL b n (16 + n - 7)) (wL b n (16 + n - 2)) else wL b n j
/-- A round. -/
def t1F (v : Nat → Int) (k w : Int) : Int := ((((v 7 + bigS1 (v 4)) % 4294967296 + chF (v 4) (v 5) (v 6)) % 4294967296 + k) % 4294967296 + w) % 4294967296
def t2F (v : Nat → Int) : Int := (bigS0 (v 0) + majF (v 0) (v 1) (v 2)) % 4294967296
def roundV (v : Nat → Int) (k w : Int) (j : Nat) : Int := match j with
  | 0 => (t1F v k w + t2F v) % 4294967296
  | 1 => v 0
  | 2 => v 1
  | 3 => v 2
  | 4 => (v 3 + t1F v k w) % 4294967296
  | 5 => v 4
  | 6 => v 5
  | 7 => v 6
  | _ => 0
def vAt (W B : Nat → Int) : Nat → Nat → Int
  | 0 => W
  | i + 1 => roundV (vAt W B i) (cube i) (wL B 48 i)
/-- The words behind a block. -/
def mixS (W B : Nat → Int) (j : Nat) : Int := (W j + vAt W B 64 j) % 4294967296
/-- A hash that is being made. -/
structure Sh where
  W : Nat → Int
  B : Nat → Int
  held : Int
  size : Int
def Sh.cs (x : Sh) : List SV := [.int .u32 false (x.W 0), .int .u32 false (x.W 1), .int .u32 false (x.W 2), .int .u32 false (x.W 3), .int .u32 false (x.W 4), .int .u32 false (x.W 5), .int .u32 false (x.W 6), .int .u32 false (x.W 7), .int .u8 false (x.B 0), .int .u8 false (x.B 1), .int .u8 false (x.B 2), .int .u8 false (x.B 3), .int .u8 false (x.B 4), .int .u8 false (x.B 5), .int .u8 false (x.B 6), .int .u8 false (x.B 7), .int .u8 false (x.B 8), .int .u8 false (x.B 9), .int .u8 false (x.B 10), .int .u8 false (x.B 11), .int .u8 false (x.B 12), .int .u8 false (x.B 13), .int .u8 false (x.B 14), .int .u8 false (x.B 15), .int .u8 false (x.B 16), .int .u8 false (x.B 17), .int .u8 false (x.B 18), .int .u8 false (x.B 19), .int .u8 false (x.B 20), .int .u8 false (x.B 21), .int .u8 false (x.B 22), .int .u8 false (x.B 23), .int .u8 false (x.B 24), .int .u8 false (x.B 25), .int .u8 false (x.B 26), .int .u8 false (x.B 27), .int .u8 false (x.B 28), .int .u8 false (x.B 29), .int .u8 false (x.B 30), .int .u8 false (x.B 31), .int .u8 false (x.B 32), .int .u8 false (x.B 33), .int .u8 false (x.B 34), .int .u8 false (x.B 35), .int .u8 false (x.B 36), .int .u8 false (x.B 37), .int .u8 false (x.B 38), .int .u8 false (x.B 39), .int .u8 false (x.B 40), .int .u8 false (x.B 41), .int .u8 false (x.B 42), .int .u8 false (x.B 43), .int .u8 false (x.B 44), .int .u8 false (x.B 45), .int .u8 false (x.B 46), .int .u8 false (x.B 47), .int .u8 false (x.B 48), .int .u8 false (x.B 49), .int .u8 false (x.B 50), .int .u8 false (x.B 51), .int .u8 false (x.B 52), .int .u8 false (x.B 53), .int .u8 false (x.B 54), .int .u8 false (x.B 55), .int .u8 false (x.B 56), .int .u8 false (x.B 57), .int .u8 false (x.B 58), .int .u8 false (x.B 59), .int .u8 false (x.B 60), .int .u8 false (x.B 61), .int .u8 false (x.B 62), .int .u8 false (x.B 63), .int .i64 false x.held, .int .u64 false x.size]
def Sh.sb (x : Sh) : SB := .cells x.cs 74 76
/-- Words and bytes are such. -/
structure Sh.Ok (x : Sh) : Prop where
  w : ∀ j, j < 8 → 0 ≤ x.W j ∧ x.W j ≤ 4294967295
  b : ∀ j, j < 64 → 0 ≤ x.B j ∧ x.B j ≤ 255
def rotN (n : Int) : Bool := decide (n = 2) || (decide (n = 6) || (decide (n = 7) || (decide (n = 11) || (decide (n = 13) || (decide (n = 17) || (decide (n = 18) || (decide (n = 19) || (decide (n = 22) || decide (n = 25)))))))))
def rightSpec : List SV → Option (Prop × SV)
  | [.int .u32 false x, .int .i64 false n] => (match rotN n with
    | true => some (0 ≤ x ∧ x ≤ 4294967295, .int .u32 false (rotr x n))
    | false => none)
  | _ => none
/-- The words of a block: the first sixteen stand. -/
noncomputable def annSpread (b : Nat → Int) : LoopAnn :=
  { α := Nat, pre := fun _ n => n ≤ 48, mea := fun _ n => 48 - n, fresh := 0, slots := fun _ n => [(6, .int .i64 false (16 + (n : Int)))],
    mem := fun _ n => [(2, .rows false 64 [.int .u32 (wL b n)] false 64 93)] }
noncomputable def annRounds (W B : Nat → Int) : LoopAnn :=
  { α := Nat, pre := fun _ i => i ≤ 64, mea := fun _ i => 64 - i, fresh := 0, slots := fun _ i => [(18, .int .i64 false i)],
    mem := fun _ i => [(1, .rows false 64 [.int .u32 (wL B 48)] false 64 93), (2, .cells [.int .u32 false (vAt W B i 0), .int .u32 false (vAt W B i 1), .int .u32 false (vAt W B i 2), .int .u32 false (vAt W B i 3), .int .u32 false (vAt W B i 4), .int .u32 false (vAt W B i 5), .int .u32 false (vAt W B i 6), .int .u32 false (vAt W B i 7)] 8 72)] }
/-- Where ways come together: the round's two sums. -/
noncomputable def joinT1 (W B : Nat → Int) : LoopAnn :=
  { α := Nat, pre := fun st i => slot st.tmps 18 = some (.int .i64 false (i : Int)), mea := fun _ _ => 0, fresh := 0, slots := fun _ i => [(9, .int .u32 false (t1F (vAt W B i) (cube i) (wL B 48 i)))], mem := fun _ _ => [] }
noncomputable def joinT2 (W B : Nat → Int) : LoopAnn :=
  { α := Nat, pre := fun st i => slot st.tmps 18 = some (.int .i64 false (i : Int)), mea := fun _ _ => 0, fresh := 0, slots := fun _ i => [(10, .int .u32 false (t2F (vAt W B i)))], mem := fun _ _ => [] }
noncomputable def listS1 : List (FuncId × PT) := (55, purePT rightSpec) :: reflList
noncomputable def cfgSp (b : Nat → Int) : Cfg := { cfg0 with summ := fun f => lookPT f listS1, anns := fun f => if f = 54 then [(9, always (annSpread b))] else [] }
def spreadSV (b : Nat → Int) : SV := .agg [.int .u32 false (wL b 48 0), .int .u32 false (wL b 48 1), .int .u32 false (wL b 48 2), .int .u32 false (wL b 48 3), .int .u32 false (wL b 48 4), .int .u32 false (wL b 48 5), .int .u32 false (wL b 48 6), .int .u32 false (wL b 48 7), .int .u32 false (wL b 48 8), .int .u32 false (wL b 48 9), .int .u32 false (wL b 48 10), .int .u32 false (wL b 48 11), .int .u32 false (wL b 48 12), .int .u32 false (wL b 48 13), .int .u32 false (wL b 48 14), .int .u32 false (wL b 48 15), .int .u32 false (wL b 48 16), .int .u32 false (wL b 48 17), .int .u32 false (wL b 48 18), .int .u32 false (wL b 48 19), .int .u32 false (wL b 48 20), .int .u32 false (wL b 48 21), .int .u32 false (wL b 48 22), .int .u32 false (wL b 48 23), .int .u32 false (wL b 48 24), .int .u32 false (wL b 48 25), .int .u32 false (wL b 48 26), .int .u32 false (wL b 48 27), .int .u32 false (wL b 48 28), .int .u32 false (wL b 48 29), .int .u32 false (wL b 48 30), .int .u32 false (wL b 48 31), .int .u32 false (wL b 48 32), .int .u32 false (wL b 48 33), .int .u32 false (wL b 48 34), .int .u32 false (wL b 48 35), .int .u32 false (wL b 48 36), .int .u32 false (wL b 48 37), .int .u32 false (wL b 48 38), .int .u32 false (wL b 48 39), .int .u32 false (wL b 48 40), .int .u32 false (wL b 48 41), .int .u32 false (wL b 48 42), .int .u32 false (wL b 48 43), .int .u32 false (wL b 48 44), .int .u32 false (wL b 48 45), .int .u32 false (wL b 48 46), .int .u32 false (wL b 48 47), .int .u32 false (wL b 48 48), .int .u32 false (wL b 48 49), .int .u32 false (wL b 48 50), .int .u32 false (wL b 48 51), .int .u32 false (wL b 48 52), .int .u32 false (wL b 48 53), .int .u32 false (wL b 48 54), .int .u32 false (wL b 48 55), .int .u32 false (wL b 48 56), .int .u32 false (wL b 48 57), .int .u32 false (wL b 48 58), .int .u32 false (wL b 48 59), .int .u32 false (wL b 48 60), .int .u32 false (wL b 48 61), .int .u32 false (wL b 48 62), .int .u32 false (wL b 48 63)]
def spreadSpec : List SV → Option (Sh → Prop × (Unit → Prop × SV × Sh))
  | [.slc 0 8 64 _ 64] => some fun x => (x.Ok, fun _ => (True, spreadSV x.B, x))
  | _ => none
noncomputable def listS2 : List (FuncId × PT) := (54, boxPT Sh.sb spreadSpec) :: listS1
noncomputable def cfgMix (W B : Nat → Int) : Cfg := { cfg0 with summ := fun f => lookPT f listS2, anns := fun f => if f = 44 then [(3, always (annRounds W B)), (1006, always (joinT1 W B)), (1007, always (joinT2 W B))] else [] }
def mixSpec : List SV → Option (Sh → Prop × (Unit → Prop × SV × Sh))
  | [.ptr 0 true 0, .slc 0 8 64 _ 64] => some fun x => (x.Ok, fun _ => (True, .tup [], { x with W := mixS x.W x.B }))
  | _ => none
noncomputable def runBox {G H : Type} (cfg : Cfg) (f : Nat) (fn : Func) (args : List SV) (sb : G → SB) (x : G) (g : H → Prop × SV × G) : VC := runFn Tryd.prog (calling Tryd.prog cfg 20) [] (cfg.anns f) cfg.rounds fn args [(0, sb x)] 1 (fun v m _ => boxFit sb g v m)
end Go.Proofs.YtmipbcadcoahlaaDoor
/-
  Conditions that the executor computes, written out by a program (vcgen.py).
-/
namespace Go.Proofs.YtmipbcadcoahlaaDoor
open Go Sx
set_option maxRecDepth 20000

theorem vcRight2 (x : Int) (R : SV → Prop) : VC.holds (runP cfg0 55 Tryd.f55 [.int .u32 false x, .int .i64 true 2] R) = (((0 : Int) ≤ x * (1073741824 : Int) % (4294967296 : Int) ∧
 x * (1073741824 : Int) % (4294967296 : Int) ≤ (4294967295 : Int) ∧
 (0 : Int) ≤ x / (4 : Int) ∧
 x / (4 : Int) ≤ (4294967295 : Int)) ∧
 R (SV.int .u32 false (bitsOf BinOp.or (x * (1073741824 : Int) % (4294967296 : Int)) (x / (4 : Int))))) := by kernel_rfl
theorem vcRight6 (x : Int) (R : SV → Prop) : VC.holds (runP cfg0 55 Tryd.f55 [.int .u32 false x, .int .i64 true 6] R) = (((0 : Int) ≤ x * (67108864 : Int) % (4294967296 : Int) ∧
 x * (67108864 : Int) % (4294967296 : Int) ≤ (4294967295 : Int) ∧
 (0 : Int) ≤ x / (64 : Int) ∧
 x / (64 : Int) ≤ (4294967295 : Int)) ∧
 R (SV.int .u32 false (bitsOf BinOp.or (x * (67108864 : Int) % (4294967296 : Int)) (x / (64 : Int))))) := by kernel_rfl
theorem vcRight7 (x : Int) (R : SV → Prop) : VC.holds (runP cfg0 55 Tryd.f55 [.int .u32 false x, .int .i64 true 7] R) = (((0 : Int) ≤ x * (33554432 : Int) % (4294967296 : Int) ∧
 x * (33554432 : Int) % (4294967296 : Int) ≤ (4294967295 : Int) ∧
 (0 : Int) ≤ x / (128 : Int) ∧
 x / (128 : Int) ≤ (4294967295 : Int)) ∧
 R (SV.int .u32 false (bitsOf BinOp.or (x * (33554432 : Int) % (4294967296 : Int)) (x / (128 : Int))))) := by kernel_rfl
theorem vcRight11 (x : Int) (R : SV → Prop) : VC.holds (runP cfg0 55 Tryd.f55 [.int .u32 false x, .int .i64 true 11] R) = (((0 : Int) ≤ x * (2097152 : Int) % (4294967296 : Int) ∧
 x * (2097152 : Int) % (4294967296 : Int) ≤ (4294967295 : Int) ∧
 (0 : Int) ≤ x / (2048 : Int) ∧
 x / (2048 : Int) ≤ (4294967295 : Int)) ∧
 R (SV.int .u32 false (bitsOf BinOp.or (x * (2097152 : Int) % (4294967296 : Int)) (x / (2048 : Int))))) := by kernel_rfl
theorem vcRight13 (x : Int) (R : SV → Prop) : VC.holds (runP cfg0 55 Tryd.f55 [.int .u32 false x, .int .i64 true 13] R) = (((0 : Int) ≤ x * (524288 : Int) % (4294967296 : Int) ∧
 x * (524288 : Int) % (4294967296 : Int) ≤ (4294967295 : Int) ∧
 (0 : Int) ≤ x / (8192 : Int) ∧
 x / (8192 : Int) ≤ (4294967295 : Int)) ∧
 R (SV.int .u32 false (bitsOf BinOp.or (x * (524288 : Int) % (4294967296 : Int)) (x / (8192 : Int))))) := by kernel_rfl
theorem vcRight17 (x : Int) (R : SV → Prop) : VC.holds (runP cfg0 55 Tryd.f55 [.int .u32 false x, .int .i64 true 17] R) = (((0 : Int) ≤ x * (32768 : Int) % (4294967296 : Int) ∧
 x * (32768 : Int) % (4294967296 : Int) ≤ (4294967295 : Int) ∧
 (0 : Int) ≤ x / (131072 : Int) ∧
 x / (131072 : Int) ≤ (4294967295 : Int)) ∧
 R (SV.int .u32 false (bitsOf BinOp.or (x * (32768 : Int) % (4294967296 : Int)) (x / (131072 : Int))))) := by kernel_rfl
theorem vcRight18 (x : Int) (R : SV → Prop) : VC.holds (runP cfg0 55 Tryd.f55 [.int .u32 false x, .int .i64 true 18] R) = (((0 : Int) ≤ x * (16384 : Int) % (4294967296 : Int) ∧
 x * (16384 : Int) % (4294967296 : Int) ≤ (4294967295 : Int) ∧
 (0 : Int) ≤ x / (262144 : Int) ∧
 x / (262144 : Int) ≤ (4294967295 : Int)) ∧
 R (SV.int .u32 false (bitsOf BinOp.or (x * (16384 : Int) % (4294967296 : Int)) (x / (262144 : Int))))) := by kernel_rfl
theorem vcRight19 (x : Int) (R : SV → Prop) : VC.holds (runP cfg0 55 Tryd.f55 [.int .u32 false x, .int .i64 true 19] R) = (((0 : Int) ≤ x * (8192 : Int) % (4294967296 : Int) ∧
 x * (8192 : Int) % (4294967296 : Int) ≤ (4294967295 : Int) ∧
 (0 : Int) ≤ x / (524288 : Int) ∧
 x / (524288 : Int) ≤ (4294967295 : Int)) ∧
 R (SV.int .u32 false (bitsOf BinOp.or (x * (8192 : Int) % (4294967296 : Int)) (x / (524288 : Int))))) := by kernel_rfl
theorem vcRight22 (x : Int) (R : SV → Prop) : VC.holds (runP cfg0 55 Tryd.f55 [.int .u32 false x, .int .i64 true 22] R) = (((0 : Int) ≤ x * (1024 : Int) % (4294967296 : Int) ∧
 x * (1024 : Int) % (4294967296 : Int) ≤ (4294967295 : Int) ∧
 (0 : Int) ≤ x / (4194304 : Int) ∧
 x / (4194304 : Int) ≤ (4294967295 : Int)) ∧
 R (SV.int .u32 false (bitsOf BinOp.or (x * (1024 : Int) % (4294967296 : Int)) (x / (4194304 : Int))))) := by kernel_rfl
theorem vcRight25 (x : Int) (R : SV → Prop) : VC.holds (runP cfg0 55 Tryd.f55 [.int .u32 false x, .int .i64 true 25] R) = (((0 : Int) ≤ x * (128 : Int) % (4294967296 : Int) ∧
 x * (128 : Int) % (4294967296 : Int) ≤ (4294967295 : Int) ∧
 (0 : Int) ≤ x / (33554432 : Int) ∧
 x / (33554432 : Int) ≤ (4294967295 : Int)) ∧
 R (SV.int .u32 false (bitsOf BinOp.or (x * (128 : Int) % (4294967296 : Int)) (x / (33554432 : Int))))) := by kernel_rfl
theorem vcSpread (x : Sh) : VC.holds (runBox (cfgSp x.B) 54 Tryd.f54 [.slc 0 8 64 true 64] Sh.sb x (fun _ : Unit => (True, spreadSV x.B, x))) = (((0 : Int) ≤ x.B (0 : Nat) ∧
 x.B (0 : Nat) ≤ (4294967295 : Int)) ∧
 ((0 : Int) ≤ x.B (1 : Nat) ∧
 x.B (1 : Nat) ≤ (4294967295 : Int)) ∧
 ((0 : Int) ≤ x.B (0 : Nat) * (16777216 : Int) % (4294967296 : Int) ∧
 x.B (0 : Nat) * (16777216 : Int) % (4294967296 : Int) ≤ (4294967295 : Int) ∧
 (0 : Int) ≤ x.B (1 : Nat) * (65536 : Int) % (4294967296 : Int) ∧
 x.B (1 : Nat) * (65536 : Int) % (4294967296 : Int) ≤ (4294967295 : Int)) ∧
 ((0 : Int) ≤ x.B (2 : Nat) ∧
 x.B (2 : Nat) ≤ (4294967295 : Int)) ∧
 ((0 : Int) ≤ bitsOf BinOp.or (x.B (0 : Nat) * (16777216 : Int) % (4294967296 : Int)) (x.B (1 : Nat) * (65536 : Int) % (4294967296 : Int)) ∧
 bitsOf BinOp.or (x.B (0 : Nat) * (16777216 : Int) % (4294967296 : Int)) (x.B (1 : Nat) * (65536 : Int) % (4294967296 : Int)) ≤ (4294967295 : Int) ∧
 (0 : Int) ≤ x.B (2 : Nat) * (256 : Int) % (4294967296 : Int) ∧
 x.B (2 : Nat) * (256 : Int) % (4294967296 : Int) ≤ (4294967295 : Int)) ∧
 ((0 : Int) ≤ x.B (3 : Nat) ∧
 x.B (3 : Nat) ≤ (4294967295 : Int)) ∧
 ((0 : Int) ≤ bitsOf BinOp.or (bitsOf BinOp.or (x.B (0 : Nat) * (16777216 : Int) % (4294967296 : Int)) (x.B (1 : Nat) * (65536 : Int) % (4294967296 : Int))) (x.B (2 : Nat) * (256 : Int) % (4294967296 : Int)) ∧
 bitsOf BinOp.or (bitsOf BinOp.or (x.B (0 : Nat) * (16777216 : Int) % (4294967296 : Int)) (x.B (1 : Nat) * (65536 : Int) % (4294967296 : Int))) (x.B (2 : Nat) * (256 : Int) % (4294967296 : Int)) ≤ (4294967295 : Int) ∧
 (0 : Int) ≤ x.B (3 : Nat) ∧
 x.B (3 : Nat) ≤ (4294967295 : Int)) ∧
 ((0 : Int) ≤ x.B (4 : Nat) ∧
 x.B (4 : Nat) ≤ (4294967295 : Int)) ∧
 ((0 : Int) ≤ x.B (5 : Nat) ∧
 x.B (5 : Nat) ≤ (4294967295 : Int)) ∧
 ((0 : Int) ≤ x.B (4 : Nat) * (16777216 : Int) % (4294967296 : Int) ∧
 x.B (4 : Nat) * (16777216 : Int) % (4294967296 : Int) ≤ (4294967295 : Int) ∧
 (0 : Int) ≤ x.B (5 : Nat) * (65536 : Int) % (4294967296 : Int) ∧
 x.B (5 : Nat) * (65536 : Int) % (4294967296 : Int) ≤ (4294967295 : Int)) ∧
 ((0 : Int) ≤ x.B (6 : Nat) ∧
 x.B (6 : Nat) ≤ (4294967295 : Int)) ∧
 ((0 : Int) ≤ bitsOf BinOp.or (x.B (4 : Nat) * (16777216 : Int) % (4294967296 : Int)) (x.B (5 : Nat) * (65536 : Int) % (4294967296 : Int)) ∧
 bitsOf BinOp.or (x.B (4 : Nat) * (16777216 : Int) % (4294967296 : Int)) (x.B (5 : Nat) * (65536 : Int) % (4294967296 : Int)) ≤ (4294967295 : Int) ∧
 (0 : Int) ≤ x.B (6 : Nat) * (256 : Int) % (4294967296 : Int) ∧
 x.B (6 : Nat) * (256 : Int) % (4294967296 : Int) ≤ (4294967295 : Int)) ∧
 ((0 : Int) ≤ x.B (7 : Nat) ∧
 x.B (7 : Nat) ≤ (4294967295 : Int)) ∧
 ((0 : Int) ≤ bitsOf BinOp.or (bitsOf BinOp.or (x.B (4 : Nat) * (16777216 : Int) % (4294967296 : Int)) (x.B (5 : Nat) * (65536 : Int) % (4294967296 : Int))) (x.B (6 : Nat) * (256 : Int) % (4294967296 : Int)) ∧
 bitsOf BinOp.or (bitsOf BinOp.or (x.B (4 : Nat) * (16777216 : Int) % (4294967296 : Int)) (x.B (5 : Nat) * (65536 : Int) % (4294967296 : Int))) (x.B (6 : Nat) * (256 : Int) % (4294967296 : Int)) ≤ (4294967295 : Int) ∧
 (0 : Int) ≤ x.B (7 : Nat) ∧
 x.B (7 : Nat) ≤ (4294967295 : Int)) ∧
 ((0 : Int) ≤ x.B (8 : Nat) ∧
 x.B (8 : Nat) ≤ (4294967295 : Int)) ∧
 ((0 : Int) ≤ x.B (9 : Nat) ∧
 x.B (9 : Nat) ≤ (4294967295 : Int)) ∧
 ((0 : Int) ≤ x.B (8 : Nat) * (16777216 : Int) % (4294967296 : Int) ∧
 x.B (8 : Nat) * (16777216 : Int) % (4294967296 : Int) ≤ (4294967295 : Int) ∧
 (0 : Int) ≤ x.B (9 : Nat) * (65536 : Int) % (4294967296 : Int) ∧
 x.B (9 : Nat) * (65536 : Int) % (4294967296 : Int) ≤ (4294967295 : Int)) ∧
 ((0 : Int) ≤ x.B (10 : Nat) ∧
 x.B (10 : Nat) ≤ (4294967295 : Int)) ∧
 ((0 : Int) ≤ bitsOf BinOp.or (x.B (8 : Nat) * (16777216 : Int) % (4294967296 : Int)) (x.B (9 : Nat) * (65536 : Int) % (4294967296 : Int)) ∧
 bitsOf BinOp.or (x.B (8 : Nat) * (16777216 : Int) % (4294967296 : Int)) (x.B (9 : Nat) * (65536 : Int) % (4294967296 : Int)) ≤ (4294967295 : Int) ∧
 (0 : Int) ≤ x.B (10 : Nat) * (256 : Int) % (4294967296 : Int) ∧
 x.B (10 : Nat) * (256 : Int) % (4294967296 : Int) ≤ (4294967295 : Int)) ∧
 ((0 : Int) ≤ x.B (11 : Nat) ∧
 x.B (11 : Nat) ≤ (4294967295 : Int)) ∧
 ((0 : Int) ≤ bitsOf BinOp.or (bitsOf BinOp.or (x.B (8 : Nat) * (16777216 : Int) % (4294967296 : Int)) (x.B (9 : Nat) * (65536 : Int) % (4294967296 : Int))) (x.B (10 : Nat) * (256 : Int) % (4294967296 : Int)) ∧
 bitsOf BinOp.or (bitsOf BinOp.or (x.B (8 : Nat) * (16777216 : Int) % (4294967296 : Int)) (x.B (9 : Nat) * (65536 : Int) % (4294967296 : Int))) (x.B (10 : Nat) * (256 : Int) % (4294967296 : Int)) ≤ (4294967295 : Int) ∧
 (0 : Int) ≤ x.B (11 : Nat) ∧
 x.B (11 : Nat) ≤ (4294967295 : Int)) ∧
 ((0 : Int) ≤ x.B (12 : Nat) ∧
 x.B (12 : Nat) ≤ (4294967295 : Int)) ∧
 ((0 : Int) ≤ x.B (13 : Nat) ∧
 x.B (13 : Nat) ≤ (4294967295 : Int)) ∧
 ((0 : Int) ≤ x.B (12 : Nat) * (16777216 : Int) % (4294967296 : Int) ∧
 x.B (12 : Nat) * (16777216 : Int) % (4294967296 : Int) ≤ (4294967295 : Int) ∧
 (0 : Int) ≤ x.B (13 : Nat) * (65536 : Int) % (4294967296 : Int) ∧
 x.B (13 : Nat) * (65536 : Int) % (4294967296 : Int) ≤ (4294967295 : Int)) ∧
 ((0 : Int) ≤ x.B (14 : Nat) ∧
 x.B (14 : Nat) ≤ (4294967295 : Int)) ∧
 ((0 : Int) ≤ bitsOf BinOp.or (x.B (12 : Nat) * (16777216 : Int) % (4294967296 : Int)) (x.B (13 : Nat) * (65536 : Int) % (4294967296 : Int)) ∧
 bitsOf BinOp.or (x.B (12 : Nat) * (16777216 : Int) % (4294967296 : Int)) (x.B (13 : Nat) * (65536 : Int) % (4294967296 : Int)) ≤ (4294967295 : Int) ∧
 (0 : Int) ≤ x.B (14 : Nat) * (256 : Int) % (4294967296 : Int) ∧
 x.B (14 : Nat) * (256 : Int) % (4294967296 : Int) ≤ (4294967295 : Int)) ∧
 ((0 : Int) ≤ x.B (15 : Nat) ∧
 x.B (15 : Nat) ≤ (4294967295 : Int)) ∧
 ((0 : Int) ≤ bitsOf BinOp.or (bitsOf BinOp.or (x.B (12 : Nat) * (16777216 : Int) % (4294967296 : Int)) (x.B (13 : Nat) * (65536 : Int) % (4294967296 : Int))) (x.B (14 : Nat) * (256 : Int) % (4294967296 : Int)) ∧
 bitsOf BinOp.or (bitsOf BinOp.or (x.B (12 : Nat) * (16777216 : Int) % (4294967296 : Int)) (x.B (13 : Nat) * (65536 : Int) % (4294967296 : Int))) (x.B (14 : Nat) * (256 : Int) % (4294967296 : Int)) ≤ (4294967295 : Int) ∧
 (0 : Int) ≤ x.B (15 : Nat) ∧
 x.B (15 : Nat) ≤ (4294967295 : Int)) ∧
 ((0 : Int) ≤ x.B (16 : Nat) ∧
 x.B (16 : Nat) ≤ (4294967295 : Int)) ∧
 ((0 : Int) ≤ x.B (17 : Nat) ∧
 x.B (17 : Nat) ≤ (4294967295 : Int)) ∧
 ((0 : Int) ≤ x.B (16 : Nat) * (16777216 : Int) % (4294967296 : Int) ∧
 x.B (16 : Nat) * (16777216 : Int) % (4294967296 : Int) ≤ (4294967295 : Int) ∧
 (0 : Int) ≤ x.B (17 : Nat) * (65536 : Int) % (4294967296 : Int) ∧
 x.B (17 : Nat) * (65536 : Int) % (4294967296 : Int) ≤ (4294967295 : Int)) ∧
 ((0 : Int) ≤ x.B (18 : Nat) ∧
 x.B (18 : Nat) ≤ (4294967295 : Int)) ∧
 ((0 : Int) ≤ bitsOf BinOp.or (x.B (16 : Nat) * (16777216 : Int) % (4294967296 : Int)) (x.B (17 : Nat) * (65536 : Int) % (4294967296 : Int)) ∧
 bitsOf BinOp.or (x.B (16 : Nat) * (16777216 : Int) % (4294967296 : Int)) (x.B (17 : Nat) * (65536 : Int) % (4294967296 : Int)) ≤ (4294967295 : Int) ∧
 (0 : Int) ≤ x.B (18 : Nat) * (256 : Int) % (4294967296 : Int) ∧
 x.B (18 : Nat) * (256 : Int) % (4294967296 : Int) ≤ (4294967295 : Int)) ∧
 ((0 : Int) ≤ x.B (19 : Nat) ∧
 x.B (19 : Nat) ≤ (4294967295 : Int)) ∧
 ((0 : Int) ≤ bitsOf BinOp.or (bitsOf BinOp.or (x.B (16 : Nat) * (16777216 : Int) % (4294967296 : Int)) (x.B (17 : Nat) * (65536 : Int) % (4294967296 : Int))) (x.B (18 : Nat) * (256 : Int) % (4294967296 : Int)) ∧
 bitsOf BinOp.or (bitsOf BinOp.or (x.B (16 : Nat) * (16777216 : Int) % (4294967296 : Int)) (x.B (17 : Nat) * (65536 : Int) % (4294967296 : Int))) (x.B (18 : Nat) * (256 : Int) % (4294967296 : Int)) ≤ (4294967295 : Int) ∧
 (0 : Int) ≤ x.B (19 : Nat) ∧
 x.B (19 : Nat) ≤ (4294967295 : Int)) ∧
 ((0 : Int) ≤ x.B (20 : Nat) ∧
 x.B (20 : Nat) ≤ (4294967295 : Int)) ∧
 ((0 : Int) ≤ x.B (21 : Nat) ∧
 x.B (21 : Nat) ≤ (4294967295 : Int)) ∧
 ((0 : Int) ≤ x.B (20 : Nat) * (16777216 : Int) % (4294967296 : Int) ∧
 x.B (20 : Nat) * (16777216 : Int) % (4294967296 : Int) ≤ (4294967295 : Int) ∧
 (0 : Int) ≤ x.B (21 : Nat) * (65536 : Int) % (4294967296 : Int) ∧
 x.B (21 : Nat) * (65536 : Int) % (4294967296 : Int) ≤ (4294967295 : Int)) ∧
 ((0 : Int) ≤ x.B (22 : Nat) ∧
 x.B (22 : Nat) ≤ (4294967295 : Int)) ∧
 ((0 : Int) ≤ bitsOf BinOp.or (x.B (20 : Nat) * (16777216 : Int) % (4294967296 : Int)) (x.B (21 : Nat) * (65536 : Int) % (4294967296 : Int)) ∧
 bitsOf BinOp.or (x.B (20 : Nat) * (16777216 : Int) % (4294967296 : Int)) (x.B (21 : Nat) * (65536 : Int) % (4294967296 : Int)) ≤ (4294967295 : Int) ∧
 (0 : Int) ≤ x.B (22 : Nat) * (256 : Int) % (4294967296 : Int) ∧
 x.B (22 : Nat) * (256 : Int) % (4294967296 : Int) ≤ (4294967295 : Int)) ∧
 ((0 : Int) ≤ x.B (23 : Nat) ∧
 x.B (23 : Nat) ≤ (4294967295 : Int)) ∧
 ((0 : Int) ≤ bitsOf BinOp.or (bitsOf BinOp.or (x.B (20 : Nat) * (16777216 : Int) % (4294967296 : Int)) (x.B (21 : Nat) * (65536 : Int) % (4294967296 : Int))) (x.B (22 : Nat) * (256 : Int) % (4294967296 : Int)) ∧
 bitsOf BinOp.or (bitsOf BinOp.or (x.B (20 : Nat) * (16777216 : Int) % (4294967296 : Int)) (x.B (21 : Nat) * (65536 : Int) % (4294967296 : Int))) (x.B (22 : Nat) * (256 : Int) % (4294967296 : Int)) ≤ (4294967295 : Int) ∧
 (0 : Int) ≤ x.B (23 : Nat) ∧
 x.B (23 : Nat) ≤ (4294967295 : Int)) ∧
 ((0 : Int) ≤ x.B (24 : Nat) ∧
 x.B (24 : Nat) ≤ (4294967295 : Int)) ∧
 ((0 : Int) ≤ x.B (25 : Nat) ∧
 x.B (25 : Nat) ≤ (4294967295 : Int)) ∧
 ((0 : Int) ≤ x.B (24 : Nat) * (16777216 : Int) % (4294967296 : Int) ∧
 x.B (24 : Nat) * (16777216 : Int) % (4294967296 : Int) ≤ (4294967295 : Int) ∧
 (0 : Int) ≤ x.B (25 : Nat) * (65536 : Int) % (4294967296 : Int) ∧
 x.B (25 : Nat) * (65536 : Int) % (4294967296 : Int) ≤ (4294967295 : Int)) ∧
 ((0 : Int) ≤ x.B (26 : Nat) ∧
 x.B (26 : Nat) ≤ (4294967295 : Int)) ∧
 ((0 : Int) ≤ bitsOf BinOp.or (x.B (24 : Nat) * (16777216 : Int) % (4294967296 : Int)) (x.B (25 : Nat) * (65536 : Int) % (4294967296 : Int)) ∧
 bitsOf BinOp.or (x.B (24 : Nat) * (16777216 : Int) % (4294967296 : Int)) (x.B (25 : Nat) * (65536 : Int) % (4294967296 : Int)) ≤ (4294967295 : Int) ∧
 (0 : Int) ≤ x.B (26 : Nat) * (256 : Int) % (4294967296 : Int) ∧
 x.B (26 : Nat) * (256 : Int) % (4294967296 : Int) ≤ (4294967295 : Int)) ∧
 ((0 : Int) ≤ x.B (27 : Nat) ∧
 x.B (27 : Nat) ≤ (4294967295 : Int)) ∧
 ((0 : Int) ≤ bitsOf BinOp.or (bitsOf BinOp.or (x.B (24 : Nat) * (16777216 : Int) % (4294967296 : Int)) (x.B (25 : Nat) * (65536 : Int) % (4294967296 : Int))) (x.B (26 : Nat) * (256 : Int) % (4294967296 : Int)) ∧
 bitsOf BinOp.or (bitsOf BinOp.or (x.B (24 : Nat) * (16777216 : Int) % (4294967296 : Int)) (x.B (25 : Nat) * (65536 : Int) % (4294967296 : Int))) (x.B (26 : Nat) * (256 : Int) % (4294967296 : Int)) ≤ (4294967295 : Int) ∧
 (0 : Int) ≤ x.B (27 : Nat) ∧
 x.B (27 : Nat) ≤ (4294967295 : Int)) ∧
 ((0 : Int) ≤ x.B (28 : Nat) ∧
 x.B (28 : Nat) ≤ (4294967295 : Int)) ∧
 ((0 : Int) ≤ x.B (29 : Nat) ∧
 x.B (29 : Nat) ≤ (4294967295 : Int)) ∧
 ((0 : Int) ≤ x.B (28 : Nat) * (16777216 : Int) % (4294967296 : Int) ∧
 x.B (28 : Nat) * (16777216 : Int) % (4294967296 : Int) ≤ (4294967295 : Int) ∧
 (0 : Int) ≤ x.B (29 : Nat) * (65536 : Int) % (4294967296 : Int) ∧
 x.B (29 : Nat) * (65536 : Int) % (4294967296 : Int) ≤ (4294967295 : Int)) ∧
 ((0 : Int) ≤ x.B (30 : Nat) ∧
 x.B (30 : Nat) ≤ (4294967295 : Int)) ∧
 ((0 : Int) ≤ bitsOf BinOp.or (x.B (28 : Nat) * (16777216 : Int) % (4294967296 : Int)) (x.B (29 : Nat) * (65536 : Int) % (4294967296 : Int)) ∧
 bitsOf BinOp.or (x.B (28 : Nat) * (16777216 : Int) % (4294967296 : Int)) (x.B (29 : Nat) * (65536 : Int) % (4294967296 : Int)) ≤ (4294967295 : Int) ∧
 (0 : Int) ≤ x.B (30 : Nat) * (256 : Int) % (4294967296 : Int) ∧
 x.B (30 : Nat) * (256 : Int) % (4294967296 : Int) ≤ (4294967295 : Int)) ∧
 ((0 : Int) ≤ x.B (31 : Nat) ∧
 x.B (31 : Nat) ≤ (4294967295 : Int)) ∧
 ((0 : Int) ≤ bitsOf BinOp.or (bitsOf BinOp.or (x.B (28 : Nat) * (16777216 : Int) % (4294967296 : Int)) (x.B (29 : Nat) * (65536 : Int) % (4294967296 : Int))) (x.B (30 : Nat) * (256 : Int) % (4294967296 : Int)) ∧
 bitsOf BinOp.or (bitsOf BinOp.or (x.B (28 : Nat) * (16777216 : Int) % (4294967296 : Int)) (x.B (29 : Nat) * (65536 : Int) % (4294967296 : Int))) (x.B (30 : Nat) * (256 : Int) % (4294967296 : Int)) ≤ (4294967295 : Int) ∧
 (0 : Int) ≤ x.B (31 : Nat) ∧
 x.B (31 : Nat) ≤ (4294967295 : Int)) ∧
 ((0 : Int) ≤ x.B (32 : Nat) ∧
 x.B (32 : Nat) ≤ (4294967295 : Int)) ∧
 ((0 : Int) ≤ x.B (33 : Nat) ∧
 x.B (33 : Nat) ≤ (4294967295 : Int)) ∧
 ((0 : Int) ≤ x.B (32 : Nat) * (16777216 : Int) % (4294967296 : Int) ∧
 x.B (32 : Nat) * (16777216 : Int) % (4294967296 : Int) ≤ (4294967295 : Int) ∧
 (0 : Int) ≤ x.B (33 : Nat) * (65536 : Int) % (4294967296 : Int) ∧
 x.B (33 : Nat) * (65536 : Int) % (4294967296 : Int) ≤ (4294967295 : Int)) ∧
 ((0 : Int) ≤ x.B (34 : Nat) ∧
 x.B (34 : Nat) ≤ (4294967295 : Int)) ∧
 ((0 : Int) ≤ bitsOf BinOp.or (x.B (32 : Nat) * (16777216 : Int) % (4294967296 : Int)) (x.B (33 : Nat) * (65536 : Int) % (4294967296 : Int)) ∧
 bitsOf BinOp.or (x.B (32 : Nat) * (16777216 : Int) % (4294967296 : Int)) (x.B (33 : Nat) * (65536 : Int) % (4294967296 : Int)) ≤ (4294967295 : Int) ∧
 (0 : Int) ≤ x.B (34 : Nat) * (256 : Int) % (4294967296 : Int) ∧
 x.B (34 : Nat) * (256 : Int) % (4294967296 : Int) ≤ (4294967295 : Int)) ∧
 ((0 : Int) ≤ x.B (35 : Nat) ∧
 x.B (35 : Nat) ≤ (4294967295 : Int)) ∧
 ((0 : Int) ≤ bitsOf BinOp.or (bitsOf BinOp.or (x.B (32 : Nat) * (16777216 : Int) % (4294967296 : Int)) (x.B (33 : Nat) * (65536 : Int) % (4294967296 : Int))) (x.B (34 : Nat) * (256 : Int) % (4294967296 : Int)) ∧
 bitsOf BinOp.or (bitsOf BinOp.or (x.B (32 : Nat) * (16777216 : Int) % (4294967296 : Int)) (x.B (33 : Nat) * (65536 : Int) % (4294967296 : Int))) (x.B (34 : Nat) * (256 : Int) % (4294967296 : Int)) ≤ (4294967295 : Int) ∧
 (0 : Int) ≤ x.B (35 : Nat) ∧
 x.B (35 : Nat) ≤ (4294967295 : Int)) ∧
 ((0 : Int) ≤ x.B (36 : Nat) ∧
 x.B (36 : Nat) ≤ (4294967295 : Int)) ∧
 ((0 : Int) ≤ x.B (37 : Nat) ∧
 x.B (37 : Nat) ≤ (4294967295 : Int)) ∧
 ((0 : Int) ≤ x.B (36 : Nat) * (16777216 : Int) % (4294967296 : Int) ∧
 x.B (36 : Nat) * (16777216 : Int) % (4294967296 : Int) ≤ (4294967295 : Int) ∧
 (0 : Int) ≤ x.B (37 : Nat) * (65536 : Int) % (4294967296 : Int) ∧
 x.B (37 : Nat) * (65536 : Int) % (4294967296 : Int) ≤ (4294967295 : Int)) ∧
 ((0 : Int) ≤ x.B (38 : Nat) ∧
 x.B (38 : Nat) ≤ (4294967295 : Int)) ∧
 ((0 : Int) ≤ bitsOf BinOp.or (x.B (36 : Nat) * (16777216 : Int) % (4294967296 : Int)) (x.B (37 : Nat) * (65536 : Int) % (4294967296 : Int)) ∧
 bitsOf BinOp.or (x.B (36 : Nat) * (16777216 : Int) % (4294967296 : Int)) (x.B (37 : Nat) * (65536 : Int) % (4294967296 : Int)) ≤ (4294967295 : Int) ∧
 (0 : Int) ≤ x.B (38 : Nat) * (256 : Int) % (4294967296 : Int) ∧
 x.B (38 : Nat) * (256 : Int) % (4294967296 : Int) ≤ (4294967295 : Int)) ∧
 ((0 : Int) ≤ x.B (39 : Nat) ∧
 x.B (39 : Nat) ≤ (4294967295 : Int)) ∧
 ((0 : Int) ≤ bitsOf BinOp.or (bitsOf BinOp.or (x.B (36 : Nat) * (16777216 : Int) % (4294967296 : Int)) (x.B (37 : Nat) * (65536 : Int) % (4294967296 : Int))) (x.B (38 : Nat) * (256 : Int) % (4294967296 : Int)) ∧
 bitsOf BinOp.or (bitsOf BinOp.or (x.B (36 : Nat) * (16777216 : Int) % (4294967296 : Int)) (x.B (37 : Nat) * (65536 : Int) % (4294967296 : Int))) (x.B (38 : Nat) * (256 : Int) % (4294967296 : Int)) ≤ (4294967295 : Int) ∧
 (0 : Int) ≤ x.B (39 : Nat) ∧
 x.B (39 : Nat) ≤ (4294967295 : Int)) ∧
 ((0 : Int) ≤ x.B (40 : Nat) ∧
 x.B (40 : Nat) ≤ (4294967295 : Int)) ∧
 ((0 : Int) ≤ x.B (41 : Nat) ∧
 x.B (41 : Nat) ≤ (4294967295 : Int)) ∧
 ((0 : Int) ≤ x.B (40 : Nat) * (16777216 : Int) % (4294967296 : Int) ∧
 x.B (40 : Nat) * (16777216 : Int) % (4294967296 : Int) ≤ (4294967295 : Int) ∧
 (0 : Int) ≤ x.B (41 : Nat) * (65536 : Int) % (4294967296 : Int) ∧
 x.B (41 : Nat) * (65536 : Int) % (4294967296 : Int) ≤ (4294967295 : Int)) ∧
 ((0 : Int) ≤ x.B (42 : Nat) ∧
 x.B (42 : Nat) ≤ (4294967295 : Int)) ∧
 ((0 : Int) ≤ bitsOf BinOp.or (x.B (40 : Nat) * (16777216 : Int) % (4294967296 : Int)) (x.B (41 : Nat) * (65536 : Int) % (4294967296 : Int)) ∧
 bitsOf BinOp.or (x.B (40 : Nat) * (16777216 : Int) % (4294967296 : Int)) (x.B (41 : Nat) * (65536 : Int) % (4294967296 : Int)) ≤ (4294967295 : Int) ∧
 (0 : Int) ≤ x.B (42 : Nat) * (256 : Int) % (4294967296 : Int) ∧
 x.B (42 : Nat) * (256 : Int) % (4294967296 : Int) ≤ (4294967295 : Int)) ∧
 ((0 : Int) ≤ x.B (43 : Nat) ∧
 x.B (43 : Nat) ≤ (4294967295 : Int)) ∧
 ((0 : Int) ≤ bitsOf BinOp.or (bitsOf BinOp.or (x.B (40 : Nat) * (16777216 : Int) % (4294967296 : Int)) (x.B (41 : Nat) * (65536 : Int) % (4294967296 : Int))) (x.B (42 : Nat) * (256 : Int) % (4294967296 : Int)) ∧
 bitsOf BinOp.or (bitsOf BinOp.or (x.B (40 : Nat) * (16777216 : Int) % (4294967296 : Int)) (x.B (41 : Nat) * (65536 : Int) % (4294967296 : Int))) (x.B (42 : Nat) * (256 : Int) % (4294967296 : Int)) ≤ (4294967295 : Int) ∧
 (0 : Int) ≤ x.B (43 : Nat) ∧
 x.B (43 : Nat) ≤ (4294967295 : Int)) ∧
 ((0 : Int) ≤ x.B (44 : Nat) ∧
 x.B (44 : Nat) ≤ (4294967295 : Int)) ∧
 ((0 : Int) ≤ x.B (45 : Nat) ∧
 x.B (45 : Nat) ≤ (4294967295 : Int)) ∧
 ((0 : Int) ≤ x.B (44 : Nat) * (16777216 : Int) % (4294967296 : Int) ∧
 x.B (44 : Nat) * (16777216 : Int) % (4294967296 : Int) ≤ (4294967295 : Int) ∧
 (0 : Int) ≤ x.B (45 : Nat) * (65536 : Int) % (4294967296 : Int) ∧
 x.B (45 : Nat) * (65536 : Int) % (4294967296 : Int) ≤ (4294967295 : Int)) ∧
 ((0 : Int) ≤ x.B (46 : Nat) ∧
 x.B (46 : Nat) ≤ (4294967295 : Int)) ∧
 ((0 : Int) ≤ bitsOf BinOp.or (x.B (44 : Nat) * (16777216 : Int) % (4294967296 : Int)) (x.B (45 : Nat) * (65536 : Int) % (4294967296 : Int)) ∧
 bitsOf BinOp.or (x.B (44 : Nat) * (16777216 : Int) % (4294967296 : Int)) (x.B (45 : Nat) * (65536 : Int) % (4294967296 : Int)) ≤ (4294967295 : Int) ∧
 (0 : Int) ≤ x.B (46 : Nat) * (256 : Int) % (4294967296 : Int) ∧
 x.B (46 : Nat) * (256 : Int) % (4294967296 : Int) ≤ (4294967295 : Int)) ∧
 ((0 : Int) ≤ x.B (47 : Nat) ∧
 x.B (47 : Nat) ≤ (4294967295 : Int)) ∧
 ((0 : Int) ≤ bitsOf BinOp.or (bitsOf BinOp.or (x.B (44 : Nat) * (16777216 : Int) % (4294967296 : Int)) (x.B (45 : Nat) * (65536 : Int) % (4294967296 : Int))) (x.B (46 : Nat) * (256 : Int) % (4294967296 : Int)) ∧
 bitsOf BinOp.or (bitsOf BinOp.or (x.B (44 : Nat) * (16777216 : Int) % (4294967296 : Int)) (x.B (45 : Nat) * (65536 : Int) % (4294967296 : Int))) (x.B (46 : Nat) * (256 : Int) % (4294967296 : Int)) ≤ (4294967295 : Int) ∧
 (0 : Int) ≤ x.B (47 : Nat) ∧
 x.B (47 : Nat) ≤ (4294967295 : Int)) ∧
 ((0 : Int) ≤ x.B (48 : Nat) ∧
 x.B (48 : Nat) ≤ (4294967295 : Int)) ∧
 ((0 : Int) ≤ x.B (49 : Nat) ∧
 x.B (49 : Nat) ≤ (4294967295 : Int)) ∧
 ((0 : Int) ≤ x.B (48 : Nat) * (16777216 : Int) % (4294967296 : Int) ∧
 x.B (48 : Nat) * (16777216 : Int) % (4294967296 : Int) ≤ (4294967295 : Int) ∧
 (0 : Int) ≤ x.B (49 : Nat) * (65536 : Int) % (4294967296 : Int) ∧
 x.B (49 : Nat) * (65536 : Int) % (4294967296 : Int) ≤ (4294967295 : Int)) ∧
 ((0 : Int) ≤ x.B (50 : Nat) ∧
 x.B (50 : Nat) ≤ (4294967295 : Int)) ∧
 ((0 : Int) ≤ bitsOf BinOp.or (x.B (48 : Nat) * (16777216 : Int) % (4294967296 : Int)) (x.B (49 : Nat) * (65536 : Int) % (4294967296 : Int)) ∧
 bitsOf BinOp.or (x.B (48 : Nat) * (16777216 : Int) % (4294967296 : Int)) (x.B (49 : Nat) * (65536 : Int) % (4294967296 : Int)) ≤ (4294967295 : Int) ∧
 (0 : Int) ≤ x.B (50 : Nat) * (256 : Int) % (4294967296 : Int) ∧
 x.B (50 : Nat) * (256 : Int) % (4294967296 : Int) ≤ (4294967295 : Int)) ∧
 ((0 : Int) ≤ x.B (51 : Nat) ∧
 x.B (51 : Nat) ≤ (4294967295 : Int)) ∧
 ((0 : Int) ≤ bitsOf BinOp.or (bitsOf BinOp.or (x.B (48 : Nat) * (16777216 : Int) % (4294967296 : Int)) (x.B (49 : Nat) * (65536 : Int) % (4294967296 : Int))) (x.B (50 : Nat) * (256 : Int) % (4294967296 : Int)) ∧
 bitsOf BinOp.or (bitsOf BinOp.or (x.B (48 : Nat) * (16777216 : Int) % (4294967296 : Int)) (x.B (49 : Nat) * (65536 : Int) % (4294967296 : Int))) (x.B (50 : Nat) * (256 : Int) % (4294967296 : Int)) ≤ (4294967295 : Int) ∧
 (0 : Int) ≤ x.B (51 : Nat) ∧
 x.B (51 : Nat) ≤ (4294967295 : Int)) ∧
 ((0 : Int) ≤ x.B (52 : Nat) ∧
 x.B (52 : Nat) ≤ (4294967295 : Int)) ∧
 ((0 : Int) ≤ x.B (53 : Nat) ∧
 x.B (53 : Nat) ≤ (4294967295 : Int)) ∧
 ((0 : Int) ≤ x.B (52 : Nat) * (16777216 : Int) % (4294967296 : Int) ∧
 x.B (52 : Nat) * (16777216 : Int) % (4294967296 : Int) ≤ (4294967295 : Int) ∧
 (0 : Int) ≤ x.B (53 : Nat) * (65536 : Int) % (4294967296 : Int) ∧
 x.B (53 : Nat) * (65536 : Int) % (4294967296 : Int) ≤ (4294967295 : Int)) ∧
 ((0 : Int) ≤ x.B (54 : Nat) ∧
 x.B (54 : Nat) ≤ (4294967295 : Int)) ∧
 ((0 : Int) ≤ bitsOf BinOp.or (x.B (52 : Nat) * (16777216 : Int) % (4294967296 : Int)) (x.B (53 : Nat) * (65536 : Int) % (4294967296 : Int)) ∧
 bitsOf BinOp.or (x.B (52 : Nat) * (16777216 : Int) % (4294967296 : Int)) (x.B (53 : Nat) * (65536 : Int) % (4294967296 : Int)) ≤ (4294967295 : Int) ∧
 (0 : Int) ≤ x.B (54 : Nat) * (256 : Int) % (4294967296 : Int) ∧
 x.B (54 : Nat) * (256 : Int) % (4294967296 : Int) ≤ (4294967295 : Int)) ∧
 ((0 : Int) ≤ x.B (55 : Nat) ∧
 x.B (55 : Nat) ≤ (4294967295 : Int)) ∧
 ((0 : Int) ≤ bitsOf BinOp.or (bitsOf BinOp.or (x.B (52 : Nat) * (16777216 : Int) % (4294967296 : Int)) (x.B (53 : Nat) * (65536 : Int) % (4294967296 : Int))) (x.B (54 : Nat) * (256 : Int) % (4294967296 : Int)) ∧
 bitsOf BinOp.or (bitsOf BinOp.or (x.B (52 : Nat) * (16777216 : Int) % (4294967296 : Int)) (x.B (53 : Nat) * (65536 : Int) % (4294967296 : Int))) (x.B (54 : Nat) * (256 : Int) % (4294967296 : Int)) ≤ (4294967295 : Int) ∧
 (0 : Int) ≤ x.B (55 : Nat) ∧
 x.B (55 : Nat) ≤ (4294967295 : Int)) ∧
 ((0 : Int) ≤ x.B (56 : Nat) ∧
 x.B (56 : Nat) ≤ (4294967295 : Int)) ∧
 ((0 : Int) ≤ x.B (57 : Nat) ∧
 x.B (57 : Nat) ≤ (4294967295 : Int)) ∧
 ((0 : Int) ≤ x.B (56 : Nat) * (16777216 : Int) % (4294967296 : Int) ∧
 x.B (56 : Nat) * (16777216 : Int) % (4294967296 : Int) ≤ (4294967295 : Int) ∧
 (0 : Int) ≤ x.B (57 : Nat) * (65536 : Int) % (4294967296 : Int) ∧
 x.B (57 : Nat) * (65536 : Int) % (4294967296 : Int) ≤ (4294967295 : Int)) ∧
 ((0 : Int) ≤ x.B (58 : Nat) ∧
 x.B (58 : Nat) ≤ (4294967295 : Int)) ∧
 ((0 : Int) ≤ bitsOf BinOp.or (x.B (56 : Nat) * (16777216 : Int) % (4294967296 : Int)) (x.B (57 : Nat) * (65536 : Int) % (4294967296 : Int)) ∧
 bitsOf BinOp.or (x.B (56 : Nat) * (16777216 : Int) % (4294967296 : Int)) (x.B (57 : Nat) * (65536 : Int) % (4294967296 : Int)) ≤ (4294967295 : Int) ∧
 (0 : Int) ≤ x.B (58 : Nat) * (256 : Int) % (4294967296 : Int) ∧
 x.B (58 : Nat) * (256 : Int) % (4294967296 : Int) ≤ (4294967295 : Int)) ∧
 ((0 : Int) ≤ x.B (59 : Nat) ∧
 x.B (59 : Nat) ≤ (4294967295 : Int)) ∧
 ((0 : Int) ≤ bitsOf BinOp.or (bitsOf BinOp.or (x.B (56 : Nat) * (16777216 : Int) % (4294967296 : Int)) (x.B (57 : Nat) * (65536 : Int) % (4294967296 : Int))) (x.B (58 : Nat) * (256 : Int) % (4294967296 : Int)) ∧
 bitsOf BinOp.or (bitsOf BinOp.or (x.B (56 : Nat) * (16777216 : Int) % (4294967296 : Int)) (x.B (57 : Nat) * (65536 : Int) % (4294967296 : Int))) (x.B (58 : Nat) * (256 : Int) % (4294967296 : Int)) ≤ (4294967295 : Int) ∧
 (0 : Int) ≤ x.B (59 : Nat) ∧
 x.B (59 : Nat) ≤ (4294967295 : Int)) ∧
 ((0 : Int) ≤ x.B (60 : Nat) ∧
 x.B (60 : Nat) ≤ (4294967295 : Int)) ∧
 ((0 : Int) ≤ x.B (61 : Nat) ∧
 x.B (61 : Nat) ≤ (4294967295 : Int)) ∧
 ((0 : Int) ≤ x.B (60 : Nat) * (16777216 : Int) % (4294967296 : Int) ∧
 x.B (60 : Nat) * (16777216 : Int) % (4294967296 : Int) ≤ (4294967295 : Int) ∧
 (0 : Int) ≤ x.B (61 : Nat) * (65536 : Int) % (4294967296 : Int) ∧
 x.B (61 : Nat) * (65536 : Int) % (4294967296 : Int) ≤ (4294967295 : Int)) ∧
 ((0 : Int) ≤ x.B (62 : Nat) ∧
 x.B (62 : Nat) ≤ (4294967295 : Int)) ∧
 ((0 : Int) ≤ bitsOf BinOp.or (x.B (60 : Nat) * (16777216 : Int) % (4294967296 : Int)) (x.B (61 : Nat) * (65536 : Int) % (4294967296 : Int)) ∧
 bitsOf BinOp.or (x.B (60 : Nat) * (16777216 : Int) % (4294967296 : Int)) (x.B (61 : Nat) * (65536 : Int) % (4294967296 : Int)) ≤ (4294967295 : Int) ∧
 (0 : Int) ≤ x.B (62 : Nat) * (256 : Int) % (4294967296 : Int) ∧
 x.B (62 : Nat) * (256 : Int) % (4294967296 : Int) ≤ (4294967295 : Int)) ∧
 ((0 : Int) ≤ x.B (63 : Nat) ∧
 x.B (63 : Nat) ≤ (4294967295 : Int)) ∧
 ((0 : Int) ≤ bitsOf BinOp.or (bitsOf BinOp.or (x.B (60 : Nat) * (16777216 : Int) % (4294967296 : Int)) (x.B (61 : Nat) * (65536 : Int) % (4294967296 : Int))) (x.B (62 : Nat) * (256 : Int) % (4294967296 : Int)) ∧
 bitsOf BinOp.or (bitsOf BinOp.or (x.B (60 : Nat) * (16777216 : Int) % (4294967296 : Int)) (x.B (61 : Nat) * (65536 : Int) % (4294967296 : Int))) (x.B (62 : Nat) * (256 : Int) % (4294967296 : Int)) ≤ (4294967295 : Int) ∧
 (0 : Int) ≤ x.B (63 : Nat) ∧
 x.B (63 : Nat) ≤ (4294967295 : Int)) ∧
 (∃ (y : Nat), y ≤ (48 : Nat) ∧
 (16 : Int) = (16 : Int) + (↑y : Int) ∧
 SBle (SB.cells [SV.int .u32 false (bitsOf BinOp.or (bitsOf BinOp.or (bitsOf BinOp.or (x.B (0 : Nat) * (16777216 : Int) % (4294967296 : Int)) (x.B (1 : Nat) * (65536 : Int) % (4294967296 : Int))) (x.B (2 : Nat) * (256 : Int) % (4294967296 : Int))) (x.B 3)), SV.int .u32 false (bitsOf BinOp.or (bitsOf BinOp.or (bitsOf BinOp.or (x.B (4 : Nat) * (16777216 : Int) % (4294967296 : Int)) (x.B (5 : Nat) * (65536 : Int) % (4294967296 : Int))) (x.B (6 : Nat) * (256 : Int) % (4294967296 : Int))) (x.B 7)), SV.int .u32 false (bitsOf BinOp.or (bitsOf BinOp.or (bitsOf BinOp.or (x.B (8 : Nat) * (16777216 : Int) % (4294967296 : Int)) (x.B (9 : Nat) * (65536 : Int) % (4294967296 : Int))) (x.B (10 : Nat) * (256 : Int) % (4294967296 : Int))) (x.B 11)), SV.int .u32 false (bitsOf BinOp.or (bitsOf BinOp.or (bitsOf BinOp.or (x.B (12 : Nat) * (16777216 : Int) % (4294967296 : Int)) (x.B (13 : Nat) * (65536 : Int) % (4294967296 : Int))) (x.B (14 : Nat) * (256 : Int) % (4294967296 : Int))) (x.B 15)), SV.int .u32 false (bitsOf BinOp.or (bitsOf BinOp.or (bitsOf BinOp.or (x.B (16 : Nat) * (16777216 : Int) % (4294967296 : Int)) (x.B (17 : Nat) * (65536 : Int) % (4294967296 : Int))) (x.B (18 : Nat) * (256 : Int) % (4294967296 : Int))) (x.B 19)), SV.int .u32 false (bitsOf BinOp.or (bitsOf BinOp.or (bitsOf BinOp.or (x.B (20 : Nat) * (16777216 : Int) % (4294967296 : Int)) (x.B (21 : Nat) * (65536 : Int) % (4294967296 : Int))) (x.B (22 : Nat) * (256 : Int) % (4294967296 : Int))) (x.B 23)), SV.int .u32 false (bitsOf BinOp.or (bitsOf BinOp.or (bitsOf BinOp.or (x.B (24 : Nat) * (16777216 : Int) % (4294967296 : Int)) (x.B (25 : Nat) * (65536 : Int) % (4294967296 : Int))) (x.B (26 : Nat) * (256 : Int) % (4294967296 : Int))) (x.B 27)), SV.int .u32 false (bitsOf BinOp.or (bitsOf BinOp.or (bitsOf BinOp.or (x.B (28 : Nat) * (16777216 : Int) % (4294967296 : Int)) (x.B (29 : Nat) * (65536 : Int) % (4294967296 : Int))) (x.B (30 : Nat) * (256 : Int) % (4294967296 : Int))) (x.B 31)), SV.int .u32 false (bitsOf BinOp.or (bitsOf BinOp.or (bitsOf BinOp.or (x.B (32 : Nat) * (16777216 : Int) % (4294967296 : Int)) (x.B (33 : Nat) * (65536 : Int) % (4294967296 : Int))) (x.B (34 : Nat) * (256 : Int) % (4294967296 : Int))) (x.B 35)), SV.int .u32 false (bitsOf BinOp.or (bitsOf BinOp.or (bitsOf BinOp.or (x.B (36 : Nat) * (16777216 : Int) % (4294967296 : Int)) (x.B (37 : Nat) * (65536 : Int) % (4294967296 : Int))) (x.B (38 : Nat) * (256 : Int) % (4294967296 : Int))) (x.B 39)), SV.int .u32 false (bitsOf BinOp.or (bitsOf BinOp.or (bitsOf BinOp.or (x.B (40 : Nat) * (16777216 : Int) % (4294967296 : Int)) (x.B (41 : Nat) * (65536 : Int) % (4294967296 : Int))) (x.B (42 : Nat) * (256 : Int) % (4294967296 : Int))) (x.B 43)), SV.int .u32 false (bitsOf BinOp.or (bitsOf BinOp.or (bitsOf BinOp.or (x.B (44 : Nat) * (16777216 : Int) % (4294967296 : Int)) (x.B (45 : Nat) * (65536 : Int) % (4294967296 : Int))) (x.B (46 : Nat) * (256 : Int) % (4294967296 : Int))) (x.B 47)), SV.int .u32 false (bitsOf BinOp.or (bitsOf BinOp.or (bitsOf BinOp.or (x.B (48 : Nat) * (16777216 : Int) % (4294967296 : Int)) (x.B (49 : Nat) * (65536 : Int) % (4294967296 : Int))) (x.B (50 : Nat) * (256 : Int) % (4294967296 : Int))) (x.B 51)), SV.int .u32 false (bitsOf BinOp.or (bitsOf BinOp.or (bitsOf BinOp.or (x.B (52 : Nat) * (16777216 : Int) % (4294967296 : Int)) (x.B (53 : Nat) * (65536 : Int) % (4294967296 : Int))) (x.B (54 : Nat) * (256 : Int) % (4294967296 : Int))) (x.B 55)), SV.int .u32 false (bitsOf BinOp.or (bitsOf BinOp.or (bitsOf BinOp.or (x.B (56 : Nat) * (16777216 : Int) % (4294967296 : Int)) (x.B (57 : Nat) * (65536 : Int) % (4294967296 : Int))) (x.B (58 : Nat) * (256 : Int) % (4294967296 : Int))) (x.B 59)), SV.int .u32 false (bitsOf BinOp.or (bitsOf BinOp.or (bitsOf BinOp.or (x.B (60 : Nat) * (16777216 : Int) % (4294967296 : Int)) (x.B (61 : Nat) * (65536 : Int) % (4294967296 : Int))) (x.B (62 : Nat) * (256 : Int) % (4294967296 : Int))) (x.B 63)), SV.int .u32 true 0, SV.int .u32 true 0, SV.int .u32 true 0, SV.int .u32 true 0, SV.int .u32 true 0, SV.int .u32 true 0, SV.int .u32 true 0, SV.int .u32 true 0, SV.int .u32 true 0, SV.int .u32 true 0, SV.int .u32 true 0, SV.int .u32 true 0, SV.int .u32 true 0, SV.int .u32 true 0, SV.int .u32 true 0, SV.int .u32 true 0, SV.int .u32 true 0, SV.int .u32 true 0, SV.int .u32 true 0, SV.int .u32 true 0, SV.int .u32 true 0, SV.int .u32 true 0, SV.int .u32 true 0, SV.int .u32 true 0, SV.int .u32 true 0, SV.int .u32 true 0, SV.int .u32 true 0, SV.int .u32 true 0, SV.int .u32 true 0, SV.int .u32 true 0, SV.int .u32 true 0, SV.int .u32 true 0, SV.int .u32 true 0, SV.int .u32 true 0, SV.int .u32 true 0, SV.int .u32 true 0, SV.int .u32 true 0, SV.int .u32 true 0, SV.int .u32 true 0, SV.int .u32 true 0, SV.int .u32 true 0, SV.int .u32 true 0, SV.int .u32 true 0, SV.int .u32 true 0, SV.int .u32 true 0, SV.int .u32 true 0, SV.int .u32 true 0, SV.int .u32 true 0] 64 93) (SB.rows false 64 [Col.int IntKind.u32 (wL x.B y)] false 64 93) ∧
 SBle (SB.cells (SV.agg [SV.int .u32 true 0, SV.int .u32 true 0, SV.int .u32 true 0, SV.int .u32 true 0, SV.int .u32 true 0, SV.int .u32 true 0, SV.int .u32 true 0, SV.int .u32 true 0, SV.int .u32 true 0, SV.int .u32 true 0, SV.int .u32 true 0, SV.int .u32 true 0, SV.int .u32 true 0, SV.int .u32 true 0, SV.int .u32 true 0, SV.int .u32 true 0, SV.int .u32 true 0, SV.int .u32 true 0, SV.int .u32 true 0, SV.int .u32 true 0, SV.int .u32 true 0, SV.int .u32 true 0, SV.int .u32 true 0, SV.int .u32 true 0, SV.int .u32 true 0, SV.int .u32 true 0, SV.int .u32 true 0, SV.int .u32 true 0, SV.int .u32 true 0, SV.int .u32 true 0, SV.int .u32 true 0, SV.int .u32 true 0, SV.int .u32 true 0, SV.int .u32 true 0, SV.int .u32 true 0, SV.int .u32 true 0, SV.int .u32 true 0, SV.int .u32 true 0, SV.int .u32 true 0, SV.int .u32 true 0, SV.int .u32 true 0, SV.int .u32 true 0, SV.int .u32 true 0, SV.int .u32 true 0, SV.int .u32 true 0, SV.int .u32 true 0, SV.int .u32 true 0, SV.int .u32 true 0, SV.int .u32 true 0, SV.int .u32 true 0, SV.int .u32 true 0, SV.int .u32 true 0, SV.int .u32 true 0, SV.int .u32 true 0, SV.int .u32 true 0, SV.int .u32 true 0, SV.int .u32 true 0, SV.int .u32 true 0, SV.int .u32 true 0, SV.int .u32 true 0, SV.int .u32 true 0, SV.int .u32 true 0, SV.int .u32 true 0, SV.int .u32 true 0]).cells 64 93) (SB.cells (SV.agg [SV.int .u32 true 0, SV.int .u32 true 0, SV.int .u32 true 0, SV.int .u32 true 0, SV.int .u32 true 0, SV.int .u32 true 0, SV.int .u32 true 0, SV.int .u32 true 0, SV.int .u32 true 0, SV.int .u32 true 0, SV.int .u32 true 0, SV.int .u32 true 0, SV.int .u32 true 0, SV.int .u32 true 0, SV.int .u32 true 0, SV.int .u32 true 0, SV.int .u32 true 0, SV.int .u32 true 0, SV.int .u32 true 0, SV.int .u32 true 0, SV.int .u32 true 0, SV.int .u32 true 0, SV.int .u32 true 0, SV.int .u32 true 0, SV.int .u32 true 0, SV.int .u32 true 0, SV.int .u32 true 0, SV.int .u32 true 0, SV.int .u32 true 0, SV.int .u32 true 0, SV.int .u32 true 0, SV.int .u32 true 0, SV.int .u32 true 0, SV.int .u32 true 0, SV.int .u32 true 0, SV.int .u32 true 0, SV.int .u32 true 0, SV.int .u32 true 0, SV.int .u32 true 0, SV.int .u32 true 0, SV.int .u32 true 0, SV.int .u32 true 0, SV.int .u32 true 0, SV.int .u32 true 0, SV.int .u32 true 0, SV.int .u32 true 0, SV.int .u32 true 0, SV.int .u32 true 0, SV.int .u32 true 0, SV.int .u32 true 0, SV.int .u32 true 0, SV.int .u32 true 0, SV.int .u32 true 0, SV.int .u32 true 0, SV.int .u32 true 0, SV.int .u32 true 0, SV.int .u32 true 0, SV.int .u32 true 0, SV.int .u32 true 0, SV.int .u32 true 0, SV.int .u32 true 0, SV.int .u32 true 0, SV.int .u32 true 0, SV.int .u32 true 0]).cells 64 93) ∧
 SBle x.sb x.sb ∧
 True) ∧
 ∀ (x_1 : Nat), x_1 ≤ (48 : Nat) →
 (decide ((16 : Int) + (↑x_1 : Int) < (64 : Int)) = true →
 ((-9223372036854775808 : Int) ≤ (16 : Int) + (↑x_1 : Int) - (15 : Int) ∧
 (16 : Int) + (↑x_1 : Int) - (15 : Int) ≤ (9223372036854775807 : Int)) ∧
 ((0 : Int) ≤ (16 : Int) + (↑x_1 : Int) - (15 : Int) ∧
 (16 : Int) + (↑x_1 : Int) - (15 : Int) < (64 : Int)) ∧
 (((16 : Int) + (↑x_1 : Int) - (15 : Int)).toNat < (64 : Nat) ∧
 (0 : Nat) + ((16 : Int) + (↑x_1 : Int) - (15 : Int)).toNat < (64 : Nat)) ∧
 ((-9223372036854775808 : Int) ≤ (16 : Int) + (↑x_1 : Int) - (2 : Int) ∧
 (16 : Int) + (↑x_1 : Int) - (2 : Int) ≤ (9223372036854775807 : Int)) ∧
 ((0 : Int) ≤ (16 : Int) + (↑x_1 : Int) - (2 : Int) ∧
 (16 : Int) + (↑x_1 : Int) - (2 : Int) < (64 : Int)) ∧
 (((16 : Int) + (↑x_1 : Int) - (2 : Int)).toNat < (64 : Nat) ∧
 (0 : Nat) + ((16 : Int) + (↑x_1 : Int) - (2 : Int)).toNat < (64 : Nat)) ∧
 ((0 : Int) ≤ wL x.B x_1 ((0 : Nat) + ((16 : Int) + (↑x_1 : Int) - (15 : Int)).toNat) ∧
 wL x.B x_1 ((0 : Nat) + ((16 : Int) + (↑x_1 : Int) - (15 : Int)).toNat) ≤ (4294967295 : Int)) ∧
 ((0 : Int) ≤ wL x.B x_1 ((0 : Nat) + ((16 : Int) + (↑x_1 : Int) - (15 : Int)).toNat) ∧
 wL x.B x_1 ((0 : Nat) + ((16 : Int) + (↑x_1 : Int) - (15 : Int)).toNat) ≤ (4294967295 : Int)) ∧
 ((0 : Int) ≤ rotr (wL x.B x_1 ((0 : Nat) + ((16 : Int) + (↑x_1 : Int) - (15 : Int)).toNat)) (7 : Int) ∧
 rotr (wL x.B x_1 ((0 : Nat) + ((16 : Int) + (↑x_1 : Int) - (15 : Int)).toNat)) (7 : Int) ≤ (4294967295 : Int) ∧
 (0 : Int) ≤ rotr (wL x.B x_1 ((0 : Nat) + ((16 : Int) + (↑x_1 : Int) - (15 : Int)).toNat)) (18 : Int) ∧
 rotr (wL x.B x_1 ((0 : Nat) + ((16 : Int) + (↑x_1 : Int) - (15 : Int)).toNat)) (18 : Int) ≤ (4294967295 : Int)) ∧
 ((0 : Int) ≤ bitsOf BinOp.xor (rotr (wL x.B x_1 ((0 : Nat) + ((16 : Int) + (↑x_1 : Int) - (15 : Int)).toNat)) 7) (rotr (wL x.B x_1 ((0 : Nat) + ((16 : Int) + (↑x_1 : Int) - (15 : Int)).toNat)) 18) ∧
 bitsOf BinOp.xor (rotr (wL x.B x_1 ((0 : Nat) + ((16 : Int) + (↑x_1 : Int) - (15 : Int)).toNat)) 7) (rotr (wL x.B x_1 ((0 : Nat) + ((16 : Int) + (↑x_1 : Int) - (15 : Int)).toNat)) 18) ≤ (4294967295 : Int) ∧
 (0 : Int) ≤ wL x.B x_1 ((0 : Nat) + ((16 : Int) + (↑x_1 : Int) - (15 : Int)).toNat) / (8 : Int) ∧
 wL x.B x_1 ((0 : Nat) + ((16 : Int) + (↑x_1 : Int) - (15 : Int)).toNat) / (8 : Int) ≤ (4294967295 : Int)) ∧
 ((0 : Int) ≤ wL x.B x_1 ((0 : Nat) + ((16 : Int) + (↑x_1 : Int) - (2 : Int)).toNat) ∧
 wL x.B x_1 ((0 : Nat) + ((16 : Int) + (↑x_1 : Int) - (2 : Int)).toNat) ≤ (4294967295 : Int)) ∧
 ((0 : Int) ≤ wL x.B x_1 ((0 : Nat) + ((16 : Int) + (↑x_1 : Int) - (2 : Int)).toNat) ∧
 wL x.B x_1 ((0 : Nat) + ((16 : Int) + (↑x_1 : Int) - (2 : Int)).toNat) ≤ (4294967295 : Int)) ∧
 ((0 : Int) ≤ rotr (wL x.B x_1 ((0 : Nat) + ((16 : Int) + (↑x_1 : Int) - (2 : Int)).toNat)) (17 : Int) ∧
 rotr (wL x.B x_1 ((0 : Nat) + ((16 : Int) + (↑x_1 : Int) - (2 : Int)).toNat)) (17 : Int) ≤ (4294967295 : Int) ∧
 (0 : Int) ≤ rotr (wL x.B x_1 ((0 : Nat) + ((16 : Int) + (↑x_1 : Int) - (2 : Int)).toNat)) (19 : Int) ∧
 rotr (wL x.B x_1 ((0 : Nat) + ((16 : Int) + (↑x_1 : Int) - (2 : Int)).toNat)) (19 : Int) ≤ (4294967295 : Int)) ∧
 ((0 : Int) ≤ bitsOf BinOp.xor (rotr (wL x.B x_1 ((0 : Nat) + ((16 : Int) + (↑x_1 : Int) - (2 : Int)).toNat)) 17) (rotr (wL x.B x_1 ((0 : Nat) + ((16 : Int) + (↑x_1 : Int) - (2 : Int)).toNat)) 19) ∧
 bitsOf BinOp.xor (rotr (wL x.B x_1 ((0 : Nat) + ((16 : Int) + (↑x_1 : Int) - (2 : Int)).toNat)) 17) (rotr (wL x.B x_1 ((0 : Nat) + ((16 : Int) + (↑x_1 : Int) - (2 : Int)).toNat)) 19) ≤ (4294967295 : Int) ∧
 (0 : Int) ≤ wL x.B x_1 ((0 : Nat) + ((16 : Int) + (↑x_1 : Int) - (2 : Int)).toNat) / (1024 : Int) ∧
 wL x.B x_1 ((0 : Nat) + ((16 : Int) + (↑x_1 : Int) - (2 : Int)).toNat) / (1024 : Int) ≤ (4294967295 : Int)) ∧
 ((-9223372036854775808 : Int) ≤ (16 : Int) + (↑x_1 : Int) - (16 : Int) ∧
 (16 : Int) + (↑x_1 : Int) - (16 : Int) ≤ (9223372036854775807 : Int)) ∧
 ((0 : Int) ≤ (16 : Int) + (↑x_1 : Int) - (16 : Int) ∧
 (16 : Int) + (↑x_1 : Int) - (16 : Int) < (64 : Int)) ∧
 (((16 : Int) + (↑x_1 : Int) - (16 : Int)).toNat < (64 : Nat) ∧
 (0 : Nat) + ((16 : Int) + (↑x_1 : Int) - (16 : Int)).toNat < (64 : Nat)) ∧
 ((-9223372036854775808 : Int) ≤ (16 : Int) + (↑x_1 : Int) - (7 : Int) ∧
 (16 : Int) + (↑x_1 : Int) - (7 : Int) ≤ (9223372036854775807 : Int)) ∧
 ((0 : Int) ≤ (16 : Int) + (↑x_1 : Int) - (7 : Int) ∧
 (16 : Int) + (↑x_1 : Int) - (7 : Int) < (64 : Int)) ∧
 (((16 : Int) + (↑x_1 : Int) - (7 : Int)).toNat < (64 : Nat) ∧
 (0 : Nat) + ((16 : Int) + (↑x_1 : Int) - (7 : Int)).toNat < (64 : Nat)) ∧
 ((0 : Int) ≤ (16 : Int) + (↑x_1 : Int) ∧
 (16 : Int) + (↑x_1 : Int) < (64 : Int)) ∧
 (((16 : Int) + (↑x_1 : Int)).toNat < (64 : Nat) ∧
 (0 : Nat) + ((16 : Int) + (↑x_1 : Int)).toNat < (64 : Nat)) ∧
 ((-9223372036854775808 : Int) ≤ (16 : Int) + (↑x_1 : Int) + (1 : Int) ∧
 (16 : Int) + (↑x_1 : Int) + (1 : Int) ≤ (9223372036854775807 : Int)) ∧
 ∃ (y : Nat), (y ≤ (48 : Nat) ∧
 (48 : Nat) - y < (48 : Nat) - x_1) ∧
 (16 : Int) + (↑x_1 : Int) + (1 : Int) = (16 : Int) + (↑y : Int) ∧
 SBle (SB.rows false 64 [Col.int IntKind.u32 fun (j : Nat) => if j = (0 : Nat) + ((16 : Int) + (↑x_1 : Int)).toNat then (((wL x.B x_1 ((0 : Nat) + ((16 : Int) + (↑x_1 : Int) - (16 : Int)).toNat) + bitsOf BinOp.xor (bitsOf BinOp.xor (rotr (wL x.B x_1 ((0 : Nat) + ((16 : Int) + (↑x_1 : Int) - (15 : Int)).toNat)) 7) (rotr (wL x.B x_1 ((0 : Nat) + ((16 : Int) + (↑x_1 : Int) - (15 : Int)).toNat)) 18)) (wL x.B x_1 ((0 : Nat) + ((16 : Int) + (↑x_1 : Int) - (15 : Int)).toNat) / (8 : Int))) % (4294967296 : Int) + wL x.B x_1 ((0 : Nat) + ((16 : Int) + (↑x_1 : Int) - (7 : Int)).toNat)) % (4294967296 : Int) + bitsOf BinOp.xor (bitsOf BinOp.xor (rotr (wL x.B x_1 ((0 : Nat) + ((16 : Int) + (↑x_1 : Int) - (2 : Int)).toNat)) 17) (rotr (wL x.B x_1 ((0 : Nat) + ((16 : Int) + (↑x_1 : Int) - (2 : Int)).toNat)) 19)) (wL x.B x_1 ((0 : Nat) + ((16 : Int) + (↑x_1 : Int) - (2 : Int)).toNat) / (1024 : Int))) % (4294967296 : Int) else wL x.B x_1 j] false 64 93) (SB.rows false 64 [Col.int IntKind.u32 (wL x.B y)] false 64 93) ∧
 SBle (SB.cells (SV.agg [SV.int .u32 true 0, SV.int .u32 true 0, SV.int .u32 true 0, SV.int .u32 true 0, SV.int .u32 true 0, SV.int .u32 true 0, SV.int .u32 true 0, SV.int .u32 true 0, SV.int .u32 true 0, SV.int .u32 true 0, SV.int .u32 true 0, SV.int .u32 true 0, SV.int .u32 true 0, SV.int .u32 true 0, SV.int .u32 true 0, SV.int .u32 true 0, SV.int .u32 true 0, SV.int .u32 true 0, SV.int .u32 true 0, SV.int .u32 true 0, SV.int .u32 true 0, SV.int .u32 true 0, SV.int .u32 true 0, SV.int .u32 true 0, SV.int .u32 true 0, SV.int .u32 true 0, SV.int .u32 true 0, SV.int .u32 true 0, SV.int .u32 true 0, SV.int .u32 true 0, SV.int .u32 true 0, SV.int .u32 true 0, SV.int .u32 true 0, SV.int .u32 true 0, SV.int .u32 true 0, SV.int .u32 true 0, SV.int .u32 true 0, SV.int .u32 true 0, SV.int .u32 true 0, SV.int .u32 true 0, SV.int .u32 true 0, SV.int .u32 true 0, SV.int .u32 true 0, SV.int .u32 true 0, SV.int .u32 true 0, SV.int .u32 true 0, SV.int .u32 true 0, SV.int .u32 true 0, SV.int .u32 true 0, SV.int .u32 true 0, SV.int .u32 true 0, SV.int .u32 true 0, SV.int .u32 true 0, SV.int .u32 true 0, SV.int .u32 true 0, SV.int .u32 true 0, SV.int .u32 true 0, SV.int .u32 true 0, SV.int .u32 true 0, SV.int .u32 true 0, SV.int .u32 true 0, SV.int .u32 true 0, SV.int .u32 true 0, SV.int .u32 true 0]).cells 64 93) (SB.cells (SV.agg [SV.int .u32 true 0, SV.int .u32 true 0, SV.int .u32 true 0, SV.int .u32 true 0, SV.int .u32 true 0, SV.int .u32 true 0, SV.int .u32 true 0, SV.int .u32 true 0, SV.int .u32 true 0, SV.int .u32 true 0, SV.int .u32 true 0, SV.int .u32 true 0, SV.int .u32 true 0, SV.int .u32 true 0, SV.int .u32 true 0, SV.int .u32 true 0, SV.int .u32 true 0, SV.int .u32 true 0, SV.int .u32 true 0, SV.int .u32 true 0, SV.int .u32 true 0, SV.int .u32 true 0, SV.int .u32 true 0, SV.int .u32 true 0, SV.int .u32 true 0, SV.int .u32 true 0, SV.int .u32 true 0, SV.int .u32 true 0, SV.int .u32 true 0, SV.int .u32 true 0, SV.int .u32 true 0, SV.int .u32 true 0, SV.int .u32 true 0, SV.int .u32 true 0, SV.int .u32 true 0, SV.int .u32 true 0, SV.int .u32 true 0, SV.int .u32 true 0, SV.int .u32 true 0, SV.int .u32 true 0, SV.int .u32 true 0, SV.int .u32 true 0, SV.int .u32 true 0, SV.int .u32 true 0, SV.int .u32 true 0, SV.int .u32 true 0, SV.int .u32 true 0, SV.int .u32 true 0, SV.int .u32 true 0, SV.int .u32 true 0, SV.int .u32 true 0, SV.int .u32 true 0, SV.int .u32 true 0, SV.int .u32 true 0, SV.int .u32 true 0, SV.int .u32 true 0, SV.int .u32 true 0, SV.int .u32 true 0, SV.int .u32 true 0, SV.int .u32 true 0, SV.int .u32 true 0, SV.int .u32 true 0, SV.int .u32 true 0, SV.int .u32 true 0]).cells 64 93) ∧
 SBle x.sb x.sb ∧
 True) ∧
 (decide ((16 : Int) + (↑x_1 : Int) < (64 : Int)) = false →
 (64 : Nat) ≤ (64 : Nat) ∧
 ∃ (_y : Unit), True ∧
 SBle x.sb x.sb ∧
 sameVal (SV.agg [Col.at 0 (Col.int IntKind.u32 (wL x.B x_1)), Col.at 1 (Col.int IntKind.u32 (wL x.B x_1)), Col.at 2 (Col.int IntKind.u32 (wL x.B x_1)), Col.at 3 (Col.int IntKind.u32 (wL x.B x_1)), Col.at 4 (Col.int IntKind.u32 (wL x.B x_1)), Col.at 5 (Col.int IntKind.u32 (wL x.B x_1)), Col.at 6 (Col.int IntKind.u32 (wL x.B x_1)), Col.at 7 (Col.int IntKind.u32 (wL x.B x_1)), Col.at 8 (Col.int IntKind.u32 (wL x.B x_1)), Col.at 9 (Col.int IntKind.u32 (wL x.B x_1)), Col.at 10 (Col.int IntKind.u32 (wL x.B x_1)), Col.at 11 (Col.int IntKind.u32 (wL x.B x_1)), Col.at 12 (Col.int IntKind.u32 (wL x.B x_1)), Col.at 13 (Col.int IntKind.u32 (wL x.B x_1)), Col.at 14 (Col.int IntKind.u32 (wL x.B x_1)), Col.at 15 (Col.int IntKind.u32 (wL x.B x_1)), Col.at 16 (Col.int IntKind.u32 (wL x.B x_1)), Col.at 17 (Col.int IntKind.u32 (wL x.B x_1)), Col.at 18 (Col.int IntKind.u32 (wL x.B x_1)), Col.at 19 (Col.int IntKind.u32 (wL x.B x_1)), Col.at 20 (Col.int IntKind.u32 (wL x.B x_1)), Col.at 21 (Col.int IntKind.u32 (wL x.B x_1)), Col.at 22 (Col.int IntKind.u32 (wL x.B x_1)), Col.at 23 (Col.int IntKind.u32 (wL x.B x_1)), Col.at 24 (Col.int IntKind.u32 (wL x.B x_1)), Col.at 25 (Col.int IntKind.u32 (wL x.B x_1)), Col.at 26 (Col.int IntKind.u32 (wL x.B x_1)), Col.at 27 (Col.int IntKind.u32 (wL x.B x_1)), Col.at 28 (Col.int IntKind.u32 (wL x.B x_1)), Col.at 29 (Col.int IntKind.u32 (wL x.B x_1)), Col.at 30 (Col.int IntKind.u32 (wL x.B x_1)), Col.at 31 (Col.int IntKind.u32 (wL x.B x_1)), Col.at 32 (Col.int IntKind.u32 (wL x.B x_1)), Col.at 33 (Col.int IntKind.u32 (wL x.B x_1)), Col.at 34 (Col.int IntKind.u32 (wL x.B x_1)), Col.at 35 (Col.int IntKind.u32 (wL x.B x_1)), Col.at 36 (Col.int IntKind.u32 (wL x.B x_1)), Col.at 37 (Col.int IntKind.u32 (wL x.B x_1)), Col.at 38 (Col.int IntKind.u32 (wL x.B x_1)), Col.at 39 (Col.int IntKind.u32 (wL x.B x_1)), Col.at 40 (Col.int IntKind.u32 (wL x.B x_1)), Col.at 41 (Col.int IntKind.u32 (wL x.B x_1)), Col.at 42 (Col.int IntKind.u32 (wL x.B x_1)), Col.at 43 (Col.int IntKind.u32 (wL x.B x_1)), Col.at 44 (Col.int IntKind.u32 (wL x.B x_1)), Col.at 45 (Col.int IntKind.u32 (wL x.B x_1)), Col.at 46 (Col.int IntKind.u32 (wL x.B x_1)), Col.at 47 (Col.int IntKind.u32 (wL x.B x_1)), Col.at 48 (Col.int IntKind.u32 (wL x.B x_1)), Col.at 49 (Col.int IntKind.u32 (wL x.B x_1)), Col.at 50 (Col.int IntKind.u32 (wL x.B x_1)), Col.at 51 (Col.int IntKind.u32 (wL x.B x_1)), Col.at 52 (Col.int IntKind.u32 (wL x.B x_1)), Col.at 53 (Col.int IntKind.u32 (wL x.B x_1)), Col.at 54 (Col.int IntKind.u32 (wL x.B x_1)), Col.at 55 (Col.int IntKind.u32 (wL x.B x_1)), Col.at 56 (Col.int IntKind.u32 (wL x.B x_1)), Col.at 57 (Col.int IntKind.u32 (wL x.B x_1)), Col.at 58 (Col.int IntKind.u32 (wL x.B x_1)), Col.at 59 (Col.int IntKind.u32 (wL x.B x_1)), Col.at 60 (Col.int IntKind.u32 (wL x.B x_1)), Col.at 61 (Col.int IntKind.u32 (wL x.B x_1)), Col.at 62 (Col.int IntKind.u32 (wL x.B x_1)), Col.at 63 (Col.int IntKind.u32 (wL x.B x_1))]) (spreadSV x.B))) := by kernel_rfl
theorem vcMix (x : Sh) : VC.holds (runBox (cfgMix x.W x.B) 44 Tryd.f44 [.ptr 0 true 0, .slc 0 8 64 true 64] Sh.sb x (fun _ : Unit => (True, .tup [], { x with W := mixS x.W x.B }))) = ((fun Q0 : SB => (∃ (x_1 : Sh), SBle (SB.cells [SV.int .u32 false (x.W 0), SV.int .u32 false (x.W 1), SV.int .u32 false (x.W 2), SV.int .u32 false (x.W 3), SV.int .u32 false (x.W 4), SV.int .u32 false (x.W 5), SV.int .u32 false (x.W 6), SV.int .u32 false (x.W 7), SV.int .u8 false (x.B 0), SV.int .u8 false (x.B 1), SV.int .u8 false (x.B 2), SV.int .u8 false (x.B 3), SV.int .u8 false (x.B 4), SV.int .u8 false (x.B 5), SV.int .u8 false (x.B 6), SV.int .u8 false (x.B 7), SV.int .u8 false (x.B 8), SV.int .u8 false (x.B 9), SV.int .u8 false (x.B 10), SV.int .u8 false (x.B 11), SV.int .u8 false (x.B 12), SV.int .u8 false (x.B 13), SV.int .u8 false (x.B 14), SV.int .u8 false (x.B 15), SV.int .u8 false (x.B 16), SV.int .u8 false (x.B 17), SV.int .u8 false (x.B 18), SV.int .u8 false (x.B 19), SV.int .u8 false (x.B 20), SV.int .u8 false (x.B 21), SV.int .u8 false (x.B 22), SV.int .u8 false (x.B 23), SV.int .u8 false (x.B 24), SV.int .u8 false (x.B 25), SV.int .u8 false (x.B 26), SV.int .u8 false (x.B 27), SV.int .u8 false (x.B 28), SV.int .u8 false (x.B 29), SV.int .u8 false (x.B 30), SV.int .u8 false (x.B 31), SV.int .u8 false (x.B 32), SV.int .u8 false (x.B 33), SV.int .u8 false (x.B 34), SV.int .u8 false (x.B 35), SV.int .u8 false (x.B 36), SV.int .u8 false (x.B 37), SV.int .u8 false (x.B 38), SV.int .u8 false (x.B 39), SV.int .u8 false (x.B 40), SV.int .u8 false (x.B 41), SV.int .u8 false (x.B 42), SV.int .u8 false (x.B 43), SV.int .u8 false (x.B 44), SV.int .u8 false (x.B 45), SV.int .u8 false (x.B 46), SV.int .u8 false (x.B 47), SV.int .u8 false (x.B 48), SV.int .u8 false (x.B 49), SV.int .u8 false (x.B 50), SV.int .u8 false (x.B 51), SV.int .u8 false (x.B 52), SV.int .u8 false (x.B 53), SV.int .u8 false (x.B 54), SV.int .u8 false (x.B 55), SV.int .u8 false (x.B 56), SV.int .u8 false (x.B 57), SV.int .u8 false (x.B 58), SV.int .u8 false (x.B 59), SV.int .u8 false (x.B 60), SV.int .u8 false (x.B 61), SV.int .u8 false (x.B 62), SV.int .u8 false (x.B 63), SV.int .i64 false x.held, SV.int .u64 false x.size] 74 76) (SB.cells [SV.int .u32 false (x_1.W 0), SV.int .u32 false (x_1.W 1), SV.int .u32 false (x_1.W 2), SV.int .u32 false (x_1.W 3), SV.int .u32 false (x_1.W 4), SV.int .u32 false (x_1.W 5), SV.int .u32 false (x_1.W 6), SV.int .u32 false (x_1.W 7), SV.int .u8 false (x_1.B 0), SV.int .u8 false (x_1.B 1), SV.int .u8 false (x_1.B 2), SV.int .u8 false (x_1.B 3), SV.int .u8 false (x_1.B 4), SV.int .u8 false (x_1.B 5), SV.int .u8 false (x_1.B 6), SV.int .u8 false (x_1.B 7), SV.int .u8 false (x_1.B 8), SV.int .u8 false (x_1.B 9), SV.int .u8 false (x_1.B 10), SV.int .u8 false (x_1.B 11), SV.int .u8 false (x_1.B 12), SV.int .u8 false (x_1.B 13), SV.int .u8 false (x_1.B 14), SV.int .u8 false (x_1.B 15), SV.int .u8 false (x_1.B 16), SV.int .u8 false (x_1.B 17), SV.int .u8 false (x_1.B 18), SV.int .u8 false (x_1.B 19), SV.int .u8 false (x_1.B 20), SV.int .u8 false (x_1.B 21), SV.int .u8 false (x_1.B 22), SV.int .u8 false (x_1.B 23), SV.int .u8 false (x_1.B 24), SV.int .u8 false (x_1.B 25), SV.int .u8 false (x_1.B 26), SV.int .u8 false (x_1.B 27), SV.int .u8 false (x_1.B 28), SV.int .u8 false (x_1.B 29), SV.int .u8 false (x_1.B 30), SV.int .u8 false (x_1.B 31), SV.int .u8 false (x_1.B 32), SV.int .u8 false (x_1.B 33), SV.int .u8 false (x_1.B 34), SV.int .u8 false (x_1.B 35), SV.int .u8 false (x_1.B 36), SV.int .u8 false (x_1.B 37), SV.int .u8 false (x_1.B 38), SV.int .u8 false (x_1.B 39), SV.int .u8 false (x_1.B 40), SV.int .u8 false (x_1.B 41), SV.int .u8 false (x_1.B 42), SV.int .u8 false (x_1.B 43), SV.int .u8 false (x_1.B 44), SV.int .u8 false (x_1.B 45), SV.int .u8 false (x_1.B 46), SV.int .u8 false (x_1.B 47), SV.int .u8 false (x_1.B 48), SV.int .u8 false (x_1.B 49), SV.int .u8 false (x_1.B 50), SV.int .u8 false (x_1.B 51), SV.int .u8 false (x_1.B 52), SV.int .u8 false (x_1.B 53), SV.int .u8 false (x_1.B 54), SV.int .u8 false (x_1.B 55), SV.int .u8 false (x_1.B 56), SV.int .u8 false (x_1.B 57), SV.int .u8 false (x_1.B 58), SV.int .u8 false (x_1.B 59), SV.int .u8 false (x_1.B 60), SV.int .u8 false (x_1.B 61), SV.int .u8 false (x_1.B 62), SV.int .u8 false (x_1.B 63), SV.int .i64 false x_1.held, SV.int .u64 false x_1.size] 74 76) ∧
 x_1.Ok ∧
 ∀ (_y : Unit), True →
 (∃ (y : Nat), y ≤ (64 : Nat) ∧
 (0 : Int) = (↑y : Int) ∧
 SBle (SB.cells [SV.int .u32 false (wL x_1.B 48 0), SV.int .u32 false (wL x_1.B 48 1), SV.int .u32 false (wL x_1.B 48 2), SV.int .u32 false (wL x_1.B 48 3), SV.int .u32 false (wL x_1.B 48 4), SV.int .u32 false (wL x_1.B 48 5), SV.int .u32 false (wL x_1.B 48 6), SV.int .u32 false (wL x_1.B 48 7), SV.int .u32 false (wL x_1.B 48 8), SV.int .u32 false (wL x_1.B 48 9), SV.int .u32 false (wL x_1.B 48 10), SV.int .u32 false (wL x_1.B 48 11), SV.int .u32 false (wL x_1.B 48 12), SV.int .u32 false (wL x_1.B 48 13), SV.int .u32 false (wL x_1.B 48 14), SV.int .u32 false (wL x_1.B 48 15), SV.int .u32 false (wL x_1.B 48 16), SV.int .u32 false (wL x_1.B 48 17), SV.int .u32 false (wL x_1.B 48 18), SV.int .u32 false (wL x_1.B 48 19), SV.int .u32 false (wL x_1.B 48 20), SV.int .u32 false (wL x_1.B 48 21), SV.int .u32 false (wL x_1.B 48 22), SV.int .u32 false (wL x_1.B 48 23), SV.int .u32 false (wL x_1.B 48 24), SV.int .u32 false (wL x_1.B 48 25), SV.int .u32 false (wL x_1.B 48 26), SV.int .u32 false (wL x_1.B 48 27), SV.int .u32 false (wL x_1.B 48 28), SV.int .u32 false (wL x_1.B 48 29), SV.int .u32 false (wL x_1.B 48 30), SV.int .u32 false (wL x_1.B 48 31), SV.int .u32 false (wL x_1.B 48 32), SV.int .u32 false (wL x_1.B 48 33), SV.int .u32 false (wL x_1.B 48 34), SV.int .u32 false (wL x_1.B 48 35), SV.int .u32 false (wL x_1.B 48 36), SV.int .u32 false (wL x_1.B 48 37), SV.int .u32 false (wL x_1.B 48 38), SV.int .u32 false (wL x_1.B 48 39), SV.int .u32 false (wL x_1.B 48 40), SV.int .u32 false (wL x_1.B 48 41), SV.int .u32 false (wL x_1.B 48 42), SV.int .u32 false (wL x_1.B 48 43), SV.int .u32 false (wL x_1.B 48 44), SV.int .u32 false (wL x_1.B 48 45), SV.int .u32 false (wL x_1.B 48 46), SV.int .u32 false (wL x_1.B 48 47), SV.int .u32 false (wL x_1.B 48 48), SV.int .u32 false (wL x_1.B 48 49), SV.int .u32 false (wL x_1.B 48 50), SV.int .u32 false (wL x_1.B 48 51), SV.int .u32 false (wL x_1.B 48 52), SV.int .u32 false (wL x_1.B 48 53), SV.int .u32 false (wL x_1.B 48 54), SV.int .u32 false (wL x_1.B 48 55), SV.int .u32 false (wL x_1.B 48 56), SV.int .u32 false (wL x_1.B 48 57), SV.int .u32 false (wL x_1.B 48 58), SV.int .u32 false (wL x_1.B 48 59), SV.int .u32 false (wL x_1.B 48 60), SV.int .u32 false (wL x_1.B 48 61), SV.int .u32 false (wL x_1.B 48 62), SV.int .u32 false (wL x_1.B 48 63)] 64 93) Q0 ∧
 SBle (SB.cells [SV.int .u32 false (x_1.W 0), SV.int .u32 false (x_1.W 1), SV.int .u32 false (x_1.W 2), SV.int .u32 false (x_1.W 3), SV.int .u32 false (x_1.W 4), SV.int .u32 false (x_1.W 5), SV.int .u32 false (x_1.W 6), SV.int .u32 false (x_1.W 7)] 8 72) (SB.cells [SV.int .u32 false (vAt x.W x.B y 0), SV.int .u32 false (vAt x.W x.B y 1), SV.int .u32 false (vAt x.W x.B y 2), SV.int .u32 false (vAt x.W x.B y 3), SV.int .u32 false (vAt x.W x.B y 4), SV.int .u32 false (vAt x.W x.B y 5), SV.int .u32 false (vAt x.W x.B y 6), SV.int .u32 false (vAt x.W x.B y 7)] 8 72) ∧
 SBle x_1.sb x_1.sb ∧
 True) ∧
 ∀ (x_3 : Nat), x_3 ≤ (64 : Nat) →
 (decide ((↑x_3 : Int) < (64 : Int)) = true →
 (((0 : Int) ≤ vAt x.W x.B x_3 (4 : Nat) ∧
 vAt x.W x.B x_3 (4 : Nat) ≤ (4294967295 : Int) ∧
 (0 : Int) ≤ vAt x.W x.B x_3 (5 : Nat) ∧
 vAt x.W x.B x_3 (5 : Nat) ≤ (4294967295 : Int)) ∧
 ((0 : Int) ≤ (4294967295 : Int) ∧
 (4294967295 : Int) ≤ (4294967295 : Int) ∧
 (0 : Int) ≤ vAt x.W x.B x_3 (4 : Nat) ∧
 vAt x.W x.B x_3 (4 : Nat) ≤ (4294967295 : Int)) ∧
 ((0 : Int) ≤ bitsOf BinOp.xor 4294967295 (vAt x.W x.B x_3 4) ∧
 bitsOf BinOp.xor 4294967295 (vAt x.W x.B x_3 4) ≤ (4294967295 : Int) ∧
 (0 : Int) ≤ vAt x.W x.B x_3 (6 : Nat) ∧
 vAt x.W x.B x_3 (6 : Nat) ≤ (4294967295 : Int)) ∧
 ((0 : Int) ≤ bitsOf BinOp.and (vAt x.W x.B x_3 4) (vAt x.W x.B x_3 5) ∧
 bitsOf BinOp.and (vAt x.W x.B x_3 4) (vAt x.W x.B x_3 5) ≤ (4294967295 : Int) ∧
 (0 : Int) ≤ bitsOf BinOp.and (bitsOf BinOp.xor 4294967295 (vAt x.W x.B x_3 4)) (vAt x.W x.B x_3 6) ∧
 bitsOf BinOp.and (bitsOf BinOp.xor 4294967295 (vAt x.W x.B x_3 4)) (vAt x.W x.B x_3 6) ≤ (4294967295 : Int)) ∧
 ((0 : Int) ≤ (↑x_3 : Int) ∧
 (↑x_3 : Int) < (64 : Int)) ∧
 (↑x_3 : Int).toNat < (64 : Nat) ∧
 ((0 : Int) ≤ (↑x_3 : Int) ∧
 (↑x_3 : Int) < (64 : Int)) ∧
 ((↑x_3 : Int).toNat < (64 : Nat) ∧
 (0 : Nat) + (↑x_3 : Int).toNat < (64 : Nat)) ∧
 ((0 : Int) ≤ vAt x.W x.B x_3 (4 : Nat) ∧
 vAt x.W x.B x_3 (4 : Nat) ≤ (4294967295 : Int)) ∧
 some Q0 = some Q0 ∧
 some (SB.cells [SV.int .u32 false (vAt x.W x.B x_3 0), SV.int .u32 false (vAt x.W x.B x_3 1), SV.int .u32 false (vAt x.W x.B x_3 2), SV.int .u32 false (vAt x.W x.B x_3 3), SV.int .u32 false (vAt x.W x.B x_3 4), SV.int .u32 false (vAt x.W x.B x_3 5), SV.int .u32 false (vAt x.W x.B x_3 6), SV.int .u32 false (vAt x.W x.B x_3 7)] 8 72) = some (SB.cells [SV.int .u32 false (vAt x.W x.B x_3 0), SV.int .u32 false (vAt x.W x.B x_3 1), SV.int .u32 false (vAt x.W x.B x_3 2), SV.int .u32 false (vAt x.W x.B x_3 3), SV.int .u32 false (vAt x.W x.B x_3 4), SV.int .u32 false (vAt x.W x.B x_3 5), SV.int .u32 false (vAt x.W x.B x_3 6), SV.int .u32 false (vAt x.W x.B x_3 7)] 8 72) ∧
 some (SB.cells [SV.int .u32 false (vAt x.W x.B x_3 0), SV.int .u32 false (vAt x.W x.B x_3 1), SV.int .u32 false (vAt x.W x.B x_3 2), SV.int .u32 false (vAt x.W x.B x_3 3), SV.int .u32 false (vAt x.W x.B x_3 4), SV.int .u32 false (vAt x.W x.B x_3 5), SV.int .u32 false (vAt x.W x.B x_3 6), SV.int .u32 false (vAt x.W x.B x_3 7)] 8 72) = some (SB.cells [SV.int .u32 false (vAt x.W x.B x_3 0), SV.int .u32 false (vAt x.W x.B x_3 1), SV.int .u32 false (vAt x.W x.B x_3 2), SV.int .u32 false (vAt x.W x.B x_3 3), SV.int .u32 false (vAt x.W x.B x_3 4), SV.int .u32 false (vAt x.W x.B x_3 5), SV.int .u32 false (vAt x.W x.B x_3 6), SV.int .u32 false (vAt x.W x.B x_3 7)] 8 72) ∧
 some (SB.cells [SV.int .u32 false (vAt x.W x.B x_3 0), SV.int .u32 false (vAt x.W x.B x_3 1), SV.int .u32 false (vAt x.W x.B x_3 2), SV.int .u32 false (vAt x.W x.B x_3 3), SV.int .u32 false (vAt x.W x.B x_3 4), SV.int .u32 false (vAt x.W x.B x_3 5), SV.int .u32 false (vAt x.W x.B x_3 6), SV.int .u32 false (vAt x.W x.B x_3 7)] 8 72) = some (SB.cells [SV.int .u32 false (vAt x.W x.B x_3 0), SV.int .u32 false (vAt x.W x.B x_3 1), SV.int .u32 false (vAt x.W x.B x_3 2), SV.int .u32 false (vAt x.W x.B x_3 3), SV.int .u32 false (vAt x.W x.B x_3 4), SV.int .u32 false (vAt x.W x.B x_3 5), SV.int .u32 false (vAt x.W x.B x_3 6), SV.int .u32 false (vAt x.W x.B x_3 7)] 8 72) ∧
 ((0 : Int) ≤ vAt x.W x.B x_3 (4 : Nat) ∧
 vAt x.W x.B x_3 (4 : Nat) ≤ (4294967295 : Int)) ∧
 some Q0 = some Q0 ∧
 some (SB.cells [SV.int .u32 false (vAt x.W x.B x_3 0), SV.int .u32 false (vAt x.W x.B x_3 1), SV.int .u32 false (vAt x.W x.B x_3 2), SV.int .u32 false (vAt x.W x.B x_3 3), SV.int .u32 false (vAt x.W x.B x_3 4), SV.int .u32 false (vAt x.W x.B x_3 5), SV.int .u32 false (vAt x.W x.B x_3 6), SV.int .u32 false (vAt x.W x.B x_3 7)] 8 72) = some (SB.cells [SV.int .u32 false (vAt x.W x.B x_3 0), SV.int .u32 false (vAt x.W x.B x_3 1), SV.int .u32 false (vAt x.W x.B x_3 2), SV.int .u32 false (vAt x.W x.B x_3 3), SV.int .u32 false (vAt x.W x.B x_3 4), SV.int .u32 false (vAt x.W x.B x_3 5), SV.int .u32 false (vAt x.W x.B x_3 6), SV.int .u32 false (vAt x.W x.B x_3 7)] 8 72) ∧
 some (SB.cells [SV.int .u32 false (vAt x.W x.B x_3 0), SV.int .u32 false (vAt x.W x.B x_3 1), SV.int .u32 false (vAt x.W x.B x_3 2), SV.int .u32 false (vAt x.W x.B x_3 3), SV.int .u32 false (vAt x.W x.B x_3 4), SV.int .u32 false (vAt x.W x.B x_3 5), SV.int .u32 false (vAt x.W x.B x_3 6), SV.int .u32 false (vAt x.W x.B x_3 7)] 8 72) = some (SB.cells [SV.int .u32 false (vAt x.W x.B x_3 0), SV.int .u32 false (vAt x.W x.B x_3 1), SV.int .u32 false (vAt x.W x.B x_3 2), SV.int .u32 false (vAt x.W x.B x_3 3), SV.int .u32 false (vAt x.W x.B x_3 4), SV.int .u32 false (vAt x.W x.B x_3 5), SV.int .u32 false (vAt x.W x.B x_3 6), SV.int .u32 false (vAt x.W x.B x_3 7)] 8 72) ∧
 some (SB.cells [SV.int .u32 false (vAt x.W x.B x_3 0), SV.int .u32 false (vAt x.W x.B x_3 1), SV.int .u32 false (vAt x.W x.B x_3 2), SV.int .u32 false (vAt x.W x.B x_3 3), SV.int .u32 false (vAt x.W x.B x_3 4), SV.int .u32 false (vAt x.W x.B x_3 5), SV.int .u32 false (vAt x.W x.B x_3 6), SV.int .u32 false (vAt x.W x.B x_3 7)] 8 72) = some (SB.cells [SV.int .u32 false (vAt x.W x.B x_3 0), SV.int .u32 false (vAt x.W x.B x_3 1), SV.int .u32 false (vAt x.W x.B x_3 2), SV.int .u32 false (vAt x.W x.B x_3 3), SV.int .u32 false (vAt x.W x.B x_3 4), SV.int .u32 false (vAt x.W x.B x_3 5), SV.int .u32 false (vAt x.W x.B x_3 6), SV.int .u32 false (vAt x.W x.B x_3 7)] 8 72) ∧
 ((0 : Int) ≤ rotr (vAt x.W x.B x_3 4) (6 : Int) ∧
 rotr (vAt x.W x.B x_3 4) (6 : Int) ≤ (4294967295 : Int) ∧
 (0 : Int) ≤ rotr (vAt x.W x.B x_3 4) (11 : Int) ∧
 rotr (vAt x.W x.B x_3 4) (11 : Int) ≤ (4294967295 : Int)) ∧
 ((0 : Int) ≤ vAt x.W x.B x_3 (4 : Nat) ∧
 vAt x.W x.B x_3 (4 : Nat) ≤ (4294967295 : Int)) ∧
 some Q0 = some Q0 ∧
 some (SB.cells [SV.int .u32 false (vAt x.W x.B x_3 0), SV.int .u32 false (vAt x.W x.B x_3 1), SV.int .u32 false (vAt x.W x.B x_3 2), SV.int .u32 false (vAt x.W x.B x_3 3), SV.int .u32 false (vAt x.W x.B x_3 4), SV.int .u32 false (vAt x.W x.B x_3 5), SV.int .u32 false (vAt x.W x.B x_3 6), SV.int .u32 false (vAt x.W x.B x_3 7)] 8 72) = some (SB.cells [SV.int .u32 false (vAt x.W x.B x_3 0), SV.int .u32 false (vAt x.W x.B x_3 1), SV.int .u32 false (vAt x.W x.B x_3 2), SV.int .u32 false (vAt x.W x.B x_3 3), SV.int .u32 false (vAt x.W x.B x_3 4), SV.int .u32 false (vAt x.W x.B x_3 5), SV.int .u32 false (vAt x.W x.B x_3 6), SV.int .u32 false (vAt x.W x.B x_3 7)] 8 72) ∧
 some (SB.cells [SV.int .u32 false (vAt x.W x.B x_3 0), SV.int .u32 false (vAt x.W x.B x_3 1), SV.int .u32 false (vAt x.W x.B x_3 2), SV.int .u32 false (vAt x.W x.B x_3 3), SV.int .u32 false (vAt x.W x.B x_3 4), SV.int .u32 false (vAt x.W x.B x_3 5), SV.int .u32 false (vAt x.W x.B x_3 6), SV.int .u32 false (vAt x.W x.B x_3 7)] 8 72) = some (SB.cells [SV.int .u32 false (vAt x.W x.B x_3 0), SV.int .u32 false (vAt x.W x.B x_3 1), SV.int .u32 false (vAt x.W x.B x_3 2), SV.int .u32 false (vAt x.W x.B x_3 3), SV.int .u32 false (vAt x.W x.B x_3 4), SV.int .u32 false (vAt x.W x.B x_3 5), SV.int .u32 false (vAt x.W x.B x_3 6), SV.int .u32 false (vAt x.W x.B x_3 7)] 8 72) ∧
 some (SB.cells [SV.int .u32 false (vAt x.W x.B x_3 0), SV.int .u32 false (vAt x.W x.B x_3 1), SV.int .u32 false (vAt x.W x.B x_3 2), SV.int .u32 false (vAt x.W x.B x_3 3), SV.int .u32 false (vAt x.W x.B x_3 4), SV.int .u32 false (vAt x.W x.B x_3 5), SV.int .u32 false (vAt x.W x.B x_3 6), SV.int .u32 false (vAt x.W x.B x_3 7)] 8 72) = some (SB.cells [SV.int .u32 false (vAt x.W x.B x_3 0), SV.int .u32 false (vAt x.W x.B x_3 1), SV.int .u32 false (vAt x.W x.B x_3 2), SV.int .u32 false (vAt x.W x.B x_3 3), SV.int .u32 false (vAt x.W x.B x_3 4), SV.int .u32 false (vAt x.W x.B x_3 5), SV.int .u32 false (vAt x.W x.B x_3 6), SV.int .u32 false (vAt x.W x.B x_3 7)] 8 72) ∧
 ((0 : Int) ≤ bitsOf BinOp.xor (rotr (vAt x.W x.B x_3 4) 6) (rotr (vAt x.W x.B x_3 4) 11) ∧
 bitsOf BinOp.xor (rotr (vAt x.W x.B x_3 4) 6) (rotr (vAt x.W x.B x_3 4) 11) ≤ (4294967295 : Int) ∧
 (0 : Int) ≤ rotr (vAt x.W x.B x_3 4) (25 : Int) ∧
 rotr (vAt x.W x.B x_3 4) (25 : Int) ≤ (4294967295 : Int)) ∧
 ∃ (y : Nat), some (SV.int .i64 false (↑x_3 : Int)) = some (SV.int .i64 false (↑y : Int)) ∧
 ((((vAt x.W x.B x_3 (7 : Nat) + bitsOf BinOp.xor (bitsOf BinOp.xor (rotr (vAt x.W x.B x_3 4) 6) (rotr (vAt x.W x.B x_3 4) 11)) (rotr (vAt x.W x.B x_3 4) 25)) % (4294967296 : Int) + bitsOf BinOp.xor (bitsOf BinOp.and (vAt x.W x.B x_3 4) (vAt x.W x.B x_3 5)) (bitsOf BinOp.and (bitsOf BinOp.xor 4294967295 (vAt x.W x.B x_3 4)) (vAt x.W x.B x_3 6))) % (4294967296 : Int) + sel [(1116352408 : Int), (1899447441 : Int), (3049323471 : Int), (3921009573 : Int), (961987163 : Int), (1508970993 : Int), (2453635748 : Int), (2870763221 : Int), (3624381080 : Int), (310598401 : Int), (607225278 : Int), (1426881987 : Int), (1925078388 : Int), (2162078206 : Int), (2614888103 : Int), (3248222580 : Int), (3835390401 : Int), (4022224774 : Int), (264347078 : Int), (604807628 : Int), (770255983 : Int), (1249150122 : Int), (1555081692 : Int), (1996064986 : Int), (2554220882 : Int), (2821834349 : Int), (2952996808 : Int), (3210313671 : Int), (3336571891 : Int), (3584528711 : Int), (113926993 : Int), (338241895 : Int), (666307205 : Int), (773529912 : Int), (1294757372 : Int), (1396182291 : Int), (1695183700 : Int), (1986661051 : Int), (2177026350 : Int), (2456956037 : Int), (2730485921 : Int), (2820302411 : Int), (3259730800 : Int), (3345764771 : Int), (3516065817 : Int), (3600352804 : Int), (4094571909 : Int), (275423344 : Int), (430227734 : Int), (506948616 : Int), (659060556 : Int), (883997877 : Int), (958139571 : Int), (1322822218 : Int), (1537002063 : Int), (1747873779 : Int), (1955562222 : Int), (2024104815 : Int), (2227730452 : Int), (2361852424 : Int), (2428436474 : Int), (2756734187 : Int), (3204031479 : Int), (3329325298 : Int)] (↑x_3 : Int).toNat) % (4294967296 : Int) + wL x.B 48 ((0 : Nat) + (↑x_3 : Int).toNat)) % (4294967296 : Int) = t1F (vAt x.W x.B y) (cube y) (wL x.B 48 y) ∧
 SBle Q0 Q0 ∧
 SBle (SB.cells [SV.int .u32 false (vAt x.W x.B x_3 0), SV.int .u32 false (vAt x.W x.B x_3 1), SV.int .u32 false (vAt x.W x.B x_3 2), SV.int .u32 false (vAt x.W x.B x_3 3), SV.int .u32 false (vAt x.W x.B x_3 4), SV.int .u32 false (vAt x.W x.B x_3 5), SV.int .u32 false (vAt x.W x.B x_3 6), SV.int .u32 false (vAt x.W x.B x_3 7)] 8 72) (SB.cells [SV.int .u32 false (vAt x.W x.B x_3 0), SV.int .u32 false (vAt x.W x.B x_3 1), SV.int .u32 false (vAt x.W x.B x_3 2), SV.int .u32 false (vAt x.W x.B x_3 3), SV.int .u32 false (vAt x.W x.B x_3 4), SV.int .u32 false (vAt x.W x.B x_3 5), SV.int .u32 false (vAt x.W x.B x_3 6), SV.int .u32 false (vAt x.W x.B x_3 7)] 8 72) ∧
 SBle x_1.sb x_1.sb ∧
 True) ∧
 ∀ (x_6 : Nat), some (SV.int .i64 false (↑x_3 : Int)) = some (SV.int .i64 false (↑x_6 : Int)) →
 (((0 : Int) ≤ vAt x.W x.B x_3 (0 : Nat) ∧
 vAt x.W x.B x_3 (0 : Nat) ≤ (4294967295 : Int) ∧
 (0 : Int) ≤ vAt x.W x.B x_3 (1 : Nat) ∧
 vAt x.W x.B x_3 (1 : Nat) ≤ (4294967295 : Int)) ∧
 ((0 : Int) ≤ vAt x.W x.B x_3 (0 : Nat) ∧
 vAt x.W x.B x_3 (0 : Nat) ≤ (4294967295 : Int) ∧
 (0 : Int) ≤ vAt x.W x.B x_3 (2 : Nat) ∧
 vAt x.W x.B x_3 (2 : Nat) ≤ (4294967295 : Int)) ∧
 ((0 : Int) ≤ bitsOf BinOp.and (vAt x.W x.B x_3 0) (vAt x.W x.B x_3 1) ∧
 bitsOf BinOp.and (vAt x.W x.B x_3 0) (vAt x.W x.B x_3 1) ≤ (4294967295 : Int) ∧
 (0 : Int) ≤ bitsOf BinOp.and (vAt x.W x.B x_3 0) (vAt x.W x.B x_3 2) ∧
 bitsOf BinOp.and (vAt x.W x.B x_3 0) (vAt x.W x.B x_3 2) ≤ (4294967295 : Int)) ∧
 ((0 : Int) ≤ vAt x.W x.B x_3 (1 : Nat) ∧
 vAt x.W x.B x_3 (1 : Nat) ≤ (4294967295 : Int) ∧
 (0 : Int) ≤ vAt x.W x.B x_3 (2 : Nat) ∧
 vAt x.W x.B x_3 (2 : Nat) ≤ (4294967295 : Int)) ∧
 ((0 : Int) ≤ bitsOf BinOp.xor (bitsOf BinOp.and (vAt x.W x.B x_3 0) (vAt x.W x.B x_3 1)) (bitsOf BinOp.and (vAt x.W x.B x_3 0) (vAt x.W x.B x_3 2)) ∧
 bitsOf BinOp.xor (bitsOf BinOp.and (vAt x.W x.B x_3 0) (vAt x.W x.B x_3 1)) (bitsOf BinOp.and (vAt x.W x.B x_3 0) (vAt x.W x.B x_3 2)) ≤ (4294967295 : Int) ∧
 (0 : Int) ≤ bitsOf BinOp.and (vAt x.W x.B x_3 1) (vAt x.W x.B x_3 2) ∧
 bitsOf BinOp.and (vAt x.W x.B x_3 1) (vAt x.W x.B x_3 2) ≤ (4294967295 : Int)) ∧
 ((0 : Int) ≤ vAt x.W x.B x_3 (0 : Nat) ∧
 vAt x.W x.B x_3 (0 : Nat) ≤ (4294967295 : Int)) ∧
 some (SB.cells [SV.int .u32 false (vAt x.W x.B x_3 0), SV.int .u32 false (vAt x.W x.B x_3 1), SV.int .u32 false (vAt x.W x.B x_3 2), SV.int .u32 false (vAt x.W x.B x_3 3), SV.int .u32 false (vAt x.W x.B x_3 4), SV.int .u32 false (vAt x.W x.B x_3 5), SV.int .u32 false (vAt x.W x.B x_3 6), SV.int .u32 false (vAt x.W x.B x_3 7)] 8 72) = some (SB.cells [SV.int .u32 false (vAt x.W x.B x_3 0), SV.int .u32 false (vAt x.W x.B x_3 1), SV.int .u32 false (vAt x.W x.B x_3 2), SV.int .u32 false (vAt x.W x.B x_3 3), SV.int .u32 false (vAt x.W x.B x_3 4), SV.int .u32 false (vAt x.W x.B x_3 5), SV.int .u32 false (vAt x.W x.B x_3 6), SV.int .u32 false (vAt x.W x.B x_3 7)] 8 72) ∧
 some (SB.cells [SV.int .u32 false (vAt x.W x.B x_3 0), SV.int .u32 false (vAt x.W x.B x_3 1), SV.int .u32 false (vAt x.W x.B x_3 2), SV.int .u32 false (vAt x.W x.B x_3 3), SV.int .u32 false (vAt x.W x.B x_3 4), SV.int .u32 false (vAt x.W x.B x_3 5), SV.int .u32 false (vAt x.W x.B x_3 6), SV.int .u32 false (vAt x.W x.B x_3 7)] 8 72) = some (SB.cells [SV.int .u32 false (vAt x.W x.B x_3 0), SV.int .u32 false (vAt x.W x.B x_3 1), SV.int .u32 false (vAt x.W x.B x_3 2), SV.int .u32 false (vAt x.W x.B x_3 3), SV.int .u32 false (vAt x.W x.B x_3 4), SV.int .u32 false (vAt x.W x.B x_3 5), SV.int .u32 false (vAt x.W x.B x_3 6), SV.int .u32 false (vAt x.W x.B x_3 7)] 8 72) ∧
 some (SB.cells [SV.int .u32 false (vAt x.W x.B x_3 0), SV.int .u32 false (vAt x.W x.B x_3 1), SV.int .u32 false (vAt x.W x.B x_3 2), SV.int .u32 false (vAt x.W x.B x_3 3), SV.int .u32 false (vAt x.W x.B x_3 4), SV.int .u32 false (vAt x.W x.B x_3 5), SV.int .u32 false (vAt x.W x.B x_3 6), SV.int .u32 false (vAt x.W x.B x_3 7)] 8 72) = some (SB.cells [SV.int .u32 false (vAt x.W x.B x_3 0), SV.int .u32 false (vAt x.W x.B x_3 1), SV.int .u32 false (vAt x.W x.B x_3 2), SV.int .u32 false (vAt x.W x.B x_3 3), SV.int .u32 false (vAt x.W x.B x_3 4), SV.int .u32 false (vAt x.W x.B x_3 5), SV.int .u32 false (vAt x.W x.B x_3 6), SV.int .u32 false (vAt x.W x.B x_3 7)] 8 72) ∧
 some (SB.cells [SV.int .u32 false (vAt x.W x.B x_3 0), SV.int .u32 false (vAt x.W x.B x_3 1), SV.int .u32 false (vAt x.W x.B x_3 2), SV.int .u32 false (vAt x.W x.B x_3 3), SV.int .u32 false (vAt x.W x.B x_3 4), SV.int .u32 false (vAt x.W x.B x_3 5), SV.int .u32 false (vAt x.W x.B x_3 6), SV.int .u32 false (vAt x.W x.B x_3 7)] 8 72) = some (SB.cells [SV.int .u32 false (vAt x.W x.B x_3 0), SV.int .u32 false (vAt x.W x.B x_3 1), SV.int .u32 false (vAt x.W x.B x_3 2), SV.int .u32 false (vAt x.W x.B x_3 3), SV.int .u32 false (vAt x.W x.B x_3 4), SV.int .u32 false (vAt x.W x.B x_3 5), SV.int .u32 false (vAt x.W x.B x_3 6), SV.int .u32 false (vAt x.W x.B x_3 7)] 8 72) ∧
 ((0 : Int) ≤ vAt x.W x.B x_3 (0 : Nat) ∧
 vAt x.W x.B x_3 (0 : Nat) ≤ (4294967295 : Int)) ∧
 some (SB.cells [SV.int .u32 false (vAt x.W x.B x_3 0), SV.int .u32 false (vAt x.W x.B x_3 1), SV.int .u32 false (vAt x.W x.B x_3 2), SV.int .u32 false (vAt x.W x.B x_3 3), SV.int .u32 false (vAt x.W x.B x_3 4), SV.int .u32 false (vAt x.W x.B x_3 5), SV.int .u32 false (vAt x.W x.B x_3 6), SV.int .u32 false (vAt x.W x.B x_3 7)] 8 72) = some (SB.cells [SV.int .u32 false (vAt x.W x.B x_3 0), SV.int .u32 false (vAt x.W x.B x_3 1), SV.int .u32 false (vAt x.W x.B x_3 2), SV.int .u32 false (vAt x.W x.B x_3 3), SV.int .u32 false (vAt x.W x.B x_3 4), SV.int .u32 false (vAt x.W x.B x_3 5), SV.int .u32 false (vAt x.W x.B x_3 6), SV.int .u32 false (vAt x.W x.B x_3 7)] 8 72) ∧
 some (SB.cells [SV.int .u32 false (vAt x.W x.B x_3 0), SV.int .u32 false (vAt x.W x.B x_3 1), SV.int .u32 false (vAt x.W x.B x_3 2), SV.int .u32 false (vAt x.W x.B x_3 3), SV.int .u32 false (vAt x.W x.B x_3 4), SV.int .u32 false (vAt x.W x.B x_3 5), SV.int .u32 false (vAt x.W x.B x_3 6), SV.int .u32 false (vAt x.W x.B x_3 7)] 8 72) = some (SB.cells [SV.int .u32 false (vAt x.W x.B x_3 0), SV.int .u32 false (vAt x.W x.B x_3 1), SV.int .u32 false (vAt x.W x.B x_3 2), SV.int .u32 false (vAt x.W x.B x_3 3), SV.int .u32 false (vAt x.W x.B x_3 4), SV.int .u32 false (vAt x.W x.B x_3 5), SV.int .u32 false (vAt x.W x.B x_3 6), SV.int .u32 false (vAt x.W x.B x_3 7)] 8 72) ∧
 some (SB.cells [SV.int .u32 false (vAt x.W x.B x_3 0), SV.int .u32 false (vAt x.W x.B x_3 1), SV.int .u32 false (vAt x.W x.B x_3 2), SV.int .u32 false (vAt x.W x.B x_3 3), SV.int .u32 false (vAt x.W x.B x_3 4), SV.int .u32 false (vAt x.W x.B x_3 5), SV.int .u32 false (vAt x.W x.B x_3 6), SV.int .u32 false (vAt x.W x.B x_3 7)] 8 72) = some (SB.cells [SV.int .u32 false (vAt x.W x.B x_3 0), SV.int .u32 false (vAt x.W x.B x_3 1), SV.int .u32 false (vAt x.W x.B x_3 2), SV.int .u32 false (vAt x.W x.B x_3 3), SV.int .u32 false (vAt x.W x.B x_3 4), SV.int .u32 false (vAt x.W x.B x_3 5), SV.int .u32 false (vAt x.W x.B x_3 6), SV.int .u32 false (vAt x.W x.B x_3 7)] 8 72) ∧
 some (SB.cells [SV.int .u32 false (vAt x.W x.B x_3 0), SV.int .u32 false (vAt x.W x.B x_3 1), SV.int .u32 false (vAt x.W x.B x_3 2), SV.int .u32 false (vAt x.W x.B x_3 3), SV.int .u32 false (vAt x.W x.B x_3 4), SV.int .u32 false (vAt x.W x.B x_3 5), SV.int .u32 false (vAt x.W x.B x_3 6), SV.int .u32 false (vAt x.W x.B x_3 7)] 8 72) = some (SB.cells [SV.int .u32 false (vAt x.W x.B x_3 0), SV.int .u32 false (vAt x.W x.B x_3 1), SV.int .u32 false (vAt x.W x.B x_3 2), SV.int .u32 false (vAt x.W x.B x_3 3), SV.int .u32 false (vAt x.W x.B x_3 4), SV.int .u32 false (vAt x.W x.B x_3 5), SV.int .u32 false (vAt x.W x.B x_3 6), SV.int .u32 false (vAt x.W x.B x_3 7)] 8 72) ∧
 ((0 : Int) ≤ rotr (vAt x.W x.B x_3 0) (2 : Int) ∧
 rotr (vAt x.W x.B x_3 0) (2 : Int) ≤ (4294967295 : Int) ∧
 (0 : Int) ≤ rotr (vAt x.W x.B x_3 0) (13 : Int) ∧
 rotr (vAt x.W x.B x_3 0) (13 : Int) ≤ (4294967295 : Int)) ∧
 ((0 : Int) ≤ vAt x.W x.B x_3 (0 : Nat) ∧
 vAt x.W x.B x_3 (0 : Nat) ≤ (4294967295 : Int)) ∧
 some (SB.cells [SV.int .u32 false (vAt x.W x.B x_3 0), SV.int .u32 false (vAt x.W x.B x_3 1), SV.int .u32 false (vAt x.W x.B x_3 2), SV.int .u32 false (vAt x.W x.B x_3 3), SV.int .u32 false (vAt x.W x.B x_3 4), SV.int .u32 false (vAt x.W x.B x_3 5), SV.int .u32 false (vAt x.W x.B x_3 6), SV.int .u32 false (vAt x.W x.B x_3 7)] 8 72) = some (SB.cells [SV.int .u32 false (vAt x.W x.B x_3 0), SV.int .u32 false (vAt x.W x.B x_3 1), SV.int .u32 false (vAt x.W x.B x_3 2), SV.int .u32 false (vAt x.W x.B x_3 3), SV.int .u32 false (vAt x.W x.B x_3 4), SV.int .u32 false (vAt x.W x.B x_3 5), SV.int .u32 false (vAt x.W x.B x_3 6), SV.int .u32 false (vAt x.W x.B x_3 7)] 8 72) ∧
 some (SB.cells [SV.int .u32 false (vAt x.W x.B x_3 0), SV.int .u32 false (vAt x.W x.B x_3 1), SV.int .u32 false (vAt x.W x.B x_3 2), SV.int .u32 false (vAt x.W x.B x_3 3), SV.int .u32 false (vAt x.W x.B x_3 4), SV.int .u32 false (vAt x.W x.B x_3 5), SV.int .u32 false (vAt x.W x.B x_3 6), SV.int .u32 false (vAt x.W x.B x_3 7)] 8 72) = some (SB.cells [SV.int .u32 false (vAt x.W x.B x_3 0), SV.int .u32 false (vAt x.W x.B x_3 1), SV.int .u32 false (vAt x.W x.B x_3 2), SV.int .u32 false (vAt x.W x.B x_3 3), SV.int .u32 false (vAt x.W x.B x_3 4), SV.int .u32 false (vAt x.W x.B x_3 5), SV.int .u32 false (vAt x.W x.B x_3 6), SV.int .u32 false (vAt x.W x.B x_3 7)] 8 72) ∧
 some (SB.cells [SV.int .u32 false (vAt x.W x.B x_3 0), SV.int .u32 false (vAt x.W x.B x_3 1), SV.int .u32 false (vAt x.W x.B x_3 2), SV.int .u32 false (vAt x.W x.B x_3 3), SV.int .u32 false (vAt x.W x.B x_3 4), SV.int .u32 false (vAt x.W x.B x_3 5), SV.int .u32 false (vAt x.W x.B x_3 6), SV.int .u32 false (vAt x.W x.B x_3 7)] 8 72) = some (SB.cells [SV.int .u32 false (vAt x.W x.B x_3 0), SV.int .u32 false (vAt x.W x.B x_3 1), SV.int .u32 false (vAt x.W x.B x_3 2), SV.int .u32 false (vAt x.W x.B x_3 3), SV.int .u32 false (vAt x.W x.B x_3 4), SV.int .u32 false (vAt x.W x.B x_3 5), SV.int .u32 false (vAt x.W x.B x_3 6), SV.int .u32 false (vAt x.W x.B x_3 7)] 8 72) ∧
 some (SB.cells [SV.int .u32 false (vAt x.W x.B x_3 0), SV.int .u32 false (vAt x.W x.B x_3 1), SV.int .u32 false (vAt x.W x.B x_3 2), SV.int .u32 false (vAt x.W x.B x_3 3), SV.int .u32 false (vAt x.W x.B x_3 4), SV.int .u32 false (vAt x.W x.B x_3 5), SV.int .u32 false (vAt x.W x.B x_3 6), SV.int .u32 false (vAt x.W x.B x_3 7)] 8 72) = some (SB.cells [SV.int .u32 false (vAt x.W x.B x_3 0), SV.int .u32 false (vAt x.W x.B x_3 1), SV.int .u32 false (vAt x.W x.B x_3 2), SV.int .u32 false (vAt x.W x.B x_3 3), SV.int .u32 false (vAt x.W x.B x_3 4), SV.int .u32 false (vAt x.W x.B x_3 5), SV.int .u32 false (vAt x.W x.B x_3 6), SV.int .u32 false (vAt x.W x.B x_3 7)] 8 72) ∧
 ((0 : Int) ≤ bitsOf BinOp.xor (rotr (vAt x.W x.B x_3 0) 2) (rotr (vAt x.W x.B x_3 0) 13) ∧
 bitsOf BinOp.xor (rotr (vAt x.W x.B x_3 0) 2) (rotr (vAt x.W x.B x_3 0) 13) ≤ (4294967295 : Int) ∧
 (0 : Int) ≤ rotr (vAt x.W x.B x_3 0) (22 : Int) ∧
 rotr (vAt x.W x.B x_3 0) (22 : Int) ≤ (4294967295 : Int)) ∧
 ∃ (y : Nat), some (SV.int .i64 false (↑x_3 : Int)) = some (SV.int .i64 false (↑y : Int)) ∧
 (bitsOf BinOp.xor (bitsOf BinOp.xor (rotr (vAt x.W x.B x_3 0) 2) (rotr (vAt x.W x.B x_3 0) 13)) (rotr (vAt x.W x.B x_3 0) 22) + bitsOf BinOp.xor (bitsOf BinOp.xor (bitsOf BinOp.and (vAt x.W x.B x_3 0) (vAt x.W x.B x_3 1)) (bitsOf BinOp.and (vAt x.W x.B x_3 0) (vAt x.W x.B x_3 2))) (bitsOf BinOp.and (vAt x.W x.B x_3 1) (vAt x.W x.B x_3 2))) % (4294967296 : Int) = t2F (vAt x.W x.B y) ∧
 SBle Q0 Q0 ∧
 SBle (SB.cells [SV.int .u32 false (vAt x.W x.B x_3 0), SV.int .u32 false (vAt x.W x.B x_3 1), SV.int .u32 false (vAt x.W x.B x_3 2), SV.int .u32 false (vAt x.W x.B x_3 3), SV.int .u32 false (vAt x.W x.B x_3 4), SV.int .u32 false (vAt x.W x.B x_3 5), SV.int .u32 false (vAt x.W x.B x_3 6), SV.int .u32 false (vAt x.W x.B x_3 7)] 8 72) (SB.cells [SV.int .u32 false (vAt x.W x.B x_3 0), SV.int .u32 false (vAt x.W x.B x_3 1), SV.int .u32 false (vAt x.W x.B x_3 2), SV.int .u32 false (vAt x.W x.B x_3 3), SV.int .u32 false (vAt x.W x.B x_3 4), SV.int .u32 false (vAt x.W x.B x_3 5), SV.int .u32 false (vAt x.W x.B x_3 6), SV.int .u32 false (vAt x.W x.B x_3 7)] 8 72) ∧
 SBle x_1.sb x_1.sb ∧
 True) ∧
 ∀ (x_8 : Nat), some (SV.int .i64 false (↑x_3 : Int)) = some (SV.int .i64 false (↑x_8 : Int)) →
 ((-9223372036854775808 : Int) ≤ (↑x_3 : Int) + (1 : Int) ∧
 (↑x_3 : Int) + (1 : Int) ≤ (9223372036854775807 : Int)) ∧
 ∃ (y : Nat), (y ≤ (64 : Nat) ∧
 (64 : Nat) - y < (64 : Nat) - x_3) ∧
 (↑x_3 : Int) + (1 : Int) = (↑y : Int) ∧
 SBle Q0 Q0 ∧
 SBle (SB.cells [SV.int .u32 false ((t1F (vAt x.W x.B x_6) (cube x_6) (wL x.B 48 x_6) + t2F (vAt x.W x.B x_8)) % (4294967296 : Int)), SV.int .u32 false (vAt x.W x.B x_3 0), SV.int .u32 false (vAt x.W x.B x_3 1), SV.int .u32 false (vAt x.W x.B x_3 2), SV.int .u32 false ((vAt x.W x.B x_3 (3 : Nat) + t1F (vAt x.W x.B x_6) (cube x_6) (wL x.B 48 x_6)) % (4294967296 : Int)), SV.int .u32 false (vAt x.W x.B x_3 4), SV.int .u32 false (vAt x.W x.B x_3 5), SV.int .u32 false (vAt x.W x.B x_3 6)] 8 72) (SB.cells [SV.int .u32 false (vAt x.W x.B y 0), SV.int .u32 false (vAt x.W x.B y 1), SV.int .u32 false (vAt x.W x.B y 2), SV.int .u32 false (vAt x.W x.B y 3), SV.int .u32 false (vAt x.W x.B y 4), SV.int .u32 false (vAt x.W x.B y 5), SV.int .u32 false (vAt x.W x.B y 6), SV.int .u32 false (vAt x.W x.B y 7)] 8 72) ∧
 SBle x_1.sb x_1.sb ∧
 True) ∧
 (decide ((↑x_3 : Int) < (64 : Int)) = false →
 ∃ (_y : Unit), True ∧
 SBle (SB.cells [SV.int .u32 false ((x_1.W (0 : Nat) + vAt x.W x.B x_3 0) % (4294967296 : Int)), SV.int .u32 false ((x_1.W (1 : Nat) + vAt x.W x.B x_3 1) % (4294967296 : Int)), SV.int .u32 false ((x_1.W (2 : Nat) + vAt x.W x.B x_3 2) % (4294967296 : Int)), SV.int .u32 false ((x_1.W (3 : Nat) + vAt x.W x.B x_3 3) % (4294967296 : Int)), SV.int .u32 false ((x_1.W (4 : Nat) + vAt x.W x.B x_3 4) % (4294967296 : Int)), SV.int .u32 false ((x_1.W (5 : Nat) + vAt x.W x.B x_3 5) % (4294967296 : Int)), SV.int .u32 false ((x_1.W (6 : Nat) + vAt x.W x.B x_3 6) % (4294967296 : Int)), SV.int .u32 false ((x_1.W (7 : Nat) + vAt x.W x.B x_3 7) % (4294967296 : Int)), SV.int .u8 false (x_1.B 0), SV.int .u8 false (x_1.B 1), SV.int .u8 false (x_1.B 2), SV.int .u8 false (x_1.B 3), SV.int .u8 false (x_1.B 4), SV.int .u8 false (x_1.B 5), SV.int .u8 false (x_1.B 6), SV.int .u8 false (x_1.B 7), SV.int .u8 false (x_1.B 8), SV.int .u8 false (x_1.B 9), SV.int .u8 false (x_1.B 10), SV.int .u8 false (x_1.B 11), SV.int .u8 false (x_1.B 12), SV.int .u8 false (x_1.B 13), SV.int .u8 false (x_1.B 14), SV.int .u8 false (x_1.B 15), SV.int .u8 false (x_1.B 16), SV.int .u8 false (x_1.B 17), SV.int .u8 false (x_1.B 18), SV.int .u8 false (x_1.B 19), SV.int .u8 false (x_1.B 20), SV.int .u8 false (x_1.B 21), SV.int .u8 false (x_1.B 22), SV.int .u8 false (x_1.B 23), SV.int .u8 false (x_1.B 24), SV.int .u8 false (x_1.B 25), SV.int .u8 false (x_1.B 26), SV.int .u8 false (x_1.B 27), SV.int .u8 false (x_1.B 28), SV.int .u8 false (x_1.B 29), SV.int .u8 false (x_1.B 30), SV.int .u8 false (x_1.B 31), SV.int .u8 false (x_1.B 32), SV.int .u8 false (x_1.B 33), SV.int .u8 false (x_1.B 34), SV.int .u8 false (x_1.B 35), SV.int .u8 false (x_1.B 36), SV.int .u8 false (x_1.B 37), SV.int .u8 false (x_1.B 38), SV.int .u8 false (x_1.B 39), SV.int .u8 false (x_1.B 40), SV.int .u8 false (x_1.B 41), SV.int .u8 false (x_1.B 42), SV.int .u8 false (x_1.B 43), SV.int .u8 false (x_1.B 44), SV.int .u8 false (x_1.B 45), SV.int .u8 false (x_1.B 46), SV.int .u8 false (x_1.B 47), SV.int .u8 false (x_1.B 48), SV.int .u8 false (x_1.B 49), SV.int .u8 false (x_1.B 50), SV.int .u8 false (x_1.B 51), SV.int .u8 false (x_1.B 52), SV.int .u8 false (x_1.B 53), SV.int .u8 false (x_1.B 54), SV.int .u8 false (x_1.B 55), SV.int .u8 false (x_1.B 56), SV.int .u8 false (x_1.B 57), SV.int .u8 false (x_1.B 58), SV.int .u8 false (x_1.B 59), SV.int .u8 false (x_1.B 60), SV.int .u8 false (x_1.B 61), SV.int .u8 false (x_1.B 62), SV.int .u8 false (x_1.B 63), SV.int .i64 false x_1.held, SV.int .u64 false x_1.size] 74 76) (SB.cells [SV.int .u32 false (mixS x.W x.B 0), SV.int .u32 false (mixS x.W x.B 1), SV.int .u32 false (mixS x.W x.B 2), SV.int .u32 false (mixS x.W x.B 3), SV.int .u32 false (mixS x.W x.B 4), SV.int .u32 false (mixS x.W x.B 5), SV.int .u32 false (mixS x.W x.B 6), SV.int .u32 false (mixS x.W x.B 7), SV.int .u8 false (x.B 0), SV.int .u8 false (x.B 1), SV.int .u8 false (x.B 2), SV.int .u8 false (x.B 3), SV.int .u8 false (x.B 4), SV.int .u8 false (x.B 5), SV.int .u8 false (x.B 6), SV.int .u8 false (x.B 7), SV.int .u8 false (x.B 8), SV.int .u8 false (x.B 9), SV.int .u8 false (x.B 10), SV.int .u8 false (x.B 11), SV.int .u8 false (x.B 12), SV.int .u8 false (x.B 13), SV.int .u8 false (x.B 14), SV.int .u8 false (x.B 15), SV.int .u8 false (x.B 16), SV.int .u8 false (x.B 17), SV.int .u8 false (x.B 18), SV.int .u8 false (x.B 19), SV.int .u8 false (x.B 20), SV.int .u8 false (x.B 21), SV.int .u8 false (x.B 22), SV.int .u8 false (x.B 23), SV.int .u8 false (x.B 24), SV.int .u8 false (x.B 25), SV.int .u8 false (x.B 26), SV.int .u8 false (x.B 27), SV.int .u8 false (x.B 28), SV.int .u8 false (x.B 29), SV.int .u8 false (x.B 30), SV.int .u8 false (x.B 31), SV.int .u8 false (x.B 32), SV.int .u8 false (x.B 33), SV.int .u8 false (x.B 34), SV.int .u8 false (x.B 35), SV.int .u8 false (x.B 36), SV.int .u8 false (x.B 37), SV.int .u8 false (x.B 38), SV.int .u8 false (x.B 39), SV.int .u8 false (x.B 40), SV.int .u8 false (x.B 41), SV.int .u8 false (x.B 42), SV.int .u8 false (x.B 43), SV.int .u8 false (x.B 44), SV.int .u8 false (x.B 45), SV.int .u8 false (x.B 46), SV.int .u8 false (x.B 47), SV.int .u8 false (x.B 48), SV.int .u8 false (x.B 49), SV.int .u8 false (x.B 50), SV.int .u8 false (x.B 51), SV.int .u8 false (x.B 52), SV.int .u8 false (x.B 53), SV.int .u8 false (x.B 54), SV.int .u8 false (x.B 55), SV.int .u8 false (x.B 56), SV.int .u8 false (x.B 57), SV.int .u8 false (x.B 58), SV.int .u8 false (x.B 59), SV.int .u8 false (x.B 60), SV.int .u8 false (x.B 61), SV.int .u8 false (x.B 62), SV.int .u8 false (x.B 63), SV.int .i64 false x.held, SV.int .u64 false x.size] 74 76) ∧
 sameVal (SV.tup []) (SV.tup [])))) (SB.rows false 64 [Col.int IntKind.u32 (wL x.B 48)] false 64 93)) := by kernel_rfl
end Go.Proofs.YtmipbcadcoahlaaDoor
/-
  Hashes: the contracts of right, spread, mix.
-/
namespace Go.Proofs.YtmipbcadcoahlaaDoor
open Go Sx
set_option maxRecDepth 20000

/-- It fits 32 bits. -/
def U (a : Int) : Prop := 0 ≤ a ∧ a ≤ 4294967295
theorem u2 {a b : Int} (h : U a) (h' : U b) : 0 ≤ a ∧ a ≤ 4294967295 ∧ 0 ≤ b ∧ b ≤ 4294967295 := ⟨h.1, h.2, h'.1, h'.2⟩
theorem um (a : Int) : U (a % 4294967296) := ⟨by omega, by omega⟩
theorem ud {a : Int} (h : U a) (k : Nat) (hk : 0 < k) : U (a / (k : Int)) := by
  obtain ⟨h0, h1⟩ := h
  have := Int.ediv_le_self (b := (k : Int)) h0
  exact ⟨Int.ediv_nonneg h0 (by omega), by omega⟩
theorem uM : U 4294967295 := ⟨by decide, by decide⟩
theorem ubits {op : BinOp} (hop : op = .and ∨ op = .or ∨ op = .xor) {a b : Int} (ha : U a) (hb : U b) : U (bitsOf op a b) := by
  obtain ⟨a0, a1⟩ := ha
  obtain ⟨b0, b1⟩ := hb
  have la : a.toNat < 2 ^ 32 := by omega
  have lb : b.toNat < 2 ^ 32 := by omega
  have h1 := Nat.and_lt_two_pow (n := 32) a.toNat lb
  have h2 := Nat.or_lt_two_pow (n := 32) la lb
  have h3 := Nat.xor_lt_two_pow (n := 32) la lb
  rcases hop with rfl | rfl | rfl
  · refine ⟨Int.natCast_nonneg _, ?_⟩
    show ((a.toNat &&& b.toNat : Nat) : Int) ≤ _
    omega
  · refine ⟨Int.natCast_nonneg _, ?_⟩
    show ((a.toNat ||| b.toNat : Nat) : Int) ≤ _
    omega
  · refine ⟨Int.natCast_nonneg _, ?_⟩
    show ((a.toNat ^^^ b.toNat : Nat) : Int) ≤ _
    omega
theorem uand {a b : Int} (ha : U a) (hb : U b) : U (bitsOf .and a b) := ubits (.inl rfl) ha hb
theorem uxor {a b : Int} (ha : U a) (hb : U b) : U (bitsOf .xor a b) := ubits (.inr (.inr rfl)) ha hb
theorem urot {x : Int} (h : U x) (n : Int) : U (rotr x n) := ubits (.inr (.inl rfl)) (um _) (ud h _ (Nat.pow_pos (by decide)))
theorem ux3 {a b c : Int} (ha : U a) (hb : U b) (hc : U c) : U (xor3 a b c) := uxor (uxor ha hb) hc
theorem rot_cases {n : Int} (h : rotN n = true) : n = 2 ∨ n = 6 ∨ n = 7 ∨ n = 11 ∨ n = 13 ∨ n = 17 ∨ n = 18 ∨ n = 19 ∨ n = 22 ∨ n = 25 := by
  simpa [rotN] using h
theorem right_ok : CallOk Tryd.prog 55 (purePT rightSpec) := by
  refine pure_of_ans (ansW_ok (n := 20) (fn := Tryd.f55) Tryd.func55 (by kernel_rfl) (by kernel_rfl) ?_)
  intro args p a h hp
  unfold rightSpec at h
  split at h
  · rename_i x n
    split at h
    · rename_i hn
      injection h with h; injection h with h1 h2; subst h1; subst h2
      have hx : U x := hp
      rcases rot_cases hn with rfl | rfl | rfl | rfl | rfl | rfl | rfl | rfl | rfl | rfl
      · exact ⟨cfg0, [.int .u32 false x, .int .i64 true 2], good0, fun E => rfl, rfl, rfl, Holds.of_eq (vcRight2 x _) ⟨u2 (um _) (ud hx 4 (by decide)), fun _ => rfl⟩⟩
      · exact ⟨cfg0, [.int .u32 false x, .int .i64 true 6], good0, fun E => rfl, rfl, rfl, Holds.of_eq (vcRight6 x _) ⟨u2 (um _) (ud hx 64 (by decide)), fun _ => rfl⟩⟩
      · exact ⟨cfg0, [.int .u32 false x, .int .i64 true 7], good0, fun E => rfl, rfl, rfl, Holds.of_eq (vcRight7 x _) ⟨u2 (um _) (ud hx 128 (by decide)), fun _ => rfl⟩⟩
      · exact ⟨cfg0, [.int .u32 false x, .int .i64 true 11], good0, fun E => rfl, rfl, rfl, Holds.of_eq (vcRight11 x _) ⟨u2 (um _) (ud hx 2048 (by decide)), fun _ => rfl⟩⟩
      · exact ⟨cfg0, [.int .u32 false x, .int .i64 true 13], good0, fun E => rfl, rfl, rfl, Holds.of_eq (vcRight13 x _) ⟨u2 (um _) (ud hx 8192 (by decide)), fun _ => rfl⟩⟩
      · exact ⟨cfg0, [.int .u32 false x, .int .i64 true 17], good0, fun E => rfl, rfl, rfl, Holds.of_eq (vcRight17 x _) ⟨u2 (um _) (ud hx 131072 (by decide)), fun _ => rfl⟩⟩
      · exact ⟨cfg0, [.int .u32 false x, .int .i64 true 18], good0, fun E => rfl, rfl, rfl, Holds.of_eq (vcRight18 x _) ⟨u2 (um _) (ud hx 262144 (by decide)), fun _ => rfl⟩⟩
      · exact ⟨cfg0, [.int .u32 false x, .int .i64 true 19], good0, fun E => rfl, rfl, rfl, Holds.of_eq (vcRight19 x _) ⟨u2 (um _) (ud hx 524288 (by decide)), fun _ => rfl⟩⟩
      · exact ⟨cfg0, [.int .u32 false x, .int .i64 true 22], good0, fun E => rfl, rfl, rfl, Holds.of_eq (vcRight22 x _) ⟨u2 (um _) (ud hx 4194304 (by decide)), fun _ => rfl⟩⟩
      · exact ⟨cfg0, [.int .u32 false x, .int .i64 true 25], good0, fun E => rfl, rfl, rfl, Holds.of_eq (vcRight25 x _) ⟨u2 (um _) (ud hx 33554432 (by decide)), fun _ => rfl⟩⟩
    · cases h
  · cases h
theorem listS1_ok : SummOk Tryd.prog (fun f => lookPT f listS1) := .cons right_ok (purePT_mono _) reflList_ok
theorem goodSp (b : Nat → Int) : Sx.Good Tryd.prog (cfgSp b) := ⟨mixes, listS1_ok, fns_ok⟩
/-- Cells by index. -/
theorem Sx.SBle.toRows {c : Col} {n tot : Nat} {ty : TypeId} : SBle (.cells (colFrom c 0 n) tot ty) (.rows false n [c] false tot ty) := by
  intro _
  refine ⟨rfl, fun E o ⟨cs, fr, h1, h2, h3, h4⟩ => ⟨cs, fr, h1, fun _ => h2, ?_, h4, fun i k col hi hk => ?_⟩, fun _ => rfl⟩
  · cases n with
    | zero => simp
    | succ m =>
      have hl : m < (colFrom c 0 (m + 1)).length := by rw [colFrom_len]; omega
      have := h3 m _ (List.getElem?_eq_getElem hl)
      have := (Array.getElem?_eq_some_iff.1 this).1
      simp only [List.length_cons, List.length_nil]; omega
  · match k, hk with
    | 0, hk =>
      simp only [List.getElem?_cons_zero, Option.some.injEq] at hk
      subst hk
      have hl : i < (colFrom c 0 n).length := by rw [colFrom_len]; omega
      have h5 := h3 i _ (List.getElem?_eq_getElem hl)
      have h6 := (colFrom_get c n 0 i _ (List.getElem?_eq_getElem hl)).2
      rw [h6, Nat.zero_add] at h5
      simpa using h5
theorem Sx.SBle.trans {A B C : SB} (h : SBle A B) (h' : SBle B C) : SBle A C := fun hn => by
  obtain ⟨a1, a2, a3⟩ := h' hn
  obtain ⟨b1, b2, b3⟩ := h a1
  exact ⟨b1, fun E o ho => a2 E o (b2 E o ho), fun hr => b3 (a3 hr)⟩
theorem Sx.SBle.intRows {z : Bool} {n : Nat} {q : IntKind} {f g : Nat → Int} {tot : Nat} {ty : TypeId} (h : ∀ i, i < n → f i = g i) : SBle (.rows z n [.int q f] false tot ty) (.rows z n [.int q g] false tot ty) := by
  intro hno
  refine ⟨hno, fun E o ⟨c, fr, h1, h2, h3, h4, h5⟩ => ⟨c, fr, h1, h2, h3, h4, fun i k col hi hk => ?_⟩, fun _ => rfl⟩
  match k, hk with
  | 0, hk =>
    simp only [List.getElem?_cons_zero, Option.some.injEq] at hk
    subst hk
    have := h5 i 0 (.int q f) hi rfl
    simp only [Col.at, h i hi] at this
    exact this
theorem wordB_u {b : Nat → Int} (hb : ∀ j, j < 64 → U (b j)) {j : Nat} (hj : j < 16) : U (wordB b j) := ubits (.inr (.inl rfl)) (ubits (.inr (.inl rfl)) (ubits (.inr (.inl rfl)) (um _) (um _)) (um _)) (hb _ (by omega))
theorem wL_succ (b : Nat → Int) (n j : Nat) : wL b (n + 1) j = if j = 16 + n then nextW (wL b n (16 + n - 16)) (wL b n (16 + n - 15)) (wL b n (16 + n - 7)) (wL b n (16 + n - 2)) else wL b n j := rfl
theorem wL_u {b : Nat → Int} (hb : ∀ j, j < 64 → U (b j)) : ∀ (n j : Nat), U (wL b n j)
  | 0, j => by
    unfold wL
    split
    · exact wordB_u hb (by assumption)
    · exact ⟨by decide, by decide⟩
  | n + 1, j => by
    unfold wL
    split
    · exact um _
    · exact wL_u hb n j
theorem vAt_u {W B : Nat → Int} (hW : ∀ j, j < 8 → U (W j)) : ∀ (i j : Nat), j < 8 → U (vAt W B i j)
  | 0, j, hj => hW j hj
  | i + 1, j, hj => by
    have ih := vAt_u (B := B) hW i
    unfold vAt roundV
    match j, hj with
    | 0, _ => exact um _
    | 1, _ => exact ih 0 (by decide)
    | 2, _ => exact ih 1 (by decide)
    | 3, _ => exact ih 2 (by decide)
    | 4, _ => exact um _
    | 5, _ => exact ih 4 (by decide)
    | 6, _ => exact ih 5 (by decide)
    | 7, _ => exact ih 6 (by decide)
theorem Sh.Ok.bu {x : Sh} (h : x.Ok) (j : Nat) (hj : j < 64) : U (x.B j) := by
  have := h.b j hj
  exact ⟨this.1, by omega⟩
theorem spread_holds {x : Sh} (hx : x.Ok) : Holds (runBox (cfgSp x.B) 54 Tryd.f54 [.slc 0 8 64 true 64] Sh.sb x (fun _ : Unit => (True, spreadSV x.B, x))) := by
  refine Holds.of_eq (vcSpread x) ?_
  have hb := hx.bu
  have b : ∀ j, j < 64 → U (x.B j) := hb
  refine ⟨b 0 (by decide), b 1 (by decide), u2 (um _) (um _), b 2 (by decide), u2 (ubits (.inr (.inl rfl)) (um _) (um _)) (um _), b 3 (by decide), u2 (ubits (.inr (.inl rfl)) (ubits (.inr (.inl rfl)) (um _) (um _)) (um _)) (b 3 (by decide)), b 4 (by decide), b 5 (by decide), u2 (um _) (um _), b 6 (by decide), u2 (ubits (.inr (.inl rfl)) (um _) (um _)) (um _), b 7 (by decide), u2 (ubits (.inr (.inl rfl)) (ubits (.inr (.inl rfl)) (um _) (um _)) (um _)) (b 7 (by decide)), b 8 (by decide), b 9 (by decide), u2 (um _) (um _), b 10 (by decide), u2 (ubits (.inr (.inl rfl)) (um _) (um _)) (um _), b 11 (by decide), u2 (ubits (.inr (.inl rfl)) (ubits (.inr (.inl rfl)) (um _) (um _)) (um _)) (b 11 (by decide)), b 12 (by decide), b 13 (by decide), u2 (um _) (um _), b 14 (by decide), u2 (ubits (.inr (.inl rfl)) (um _) (um _)) (um _), b 15 (by decide), u2 (ubits (.inr (.inl rfl)) (ubits (.inr (.inl rfl)) (um _) (um _)) (um _)) (b 15 (by decide)), b 16 (by decide), b 17 (by decide), u2 (um _) (um _), b 18 (by decide), u2 (ubits (.inr (.inl rfl)) (um _) (um _)) (um _), b 19 (by decide), u2 (ubits (.inr (.inl rfl)) (ubits (.inr (.inl rfl)) (um _) (um _)) (um _)) (b 19 (by decide)), b 20 (by decide), b 21 (by decide), u2 (um _) (um _), b 22 (by decide), u2 (ubits (.inr (.inl rfl)) (um _) (um _)) (um _), b 23 (by decide), u2 (ubits (.inr (.inl rfl)) (ubits (.inr (.inl rfl)) (um _) (um _)) (um _)) (b 23 (by decide)), b 24 (by decide), b 25 (by decide), u2 (um _) (um _), b 26 (by decide), u2 (ubits (.inr (.inl rfl)) (um _) (um _)) (um _), b 27 (by decide), u2 (ubits (.inr (.inl rfl)) (ubits (.inr (.inl rfl)) (um _) (um _)) (um _)) (b 27 (by decide)), b 28 (by decide), b 29 (by decide), u2 (um _) (um _), b 30 (by decide), u2 (ubits (.inr (.inl rfl)) (um _) (um _)) (um _), b 31 (by decide), u2 (ubits (.inr (.inl rfl)) (ubits (.inr (.inl rfl)) (um _) (um _)) (um _)) (b 31 (by decide)), b 32 (by decide), b 33 (by decide), u2 (um _) (um _), b 34 (by decide), u2 (ubits (.inr (.inl rfl)) (um _) (um _)) (um _), b 35 (by decide), u2 (ubits (.inr (.inl rfl)) (ubits (.inr (.inl rfl)) (um _) (um _)) (um _)) (b 35 (by decide)), b 36 (by decide), b 37 (by decide), u2 (um _) (um _), b 38 (by decide), u2 (ubits (.inr (.inl rfl)) (um _) (um _)) (um _), b 39 (by decide), u2 (ubits (.inr (.inl rfl)) (ubits (.inr (.inl rfl)) (um _) (um _)) (um _)) (b 39 (by decide)), b 40 (by decide), b 41 (by decide), u2 (um _) (um _), b 42 (by decide), u2 (ubits (.inr (.inl rfl)) (um _) (um _)) (um _), b 43 (by decide), u2 (ubits (.inr (.inl rfl)) (ubits (.inr (.inl rfl)) (um _) (um _)) (um _)) (b 43 (by decide)), b 44 (by decide), b 45 (by decide), u2 (um _) (um _), b 46 (by decide), u2 (ubits (.inr (.inl rfl)) (um _) (um _)) (um _), b 47 (by decide), u2 (ubits (.inr (.inl rfl)) (ubits (.inr (.inl rfl)) (um _) (um _)) (um _)) (b 47 (by decide)), b 48 (by decide), b 49 (by decide), u2 (um _) (um _), b 50 (by decide), u2 (ubits (.inr (.inl rfl)) (um _) (um _)) (um _), b 51 (by decide), u2 (ubits (.inr (.inl rfl)) (ubits (.inr (.inl rfl)) (um _) (um _)) (um _)) (b 51 (by decide)), b 52 (by decide), b 53 (by decide), u2 (um _) (um _), b 54 (by decide), u2 (ubits (.inr (.inl rfl)) (um _) (um _)) (um _), b 55 (by decide), u2 (ubits (.inr (.inl rfl)) (ubits (.inr (.inl rfl)) (um _) (um _)) (um _)) (b 55 (by decide)), b 56 (by decide), b 57 (by decide), u2 (um _) (um _), b 58 (by decide), u2 (ubits (.inr (.inl rfl)) (um _) (um _)) (um _), b 59 (by decide), u2 (ubits (.inr (.inl rfl)) (ubits (.inr (.inl rfl)) (um _) (um _)) (um _)) (b 59 (by decide)), b 60 (by decide), b 61 (by decide), u2 (um _) (um _), b 62 (by decide), u2 (ubits (.inr (.inl rfl)) (um _) (um _)) (um _), b 63 (by decide), u2 (ubits (.inr (.inl rfl)) (ubits (.inr (.inl rfl)) (um _) (um _)) (um _)) (b 63 (by decide)), ⟨0, by omega, rfl, Sx.SBle.trans (Sx.SBle.cells (cs' := colFrom (.int .u32 (wL x.B 0)) 0 64) (fun E => rfl) rfl) Sx.SBle.toRows, SBle.refl _, SBle.refl _, trivial⟩, fun n hn => ⟨fun a => ?_, fun a => ?_⟩⟩
  · have a := of_decide_eq_true a
    have e15 : 0 + (16 + (n : Int) - 15).toNat = 16 + n - 15 := by omega
    have e2 : 0 + (16 + (n : Int) - 2).toNat = 16 + n - 2 := by omega
    have e7 : 0 + (16 + (n : Int) - 7).toNat = 16 + n - 7 := by omega
    have e16 : 0 + (16 + (n : Int) - 16).toNat = 16 + n - 16 := by omega
    have e0 : 0 + (16 + (n : Int)).toNat = 16 + n := by omega
    have u := wL_u hb n
    refine ⟨by omega, by omega, by omega, by omega, by omega, by omega, u _, u _, u2 (urot (u _) _) (urot (u _) _), u2 (uxor (urot (u _) _) (urot (u _) _)) (ud (u _) 8 (by decide)), u _, u _, u2 (urot (u _) _) (urot (u _) _), u2 (uxor (urot (u _) _) (urot (u _) _)) (ud (u _) 1024 (by decide)),
      by omega, by omega, by omega, by omega, by omega, by omega, by omega, by omega, by omega, n + 1, by omega, by omega, ?_, SBle.refl _, SBle.refl _, trivial⟩
    refine Sx.SBle.intRows fun j hj => ?_
    rw [e0]
    show _ = wL x.B (n + 1) j
    by_cases ej : j = 16 + n
    · rw [if_pos ej, wL_succ, if_pos ej, e15, e2, e7, e16]
      rfl
    · rw [if_neg ej, wL_succ, if_neg ej]
  · have a := of_decide_eq_false a
    have e : n = 48 := by omega
    subst e
    exact ⟨by omega, (), trivial, SBle.refl _, fun _ => rfl⟩
theorem Sh.sb_ok (x : Sh) : (Sh.sb x).wf 0 = true ∧ (Sh.sb x).ro = false ∧ (Sh.sb x).no = false := ⟨rfl, rfl, rfl⟩
theorem spread_ok : CallOk Tryd.prog 54 (boxPT Sh.sb spreadSpec) := by
  refine box_ok (n := 20) (fn := Tryd.f54) Tryd.func54 (by kernel_rfl) (by kernel_rfl) Sh.sb_ok ?_
  intro args g x h hp
  unfold spreadSpec at h
  split at h
  · injection h with h; subst h
    exact ⟨cfgSp x.B, [.slc 0 8 64 true 64], goodSp _, fun E => rfl, rfl, fun _ => rfl, spread_holds hp⟩
  · cases h
theorem listS2_ok : SummOk Tryd.prog (fun f => lookPT f listS2) := .cons spread_ok (boxPT_mono _ _) listS1_ok
theorem goodMix (W B : Nat → Int) : Sx.Good Tryd.prog (cfgMix W B) := ⟨mixes, listS2_ok, fns_ok⟩
theorem mix_holds {x : Sh} (hx : x.Ok) : Holds (runBox (cfgMix x.W x.B) 44 Tryd.f44 [.ptr 0 true 0, .slc 0 8 64 true 64] Sh.sb x (fun _ : Unit => (True, .tup [], { x with W := mixS x.W x.B }))) := by
  refine Holds.of_eq (vcMix x) ?_
  refine ⟨x, SBle.refl _, hx, fun _ _ => ⟨⟨0, by omega, rfl, Sx.SBle.trans (Sx.SBle.cells (cs' := colFrom (.int .u32 (wL x.B 48)) 0 64) (fun E => rfl) rfl) Sx.SBle.toRows, SBle.refl _, SBle.refl _, trivial⟩, fun i hi => ⟨fun a => ?_, fun a => ?_⟩⟩⟩
  · have a := of_decide_eq_true a
    have u := vAt_u (B := x.B) hx.w i
    have u0 := u 0 (by decide)
    have u1 := u 1 (by decide)
    have u2' := u 2 (by decide)
    have u4 := u 4 (by decide)
    have u5 := u 5 (by decide)
    have u6 := u 6 (by decide)
    have r : ∀ {y : Int} (n : Int), U y → U (rotr y n) := fun n h => urot h n
    refine ⟨⟨u2 u4 u5, u2 uM u4, u2 (uxor uM u4) u6, u2 (uand u4 u5) (uand (uxor uM u4) u6), by omega, by omega, by omega, by omega, u4, rfl, rfl, rfl, rfl, u4, rfl, rfl, rfl, rfl, u2 (r _ u4) (r _ u4), u4, rfl, rfl, rfl, rfl, u2 (uxor (r _ u4) (r _ u4)) (r _ u4), i, rfl, ?_, SBle.refl _, SBle.refl _, SBle.refl _, trivial⟩, fun i1 h1 =>
      ⟨⟨u2 u0 u1, u2 u0 u2', u2 (uand u0 u1) (uand u0 u2'), u2 u1 u2', u2 (uxor (uand u0 u1) (uand u0 u2')) (uand u1 u2'), u0, rfl, rfl, rfl, rfl, u0, rfl, rfl, rfl, rfl, u2 (r _ u0) (r _ u0), u0, rfl, rfl, rfl, rfl, u2 (uxor (r _ u0) (r _ u0)) (r _ u0), i, rfl, rfl, SBle.refl _, SBle.refl _, SBle.refl _, trivial⟩, fun i2 h2 => ⟨by omega, i + 1, by omega, by omega, SBle.refl _, ?_, SBle.refl _, trivial⟩⟩⟩
    · rw [Int.toNat_natCast, Nat.zero_add]; rfl
    · injection h1 with h1; injection h1 with _ _ h1
      injection h2 with h2; injection h2 with _ _ h2
      have e1 : i1 = i := by omega
      have e2 : i2 = i := by omega
      subst e1; subst e2
      exact SBle.refl _
  · have a := of_decide_eq_false a
    have e : i = 64 := by omega
    subst e
    exact ⟨(), trivial, SBle.refl _, fun _ => rfl⟩
theorem mix_ok : CallOk Tryd.prog 44 (boxPT Sh.sb mixSpec) := by
  refine box_ok (n := 20) (fn := Tryd.f44) Tryd.func44 (by kernel_rfl) (by kernel_rfl) Sh.sb_ok ?_
  intro args g x h hp
  unfold mixSpec at h
  split at h
  · injection h with h; subst h
    exact ⟨cfgMix x.W x.B, [.ptr 0 true 0, .slc 0 8 64 true 64], goodMix _ _, fun E => rfl, rfl, fun _ => rfl, mix_holds hp⟩
  · cases h
noncomputable def listS3 : List (FuncId × PT) := (44, boxPT Sh.sb mixSpec) :: reflList
theorem listS3_ok : SummOk Tryd.prog (fun f => lookPT f listS3) := .cons mix_ok (boxPT_mono _ _) reflList_ok
end Go.Proofs.YtmipbcadcoahlaaDoor
