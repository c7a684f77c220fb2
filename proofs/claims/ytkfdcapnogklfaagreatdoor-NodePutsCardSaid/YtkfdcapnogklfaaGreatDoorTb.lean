/-
  The reference's hashes: plain laws.
-/
import Derived.Test.YtkfdcapnogklfaaGreatDoorQc
namespace Go.Proofs.YtkfdcapnogklfaaGreatDoor
open Go Sx
set_option maxRecDepth 20000
theorem or_comm' (a b : Int) : bitsOf .or a b = bitsOf .or b a := by
  show ((a.toNat ||| b.toNat : Nat) : Int) = ((b.toNat ||| a.toNat : Nat) : Int)
  rw [Nat.or_comm]
theorem wL_stay (b : Nat → Int) {n j : Nat} (hj : j < 16 + n) : ∀ {m : Nat}, n ≤ m → wL b m j = wL b n j
  | 0, h => by obtain rfl : n = 0 := by omega
               rfl
  | m + 1, h => by
    by_cases e : n = m + 1
    · subst e; rfl
    · rw [wL_succ, if_neg (by omega)]
      exact wL_stay b hj (by omega)
theorem wL_first (b : Nat → Int) {j : Nat} (hj : j < 16) : wL b 48 j = wordB b j := by
  rw [wL_stay b (n := 0) (by omega) (by omega)]
  unfold wL
  rw [if_pos hj]
theorem wL_next (b : Nat → Int) {j : Nat} (h1 : 16 ≤ j) (h2 : j < 64) : wL b 48 j = nextW (wL b 48 (j - 16)) (wL b 48 (j - 15)) (wL b 48 (j - 7)) (wL b 48 (j - 2)) := by
  obtain ⟨n, rfl⟩ : ∃ n, j = 16 + n := ⟨j - 16, by omega⟩
  rw [wL_stay b (n := n + 1) (by omega) (by omega), wL_succ, if_pos rfl]
  rw [wL_stay b (n := n) (j := 16 + n - 16) (by omega) (m := 48) (by omega), wL_stay b (n := n) (j := 16 + n - 15) (by omega) (m := 48) (by omega), wL_stay b (n := n) (j := 16 + n - 7) (by omega) (m := 48) (by omega), wL_stay b (n := n) (j := 16 + n - 2) (by omega) (m := 48) (by omega)]
theorem mix_comm (W B : Nat → Int) (j : Nat) : (vAt W B 64 j + W j) % 4294967296 = mixS W B j := by
  unfold mixS
  rw [Int.add_comm]
theorem padT_len (T : List UInt8) : (padT T).length % 64 = 0 := by
  unfold padT tailL sizeB zerosN
  simp only [List.length_append, List.length_cons, List.length_replicate, List.length_nil]
  omega
end Go.Proofs.YtkfdcapnogklfaaGreatDoor
/-
  The reference's hashes: the set-up.
-/
namespace Go.Proofs.YtkfdcapnogklfaaGreatDoor
open Go Sx
set_option maxRecDepth 20000
def right3Spec : List SV → Option (Prop × SV)
  | [.int .u32 false x, .int .u64 false n] => (match rotN n with
    | true => some (0 ≤ x ∧ x ≤ 4294967295, .int .u32 false (rotr x n))
    | false => none)
  | _ => none
def bytesN (s : List UInt8) (j : Nat) : Int := byteAt s (j : Int)
def word3Spec : List SV → Option (Prop × SV)
  | [.str false s, .int .i64 false i] => some (0 ≤ i ∧ i < 16 ∧ 4 * i + 4 ≤ s.length, .int .u32 false (wordB (bytesN s) i.toNat))
  | _ => none
def pad3Spec : List SV → Option (Prop × SV)
  | [.str false s] => some (s.length < 1152921504606846976, .str false (padT s))
  | _ => none
noncomputable def annPad (T : List UInt8) : LoopAnn :=
  { α := Nat, pre := fun _ i => i ≤ zerosN T, mea := fun _ i => zerosN T - i, fresh := 0, slots := fun _ i => [(0, .str false (T ++ 128 :: List.replicate i 0))], mem := fun _ _ => [] }
noncomputable def cfgPad (T : List UInt8) : Cfg := { cfg0 with summ := fun f => lookPT f reflList, anns := fun f => if f = 63 then [(3, always (annPad T))] else [] }
theorem goodPad (T : List UInt8) : Sx.Good Tryz.prog (cfgPad T) := ⟨mixes, reflList_ok, fns_ok⟩
noncomputable def listC1 : List (FuncId × PT) := (81, purePT right3Spec) :: (80, purePT word3Spec) :: (63, purePT pad3Spec) :: reflList
def w8 (w0 w1 w2 w3 w4 w5 w6 w7 : Int) : Nat → Int := sel [w0, w1, w2, w3, w4, w5, w6, w7]
def byText (A : (Nat → Int) → LoopAnn) (st : Sx.St) : Option Multi := match slot st.tmps 2 with
  | some (.str _ s) => some (one (A (bytesN s)))
  | _ => none
def byBoth (A : (Nat → Int) → (Nat → Int) → LoopAnn) (st : Sx.St) : Option Multi := match slot st.tmps 0 with
  | some (.slc k _ _ _ _) => (match st.m.get k with
    | some (.cells [.int _ _ w0, .int _ _ w1, .int _ _ w2, .int _ _ w3, .int _ _ w4, .int _ _ w5, .int _ _ w6, .int _ _ w7] _ _) => byText (A (w8 w0 w1 w2 w3 w4 w5 w6 w7)) st
    | _ => none)
  | _ => none
noncomputable def annW3 (B : Nat → Int) : LoopAnn :=
  { α := Nat × Nat, pre := fun _ x => x.1 ≤ 64 ∧ x.1 ≤ x.2, mea := fun _ x => 64 - x.1, fresh := 1, slots := fun st x => [(7, .rslc st.nx 1 true 0 x.1 x.2), (8, .int .i64 false x.1)],
    mem := fun st x => [(st.nx, .rows true x.1 [.int .u32 (wL B 48)] false x.2 76)] }
noncomputable def annV3 (W B : Nat → Int) : LoopAnn :=
  { α := Nat × Nat, pre := fun _ x => x.1 ≤ 64, mea := fun _ x => 64 - x.1, fresh := 1, slots := fun st x => [(13, .slc st.nx 0 8 true x.2), (14, .int .i64 false x.1)],
    mem := fun st x => [(st.nx, .cells [.int .u32 false (vAt W B x.1 0), .int .u32 false (vAt W B x.1 1), .int .u32 false (vAt W B x.1 2), .int .u32 false (vAt W B x.1 3), .int .u32 false (vAt W B x.1 4), .int .u32 false (vAt W B x.1 5), .int .u32 false (vAt W B x.1 6), .int .u32 false (vAt W B x.1 7)] x.2 76)] }
noncomputable def joinA3 (W B : Nat → Int) : LoopAnn :=
  { α := Nat, pre := fun st i => slot st.tmps 14 = some (.int .i64 false (i : Int)), mea := fun _ _ => 0, fresh := 0, slots := fun _ i => [(21, .int .u32 false (t1F (vAt W B i) (cube i) (wL B 48 i)))], mem := fun _ _ => [] }
noncomputable def joinB3 (W B : Nat → Int) : LoopAnn :=
  { α := Nat, pre := fun st i => slot st.tmps 14 = some (.int .i64 false (i : Int)), mea := fun _ _ => 0, fresh := 0, slots := fun _ i => [(22, .int .u32 false (t2F (vAt W B i)))], mem := fun _ _ => [] }
noncomputable def annOf3 (T : List UInt8) : LoopAnn :=
  { α := Nat × Nat, pre := fun _ x => x.1 ≤ (padT T).length / 64, mea := fun _ x => (padT T).length / 64 - x.1, fresh := 1, slots := fun st x => [(3, .slc st.nx 0 8 true x.2), (6, .int .i64 false (64 * (x.1 : Int)))],
    mem := fun st x => [(st.nx, .cells [.int .u32 false (wordsAt (padT T) x.1 0), .int .u32 false (wordsAt (padT T) x.1 1), .int .u32 false (wordsAt (padT T) x.1 2), .int .u32 false (wordsAt (padT T) x.1 3), .int .u32 false (wordsAt (padT T) x.1 4), .int .u32 false (wordsAt (padT T) x.1 5), .int .u32 false (wordsAt (padT T) x.1 6), .int .u32 false (wordsAt (padT T) x.1 7)] x.2 76)] }
noncomputable def cfgOf3 (T : List UInt8) : Cfg := { cfg0 with summ := fun f => lookPT f listC1, anns := fun f => if f = 37 then [(4, always (annOf3 T))]
  else if f = 64 then [(3, byText annW3), (14, byBoth annV3), (1017, byBoth joinA3), (1018, byBoth joinB3)] else [] }
def of3Spec : List SV → Option (Prop × SV)
  | [.str false s] => some (s.length < 1152921504606846976, .str false (shaL s))
  | _ => none
end Go.Proofs.YtkfdcapnogklfaaGreatDoor
/-
  Conditions that the executor computes, written out by a program (vcgen.py).
-/
namespace Go.Proofs.YtkfdcapnogklfaaGreatDoor
open Go Sx
set_option maxRecDepth 20000
theorem vcRR2 (x : Int) (R : SV → Prop) : VC.holds (runP cfg0 81 Tryz.f81 [.int .u32 false x, .int .u64 true 2] R) = (((0 ≤ x / 4 ∧ x / 4 ≤ (4294967295 : Int) ∧ 0 ≤ x * 1073741824 % (4294967296 : Int) ∧ x * 1073741824 % (4294967296 : Int) ≤ (4294967295 : Int)) ∧ R (SV.int .u32 false (bitsOf BinOp.or (x / 4) (x * 1073741824 % (4294967296 : Int)))))) := by kernel_rfl
theorem vcRR6 (x : Int) (R : SV → Prop) : VC.holds (runP cfg0 81 Tryz.f81 [.int .u32 false x, .int .u64 true 6] R) = (((0 ≤ x / 64 ∧ x / 64 ≤ (4294967295 : Int) ∧ 0 ≤ x * 67108864 % (4294967296 : Int) ∧ x * 67108864 % (4294967296 : Int) ≤ (4294967295 : Int)) ∧ R (SV.int .u32 false (bitsOf BinOp.or (x / 64) (x * 67108864 % (4294967296 : Int)))))) := by kernel_rfl
theorem vcRR7 (x : Int) (R : SV → Prop) : VC.holds (runP cfg0 81 Tryz.f81 [.int .u32 false x, .int .u64 true 7] R) = (((0 ≤ x / 128 ∧ x / 128 ≤ (4294967295 : Int) ∧ 0 ≤ x * 33554432 % (4294967296 : Int) ∧ x * 33554432 % (4294967296 : Int) ≤ (4294967295 : Int)) ∧ R (SV.int .u32 false (bitsOf BinOp.or (x / 128) (x * 33554432 % (4294967296 : Int)))))) := by kernel_rfl
theorem vcRR11 (x : Int) (R : SV → Prop) : VC.holds (runP cfg0 81 Tryz.f81 [.int .u32 false x, .int .u64 true 11] R) = (((0 ≤ x / 2048 ∧ x / 2048 ≤ (4294967295 : Int) ∧ 0 ≤ x * 2097152 % (4294967296 : Int) ∧ x * 2097152 % (4294967296 : Int) ≤ (4294967295 : Int)) ∧ R (SV.int .u32 false (bitsOf BinOp.or (x / 2048) (x * 2097152 % (4294967296 : Int)))))) := by kernel_rfl
theorem vcRR13 (x : Int) (R : SV → Prop) : VC.holds (runP cfg0 81 Tryz.f81 [.int .u32 false x, .int .u64 true 13] R) = (((0 ≤ x / 8192 ∧ x / 8192 ≤ (4294967295 : Int) ∧ 0 ≤ x * 524288 % (4294967296 : Int) ∧ x * 524288 % (4294967296 : Int) ≤ (4294967295 : Int)) ∧ R (SV.int .u32 false (bitsOf BinOp.or (x / 8192) (x * 524288 % (4294967296 : Int)))))) := by kernel_rfl
theorem vcRR17 (x : Int) (R : SV → Prop) : VC.holds (runP cfg0 81 Tryz.f81 [.int .u32 false x, .int .u64 true 17] R) = (((0 ≤ x / 131072 ∧ x / 131072 ≤ (4294967295 : Int) ∧ 0 ≤ x * 32768 % (4294967296 : Int) ∧ x * 32768 % (4294967296 : Int) ≤ (4294967295 : Int)) ∧ R (SV.int .u32 false (bitsOf BinOp.or (x / 131072) (x * 32768 % (4294967296 : Int)))))) := by kernel_rfl
theorem vcRR18 (x : Int) (R : SV → Prop) : VC.holds (runP cfg0 81 Tryz.f81 [.int .u32 false x, .int .u64 true 18] R) = (((0 ≤ x / 262144 ∧ x / 262144 ≤ (4294967295 : Int) ∧ 0 ≤ x * 16384 % (4294967296 : Int) ∧ x * 16384 % (4294967296 : Int) ≤ (4294967295 : Int)) ∧ R (SV.int .u32 false (bitsOf BinOp.or (x / 262144) (x * 16384 % (4294967296 : Int)))))) := by kernel_rfl
theorem vcRR19 (x : Int) (R : SV → Prop) : VC.holds (runP cfg0 81 Tryz.f81 [.int .u32 false x, .int .u64 true 19] R) = (((0 ≤ x / 524288 ∧ x / 524288 ≤ (4294967295 : Int) ∧ 0 ≤ x * 8192 % (4294967296 : Int) ∧ x * 8192 % (4294967296 : Int) ≤ (4294967295 : Int)) ∧ R (SV.int .u32 false (bitsOf BinOp.or (x / 524288) (x * 8192 % (4294967296 : Int)))))) := by kernel_rfl
theorem vcRR22 (x : Int) (R : SV → Prop) : VC.holds (runP cfg0 81 Tryz.f81 [.int .u32 false x, .int .u64 true 22] R) = (((0 ≤ x / 4194304 ∧ x / 4194304 ≤ (4294967295 : Int) ∧ 0 ≤ x * 1024 % (4294967296 : Int) ∧ x * 1024 % (4294967296 : Int) ≤ (4294967295 : Int)) ∧ R (SV.int .u32 false (bitsOf BinOp.or (x / 4194304) (x * 1024 % (4294967296 : Int)))))) := by kernel_rfl
theorem vcRR25 (x : Int) (R : SV → Prop) : VC.holds (runP cfg0 81 Tryz.f81 [.int .u32 false x, .int .u64 true 25] R) = (((0 ≤ x / 33554432 ∧ x / 33554432 ≤ (4294967295 : Int) ∧ 0 ≤ x * 128 % (4294967296 : Int) ∧ x * 128 % (4294967296 : Int) ≤ (4294967295 : Int)) ∧ R (SV.int .u32 false (bitsOf BinOp.or (x / 33554432) (x * 128 % (4294967296 : Int)))))) := by kernel_rfl
theorem vcWord3 (s : List UInt8) (i : Int) (R : SV → Prop) : VC.holds (runP cfg0 80 Tryz.f80 [.str false s, .int .i64 false i] R) = ((((-9223372036854775808 : Int) ≤ 4 * i ∧ 4 * i ≤ 9223372036854775807) ∧ ((0 : Int) ≤ 4 * i ∧ 4 * i < (s.length : Int)) ∧ (0 ≤ byteAt s (4 * i) ∧ byteAt s (4 * i) ≤ 4294967295) ∧ ((-9223372036854775808 : Int) ≤ 4 * i ∧ 4 * i ≤ 9223372036854775807) ∧ ((-9223372036854775808 : Int) ≤ 4 * i + 1 ∧ 4 * i + 1 ≤ (9223372036854775807 : Int)) ∧ ((0 : Int) ≤ 4 * i + 1 ∧ 4 * i + 1 < (s.length : Int)) ∧ (0 ≤ byteAt s (4 * i + 1) ∧ byteAt s (4 * i + 1) ≤ 4294967295) ∧ (0 ≤ byteAt s (4 * i) * 16777216 % (4294967296 : Int) ∧ byteAt s (4 * i) * 16777216 % (4294967296 : Int) ≤ (4294967295 : Int) ∧ 0 ≤ byteAt s (4 * i + 1) * 65536 % (4294967296 : Int) ∧ byteAt s (4 * i + 1) * 65536 % (4294967296 : Int) ≤ (4294967295 : Int)) ∧ ((-9223372036854775808 : Int) ≤ 4 * i ∧ 4 * i ≤ 9223372036854775807) ∧ ((-9223372036854775808 : Int) ≤ 4 * i + 2 ∧ 4 * i + 2 ≤ (9223372036854775807 : Int)) ∧ ((0 : Int) ≤ 4 * i + 2 ∧ 4 * i + 2 < (s.length : Int)) ∧ (0 ≤ byteAt s (4 * i + 2) ∧ byteAt s (4 * i + 2) ≤ 4294967295) ∧ (0 ≤ bitsOf BinOp.or (byteAt s (4 * i) * 16777216 % (4294967296 : Int)) (byteAt s (4 * i + 1) * 65536 % (4294967296 : Int)) ∧
 bitsOf BinOp.or (byteAt s (4 * i) * 16777216 % (4294967296 : Int)) (byteAt s (4 * i + 1) * 65536 % (4294967296 : Int)) ≤ 4294967295 ∧ 0 ≤ byteAt s (4 * i + 2) * 256 % (4294967296 : Int) ∧ byteAt s (4 * i + 2) * 256 % (4294967296 : Int) ≤ (4294967295 : Int)) ∧ ((-9223372036854775808 : Int) ≤ 4 * i ∧ 4 * i ≤ 9223372036854775807) ∧ ((-9223372036854775808 : Int) ≤ 4 * i + 3 ∧ 4 * i + 3 ≤ (9223372036854775807 : Int)) ∧ ((0 : Int) ≤ 4 * i + 3 ∧ 4 * i + 3 < (s.length : Int)) ∧ (0 ≤ byteAt s (4 * i + 3) ∧ byteAt s (4 * i + 3) ≤ 4294967295) ∧ (0 ≤ bitsOf BinOp.or (bitsOf BinOp.or (byteAt s (4 * i) * 16777216 % (4294967296 : Int)) (byteAt s (4 * i + 1) * 65536 % (4294967296 : Int))) (byteAt s (4 * i + 2) * 256 % (4294967296 : Int)) ∧ bitsOf BinOp.or (bitsOf BinOp.or (byteAt s (4 * i) * 16777216 % (4294967296 : Int)) (byteAt s (4 * i + 1) * 65536 % (4294967296 : Int))) (byteAt s (4 * i + 2) * 256 % (4294967296 : Int)) ≤ 4294967295 ∧ 0 ≤ byteAt s (4 * i + 3) ∧ byteAt s (4 * i + 3) ≤ 4294967295) ∧
 R (SV.int .u32 false (bitsOf BinOp.or (bitsOf BinOp.or (bitsOf BinOp.or (byteAt s (4 * i) * 16777216 % (4294967296 : Int)) (byteAt s (4 * i + 1) * 65536 % (4294967296 : Int))) (byteAt s (4 * i + 2) * 256 % (4294967296 : Int))) (byteAt s (4 * i + 3)))))) := by kernel_rfl
theorem vcPad3 (T : List UInt8) (R : SV → Prop) : VC.holds (runP (cfgPad T) 63 Tryz.f63 [.str false T] R) = ((fun P0 : SB => (((T.length : Int) + 1 ≤ (9223372036854775807 : Int) ∧ (∃ (u2 : Nat), u2 ≤ zerosN T ∧ cat T [UInt8.ofNat 128] = T ++ (128 : UInt8) :: List.replicate u2 (0 : UInt8) ∧ SBle P0 P0 ∧ True) ∧ ∀ (u1 : Nat), u1 ≤ zerosN T → (0 ≤ (↑(T ++ (128 : UInt8) :: List.replicate u1 (0 : UInt8)).length : Int) ∧ (↑(T ++ (128 : UInt8) :: List.replicate u1 (0 : UInt8)).length : Int) ≤ 9223372036854775807 ∧ (0 : Int) < (64 : Int)) ∧ ((!decide ((↑(T ++ (128 : UInt8) :: List.replicate u1 (0 : UInt8)).length : Int) % 64 = (56 : Int))) = true → (↑(T ++ (128 : UInt8) :: List.replicate u1 (0 : UInt8)).length : Int) + 1 ≤ (9223372036854775807 : Int) ∧ ∃ (u0 : Nat), (u0 ≤ zerosN T ∧ zerosN T - u0 < zerosN T - u1) ∧ cat (T ++ (128 : UInt8) :: List.replicate u1 (0 : UInt8)) [UInt8.ofNat 0] = T ++ (128 : UInt8) :: List.replicate u0 (0 : UInt8) ∧ SBle P0 P0 ∧ True) ∧ ((!decide ((↑(T ++ (128 : UInt8) :: List.replicate u1 (0 : UInt8)).length : Int) % 64 = (56 : Int))) = false → (↑(T ++ (128 : UInt8) :: List.replicate u1 (0 : UInt8)).length : Int) + (↑(1 : Nat) : Int) ≤ 9223372036854775807 ∧
 (↑(cat (T ++ (128 : UInt8) :: List.replicate u1 (0 : UInt8)) [UInt8.ofNat ((T.length : Int) % 18446744073709551616 * (8 : Int) % (18446744073709551616 : Int) / (72057594037927936 : Int) % (256 : Int)).toNat]).length : Int) + (↑(1 : Nat) : Int) ≤ 9223372036854775807 ∧ (↑(cat (cat (T ++ (128 : UInt8) :: List.replicate u1 (0 : UInt8)) [UInt8.ofNat ((T.length : Int) % 18446744073709551616 * (8 : Int) % (18446744073709551616 : Int) / (72057594037927936 : Int) % (256 : Int)).toNat]) [UInt8.ofNat ((T.length : Int) % 18446744073709551616 * (8 : Int) % (18446744073709551616 : Int) / (281474976710656 : Int) % (256 : Int)).toNat]).length : Int) + (↑(1 : Nat) : Int) ≤ 9223372036854775807 ∧
 (↑(cat (cat (cat (T ++ (128 : UInt8) :: List.replicate u1 (0 : UInt8)) [UInt8.ofNat ((T.length : Int) % 18446744073709551616 * (8 : Int) % (18446744073709551616 : Int) / (72057594037927936 : Int) % (256 : Int)).toNat]) [UInt8.ofNat ((T.length : Int) % 18446744073709551616 * (8 : Int) % (18446744073709551616 : Int) / (281474976710656 : Int) % (256 : Int)).toNat]) [UInt8.ofNat ((T.length : Int) % 18446744073709551616 * (8 : Int) % (18446744073709551616 : Int) / (1099511627776 : Int) % (256 : Int)).toNat]).length : Int) + (↑(1 : Nat) : Int) ≤ 9223372036854775807 ∧
 (↑(cat (cat (cat (cat (T ++ (128 : UInt8) :: List.replicate u1 (0 : UInt8)) [UInt8.ofNat ((T.length : Int) % 18446744073709551616 * (8 : Int) % (18446744073709551616 : Int) / (72057594037927936 : Int) % (256 : Int)).toNat]) [UInt8.ofNat ((T.length : Int) % 18446744073709551616 * (8 : Int) % (18446744073709551616 : Int) / (281474976710656 : Int) % (256 : Int)).toNat]) [UInt8.ofNat ((T.length : Int) % 18446744073709551616 * (8 : Int) % (18446744073709551616 : Int) / (1099511627776 : Int) % (256 : Int)).toNat]) [UInt8.ofNat ((T.length : Int) % 18446744073709551616 * (8 : Int) % (18446744073709551616 : Int) / (4294967296 : Int) % (256 : Int)).toNat]).length : Int) + (↑(1 : Nat) : Int) ≤ 9223372036854775807 ∧
 (↑(cat (cat (cat (cat (cat (T ++ (128 : UInt8) :: List.replicate u1 (0 : UInt8)) [UInt8.ofNat ((T.length : Int) % 18446744073709551616 * (8 : Int) % (18446744073709551616 : Int) / (72057594037927936 : Int) % (256 : Int)).toNat]) [UInt8.ofNat ((T.length : Int) % 18446744073709551616 * (8 : Int) % (18446744073709551616 : Int) / (281474976710656 : Int) % (256 : Int)).toNat]) [UInt8.ofNat ((T.length : Int) % 18446744073709551616 * (8 : Int) % (18446744073709551616 : Int) / (1099511627776 : Int) % (256 : Int)).toNat]) [UInt8.ofNat ((T.length : Int) % 18446744073709551616 * (8 : Int) % (18446744073709551616 : Int) / (4294967296 : Int) % (256 : Int)).toNat]) [UInt8.ofNat ((T.length : Int) % 18446744073709551616 * (8 : Int) % (18446744073709551616 : Int) / (16777216 : Int) % (256 : Int)).toNat]).length : Int) + (↑(1 : Nat) : Int) ≤ 9223372036854775807 ∧
 (↑(cat (cat (cat (cat (cat (cat (T ++ (128 : UInt8) :: List.replicate u1 (0 : UInt8)) [UInt8.ofNat ((T.length : Int) % 18446744073709551616 * (8 : Int) % (18446744073709551616 : Int) / (72057594037927936 : Int) % (256 : Int)).toNat]) [UInt8.ofNat ((T.length : Int) % 18446744073709551616 * (8 : Int) % (18446744073709551616 : Int) / (281474976710656 : Int) % (256 : Int)).toNat]) [UInt8.ofNat ((T.length : Int) % 18446744073709551616 * (8 : Int) % (18446744073709551616 : Int) / (1099511627776 : Int) % (256 : Int)).toNat]) [UInt8.ofNat ((T.length : Int) % 18446744073709551616 * (8 : Int) % (18446744073709551616 : Int) / (4294967296 : Int) % (256 : Int)).toNat]) [UInt8.ofNat ((T.length : Int) % 18446744073709551616 * (8 : Int) % (18446744073709551616 : Int) / (16777216 : Int) % (256 : Int)).toNat]) [UInt8.ofNat ((T.length : Int) % 18446744073709551616 * (8 : Int) % (18446744073709551616 : Int) / (65536 : Int) % (256 : Int)).toNat]).length : Int) + (↑(1 : Nat) : Int) ≤ 9223372036854775807 ∧
 (↑(cat (cat (cat (cat (cat (cat (cat (T ++ (128 : UInt8) :: List.replicate u1 (0 : UInt8)) [UInt8.ofNat ((T.length : Int) % 18446744073709551616 * (8 : Int) % (18446744073709551616 : Int) / (72057594037927936 : Int) % (256 : Int)).toNat]) [UInt8.ofNat ((T.length : Int) % 18446744073709551616 * (8 : Int) % (18446744073709551616 : Int) / (281474976710656 : Int) % (256 : Int)).toNat]) [UInt8.ofNat ((T.length : Int) % 18446744073709551616 * (8 : Int) % (18446744073709551616 : Int) / (1099511627776 : Int) % (256 : Int)).toNat]) [UInt8.ofNat ((T.length : Int) % 18446744073709551616 * (8 : Int) % (18446744073709551616 : Int) / (4294967296 : Int) % (256 : Int)).toNat]) [UInt8.ofNat ((T.length : Int) % 18446744073709551616 * (8 : Int) % (18446744073709551616 : Int) / (16777216 : Int) % (256 : Int)).toNat]) [UInt8.ofNat ((T.length : Int) % 18446744073709551616 * (8 : Int) % (18446744073709551616 : Int) / (65536 : Int) % (256 : Int)).toNat]) [UInt8.ofNat ((T.length : Int) % 18446744073709551616 * (8 : Int) % (18446744073709551616 : Int) / (256 : Int) % (256 : Int)).toNat]).length : Int) + (↑(1 : Nat) : Int) ≤ 9223372036854775807 ∧
 R (SV.str false (cat (cat (cat (cat (cat (cat (cat (cat (T ++ (128 : UInt8) :: List.replicate u1 (0 : UInt8)) [UInt8.ofNat ((T.length : Int) % 18446744073709551616 * (8 : Int) % (18446744073709551616 : Int) / (72057594037927936 : Int) % (256 : Int)).toNat]) [UInt8.ofNat ((T.length : Int) % 18446744073709551616 * (8 : Int) % (18446744073709551616 : Int) / (281474976710656 : Int) % (256 : Int)).toNat]) [UInt8.ofNat ((T.length : Int) % 18446744073709551616 * (8 : Int) % (18446744073709551616 : Int) / (1099511627776 : Int) % (256 : Int)).toNat]) [UInt8.ofNat ((T.length : Int) % 18446744073709551616 * (8 : Int) % (18446744073709551616 : Int) / (4294967296 : Int) % (256 : Int)).toNat]) [UInt8.ofNat ((T.length : Int) % 18446744073709551616 * (8 : Int) % (18446744073709551616 : Int) / (16777216 : Int) % (256 : Int)).toNat]) [UInt8.ofNat ((T.length : Int) % 18446744073709551616 * (8 : Int) % (18446744073709551616 : Int) / (65536 : Int) % (256 : Int)).toNat]) [UInt8.ofNat ((T.length : Int) % 18446744073709551616 * (8 : Int) % (18446744073709551616 : Int) / (256 : Int) % (256 : Int)).toNat]) [UInt8.ofNat ((T.length : Int) % 18446744073709551616 * (8 : Int) % (18446744073709551616 : Int) / (1 : Int) % (256 : Int)).toNat])))))) (SB.cells (setRange (times 1 (SV.int .u8 true 0).cells) 0 (SV.int .u8 true 128).cells) 1 5)) := by kernel_rfl
end Go.Proofs.YtkfdcapnogklfaaGreatDoor
/-
  The reference's hashes: what is turned, words, what stands behind a text: the contracts.
-/
namespace Go.Proofs.YtkfdcapnogklfaaGreatDoor
open Go Sx
set_option maxRecDepth 20000
theorem i32_same {l l' : Bool} {a b : Int} (h : a = b) : sameVal (.int .u32 l a) (.int .u32 l' b) := fun _ => by subst h; rfl
theorem right3_ok : CallOk Tryz.prog 81 (purePT right3Spec) := by
  refine pure_of_ans (ansW_ok (n := 20) (fn := Tryz.f81) Tryz.func81 (by kernel_rfl) (by kernel_rfl) ?_)
  intro args p a h hp
  unfold right3Spec at h
  split at h
  · rename_i x n
    split at h
    · rename_i hn
      injection h with h; injection h with h1 h2; subst h1; subst h2
      have hx : U x := hp
      rcases rot_cases hn with rfl | rfl | rfl | rfl | rfl | rfl | rfl | rfl | rfl | rfl
      · exact ⟨cfg0, [.int .u32 false x, .int .u64 true 2], good0, fun E => rfl, rfl, rfl, Holds.of_eq (vcRR2 x _) ⟨u2 (ud hx 4 (by decide)) (um _), i32_same (or_comm' _ _)⟩⟩
      · exact ⟨cfg0, [.int .u32 false x, .int .u64 true 6], good0, fun E => rfl, rfl, rfl, Holds.of_eq (vcRR6 x _) ⟨u2 (ud hx 64 (by decide)) (um _), i32_same (or_comm' _ _)⟩⟩
      · exact ⟨cfg0, [.int .u32 false x, .int .u64 true 7], good0, fun E => rfl, rfl, rfl, Holds.of_eq (vcRR7 x _) ⟨u2 (ud hx 128 (by decide)) (um _), i32_same (or_comm' _ _)⟩⟩
      · exact ⟨cfg0, [.int .u32 false x, .int .u64 true 11], good0, fun E => rfl, rfl, rfl, Holds.of_eq (vcRR11 x _) ⟨u2 (ud hx 2048 (by decide)) (um _), i32_same (or_comm' _ _)⟩⟩
      · exact ⟨cfg0, [.int .u32 false x, .int .u64 true 13], good0, fun E => rfl, rfl, rfl, Holds.of_eq (vcRR13 x _) ⟨u2 (ud hx 8192 (by decide)) (um _), i32_same (or_comm' _ _)⟩⟩
      · exact ⟨cfg0, [.int .u32 false x, .int .u64 true 17], good0, fun E => rfl, rfl, rfl, Holds.of_eq (vcRR17 x _) ⟨u2 (ud hx 131072 (by decide)) (um _), i32_same (or_comm' _ _)⟩⟩
      · exact ⟨cfg0, [.int .u32 false x, .int .u64 true 18], good0, fun E => rfl, rfl, rfl, Holds.of_eq (vcRR18 x _) ⟨u2 (ud hx 262144 (by decide)) (um _), i32_same (or_comm' _ _)⟩⟩
      · exact ⟨cfg0, [.int .u32 false x, .int .u64 true 19], good0, fun E => rfl, rfl, rfl, Holds.of_eq (vcRR19 x _) ⟨u2 (ud hx 524288 (by decide)) (um _), i32_same (or_comm' _ _)⟩⟩
      · exact ⟨cfg0, [.int .u32 false x, .int .u64 true 22], good0, fun E => rfl, rfl, rfl, Holds.of_eq (vcRR22 x _) ⟨u2 (ud hx 4194304 (by decide)) (um _), i32_same (or_comm' _ _)⟩⟩
      · exact ⟨cfg0, [.int .u32 false x, .int .u64 true 25], good0, fun E => rfl, rfl, rfl, Holds.of_eq (vcRR25 x _) ⟨u2 (ud hx 33554432 (by decide)) (um _), i32_same (or_comm' _ _)⟩⟩
    · cases h
  · cases h
theorem uo {a b : Int} (ha : U a) (hb : U b) : U (bitsOf .or a b) := ubits (.inr (.inl rfl)) ha hb
theorem byte_u (s : List UInt8) (i : Int) : U (byteAt s i) := by
  have := byteAt_lt s i
  exact ⟨this.1, by omega⟩
theorem word3_ok : CallOk Tryz.prog 80 (purePT word3Spec) := by
  refine pure_ok good0 (n := 20) (fn := Tryz.f80) Tryz.func80 (by kernel_rfl) (by kernel_rfl) ?_
  intro args p r h hp
  unfold word3Spec at h
  split at h
  · rename_i s i
    injection h with h; injection h with h1 h2; subst h1; subst h2
    obtain ⟨h0, h1, h2⟩ := hp
    have b := byte_u s
    refine ⟨rfl, rfl, Holds.of_eq (vcWord3 s i _) ⟨by omega, by omega, b _, by omega, by omega, by omega, b _, u2 (um _) (um _), by omega, by omega, by omega, b _, u2 (uo (um _) (um _)) (um _), by omega, by omega, by omega, b _, u2 (uo (uo (um _) (um _)) (um _)) (b _), i32_same ?_⟩⟩
    obtain ⟨n, rfl⟩ := Int.eq_ofNat_of_zero_le h0
    rfl
  · cases h
theorem padN_len (T : List UInt8) (x : Nat) : (T ++ (128 : UInt8) :: List.replicate x 0).length = T.length + (x + 1) := by
  rw [List.length_append, List.length_cons, List.length_replicate]
theorem pad3_holds {T : List UInt8} (hT : T.length < 1152921504606846976) : Holds (runP (cfgPad T) 63 Tryz.f63 [.str false T] (fun v => sameVal v (.str false (padT T)))) := by
  refine Holds.of_eq (vcPad3 T _) ?_
  have hz : zerosN T = (119 - T.length % 64) % 64 := rfl
  refine ⟨by omega, ⟨0, Nat.zero_le _, rfl, SBle.refl _, trivial⟩, fun x hx => ?_⟩
  have hl := padN_len T x
  have hc : ∀ (l : List UInt8) (b : UInt8), (cat l [b]).length = l.length + 1 := fun l b => by simp [cat]
  refine ⟨by omega, fun a => ⟨by omega, x + 1, ⟨?_, ?_⟩, ?_, SBle.refl _, trivial⟩, fun a => ?_⟩
  · have a : ¬ (((T ++ (128 : UInt8) :: List.replicate x 0).length : Int) % 64 = 56) := by simpa using a
    rw [hl] at a
    omega
  · have a : ¬ (((T ++ (128 : UInt8) :: List.replicate x 0).length : Int) % 64 = 56) := by simpa using a
    rw [hl] at a
    omega
  · show (T ++ (128 : UInt8) :: List.replicate x 0) ++ [0] = _
    rw [List.append_assoc, List.cons_append, ← List.replicate_succ']
  · have a : ((T ++ (128 : UInt8) :: List.replicate x 0).length : Int) % 64 = 56 := by simpa using a
    rw [hl] at a
    have e : x = zerosN T := by omega
    refine ⟨by omega, by rw [hc]; omega, by rw [hc, hc]; omega, by rw [hc, hc, hc]; omega, by rw [hc, hc, hc, hc]; omega, by rw [hc, hc, hc, hc, hc]; omega, by rw [hc, hc, hc, hc, hc, hc]; omega, by rw [hc, hc, hc, hc, hc, hc, hc]; omega, str_same ?_⟩
    subst e
    unfold padT tailL
    simp only [cat, List.append_assoc, List.cons_append, List.nil_append]
    rfl
theorem pad3_ok : CallOk Tryz.prog 63 (purePT pad3Spec) := by
  refine pure_of_ans (ans_ok (n := 20) (fn := Tryz.f63) Tryz.func63 (by kernel_rfl) (by kernel_rfl) ?_)
  intro args p a h hp
  unfold pad3Spec at h
  split at h
  · injection h with h; injection h with h1 h2; subst h1; subst h2
    exact ⟨_, goodPad _, rfl, rfl, pad3_holds hp⟩
  · cases h
theorem listC1_ok : SummOk Tryz.prog (fun f => lookPT f listC1) := .cons right3_ok (purePT_mono _) (.cons word3_ok (purePT_mono _) (.cons pad3_ok (purePT_mono _) reflList_ok))
theorem goodOf3 (T : List UInt8) : Sx.Good Tryz.prog (cfgOf3 T) := ⟨mixes, listC1_ok, fns_ok⟩
end Go.Proofs.YtkfdcapnogklfaaGreatDoor
/-
  Conditions that the executor computes, written out by a program (vcgen.py).
-/
namespace Go.Proofs.YtkfdcapnogklfaaGreatDoor
open Go Sx
set_option maxRecDepth 20000
theorem vcOf3 (T : List UInt8) (R : SV → Prop) : VC.holds (runP (cfgOf3 T) 37 Tryz.f37 [.str false T] R) = ((fun R0 : Nat → SV => ((fun R1 : Nat → (Nat × Nat) → SV => ((fun R2 : Nat → (Nat × Nat) → SV => ((fun R3 : Nat → (Nat × Nat) → (Nat × Nat) → SV => ((fun R4 : Nat → (Nat × Nat) → (Nat × Nat) → SV => ((fun R5 : Nat → (Nat × Nat) → (Nat × Nat) → SV => ((fun R6 : Nat → (Nat × Nat) → (Nat × Nat) → SV => ((fun R7 : Nat → (Nat × Nat) → SV => ((fun P0 : SB => ((fun P1 : (Nat × Nat) → (Nat → Int) => ((fun P2 : (Nat × Nat) → List UInt8 => ((fun P3 : (Nat × Nat) → SB => ((fun P4 : (Nat × Nat) → (Nat × Nat) → SB => ((fun P5 : (Nat × Nat) → (Nat × Nat) → SB => ((fun P6 : (Nat × Nat) → (Nat × Nat) → Int => ((fun P7 : (Nat × Nat) → (Nat × Nat) → Int => ((fun P8 : (Nat × Nat) → (Nat × Nat) → Int => ((fun P9 : (Nat × Nat) → (Nat × Nat) → Int => ((fun P10 : SB => ((fun P11 : (Nat × Nat) → (Nat × Nat) → Int => ((fun P12 : (Nat × Nat) → (Nat × Nat) → Int => ((T.length < 1152921504606846976 ∧ (∃ (u18 : Nat × Nat), u18.fst ≤ (padT T).length / 64 ∧ ((0 : Nat) = (0 : Nat) ∧ (8 : Nat) = (8 : Nat) ∧ 8 = u18.snd) ∧ (0 : Int) = 64 * (u18.fst : Int) ∧ SBle (SB.cells [R0 1779033703, R0 3144134277, R0 1013904242, R0 2773480762, R0 1359893119, R0 2600822924, R0 528734635, R0 1541459225] 8 76) (SB.cells [R1 0 u18, R1 1 u18, R1 2 u18, R1 3 u18, R1 4 u18, R1 5 u18, R1 6 u18, R1 7 u18] u18.snd 76) ∧ SBle P0 P0 ∧ True) ∧ ∀ (u17 : Nat × Nat), u17.fst ≤ (padT T).length / 64 → (decide (64 * (u17.fst : Int) < (↑(padT T).length : Int)) = true → ((-9223372036854775808 : Int) ≤ 64 * (u17.fst : Int) + 64 ∧ 64 * (u17.fst : Int) + 64 ≤ (9223372036854775807 : Int)) ∧ ((0 : Int) ≤ 64 * (u17.fst : Int) ∧ 64 * (u17.fst : Int) ≤ 64 * (u17.fst : Int) + 64 ∧ 64 * (u17.fst : Int) + 64 ≤ (↑(padT T).length : Int)) ∧ (∃ (u16 : Nat × Nat), (u16.fst ≤ 64 ∧ u16.fst ≤ u16.snd) ∧ u16.fst = 0 ∧ 0 = (u16.fst : Int) ∧ (SB.rows true u16.fst [Col.int IntKind.u32 (wL (bytesN (P2 u17)) 48)] false u16.snd 76).no = true ∧ SBle (P3 u17) (P3 u17) ∧ SBle P0 P0 ∧ True) ∧ ∀ (u15 : Nat × Nat), u15.fst ≤ 64 ∧ u15.fst ≤ u15.snd → (decide ((u15.fst : Int) < 64) = true →
 (decide ((u15.fst : Int) < 16) = true → (0 ≤ (u15.fst : Int) ∧ (u15.fst : Int) < 16 ∧ 4 * (u15.fst : Int) + 4 ≤ (↑(P2 u17).length : Int)) ∧ (0 + u15.fst ≤ u15.fst ∧ True ∧ 2 * (u15.fst + 1) * 4 ≤ (281474976710656 : Nat) ∧ u15.fst + 1 < (9223372036854775808 : Nat)) ∧ u15.snd = u15.snd * 1 ∧ ∀ (u14 : Nat), u15.fst + 1 ≤ u14 → ((-9223372036854775808 : Int) ≤ (u15.fst : Int) + 1 ∧ (u15.fst : Int) + 1 ≤ (9223372036854775807 : Int)) ∧ ∃ (u13 : Nat × Nat), ((u13.fst ≤ 64 ∧ u13.fst ≤ u13.snd) ∧ 64 - u13.fst < 64 - u15.fst) ∧ ((0 : Nat) = (0 : Nat) ∧ u15.fst + 1 = u13.fst ∧ u14 = u13.snd) ∧ True ∧ (u15.fst : Int) + 1 = (u13.fst : Int) ∧ SBle (SB.rows true (u15.fst + 1) [Col.int IntKind.u32 fun (u12 : Nat) => if u12 < u15.fst then wL (bytesN (P2 u17)) 48 u12 else sel [wordB (bytesN (P2 u17)) (u15.fst : Int).toNat] (u12 - u15.fst)] false (u14 * 1) 76) (SB.rows true u13.fst [Col.int IntKind.u32 (wL (bytesN (P2 u17)) 48)] false u13.snd 76) ∧ SBle (P3 u17) (P3 u17) ∧ SBle P0 P0 ∧ True) ∧ (decide ((u15.fst : Int) < 16) = false → ((-9223372036854775808 : Int) ≤ (u15.fst : Int) - 15 ∧ (u15.fst : Int) - 15 ≤ (9223372036854775807 : Int)) ∧ (0 ≤ (u15.fst : Int) - 15 ∧
 (u15.fst : Int) - 15 < (u15.fst : Int)) ∧ 0 + ((u15.fst : Int) - 15).toNat < u15.fst ∧ ((-9223372036854775808 : Int) ≤ (u15.fst : Int) - 2 ∧ (u15.fst : Int) - 2 ≤ (9223372036854775807 : Int)) ∧ (0 ≤ (u15.fst : Int) - 2 ∧ (u15.fst : Int) - 2 < (u15.fst : Int)) ∧ 0 + ((u15.fst : Int) - 2).toNat < u15.fst ∧ (0 ≤ wL (bytesN (P2 u17)) 48 (0 + ((u15.fst : Int) - 15).toNat) ∧ wL (bytesN (P2 u17)) 48 (0 + ((u15.fst : Int) - 15).toNat) ≤ 4294967295) ∧ (0 ≤ wL (bytesN (P2 u17)) 48 (0 + ((u15.fst : Int) - 15).toNat) ∧ wL (bytesN (P2 u17)) 48 (0 + ((u15.fst : Int) - 15).toNat) ≤ 4294967295) ∧ (0 ≤ rotr (P8 u17 u15) 7 ∧ rotr (P8 u17 u15) 7 ≤ (4294967295 : Int) ∧ 0 ≤ rotr (P8 u17 u15) 18 ∧ rotr (P8 u17 u15) 18 ≤ (4294967295 : Int)) ∧ (0 ≤ bitsOf BinOp.xor (rotr (P8 u17 u15) 7) (rotr (P8 u17 u15) 18) ∧ bitsOf BinOp.xor (rotr (P8 u17 u15) 7) (rotr (P8 u17 u15) 18) ≤ 4294967295 ∧ 0 ≤ wL (bytesN (P2 u17)) 48 (0 + ((u15.fst : Int) - 15).toNat) / 8 ∧ wL (bytesN (P2 u17)) 48 (0 + ((u15.fst : Int) - 15).toNat) / 8 ≤ (4294967295 : Int)) ∧ (0 ≤ wL (bytesN (P2 u17)) 48 (0 + ((u15.fst : Int) - 2).toNat) ∧ wL (bytesN (P2 u17)) 48 (0 + ((u15.fst : Int) - 2).toNat) ≤ 4294967295) ∧
 (0 ≤ wL (bytesN (P2 u17)) 48 (0 + ((u15.fst : Int) - 2).toNat) ∧ wL (bytesN (P2 u17)) 48 (0 + ((u15.fst : Int) - 2).toNat) ≤ 4294967295) ∧ (0 ≤ rotr (P9 u17 u15) 17 ∧ rotr (P9 u17 u15) 17 ≤ (4294967295 : Int) ∧ 0 ≤ rotr (P9 u17 u15) 19 ∧ rotr (P9 u17 u15) 19 ≤ (4294967295 : Int)) ∧ (0 ≤ bitsOf BinOp.xor (rotr (P9 u17 u15) 17) (rotr (P9 u17 u15) 19) ∧ bitsOf BinOp.xor (rotr (P9 u17 u15) 17) (rotr (P9 u17 u15) 19) ≤ 4294967295 ∧ 0 ≤ wL (bytesN (P2 u17)) 48 (0 + ((u15.fst : Int) - 2).toNat) / 1024 ∧ wL (bytesN (P2 u17)) 48 (0 + ((u15.fst : Int) - 2).toNat) / 1024 ≤ (4294967295 : Int)) ∧ ((-9223372036854775808 : Int) ≤ (u15.fst : Int) - 16 ∧ (u15.fst : Int) - 16 ≤ (9223372036854775807 : Int)) ∧ (0 ≤ (u15.fst : Int) - 16 ∧ (u15.fst : Int) - 16 < (u15.fst : Int)) ∧ 0 + ((u15.fst : Int) - 16).toNat < u15.fst ∧ ((-9223372036854775808 : Int) ≤ (u15.fst : Int) - 7 ∧ (u15.fst : Int) - 7 ≤ (9223372036854775807 : Int)) ∧ (0 ≤ (u15.fst : Int) - 7 ∧ (u15.fst : Int) - 7 < (u15.fst : Int)) ∧ 0 + ((u15.fst : Int) - 7).toNat < u15.fst ∧ (0 + u15.fst ≤ u15.fst ∧ True ∧ 2 * (u15.fst + 1) * 4 ≤ (281474976710656 : Nat) ∧ u15.fst + 1 < (9223372036854775808 : Nat)) ∧ u15.snd = u15.snd * 1 ∧
 ∀ (u11 : Nat), u15.fst + 1 ≤ u11 → ((-9223372036854775808 : Int) ≤ (u15.fst : Int) + 1 ∧ (u15.fst : Int) + 1 ≤ (9223372036854775807 : Int)) ∧ ∃ (u10 : Nat × Nat), ((u10.fst ≤ 64 ∧ u10.fst ≤ u10.snd) ∧ 64 - u10.fst < 64 - u15.fst) ∧ ((0 : Nat) = (0 : Nat) ∧ u15.fst + 1 = u10.fst ∧ u11 = u10.snd) ∧ True ∧ (u15.fst : Int) + 1 = (u10.fst : Int) ∧ SBle (SB.rows true (u15.fst + 1) [Col.int IntKind.u32 fun (u9 : Nat) => if u9 < u15.fst then wL (bytesN (P2 u17)) 48 u9 else sel [(((wL (bytesN (P2 u17)) 48 (0 + ((u15.fst : Int) - 16).toNat) + bitsOf BinOp.xor (bitsOf BinOp.xor (rotr (P8 u17 u15) 7) (rotr (P8 u17 u15) 18)) (wL (bytesN (P2 u17)) 48 (0 + ((u15.fst : Int) - 15).toNat) / 8)) % 4294967296 + wL (bytesN (P2 u17)) 48 (0 + ((u15.fst : Int) - 7).toNat)) % 4294967296 + bitsOf BinOp.xor (bitsOf BinOp.xor (rotr (P9 u17 u15) 17) (rotr (P9 u17 u15) 19)) (wL (bytesN (P2 u17)) 48 (0 + ((u15.fst : Int) - 2).toNat) / 1024)) % 4294967296] (u9 - u15.fst)] false (u11 * 1) 76) (SB.rows true u10.fst [Col.int IntKind.u32 (wL (bytesN (P2 u17)) 48)] false u10.snd 76) ∧ SBle (P3 u17) (P3 u17) ∧ SBle P0 P0 ∧ True)) ∧ (decide ((u15.fst : Int) < 64) = false → ∀ (u8 : Nat), 8 ≤ u8 →
 (∃ (u7 : Nat × Nat), u7.fst ≤ 64 ∧ ((0 : Nat) = (0 : Nat) ∧ (8 : Nat) = (8 : Nat) ∧ u8 = u7.snd) ∧ 0 = (u7.fst : Int) ∧ SBle (SB.cells [R2 0 u17, R2 1 u17, R2 2 u17, R2 3 u17, R2 4 u17, R2 5 u17, R2 6 u17, R2 7 u17] (u8 * 1) 76) (SB.cells [R3 0 u17 u7, R3 1 u17 u7, R3 2 u17 u7, R3 3 u17 u7, R3 4 u17 u7, R3 5 u17 u7, R3 6 u17 u7, R3 7 u17 u7] u7.snd 76) ∧ SBle P10 P10 ∧ SBle (P5 u15 u17) (P5 u15 u17) ∧ SBle (P3 u17) (P3 u17) ∧ SBle P0 P0 ∧ True) ∧ ∀ (u6 : Nat × Nat), u6.fst ≤ 64 → (decide ((u6.fst : Int) < 64) = true → ((0 ≤ vAt (P1 u17) (bytesN (P2 u17)) u6.fst 4 ∧ vAt (P1 u17) (bytesN (P2 u17)) u6.fst 4 ≤ 4294967295 ∧ 0 ≤ vAt (P1 u17) (bytesN (P2 u17)) u6.fst 5 ∧ vAt (P1 u17) (bytesN (P2 u17)) u6.fst 5 ≤ 4294967295) ∧ ((0 : Int) ≤ (4294967295 : Int) ∧ (4294967295 : Int) ≤ (4294967295 : Int) ∧ 0 ≤ vAt (P1 u17) (bytesN (P2 u17)) u6.fst 4 ∧ vAt (P1 u17) (bytesN (P2 u17)) u6.fst 4 ≤ 4294967295) ∧ (0 ≤ bitsOf BinOp.xor 4294967295 (P7 u17 u6) ∧ bitsOf BinOp.xor 4294967295 (P7 u17 u6) ≤ 4294967295 ∧ 0 ≤ vAt (P1 u17) (bytesN (P2 u17)) u6.fst 6 ∧ vAt (P1 u17) (bytesN (P2 u17)) u6.fst 6 ≤ 4294967295) ∧ (0 ≤ bitsOf BinOp.and (P7 u17 u6) (vAt (P1 u17) (bytesN (P2 u17)) u6.fst 5) ∧
 bitsOf BinOp.and (P7 u17 u6) (vAt (P1 u17) (bytesN (P2 u17)) u6.fst 5) ≤ 4294967295 ∧ 0 ≤ bitsOf BinOp.and (bitsOf BinOp.xor 4294967295 (P7 u17 u6)) (vAt (P1 u17) (bytesN (P2 u17)) u6.fst 6) ∧ bitsOf BinOp.and (bitsOf BinOp.xor 4294967295 (P7 u17 u6)) (vAt (P1 u17) (bytesN (P2 u17)) u6.fst 6) ≤ 4294967295) ∧ (0 ≤ (u6.fst : Int) ∧ (u6.fst : Int) < 64) ∧ (u6.fst : Int).toNat < 64 ∧ (0 ≤ (u6.fst : Int) ∧ (u6.fst : Int) < (u15.fst : Int)) ∧ 0 + (u6.fst : Int).toNat < u15.fst ∧ (0 ≤ vAt (P1 u17) (bytesN (P2 u17)) u6.fst 4 ∧ vAt (P1 u17) (bytesN (P2 u17)) u6.fst 4 ≤ 4294967295) ∧ some (P5 u15 u17) = some (P5 u15 u17) ∧ some P0 = some P0 ∧ some (P4 u17 u6) = some (P4 u17 u6) ∧ (0 ≤ vAt (P1 u17) (bytesN (P2 u17)) u6.fst 4 ∧ vAt (P1 u17) (bytesN (P2 u17)) u6.fst 4 ≤ 4294967295) ∧ some (P5 u15 u17) = some (P5 u15 u17) ∧ some P0 = some P0 ∧ some (P4 u17 u6) = some (P4 u17 u6) ∧ (0 ≤ rotr (P7 u17 u6) 6 ∧ rotr (P7 u17 u6) 6 ≤ (4294967295 : Int) ∧ 0 ≤ rotr (P7 u17 u6) 11 ∧ rotr (P7 u17 u6) 11 ≤ (4294967295 : Int)) ∧ (0 ≤ vAt (P1 u17) (bytesN (P2 u17)) u6.fst 4 ∧ vAt (P1 u17) (bytesN (P2 u17)) u6.fst 4 ≤ 4294967295) ∧ some (P5 u15 u17) = some (P5 u15 u17) ∧ some P0 = some P0 ∧
 some (P4 u17 u6) = some (P4 u17 u6) ∧ (0 ≤ bitsOf BinOp.xor (rotr (P7 u17 u6) 6) (rotr (P7 u17 u6) 11) ∧ bitsOf BinOp.xor (rotr (P7 u17 u6) 6) (rotr (P7 u17 u6) 11) ≤ 4294967295 ∧ 0 ≤ rotr (P7 u17 u6) 25 ∧ rotr (P7 u17 u6) 25 ≤ (4294967295 : Int)) ∧ ∃ (u5 : Nat), some (SV.int .i64 false (u6.fst : Int)) = some (SV.int .i64 false (u5 : Int)) ∧
 ((((vAt (P1 u17) (bytesN (P2 u17)) u6.fst 7 + bitsOf BinOp.xor (bitsOf BinOp.xor (rotr (P7 u17 u6) 6) (rotr (P7 u17 u6) 11)) (rotr (P7 u17 u6) 25)) % 4294967296 + bitsOf BinOp.xor (bitsOf BinOp.and (P7 u17 u6) (vAt (P1 u17) (bytesN (P2 u17)) u6.fst 5)) (bitsOf BinOp.and (bitsOf BinOp.xor 4294967295 (P7 u17 u6)) (vAt (P1 u17) (bytesN (P2 u17)) u6.fst 6))) % 4294967296 + sel [(1116352408 : Int), (1899447441 : Int), (3049323471 : Int), (3921009573 : Int), (961987163 : Int), (1508970993 : Int), (2453635748 : Int), (2870763221 : Int), (3624381080 : Int), (310598401 : Int), (607225278 : Int), (1426881987 : Int), (1925078388 : Int), (2162078206 : Int), (2614888103 : Int), (3248222580 : Int), (3835390401 : Int), (4022224774 : Int), (264347078 : Int), (604807628 : Int), (770255983 : Int), (1249150122 : Int), (1555081692 : Int), (1996064986 : Int), (2554220882 : Int), (2821834349 : Int), (2952996808 : Int), (3210313671 : Int), (3336571891 : Int), (3584528711 : Int), (113926993 : Int), (338241895 : Int), (666307205 : Int), (773529912 : Int), (1294757372 : Int), (1396182291 : Int), (1695183700 : Int), (1986661051 : Int), (2177026350 : Int), (2456956037 : Int), (2730485921 : Int), (2820302411 : Int), (3259730800 : Int), (3345764771 : Int), (3516065817 : Int), (3600352804 : Int), (4094571909 : Int), (275423344 : Int), (430227734 : Int), (506948616 : Int), (659060556 : Int), (883997877 : Int), (958139571 : Int), (1322822218 : Int), (1537002063 : Int), (1747873779 : Int), (1955562222 : Int), (2024104815 : Int), (2227730452 : Int), (2361852424 : Int), (2428436474 : Int), (2756734187 : Int), (3204031479 : Int), (3329325298 : Int)] (u6.fst : Int).toNat) % 4294967296 + wL (bytesN (P2 u17)) 48 (0 + (u6.fst : Int).toNat)) % 4294967296 = t1F (vAt (P1 u17) (bytesN (P2 u17)) u5) (cube u5) (wL (bytesN (P2 u17)) 48 u5) ∧
 SBle (P4 u17 u6) (P4 u17 u6) ∧ SBle P10 P10 ∧ SBle (P5 u15 u17) (P5 u15 u17) ∧ SBle (P3 u17) (P3 u17) ∧ SBle P0 P0 ∧ True) ∧ ∀ (u4 : Nat), some (SV.int .i64 false (u6.fst : Int)) = some (SV.int .i64 false (u4 : Int)) → ((0 ≤ vAt (P1 u17) (bytesN (P2 u17)) u6.fst 0 ∧ vAt (P1 u17) (bytesN (P2 u17)) u6.fst 0 ≤ 4294967295) ∧ (0 ≤ vAt (P1 u17) (bytesN (P2 u17)) u6.fst 0 ∧ vAt (P1 u17) (bytesN (P2 u17)) u6.fst 0 ≤ 4294967295) ∧ (0 ≤ rotr (P6 u17 u6) 2 ∧ rotr (P6 u17 u6) 2 ≤ (4294967295 : Int) ∧ 0 ≤ rotr (P6 u17 u6) 13 ∧ rotr (P6 u17 u6) 13 ≤ (4294967295 : Int)) ∧ (0 ≤ vAt (P1 u17) (bytesN (P2 u17)) u6.fst 0 ∧ vAt (P1 u17) (bytesN (P2 u17)) u6.fst 0 ≤ 4294967295) ∧ (0 ≤ bitsOf BinOp.xor (rotr (P6 u17 u6) 2) (rotr (P6 u17 u6) 13) ∧ bitsOf BinOp.xor (rotr (P6 u17 u6) 2) (rotr (P6 u17 u6) 13) ≤ 4294967295 ∧ 0 ≤ rotr (P6 u17 u6) 22 ∧ rotr (P6 u17 u6) 22 ≤ (4294967295 : Int)) ∧ (0 ≤ vAt (P1 u17) (bytesN (P2 u17)) u6.fst 0 ∧ vAt (P1 u17) (bytesN (P2 u17)) u6.fst 0 ≤ 4294967295 ∧ 0 ≤ vAt (P1 u17) (bytesN (P2 u17)) u6.fst 1 ∧ vAt (P1 u17) (bytesN (P2 u17)) u6.fst 1 ≤ 4294967295) ∧ (0 ≤ vAt (P1 u17) (bytesN (P2 u17)) u6.fst 0 ∧ vAt (P1 u17) (bytesN (P2 u17)) u6.fst 0 ≤ 4294967295 ∧
 0 ≤ vAt (P1 u17) (bytesN (P2 u17)) u6.fst 2 ∧ vAt (P1 u17) (bytesN (P2 u17)) u6.fst 2 ≤ 4294967295) ∧ (0 ≤ bitsOf BinOp.and (P6 u17 u6) (P11 u17 u6) ∧ bitsOf BinOp.and (P6 u17 u6) (P11 u17 u6) ≤ 4294967295 ∧ 0 ≤ bitsOf BinOp.and (P6 u17 u6) (P12 u17 u6) ∧ bitsOf BinOp.and (P6 u17 u6) (P12 u17 u6) ≤ 4294967295) ∧ (0 ≤ vAt (P1 u17) (bytesN (P2 u17)) u6.fst 1 ∧ vAt (P1 u17) (bytesN (P2 u17)) u6.fst 1 ≤ 4294967295 ∧ 0 ≤ vAt (P1 u17) (bytesN (P2 u17)) u6.fst 2 ∧ vAt (P1 u17) (bytesN (P2 u17)) u6.fst 2 ≤ 4294967295) ∧ (0 ≤ bitsOf BinOp.xor (bitsOf BinOp.and (P6 u17 u6) (P11 u17 u6)) (bitsOf BinOp.and (P6 u17 u6) (P12 u17 u6)) ∧ bitsOf BinOp.xor (bitsOf BinOp.and (P6 u17 u6) (P11 u17 u6)) (bitsOf BinOp.and (P6 u17 u6) (P12 u17 u6)) ≤ 4294967295 ∧ 0 ≤ bitsOf BinOp.and (P11 u17 u6) (P12 u17 u6) ∧ bitsOf BinOp.and (P11 u17 u6) (P12 u17 u6) ≤ 4294967295) ∧ ∃ (u3 : Nat), some (SV.int .i64 false (u6.fst : Int)) = some (SV.int .i64 false (u3 : Int)) ∧
 (bitsOf BinOp.xor (bitsOf BinOp.xor (rotr (P6 u17 u6) 2) (rotr (P6 u17 u6) 13)) (rotr (P6 u17 u6) 22) + bitsOf BinOp.xor (bitsOf BinOp.xor (bitsOf BinOp.and (P6 u17 u6) (P11 u17 u6)) (bitsOf BinOp.and (P6 u17 u6) (P12 u17 u6))) (bitsOf BinOp.and (P11 u17 u6) (P12 u17 u6))) % 4294967296 = t2F (vAt (P1 u17) (bytesN (P2 u17)) u3) ∧ SBle (P4 u17 u6) (P4 u17 u6) ∧ SBle P10 P10 ∧ SBle (P5 u15 u17) (P5 u15 u17) ∧ SBle (P3 u17) (P3 u17) ∧ SBle P0 P0 ∧ True) ∧ ∀ (u2 : Nat), some (SV.int .i64 false (u6.fst : Int)) = some (SV.int .i64 false (u2 : Int)) → ((-9223372036854775808 : Int) ≤ (u6.fst : Int) + 1 ∧ (u6.fst : Int) + 1 ≤ (9223372036854775807 : Int)) ∧ ∃ (u1 : Nat × Nat), (u1.fst ≤ 64 ∧ 64 - u1.fst < 64 - u6.fst) ∧ ((0 : Nat) = (0 : Nat) ∧ (8 : Nat) = (8 : Nat) ∧ 8 = u1.snd) ∧ (u6.fst : Int) + 1 = (u1.fst : Int) ∧
 SBle (SB.cells [SV.int .u32 false ((t1F (vAt (P1 u17) (bytesN (P2 u17)) u4) (cube u4) (wL (bytesN (P2 u17)) 48 u4) + t2F (vAt (P1 u17) (bytesN (P2 u17)) u2)) % 4294967296), SV.int .u32 false (P6 u17 u6), SV.int .u32 false (P11 u17 u6), SV.int .u32 false (P12 u17 u6), SV.int .u32 false ((vAt (P1 u17) (bytesN (P2 u17)) u6.fst 3 + t1F (vAt (P1 u17) (bytesN (P2 u17)) u4) (cube u4) (wL (bytesN (P2 u17)) 48 u4)) % 4294967296), SV.int .u32 false (P7 u17 u6), SV.int .u32 false (vAt (P1 u17) (bytesN (P2 u17)) u6.fst 5), SV.int .u32 false (vAt (P1 u17) (bytesN (P2 u17)) u6.fst 6)] 8 76) (SB.cells [R5 0 u17 u1, R5 1 u17 u1, R5 2 u17 u1, R5 3 u17 u1, R5 4 u17 u1, R5 5 u17 u1, R5 6 u17 u1, R5 7 u17 u1] u1.snd 76) ∧ SBle P10 P10 ∧ SBle (P5 u15 u17) (P5 u15 u17) ∧ SBle (P3 u17) (P3 u17) ∧ SBle P0 P0 ∧ True) ∧ (decide ((u6.fst : Int) < 64) = false → ((-9223372036854775808 : Int) ≤ 64 * (u17.fst : Int) + 64 ∧ 64 * (u17.fst : Int) + 64 ≤ (9223372036854775807 : Int)) ∧ ∃ (u0 : Nat × Nat), (u0.fst ≤ (padT T).length / 64 ∧ (padT T).length / 64 - u0.fst < (padT T).length / 64 - u17.fst) ∧ ((0 : Nat) = (0 : Nat) ∧ (8 : Nat) = (8 : Nat) ∧ u6.snd = u0.snd) ∧
 64 * (u17.fst : Int) + 64 = 64 * (u0.fst : Int) ∧ SBle (SB.cells [R6 0 u17 u6, R6 1 u17 u6, R6 2 u17 u6, R6 3 u17 u6, R6 4 u17 u6, R6 5 u17 u6, R6 6 u17 u6, R6 7 u17 u6] u6.snd 76) (SB.cells [R7 0 u0, R7 1 u0, R7 2 u0, R7 3 u0, R7 4 u0, R7 5 u0, R7 6 u0, R7 7 u0] u0.snd 76) ∧ SBle P0 P0 ∧ True))) ∧ (decide (64 * (u17.fst : Int) < (↑(padT T).length : Int)) = false → 0 + (↑(4 : Nat) : Int) ≤ 9223372036854775807 ∧ (↑(4 : Nat) : Int) + (↑(4 : Nat) : Int) ≤ 9223372036854775807 ∧ (↑(8 : Nat) : Int) + (↑(4 : Nat) : Int) ≤ 9223372036854775807 ∧ (↑(12 : Nat) : Int) + (↑(4 : Nat) : Int) ≤ 9223372036854775807 ∧ (↑(16 : Nat) : Int) + (↑(4 : Nat) : Int) ≤ 9223372036854775807 ∧ (↑(20 : Nat) : Int) + (↑(4 : Nat) : Int) ≤ 9223372036854775807 ∧ (↑(24 : Nat) : Int) + (↑(4 : Nat) : Int) ≤ 9223372036854775807 ∧ (↑(28 : Nat) : Int) + (↑(4 : Nat) : Int) ≤ 9223372036854775807 ∧
 R (SV.str false (cat (cat (cat (cat (cat (cat (cat (cat [] [UInt8.ofNat (wordsAt (padT T) u17.fst 0 / 16777216 % (256 : Int)).toNat, UInt8.ofNat (wordsAt (padT T) u17.fst 0 / 65536 % (256 : Int)).toNat, UInt8.ofNat (wordsAt (padT T) u17.fst 0 / 256 % (256 : Int)).toNat, UInt8.ofNat (wordsAt (padT T) u17.fst 0 % 256).toNat]) [UInt8.ofNat (wordsAt (padT T) u17.fst 1 / 16777216 % (256 : Int)).toNat, UInt8.ofNat (wordsAt (padT T) u17.fst 1 / 65536 % (256 : Int)).toNat, UInt8.ofNat (wordsAt (padT T) u17.fst 1 / 256 % (256 : Int)).toNat, UInt8.ofNat (wordsAt (padT T) u17.fst 1 % 256).toNat]) [UInt8.ofNat (wordsAt (padT T) u17.fst 2 / 16777216 % (256 : Int)).toNat, UInt8.ofNat (wordsAt (padT T) u17.fst 2 / 65536 % (256 : Int)).toNat, UInt8.ofNat (wordsAt (padT T) u17.fst 2 / 256 % (256 : Int)).toNat, UInt8.ofNat (wordsAt (padT T) u17.fst 2 % 256).toNat]) [UInt8.ofNat (wordsAt (padT T) u17.fst 3 / 16777216 % (256 : Int)).toNat, UInt8.ofNat (wordsAt (padT T) u17.fst 3 / 65536 % (256 : Int)).toNat, UInt8.ofNat (wordsAt (padT T) u17.fst 3 / 256 % (256 : Int)).toNat, UInt8.ofNat (wordsAt (padT T) u17.fst 3 % 256).toNat]) [UInt8.ofNat (wordsAt (padT T) u17.fst 4 / 16777216 % (256 : Int)).toNat, UInt8.ofNat (wordsAt (padT T) u17.fst 4 / 65536 % (256 : Int)).toNat, UInt8.ofNat (wordsAt (padT T) u17.fst 4 / 256 % (256 : Int)).toNat, UInt8.ofNat (wordsAt (padT T) u17.fst 4 % 256).toNat]) [UInt8.ofNat (wordsAt (padT T) u17.fst 5 / 16777216 % (256 : Int)).toNat, UInt8.ofNat (wordsAt (padT T) u17.fst 5 / 65536 % (256 : Int)).toNat, UInt8.ofNat (wordsAt (padT T) u17.fst 5 / 256 % (256 : Int)).toNat, UInt8.ofNat (wordsAt (padT T) u17.fst 5 % 256).toNat]) [UInt8.ofNat (wordsAt (padT T) u17.fst 6 / 16777216 % (256 : Int)).toNat, UInt8.ofNat (wordsAt (padT T) u17.fst 6 / 65536 % (256 : Int)).toNat, UInt8.ofNat (wordsAt (padT T) u17.fst 6 / 256 % (256 : Int)).toNat, UInt8.ofNat (wordsAt (padT T) u17.fst 6 % 256).toNat]) [UInt8.ofNat (wordsAt (padT T) u17.fst 7 / 16777216 % (256 : Int)).toNat, UInt8.ofNat (wordsAt (padT T) u17.fst 7 / 65536 % (256 : Int)).toNat, UInt8.ofNat (wordsAt (padT T) u17.fst 7 / 256 % (256 : Int)).toNat, UInt8.ofNat (wordsAt (padT T) u17.fst 7 % 256).toNat])))))) (fun (u17 : Nat × Nat) (u6 : Nat × Nat) => (vAt (P1 u17) (bytesN (P2 u17)) u6.fst 2)))) (fun (u17 : Nat × Nat) (u6 : Nat × Nat) => (vAt (P1 u17) (bytesN (P2 u17)) u6.fst 1)))) (SB.cells (times 0 (SV.int .u32 true 0).cells) 0 76))) (fun (u17 : Nat × Nat) (u15 : Nat × Nat) => (wL (bytesN (P2 u17)) 48 (0 + ((u15.fst : Int) - 2).toNat))))) (fun (u17 : Nat × Nat) (u15 : Nat × Nat) => (wL (bytesN (P2 u17)) 48 (0 + ((u15.fst : Int) - 15).toNat))))) (fun (u17 : Nat × Nat) (u6 : Nat × Nat) => (vAt (P1 u17) (bytesN (P2 u17)) u6.fst 4)))) (fun (u17 : Nat × Nat) (u6 : Nat × Nat) => (vAt (P1 u17) (bytesN (P2 u17)) u6.fst 0)))) (fun (u15 : Nat × Nat) (u17 : Nat × Nat) => (SB.rows true u15.fst [Col.int IntKind.u32 (wL (bytesN (P2 u17)) 48)] false u15.snd 76)))) (fun (u17 : Nat × Nat) (u6 : Nat × Nat) => (SB.cells [R4 0 u17 u6, R4 1 u17 u6, R4 2 u17 u6, R4 3 u17 u6, R4 4 u17 u6, R4 5 u17 u6, R4 6 u17 u6, R4 7 u17 u6] u6.snd 76)))) (fun (u17 : Nat × Nat) => (SB.cells [R2 0 u17, R2 1 u17, R2 2 u17, R2 3 u17, R2 4 u17, R2 5 u17, R2 6 u17, R2 7 u17] u17.snd 76)))) (fun (u17 : Nat × Nat) => (subStr (padT T) (some (Operand.tmp 24)) (some (Operand.tmp 26)) (64 * (u17.fst : Int)) (64 * (u17.fst : Int) + 64))))) (fun (u17 : Nat × Nat) => (w8 (wordsAt (padT T) u17.fst 0) (wordsAt (padT T) u17.fst 1) (wordsAt (padT T) u17.fst 2) (wordsAt (padT T) u17.fst 3) (wordsAt (padT T) u17.fst 4) (wordsAt (padT T) u17.fst 5) (wordsAt (padT T) u17.fst 6) (wordsAt (padT T) u17.fst 7))))) (SB.cells (setRange (setRange (setRange (setRange (setRange (setRange (setRange (setRange (setRange (setRange (setRange (setRange (setRange (setRange (setRange (setRange (setRange (setRange (setRange (setRange (setRange (setRange (setRange (setRange (setRange (setRange (setRange (setRange (setRange (setRange (setRange (setRange (setRange (setRange (setRange (setRange (setRange (setRange (setRange (setRange (setRange (setRange (setRange (setRange (setRange (setRange (setRange (setRange (setRange (setRange (setRange (setRange (setRange (setRange (setRange (setRange (setRange (setRange (setRange (setRange (setRange (setRange (setRange (setRange (times 64 (SV.int .u32 true 0).cells) 0 (SV.int .u32 true 1116352408).cells) 1 (SV.int .u32 true 1899447441).cells) 2 (SV.int .u32 true 3049323471).cells) 3 (SV.int .u32 true 3921009573).cells) 4 (SV.int .u32 true 961987163).cells) 5 (SV.int .u32 true 1508970993).cells) 6 (SV.int .u32 true 2453635748).cells) 7 (SV.int .u32 true 2870763221).cells) 8 (SV.int .u32 true 3624381080).cells) 9 (SV.int .u32 true 310598401).cells) 10 (SV.int .u32 true 607225278).cells) 11 (SV.int .u32 true 1426881987).cells) 12 (SV.int .u32 true 1925078388).cells) 13 (SV.int .u32 true 2162078206).cells) 14 (SV.int .u32 true 2614888103).cells) 15 (SV.int .u32 true 3248222580).cells) 16 (SV.int .u32 true 3835390401).cells) 17 (SV.int .u32 true 4022224774).cells) 18 (SV.int .u32 true 264347078).cells) 19 (SV.int .u32 true 604807628).cells) 20 (SV.int .u32 true 770255983).cells) 21 (SV.int .u32 true 1249150122).cells) 22 (SV.int .u32 true 1555081692).cells) 23 (SV.int .u32 true 1996064986).cells) 24 (SV.int .u32 true 2554220882).cells) 25 (SV.int .u32 true 2821834349).cells) 26 (SV.int .u32 true 2952996808).cells) 27 (SV.int .u32 true 3210313671).cells) 28 (SV.int .u32 true 3336571891).cells) 29 (SV.int .u32 true 3584528711).cells) 30 (SV.int .u32 true 113926993).cells) 31 (SV.int .u32 true 338241895).cells) 32 (SV.int .u32 true 666307205).cells) 33 (SV.int .u32 true 773529912).cells) 34 (SV.int .u32 true 1294757372).cells) 35 (SV.int .u32 true 1396182291).cells) 36 (SV.int .u32 true 1695183700).cells) 37 (SV.int .u32 true 1986661051).cells) 38 (SV.int .u32 true 2177026350).cells) 39 (SV.int .u32 true 2456956037).cells) 40 (SV.int .u32 true 2730485921).cells) 41 (SV.int .u32 true 2820302411).cells) 42 (SV.int .u32 true 3259730800).cells) 43 (SV.int .u32 true 3345764771).cells) 44 (SV.int .u32 true 3516065817).cells) 45 (SV.int .u32 true 3600352804).cells) 46 (SV.int .u32 true 4094571909).cells) 47 (SV.int .u32 true 275423344).cells) 48 (SV.int .u32 true 430227734).cells) 49 (SV.int .u32 true 506948616).cells) 50 (SV.int .u32 true 659060556).cells) 51 (SV.int .u32 true 883997877).cells) 52 (SV.int .u32 true 958139571).cells) 53 (SV.int .u32 true 1322822218).cells) 54 (SV.int .u32 true 1537002063).cells) 55 (SV.int .u32 true 1747873779).cells) 56 (SV.int .u32 true 1955562222).cells) 57 (SV.int .u32 true 2024104815).cells) 58 (SV.int .u32 true 2227730452).cells) 59 (SV.int .u32 true 2361852424).cells) 60 (SV.int .u32 true 2428436474).cells) 61 (SV.int .u32 true 2756734187).cells) 62 (SV.int .u32 true 3204031479).cells) 63 (SV.int .u32 true 3329325298).cells) 64 76))) (fun (n0 : Nat) (u0 : Nat × Nat) => SV.int .u32 false (wordsAt (padT T) u0.fst n0)))) (fun (n0 : Nat) (u17 : Nat × Nat) (u6 : Nat × Nat) => SV.int .u32 false ((vAt (w8 (wordsAt (padT T) u17.fst 0) (wordsAt (padT T) u17.fst 1) (wordsAt (padT T) u17.fst 2) (wordsAt (padT T) u17.fst 3) (wordsAt (padT T) u17.fst 4) (wordsAt (padT T) u17.fst 5) (wordsAt (padT T) u17.fst 6) (wordsAt (padT T) u17.fst 7)) (bytesN (subStr (padT T) (some (Operand.tmp 24)) (some (Operand.tmp 26)) (64 * (u17.fst : Int)) (64 * (u17.fst : Int) + 64))) u6.fst n0 + wordsAt (padT T) u17.fst n0) % 4294967296)))) (fun (n0 : Nat) (u17 : Nat × Nat) (u1 : Nat × Nat) => SV.int .u32 false (vAt (w8 (wordsAt (padT T) u17.fst 0) (wordsAt (padT T) u17.fst 1) (wordsAt (padT T) u17.fst 2) (wordsAt (padT T) u17.fst 3) (wordsAt (padT T) u17.fst 4) (wordsAt (padT T) u17.fst 5) (wordsAt (padT T) u17.fst 6) (wordsAt (padT T) u17.fst 7)) (bytesN (subStr (padT T) (some (Operand.tmp 24)) (some (Operand.tmp 26)) (64 * (u17.fst : Int)) (64 * (u17.fst : Int) + 64))) u1.fst n0)))) (fun (n0 : Nat) (u17 : Nat × Nat) (u6 : Nat × Nat) => SV.int .u32 false (vAt (w8 (wordsAt (padT T) u17.fst 0) (wordsAt (padT T) u17.fst 1) (wordsAt (padT T) u17.fst 2) (wordsAt (padT T) u17.fst 3) (wordsAt (padT T) u17.fst 4) (wordsAt (padT T) u17.fst 5) (wordsAt (padT T) u17.fst 6) (wordsAt (padT T) u17.fst 7)) (bytesN (subStr (padT T) (some (Operand.tmp 24)) (some (Operand.tmp 26)) (64 * (u17.fst : Int)) (64 * (u17.fst : Int) + 64))) u6.fst n0)))) (fun (n0 : Nat) (u17 : Nat × Nat) (u7 : Nat × Nat) => SV.int .u32 false (vAt (w8 (wordsAt (padT T) u17.fst 0) (wordsAt (padT T) u17.fst 1) (wordsAt (padT T) u17.fst 2) (wordsAt (padT T) u17.fst 3) (wordsAt (padT T) u17.fst 4) (wordsAt (padT T) u17.fst 5) (wordsAt (padT T) u17.fst 6) (wordsAt (padT T) u17.fst 7)) (bytesN (subStr (padT T) (some (Operand.tmp 24)) (some (Operand.tmp 26)) (64 * (u17.fst : Int)) (64 * (u17.fst : Int) + 64))) u7.fst n0)))) (fun (n0 : Nat) (u17 : Nat × Nat) => SV.int .u32 false (wordsAt (padT T) u17.fst n0)))) (fun (n0 : Nat) (u18 : Nat × Nat) => SV.int .u32 false (wordsAt (padT T) u18.fst n0)))) (fun (n0 : Nat)  => SV.int .u32 true n0)) := by kernel_rfl
end Go.Proofs.YtkfdcapnogklfaaGreatDoor
/-
  The reference's hashes: a text's hash: the contract.
-/
namespace Go.Proofs.YtkfdcapnogklfaaGreatDoor
open Go Sx
set_option maxRecDepth 20000
theorem words_u (T : List UInt8) (q j : Nat) (hj : j < 8) : U (wordsAt T q j) := by
  cases q with
  | zero =>
    have key : ∀ j, j < 8 → 0 ≤ hash0 j ∧ hash0 j ≤ 4294967295 := by decide
    exact key j hj
  | succ q => exact um _
theorem cells8_le {l l' : Bool} {f g : Nat → Int} {tot tot' : Nat} {ty : TypeId} (ht : tot = tot') (h : ∀ j, j < 8 → f j = g j) : SBle (.cells [.int .u32 l (f 0), .int .u32 l (f 1), .int .u32 l (f 2), .int .u32 l (f 3), .int .u32 l (f 4), .int .u32 l (f 5), .int .u32 l (f 6), .int .u32 l (f 7)] tot ty)
    (.cells [.int .u32 l' (g 0), .int .u32 l' (g 1), .int .u32 l' (g 2), .int .u32 l' (g 3), .int .u32 l' (g 4), .int .u32 l' (g 5), .int .u32 l' (g 6), .int .u32 l' (g 7)] tot' ty) := by
  subst ht
  rw [h 0 (by decide), h 1 (by decide), h 2 (by decide), h 3 (by decide), h 4 (by decide), h 5 (by decide), h 6 (by decide), h 7 (by decide)]
  exact Sx.SBle.cells (fun E => rfl) rfl
theorem rows32 {z : Bool} {n : Nat} {f g : Nat → Int} {tot tot' : Nat} {ty : TypeId} (ht : tot = tot') (h : ∀ i, i < n → f i = g i) : SBle (.rows z n [.int .u32 f] false tot ty) (.rows z n [.int .u32 g] false tot' ty) := by
  subst ht
  exact Sx.SBle.intRows h
theorem of3_holds {T : List UInt8} (hT : T.length < 1152921504606846976) : Holds (runP (cfgOf3 T) 37 Tryz.f37 [.str false T] (fun v => sameVal v (.str false (shaL T)))) := by
  refine Holds.of_eq (vcOf3 T _) ?_
  dsimp only
  have hl := padT_len T
  have hb : (padT T).length < T.length + 100 := by
    have := tailL_len T
    unfold padT; rw [List.length_append]; omega
  refine ⟨hT, ⟨(0, 8), Nat.zero_le _, ⟨rfl, rfl, rfl⟩, rfl, Sx.SBle.cells (fun E => rfl) rfl, SBle.refl _, trivial⟩, fun x hx => ⟨fun a => ?_, fun a => ?_⟩⟩
  · have a := of_decide_eq_true a
    have hq : 64 * x.1 + 64 ≤ (padT T).length := by omega
    have sl : (subStr (padT T) (some (Operand.tmp 24)) (some (Operand.tmp 26)) ((64 : Int) * (↑x.1 : Int)) ((64 : Int) * (↑x.1 : Int) + (64 : Int))).length = 64 := by
      simp only [subStr, List.length_take, List.length_drop]; omega
    have sb : ∀ j, j < 64 → bytesN (subStr (padT T) (some (Operand.tmp 24)) (some (Operand.tmp 26)) ((64 : Int) * (↑x.1 : Int)) ((64 : Int) * (↑x.1 : Int) + (64 : Int))) j = blkAt (padT T) x.1 j := fun j hj => by
      unfold bytesN byteAt
      rw [Int.toNat_natCast, blkAt_eq]
      simp only [subStr]
      rw [getD_take (by omega), List.getD_eq_getElem?_getD, List.getD_eq_getElem?_getD, List.getElem?_drop]
      rw [show (64 * (x.1 : Int)).toNat + j = 64 * x.1 + j by omega]
    generalize subStr (padT T) (some (Operand.tmp 24)) (some (Operand.tmp 26)) ((64 : Int) * (↑x.1 : Int)) ((64 : Int) * (↑x.1 : Int) + (64 : Int)) = S at sl sb ⊢
    have hW : ∀ j, j < 8 → w8 (wordsAt (padT T) x.1 0) (wordsAt (padT T) x.1 1) (wordsAt (padT T) x.1 2) (wordsAt (padT T) x.1 3) (wordsAt (padT T) x.1 4) (wordsAt (padT T) x.1 5) (wordsAt (padT T) x.1 6) (wordsAt (padT T) x.1 7) j = wordsAt (padT T) x.1 j := fun j hj => by
      have : j = 0 ∨ j = 1 ∨ j = 2 ∨ j = 3 ∨ j = 4 ∨ j = 5 ∨ j = 6 ∨ j = 7 := by omega
      rcases this with rfl | rfl | rfl | rfl | rfl | rfl | rfl | rfl <;> rfl
    generalize w8 (wordsAt (padT T) x.1 0) (wordsAt (padT T) x.1 1) (wordsAt (padT T) x.1 2) (wordsAt (padT T) x.1 3) (wordsAt (padT T) x.1 4) (wordsAt (padT T) x.1 5) (wordsAt (padT T) x.1 6) (wordsAt (padT T) x.1 7) = W at hW ⊢
    have hU : ∀ j, j < 64 → U (bytesN S j) := fun j _ => byte_u S _
    have hWu : ∀ j, j < 8 → U (W j) := fun j hj => by rw [hW j hj]; exact words_u _ _ _ hj
    generalize bytesN S = B at sb hU ⊢
    refine ⟨by omega, by omega, ⟨(0, 0), ⟨by decide, by decide⟩, rfl, rfl, rfl, SBle.refl _, SBle.refl _, trivial⟩, fun g hg => ⟨fun b => ⟨fun c => ?_, fun c => ?_⟩, fun b => ?_⟩⟩
    · have c := of_decide_eq_true c
      have hg2 := hg.2
      refine ⟨⟨by omega, by omega, by rw [sl]; omega⟩, ⟨by omega, trivial, by omega, by omega⟩, by omega, fun cap hcap => ⟨by omega, (g.1 + 1, cap), ⟨⟨by show g.1 + 1 ≤ 64; omega, hcap⟩, by show 64 - (g.1 + 1) < _; omega⟩, ⟨rfl, rfl, rfl⟩, trivial, by show (g.1 : Int) + 1 = ((g.1 + 1 : Nat) : Int); omega, rows32 (Nat.mul_one cap) fun j hj => ?_, SBle.refl _, SBle.refl _, trivial⟩⟩
      by_cases h : j < g.1
      · rw [if_pos h]
      · have ej : j = g.1 := by omega
        subst ej
        rw [if_neg h, Nat.sub_self, Int.toNat_natCast, wL_first B (by omega)]; rfl
    · have b := of_decide_eq_true b
      have c := of_decide_eq_false c
      have e15 : 0 + ((g.1 : Int) - 15).toNat = g.1 - 15 := by omega
      have e2 : 0 + ((g.1 : Int) - 2).toNat = g.1 - 2 := by omega
      have e7 : 0 + ((g.1 : Int) - 7).toNat = g.1 - 7 := by omega
      have e16 : 0 + ((g.1 : Int) - 16).toNat = g.1 - 16 := by omega
      have u := wL_u hU 48
      refine ⟨by omega, by omega, by omega, by omega, by omega, by omega, u _, u _, u2 (urot (u _) _) (urot (u _) _), u2 (uxor (urot (u _) _) (urot (u _) _)) (ud (u _) 8 (by decide)), u _, u _, u2 (urot (u _) _) (urot (u _) _), u2 (uxor (urot (u _) _) (urot (u _) _)) (ud (u _) 1024 (by decide)),
        by omega, by omega, by omega, by omega, by omega, by omega, ⟨by omega, trivial, by omega, by omega⟩, by omega, fun cap hcap => ⟨by omega, (g.1 + 1, cap), ⟨⟨by show g.1 + 1 ≤ 64; omega, hcap⟩, by show 64 - (g.1 + 1) < _; omega⟩, ⟨rfl, rfl, rfl⟩, trivial, by show (g.1 : Int) + 1 = ((g.1 + 1 : Nat) : Int); omega, rows32 (Nat.mul_one cap) fun j hj => ?_, SBle.refl _, SBle.refl _, trivial⟩⟩
      by_cases h : j < g.1
      · rw [if_pos h]
      · have ej : j = g.1 := by omega
        subst ej
        rw [if_neg h, Nat.sub_self, e15, e2, e7, e16, wL_next B (j := g.1) (by omega) (by omega)]; rfl
    · have b := of_decide_eq_false b
      have hg1 := hg.1
      have eg : g.1 = 64 := by omega
      refine fun cap hcap => ⟨⟨(0, cap), Nat.zero_le _, ⟨rfl, rfl, rfl⟩, rfl, cells8_le (f := wordsAt (padT T) x.1) (g := vAt W B 0) (Nat.mul_one cap) fun j hj => (hW j hj).symm, SBle.refl _, SBle.refl _, SBle.refl _, SBle.refl _, trivial⟩, fun y hy => ⟨fun d => ?_, fun d => ?_⟩⟩
      · have d := of_decide_eq_true d
        have u := vAt_u (B := B) hWu y.1
        have u0 := u 0 (by decide)
        have u1 := u 1 (by decide)
        have u2' := u 2 (by decide)
        have u4 := u 4 (by decide)
        have u5 := u 5 (by decide)
        have u6 := u 6 (by decide)
        have r : ∀ {y : Int} (n : Int), U y → U (rotr y n) := fun n h => urot h n
        refine ⟨⟨u2 u4 u5, u2 uM u4, u2 (uxor uM u4) u6, u2 (uand u4 u5) (uand (uxor uM u4) u6), by omega, by omega, by omega, by omega, u4, rfl, rfl, rfl, u4, rfl, rfl, rfl, u2 (r _ u4) (r _ u4), u4, rfl, rfl, rfl, u2 (uxor (r _ u4) (r _ u4)) (r _ u4), y.1, rfl, ?_, SBle.refl _, SBle.refl _, SBle.refl _, SBle.refl _, SBle.refl _, trivial⟩, fun i1 h1 =>
          ⟨⟨u0, u0, u2 (r _ u0) (r _ u0), u0, u2 (uxor (r _ u0) (r _ u0)) (r _ u0), u2 u0 u1, u2 u0 u2', u2 (uand u0 u1) (uand u0 u2'), u2 u1 u2', u2 (uxor (uand u0 u1) (uand u0 u2')) (uand u1 u2'), y.1, rfl, rfl, SBle.refl _, SBle.refl _, SBle.refl _, SBle.refl _, SBle.refl _, trivial⟩, fun i2 h2 => ⟨by omega, (y.1 + 1, 8), ⟨by show y.1 + 1 ≤ 64; omega, by show 64 - (y.1 + 1) < _; omega⟩, ⟨rfl, rfl, rfl⟩, by show (y.1 : Int) + 1 = ((y.1 + 1 : Nat) : Int); omega, ?_, SBle.refl _, SBle.refl _, SBle.refl _, SBle.refl _, trivial⟩⟩⟩
        · rw [Int.toNat_natCast, Nat.zero_add]; rfl
        · injection h1 with h1; injection h1 with _ _ h1
          injection h2 with h2; injection h2 with _ _ h2
          have e1 : i1 = y.1 := by omega
          have e2 : i2 = y.1 := by omega
          subst e1; subst e2
          exact Sx.SBle.cells (fun E => rfl) rfl
      · have d := of_decide_eq_false d
        have ey : y.1 = 64 := by omega
        refine ⟨by omega, (x.1 + 1, y.2), ⟨by show x.1 + 1 ≤ _; omega, by show _ - (x.1 + 1) < _; omega⟩, ⟨rfl, rfl, rfl⟩, by show 64 * (x.1 : Int) + 64 = 64 * ((x.1 + 1 : Nat) : Int); omega, ?_, SBle.refl _, trivial⟩
        refine cells8_le (f := fun j => (vAt W B y.1 j + wordsAt (padT T) x.1 j) % 4294967296) (g := wordsAt (padT T) (x.1 + 1)) rfl fun j hj => ?_
        rw [ey, vAt_congr hW sb 64 j hj]
        exact mix_comm _ _ _
  · have a := of_decide_eq_false a
    have e : x.1 = (padT T).length / 64 := by omega
    exact ⟨by omega, by omega, by omega, by omega, by omega, by omega, by omega, by omega, str_same (by rw [e]; rfl)⟩
theorem of3_ok : CallOk Tryz.prog 37 (purePT of3Spec) := by
  refine pure_of_ans (ans_ok (n := 20) (fn := Tryz.f37) Tryz.func37 (by kernel_rfl) (by kernel_rfl) ?_)
  intro args p a h hp
  unfold of3Spec at h
  split at h
  · injection h with h; injection h with h1 h2; subst h1; subst h2
    exact ⟨_, goodOf3 _, rfl, rfl, of3_holds hp⟩
  · cases h
end Go.Proofs.YtkfdcapnogklfaaGreatDoor
