/-
  The reference's nibbles: the set-up.
-/
import Derived.Test.YtkfdcapnogklfaaGreatDoorPa
import Derived.Test.YtkfdcapnogklfaaGreatDoorRb
import Derived.Test.YtkfdcapnogklfaaGreatDoorOd
namespace Go.Proofs.YtkfdcapnogklfaaGreatDoor
open Go Sx
set_option maxRecDepth 20000
def keyAt (p : List UInt8) (j : Nat) : Int := (byteAt p (2 * (j : Int)) * 16 % 256 + byteAt p (2 * (j : Int) + 1)) % 256
def keyL (p : List UInt8) : List UInt8 := bytesFrom (keyAt p) 0 (p.length / 2)
noncomputable def cfgAV (p : List UInt8) : Cfg := { cfg0 with summ := fun f => lookPT f list7, anns := fun f => if f = 47 then [(2, always (annAll 3 p.length (nibT p)))] else [] }
theorem goodAV (p : List UInt8) : Sx.Good Tryz.prog (cfgAV p) := ⟨mixes, list7_ok, fns_ok⟩
noncomputable def annPathA (k : List UInt8) : LoopAnn :=
  { α := Nat, pre := fun _ i => i ≤ k.length, mea := fun _ i => k.length - i, fresh := 0, slots := fun _ i => [(3, .str false (bytesFrom (nibAt k) 0 (2 * i))), (4, .int .i64 false i)], mem := fun _ _ => [] }
noncomputable def cfgAP (k : List UInt8) : Cfg := { cfg0 with summ := fun f => lookPT f list7, anns := fun f => if f = 77 then [(3, always (annPathA k))] else [] }
theorem goodAP (k : List UInt8) : Sx.Good Tryz.prog (cfgAP k) := ⟨mixes, list7_ok, fns_ok⟩
noncomputable def listA1 : List (FuncId × PT) := (47, purePT nvalidSpec) :: (77, purePT npathSpec) :: list7
noncomputable def annKey (p : List UInt8) : LoopAnn :=
  { α := Nat, pre := fun _ j => j ≤ p.length / 2, mea := fun _ j => p.length / 2 - j, fresh := 0, slots := fun _ j => [(4, .str false (bytesFrom (keyAt p) 0 j)), (5, .int .i64 false (2 * (j : Int)))], mem := fun _ _ => [] }
noncomputable def cfgAK (p : List UInt8) : Cfg := { cfg0 with summ := fun f => lookPT f listA1, anns := fun f => if f = 68 then [(5, always (annKey p))] else [] }
def keyB (p : List UInt8) : Bool := !decide ((p.length : Int) % 2 = 1) && nibB p
def keyA (p : List UInt8) : Ans := .fork (keyB p) fun b => match b with
  | true => .ret (.tup [.str false (keyL p), .bool true true])
  | false => .ret (.tup [.str true [], .bool true false])
def keySpec : List SV → Option (Prop × Ans)
  | [.str false p] => some (p.length < 1099511627776, keyA p)
  | _ => none
noncomputable def listA2 : List (FuncId × PT) := (68, ansPT keySpec) :: listA1
noncomputable def cfgA2 : Cfg := { cfg0 with summ := fun f => lookPT f listA2 }
noncomputable def listA3 : List (FuncId × PT) := (45, ansPT nputSpec) :: listA2
noncomputable def cfgA3 : Cfg := { cfg0 with summ := fun f => lookPT f listA3 }
end Go.Proofs.YtkfdcapnogklfaaGreatDoor
/-
  Conditions that the executor computes, written out by a program (vcgen.py).
-/
namespace Go.Proofs.YtkfdcapnogklfaaGreatDoor
open Go Sx
set_option maxRecDepth 20000
theorem vcAValid (p : List UInt8) (R : SV → Prop) : VC.holds (runP (cfgAV p) 47 Tryz.f47 [.str false p] R) = ((∃ (y : Nat), AllTo p.length (nibT p) y ∧
 (0 : Int) = (↑y : Int) ∧
 True) ∧
 ∀ (x : Nat), AllTo p.length (nibT p) x →
 (decide ((↑x : Int) < (↑p.length : Int)) = true →
 ((0 : Int) ≤ (↑x : Int) ∧
 (↑x : Int) < (↑p.length : Int)) ∧
 (decide ((15 : Int) < byteAt p (↑x : Int)) = true →
 R (SV.bool true false)) ∧
 (decide ((15 : Int) < byteAt p (↑x : Int)) = false →
 ((-9223372036854775808 : Int) ≤ (↑x : Int) + (1 : Int) ∧
 (↑x : Int) + (1 : Int) ≤ (9223372036854775807 : Int)) ∧
 ∃ (y : Nat), (AllTo p.length (nibT p) y ∧
 p.length - y < p.length - x) ∧
 (↑x : Int) + (1 : Int) = (↑y : Int) ∧
 True)) ∧
 (decide ((↑x : Int) < (↑p.length : Int)) = false →
 R (SV.bool true true))) := by kernel_rfl
theorem vcAPath (k : List UInt8) (R : SV → Prop) : VC.holds (runP (cfgAP k) 77 Tryz.f77 [.str false k] R) = ((∃ (y : Nat), y ≤ k.length ∧
 [] = bytesFrom (nibAt k) 0 ((2 : Nat) * y) ∧
 (0 : Int) = (↑y : Int) ∧
 True) ∧
 ∀ (x : Nat), x ≤ k.length →
 (decide ((↑x : Int) < (↑k.length : Int)) = true →
 ((0 : Int) ≤ (↑x : Int) ∧
 (↑x : Int) < (↑k.length : Int)) ∧
 ((0 : Int) ≤ byteAt k (↑x : Int) ∧
 byteAt k (↑x : Int) ≤ (255 : Int) ∧
 (0 : Int) < (16 : Int)) ∧
 ((0 : Int) ≤ (↑x : Int) ∧
 (↑x : Int) < (↑k.length : Int)) ∧
 ((0 : Int) ≤ byteAt k (↑x : Int) ∧
 byteAt k (↑x : Int) ≤ (255 : Int) ∧
 (0 : Int) < (16 : Int)) ∧
 (↑(bytesFrom (nibAt k) 0 ((2 : Nat) * x)).length : Int) + (↑(2 : Nat) : Int) ≤ (9223372036854775807 : Int) ∧
 ((-9223372036854775808 : Int) ≤ (↑x : Int) + (1 : Int) ∧
 (↑x : Int) + (1 : Int) ≤ (9223372036854775807 : Int)) ∧
 ∃ (y : Nat), (y ≤ k.length ∧
 k.length - y < k.length - x) ∧
 cat (bytesFrom (nibAt k) 0 ((2 : Nat) * x)) [UInt8.ofNat (byteAt k (↑x : Int) / (16 : Int)).toNat, UInt8.ofNat (byteAt k (↑x : Int) % (16 : Int)).toNat] = bytesFrom (nibAt k) 0 ((2 : Nat) * y) ∧
 (↑x : Int) + (1 : Int) = (↑y : Int) ∧
 True) ∧
 (decide ((↑x : Int) < (↑k.length : Int)) = false →
 R (SV.str false (bytesFrom (nibAt k) 0 ((2 : Nat) * x))))) := by kernel_rfl
theorem vcAKey (p : List UInt8) : VC.holds (runA (cfgAK p) 68 Tryz.f68 [.str false p] (keyA p)) = (((0 : Int) ≤ (↑p.length : Int) ∧
 (↑p.length : Int) ≤ (9223372036854775807 : Int) ∧
 (0 : Int) < (2 : Int)) ∧
 (decide ((↑p.length : Int) % (2 : Int) = (1 : Int)) = true →
 (keyB p = true →
 sameVal (SV.tup [SV.str true [], SV.bool true false]) (SV.tup [SV.str false (keyL p), SV.bool true true])) ∧
 (keyB p = false →
 sameVal (SV.tup [SV.str true [], SV.bool true false]) (SV.tup [SV.str true [], SV.bool true false]))) ∧
 (decide ((↑p.length : Int) % (2 : Int) = (1 : Int)) = false →
 p.length < (1152921504606846976 : Nat) ∧
 ((!nibB p) = true →
 (keyB p = true →
 sameVal (SV.tup [SV.str true [], SV.bool true false]) (SV.tup [SV.str false (keyL p), SV.bool true true])) ∧
 (keyB p = false →
 sameVal (SV.tup [SV.str true [], SV.bool true false]) (SV.tup [SV.str true [], SV.bool true false]))) ∧
 ((!nibB p) = false →
 (∃ (y : Nat), y ≤ p.length / (2 : Nat) ∧
 [] = bytesFrom (keyAt p) 0 y ∧
 (0 : Int) = (2 : Int) * (↑y : Int) ∧
 True) ∧
 ∀ (x : Nat), x ≤ p.length / (2 : Nat) →
 ((-9223372036854775808 : Int) ≤ (2 : Int) * (↑x : Int) + (1 : Int) ∧
 (2 : Int) * (↑x : Int) + (1 : Int) ≤ (9223372036854775807 : Int)) ∧
 (decide ((2 : Int) * (↑x : Int) + (1 : Int) < (↑p.length : Int)) = true →
 ((0 : Int) ≤ (2 : Int) * (↑x : Int) ∧
 (2 : Int) * (↑x : Int) < (↑p.length : Int)) ∧
 ((-9223372036854775808 : Int) ≤ (2 : Int) * (↑x : Int) + (1 : Int) ∧
 (2 : Int) * (↑x : Int) + (1 : Int) ≤ (9223372036854775807 : Int)) ∧
 ((0 : Int) ≤ (2 : Int) * (↑x : Int) + (1 : Int) ∧
 (2 : Int) * (↑x : Int) + (1 : Int) < (↑p.length : Int)) ∧
 (↑(bytesFrom (keyAt p) 0 x).length : Int) + (↑(1 : Nat) : Int) ≤ (9223372036854775807 : Int) ∧
 ((-9223372036854775808 : Int) ≤ (2 : Int) * (↑x : Int) + (2 : Int) ∧
 (2 : Int) * (↑x : Int) + (2 : Int) ≤ (9223372036854775807 : Int)) ∧
 ∃ (y : Nat), (y ≤ p.length / (2 : Nat) ∧
 p.length / (2 : Nat) - y < p.length / (2 : Nat) - x) ∧
 cat (bytesFrom (keyAt p) 0 x) [UInt8.ofNat ((byteAt p ((2 : Int) * (↑x : Int)) * (16 : Int) % (256 : Int) + byteAt p ((2 : Int) * (↑x : Int) + (1 : Int))) % (256 : Int)).toNat] = bytesFrom (keyAt p) 0 y ∧
 (2 : Int) * (↑x : Int) + (2 : Int) = (2 : Int) * (↑y : Int) ∧
 True) ∧
 (decide ((2 : Int) * (↑x : Int) + (1 : Int) < (↑p.length : Int)) = false →
 (keyB p = true →
 sameVal (SV.tup [SV.str false (bytesFrom (keyAt p) 0 x), SV.bool true true]) (SV.tup [SV.str false (keyL p), SV.bool true true])) ∧
 (keyB p = false →
 sameVal (SV.tup [SV.str false (bytesFrom (keyAt p) 0 x), SV.bool true true]) (SV.tup [SV.str true [], SV.bool true false])))))) := by kernel_rfl
theorem vcAPut (p : List UInt8) (leaf : Bool) : VC.holds (runA cfgA2 45 Tryz.f45 [.str false p, .bool false leaf] (nputA p leaf)) = ((fun Q0 : SV => ((fun Q1 : SV => (p.length < (1152921504606846976 : Nat) ∧
 ((!nibB p) = true →
 (nibB p = true →
 sameVal Q0 Q1) ∧
 (nibB p = false →
 sameVal Q0 Q0)) ∧
 ((!nibB p) = false →
 ((0 : Int) ≤ (↑p.length : Int) ∧
 (↑p.length : Int) ≤ (9223372036854775807 : Int) ∧
 (0 : Int) < (2 : Int)) ∧
 (leaf = true →
 ((0 : Int) ≤ (↑p.length : Int) ∧
 (↑p.length : Int) ≤ (9223372036854775807 : Int) ∧
 (0 : Int) < (2 : Int)) ∧
 (decide ((↑p.length : Int) % (2 : Int) = (0 : Int)) = true →
 (↑(1 : Nat) : Int) + (1 : Int) ≤ (9223372036854775807 : Int) ∧
 (↑(2 : Nat) : Int) + (↑p.length : Int) ≤ (9223372036854775807 : Int) ∧
 (cat (cat [UInt8.ofNat (((↑p.length : Int) % (2 : Int) % (256 : Int) + (2 : Int)) % (256 : Int)).toNat] [UInt8.ofNat 0]) p).length < (1099511627776 : Nat) ∧
 (keyB (cat (cat [UInt8.ofNat (((↑p.length : Int) % (2 : Int) % (256 : Int) + (2 : Int)) % (256 : Int)).toNat] [UInt8.ofNat 0]) p) = true →
 (nibB p = true →
 sameVal (SV.tup [SV.str false (keyL (cat (cat [UInt8.ofNat (((↑p.length : Int) % (2 : Int) % (256 : Int) + (2 : Int)) % (256 : Int)).toNat] [UInt8.ofNat 0]) p)), SV.bool true true]) Q1) ∧
 (nibB p = false →
 sameVal (SV.tup [SV.str false (keyL (cat (cat [UInt8.ofNat (((↑p.length : Int) % (2 : Int) % (256 : Int) + (2 : Int)) % (256 : Int)).toNat] [UInt8.ofNat 0]) p)), SV.bool true true]) Q0)) ∧
 (keyB (cat (cat [UInt8.ofNat (((↑p.length : Int) % (2 : Int) % (256 : Int) + (2 : Int)) % (256 : Int)).toNat] [UInt8.ofNat 0]) p) = false →
 (nibB p = true →
 sameVal Q0 Q1) ∧
 (nibB p = false →
 sameVal Q0 Q0))) ∧
 (decide ((↑p.length : Int) % (2 : Int) = (0 : Int)) = false →
 (↑(1 : Nat) : Int) + (↑p.length : Int) ≤ (9223372036854775807 : Int) ∧
 (cat [UInt8.ofNat (((↑p.length : Int) % (2 : Int) % (256 : Int) + (2 : Int)) % (256 : Int)).toNat] p).length < (1099511627776 : Nat) ∧
 (keyB (cat [UInt8.ofNat (((↑p.length : Int) % (2 : Int) % (256 : Int) + (2 : Int)) % (256 : Int)).toNat] p) = true →
 (nibB p = true →
 sameVal (SV.tup [SV.str false (keyL (cat [UInt8.ofNat (((↑p.length : Int) % (2 : Int) % (256 : Int) + (2 : Int)) % (256 : Int)).toNat] p)), SV.bool true true]) Q1) ∧
 (nibB p = false →
 sameVal (SV.tup [SV.str false (keyL (cat [UInt8.ofNat (((↑p.length : Int) % (2 : Int) % (256 : Int) + (2 : Int)) % (256 : Int)).toNat] p)), SV.bool true true]) Q0)) ∧
 (keyB (cat [UInt8.ofNat (((↑p.length : Int) % (2 : Int) % (256 : Int) + (2 : Int)) % (256 : Int)).toNat] p) = false →
 (nibB p = true →
 sameVal Q0 Q1) ∧
 (nibB p = false →
 sameVal Q0 Q0)))) ∧
 (leaf = false →
 ((0 : Int) ≤ (↑p.length : Int) ∧
 (↑p.length : Int) ≤ (9223372036854775807 : Int) ∧
 (0 : Int) < (2 : Int)) ∧
 (decide ((↑p.length : Int) % (2 : Int) = (0 : Int)) = true →
 (↑(1 : Nat) : Int) + (1 : Int) ≤ (9223372036854775807 : Int) ∧
 (↑(2 : Nat) : Int) + (↑p.length : Int) ≤ (9223372036854775807 : Int) ∧
 (cat (cat [UInt8.ofNat ((↑p.length : Int) % (2 : Int) % (256 : Int)).toNat] [UInt8.ofNat 0]) p).length < (1099511627776 : Nat) ∧
 (keyB (cat (cat [UInt8.ofNat ((↑p.length : Int) % (2 : Int) % (256 : Int)).toNat] [UInt8.ofNat 0]) p) = true →
 (nibB p = true →
 sameVal (SV.tup [SV.str false (keyL (cat (cat [UInt8.ofNat ((↑p.length : Int) % (2 : Int) % (256 : Int)).toNat] [UInt8.ofNat 0]) p)), SV.bool true true]) Q1) ∧
 (nibB p = false →
 sameVal (SV.tup [SV.str false (keyL (cat (cat [UInt8.ofNat ((↑p.length : Int) % (2 : Int) % (256 : Int)).toNat] [UInt8.ofNat 0]) p)), SV.bool true true]) Q0)) ∧
 (keyB (cat (cat [UInt8.ofNat ((↑p.length : Int) % (2 : Int) % (256 : Int)).toNat] [UInt8.ofNat 0]) p) = false →
 (nibB p = true →
 sameVal Q0 Q1) ∧
 (nibB p = false →
 sameVal Q0 Q0))) ∧
 (decide ((↑p.length : Int) % (2 : Int) = (0 : Int)) = false →
 (↑(1 : Nat) : Int) + (↑p.length : Int) ≤ (9223372036854775807 : Int) ∧
 (cat [UInt8.ofNat ((↑p.length : Int) % (2 : Int) % (256 : Int)).toNat] p).length < (1099511627776 : Nat) ∧
 (keyB (cat [UInt8.ofNat ((↑p.length : Int) % (2 : Int) % (256 : Int)).toNat] p) = true →
 (nibB p = true →
 sameVal (SV.tup [SV.str false (keyL (cat [UInt8.ofNat ((↑p.length : Int) % (2 : Int) % (256 : Int)).toNat] p)), SV.bool true true]) Q1) ∧
 (nibB p = false →
 sameVal (SV.tup [SV.str false (keyL (cat [UInt8.ofNat ((↑p.length : Int) % (2 : Int) % (256 : Int)).toNat] p)), SV.bool true true]) Q0)) ∧
 (keyB (cat [UInt8.ofNat ((↑p.length : Int) % (2 : Int) % (256 : Int)).toNat] p) = false →
 (nibB p = true →
 sameVal Q0 Q1) ∧
 (nibB p = false →
 sameVal Q0 Q0))))))) (SV.tup [SV.str false (nputL p leaf), SV.bool true true]))) (SV.tup [SV.str true [], SV.bool true false])) := by kernel_rfl
theorem vcAGet (s : List UInt8) : VC.holds (runA cfgA3 58 Tryz.f58 [.str false s] (ngetA s)) = ((fun Q0 : SV => ((fun Q1 : SV => ((fun Q2 : SV => ((fun Q3 : SV => ((fun Q4 : SV => ((fun Q5 : SV => (s.length < (1099511627776 : Nat) ∧
 (decide ((1 : Int) ≤ (↑(pathL s).length : Int)) = true →
 ((0 : Int) ≤ (1 : Int) ∧
 (1 : Int) ≤ (↑(pathL s).length : Int) ∧
 (↑(pathL s).length : Int) ≤ (↑(pathL s).length : Int)) ∧
 (subStr (pathL s) (some (Operand.tmp 28)) none 1 (↑(pathL s).length : Int)).length < (1073741824 : Nat) ∧
 (nibB (subStr (pathL s) (some (Operand.tmp 28)) none 1 (↑(pathL s).length : Int)) = true →
 (decide (nputL (subStr (pathL s) (some (Operand.tmp 28)) none 1 (↑(pathL s).length : Int)) (decide ((0 : Int) = (1 : Int))) = s) = true →
 ((0 : Int) ≤ (1 : Int) ∧
 (1 : Int) ≤ (↑(pathL s).length : Int) ∧
 (↑(pathL s).length : Int) ≤ (↑(pathL s).length : Int)) ∧
 (ngetB s = true →
 sameVal Q5 Q2) ∧
 (ngetB s = false →
 sameVal Q5 Q1)) ∧
 (decide (nputL (subStr (pathL s) (some (Operand.tmp 28)) none 1 (↑(pathL s).length : Int)) (decide ((0 : Int) = (1 : Int))) = s) = false →
 ((0 : Int) ≤ (1 : Int) ∧
 (1 : Int) ≤ (↑(pathL s).length : Int) ∧
 (↑(pathL s).length : Int) ≤ (↑(pathL s).length : Int)) ∧
 (subStr (pathL s) (some (Operand.tmp 28)) none 1 (↑(pathL s).length : Int)).length < (1073741824 : Nat) ∧
 (nibB (subStr (pathL s) (some (Operand.tmp 28)) none 1 (↑(pathL s).length : Int)) = true →
 (decide (nputL (subStr (pathL s) (some (Operand.tmp 28)) none 1 (↑(pathL s).length : Int)) (decide ((1 : Int) = (1 : Int))) = s) = true →
 ((0 : Int) ≤ (1 : Int) ∧
 (1 : Int) ≤ (↑(pathL s).length : Int) ∧
 (↑(pathL s).length : Int) ≤ (↑(pathL s).length : Int)) ∧
 (ngetB s = true →
 sameVal Q4 Q2) ∧
 (ngetB s = false →
 sameVal Q4 Q1)) ∧
 (decide (nputL (subStr (pathL s) (some (Operand.tmp 28)) none 1 (↑(pathL s).length : Int)) (decide ((1 : Int) = (1 : Int))) = s) = false →
 (decide ((2 : Int) ≤ (↑(pathL s).length : Int)) = true →
 ((0 : Int) ≤ (2 : Int) ∧
 (2 : Int) ≤ (↑(pathL s).length : Int) ∧
 (↑(pathL s).length : Int) ≤ (↑(pathL s).length : Int)) ∧
 (subStr (pathL s) (some (Operand.tmp 28)) none 2 (↑(pathL s).length : Int)).length < (1073741824 : Nat) ∧
 (nibB (subStr (pathL s) (some (Operand.tmp 28)) none 2 (↑(pathL s).length : Int)) = true →
 (decide (nputL (subStr (pathL s) (some (Operand.tmp 28)) none 2 (↑(pathL s).length : Int)) (decide ((0 : Int) = (1 : Int))) = s) = true →
 ((0 : Int) ≤ (2 : Int) ∧
 (2 : Int) ≤ (↑(pathL s).length : Int) ∧
 (↑(pathL s).length : Int) ≤ (↑(pathL s).length : Int)) ∧
 (ngetB s = true →
 sameVal Q3 Q2) ∧
 (ngetB s = false →
 sameVal Q3 Q1)) ∧
 (decide (nputL (subStr (pathL s) (some (Operand.tmp 28)) none 2 (↑(pathL s).length : Int)) (decide ((0 : Int) = (1 : Int))) = s) = false →
 ((0 : Int) ≤ (2 : Int) ∧
 (2 : Int) ≤ (↑(pathL s).length : Int) ∧
 (↑(pathL s).length : Int) ≤ (↑(pathL s).length : Int)) ∧
 (subStr (pathL s) (some (Operand.tmp 28)) none 2 (↑(pathL s).length : Int)).length < (1073741824 : Nat) ∧
 (nibB (subStr (pathL s) (some (Operand.tmp 28)) none 2 (↑(pathL s).length : Int)) = true →
 (decide (nputL (subStr (pathL s) (some (Operand.tmp 28)) none 2 (↑(pathL s).length : Int)) (decide ((1 : Int) = (1 : Int))) = s) = true →
 ((0 : Int) ≤ (2 : Int) ∧
 (2 : Int) ≤ (↑(pathL s).length : Int) ∧
 (↑(pathL s).length : Int) ≤ (↑(pathL s).length : Int)) ∧
 (ngetB s = true →
 sameVal Q0 Q2) ∧
 (ngetB s = false →
 sameVal Q0 Q1)) ∧
 (decide (nputL (subStr (pathL s) (some (Operand.tmp 28)) none 2 (↑(pathL s).length : Int)) (decide ((1 : Int) = (1 : Int))) = s) = false →
 (ngetB s = true →
 sameVal Q1 Q2) ∧
 (ngetB s = false →
 sameVal Q1 Q1))) ∧
 (nibB (subStr (pathL s) (some (Operand.tmp 28)) none 2 (↑(pathL s).length : Int)) = false →
 (decide ([] = s) = true →
 ((0 : Int) ≤ (2 : Int) ∧
 (2 : Int) ≤ (↑(pathL s).length : Int) ∧
 (↑(pathL s).length : Int) ≤ (↑(pathL s).length : Int)) ∧
 (ngetB s = true →
 sameVal Q0 Q2) ∧
 (ngetB s = false →
 sameVal Q0 Q1)) ∧
 (decide ([] = s) = false →
 (ngetB s = true →
 sameVal Q1 Q2) ∧
 (ngetB s = false →
 sameVal Q1 Q1))))) ∧
 (nibB (subStr (pathL s) (some (Operand.tmp 28)) none 2 (↑(pathL s).length : Int)) = false →
 (decide ([] = s) = true →
 ((0 : Int) ≤ (2 : Int) ∧
 (2 : Int) ≤ (↑(pathL s).length : Int) ∧
 (↑(pathL s).length : Int) ≤ (↑(pathL s).length : Int)) ∧
 (ngetB s = true →
 sameVal Q3 Q2) ∧
 (ngetB s = false →
 sameVal Q3 Q1)) ∧
 (decide ([] = s) = false →
 ((0 : Int) ≤ (2 : Int) ∧
 (2 : Int) ≤ (↑(pathL s).length : Int) ∧
 (↑(pathL s).length : Int) ≤ (↑(pathL s).length : Int)) ∧
 (subStr (pathL s) (some (Operand.tmp 28)) none 2 (↑(pathL s).length : Int)).length < (1073741824 : Nat) ∧
 (nibB (subStr (pathL s) (some (Operand.tmp 28)) none 2 (↑(pathL s).length : Int)) = true →
 (decide (nputL (subStr (pathL s) (some (Operand.tmp 28)) none 2 (↑(pathL s).length : Int)) (decide ((1 : Int) = (1 : Int))) = s) = true →
 ((0 : Int) ≤ (2 : Int) ∧
 (2 : Int) ≤ (↑(pathL s).length : Int) ∧
 (↑(pathL s).length : Int) ≤ (↑(pathL s).length : Int)) ∧
 (ngetB s = true →
 sameVal Q0 Q2) ∧
 (ngetB s = false →
 sameVal Q0 Q1)) ∧
 (decide (nputL (subStr (pathL s) (some (Operand.tmp 28)) none 2 (↑(pathL s).length : Int)) (decide ((1 : Int) = (1 : Int))) = s) = false →
 (ngetB s = true →
 sameVal Q1 Q2) ∧
 (ngetB s = false →
 sameVal Q1 Q1))) ∧
 (nibB (subStr (pathL s) (some (Operand.tmp 28)) none 2 (↑(pathL s).length : Int)) = false →
 (decide ([] = s) = true →
 ((0 : Int) ≤ (2 : Int) ∧
 (2 : Int) ≤ (↑(pathL s).length : Int) ∧
 (↑(pathL s).length : Int) ≤ (↑(pathL s).length : Int)) ∧
 (ngetB s = true →
 sameVal Q0 Q2) ∧
 (ngetB s = false →
 sameVal Q0 Q1)) ∧
 (decide ([] = s) = false →
 (ngetB s = true →
 sameVal Q1 Q2) ∧
 (ngetB s = false →
 sameVal Q1 Q1)))))) ∧
 (decide ((2 : Int) ≤ (↑(pathL s).length : Int)) = false →
 (ngetB s = true →
 sameVal Q1 Q2) ∧
 (ngetB s = false →
 sameVal Q1 Q1)))) ∧
 (nibB (subStr (pathL s) (some (Operand.tmp 28)) none 1 (↑(pathL s).length : Int)) = false →
 (decide ([] = s) = true →
 ((0 : Int) ≤ (1 : Int) ∧
 (1 : Int) ≤ (↑(pathL s).length : Int) ∧
 (↑(pathL s).length : Int) ≤ (↑(pathL s).length : Int)) ∧
 (ngetB s = true →
 sameVal Q4 Q2) ∧
 (ngetB s = false →
 sameVal Q4 Q1)) ∧
 (decide ([] = s) = false →
 (decide ((2 : Int) ≤ (↑(pathL s).length : Int)) = true →
 ((0 : Int) ≤ (2 : Int) ∧
 (2 : Int) ≤ (↑(pathL s).length : Int) ∧
 (↑(pathL s).length : Int) ≤ (↑(pathL s).length : Int)) ∧
 (subStr (pathL s) (some (Operand.tmp 28)) none 2 (↑(pathL s).length : Int)).length < (1073741824 : Nat) ∧
 (nibB (subStr (pathL s) (some (Operand.tmp 28)) none 2 (↑(pathL s).length : Int)) = true →
 (decide (nputL (subStr (pathL s) (some (Operand.tmp 28)) none 2 (↑(pathL s).length : Int)) (decide ((0 : Int) = (1 : Int))) = s) = true →
 ((0 : Int) ≤ (2 : Int) ∧
 (2 : Int) ≤ (↑(pathL s).length : Int) ∧
 (↑(pathL s).length : Int) ≤ (↑(pathL s).length : Int)) ∧
 (ngetB s = true →
 sameVal Q3 Q2) ∧
 (ngetB s = false →
 sameVal Q3 Q1)) ∧
 (decide (nputL (subStr (pathL s) (some (Operand.tmp 28)) none 2 (↑(pathL s).length : Int)) (decide ((0 : Int) = (1 : Int))) = s) = false →
 ((0 : Int) ≤ (2 : Int) ∧
 (2 : Int) ≤ (↑(pathL s).length : Int) ∧
 (↑(pathL s).length : Int) ≤ (↑(pathL s).length : Int)) ∧
 (subStr (pathL s) (some (Operand.tmp 28)) none 2 (↑(pathL s).length : Int)).length < (1073741824 : Nat) ∧
 (nibB (subStr (pathL s) (some (Operand.tmp 28)) none 2 (↑(pathL s).length : Int)) = true →
 (decide (nputL (subStr (pathL s) (some (Operand.tmp 28)) none 2 (↑(pathL s).length : Int)) (decide ((1 : Int) = (1 : Int))) = s) = true →
 ((0 : Int) ≤ (2 : Int) ∧
 (2 : Int) ≤ (↑(pathL s).length : Int) ∧
 (↑(pathL s).length : Int) ≤ (↑(pathL s).length : Int)) ∧
 (ngetB s = true →
 sameVal Q0 Q2) ∧
 (ngetB s = false →
 sameVal Q0 Q1)) ∧
 (decide (nputL (subStr (pathL s) (some (Operand.tmp 28)) none 2 (↑(pathL s).length : Int)) (decide ((1 : Int) = (1 : Int))) = s) = false →
 (ngetB s = true →
 sameVal Q1 Q2) ∧
 (ngetB s = false →
 sameVal Q1 Q1))) ∧
 (nibB (subStr (pathL s) (some (Operand.tmp 28)) none 2 (↑(pathL s).length : Int)) = false →
 (decide ([] = s) = true →
 ((0 : Int) ≤ (2 : Int) ∧
 (2 : Int) ≤ (↑(pathL s).length : Int) ∧
 (↑(pathL s).length : Int) ≤ (↑(pathL s).length : Int)) ∧
 (ngetB s = true →
 sameVal Q0 Q2) ∧
 (ngetB s = false →
 sameVal Q0 Q1)) ∧
 (decide ([] = s) = false →
 (ngetB s = true →
 sameVal Q1 Q2) ∧
 (ngetB s = false →
 sameVal Q1 Q1))))) ∧
 (nibB (subStr (pathL s) (some (Operand.tmp 28)) none 2 (↑(pathL s).length : Int)) = false →
 (decide ([] = s) = true →
 ((0 : Int) ≤ (2 : Int) ∧
 (2 : Int) ≤ (↑(pathL s).length : Int) ∧
 (↑(pathL s).length : Int) ≤ (↑(pathL s).length : Int)) ∧
 (ngetB s = true →
 sameVal Q3 Q2) ∧
 (ngetB s = false →
 sameVal Q3 Q1)) ∧
 (decide ([] = s) = false →
 ((0 : Int) ≤ (2 : Int) ∧
 (2 : Int) ≤ (↑(pathL s).length : Int) ∧
 (↑(pathL s).length : Int) ≤ (↑(pathL s).length : Int)) ∧
 (subStr (pathL s) (some (Operand.tmp 28)) none 2 (↑(pathL s).length : Int)).length < (1073741824 : Nat) ∧
 (nibB (subStr (pathL s) (some (Operand.tmp 28)) none 2 (↑(pathL s).length : Int)) = true →
 (decide (nputL (subStr (pathL s) (some (Operand.tmp 28)) none 2 (↑(pathL s).length : Int)) (decide ((1 : Int) = (1 : Int))) = s) = true →
 ((0 : Int) ≤ (2 : Int) ∧
 (2 : Int) ≤ (↑(pathL s).length : Int) ∧
 (↑(pathL s).length : Int) ≤ (↑(pathL s).length : Int)) ∧
 (ngetB s = true →
 sameVal Q0 Q2) ∧
 (ngetB s = false →
 sameVal Q0 Q1)) ∧
 (decide (nputL (subStr (pathL s) (some (Operand.tmp 28)) none 2 (↑(pathL s).length : Int)) (decide ((1 : Int) = (1 : Int))) = s) = false →
 (ngetB s = true →
 sameVal Q1 Q2) ∧
 (ngetB s = false →
 sameVal Q1 Q1))) ∧
 (nibB (subStr (pathL s) (some (Operand.tmp 28)) none 2 (↑(pathL s).length : Int)) = false →
 (decide ([] = s) = true →
 ((0 : Int) ≤ (2 : Int) ∧
 (2 : Int) ≤ (↑(pathL s).length : Int) ∧
 (↑(pathL s).length : Int) ≤ (↑(pathL s).length : Int)) ∧
 (ngetB s = true →
 sameVal Q0 Q2) ∧
 (ngetB s = false →
 sameVal Q0 Q1)) ∧
 (decide ([] = s) = false →
 (ngetB s = true →
 sameVal Q1 Q2) ∧
 (ngetB s = false →
 sameVal Q1 Q1)))))) ∧
 (decide ((2 : Int) ≤ (↑(pathL s).length : Int)) = false →
 (ngetB s = true →
 sameVal Q1 Q2) ∧
 (ngetB s = false →
 sameVal Q1 Q1)))))) ∧
 (nibB (subStr (pathL s) (some (Operand.tmp 28)) none 1 (↑(pathL s).length : Int)) = false →
 (decide ([] = s) = true →
 ((0 : Int) ≤ (1 : Int) ∧
 (1 : Int) ≤ (↑(pathL s).length : Int) ∧
 (↑(pathL s).length : Int) ≤ (↑(pathL s).length : Int)) ∧
 (ngetB s = true →
 sameVal Q5 Q2) ∧
 (ngetB s = false →
 sameVal Q5 Q1)) ∧
 (decide ([] = s) = false →
 ((0 : Int) ≤ (1 : Int) ∧
 (1 : Int) ≤ (↑(pathL s).length : Int) ∧
 (↑(pathL s).length : Int) ≤ (↑(pathL s).length : Int)) ∧
 (subStr (pathL s) (some (Operand.tmp 28)) none 1 (↑(pathL s).length : Int)).length < (1073741824 : Nat) ∧
 (nibB (subStr (pathL s) (some (Operand.tmp 28)) none 1 (↑(pathL s).length : Int)) = true →
 (decide (nputL (subStr (pathL s) (some (Operand.tmp 28)) none 1 (↑(pathL s).length : Int)) (decide ((1 : Int) = (1 : Int))) = s) = true →
 ((0 : Int) ≤ (1 : Int) ∧
 (1 : Int) ≤ (↑(pathL s).length : Int) ∧
 (↑(pathL s).length : Int) ≤ (↑(pathL s).length : Int)) ∧
 (ngetB s = true →
 sameVal Q4 Q2) ∧
 (ngetB s = false →
 sameVal Q4 Q1)) ∧
 (decide (nputL (subStr (pathL s) (some (Operand.tmp 28)) none 1 (↑(pathL s).length : Int)) (decide ((1 : Int) = (1 : Int))) = s) = false →
 (decide ((2 : Int) ≤ (↑(pathL s).length : Int)) = true →
 ((0 : Int) ≤ (2 : Int) ∧
 (2 : Int) ≤ (↑(pathL s).length : Int) ∧
 (↑(pathL s).length : Int) ≤ (↑(pathL s).length : Int)) ∧
 (subStr (pathL s) (some (Operand.tmp 28)) none 2 (↑(pathL s).length : Int)).length < (1073741824 : Nat) ∧
 (nibB (subStr (pathL s) (some (Operand.tmp 28)) none 2 (↑(pathL s).length : Int)) = true →
 (decide (nputL (subStr (pathL s) (some (Operand.tmp 28)) none 2 (↑(pathL s).length : Int)) (decide ((0 : Int) = (1 : Int))) = s) = true →
 ((0 : Int) ≤ (2 : Int) ∧
 (2 : Int) ≤ (↑(pathL s).length : Int) ∧
 (↑(pathL s).length : Int) ≤ (↑(pathL s).length : Int)) ∧
 (ngetB s = true →
 sameVal Q3 Q2) ∧
 (ngetB s = false →
 sameVal Q3 Q1)) ∧
 (decide (nputL (subStr (pathL s) (some (Operand.tmp 28)) none 2 (↑(pathL s).length : Int)) (decide ((0 : Int) = (1 : Int))) = s) = false →
 ((0 : Int) ≤ (2 : Int) ∧
 (2 : Int) ≤ (↑(pathL s).length : Int) ∧
 (↑(pathL s).length : Int) ≤ (↑(pathL s).length : Int)) ∧
 (subStr (pathL s) (some (Operand.tmp 28)) none 2 (↑(pathL s).length : Int)).length < (1073741824 : Nat) ∧
 (nibB (subStr (pathL s) (some (Operand.tmp 28)) none 2 (↑(pathL s).length : Int)) = true →
 (decide (nputL (subStr (pathL s) (some (Operand.tmp 28)) none 2 (↑(pathL s).length : Int)) (decide ((1 : Int) = (1 : Int))) = s) = true →
 ((0 : Int) ≤ (2 : Int) ∧
 (2 : Int) ≤ (↑(pathL s).length : Int) ∧
 (↑(pathL s).length : Int) ≤ (↑(pathL s).length : Int)) ∧
 (ngetB s = true →
 sameVal Q0 Q2) ∧
 (ngetB s = false →
 sameVal Q0 Q1)) ∧
 (decide (nputL (subStr (pathL s) (some (Operand.tmp 28)) none 2 (↑(pathL s).length : Int)) (decide ((1 : Int) = (1 : Int))) = s) = false →
 (ngetB s = true →
 sameVal Q1 Q2) ∧
 (ngetB s = false →
 sameVal Q1 Q1))) ∧
 (nibB (subStr (pathL s) (some (Operand.tmp 28)) none 2 (↑(pathL s).length : Int)) = false →
 (decide ([] = s) = true →
 ((0 : Int) ≤ (2 : Int) ∧
 (2 : Int) ≤ (↑(pathL s).length : Int) ∧
 (↑(pathL s).length : Int) ≤ (↑(pathL s).length : Int)) ∧
 (ngetB s = true →
 sameVal Q0 Q2) ∧
 (ngetB s = false →
 sameVal Q0 Q1)) ∧
 (decide ([] = s) = false →
 (ngetB s = true →
 sameVal Q1 Q2) ∧
 (ngetB s = false →
 sameVal Q1 Q1))))) ∧
 (nibB (subStr (pathL s) (some (Operand.tmp 28)) none 2 (↑(pathL s).length : Int)) = false →
 (decide ([] = s) = true →
 ((0 : Int) ≤ (2 : Int) ∧
 (2 : Int) ≤ (↑(pathL s).length : Int) ∧
 (↑(pathL s).length : Int) ≤ (↑(pathL s).length : Int)) ∧
 (ngetB s = true →
 sameVal Q3 Q2) ∧
 (ngetB s = false →
 sameVal Q3 Q1)) ∧
 (decide ([] = s) = false →
 ((0 : Int) ≤ (2 : Int) ∧
 (2 : Int) ≤ (↑(pathL s).length : Int) ∧
 (↑(pathL s).length : Int) ≤ (↑(pathL s).length : Int)) ∧
 (subStr (pathL s) (some (Operand.tmp 28)) none 2 (↑(pathL s).length : Int)).length < (1073741824 : Nat) ∧
 (nibB (subStr (pathL s) (some (Operand.tmp 28)) none 2 (↑(pathL s).length : Int)) = true →
 (decide (nputL (subStr (pathL s) (some (Operand.tmp 28)) none 2 (↑(pathL s).length : Int)) (decide ((1 : Int) = (1 : Int))) = s) = true →
 ((0 : Int) ≤ (2 : Int) ∧
 (2 : Int) ≤ (↑(pathL s).length : Int) ∧
 (↑(pathL s).length : Int) ≤ (↑(pathL s).length : Int)) ∧
 (ngetB s = true →
 sameVal Q0 Q2) ∧
 (ngetB s = false →
 sameVal Q0 Q1)) ∧
 (decide (nputL (subStr (pathL s) (some (Operand.tmp 28)) none 2 (↑(pathL s).length : Int)) (decide ((1 : Int) = (1 : Int))) = s) = false →
 (ngetB s = true →
 sameVal Q1 Q2) ∧
 (ngetB s = false →
 sameVal Q1 Q1))) ∧
 (nibB (subStr (pathL s) (some (Operand.tmp 28)) none 2 (↑(pathL s).length : Int)) = false →
 (decide ([] = s) = true →
 ((0 : Int) ≤ (2 : Int) ∧
 (2 : Int) ≤ (↑(pathL s).length : Int) ∧
 (↑(pathL s).length : Int) ≤ (↑(pathL s).length : Int)) ∧
 (ngetB s = true →
 sameVal Q0 Q2) ∧
 (ngetB s = false →
 sameVal Q0 Q1)) ∧
 (decide ([] = s) = false →
 (ngetB s = true →
 sameVal Q1 Q2) ∧
 (ngetB s = false →
 sameVal Q1 Q1)))))) ∧
 (decide ((2 : Int) ≤ (↑(pathL s).length : Int)) = false →
 (ngetB s = true →
 sameVal Q1 Q2) ∧
 (ngetB s = false →
 sameVal Q1 Q1)))) ∧
 (nibB (subStr (pathL s) (some (Operand.tmp 28)) none 1 (↑(pathL s).length : Int)) = false →
 (decide ([] = s) = true →
 ((0 : Int) ≤ (1 : Int) ∧
 (1 : Int) ≤ (↑(pathL s).length : Int) ∧
 (↑(pathL s).length : Int) ≤ (↑(pathL s).length : Int)) ∧
 (ngetB s = true →
 sameVal Q4 Q2) ∧
 (ngetB s = false →
 sameVal Q4 Q1)) ∧
 (decide ([] = s) = false →
 (decide ((2 : Int) ≤ (↑(pathL s).length : Int)) = true →
 ((0 : Int) ≤ (2 : Int) ∧
 (2 : Int) ≤ (↑(pathL s).length : Int) ∧
 (↑(pathL s).length : Int) ≤ (↑(pathL s).length : Int)) ∧
 (subStr (pathL s) (some (Operand.tmp 28)) none 2 (↑(pathL s).length : Int)).length < (1073741824 : Nat) ∧
 (nibB (subStr (pathL s) (some (Operand.tmp 28)) none 2 (↑(pathL s).length : Int)) = true →
 (decide (nputL (subStr (pathL s) (some (Operand.tmp 28)) none 2 (↑(pathL s).length : Int)) (decide ((0 : Int) = (1 : Int))) = s) = true →
 ((0 : Int) ≤ (2 : Int) ∧
 (2 : Int) ≤ (↑(pathL s).length : Int) ∧
 (↑(pathL s).length : Int) ≤ (↑(pathL s).length : Int)) ∧
 (ngetB s = true →
 sameVal Q3 Q2) ∧
 (ngetB s = false →
 sameVal Q3 Q1)) ∧
 (decide (nputL (subStr (pathL s) (some (Operand.tmp 28)) none 2 (↑(pathL s).length : Int)) (decide ((0 : Int) = (1 : Int))) = s) = false →
 ((0 : Int) ≤ (2 : Int) ∧
 (2 : Int) ≤ (↑(pathL s).length : Int) ∧
 (↑(pathL s).length : Int) ≤ (↑(pathL s).length : Int)) ∧
 (subStr (pathL s) (some (Operand.tmp 28)) none 2 (↑(pathL s).length : Int)).length < (1073741824 : Nat) ∧
 (nibB (subStr (pathL s) (some (Operand.tmp 28)) none 2 (↑(pathL s).length : Int)) = true →
 (decide (nputL (subStr (pathL s) (some (Operand.tmp 28)) none 2 (↑(pathL s).length : Int)) (decide ((1 : Int) = (1 : Int))) = s) = true →
 ((0 : Int) ≤ (2 : Int) ∧
 (2 : Int) ≤ (↑(pathL s).length : Int) ∧
 (↑(pathL s).length : Int) ≤ (↑(pathL s).length : Int)) ∧
 (ngetB s = true →
 sameVal Q0 Q2) ∧
 (ngetB s = false →
 sameVal Q0 Q1)) ∧
 (decide (nputL (subStr (pathL s) (some (Operand.tmp 28)) none 2 (↑(pathL s).length : Int)) (decide ((1 : Int) = (1 : Int))) = s) = false →
 (ngetB s = true →
 sameVal Q1 Q2) ∧
 (ngetB s = false →
 sameVal Q1 Q1))) ∧
 (nibB (subStr (pathL s) (some (Operand.tmp 28)) none 2 (↑(pathL s).length : Int)) = false →
 (decide ([] = s) = true →
 ((0 : Int) ≤ (2 : Int) ∧
 (2 : Int) ≤ (↑(pathL s).length : Int) ∧
 (↑(pathL s).length : Int) ≤ (↑(pathL s).length : Int)) ∧
 (ngetB s = true →
 sameVal Q0 Q2) ∧
 (ngetB s = false →
 sameVal Q0 Q1)) ∧
 (decide ([] = s) = false →
 (ngetB s = true →
 sameVal Q1 Q2) ∧
 (ngetB s = false →
 sameVal Q1 Q1))))) ∧
 (nibB (subStr (pathL s) (some (Operand.tmp 28)) none 2 (↑(pathL s).length : Int)) = false →
 (decide ([] = s) = true →
 ((0 : Int) ≤ (2 : Int) ∧
 (2 : Int) ≤ (↑(pathL s).length : Int) ∧
 (↑(pathL s).length : Int) ≤ (↑(pathL s).length : Int)) ∧
 (ngetB s = true →
 sameVal Q3 Q2) ∧
 (ngetB s = false →
 sameVal Q3 Q1)) ∧
 (decide ([] = s) = false →
 ((0 : Int) ≤ (2 : Int) ∧
 (2 : Int) ≤ (↑(pathL s).length : Int) ∧
 (↑(pathL s).length : Int) ≤ (↑(pathL s).length : Int)) ∧
 (subStr (pathL s) (some (Operand.tmp 28)) none 2 (↑(pathL s).length : Int)).length < (1073741824 : Nat) ∧
 (nibB (subStr (pathL s) (some (Operand.tmp 28)) none 2 (↑(pathL s).length : Int)) = true →
 (decide (nputL (subStr (pathL s) (some (Operand.tmp 28)) none 2 (↑(pathL s).length : Int)) (decide ((1 : Int) = (1 : Int))) = s) = true →
 ((0 : Int) ≤ (2 : Int) ∧
 (2 : Int) ≤ (↑(pathL s).length : Int) ∧
 (↑(pathL s).length : Int) ≤ (↑(pathL s).length : Int)) ∧
 (ngetB s = true →
 sameVal Q0 Q2) ∧
 (ngetB s = false →
 sameVal Q0 Q1)) ∧
 (decide (nputL (subStr (pathL s) (some (Operand.tmp 28)) none 2 (↑(pathL s).length : Int)) (decide ((1 : Int) = (1 : Int))) = s) = false →
 (ngetB s = true →
 sameVal Q1 Q2) ∧
 (ngetB s = false →
 sameVal Q1 Q1))) ∧
 (nibB (subStr (pathL s) (some (Operand.tmp 28)) none 2 (↑(pathL s).length : Int)) = false →
 (decide ([] = s) = true →
 ((0 : Int) ≤ (2 : Int) ∧
 (2 : Int) ≤ (↑(pathL s).length : Int) ∧
 (↑(pathL s).length : Int) ≤ (↑(pathL s).length : Int)) ∧
 (ngetB s = true →
 sameVal Q0 Q2) ∧
 (ngetB s = false →
 sameVal Q0 Q1)) ∧
 (decide ([] = s) = false →
 (ngetB s = true →
 sameVal Q1 Q2) ∧
 (ngetB s = false →
 sameVal Q1 Q1)))))) ∧
 (decide ((2 : Int) ≤ (↑(pathL s).length : Int)) = false →
 (ngetB s = true →
 sameVal Q1 Q2) ∧
 (ngetB s = false →
 sameVal Q1 Q1))))))) ∧
 (decide ((1 : Int) ≤ (↑(pathL s).length : Int)) = false →
 (ngetB s = true →
 sameVal Q1 Q2) ∧
 (ngetB s = false →
 sameVal Q1 Q1)))) (SV.tup [SV.str (false && true && false) (subStr (pathL s) (some (Operand.tmp 39)) none 1 (↑(pathL s).length : Int)), SV.bool (true && true) (decide ((0 : Int) = (1 : Int))), SV.bool true true]))) (SV.tup [SV.str (false && true && false) (subStr (pathL s) (some (Operand.tmp 39)) none 1 (↑(pathL s).length : Int)), SV.bool (true && true) (decide ((1 : Int) = (1 : Int))), SV.bool true true]))) (SV.tup [SV.str (false && true && false) (subStr (pathL s) (some (Operand.tmp 39)) none 2 (↑(pathL s).length : Int)), SV.bool (true && true) (decide ((0 : Int) = (1 : Int))), SV.bool true true]))) (SV.tup [SV.str false (ngetP s), SV.bool false (ngetLeaf s), SV.bool true true]))) (SV.tup [SV.str true [], SV.bool true false, SV.bool true false]))) (SV.tup [SV.str (false && true && false) (subStr (pathL s) (some (Operand.tmp 39)) none 2 (↑(pathL s).length : Int)), SV.bool (true && true) (decide ((1 : Int) = (1 : Int))), SV.bool true true])) := by kernel_rfl
end Go.Proofs.YtkfdcapnogklfaaGreatDoor
/-
  The reference's nibbles: plain laws.
-/
namespace Go.Proofs.YtkfdcapnogklfaaGreatDoor
open Go Sx
set_option maxRecDepth 20000
theorem key_pairs {p : List UInt8} (h : nibB p = true) : keyL p = pairsL p := by
  unfold keyL pairsL bytesFrom
  apply List.map_congr_left
  intro j hj
  rw [List.mem_range] at hj
  rw [Nat.zero_add]
  have h1 := nib_le h (2 * j) (by omega)
  have h2 := nib_le h (2 * j + 1) (by omega)
  have h3 := (byteAt_lt p ((2 * j : Nat) : Int)).1
  have h4 := (byteAt_lt p ((2 * j + 1 : Nat) : Int)).1
  unfold keyAt pairAt
  rw [show (2 * (j : Int)) = ((2 * j : Nat) : Int) by push_cast; rfl, show (((2 * j : Nat) : Int) + 1) = ((2 * j + 1 : Nat) : Int) by push_cast; rfl, or_pair ⟨h3, h1⟩ ⟨h4, h2⟩]
  congr 2
  omega
theorem pathL_nib (k : List UInt8) : ∀ j : Nat, j < (pathL k).length → byteAt (pathL k) (j : Int) = nibAt k j := by
  intro j hj
  rw [pathL_len] at hj
  unfold pathL
  refine bytesFrom_get hj ?_
  have := byteAt_lt k ((j / 2 : Nat) : Int)
  unfold nibAt
  rw [show ((j : Int) / 2) = ((j / 2 : Nat) : Int) by omega]
  split <;> omega
theorem nibAt_le (k : List UInt8) (j : Nat) : 0 ≤ nibAt k j ∧ nibAt k j ≤ 15 := by
  have := byteAt_lt k ((j : Int) / 2)
  unfold nibAt
  split <;> omega
theorem pathB_nib (k : List UInt8) (n : Nat) : nibB ((pathL k).drop n) = true := by
  unfold nibB
  rw [List.all_eq_true]
  intro j hj
  rw [List.mem_range, List.length_drop] at hj
  unfold nibT
  have e : byteAt ((pathL k).drop n) (j : Int) = byteAt (pathL k) ((n + j : Nat) : Int) := by
    unfold byteAt
    rw [Int.toNat_natCast, Int.toNat_natCast, List.getD_eq_getElem?_getD, List.getD_eq_getElem?_getD, List.getElem?_drop]
  rw [e, pathL_nib k (n + j) (by omega)]
  have := (nibAt_le k (n + j)).2
  simp only [Bool.not_eq_true', decide_eq_false_iff_not]; omega
theorem pairs_path (k : List UInt8) : pairsL (pathL k) = k := by
  have hl : (pairsL (pathL k)).length = k.length := by rw [pairsL_len, pathL_len]; omega
  apply List.ext_getElem?
  intro j
  by_cases hj : j < k.length
  · have h1 := pathL_nib k (2 * j) (by rw [pathL_len]; omega)
    have h2 := pathL_nib k (2 * j + 1) (by rw [pathL_len]; omega)
    have b1 := nibAt_le k (2 * j)
    have b2 := nibAt_le k (2 * j + 1)
    have hb := byteAt_lt k (j : Int)
    rw [byteAt_get k j hj]
    unfold pairsL bytesFrom
    rw [List.getElem?_map, List.getElem?_range (by rw [pathL_len]; omega)]
    simp only [Option.map_some, Nat.zero_add, Option.some.injEq]
    congr 2
    unfold pairAt
    rw [show (2 * (j : Int)) = ((2 * j : Nat) : Int) by push_cast; rfl, show (((2 * j : Nat) : Int) + 1) = ((2 * j + 1 : Nat) : Int) by push_cast; rfl, h1, h2, or_pair b1 b2]
    unfold nibAt
    rw [if_pos (by omega), if_neg (by omega), show (((2 * j : Nat) : Int) / 2) = (j : Int) by omega, show (((2 * j + 1 : Nat) : Int) / 2) = (j : Int) by omega]
    omega
  · rw [List.getElem?_eq_none (by omega), List.getElem?_eq_none (by omega)]
theorem drop_one {q : List UInt8} (h : q ≠ []) : q = UInt8.ofNat (byteAt q 0).toNat :: q.drop 1 := by
  cases q with
  | nil => exact absurd rfl h
  | cons b r =>
    show b :: r = UInt8.ofNat ((b.toNat : Int)).toNat :: r
    rw [Int.toNat_natCast]; simp
theorem nput_nget {s : List UInt8} (h : ngetB s = true) : nputL (ngetP s) (ngetLeaf s) = s := by
  obtain ⟨h0, h1, h2⟩ := nget_iff.1 h
  have hl := pathL_len s
  have hp := List.length_pos_iff.2 h0
  have b0 := (byteAt_lt (pathL s) 0).1
  have d1 := drop_one h0
  unfold ngetP ngetLeaf
  by_cases ho : byteAt (pathL s) 0 % 2 = 1
  · rw [if_pos ho]
    have e : decide ((((pathL s).drop 1).length : Int) % 2 = 1) = true := decide_eq_true (by rw [List.length_drop]; omega)
    unfold nputL
    rw [e]
    have f : flagN (decide (2 ≤ byteAt (pathL s) 0)) true = byteAt (pathL s) 0 := by
      by_cases c : 2 ≤ byteAt (pathL s) 0
      · rw [decide_eq_true c]; show (2 : Int) + 1 = _; omega
      · rw [decide_eq_false c]; show (0 : Int) + 1 = _; omega
    rw [f]
    show pairsL (UInt8.ofNat (byteAt (pathL s) 0).toNat :: (pathL s).drop 1) = s
    rw [← d1, pairs_path]
  · rw [if_neg ho]
    have h2 : byteAt (pathL s) 1 = 0 := by
      rcases h2 with h2 | h2
      · exact absurd h2 ho
      · exact h2
    have e : decide ((((pathL s).drop 2).length : Int) % 2 = 1) = false := decide_eq_false (by rw [List.length_drop]; omega)
    unfold nputL
    rw [e]
    have f : flagN (decide (2 ≤ byteAt (pathL s) 0)) false = byteAt (pathL s) 0 := by
      by_cases c : 2 ≤ byteAt (pathL s) 0
      · rw [decide_eq_true c]; show (2 : Int) + 0 = _; omega
      · rw [decide_eq_false c]; show (0 : Int) + 0 = _; omega
    rw [f]
    have d2 : (pathL s).drop 1 = 0 :: (pathL s).drop 2 := by
      have hne : (pathL s).drop 1 ≠ [] := by
        intro e0
        have := congrArg List.length e0
        rw [List.length_drop] at this
        simp at this; omega
      have d := drop_one hne
      have e1 : byteAt ((pathL s).drop 1) 0 = byteAt (pathL s) 1 := by
        unfold byteAt
        rw [List.getD_eq_getElem?_getD, List.getD_eq_getElem?_getD, List.getElem?_drop]; rfl
      rw [e1, h2, List.drop_drop] at d
      exact d
    show pairsL (UInt8.ofNat (byteAt (pathL s) 0).toNat :: 0 :: (pathL s).drop 2) = s
    rw [← d2, ← d1, pairs_path]
theorem nget_fit {s : List UInt8} {n : Nat} {leaf : Bool} (h : nputL ((pathL s).drop n) leaf = s) : ngetB s = true ∧ ngetLeaf s = leaf ∧ ngetP s = (pathL s).drop n := by
  have := nget_nput (pathB_nib s n) leaf
  rwa [h] at this
theorem nget_none {s : List UInt8} (h : ∀ n leaf, n = 1 ∨ n = 2 → n ≤ (pathL s).length → nputL ((pathL s).drop n) leaf ≠ s) : ngetB s = false := by
  cases hb : ngetB s with
  | false => rfl
  | true =>
    exfalso
    have hp := nput_nget hb
    obtain ⟨h0, _, _⟩ := nget_iff.1 hb
    have hl := pathL_len s
    have hpos := List.length_pos_iff.2 h0
    unfold ngetP at hp
    split at hp
    · exact h 1 _ (.inl rfl) (by omega) hp
    · exact h 2 _ (.inr rfl) (by omega) hp
/-! ### A hash by its first byte -/
theorem hash_form {t : List UInt8} (h : t.length = 33) (h0 : byteAt t 0 = 160) : textOf (t.drop 1) = t := by
  have hne : t ≠ [] := fun e => by rw [e] at h; simp at h
  have d := drop_one hne
  have hl : (t.drop 1).length = 32 := by rw [List.length_drop]; omega
  unfold textOf
  rw [if_neg (by omega), hl]
  unfold headOf
  rw [if_pos (by decide)]
  rw [h0] at d
  exact d.symm
theorem hash33 {t : List UInt8} : hashB t = true ↔ t.length = 33 ∧ byteAt t 0 = 160 := by
  constructor
  · intro h
    have hl := hash_len h
    obtain ⟨⟨h1, h2, h3⟩, h4⟩ := hash_iff.1 h
    refine ⟨hl, ?_⟩
    have e := cut_only h1
    rw [h2, h3, List.append_nil] at e
    have e2 : textOf (cutIn t) = t := e
    rw [← e2]
    unfold textOf
    rw [if_neg (by omega), h4]
    rfl
  · rintro ⟨h, h0⟩
    have e := hash_form h h0
    obtain ⟨g1, g2, g3, g4⟩ := text_whole (b := t.drop 1) (by rw [List.length_drop]; omega)
    rw [e] at g1 g2 g3 g4
    exact hash_iff.2 ⟨⟨g1, g2, g4⟩, by rw [g3, List.length_drop]; omega⟩
theorem hash_in {t : List UInt8} (h : t.length = 33) (h0 : byteAt t 0 = 160) : cutIn t = t.drop 1 := by
  have e := hash_form h h0
  have g := (text_whole (b := t.drop 1) (by rw [List.length_drop]; omega)).2.2.1
  rwa [e] at g
/-! ### How many refs there are -/
theorem full_nn (r : Nat → List UInt8) : ∀ n, 0 ≤ fullN r n ∧ fullN r n ≤ n
  | 0 => ⟨Int.le_refl _, Int.le_refl _⟩
  | n + 1 => by
    have := full_nn r n
    unfold fullN
    split <;> omega
theorem full_zero {r : Nat → List UInt8} : ∀ {n : Nat}, fullN r n = 0 ↔ ∀ j, j < n → r j = []
  | 0 => ⟨fun _ j hj => absurd hj (Nat.not_lt_zero _), fun _ => rfl⟩
  | n + 1 => by
    have ih := full_zero (r := r) (n := n)
    have hn := full_nn r n
    unfold fullN
    by_cases e : r n = []
    · rw [if_pos e, ih]
      constructor
      · intro h j hj
        by_cases ej : j = n
        · subst ej; exact e
        · exact h j (by omega)
      · intro h j hj; exact h j (by omega)
    · rw [if_neg e]
      constructor
      · intro h; omega
      · intro h; exact absurd (h n (by omega)) e
theorem behind_zero {r : Nat → List UInt8} : ∀ {n : Nat}, behindI r n = 0 ↔ ∀ j, j < n → r j = []
  | 0 => ⟨fun _ j hj => absurd hj (Nat.not_lt_zero _), fun _ => rfl⟩
  | n + 1 => by
    have ih := behind_zero (r := r) (n := n)
    unfold behindI
    by_cases e : r n = []
    · rw [if_pos e, ih]
      constructor
      · intro h j hj
        by_cases ej : j = n
        · subst ej; exact e
        · exact h j (by omega)
      · intro h j hj; exact h j (by omega)
    · rw [if_neg e]
      constructor
      · intro h; omega
      · intro h; exact absurd (h n (by omega)) e
theorem full_behind (r : Nat → List UInt8) : decide (fullN r 16 = 0) = decide (behindI r 16 = 0) := by
  rw [decide_eq_decide, full_zero, behind_zero]
theorem full_one {r : Nat → List UInt8} (h0 : r 0 ≠ []) : decide (fullN r 16 = 1) = decide (behindI r 16 = 1) := by
  rw [decide_eq_decide]
  have key : ∀ n, 1 ≤ n → (fullN r n = 1 ↔ ∀ j, 1 ≤ j → j < n → r j = []) ∧ (behindI r n = 1 ↔ ∀ j, 1 ≤ j → j < n → r j = []) ∧ 1 ≤ fullN r n ∧ 1 ≤ behindI r n := by
    intro n
    induction n with
    | zero => intro h; omega
    | succ n ih =>
      intro _
      by_cases hn : n = 0
      · subst hn
        have e1 : fullN r 1 = 1 := by rw [fullN, if_neg h0]; rfl
        have e2 : behindI r 1 = 1 := by rw [behindI, if_neg h0]; rfl
        exact ⟨⟨fun _ j h1 h2 => by omega, fun _ => e1⟩, ⟨fun _ j h1 h2 => by omega, fun _ => e2⟩, Int.le_of_eq e1.symm, Int.le_of_eq e2.symm⟩
      · obtain ⟨i1, i2, i3, i4⟩ := ih (by omega)
        unfold fullN behindI
        by_cases e : r n = []
        · rw [if_pos e, if_pos e, i1, i2]
          have hh : (∀ j, 1 ≤ j → j < n → r j = []) ↔ ∀ j, 1 ≤ j → j < n + 1 → r j = [] := by
            constructor
            · intro h j h1 h2
              by_cases ej : j = n
              · subst ej; exact e
              · exact h j h1 (by omega)
            · intro h j h1 h2; exact h j h1 (by omega)
          exact ⟨hh, hh, i3, i4⟩
        · rw [if_neg e, if_neg e]
          refine ⟨⟨fun h => by omega, fun h => absurd (h n (by omega) (by omega)) e⟩, ⟨fun h => by omega, fun h => absurd (h n (by omega) (by omega)) e⟩, by omega, by omega⟩
  have := key 16 (by decide)
  rw [this.1, this.2.1]
end Go.Proofs.YtkfdcapnogklfaaGreatDoor
/-
  The reference's rlp: bytes of numbers: the set-up.
-/
namespace Go.Proofs.YtkfdcapnogklfaaGreatDoor
open Go Sx
set_option maxRecDepth 20000
def byteSpec (k : Nat) : List SV → Option (Prop × SV)
  | [.int .u64 false n] => some (0 ≤ n ∧ n < 256 ^ k, .str false (dig k n))
  | _ => none
noncomputable def cfgB2 (pt : PT) : Cfg := { cfg0 with summ := fun f => lookPT f ((79, pt) :: list7) }
theorem goodB2 {pt : PT} (h : CallOk Tryz.prog 79 pt) (hm : MonoPT pt) : Sx.Good Tryz.prog (cfgB2 pt) := ⟨mixes, SummOk.cons h hm list7_ok, fns_ok⟩
end Go.Proofs.YtkfdcapnogklfaaGreatDoor
/-
  Conditions that the executor computes, written out by a program (vcgen.py).
-/
namespace Go.Proofs.YtkfdcapnogklfaaGreatDoor
open Go Sx
set_option maxRecDepth 20000
theorem vcBytes0 (n : Int) (R : SV → Prop) : VC.holds (runP (cfgB2 noPT) 79 Tryz.f79 [.int .u64 false n] R) = ((decide (n = (0 : Int)) = true →
 R (SV.str true [])) ∧
 (decide (n = (0 : Int)) = false →
 ((0 : Int) ≤ n ∧
 n ≤ (18446744073709551615 : Int) ∧
 (0 : Int) < (256 : Int)) ∧
 ((0 : Int) ≤ n ∧
 n ≤ (18446744073709551615 : Int) ∧
 (0 : Int) < (256 : Int)) ∧
 False ∧
 False)) := by kernel_rfl
theorem vcBytesS (k : Nat) (n : Int) (R : SV → Prop) : VC.holds (runP (cfgB2 (purePT (byteSpec k))) 79 Tryz.f79 [.int .u64 false n] R) = ((decide (n = (0 : Int)) = true →
 R (SV.str true [])) ∧
 (decide (n = (0 : Int)) = false →
 ((0 : Int) ≤ n ∧
 n ≤ (18446744073709551615 : Int) ∧
 (0 : Int) < (256 : Int)) ∧
 ((0 : Int) ≤ n ∧
 n ≤ (18446744073709551615 : Int) ∧
 (0 : Int) < (256 : Int)) ∧
 (((0 : Int) ≤ n / (256 : Int) ∧
 n / (256 : Int) < (256 : Int) ^ k) ∧
 (↑(dig k (n / (256 : Int))).length : Int) + (↑(1 : Nat) : Int) ≤ (9223372036854775807 : Int) ∧
 R (SV.str false (cat (dig k (n / (256 : Int))) [UInt8.ofNat (n % (256 : Int) % (256 : Int)).toNat]))) ∧
 ((0 : Int) ≤ n / (256 : Int) ∧
 n / (256 : Int) < (256 : Int) ^ k) ∧
 some (SB.cells (setRange (times 1 (SV.int .u8 true 0).cells) 0 (SV.int .u8 false (n % (256 : Int) % (256 : Int))).cells) 1 5) = some (SB.cells (setRange (times 1 (SV.int .u8 true 0).cells) 0 (SV.int .u8 false (n % (256 : Int) % (256 : Int))).cells) 1 5) ∧
 (↑(dig k (n / (256 : Int))).length : Int) + (↑(1 : Nat) : Int) ≤ (9223372036854775807 : Int) ∧
 R (SV.str false (cat (dig k (n / (256 : Int))) [UInt8.ofNat (n % (256 : Int) % (256 : Int)).toNat])))) := by kernel_rfl
end Go.Proofs.YtkfdcapnogklfaaGreatDoor
/-
  The reference's rlp: bytes of numbers: the contract; texts, numbers, rows: the set-up.
-/
namespace Go.Proofs.YtkfdcapnogklfaaGreatDoor
open Go Sx
set_option maxRecDepth 20000
theorem bytes_zero {n : Int} (h0 : 0 ≤ n) (h1 : n < 256 ^ 0) : Holds (runP (cfgB2 noPT) 79 Tryz.f79 [.int .u64 false n] (fun v => sameVal v (.str false (dig 0 n)))) := by
  refine Holds.of_eq (vcBytes0 n _) ?_
  have h1 : n < 1 := h1
  obtain rfl : n = 0 := by omega
  exact ⟨fun _ => fun _ => rfl, fun h => by simp at h⟩
theorem bytes_run {k : Nat} {n : Int} (h0 : 0 ≤ n) (h1 : n < 256 ^ (k + 1)) (hk : k < 8) : Holds (runP (cfgB2 (purePT (byteSpec k))) 79 Tryz.f79 [.int .u64 false n] (fun v => sameVal v (.str false (dig (k + 1) n)))) := by
  refine Holds.of_eq (vcBytesS k n _) ?_
  have hl := dig_len k (n / 256)
  have h3 : n < 18446744073709551616 := by
    have : ∀ j, j ≤ 8 → (256 : Int) ^ j ≤ 18446744073709551616 := by decide
    exact Int.lt_of_lt_of_le h1 (this (k + 1) (by omega))
  rw [Int.pow_succ] at h1
  generalize (256 : Int) ^ k = p at *
  refine ⟨fun h => ?_, fun h => ?_⟩
  · have h : n = 0 := by simpa using h
    subst h
    rw [dig_zero (Int.le_refl _)]; exact fun _ => rfl
  · have h : ¬ n = 0 := by simpa using h
    have e : sameVal (.str false (cat (dig k (n / 256)) [UInt8.ofNat (n % 256 % 256).toNat])) (.str false (dig (k + 1) n)) := by
      apply str_same
      rw [dig_pos (by omega), Int.emod_emod]; rfl
    exact ⟨by omega, by omega, ⟨⟨by omega, by omega⟩, by omega, e⟩, ⟨by omega, by omega⟩, rfl, by omega, e⟩
theorem bytes_ok' : ∀ k, k ≤ 8 → CallOk Tryz.prog 79 (purePT (byteSpec k))
  | 0, _ => by
    refine pure_ok (goodB2 (noPT_ok _) noPT_mono) (n := 20) (fn := Tryz.f79) Tryz.func79 (by kernel_rfl) (by kernel_rfl) ?_
    intro args p r h hp
    unfold byteSpec at h
    split at h
    · injection h with h; injection h with h1 h2; subst h1; subst h2
      exact ⟨rfl, rfl, bytes_zero hp.1 hp.2⟩
    · cases h
  | k + 1, hk => by
    refine pure_ok (goodB2 (bytes_ok' k (by omega)) (purePT_mono _)) (n := 20) (fn := Tryz.f79) Tryz.func79 (by kernel_rfl) (by kernel_rfl) ?_
    intro args p r h hp
    unfold byteSpec at h
    split at h
    · injection h with h; injection h with h1 h2; subst h1; subst h2
      exact ⟨rfl, rfl, bytes_run hp.1 hp.2 (by omega)⟩
    · cases h
theorem bytes_ok : CallOk Tryz.prog 79 (purePT digitsSpec) := by
  refine pure_ok (goodB2 (bytes_ok' 7 (by omega)) (purePT_mono _)) (n := 20) (fn := Tryz.f79) Tryz.func79 (by kernel_rfl) (by kernel_rfl) ?_
  intro args p r h hp
  unfold digitsSpec at h
  split at h
  · injection h with h; injection h with h1 h2; subst h1; subst h2
    exact ⟨rfl, rfl, bytes_run hp.1 hp.2 (by omega)⟩
  · cases h
noncomputable def listG1 : List (FuncId × PT) := (79, purePT digitsSpec) :: list7
theorem listG1_ok : SummOk Tryz.prog (fun f => lookPT f listG1) := .cons bytes_ok (purePT_mono _) list7_ok
noncomputable def cfgG1 : Cfg := { cfg0 with summ := fun f => lookPT f listG1 }
theorem goodG1 : Sx.Good Tryz.prog cfgG1 := ⟨mixes, listG1_ok, fns_ok⟩
noncomputable def annNum2 (l : List UInt8) : LoopAnn :=
  { α := Int, pre := fun _ i => 0 ≤ i ∧ i ≤ l.length, mea := fun _ i => (l.length - i).toNat, fresh := 0, slots := fun _ i => [(3, .int .u64 false (num (l.take i.toNat))), (4, .int .i64 false i)], mem := fun _ _ => [] }
noncomputable def cfgNum2 (l : List UInt8) : Cfg := { cfg0 with summ := fun f => lookPT f listG1, anns := fun f => if f = 95 then [(3, always (annNum2 l))] else [] }
theorem goodNum2 (l : List UInt8) : Sx.Good Tryz.prog (cfgNum2 l) := ⟨mixes, listG1_ok, fns_ok⟩
noncomputable def annJoin2 (n : Nat) (f : Nat → List UInt8) : LoopAnn :=
  { α := Nat, pre := fun _ i => i ≤ n, mea := fun _ i => n - i, fresh := 0, slots := fun _ i => [(3, .str false (flat (rowL f 0 i))), (4, .int .i64 false i)], mem := fun _ _ => [] }
noncomputable def cfgJ2 (n : Nat) (f : Nat → List UInt8) : Cfg := { cfg0 with summ := fun f => lookPT f listG1, anns := fun g => if g = 69 then [(3, always (annJoin2 n f))] else [] }
theorem goodJ2 (n : Nat) (f : Nat → List UInt8) : Sx.Good Tryz.prog (cfgJ2 n f) := ⟨mixes, listG1_ok, fns_ok⟩
end Go.Proofs.YtkfdcapnogklfaaGreatDoor
/-
  Conditions that the executor computes, written out by a program (vcgen.py).
-/
namespace Go.Proofs.YtkfdcapnogklfaaGreatDoor
open Go Sx
set_option maxRecDepth 20000
theorem vcWrap2 (b : List UInt8) (base : Int) (R : SV → Prop) : VC.holds (runP cfgG1 61 Tryz.f61 [.str false b, .int .i64 false base] R) = (((decide ((b.length : Int) ≤ 55) = true → ((-9223372036854775808 : Int) ≤ base + (b.length : Int) ∧ base + (b.length : Int) ≤ 9223372036854775807) ∧ (↑(1 : Nat) : Int) + (b.length : Int) ≤ 9223372036854775807 ∧ R (SV.str false (cat [UInt8.ofNat ((base + (b.length : Int)) % 256).toNat] b))) ∧ (decide ((b.length : Int) ≤ 55) = false → (0 ≤ (b.length : Int) % 18446744073709551616 ∧ (b.length : Int) % 18446744073709551616 < (18446744073709551616 : Int)) ∧ ((-9223372036854775808 : Int) ≤ base + 55 ∧ base + 55 ≤ (9223372036854775807 : Int)) ∧ ((-9223372036854775808 : Int) ≤ base + 55 + (↑(digits ((b.length : Int) % 18446744073709551616)).length : Int) ∧ base + 55 + (↑(digits ((b.length : Int) % 18446744073709551616)).length : Int) ≤ 9223372036854775807) ∧ (↑(1 : Nat) : Int) + (↑(digits ((b.length : Int) % 18446744073709551616)).length : Int) ≤ 9223372036854775807 ∧ (↑(cat [UInt8.ofNat ((base + 55 + (↑(digits ((b.length : Int) % 18446744073709551616)).length : Int)) % 256).toNat] (digits ((b.length : Int) % 18446744073709551616))).length : Int) + (b.length : Int) ≤ 9223372036854775807 ∧
 R (SV.str false (cat (cat [UInt8.ofNat ((base + 55 + (↑(digits ((b.length : Int) % 18446744073709551616)).length : Int)) % 256).toNat] (digits ((b.length : Int) % 18446744073709551616))) b))))) := by kernel_rfl
theorem vcTextR (b : List UInt8) (R : SV → Prop) : VC.holds (runP cfgG1 36 Tryz.f36 [.str false b] R) = (((decide ((b.length : Int) = 1) = true → ((0 : Int) ≤ (0 : Int) ∧ 0 < (b.length : Int)) ∧ (decide (byteAt b 0 < 128) = true → R (SV.str false b)) ∧ (decide (byteAt b 0 < 128) = false → (decide ((b.length : Int) ≤ 55) = true → ((-9223372036854775808 : Int) ≤ 128 + (b.length : Int) ∧ 128 + (b.length : Int) ≤ 9223372036854775807) ∧ (↑(1 : Nat) : Int) + (b.length : Int) ≤ 9223372036854775807 ∧ R (SV.str false (cat [UInt8.ofNat ((128 + (b.length : Int)) % 256).toNat] b))) ∧ (decide ((b.length : Int) ≤ 55) = false → (0 ≤ (b.length : Int) % 18446744073709551616 ∧ (b.length : Int) % 18446744073709551616 < (18446744073709551616 : Int)) ∧ ((-9223372036854775808 : Int) ≤ 183 + (↑(digits ((b.length : Int) % 18446744073709551616)).length : Int) ∧ 183 + (↑(digits ((b.length : Int) % 18446744073709551616)).length : Int) ≤ 9223372036854775807) ∧ (↑(1 : Nat) : Int) + (↑(digits ((b.length : Int) % 18446744073709551616)).length : Int) ≤ 9223372036854775807 ∧ (↑(cat [UInt8.ofNat ((183 + (↑(digits ((b.length : Int) % 18446744073709551616)).length : Int)) % 256).toNat] (digits ((b.length : Int) % 18446744073709551616))).length : Int) + (b.length : Int) ≤ 9223372036854775807 ∧
 R (SV.str false (cat (cat [UInt8.ofNat ((183 + (↑(digits ((b.length : Int) % 18446744073709551616)).length : Int)) % 256).toNat] (digits ((b.length : Int) % 18446744073709551616))) b))))) ∧ (decide ((b.length : Int) = 1) = false → (decide ((b.length : Int) ≤ 55) = true → ((-9223372036854775808 : Int) ≤ 128 + (b.length : Int) ∧ 128 + (b.length : Int) ≤ 9223372036854775807) ∧ (↑(1 : Nat) : Int) + (b.length : Int) ≤ 9223372036854775807 ∧ R (SV.str false (cat [UInt8.ofNat ((128 + (b.length : Int)) % 256).toNat] b))) ∧ (decide ((b.length : Int) ≤ 55) = false → (0 ≤ (b.length : Int) % 18446744073709551616 ∧ (b.length : Int) % 18446744073709551616 < (18446744073709551616 : Int)) ∧ ((-9223372036854775808 : Int) ≤ 183 + (↑(digits ((b.length : Int) % 18446744073709551616)).length : Int) ∧ 183 + (↑(digits ((b.length : Int) % 18446744073709551616)).length : Int) ≤ 9223372036854775807) ∧ (↑(1 : Nat) : Int) + (↑(digits ((b.length : Int) % 18446744073709551616)).length : Int) ≤ 9223372036854775807 ∧
 (↑(cat [UInt8.ofNat ((183 + (↑(digits ((b.length : Int) % 18446744073709551616)).length : Int)) % 256).toNat] (digits ((b.length : Int) % 18446744073709551616))).length : Int) + (b.length : Int) ≤ 9223372036854775807 ∧ R (SV.str false (cat (cat [UInt8.ofNat ((183 + (↑(digits ((b.length : Int) % 18446744073709551616)).length : Int)) % 256).toNat] (digits ((b.length : Int) % 18446744073709551616))) b)))))) := by kernel_rfl
theorem vcNumber2 (l : List UInt8) (R : SV → Prop) : VC.holds (runP (cfgNum2 l) 95 Tryz.f95 [.str false l] R) = (((∃ (u2 : Int), (0 ≤ u2 ∧ u2 ≤ (l.length : Int)) ∧ 0 = num (List.take u2.toNat l) ∧ 0 = u2 ∧ True) ∧ ∀ (u1 : Int), 0 ≤ u1 ∧ u1 ≤ (l.length : Int) → (decide (u1 < (l.length : Int)) = true → (0 ≤ u1 ∧ u1 < (l.length : Int)) ∧ (0 ≤ byteAt l u1 ∧ byteAt l u1 ≤ 18446744073709551615) ∧ ((-9223372036854775808 : Int) ≤ u1 + 1 ∧ u1 + 1 ≤ (9223372036854775807 : Int)) ∧ ∃ (u0 : Int), ((0 ≤ u0 ∧ u0 ≤ (l.length : Int)) ∧ ((l.length : Int) - u0).toNat < ((l.length : Int) - u1).toNat) ∧ (num (List.take u1.toNat l) * 256 % 18446744073709551616 + byteAt l u1) % 18446744073709551616 = num (List.take u0.toNat l) ∧ u1 + 1 = u0 ∧ True) ∧ (decide (u1 < (l.length : Int)) = false → R (SV.int .u64 false (num (List.take u1.toNat l)))))) := by kernel_rfl
theorem vcJoin2 (n : Nat) (f : Nat → List UInt8) (z : Bool) (o c : Nat) (key : Option Nat) : VC.holds (runS (cfgJ2 n f) 69 Tryz.f69 [.vslc 0 1 z o 0 n c] [⟨key, z, o, n, c, [.str f]⟩] (.ret (.str false (flat (rowL f 0 n))))) = (((∃ (u2 : Nat), u2 ≤ n ∧ [] = flat (rowL f 0 u2) ∧ 0 = (u2 : Int) ∧ SBle { key := key, z := z, o := o, n := n, c := c, cols := [Col.str f] : Seen }.B { key := key, z := z, o := o, n := n, c := c, cols := [Col.str f] : Seen }.B ∧ True) ∧ ∀ (u1 : Nat), u1 ≤ n → (decide ((u1 : Int) < (n : Int)) = true → (0 ≤ (u1 : Int) ∧ (u1 : Int) < (n : Int)) ∧ (o = o ∧ 0 + (u1 : Int).toNat < n) ∧ (↑(flat (rowL f 0 u1)).length : Int) + (↑(f (0 + (u1 : Int).toNat)).length : Int) ≤ 9223372036854775807 ∧ ((-9223372036854775808 : Int) ≤ (u1 : Int) + 1 ∧ (u1 : Int) + 1 ≤ (9223372036854775807 : Int)) ∧ ∃ (u0 : Nat), (u0 ≤ n ∧ n - u0 < n - u1) ∧ cat (flat (rowL f 0 u1)) (f (0 + (u1 : Int).toNat)) = flat (rowL f 0 u0) ∧ (u1 : Int) + 1 = (u0 : Int) ∧ SBle { key := key, z := z, o := o, n := n, c := c, cols := [Col.str f] : Seen }.B { key := key, z := z, o := o, n := n, c := c, cols := [Col.str f] : Seen }.B ∧ True) ∧ (decide ((u1 : Int) < (n : Int)) = false → sameVal (SV.str false (flat (rowL f 0 u1))) (SV.str false (flat (rowL f 0 n)))))) := by kernel_rfl
end Go.Proofs.YtkfdcapnogklfaaGreatDoor
/-
  The reference's rlp: texts, numbers, rows of texts: the contracts; lists, numbers as items: the set-up.
-/
namespace Go.Proofs.YtkfdcapnogklfaaGreatDoor
open Go Sx
set_option maxRecDepth 20000
theorem wrap2_str {b : List UInt8} {base : Int} (h1 : base = 128 ∨ base = 192) (h2 : b.length < 1152921504606846976) :
    (decide ((b.length : Int) ≤ 55) = true → cat [UInt8.ofNat ((base + (b.length : Int)) % 256).toNat] b = headOf base b.length ++ b) ∧
    (decide ((b.length : Int) ≤ 55) = false → cat (cat [UInt8.ofNat ((base + 55 + ((digits ((b.length : Int) % 18446744073709551616)).length : Int)) % 256).toNat] (digits ((b.length : Int) % 18446744073709551616))) b = headOf base b.length ++ b) := by
  have e : (b.length : Int) % 18446744073709551616 = b.length := by omega
  have hd := digits_len b.length
  constructor
  · intro h
    simp only [decide_eq_true_eq] at h
    unfold headOf
    rw [if_pos (by omega), show (base + (b.length : Int)) % 256 = base + b.length by omega]; rfl
  · intro h
    simp only [decide_eq_false_iff_not] at h
    unfold headOf
    rw [e, if_neg (by omega), show (base + 55 + ((digits (b.length : Int)).length : Int)) % 256 = base + 55 + ((digits (b.length : Int)).length : Int) by omega]; rfl
theorem wrap2_holds {b : List UInt8} {base : Int} (h1 : base = 128 ∨ base = 192) (h2 : b.length < 1152921504606846976) : Holds (runP cfgG1 61 Tryz.f61 [.str false b, .int .i64 false base] (fun v => sameVal v (.str false (headOf base b.length ++ b)))) := by
  refine Holds.of_eq (vcWrap2 b base _) ?_
  obtain ⟨g1, g2⟩ := wrap2_str h1 h2
  have hd := digits_len ((b.length : Int) % 18446744073709551616)
  refine ⟨fun h => ⟨by omega, by omega, str_same (g1 h)⟩, fun h => ⟨by omega, by omega, by omega, by omega, ?_, str_same (g2 h)⟩⟩
  simp only [cat, List.length_append, List.length_cons, List.length_nil]; omega
def wrap2Spec : List SV → Option (Prop × SV)
  | [.str false b, .int .i64 false base] => some ((base = 128 ∨ base = 192) ∧ b.length < 1152921504606846976, .str false (headOf base b.length ++ b))
  | _ => none
theorem wrap2_ok : CallOk Tryz.prog 61 (purePT wrap2Spec) := by
  refine pure_ok goodG1 (n := 20) (fn := Tryz.f61) Tryz.func61 (by kernel_rfl) (by kernel_rfl) ?_
  intro args p r h hp
  unfold wrap2Spec at h
  split at h
  · injection h with h; injection h with h1 h2; subst h1; subst h2
    exact ⟨rfl, rfl, wrap2_holds hp.1 hp.2⟩
  · cases h
theorem text2_holds {b : List UInt8} (hb : b.length < 1152921504606846976) : Holds (runP cfgG1 36 Tryz.f36 [.str false b] (fun v => sameVal v (.str false (textOf b)))) := by
  refine Holds.of_eq (vcTextR b _) ?_
  obtain ⟨g1, g2⟩ := wrap2_str (base := 128) (.inl rfl) hb
  have hd := digits_len ((b.length : Int) % 18446744073709551616)
  have hc : ∀ x : UInt8, ((cat [x] (digits ((b.length : Int) % 18446744073709551616))).length : Int) ≤ 9 := fun x => by
    simp only [cat, List.length_append, List.length_cons, List.length_nil]; omega
  refine ⟨fun h => ⟨by simp at h; omega, fun h2 => str_same ?_, fun h2 => ?_⟩, fun h => ?_⟩
  · simp at h h2; exact (if_pos ⟨by omega, h2⟩).symm
  · have ht : headOf 128 b.length ++ b = textOf b := by
      simp only [decide_eq_false_iff_not] at h2
      exact (text_long fun x => h2 x.2).symm
    refine ⟨fun h => ⟨by omega, by omega, str_same ((g1 h).trans ht)⟩, fun h => ⟨by omega, by omega, by omega, ?_, str_same ((g2 h).trans ht)⟩⟩
    have := hc (UInt8.ofNat (((183 : Int) + ((digits ((b.length : Int) % 18446744073709551616)).length : Int)) % 256).toNat)
    omega
  · have ht : headOf 128 b.length ++ b = textOf b := by
      simp only [decide_eq_false_iff_not] at h
      exact (text_long fun x => h (by omega)).symm
    refine ⟨fun h => ⟨by omega, by omega, str_same ((g1 h).trans ht)⟩, fun h => ⟨by omega, by omega, by omega, ?_, str_same ((g2 h).trans ht)⟩⟩
    have := hc (UInt8.ofNat (((183 : Int) + ((digits ((b.length : Int) % 18446744073709551616)).length : Int)) % 256).toNat)
    omega
theorem text2_ok : CallOk Tryz.prog 36 (purePT textSpec) := by
  refine pure_ok goodG1 (n := 20) (fn := Tryz.f36) Tryz.func36 (by kernel_rfl) (by kernel_rfl) ?_
  intro args p r h hp
  unfold textSpec at h
  split at h
  · injection h with h; injection h with h1 h2; subst h1; subst h2
    exact ⟨rfl, rfl, text2_holds hp⟩
  · cases h
theorem number2_holds {l : List UInt8} (hl : l.length ≤ 8) : Holds (runP (cfgNum2 l) 95 Tryz.f95 [.str false l] (fun v => sameVal v (.int .u64 false (num l)))) := by
  refine Holds.of_eq (vcNumber2 l _) ?_
  refine ⟨⟨0, by omega, rfl, rfl, trivial⟩, fun x ⟨h1, h2⟩ => ⟨fun h => ?_, fun h => ?_⟩⟩
  · simp only [decide_eq_true_eq] at h
    have h3 := num_lt7 h1 h hl
    have h4 := num_nn (l.take x.toNat)
    have h5 := byteAt_lt l x
    refine ⟨by omega, by omega, by omega, x + 1, by omega, ?_, rfl, trivial⟩
    rw [num_take h1 h]; omega
  · simp only [decide_eq_false_iff_not] at h
    obtain rfl : x = l.length := by omega
    rw [Int.toNat_natCast, List.take_length]; exact fun _ => rfl
def number2Spec : List SV → Option (Prop × SV)
  | [.str false l] => some (l.length ≤ 8, .int .u64 false (num l))
  | _ => none
theorem number2_ok : CallOk Tryz.prog 95 (ansPT fun l => (number2Spec l).map fun p => (p.1, .ret p.2)) := by
  refine ans_ok (n := 20) (fn := Tryz.f95) Tryz.func95 (by kernel_rfl) (by kernel_rfl) ?_
  intro args p a h hp
  unfold number2Spec at h
  split at h
  · rename_i l
    injection h with h; injection h with h1 h2; subst h1; subst h2
    exact ⟨_, goodNum2 l, rfl, rfl, number2_holds hp⟩
  · cases h
theorem rowL_succ (f : Nat → List UInt8) (i : Nat) : rowL f 0 (i + 1) = rowL f 0 i ++ [f i] := by
  unfold rowL
  rw [List.range_succ, List.map_append]; simp
theorem flat_snoc (l : List (List UInt8)) (a : List UInt8) : flat (l ++ [a]) = flat l ++ a := by simp [flat]
theorem flat_row_le (f : Nat → List UInt8) {i : Nat} : ∀ {n : Nat}, i ≤ n → (flat (rowL f 0 i)).length ≤ (flat (rowL f 0 n)).length
  | 0, h => by obtain rfl : i = 0 := by omega
               exact Nat.le_refl _
  | n + 1, h => by
    by_cases e : i = n + 1
    · subst e; exact Nat.le_refl _
    · have := flat_row_le f (i := i) (n := n) (by omega)
      rw [rowL_succ, flat_snoc, List.length_append]; omega
theorem join2_holds {n : Nat} {f : Nat → List UInt8} (z : Bool) (o c : Nat) (key : Option Nat) (hf : (flat (rowL f 0 n)).length < 1152921504606846976) (hn : n < 1152921504606846976) :
    Holds (runS (cfgJ2 n f) 69 Tryz.f69 [.vslc 0 1 z o 0 n c] [⟨key, z, o, n, c, [.str f]⟩] (.ret (.str false (flat (rowL f 0 n))))) := by
  refine Holds.of_eq (vcJoin2 n f z o c key) ?_
  refine ⟨⟨0, Nat.zero_le _, rfl, rfl, SBle.refl _, trivial⟩, fun x hx => ⟨fun h => ?_, fun h => ?_⟩⟩
  · simp only [decide_eq_true_eq] at h
    have h1 := flat_row_le f (i := x + 1) (n := n) (by omega)
    rw [rowL_succ, flat_snoc, List.length_append] at h1
    simp only [Int.toNat_natCast, Nat.zero_add]
    refine ⟨by omega, ⟨trivial, by omega⟩, by omega, by omega, x + 1, by omega, ?_, by omega, SBle.refl _, trivial⟩
    rw [rowL_succ, flat_snoc]; rfl
  · simp only [decide_eq_false_iff_not] at h
    obtain rfl : x = n := by omega
    exact fun _ => rfl
def joinQ (l : List (List UInt8)) : Prop := (flat l).length < 1152921504606846976 ∧ l.length < 1152921504606846976
def joinG (l : List (List UInt8)) : SV := .str false (flat l)
theorem join2_ok : CallOk Tryz.prog 69 (strsPT joinQ joinG) := by
  refine strs_ok (ansV_ok (n := 20) (fn := Tryz.f69) Tryz.func69 (by kernel_rfl) (by kernel_rfl) ?_)
  intro vs l q a h hq
  unfold strsSpec at h
  split at h
  · rename_i n f r hx
    obtain ⟨z, o, c, key⟩ := r
    injection h with h; injection h with h1 h2; subst h1; subst h2
    obtain ⟨e1, e2⟩ := rowOf_eq hx
    rw [e1, e2]
    exact ⟨_, goodJ2 n f, rfl, rfl, join2_holds z o c key hq.1 (by have := hq.2; rwa [rowL_len] at this)⟩
  · cases h
noncomputable def number2PT : PT := ansPT fun l => (number2Spec l).map fun p => (p.1, .ret p.2)
noncomputable def listG2 : List (FuncId × PT) := (61, purePT wrap2Spec) :: (36, purePT textSpec) :: (95, number2PT) :: (69, strsPT joinQ joinG) :: listG1
theorem listG2_ok : SummOk Tryz.prog (fun f => lookPT f listG2) := .cons wrap2_ok (purePT_mono _) (.cons text2_ok (purePT_mono _) (.cons number2_ok (ansPT_mono _) (.cons join2_ok (strsPT_mono _ _) listG1_ok)))
noncomputable def cfgG2 : Cfg := { cfg0 with summ := fun f => lookPT f listG2 }
theorem goodG2 : Sx.Good Tryz.prog cfgG2 := ⟨mixes, listG2_ok, fns_ok⟩
end Go.Proofs.YtkfdcapnogklfaaGreatDoor
/-
  Conditions that the executor computes, written out by a program (vcgen.py).
-/
namespace Go.Proofs.YtkfdcapnogklfaaGreatDoor
open Go Sx
set_option maxRecDepth 20000
def head2B (s : List UInt8) : Bool := !decide (s = []) && (decide (byteAt s 0 < 128) || !decide (55 < lead s) || decide (lead s - 54 ≤ s.length))
def head2A (s : List UInt8) : Ans := .fork (head2B s) fun b => match b with
  | true => .ret (.tup [.bool false (cutL s), .int .i64 false (cutFrom s), .int .u64 false (cutN s), .bool true true])
  | false => .ret (.tup [.bool true false, .int .i64 true 0, .int .u64 true 0, .bool true false])
def listG (l : List (List UInt8)) : SV := .str false (headOf 192 (flat l).length ++ flat l)
theorem vcList2 (n : Nat) (f : Nat → List UInt8) (z : Bool) (o c : Nat) (key : Option Nat) : VC.holds (runT cfgG2 46 Tryz.f46 n f z o c key listG) = ((((z = z ∧ o = o ∧ 0 + n ≤ n) ∧ joinQ (rowL f 0 n)) ∧ (((192 : Int) = (128 : Int) ∨ (192 : Int) = (192 : Int)) ∧ (flat (rowL f 0 n)).length < 1152921504606846976) ∧ sameVal (SV.str false (headOf 192 (flat (rowL f 0 n)).length ++ flat (rowL f 0 n))) (listG (rowL f 0 n)))) := by kernel_rfl
theorem vcHead2 (s : List UInt8) : VC.holds (runA cfgG2 76 Tryz.f76 [.str false s] (head2A s)) = ((fun P0 : SV => ((fun P1 : SV => ((fun P2 : SV => ((fun P3 : SV => (((decide (s = []) = true → (head2B s = true → sameVal P0 P1) ∧ (head2B s = false → sameVal P0 P0)) ∧ (decide (s = []) = false → ((0 : Int) ≤ (0 : Int) ∧ 0 < (s.length : Int)) ∧ ((-9223372036854775808 : Int) ≤ byteAt s 0 ∧ byteAt s 0 ≤ 9223372036854775807) ∧ (decide (byteAt s 0 < 128) = true → (head2B s = true → sameVal (SV.tup [SV.bool true false, SV.int .i64 true 0, SV.int .u64 true 1, SV.bool true true]) P1) ∧ (head2B s = false → sameVal (SV.tup [SV.bool true false, SV.int .i64 true 0, SV.int .u64 true 1, SV.bool true true]) P0)) ∧ (decide (byteAt s 0 < 128) = false → (decide (192 ≤ byteAt s 0) = true → (decide (byteAt s 0 ≤ 247) = true → ((-9223372036854775808 : Int) ≤ byteAt s 0 - 192 ∧ byteAt s 0 - 192 ≤ (9223372036854775807 : Int)) ∧ (head2B s = true → sameVal (SV.tup [SV.bool (false && true) (decide (192 ≤ byteAt s 0)), SV.int .i64 true 1, SV.int .u64 false ((byteAt s 0 - 192) % 18446744073709551616), SV.bool true true]) P1) ∧ (head2B s = false → sameVal (SV.tup [SV.bool (false && true) (decide (192 ≤ byteAt s 0)), SV.int .i64 true 1, SV.int .u64 false ((byteAt s 0 - 192) % 18446744073709551616), SV.bool true true]) P0)) ∧ (decide (byteAt s 0 ≤ 247) = false →
 ((-9223372036854775808 : Int) ≤ byteAt s 0 - 192 ∧ byteAt s 0 - 192 ≤ (9223372036854775807 : Int)) ∧ ((-9223372036854775808 : Int) ≤ byteAt s 0 - 192 - (55 : Int) ∧ byteAt s 0 - 192 - (55 : Int) ≤ (9223372036854775807 : Int)) ∧ ((-9223372036854775808 : Int) ≤ 1 + (byteAt s 0 - 192 - (55 : Int)) ∧ 1 + (byteAt s 0 - 192 - (55 : Int)) ≤ 9223372036854775807) ∧ (decide ((s.length : Int) < 1 + (byteAt s 0 - 192 - (55 : Int))) = true → (head2B s = true → sameVal P0 P1) ∧ (head2B s = false → sameVal P0 P0)) ∧ (decide ((s.length : Int) < 1 + (byteAt s 0 - 192 - (55 : Int))) = false → ((-9223372036854775808 : Int) ≤ 1 + (byteAt s 0 - 192 - (55 : Int)) ∧ 1 + (byteAt s 0 - 192 - (55 : Int)) ≤ 9223372036854775807) ∧ ((-9223372036854775808 : Int) ≤ 1 + (byteAt s 0 - 192 - (55 : Int)) ∧ 1 + (byteAt s 0 - 192 - (55 : Int)) ≤ 9223372036854775807) ∧ ((0 : Int) ≤ (1 : Int) ∧ (1 : Int) ≤ 1 + (byteAt s 0 - 192 - (55 : Int)) ∧ 1 + (byteAt s 0 - 192 - (55 : Int)) ≤ (s.length : Int)) ∧ (subStr s (some (Operand.const (Value.int IntKind.i64 1))) (some (Operand.tmp 43)) 1 (1 + (byteAt s 0 - 192 - (55 : Int)))).length ≤ 8 ∧ (head2B s = true → sameVal P2 P1) ∧ (head2B s = false → sameVal P2 P0)))) ∧
 (decide (192 ≤ byteAt s 0) = false → (decide (byteAt s 0 ≤ 183) = true → ((-9223372036854775808 : Int) ≤ byteAt s 0 - 128 ∧ byteAt s 0 - 128 ≤ (9223372036854775807 : Int)) ∧ (head2B s = true → sameVal (SV.tup [SV.bool (false && true) (decide (192 ≤ byteAt s 0)), SV.int .i64 true 1, SV.int .u64 false ((byteAt s 0 - 128) % 18446744073709551616), SV.bool true true]) P1) ∧ (head2B s = false → sameVal (SV.tup [SV.bool (false && true) (decide (192 ≤ byteAt s 0)), SV.int .i64 true 1, SV.int .u64 false ((byteAt s 0 - 128) % 18446744073709551616), SV.bool true true]) P0)) ∧ (decide (byteAt s 0 ≤ 183) = false → ((-9223372036854775808 : Int) ≤ byteAt s 0 - 128 ∧ byteAt s 0 - 128 ≤ (9223372036854775807 : Int)) ∧ ((-9223372036854775808 : Int) ≤ byteAt s 0 - 128 - (55 : Int) ∧ byteAt s 0 - 128 - (55 : Int) ≤ (9223372036854775807 : Int)) ∧ ((-9223372036854775808 : Int) ≤ 1 + (byteAt s 0 - 128 - (55 : Int)) ∧ 1 + (byteAt s 0 - 128 - (55 : Int)) ≤ 9223372036854775807) ∧ (decide ((s.length : Int) < 1 + (byteAt s 0 - 128 - (55 : Int))) = true → (head2B s = true → sameVal P0 P1) ∧ (head2B s = false → sameVal P0 P0)) ∧ (decide ((s.length : Int) < 1 + (byteAt s 0 - 128 - (55 : Int))) = false →
 ((-9223372036854775808 : Int) ≤ 1 + (byteAt s 0 - 128 - (55 : Int)) ∧ 1 + (byteAt s 0 - 128 - (55 : Int)) ≤ 9223372036854775807) ∧ ((-9223372036854775808 : Int) ≤ 1 + (byteAt s 0 - 128 - (55 : Int)) ∧ 1 + (byteAt s 0 - 128 - (55 : Int)) ≤ 9223372036854775807) ∧ ((0 : Int) ≤ (1 : Int) ∧ (1 : Int) ≤ 1 + (byteAt s 0 - 128 - (55 : Int)) ∧ 1 + (byteAt s 0 - 128 - (55 : Int)) ≤ (s.length : Int)) ∧ (subStr s (some (Operand.const (Value.int IntKind.i64 1))) (some (Operand.tmp 43)) 1 (1 + (byteAt s 0 - 128 - (55 : Int)))).length ≤ 8 ∧ (head2B s = true → sameVal P3 P1) ∧ (head2B s = false → sameVal P3 P0))))))))) (SV.tup [SV.bool (false && true) (decide (192 ≤ byteAt s 0)), SV.int .i64 false (1 + (byteAt s 0 - 128 - (55 : Int))), SV.int .u64 false (num (subStr s (some (Operand.const (Value.int IntKind.i64 1))) (some (Operand.tmp 43)) 1 (1 + (byteAt s 0 - 128 - (55 : Int))))), SV.bool true true]))) (SV.tup [SV.bool (false && true) (decide (192 ≤ byteAt s 0)), SV.int .i64 false (1 + (byteAt s 0 - 192 - (55 : Int))), SV.int .u64 false (num (subStr s (some (Operand.const (Value.int IntKind.i64 1))) (some (Operand.tmp 43)) 1 (1 + (byteAt s 0 - 192 - (55 : Int))))), SV.bool true true]))) (SV.tup [SV.bool false (cutL s), SV.int .i64 false (cutFrom s), SV.int .u64 false (cutN s), SV.bool true true]))) (SV.tup [SV.bool true false, SV.int .i64 true 0, SV.int .u64 true 0, SV.bool true false])) := by kernel_rfl
end Go.Proofs.YtkfdcapnogklfaaGreatDoor
/-
  The reference's rlp: lists, numbers as items: the contracts; the first item: the set-up.
-/
namespace Go.Proofs.YtkfdcapnogklfaaGreatDoor
open Go Sx
set_option maxRecDepth 20000
theorem rlist2_ok : CallOk Tryz.prog 46 (strsPT joinQ listG) := by
  refine strs_ok (ansV_ok (n := 20) (fn := Tryz.f46) Tryz.func46 (by kernel_rfl) (by kernel_rfl) ?_)
  intro vs l q a h hq
  unfold strsSpec at h
  split at h
  · rename_i n f r hx
    obtain ⟨z, o, c, key⟩ := r
    injection h with h; injection h with h1 h2; subst h1; subst h2
    obtain ⟨e1, e2⟩ := rowOf_eq hx
    rw [e1, e2]
    refine ⟨_, goodG2, rfl, rfl, Holds.of_eq (vcList2 n f z o c key) ?_⟩
    exact ⟨⟨⟨rfl, rfl, by omega⟩, hq⟩, ⟨.inr rfl, hq.1⟩, fun _ => rfl⟩
  · cases h
theorem head2_iff {s : List UInt8} : head2B s = true ↔ s ≠ [] ∧ (byteAt s 0 < 128 ∨ ¬ 55 < lead s ∨ lead s - 54 ≤ s.length) := by
  simp only [head2B, Bool.and_eq_true, Bool.or_eq_true, Bool.not_eq_true', decide_eq_true_eq, decide_eq_false_iff_not, or_assoc, ne_eq]
theorem head2_same {a a' l1 l2 l3 l4 l5 l6 : Bool} {b b' c c' : Int} (h1 : a = a') (h2 : b = b') (h3 : c = c') : sameVal (.tup [.bool l1 a, .int .i64 l2 b, .int .u64 l3 c, .bool true true]) (.tup [.bool l4 a', .int .i64 l5 b', .int .u64 l6 c', .bool true true]) := by
  subst h1; subst h2; subst h3; exact fun _ => rfl
theorem head2_holds {s : List UInt8} (hs : s.length < 9223372036854775808) : Holds (runA cfgG2 76 Tryz.f76 [.str false s] (head2A s)) := by
  refine Holds.of_eq (vcHead2 s) ?_
  have g0 := byteAt_lt s 0
  have hl : s = [] ∨ 0 < s.length := by cases s <;> simp
  have e1 : byteAt s 0 < 192 → lead s = byteAt s 0 - 128 := lead_lt
  have e2 : ¬ byteAt s 0 < 192 → lead s = byteAt s 0 - 192 := lead_ge
  have eB : ∀ {p : Prop}, ¬ (s ≠ [] ∧ (byteAt s 0 < 128 ∨ ¬ 55 < lead s ∨ lead s - 54 ≤ s.length)) → head2B s = true → p := fun h h' => absurd (head2_iff.1 h') h
  have eN : ∀ {p : Prop}, (s ≠ [] ∧ (byteAt s 0 < 128 ∨ ¬ 55 < lead s ∨ lead s - 54 ≤ s.length)) → head2B s = false → p := fun h h' => by rw [head2_iff.2 h] at h'; cases h'
  repeat' first
    | apply And.intro
    | intro (h : _ = true)
    | intro (h : _ = false)
  all_goals simp only [decide_eq_true_eq, decide_eq_false_iff_not] at *
  all_goals first
    | omega
    | exact fun _ => rfl
    | (rcases hl with hl | hl
       · contradiction
       · omega)
    | (simp only [subStr, List.length_take, List.length_drop]; omega)
    | (refine eB (fun hh => ?_) (by assumption); obtain ⟨h1, h2⟩ := hh; first | contradiction | omega)
    | (refine eN ⟨by assumption, by omega⟩ (by assumption))
    | (have hA : byteAt s 0 < 128 := by assumption
       exact head2_same (by simp [cutL]; omega) (if_pos hA).symm (if_pos hA).symm)
    | (have hA : ¬ byteAt s 0 < 128 := by assumption
       have hL : 55 < lead s := by omega
       refine head2_same rfl ?_ ?_
       · unfold cutFrom; rw [if_neg hA, if_pos hL]; omega
       · unfold cutN part; rw [if_neg hA, if_pos hL]; simp only [subStr]; congr 2; omega)
    | (have hA : ¬ byteAt s 0 < 128 := by assumption
       have hL : ¬ 55 < lead s := by omega
       refine head2_same rfl ?_ ?_
       · unfold cutFrom; rw [if_neg hA, if_neg hL]
       · unfold cutN; rw [if_neg hA, if_neg hL]; omega)
def head2Spec : List SV → Option (Prop × Ans)
  | [.str false s] => some (s.length < 9223372036854775808, head2A s)
  | _ => none
theorem head2_ok : CallOk Tryz.prog 76 (ansPT head2Spec) := by
  refine ans_ok (n := 20) (fn := Tryz.f76) Tryz.func76 (by kernel_rfl) (by kernel_rfl) ?_
  intro args p a h hp
  unfold head2Spec at h
  split at h
  · rename_i s
    injection h with h; injection h with h1 h2; subst h1; subst h2
    refine ⟨_, goodG2, rfl, fun b => ?_, head2_holds hp⟩
    cases b <;> exact rfl
  · cases h
noncomputable def listG3 : List (FuncId × PT) := (46, strsPT joinQ listG) :: (76, ansPT head2Spec) :: listG2
theorem listG3_ok : SummOk Tryz.prog (fun f => lookPT f listG3) := .cons rlist2_ok (strsPT_mono _ _) (.cons head2_ok (ansPT_mono _) listG2_ok)
noncomputable def cfgG3 : Cfg := { cfg0 with summ := fun f => lookPT f listG3 }
theorem goodG3 : Sx.Good Tryz.prog cfgG3 := ⟨mixes, listG3_ok, fns_ok⟩
end Go.Proofs.YtkfdcapnogklfaaGreatDoor
/-
  Conditions that the executor computes, written out by a program (vcgen.py).
-/
namespace Go.Proofs.YtkfdcapnogklfaaGreatDoor
open Go Sx
set_option maxRecDepth 20000
theorem vcSplit2 (s : List UInt8) : VC.holds (runA cfgG3 56 Tryz.f56 [.str false s] (splitA s)) = ((fun Q0 : SV => ((fun Q1 : SV => ((fun Q2 : SV => (s.length < (9223372036854775808 : Nat) ∧
 (head2B s = true →
 (decide ((1048576 : Int) < cutN s) = true →
 (cutB s = true →
 sameVal Q0 Q2) ∧
 (cutB s = false →
 sameVal Q0 Q0)) ∧
 (decide ((1048576 : Int) < cutN s) = false →
 (decide ((↑s.length : Int) % (18446744073709551616 : Int) < (cutFrom s % (18446744073709551616 : Int) + cutN s) % (18446744073709551616 : Int)) = true →
 (cutB s = true →
 sameVal Q0 Q2) ∧
 (cutB s = false →
 sameVal Q0 Q0)) ∧
 (decide ((↑s.length : Int) % (18446744073709551616 : Int) < (cutFrom s % (18446744073709551616 : Int) + cutN s) % (18446744073709551616 : Int)) = false →
 ((-9223372036854775808 : Int) ≤ cutN s ∧
 cutN s ≤ (9223372036854775807 : Int)) ∧
 ((-9223372036854775808 : Int) ≤ cutFrom s + cutN s ∧
 cutFrom s + cutN s ≤ (9223372036854775807 : Int)) ∧
 ((0 : Int) ≤ cutFrom s ∧
 cutFrom s ≤ cutFrom s + cutN s ∧
 cutFrom s + cutN s ≤ (↑s.length : Int)) ∧
 (subStr s (some (Operand.tmp 41)) (some (Operand.tmp 42)) (cutFrom s) (cutFrom s + cutN s)).length < (1152921504606846976 : Nat) ∧
 (cutL s = true →
 (True ∧
 joinQ [subStr s (some (Operand.tmp 41)) (some (Operand.tmp 42)) (cutFrom s) (cutFrom s + cutN s)]) ∧
 ((0 : Int) ≤ (0 : Int) ∧
 (0 : Int) ≤ cutFrom s + cutN s ∧
 cutFrom s + cutN s ≤ (↑s.length : Int)) ∧
 ((!decide (headOf 192 (flat [subStr s (some (Operand.tmp 41)) (some (Operand.tmp 42)) (cutFrom s) (cutFrom s + cutN s)]).length ++ flat [subStr s (some (Operand.tmp 41)) (some (Operand.tmp 42)) (cutFrom s) (cutFrom s + cutN s)] = subStr s none (some (Operand.tmp 52)) 0 (cutFrom s + cutN s))) = true →
 (cutB s = true →
 sameVal Q0 Q2) ∧
 (cutB s = false →
 sameVal Q0 Q0)) ∧
 ((!decide (headOf 192 (flat [subStr s (some (Operand.tmp 41)) (some (Operand.tmp 42)) (cutFrom s) (cutFrom s + cutN s)]).length ++ flat [subStr s (some (Operand.tmp 41)) (some (Operand.tmp 42)) (cutFrom s) (cutFrom s + cutN s)] = subStr s none (some (Operand.tmp 52)) 0 (cutFrom s + cutN s))) = false →
 ((0 : Int) ≤ cutFrom s + cutN s ∧
 cutFrom s + cutN s ≤ (↑s.length : Int) ∧
 (↑s.length : Int) ≤ (↑s.length : Int)) ∧
 (cutB s = true →
 sameVal Q1 Q2) ∧
 (cutB s = false →
 sameVal Q1 Q0))) ∧
 (cutL s = false →
 ((0 : Int) ≤ (0 : Int) ∧
 (0 : Int) ≤ cutFrom s + cutN s ∧
 cutFrom s + cutN s ≤ (↑s.length : Int)) ∧
 ((!decide (textOf (subStr s (some (Operand.tmp 41)) (some (Operand.tmp 42)) (cutFrom s) (cutFrom s + cutN s)) = subStr s none (some (Operand.tmp 52)) 0 (cutFrom s + cutN s))) = true →
 (cutB s = true →
 sameVal Q0 Q2) ∧
 (cutB s = false →
 sameVal Q0 Q0)) ∧
 ((!decide (textOf (subStr s (some (Operand.tmp 41)) (some (Operand.tmp 42)) (cutFrom s) (cutFrom s + cutN s)) = subStr s none (some (Operand.tmp 52)) 0 (cutFrom s + cutN s))) = false →
 ((0 : Int) ≤ cutFrom s + cutN s ∧
 cutFrom s + cutN s ≤ (↑s.length : Int) ∧
 (↑s.length : Int) ≤ (↑s.length : Int)) ∧
 (cutB s = true →
 sameVal Q1 Q2) ∧
 (cutB s = false →
 sameVal Q1 Q0)))))) ∧
 (head2B s = false →
 (cutB s = true →
 sameVal Q0 Q2) ∧
 (cutB s = false →
 sameVal Q0 Q0)))) (SV.tup [SV.bool false (cutL s), SV.str false (cutIn s), SV.str false (cutRest s), SV.int .i64 true 0]))) (SV.tup [SV.bool false (cutL s), SV.str (false && false && false) (subStr s (some (Operand.tmp 41)) (some (Operand.tmp 42)) (cutFrom s) (cutFrom s + cutN s)), SV.str (false && false && false) (subStr s (some (Operand.tmp 58)) none (cutFrom s + cutN s) (↑s.length : Int)), SV.int .i64 true 0]))) (SV.tup [SV.bool true false, SV.str true [], SV.str true [], SV.int .i64 true 2])) := by kernel_rfl
end Go.Proofs.YtkfdcapnogklfaaGreatDoor
/-
  The reference's rlp: the first item: the contract; items, numbers: the set-up.
-/
namespace Go.Proofs.YtkfdcapnogklfaaGreatDoor
open Go Sx
set_option maxRecDepth 20000
theorem head2_of_cut {s : List UInt8} (h : cutB s = true) : head2B s = true ∧ cutN s ≤ 1048576 ∧ 0 ≤ cutN s ∧ 0 ≤ cutFrom s ∧ cutFrom s + cutN s ≤ s.length := by
  obtain ⟨h0, h⟩ := cutB_iff.1 h
  have hl := List.length_pos_iff.2 h0
  rw [head2_iff]
  rcases h with hA | ⟨hA, hL, hB, hP⟩ | ⟨hA, hL, hP, hN⟩
  · unfold cutN cutFrom
    rw [if_pos hA, if_pos hA]
    exact ⟨⟨h0, .inl hA⟩, by omega, by omega, by omega, by omega⟩
  · obtain ⟨g1, g2, g3, g4⟩ := lenB_iff.1 hB
    unfold cutN cutFrom
    rw [if_neg hA, if_pos hL, if_neg hA, if_pos hL]
    exact ⟨⟨h0, .inr (.inr g1)⟩, by omega, by omega, by omega, by omega⟩
  · have := lead_nn hA
    unfold cutN cutFrom
    rw [if_neg hA, if_neg hL, if_neg hA, if_neg hL]
    exact ⟨⟨h0, .inr (.inl hL)⟩, by omega, by omega, by omega, by omega⟩
theorem head2_sums {s : List UInt8} (h : head2B s = true) : 0 ≤ cutFrom s ∧ 0 ≤ cutN s ∧ cutFrom s ≤ 9 := by
  obtain ⟨h0, h⟩ := head2_iff.1 h
  have g0 := byteAt_lt s 0
  by_cases hA : byteAt s 0 < 128
  · unfold cutN cutFrom
    rw [if_pos hA, if_pos hA]; omega
  · have := lead_nn hA
    have hlt : lead s < 64 := by unfold lead; split <;> omega
    have := part_nn s (lead s - 54)
    by_cases hL : 55 < lead s
    · unfold cutN cutFrom
      rw [if_neg hA, if_pos hL, if_neg hA, if_pos hL]; omega
    · unfold cutN cutFrom
      rw [if_neg hA, if_neg hL, if_neg hA, if_neg hL]; omega
theorem again_take {s : List UInt8} (_h0 : 0 ≤ cutFrom s) (h1 : 0 ≤ cutN s) (h2 : cutN s ≤ 1048576) (_h3 : cutFrom s + cutN s ≤ s.length) :
    againOf (cutL s) (cutIn s) = s.take (cutFrom s + cutN s).toNat ↔ cutB s = true := by
  constructor
  · intro h
    have e : s = againOf (cutL s) (cutIn s) ++ s.drop (cutFrom s + cutN s).toNat := by rw [h, List.take_append_drop]
    have hb : (cutIn s).length ≤ 1048576 := by
      unfold cutIn; simp only [List.length_take]; omega
    have := (again_cut (l := cutL s) hb (s.drop (cutFrom s + cutN s).toNat)).1
    rw [← e] at this; exact this
  · intro h
    have e := cut_only h
    have e2 : s.take (cutFrom s + cutN s).toNat ++ cutRest s = s := by unfold cutRest; rw [List.take_append_drop]
    exact List.append_cancel_right (e.trans e2.symm)
theorem split2_holds {s : List UInt8} (hs : s.length < 9223372036854775808) : Holds (runA cfgG3 56 Tryz.f56 [.str false s] (splitA s)) := by
  refine Holds.of_eq (vcSplit2 s) ?_
  cases hH : head2B s with
  | false =>
    have hB : cutB s = false := by
      rw [Bool.eq_false_iff]; intro h
      rw [(head2_of_cut h).1] at hH; cases hH
    rw [hB]
    refine ⟨hs, ?_⟩
    simp only [Bool.false_eq_true, false_imp_iff, true_and, forall_const]
    exact fun _ => rfl
  | true =>
    obtain ⟨a1, a2, a3⟩ := head2_sums hH
    refine ⟨hs, ?_, fun h => by cases h⟩
    intro _
    refine ⟨fun h => ?_, fun h => ?_⟩
    · have hB : cutB s = false := by
        rw [Bool.eq_false_iff]; intro h'
        have := (head2_of_cut h').2.1
        simp only [decide_eq_true_eq] at h; omega
      rw [hB]
      exact ⟨(fun h => by cases h), fun _ _ => rfl⟩
    · simp only [decide_eq_false_iff_not] at h
      refine ⟨fun g => ?_, fun g => ?_⟩
      · have hB : cutB s = false := by
          rw [Bool.eq_false_iff]; intro h'
          have := (head2_of_cut h').2.2.2.2
          simp only [decide_eq_true_eq] at g; omega
        rw [hB]
        exact ⟨(fun h => by cases h), fun _ _ => rfl⟩
      · simp only [decide_eq_false_iff_not] at g
        have g : cutFrom s + cutN s ≤ s.length := by omega
        have eT := again_take a1 a2 (by omega) g
        have eI : ∀ x y, subStr s (some (Operand.tmp x)) (some (Operand.tmp y)) (cutFrom s) (cutFrom s + cutN s) = cutIn s := fun x y => by
          simp only [subStr, cutIn]; congr 1; omega
        have eK : ∀ x, subStr s none (some (Operand.tmp x)) 0 (cutFrom s + cutN s) = s.take (cutFrom s + cutN s).toNat := fun _ => rfl
        have eR : ∀ x y, subStr s (some (Operand.tmp x)) none (cutFrom s + cutN s) y = cutRest s := fun _ _ => rfl
        have hl : (cutIn s).length ≤ s.length := by unfold cutIn; simp only [List.length_take, List.length_drop]; omega
        have hl2 : (cutIn s).length ≤ 1048576 := by unfold cutIn; simp only [List.length_take, List.length_drop]; omega
        rw [eI, eK, eR]
        have fl : flat [cutIn s] = cutIn s := by simp [flat]
        rw [fl]
        refine ⟨by omega, by omega, by omega, by omega, fun hL => ?_, fun hL => ?_⟩
        · rw [hL] at eT ⊢
          simp only [againOf, cond_true] at eT
          refine ⟨⟨trivial, by rw [joinQ, fl]; exact ⟨by omega, (by show 1 < 1152921504606846976; decide)⟩⟩, by omega, fun k => ?_, fun k => ?_⟩
          · have hB : cutB s = false := by
              rw [Bool.eq_false_iff]; intro h'
              simp only [Bool.not_eq_true', decide_eq_false_iff_not] at k
              exact k (eT.2 h')
            rw [hB]
            exact ⟨(fun h => by cases h), fun _ _ => rfl⟩
          · have hB : cutB s = true := by
              simp only [Bool.not_eq_false', decide_eq_true_eq] at k
              exact eT.1 k
            rw [hB]
            exact ⟨by omega, fun _ _ => rfl, fun h => by cases h⟩
        · rw [hL] at eT ⊢
          simp only [againOf, cond_false] at eT
          refine ⟨by omega, fun k => ?_, fun k => ?_⟩
          · have hB : cutB s = false := by
              rw [Bool.eq_false_iff]; intro h'
              simp only [Bool.not_eq_true', decide_eq_false_iff_not] at k
              exact k (eT.2 h')
            rw [hB]
            exact ⟨(fun h => by cases h), fun _ _ => rfl⟩
          · have hB : cutB s = true := by
              simp only [Bool.not_eq_false', decide_eq_true_eq] at k
              exact eT.1 k
            rw [hB]
            exact ⟨by omega, fun _ _ => rfl, fun h => by cases h⟩
theorem split2_ok : CallOk Tryz.prog 56 (ansPT splitSpec) := by
  refine ans_ok (n := 20) (fn := Tryz.f56) Tryz.func56 (by kernel_rfl) (by kernel_rfl) ?_
  intro args p a h hp
  unfold splitSpec at h
  split at h
  · rename_i s
    injection h with h; injection h with h1 h2; subst h1; subst h2
    refine ⟨_, goodG3, rfl, fun b => ?_, split2_holds hp⟩
    cases b <;> exact rfl
  · cases h
noncomputable def listG4 : List (FuncId × PT) := (56, ansPT splitSpec) :: listG3
theorem listG4_ok : SummOk Tryz.prog (fun f => lookPT f listG4) := .cons split2_ok (ansPT_mono _) listG3_ok
noncomputable def annItems2 (s : List UInt8) : LoopAnn :=
  { α := ItemG, pre := fun _ x => ItemPre s x, mea := fun _ x => (restAt s x.k).length, fresh := 1, slots := fun st x => [(0, .str false (restAt s x.k)), (4, .rslc st.nx 1 true 0 x.k x.c)],
    mem := fun st x => [(st.nx, .rows true x.k [.str (itemAt s)] false x.c 9)] }
noncomputable def cfgI2 (s : List UInt8) : Cfg := { cfg0 with summ := fun f => lookPT f listG4, anns := fun f => if f = 57 then [(2, always (annItems2 s))] else [] }
theorem goodI2 (s : List UInt8) : Sx.Good Tryz.prog (cfgI2 s) := ⟨mixes, listG4_ok, fns_ok⟩
end Go.Proofs.YtkfdcapnogklfaaGreatDoor
/-
  Conditions that the executor computes, written out by a program (vcgen.py).
-/
namespace Go.Proofs.YtkfdcapnogklfaaGreatDoor
open Go Sx
set_option maxRecDepth 20000
theorem vcItems2 (s : List UInt8) : VC.holds (runA (cfgI2 s) 57 Tryz.f57 [.str false s] (itemsA s)) = ((∃ (y : ItemG), ItemPre s y ∧
 s = restAt s y.k ∧
 y.k = (0 : Nat) ∧
 (SB.rows true y.k [Col.str (itemAt s)] false y.c 9).no = true ∧
 True) ∧
 ∀ (x : ItemG), ItemPre s x →
 ((!decide (restAt s x.k = [])) = true →
 (restAt s x.k).length < (9223372036854775808 : Nat) ∧
 (cutB (restAt s x.k) = true →
 ((-9223372036854775808 : Int) ≤ (↑(restAt s x.k).length : Int) - (↑(cutRest (restAt s x.k)).length : Int) ∧
 (↑(restAt s x.k).length : Int) - (↑(cutRest (restAt s x.k)).length : Int) ≤ (9223372036854775807 : Int)) ∧
 ((0 : Int) ≤ (0 : Int) ∧
 (0 : Int) ≤ (↑(restAt s x.k).length : Int) - (↑(cutRest (restAt s x.k)).length : Int) ∧
 (↑(restAt s x.k).length : Int) - (↑(cutRest (restAt s x.k)).length : Int) ≤ (↑(restAt s x.k).length : Int)) ∧
 ((0 : Nat) + x.k ≤ x.k ∧
 True ∧
 (2 : Nat) * (x.k + (1 : Nat)) * (16 : Nat) ≤ (281474976710656 : Nat) ∧
 x.k + (1 : Nat) < (9223372036854775808 : Nat)) ∧
 x.c = x.c * (1 : Nat) ∧
 ∀ (c : Nat), x.k + (1 : Nat) ≤ c →
 ∃ (y : ItemG), (ItemPre s y ∧
 (restAt s y.k).length < (restAt s x.k).length) ∧
 cutRest (restAt s x.k) = restAt s y.k ∧
 ((0 : Nat) = (0 : Nat) ∧
 x.k + (1 : Nat) = y.k ∧
 c = y.c) ∧
 True ∧
 SBle (SB.rows true (x.k + (1 : Nat)) [Col.str fun (j : Nat) => if j < x.k then itemAt s j else selS [subStr (restAt s x.k) none (some (Operand.tmp 27)) 0 ((↑(restAt s x.k).length : Int) - (↑(cutRest (restAt s x.k)).length : Int))] (j - x.k)] false (c * (1 : Nat)) 9) (SB.rows true y.k [Col.str (itemAt s)] false y.c 9) ∧
 True) ∧
 (cutB (restAt s x.k) = false →
 (itemsB s = true →
 ∃ (x : Nat), itemsN s ≤ x ∧
 False) ∧
 (itemsB s = false →
 sameVal (SV.tup [SV.nilslc, SV.int .i64 true 2]) (SV.tup [SV.nilslc, SV.int .i64 true 2])))) ∧
 ((!decide (restAt s x.k = [])) = false →
 (itemsB s = true →
 ∃ (x_4 : Nat), itemsN s ≤ x_4 ∧
 SBle (SB.rows true x.k [Col.str (itemAt s)] false x.c 9) (SB.rows true (itemsN s) [Col.str (itemAt s)] false x_4 9) ∧
 sameVal (SV.tup [SV.rslc 0 1 true 0 x.k x.c, SV.int .i64 true 0]) (SV.tup [SV.rslc 0 1 true 0 (itemsN s) x_4, SV.int .i64 true 0])) ∧
 (itemsB s = false →
 sameVal (SV.tup [SV.rslc 0 1 true 0 x.k x.c, SV.int .i64 true 0]) (SV.tup [SV.nilslc, SV.int .i64 true 2])))) := by kernel_rfl
end Go.Proofs.YtkfdcapnogklfaaGreatDoor
/-
  The reference's rlp: items, numbers: the contracts.
-/
namespace Go.Proofs.YtkfdcapnogklfaaGreatDoor
open Go Sx
set_option maxRecDepth 20000
theorem items2_holds {s : List UInt8} (hs : s.length < 1099511627776) : Holds (runA (cfgI2 s) 57 Tryz.f57 [.str false s] (itemsA s)) := by
  refine Holds.of_eq (vcItems2 s) ?_
  refine ⟨⟨⟨0, 0⟩, ⟨fun j hj => absurd hj (Nat.not_lt_zero _), Nat.le_refl _⟩, rfl, rfl, rfl, trivial⟩, fun x hx => ?_⟩
  have hw : Walk s x.k := hx.walk
  have hl := hw.len
  obtain ⟨i1, i2⟩ := hw.items
  refine ⟨fun a => ?_, fun a => ?_⟩
  · have a : restAt s x.k ≠ [] := by simpa using a
    refine ⟨by omega, fun b => ?_, fun b => ?_⟩
    · have hlt := cut_lt b
      refine ⟨by omega, by omega, ⟨by omega, trivial, by omega, by omega⟩, by omega, fun c hc => ⟨⟨x.k + 1, c⟩, ⟨⟨hw.snoc a b, hc⟩, ?_⟩, ?_, ⟨rfl, rfl, rfl⟩, trivial, ?_, trivial⟩⟩
      · simp only [restAt]; exact hlt
      · simp only [restAt]
      · refine Sx.SBle.strRows rfl (Nat.mul_one c) fun i hi => ?_
        by_cases h : i < x.k
        · rw [if_pos h]
        · rw [if_neg h]
          have e : i = x.k := by omega
          subst e
          simp only [Nat.sub_self, selS, subStr, itemAt, itemOf]
          rw [show ((↑(restAt s x.k).length : Int) - (↑(cutRest (restAt s x.k)).length : Int)).toNat = (restAt s x.k).length - (cutRest (restAt s x.k)).length by omega]
          simp only [List.getD_cons_zero]
    · have hb := items_bad a b
      rw [← i1] at hb
      exact ⟨(fun h => by rw [hb] at h; cases h), fun _ _ => rfl⟩
  · have a : restAt s x.k = [] := by simpa using a
    rw [a] at i1 i2
    have n0 : itemsN s = x.k := by rw [i2, items_nil.2]; omega
    have b0 : itemsB s = true := by rw [i1, items_nil.1]
    refine ⟨fun _ => ⟨x.c, by rw [n0]; exact hx.cap, ?_, ?_⟩, fun h => by rw [b0] at h; cases h⟩
    · rw [n0]; exact SBle.refl _
    · rw [n0]; exact fun _ => rfl
theorem ritems2_ok : CallOk Tryz.prog 57 itemsPT := by
  refine ans_ok (n := 20) (fn := Tryz.f57) Tryz.func57 (by kernel_rfl) (by kernel_rfl) ?_
  intro args p a h hp
  unfold itemsSpec at h
  split at h
  · rename_i s
    injection h with h; injection h with h1 h2; subst h1; subst h2
    refine ⟨_, goodI2 s, rfl, fun b => ?_, items2_holds hp⟩
    cases b with
    | false => exact rfl
    | true =>
      intro c
      refine ⟨rfl, rfl, fun k => by simp [SV.wf, SV.wfs, Nat.blt_eq], fun E E' k k' h => ?_⟩
      cases hn : itemsN s with
      | zero => rfl
      | succ n =>
        rw [hn] at h
        have hk : E k = E' k' := h rfl
        simp [SV.val, SV.vals, hk]
  · cases h
noncomputable def listG5 : List (FuncId × PT) := (57, itemsPT) :: listG4
theorem listG5_ok : SummOk Tryz.prog (fun f => lookPT f listG5) := .cons ritems2_ok (ansPT_mono _) listG4_ok
end Go.Proofs.YtkfdcapnogklfaaGreatDoor
/-
  The reference's nibbles: the contracts.
-/
namespace Go.Proofs.YtkfdcapnogklfaaGreatDoor
open Go Sx
set_option maxRecDepth 20000
theorem bytesFrom_succ (f : Nat → Int) (n : Nat) : bytesFrom f 0 (n + 1) = bytesFrom f 0 n ++ [UInt8.ofNat (f n).toNat] := by
  unfold bytesFrom
  rw [List.range_succ, List.map_append]
  simp
theorem avalid_holds {p : List UInt8} (hp : p.length < 1152921504606846976) : Holds (runP (cfgAV p) 47 Tryz.f47 [.str false p] (fun v => sameVal v (.bool false (nibB p)))) := by
  refine Holds.of_eq (vcAValid p _) ?_
  refine ⟨⟨0, AllTo.zero _ _, rfl, trivial⟩, fun x hx => ⟨fun h => ?_, fun h => ?_⟩⟩
  · have h : (x : Int) < (p.length : Int) := of_decide_eq_true h
    refine ⟨by omega, fun g => bool_eq ?_, fun g => ⟨by omega, x + 1, ⟨hx.next h ?_, by omega⟩, by omega, trivial⟩⟩
    · exact (all_none h (by rw [nibT, g]; rfl)).symm
    · rw [nibT, g]; rfl
  · have h : ¬ (x : Int) < (p.length : Int) := of_decide_eq_false h
    exact bool_eq (hx.done h).symm
theorem avalid_ok : CallOk Tryz.prog 47 (purePT nvalidSpec) := by
  refine pure_of_ans (ans_ok (n := 20) (fn := Tryz.f47) Tryz.func47 (by kernel_rfl) (by kernel_rfl) ?_)
  intro args p a h hp
  unfold nvalidSpec at h
  split at h
  · injection h with h; injection h with h1 h2; subst h1; subst h2
    exact ⟨_, goodAV _, rfl, rfl, avalid_holds hp⟩
  · cases h
theorem apath_holds {k : List UInt8} (hk : k.length < 1099511627776) : Holds (runP (cfgAP k) 77 Tryz.f77 [.str false k] (fun v => sameVal v (.str false (pathL k)))) := by
  refine Holds.of_eq (vcAPath k _) ?_
  refine ⟨⟨0, Nat.zero_le _, rfl, rfl, trivial⟩, fun x hx => ⟨fun h => ?_, fun h => ?_⟩⟩
  · have h : (x : Int) < (k.length : Int) := of_decide_eq_true h
    have hb := byteAt_lt k (x : Int)
    refine ⟨by omega, by omega, by omega, by omega, by rw [bytesFrom_len]; omega, by omega, x + 1, ⟨by omega, by omega⟩, ?_, by omega, trivial⟩
    rw [show 2 * (x + 1) = 2 * x + 1 + 1 by omega, bytesFrom_succ, bytesFrom_succ]
    have e0 : nibAt k (2 * x) = byteAt k (x : Int) / 16 := by
      unfold nibAt
      rw [if_pos (by omega), show ((2 * x : Nat) : Int) / 2 = (x : Int) by omega]
    have e1 : nibAt k (2 * x + 1) = byteAt k (x : Int) % 16 := by
      unfold nibAt
      rw [if_neg (by omega), show ((2 * x + 1 : Nat) : Int) / 2 = (x : Int) by omega]
    rw [e0, e1, List.append_assoc]; rfl
  · have h : ¬ (x : Int) < (k.length : Int) := of_decide_eq_false h
    have e : x = k.length := by omega
    exact str_same (by rw [e]; rfl)
theorem apath_ok : CallOk Tryz.prog 77 (purePT npathSpec) := by
  refine pure_of_ans (ans_ok (n := 20) (fn := Tryz.f77) Tryz.func77 (by kernel_rfl) (by kernel_rfl) ?_)
  intro args p a h hp
  unfold npathSpec at h
  split at h
  · injection h with h; injection h with h1 h2; subst h1; subst h2
    exact ⟨_, goodAP _, rfl, rfl, apath_holds hp⟩
  · cases h
theorem listA1_ok : SummOk Tryz.prog (fun f => lookPT f listA1) := .cons avalid_ok (purePT_mono _) (.cons apath_ok (purePT_mono _) list7_ok)
theorem goodAK (p : List UInt8) : Sx.Good Tryz.prog (cfgAK p) := ⟨mixes, listA1_ok, fns_ok⟩
theorem akey_holds {p : List UInt8} (hp : p.length < 1099511627776) : Holds (runA (cfgAK p) 68 Tryz.f68 [.str false p] (keyA p)) := by
  refine Holds.of_eq (vcAKey p) ?_
  have none' : sameVal (.tup [.str true [], .bool true false]) (.tup [.str true [], .bool true false]) := fun _ => rfl
  refine ⟨by omega, fun a => ⟨fun h => ?_, fun _ => none'⟩, fun a => ⟨by omega, fun b => ⟨fun h => ?_, fun _ => none'⟩, fun b => ?_⟩⟩
  · unfold keyB at h; rw [a] at h; cases h
  · have b : nibB p = false := by simpa using b
    unfold keyB at h; rw [b, Bool.and_false] at h; cases h
  · have b : nibB p = true := by simpa using b
    have hB : keyB p = true := by unfold keyB; rw [a, b]; rfl
    have a : ¬ (p.length : Int) % 2 = 1 := of_decide_eq_false a
    rw [hB]
    refine ⟨⟨0, Nat.zero_le _, rfl, rfl, trivial⟩, fun x hx => ⟨by omega, fun h => ?_, fun h => ⟨fun _ => ?_, fun h => by cases h⟩⟩⟩
    · have h : (2 : Int) * (x : Int) + 1 < (p.length : Int) := of_decide_eq_true h
      refine ⟨by omega, by omega, by omega, by rw [bytesFrom_len]; omega, by omega, x + 1, ⟨by omega, by omega⟩, ?_, by omega, trivial⟩
      rw [bytesFrom_succ]; rfl
    · have h : ¬ (2 : Int) * (x : Int) + 1 < (p.length : Int) := of_decide_eq_false h
      have e : x = p.length / 2 := by omega
      exact tup2_same (by rw [e]; rfl)
theorem akey_ok : CallOk Tryz.prog 68 (ansPT keySpec) := by
  refine ans_ok (n := 20) (fn := Tryz.f68) Tryz.func68 (by kernel_rfl) (by kernel_rfl) ?_
  intro args p a h hp
  unfold keySpec at h
  split at h
  · injection h with h; injection h with h1 h2; subst h1; subst h2
    exact ⟨_, goodAK _, rfl, fun b => by cases b <;> exact rfl, akey_holds hp⟩
  · cases h
theorem listA2_ok : SummOk Tryz.prog (fun f => lookPT f listA2) := .cons akey_ok (ansPT_mono _) listA1_ok
theorem goodA2 : Sx.Good Tryz.prog cfgA2 := ⟨mixes, listA2_ok, fns_ok⟩
theorem nib_cons {b : UInt8} {p : List UInt8} (hb : b.toNat ≤ 15) (h : nibB p = true) : nibB (b :: p) = true := by
  unfold nibB
  rw [List.all_eq_true]
  intro j hj
  rw [List.mem_range, List.length_cons] at hj
  unfold nibT
  simp only [Bool.not_eq_true', decide_eq_false_iff_not]
  cases j with
  | zero =>
    have e : byteAt (b :: p) ((0 : Nat) : Int) = (b.toNat : Int) := rfl
    rw [e]; omega
  | succ j =>
    rw [byteAt_cons_succ]
    have := nib_le h j (by omega)
    omega
theorem key_put {p : List UInt8} (h : nibB p = true) (leaf : Bool) {q : List UInt8} (hq : q = UInt8.ofNat (flagN leaf (decide ((p.length : Int) % 2 = 1))).toNat :: (bif decide ((p.length : Int) % 2 = 1) then p else 0 :: p)) : keyB q = true ∧ keyL q = nputL p leaf := by
  have hf : 0 ≤ flagN leaf (decide ((p.length : Int) % 2 = 1)) ∧ flagN leaf (decide ((p.length : Int) % 2 = 1)) ≤ 3 := by
    cases leaf <;> cases decide ((p.length : Int) % 2 = 1) <;> exact ⟨by decide, by decide⟩
  have hb : (UInt8.ofNat (flagN leaf (decide ((p.length : Int) % 2 = 1))).toNat).toNat ≤ 15 := by
    rw [UInt8.toNat_ofNat']; omega
  have hn : nibB q = true := by
    rw [hq]
    refine nib_cons hb ?_
    cases decide ((p.length : Int) % 2 = 1) with
    | true => exact h
    | false => exact nib_cons (by decide) h
  have hl : ¬ (q.length : Int) % 2 = 1 := by
    rw [hq]
    by_cases c : (p.length : Int) % 2 = 1
    · rw [decide_eq_true c]; simp only [cond_true, List.length_cons]; omega
    · rw [decide_eq_false c]; simp only [cond_false, List.length_cons]; omega
  refine ⟨by unfold keyB; rw [hn, decide_eq_false hl]; rfl, ?_⟩
  rw [key_pairs hn, hq]; rfl
theorem aput_holds {p : List UInt8} (leaf : Bool) (hp : p.length < 1073741824) : Holds (runA cfgA2 45 Tryz.f45 [.str false p, .bool false leaf] (nputA p leaf)) := by
  refine Holds.of_eq (vcAPut p leaf) ?_
  cases hn : nibB p with
  | false => exact ⟨by omega, fun _ => ⟨(fun h => by cases h), fun _ _ => rfl⟩, fun h => by cases h⟩
  | true =>
    have kp := fun l => key_put hn l (q := _) rfl
    refine ⟨by omega, (fun h => by cases h), fun _ => ⟨by omega, fun hl => ⟨by omega, fun a => ?_, fun a => ?_⟩, fun hl => ⟨by omega, fun a => ?_, fun a => ?_⟩⟩⟩
    all_goals subst hl
    · have a : (p.length : Int) % 2 = 0 := of_decide_eq_true a
      obtain ⟨k1, k2⟩ := key_put hn true (q := cat (cat [UInt8.ofNat (((↑p.length : Int) % (2 : Int) % (256 : Int) + (2 : Int)) % (256 : Int)).toNat] [UInt8.ofNat 0]) p) (by rw [a, decide_eq_false (by omega)]; rfl)
      rw [k1]
      refine ⟨by omega, by omega, by simp only [cat, List.length_append, List.length_cons, List.length_nil]; omega, fun _ => ⟨fun _ => tup2_same k2, fun h => by cases h⟩, fun h => by cases h⟩
    · have a : ¬ (p.length : Int) % 2 = 0 := of_decide_eq_false a
      obtain ⟨k1, k2⟩ := key_put hn true (q := cat [UInt8.ofNat (((↑p.length : Int) % (2 : Int) % (256 : Int) + (2 : Int)) % (256 : Int)).toNat] p) (by rw [show (p.length : Int) % 2 = 1 by omega]; rfl)
      rw [k1]
      refine ⟨by omega, by simp only [cat, List.length_append, List.length_cons, List.length_nil]; omega, fun _ => ⟨fun _ => tup2_same k2, fun h => by cases h⟩, fun h => by cases h⟩
    · have a : (p.length : Int) % 2 = 0 := of_decide_eq_true a
      obtain ⟨k1, k2⟩ := key_put hn false (q := cat (cat [UInt8.ofNat ((↑p.length : Int) % (2 : Int) % (256 : Int)).toNat] [UInt8.ofNat 0]) p) (by rw [a, decide_eq_false (by omega)]; rfl)
      rw [k1]
      refine ⟨by omega, by omega, by simp only [cat, List.length_append, List.length_cons, List.length_nil]; omega, fun _ => ⟨fun _ => tup2_same k2, fun h => by cases h⟩, fun h => by cases h⟩
    · have a : ¬ (p.length : Int) % 2 = 0 := of_decide_eq_false a
      obtain ⟨k1, k2⟩ := key_put hn false (q := cat [UInt8.ofNat ((↑p.length : Int) % (2 : Int) % (256 : Int)).toNat] p) (by rw [show (p.length : Int) % 2 = 1 by omega]; rfl)
      rw [k1]
      refine ⟨by omega, by simp only [cat, List.length_append, List.length_cons, List.length_nil]; omega, fun _ => ⟨fun _ => tup2_same k2, fun h => by cases h⟩, fun h => by cases h⟩
theorem aput_ok : CallOk Tryz.prog 45 (ansPT nputSpec) := by
  refine ans_ok (n := 20) (fn := Tryz.f45) Tryz.func45 (by kernel_rfl) (by kernel_rfl) ?_
  intro args p a h hp
  unfold nputSpec at h
  split at h
  · injection h with h; injection h with h1 h2; subst h1; subst h2
    exact ⟨_, goodA2, rfl, fun b => by cases b <;> exact rfl, aput_holds _ hp⟩
  · cases h
theorem listA3_ok : SummOk Tryz.prog (fun f => lookPT f listA3) := .cons aput_ok (ansPT_mono _) listA2_ok
theorem goodA3 : Sx.Good Tryz.prog cfgA3 := ⟨mixes, listA3_ok, fns_ok⟩
theorem aget_holds {s : List UInt8} (hs : s.length < 536870912) : Holds (runA cfgA3 58 Tryz.f58 [.str false s] (ngetA s)) := by
  refine Holds.of_eq (vcAGet s) ?_
  have e1 : ∀ t, subStr (pathL s) (some (Operand.tmp t)) none 1 (↑(pathL s).length : Int) = (pathL s).drop 1 := fun _ => rfl
  have e2 : ∀ t, subStr (pathL s) (some (Operand.tmp t)) none 2 (↑(pathL s).length : Int) = (pathL s).drop 2 := fun _ => rfl
  have n1 := pathB_nib s 1
  have n2 := pathB_nib s 2
  have d01 : decide ((0 : Int) = (1 : Int)) = false := rfl
  have d11 : decide ((1 : Int) = (1 : Int)) = true := rfl
  have hl := pathL_len s
  have l1 : ((pathL s).drop 1).length < 1073741824 := by rw [List.length_drop]; omega
  have l2 : ((pathL s).drop 2).length < 1073741824 := by rw [List.length_drop]; omega
  have none' : sameVal (.tup [.str true [], .bool true false, .bool true false]) (.tup [.str true [], .bool true false, .bool true false]) := fun _ => rfl
  have H : ∀ {n : Nat} {leaf : Bool}, decide (nputL ((pathL s).drop n) leaf = s) = true →
      (ngetB s = true → sameVal (.tup [.str false ((pathL s).drop n), .bool true leaf, .bool true true]) (.tup [.str false (ngetP s), .bool false (ngetLeaf s), .bool true true])) ∧
      (ngetB s = false → sameVal (.tup [.str false ((pathL s).drop n), .bool true leaf, .bool true true]) (.tup [.str true [], .bool true false, .bool true false])) := fun h => by
    obtain ⟨g1, g2, g3⟩ := nget_fit (of_decide_eq_true h)
    exact ⟨fun _ => tup3_same g3.symm g2.symm, fun h' => by rw [g1] at h'; cases h'⟩
  have W : (∀ n leaf, n = 1 ∨ n = 2 → n ≤ (pathL s).length → nputL ((pathL s).drop n) leaf ≠ s) →
      (ngetB s = true → sameVal (.tup [.str true [], .bool true false, .bool true false]) (.tup [.str false (ngetP s), .bool false (ngetLeaf s), .bool true true])) ∧
      (ngetB s = false → sameVal (.tup [.str true [], .bool true false, .bool true false]) (.tup [.str true [], .bool true false, .bool true false])) := fun h =>
    ⟨fun h' => (by rw [nget_none h] at h'; cases h'), fun _ => none'⟩
  simp only [e1, e2, n1, n2, d01, l1, l2, true_and, true_imp_iff, Bool.true_eq_false, false_imp_iff, and_true]
  refine ⟨by omega, fun a => have a := of_decide_eq_true a; ⟨by omega, fun h => ⟨by omega, H h⟩, fun h1 => ⟨by omega, fun h => ⟨by omega, H h⟩, fun h2 => ⟨fun b => have b := of_decide_eq_true b; ⟨by omega, fun h => ⟨by omega, H h⟩, fun h3 => ⟨by omega, fun h => ⟨by omega, H h⟩, fun h4 => W ?_⟩⟩, fun b => W ?_⟩⟩⟩, fun a => W ?_⟩
  · intro n leaf hn _
    rcases hn with rfl | rfl <;> cases leaf
    · exact of_decide_eq_false h1
    · exact of_decide_eq_false h2
    · exact of_decide_eq_false h3
    · exact of_decide_eq_false h4
  · have b := of_decide_eq_false b
    intro n leaf hn hle
    rcases hn with rfl | rfl
    · cases leaf
      · exact of_decide_eq_false h1
      · exact of_decide_eq_false h2
    · omega
  · have a := of_decide_eq_false a
    intro n leaf hn hle
    omega
def aget2Spec : List SV → Option (Prop × Ans)
  | [.str false s] => some (s.length < 536870912, ngetA s)
  | _ => none
theorem aget_ok : CallOk Tryz.prog 58 (ansPT aget2Spec) := by
  refine ans_ok (n := 20) (fn := Tryz.f58) Tryz.func58 (by kernel_rfl) (by kernel_rfl) ?_
  intro args p a h hp
  unfold aget2Spec at h
  split at h
  · injection h with h; injection h with h1 h2; subst h1; subst h2
    exact ⟨_, goodA3, rfl, fun b => by cases b <;> exact rfl, aget_holds hp⟩
  · cases h
noncomputable def listA4 : List (FuncId × PT) := (47, purePT nvalidSpec) :: (45, ansPT nputSpec) :: (58, ansPT aget2Spec) :: listG5
theorem listA4_ok : SummOk Tryz.prog (fun f => lookPT f listA4) := .cons avalid_ok (purePT_mono _) (.cons aput_ok (ansPT_mono _) (.cons aget_ok (ansPT_mono _) listG5_ok))
end Go.Proofs.YtkfdcapnogklfaaGreatDoor
