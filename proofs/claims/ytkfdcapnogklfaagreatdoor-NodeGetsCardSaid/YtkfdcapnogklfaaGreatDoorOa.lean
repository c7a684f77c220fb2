/-
  Rlp: the set-up.
-/
import Derived.Test.YtkfdcapnogklfaaGreatDoorNd
import Derived.Test.YtkfdcapnogklfaaGreatDoorMh
import Derived.Test.YtkfdcapnogklfaaGreatDoorMg
namespace Go.Proofs.YtkfdcapnogklfaaGreatDoor
open Go Sx
set_option maxRecDepth 20000
theorem mixes : Tryz.prog.follows .mixedOrders = true := by kernel_rfl
theorem names_ok : (Tryz.prog.funcs.all fun fn => !(fn.name == "runtime.NumGoroutine")) = true := by kernel_rfl
theorem fns_ok (f : FuncId) (fn : Func) (h : Tryz.prog.funcs[f]? = some fn) : Tryz.prog.funcs[f]? = some fn ∧ (fn.name == "runtime.NumGoroutine") = false := by
  refine ⟨h, ?_⟩
  have := Array.all_eq_true'.1 names_ok fn (Array.mem_of_getElem? h)
  simpa using this
noncomputable def cfg0 : Cfg := { summ := fun f => lookPT f reflList, fns := fun f => Tryz.prog.funcs[f]?, anns := fun _ => [], rounds := 100 }
theorem good0 : Sx.Good Tryz.prog cfg0 := ⟨mixes, reflList_ok, fns_ok⟩
end Go.Proofs.YtkfdcapnogklfaaGreatDoor
/-
  Rlp: a number's bytes: the set-up of its run, and what they are.
-/
namespace Go.Proofs.YtkfdcapnogklfaaGreatDoor
open Go Sx
set_option maxRecDepth 20000
noncomputable def cfgD : Cfg := { cfg0 with rounds := 9 }
theorem goodD : Sx.Good Tryz.prog cfgD := ⟨mixes, reflList_ok, fns_ok⟩
def dig : Nat → Int → List UInt8
  | 0, _ => []
  | k + 1, n => if 0 < n then dig k (n / 256) ++ [UInt8.ofNat (n % 256).toNat] else []
def digits (n : Int) : List UInt8 := dig 8 n
noncomputable def runP (cfg : Cfg) (f : Nat) (fn : Func) (args : List SV) (R : SV → Prop) : VC := runFn Tryz.prog (calling Tryz.prog cfg 20) [] (cfg.anns f) cfg.rounds fn args [] 0 (fun v _ _ => .atom (R v))
end Go.Proofs.YtkfdcapnogklfaaGreatDoor
/-
  Conditions that the executor computes, written out by a program (vcgen.py).
-/
namespace Go.Proofs.YtkfdcapnogklfaaGreatDoor
open Go Sx
set_option maxRecDepth 20000
theorem vcDigits (n : Int) (R : SV → Prop) : VC.holds (runP cfgD 78 Tryz.f78 [.int .u64 false n] R) = ((decide ((0 : Int) < n) = true →
 ∀ (c : Nat), (1 : Nat) ≤ c →
 (decide ((0 : Int) < n / (256 : Int)) = true →
 c * (1 : Nat) = c * (1 : Nat) ∧
 ∀ (c' : Nat), (2 : Nat) ≤ c' →
 (decide ((0 : Int) < n / (256 : Int) / (256 : Int)) = true →
 c' * (1 : Nat) = c' * (1 : Nat) ∧
 ∀ (c' : Nat), (3 : Nat) ≤ c' →
 (decide ((0 : Int) < n / (256 : Int) / (256 : Int) / (256 : Int)) = true →
 c' * (1 : Nat) = c' * (1 : Nat) ∧
 ∀ (c' : Nat), (4 : Nat) ≤ c' →
 (decide ((0 : Int) < n / (256 : Int) / (256 : Int) / (256 : Int) / (256 : Int)) = true →
 c' * (1 : Nat) = c' * (1 : Nat) ∧
 ∀ (c' : Nat), (5 : Nat) ≤ c' →
 (decide ((0 : Int) < n / (256 : Int) / (256 : Int) / (256 : Int) / (256 : Int) / (256 : Int)) = true →
 c' * (1 : Nat) = c' * (1 : Nat) ∧
 ∀ (c' : Nat), (6 : Nat) ≤ c' →
 (decide ((0 : Int) < n / (256 : Int) / (256 : Int) / (256 : Int) / (256 : Int) / (256 : Int) / (256 : Int)) = true →
 c' * (1 : Nat) = c' * (1 : Nat) ∧
 ∀ (c' : Nat), (7 : Nat) ≤ c' →
 (decide ((0 : Int) < n / (256 : Int) / (256 : Int) / (256 : Int) / (256 : Int) / (256 : Int) / (256 : Int) / (256 : Int)) = true →
 c' * (1 : Nat) = c' * (1 : Nat) ∧
 ∀ (c' : Nat), (8 : Nat) ≤ c' →
 (decide ((0 : Int) < n / (256 : Int) / (256 : Int) / (256 : Int) / (256 : Int) / (256 : Int) / (256 : Int) / (256 : Int) / (256 : Int)) = true →
 c' * (1 : Nat) = c' * (1 : Nat) ∧
 ∀ (c' : Nat), (9 : Nat) ≤ c' →
 False) ∧
 (decide ((0 : Int) < n / (256 : Int) / (256 : Int) / (256 : Int) / (256 : Int) / (256 : Int) / (256 : Int) / (256 : Int) / (256 : Int)) = false →
 R (SV.str (false && (false && (false && (false && (false && (false && (false && (false && true)))))))) [UInt8.ofNat (n / (256 : Int) / (256 : Int) / (256 : Int) / (256 : Int) / (256 : Int) / (256 : Int) / (256 : Int) % (256 : Int)).toNat, UInt8.ofNat (n / (256 : Int) / (256 : Int) / (256 : Int) / (256 : Int) / (256 : Int) / (256 : Int) % (256 : Int)).toNat, UInt8.ofNat (n / (256 : Int) / (256 : Int) / (256 : Int) / (256 : Int) / (256 : Int) % (256 : Int)).toNat, UInt8.ofNat (n / (256 : Int) / (256 : Int) / (256 : Int) / (256 : Int) % (256 : Int)).toNat, UInt8.ofNat (n / (256 : Int) / (256 : Int) / (256 : Int) % (256 : Int)).toNat, UInt8.ofNat (n / (256 : Int) / (256 : Int) % (256 : Int)).toNat, UInt8.ofNat (n / (256 : Int) % (256 : Int)).toNat, UInt8.ofNat (n % (256 : Int)).toNat]))) ∧
 (decide ((0 : Int) < n / (256 : Int) / (256 : Int) / (256 : Int) / (256 : Int) / (256 : Int) / (256 : Int) / (256 : Int)) = false →
 R (SV.str (false && (false && (false && (false && (false && (false && (false && true))))))) [UInt8.ofNat (n / (256 : Int) / (256 : Int) / (256 : Int) / (256 : Int) / (256 : Int) / (256 : Int) % (256 : Int)).toNat, UInt8.ofNat (n / (256 : Int) / (256 : Int) / (256 : Int) / (256 : Int) / (256 : Int) % (256 : Int)).toNat, UInt8.ofNat (n / (256 : Int) / (256 : Int) / (256 : Int) / (256 : Int) % (256 : Int)).toNat, UInt8.ofNat (n / (256 : Int) / (256 : Int) / (256 : Int) % (256 : Int)).toNat, UInt8.ofNat (n / (256 : Int) / (256 : Int) % (256 : Int)).toNat, UInt8.ofNat (n / (256 : Int) % (256 : Int)).toNat, UInt8.ofNat (n % (256 : Int)).toNat]))) ∧
 (decide ((0 : Int) < n / (256 : Int) / (256 : Int) / (256 : Int) / (256 : Int) / (256 : Int) / (256 : Int)) = false →
 R (SV.str (false && (false && (false && (false && (false && (false && true)))))) [UInt8.ofNat (n / (256 : Int) / (256 : Int) / (256 : Int) / (256 : Int) / (256 : Int) % (256 : Int)).toNat, UInt8.ofNat (n / (256 : Int) / (256 : Int) / (256 : Int) / (256 : Int) % (256 : Int)).toNat, UInt8.ofNat (n / (256 : Int) / (256 : Int) / (256 : Int) % (256 : Int)).toNat, UInt8.ofNat (n / (256 : Int) / (256 : Int) % (256 : Int)).toNat, UInt8.ofNat (n / (256 : Int) % (256 : Int)).toNat, UInt8.ofNat (n % (256 : Int)).toNat]))) ∧
 (decide ((0 : Int) < n / (256 : Int) / (256 : Int) / (256 : Int) / (256 : Int) / (256 : Int)) = false →
 R (SV.str (false && (false && (false && (false && (false && true))))) [UInt8.ofNat (n / (256 : Int) / (256 : Int) / (256 : Int) / (256 : Int) % (256 : Int)).toNat, UInt8.ofNat (n / (256 : Int) / (256 : Int) / (256 : Int) % (256 : Int)).toNat, UInt8.ofNat (n / (256 : Int) / (256 : Int) % (256 : Int)).toNat, UInt8.ofNat (n / (256 : Int) % (256 : Int)).toNat, UInt8.ofNat (n % (256 : Int)).toNat]))) ∧
 (decide ((0 : Int) < n / (256 : Int) / (256 : Int) / (256 : Int) / (256 : Int)) = false →
 R (SV.str (false && (false && (false && (false && true)))) [UInt8.ofNat (n / (256 : Int) / (256 : Int) / (256 : Int) % (256 : Int)).toNat, UInt8.ofNat (n / (256 : Int) / (256 : Int) % (256 : Int)).toNat, UInt8.ofNat (n / (256 : Int) % (256 : Int)).toNat, UInt8.ofNat (n % (256 : Int)).toNat]))) ∧
 (decide ((0 : Int) < n / (256 : Int) / (256 : Int) / (256 : Int)) = false →
 R (SV.str (false && (false && (false && true))) [UInt8.ofNat (n / (256 : Int) / (256 : Int) % (256 : Int)).toNat, UInt8.ofNat (n / (256 : Int) % (256 : Int)).toNat, UInt8.ofNat (n % (256 : Int)).toNat]))) ∧
 (decide ((0 : Int) < n / (256 : Int) / (256 : Int)) = false →
 R (SV.str (false && (false && true)) [UInt8.ofNat (n / (256 : Int) % (256 : Int)).toNat, UInt8.ofNat (n % (256 : Int)).toNat]))) ∧
 (decide ((0 : Int) < n / (256 : Int)) = false →
 R (SV.str (false && true) [UInt8.ofNat (n % (256 : Int)).toNat]))) ∧
 (decide ((0 : Int) < n) = false →
 R (SV.str true []))) := by kernel_rfl
end Go.Proofs.YtkfdcapnogklfaaGreatDoor
/-
  Rlp: a number's bytes: the contract.
-/
namespace Go.Proofs.YtkfdcapnogklfaaGreatDoor
open Go Sx
set_option maxRecDepth 20000
theorem str_same {l : Bool} {a b : List UInt8} (h : a = b) : sameVal (.str l a) (.str false b) := fun E => by subst h; rfl
theorem dig_stop {k : Nat} {n : Int} (h : decide (0 < n) = false) : dig k n = [] := by
  have : ¬ (0 < n) := by simpa using h
  cases k with
  | zero => rfl
  | succ k => simp [dig, this]
theorem dig_step {k : Nat} {n : Int} (h : decide (0 < n) = true) : dig (k + 1) n = dig k (n / 256) ++ [UInt8.ofNat (n % 256).toNat] := by
  have : 0 < n := by simpa using h
  simp [dig, this]
theorem digits_holds {n : Int} (h0 : 0 ≤ n) (h1 : n < 18446744073709551616) : Holds (runP cfgD 78 Tryz.f78 [.int .u64 false n] (fun v => sameVal v (.str false (digits n)))) := by
  refine Holds.of_eq (vcDigits n _) ?_
  unfold digits
  repeat' first
    | apply And.intro
    | intro (_ : _ = _)
    | intro (c : Nat)
    | intro (_ : _ ≤ _)
  all_goals first
    | rfl
    | (apply str_same; simp only [dig_step, dig_stop, *, List.nil_append, List.cons_append])
    | (exfalso; simp only [decide_eq_true_eq] at *; omega)
noncomputable def digitsSpec : List SV → Option (Prop × SV)
  | [.int .u64 false n] => some (0 ≤ n ∧ n < 18446744073709551616, .str false (digits n))
  | _ => none
noncomputable def digitsPT : PT := purePT digitsSpec
theorem digits_ok : CallOk Tryz.prog 78 digitsPT := by
  refine pure_ok goodD (n := 20) (fn := Tryz.f78) Tryz.func78 (by kernel_rfl) (by kernel_rfl) ?_
  intro args p r h hp
  unfold digitsSpec at h
  split at h
  · rename_i n
    injection h with h; injection h with h1 h2; subst h1; subst h2
    exact ⟨rfl, rfl, digits_holds hp.1 hp.2⟩
  · cases h
end Go.Proofs.YtkfdcapnogklfaaGreatDoor
/-
  Rlp: texts as items: the set-up, and what they are.
-/
namespace Go.Proofs.YtkfdcapnogklfaaGreatDoor
open Go Sx
set_option maxRecDepth 20000
noncomputable def list1 : List (FuncId × PT) := (78, digitsPT) :: reflList
theorem list1_ok : SummOk Tryz.prog (fun f => lookPT f list1) := .cons digits_ok (purePT_mono _) reflList_ok
noncomputable def cfg1 : Cfg := { cfg0 with summ := fun f => lookPT f list1 }
end Go.Proofs.YtkfdcapnogklfaaGreatDoor
/-
  Rlp: the first item: what it is; the set-up of 'length', whose loop is annotated.
-/
namespace Go.Proofs.YtkfdcapnogklfaaGreatDoor
open Go Sx
set_option maxRecDepth 20000
def num (l : List UInt8) : Int := l.foldl (fun a b => a * 256 + (b.toNat : Int)) 0
def part (s : List UInt8) (i : Int) : Int := num ((s.drop 1).take (i - 1).toNat)
def lenB (s : List UInt8) (to : Int) : Bool := decide (to ≤ s.length) && !decide (byteAt s 1 = 0) && decide (part s to ≤ 1048576) && decide (55 < part s to)
noncomputable def annLen (s : List UInt8) (to : Int) : LoopAnn :=
  { α := Int, pre := fun _ i => 1 ≤ i ∧ i ≤ to ∧ part s i ≤ 1048576, mea := fun _ i => (to - i).toNat, fresh := 0, slots := fun _ i => [(6, .int .i64 false (part s i)), (7, .int .i64 false i)], mem := fun _ _ => [] }
noncomputable def cfgL (s : List UInt8) (to : Int) : Cfg := { cfg1 with anns := fun f => if f = 89 then [(7, always (annLen s to))] else [] }
noncomputable def runA (cfg : Cfg) (f : Nat) (fn : Func) (args : List SV) (a : Ans) : VC := runFn Tryz.prog (calling Tryz.prog cfg 20) [] (cfg.anns f) cfg.rounds fn args [] 0 (fun v m _ => a.fit v m)
def faultA (z : List SV) : Ans := .all Int fun at' => .new (fun k => .tup (z ++ [.iface 112 (.ptr k true 0)])) (.cells [.int .i64 false at', .iface 28 (.int .i64 true 2)] 2 114)
def lengthA (s : List UInt8) (to : Int) : Ans := .fork (lenB s to) fun b => match b with
  | true => .ret (.tup [.int .i64 false (part s to), .niliface])
  | false => faultA [.int .i64 true 0]
end Go.Proofs.YtkfdcapnogklfaaGreatDoor
/-
  Conditions that the executor computes, written out by a program (vcgen.py).
-/
namespace Go.Proofs.YtkfdcapnogklfaaGreatDoor
open Go Sx
set_option maxRecDepth 20000
theorem vcLength (s : List UInt8) (to : Int) : VC.holds (runA (cfgL s to) 89 Tryz.f89 [.str false s, .int .i64 false to] (lengthA s to)) = ((decide ((↑s.length : Int) < to) = true →
 (lenB s to = true →
 sameVal (SV.tup [SV.int IntKind.i64 true (0 : Int), SV.iface (112 : Nat) (SV.ptr (0 : Nat) true (0 : Nat))]) (SV.tup [SV.int IntKind.i64 false (part s to), SV.niliface])) ∧
 (lenB s to = false →
 ∃ (x : Int), SBle (SB.cells [SV.int IntKind.i64 false (↑s.length : Int), SV.iface (28 : Nat) (SV.int IntKind.i64 true (2 : Int))] (2 : Nat) (114 : Nat)) (SB.cells [SV.int IntKind.i64 false x, SV.iface (28 : TypeId) (SV.int IntKind.i64 true (2 : Int))] (2 : Nat) (114 : TypeId)) ∧
 sameVal (SV.tup [SV.int IntKind.i64 true (0 : Int), SV.iface (112 : Nat) (SV.ptr (0 : Nat) true (0 : Nat))]) (SV.tup ([SV.int IntKind.i64 true (0 : Int)] ++ [SV.iface (112 : TypeId) (SV.ptr (0 : Nat) true (0 : Nat))])))) ∧
 (decide ((↑s.length : Int) < to) = false →
 ((0 : Int) ≤ (1 : Int) ∧
 (1 : Int) < (↑s.length : Int)) ∧
 (decide (byteAt s (1 : Int) = (0 : Int)) = true →
 (lenB s to = true →
 sameVal (SV.tup [SV.int IntKind.i64 true (0 : Int), SV.iface (112 : Nat) (SV.ptr (0 : Nat) true (0 : Nat))]) (SV.tup [SV.int IntKind.i64 false (part s to), SV.niliface])) ∧
 (lenB s to = false →
 ∃ (x : Int), SBle (SB.cells [SV.int IntKind.i64 true (1 : Int), SV.iface (28 : Nat) (SV.int IntKind.i64 true (2 : Int))] (2 : Nat) (114 : Nat)) (SB.cells [SV.int IntKind.i64 false x, SV.iface (28 : TypeId) (SV.int IntKind.i64 true (2 : Int))] (2 : Nat) (114 : TypeId)) ∧
 sameVal (SV.tup [SV.int IntKind.i64 true (0 : Int), SV.iface (112 : Nat) (SV.ptr (0 : Nat) true (0 : Nat))]) (SV.tup ([SV.int IntKind.i64 true (0 : Int)] ++ [SV.iface (112 : TypeId) (SV.ptr (0 : Nat) true (0 : Nat))])))) ∧
 (decide (byteAt s (1 : Int) = (0 : Int)) = false →
 (∃ (y : Int), ((1 : Int) ≤ y ∧
 y ≤ to ∧
 part s y ≤ (1048576 : Int)) ∧
 (0 : Int) = part s y ∧
 (1 : Int) = y ∧
 True) ∧
 ∀ (x : Int), (1 : Int) ≤ x ∧
 x ≤ to ∧
 part s x ≤ (1048576 : Int) →
 (decide (x < to) = true →
 ((-9223372036854775808 : Int) ≤ part s x * (256 : Int) ∧
 part s x * (256 : Int) ≤ (9223372036854775807 : Int)) ∧
 ((0 : Int) ≤ x ∧
 x < (↑s.length : Int)) ∧
 ((-9223372036854775808 : Int) ≤ byteAt s x ∧
 byteAt s x ≤ (9223372036854775807 : Int)) ∧
 ((0 : Int) ≤ part s x * (256 : Int) ∧
 part s x * (256 : Int) ≤ (9223372036854775807 : Int) ∧
 (0 : Int) ≤ byteAt s x ∧
 byteAt s x ≤ (9223372036854775807 : Int)) ∧
 (decide ((1048576 : Int) < bitsOf BinOp.or (part s x * (256 : Int)) (byteAt s x)) = true →
 (lenB s to = true →
 sameVal (SV.tup [SV.int IntKind.i64 true (0 : Int), SV.iface (112 : Nat) (SV.ptr ((0 : Nat) + (0 : Nat)) true (0 : Nat))]) (SV.tup [SV.int IntKind.i64 false (part s to), SV.niliface])) ∧
 (lenB s to = false →
 ∃ (x_5 : Int), SBle (SB.cells [SV.int IntKind.i64 false x, SV.iface (28 : Nat) (SV.int IntKind.i64 true (2 : Int))] (2 : Nat) (114 : Nat)) (SB.cells [SV.int IntKind.i64 false x_5, SV.iface (28 : TypeId) (SV.int IntKind.i64 true (2 : Int))] (2 : Nat) (114 : TypeId)) ∧
 sameVal (SV.tup [SV.int IntKind.i64 true (0 : Int), SV.iface (112 : Nat) (SV.ptr ((0 : Nat) + (0 : Nat)) true (0 : Nat))]) (SV.tup ([SV.int IntKind.i64 true (0 : Int)] ++ [SV.iface (112 : TypeId) (SV.ptr ((0 : Nat) + (0 : Nat)) true (0 : Nat))])))) ∧
 (decide ((1048576 : Int) < bitsOf BinOp.or (part s x * (256 : Int)) (byteAt s x)) = false →
 ((-9223372036854775808 : Int) ≤ x + (1 : Int) ∧
 x + (1 : Int) ≤ (9223372036854775807 : Int)) ∧
 ∃ (y : Int), (((1 : Int) ≤ y ∧
 y ≤ to ∧
 part s y ≤ (1048576 : Int)) ∧
 (to - y).toNat < (to - x).toNat) ∧
 bitsOf BinOp.or (part s x * (256 : Int)) (byteAt s x) = part s y ∧
 x + (1 : Int) = y ∧
 True)) ∧
 (decide (x < to) = false →
 (decide (part s x ≤ (55 : Int)) = true →
 (lenB s to = true →
 sameVal (SV.tup [SV.int IntKind.i64 true (0 : Int), SV.iface (112 : Nat) (SV.ptr ((0 : Nat) + (0 : Nat)) true (0 : Nat))]) (SV.tup [SV.int IntKind.i64 false (part s to), SV.niliface])) ∧
 (lenB s to = false →
 ∃ (x : Int), SBle (SB.cells [SV.int IntKind.i64 true (1 : Int), SV.iface (28 : Nat) (SV.int IntKind.i64 true (2 : Int))] (2 : Nat) (114 : Nat)) (SB.cells [SV.int IntKind.i64 false x, SV.iface (28 : TypeId) (SV.int IntKind.i64 true (2 : Int))] (2 : Nat) (114 : TypeId)) ∧
 sameVal (SV.tup [SV.int IntKind.i64 true (0 : Int), SV.iface (112 : Nat) (SV.ptr ((0 : Nat) + (0 : Nat)) true (0 : Nat))]) (SV.tup ([SV.int IntKind.i64 true (0 : Int)] ++ [SV.iface (112 : TypeId) (SV.ptr ((0 : Nat) + (0 : Nat)) true (0 : Nat))])))) ∧
 (decide (part s x ≤ (55 : Int)) = false →
 (lenB s to = true →
 sameVal (SV.tup [SV.int IntKind.i64 false (part s x), SV.niliface]) (SV.tup [SV.int IntKind.i64 false (part s to), SV.niliface])) ∧
 (lenB s to = false →
 ∃ (_x : Int), False)))))) := by kernel_rfl
end Go.Proofs.YtkfdcapnogklfaaGreatDoor
/-
  Rlp: the length that stands ahead: the contract.
-/
namespace Go.Proofs.YtkfdcapnogklfaaGreatDoor
open Go Sx
set_option maxRecDepth 20000
theorem byteAt_lt (s : List UInt8) (i : Int) : 0 ≤ byteAt s i ∧ byteAt s i < 256 := by
  unfold byteAt; have := (s.getD i.toNat 0).toNat_lt; omega
theorem num_snoc (l : List UInt8) (b : UInt8) : num (l ++ [b]) = num l * 256 + (b.toNat : Int) := by simp [num]
theorem part_one (s : List UInt8) : part s 1 = 0 := by simp [part, num]
theorem part_succ {s : List UInt8} {x : Int} (h : 1 ≤ x) (h2 : x < s.length) : part s (x + 1) = part s x * 256 + byteAt s x := by
  unfold part
  have e : (x + 1 - 1).toNat = (x - 1).toNat + 1 := by omega
  have hx : (x - 1).toNat < (s.drop 1).length := by simp; omega
  rw [e, List.take_add_one, List.getElem?_eq_getElem hx]
  simp only [Option.toList, num_snoc]
  have e2 : byteAt s x = ((s.drop 1)[(x - 1).toNat].toNat : Int) := by
    have : 1 + (x - 1).toNat = x.toNat := by omega
    unfold byteAt
    rw [List.getElem_drop, List.getD_eq_getElem?_getD, List.getElem?_eq_getElem (by omega)]
    simp only [Option.getD_some, this]
  rw [e2]
theorem part_nn (s : List UInt8) (x : Int) : 0 ≤ part s x := by
  unfold part num
  suffices ∀ (l : List UInt8) (a : Int), 0 ≤ a → 0 ≤ l.foldl (fun a b => a * 256 + (b.toNat : Int)) a from this _ _ (Int.le_refl _)
  intro l
  induction l with
  | nil => exact fun _ h => h
  | cons b r ih => intro a h; exact ih _ (show 0 ≤ a * 256 + (b.toNat : Int) by omega)
theorem part_mono {s : List UInt8} {x : Int} (h : 1 ≤ x) : ∀ (n : Nat), x + n ≤ s.length → part s x ≤ part s (x + n)
  | 0, _ => by simp
  | n + 1, hn => by
    have h1 := part_mono (s := s) h n (by omega)
    have h2 := part_succ (s := s) (x := x + n) (by omega) (by omega)
    have h3 := byteAt_lt s (x + n)
    have h4 := part_nn s (x + n)
    have : x + ((n + 1 : Nat) : Int) = x + n + 1 := by omega
    rw [this, h2]; omega
theorem part_le {s : List UInt8} {x y : Int} (h : 1 ≤ x) (hy : y ≤ s.length) (hxy : x ≤ y) : part s x ≤ part s y := by
  have := part_mono (s := s) h (y - x).toNat (by omega)
  rwa [show x + ((y - x).toNat : Int) = y by omega] at this
theorem or_256 {a b : Int} (ha : 0 ≤ a) (hb : 0 ≤ b) (hb2 : b < 256) : bitsOf .or (a * 256) b = a * 256 + b := by
  obtain ⟨a, rfl⟩ := Int.eq_ofNat_of_zero_le ha
  obtain ⟨b, rfl⟩ := Int.eq_ofNat_of_zero_le hb
  have : ((a : Int) * 256) = ((a * 256 : Nat) : Int) := by omega
  rw [this]
  show ((((a * 256 : Nat) : Int).toNat ||| (b : Int).toNat : Nat) : Int) = _
  simp only [Int.toNat_natCast]
  have := Nat.two_pow_add_eq_or_of_lt (i := 8) (b := b) (by omega) a
  rw [show (2:Nat)^8 = 256 from rfl, Nat.mul_comm] at this
  omega
theorem lenB_iff {s : List UInt8} {to : Int} : lenB s to = true ↔ to ≤ s.length ∧ byteAt s 1 ≠ 0 ∧ part s to ≤ 1048576 ∧ 55 < part s to := by
  simp [lenB, and_assoc]
theorem length_holds {s : List UInt8} {to : Int} (h2 : 2 ≤ to) (h3 : to < 100) : Holds (runA (cfgL s to) 89 Tryz.f89 [.str false s, .int .i64 false to] (lengthA s to)) := by
  refine Holds.of_eq (vcLength s to) ?_
  have F : ∀ {p : Prop}, ¬ (to ≤ s.length ∧ byteAt s 1 ≠ 0 ∧ part s to ≤ 1048576 ∧ 55 < part s to) → lenB s to = true → p := fun h e => absurd (lenB_iff.1 e) h
  refine ⟨fun a => ⟨F (by simp at a; omega), fun _ => by (first | exact ⟨_, SBle.cells (fun _ => rfl) rfl, fun _ => rfl⟩ | exact fun _ => rfl | trivial)⟩, fun a => ?_⟩
  simp only [decide_eq_false_iff_not, Int.not_lt] at a
  refine ⟨by omega, fun b => ⟨F (by simp at b; simp [b]), fun _ => by (first | exact ⟨_, SBle.cells (fun _ => rfl) rfl, fun _ => rfl⟩ | exact fun _ => rfl | trivial)⟩, fun b => ?_⟩
  simp only [decide_eq_false_iff_not] at b
  refine ⟨⟨1, ⟨by omega, by omega, by rw [part_one]; decide⟩, (part_one s).symm, rfl, trivial⟩, fun x ⟨hx1, hx2, hx3⟩ => ?_⟩
  have g1 := part_nn s x
  have g2 := byteAt_lt s x
  rw [or_256 g1 g2.1 g2.2]
  refine ⟨fun c => ?_, fun c => ?_⟩
  · simp only [decide_eq_true_eq] at c
    have g3 := part_succ (s := s) hx1 (by omega)
    rw [← g3]
    refine ⟨by omega, by omega, by omega, by omega, fun d => ⟨F ?_, fun _ => by (first | exact ⟨_, SBle.cells (fun _ => rfl) rfl, fun _ => rfl⟩ | exact fun _ => rfl | trivial)⟩, fun d => ⟨by omega, x + 1, ⟨⟨by omega, by omega, by simpa using d⟩, by omega⟩, rfl, rfl, trivial⟩⟩
    simp only [decide_eq_true_eq] at d
    have := part_le (s := s) (x := x + 1) (by omega) a (by omega)
    omega
  · simp only [decide_eq_false_iff_not] at c
    obtain rfl : x = to := by omega
    refine ⟨fun d => ⟨F (by simp at d; omega), fun _ => by (first | exact ⟨_, SBle.cells (fun _ => rfl) rfl, fun _ => rfl⟩ | exact fun _ => rfl | trivial)⟩, fun d => ⟨fun _ => by (first | exact ⟨_, SBle.cells (fun _ => rfl) rfl, fun _ => rfl⟩ | exact fun _ => rfl | trivial), fun e => ?_⟩⟩
    simp only [decide_eq_false_iff_not] at d
    rw [lenB_iff.2 ⟨a, b, hx3, by omega⟩] at e
    cases e
def lengthSpec : List SV → Option (Prop × Ans)
  | [.str false s, .int .i64 false to] => some (2 ≤ to ∧ to < 100, lengthA s to)
  | _ => none
noncomputable def lengthPT : PT := ansPT lengthSpec
theorem goodL (s : List UInt8) (to : Int) : Sx.Good Tryz.prog (cfgL s to) := ⟨mixes, list1_ok, fns_ok⟩
theorem faultA_ok {z : List SV} (hz : SV.wfs 0 z = true) : (faultA z).Ok := by
  intro x
  refine ⟨rfl, rfl, fun k => SV.wfs_append (SV.wfs_mono (Nat.zero_le _) z hz) ?_, fun E E' k k' h => ?_⟩
  · simp [SV.wfs, SV.wf, Nat.blt_eq]
  · have hk : E k = E' k' := h rfl
    have hv := SV.vals_pure hz E E'
    simp only [SV.vals_eq] at hv
    simp [SV.val, SV.vals_eq, hk, hv]
theorem length_ok : CallOk Tryz.prog 89 lengthPT := by
  refine ans_ok (n := 20) (fn := Tryz.f89) Tryz.func89 (by kernel_rfl) (by kernel_rfl) ?_
  intro args p a h hp
  unfold lengthSpec at h
  split at h
  · rename_i s to
    injection h with h; injection h with h1 h2; subst h1; subst h2
    refine ⟨_, goodL s to, rfl, fun b => ?_, length_holds hp.1 hp.2⟩
    cases b
    · exact faultA_ok rfl
    · exact rfl
  · cases h
end Go.Proofs.YtkfdcapnogklfaaGreatDoor
/-
  Rlp: the first item of a text: what it is; the set-up.
-/
namespace Go.Proofs.YtkfdcapnogklfaaGreatDoor
open Go Sx
set_option maxRecDepth 20000
noncomputable def list2 : List (FuncId × PT) := (89, lengthPT) :: list1
theorem list2_ok : SummOk Tryz.prog (fun f => lookPT f list2) := .cons length_ok (ansPT_mono _) list1_ok
noncomputable def cfg2 : Cfg := { cfg0 with summ := fun f => lookPT f list2 }
theorem good2 : Sx.Good Tryz.prog cfg2 := ⟨mixes, list2_ok, fns_ok⟩
def lead (s : List UInt8) : Int := if byteAt s 0 < 192 then byteAt s 0 - 128 else byteAt s 0 - 192
def cutFrom (s : List UInt8) : Int := if byteAt s 0 < 128 then 0 else if 55 < lead s then lead s - 54 else 1
def cutN (s : List UInt8) : Int := if byteAt s 0 < 128 then 1 else if 55 < lead s then part s (lead s - 54) else lead s
def cutB (s : List UInt8) : Bool := decide (s ≠ []) && (decide (byteAt s 0 < 128) || ((!decide (55 < lead s) || lenB s (lead s - 54)) && decide (cutN s ≤ s.length - cutFrom s) && !(decide (byteAt s 0 < 192) && decide (lead s = 1) && decide (byteAt s 1 < 128))))
def cutL (s : List UInt8) : Bool := decide (192 ≤ byteAt s 0)
def cutIn (s : List UInt8) : List UInt8 := (s.drop (cutFrom s).toNat).take (cutN s).toNat
def cutRest (s : List UInt8) : List UInt8 := s.drop (cutFrom s + cutN s).toNat
def cutA (s : List UInt8) : Ans := .fork (cutB s) fun b => match b with
  | true => .ret (.tup [.bool false (cutL s), .str false (cutIn s), .str false (cutRest s), .niliface])
  | false => faultA [.bool true false, .str true [], .str true []]
end Go.Proofs.YtkfdcapnogklfaaGreatDoor
