/-
  Conditions that the executor computes, written out by a program (vcgen.py).
-/
import Derived.Test.YtoalfimkkibpdaaGreatDoorMp
import Derived.Test.YtoalfimkkibpdaaGreatDoorMn
namespace Go.Proofs.YtoalfimkkibpdaaGreatDoor
open Go Sx
set_option maxRecDepth 20000
theorem vcNPut (p : List UInt8) (leaf : Bool) : VC.holds (runA cfgN1 200 Tryz.f200 [.str false p, .bool false leaf] (nputA p leaf)) = ((p.length < 1152921504606846976 ∧ ((!nibB p) = true → (nibB p = true → sameVal (SV.tup [SV.str true [], SV.bool true false]) (SV.tup [SV.str false (nputL p leaf), SV.bool true true])) ∧ (nibB p = false → sameVal (SV.tup [SV.str true [], SV.bool true false]) (SV.tup [SV.str true [], SV.bool true false]))) ∧ ((!nibB p) = false → (0 ≤ (p.length : Int) ∧ (p.length : Int) ≤ 9223372036854775807 ∧ (0 : Int) < (2 : Int)) ∧ True ∧ (0 ≤ (p.length : Int) ∧ (p.length : Int) ≤ 9223372036854775807 ∧ (0 : Int) < (2 : Int)) ∧ ((!decide ((p.length : Int) % 2 = (1 : Int))) = true → (↑(1 : Nat) : Int) + 1 ≤ (9223372036854775807 : Int) ∧ (↑(2 : Nat) : Int) + (p.length : Int) ≤ 9223372036854775807 ∧ (cat (cat [UInt8.ofNat (flagN leaf (decide ((p.length : Int) % 2 = (1 : Int)))).toNat] [(0 : UInt8)]) p).length < 1099511627776 ∧ (nibB p = true → sameVal (SV.tup [SV.str false (pairsL (cat (cat [UInt8.ofNat (flagN leaf (decide ((p.length : Int) % 2 = (1 : Int)))).toNat] [(0 : UInt8)]) p)), SV.bool true true]) (SV.tup [SV.str false (nputL p leaf), SV.bool true true])) ∧ (nibB p = false →
 sameVal (SV.tup [SV.str false (pairsL (cat (cat [UInt8.ofNat (flagN leaf (decide ((p.length : Int) % 2 = (1 : Int)))).toNat] [(0 : UInt8)]) p)), SV.bool true true]) (SV.tup [SV.str true [], SV.bool true false]))) ∧ ((!decide ((p.length : Int) % 2 = (1 : Int))) = false → (↑(1 : Nat) : Int) + (p.length : Int) ≤ 9223372036854775807 ∧ (cat [UInt8.ofNat (flagN leaf (decide ((p.length : Int) % 2 = (1 : Int)))).toNat] p).length < 1099511627776 ∧ (nibB p = true → sameVal (SV.tup [SV.str false (pairsL (cat [UInt8.ofNat (flagN leaf (decide ((p.length : Int) % 2 = (1 : Int)))).toNat] p)), SV.bool true true]) (SV.tup [SV.str false (nputL p leaf), SV.bool true true])) ∧ (nibB p = false → sameVal (SV.tup [SV.str false (pairsL (cat [UInt8.ofNat (flagN leaf (decide ((p.length : Int) % 2 = (1 : Int)))).toNat] p)), SV.bool true true]) (SV.tup [SV.str true [], SV.bool true false])))))) := by kernel_rfl
theorem vcNGet (s : List UInt8) : VC.holds (runA cfgN1 201 Tryz.f201 [.str false s] (ngetA s)) = ((fun P0 : SV => ((fun P1 : SV => ((fun P2 : List UInt8 => ((fun P3 : List UInt8 => ((s.length < 1099511627776 ∧ (decide (pathL s = []) = true → (ngetB s = true → sameVal P0 P1) ∧ (ngetB s = false → sameVal P0 P0)) ∧ (decide (pathL s = []) = false → ((0 : Int) ≤ (0 : Int) ∧ 0 < (↑(pathL s).length : Int)) ∧ (decide (byteAt (pathL s) 0 = (3 : Int)) = true → ((0 : Int) ≤ (1 : Int) ∧ 1 ≤ (↑(pathL s).length : Int) ∧ (↑(pathL s).length : Int) ≤ (↑(pathL s).length : Int)) ∧ (ngetB s = true → sameVal (SV.tup [SV.str (false && true && false) P2, SV.bool true true, SV.bool true true]) P1) ∧ (ngetB s = false → sameVal (SV.tup [SV.str (false && true && false) P2, SV.bool true true, SV.bool true true]) P0)) ∧ (decide (byteAt (pathL s) 0 = (3 : Int)) = false → (decide (byteAt (pathL s) 0 = (2 : Int)) = true → ((0 : Int) ≤ (1 : Int) ∧ 1 < (↑(pathL s).length : Int)) ∧ ((!decide (byteAt (pathL s) 1 = (0 : Int))) = true → (ngetB s = true → sameVal P0 P1) ∧ (ngetB s = false → sameVal P0 P0)) ∧ ((!decide (byteAt (pathL s) 1 = (0 : Int))) = false → ((0 : Int) ≤ (2 : Int) ∧ 2 ≤ (↑(pathL s).length : Int) ∧ (↑(pathL s).length : Int) ≤ (↑(pathL s).length : Int)) ∧ (ngetB s = true → sameVal (SV.tup [SV.str (false && true && false) P3, SV.bool true true, SV.bool true true]) P1) ∧
 (ngetB s = false → sameVal (SV.tup [SV.str (false && true && false) P3, SV.bool true true, SV.bool true true]) P0))) ∧ (decide (byteAt (pathL s) 0 = (2 : Int)) = false → (decide (byteAt (pathL s) 0 = (1 : Int)) = true → ((0 : Int) ≤ (1 : Int) ∧ 1 ≤ (↑(pathL s).length : Int) ∧ (↑(pathL s).length : Int) ≤ (↑(pathL s).length : Int)) ∧ (ngetB s = true → sameVal (SV.tup [SV.str (false && true && false) P2, SV.bool true false, SV.bool true true]) P1) ∧ (ngetB s = false → sameVal (SV.tup [SV.str (false && true && false) P2, SV.bool true false, SV.bool true true]) P0)) ∧ (decide (byteAt (pathL s) 0 = (1 : Int)) = false → (decide (byteAt (pathL s) 0 = (0 : Int)) = true → ((0 : Int) ≤ (1 : Int) ∧ 1 < (↑(pathL s).length : Int)) ∧ ((!decide (byteAt (pathL s) 1 = (0 : Int))) = true → (ngetB s = true → sameVal P0 P1) ∧ (ngetB s = false → sameVal P0 P0)) ∧ ((!decide (byteAt (pathL s) 1 = (0 : Int))) = false → ((0 : Int) ≤ (2 : Int) ∧ 2 ≤ (↑(pathL s).length : Int) ∧ (↑(pathL s).length : Int) ≤ (↑(pathL s).length : Int)) ∧ (ngetB s = true → sameVal (SV.tup [SV.str (false && true && false) P3, SV.bool true false, SV.bool true true]) P1) ∧ (ngetB s = false →
 sameVal (SV.tup [SV.str (false && true && false) P3, SV.bool true false, SV.bool true true]) P0))) ∧ (decide (byteAt (pathL s) 0 = (0 : Int)) = false → (ngetB s = true → sameVal P0 P1) ∧ (ngetB s = false → sameVal P0 P0))))))))) (subStr (pathL s) (some (Operand.const (Value.int IntKind.i64 2))) none 2 (↑(pathL s).length : Int)))) (subStr (pathL s) (some (Operand.const (Value.int IntKind.i64 1))) none 1 (↑(pathL s).length : Int)))) (SV.tup [SV.str false (ngetP s), SV.bool false (ngetLeaf s), SV.bool true true]))) (SV.tup [SV.str true [], SV.bool true false, SV.bool true false])) := by kernel_rfl
end Go.Proofs.YtoalfimkkibpdaaGreatDoor
/-
  Node: nibbles: the contracts of Put, Get; what a node is: the set-up.
-/
namespace Go.Proofs.YtoalfimkkibpdaaGreatDoor
open Go Sx
set_option maxRecDepth 20000
theorem bytesFrom_len (f : Nat → Int) (i n : Nat) : (bytesFrom f i n).length = n := by simp [bytesFrom]
theorem pathL_len (k : List UInt8) : (pathL k).length = 2 * k.length := bytesFrom_len _ _ _
theorem pairsL_len (p : List UInt8) : (pairsL p).length = p.length / 2 := bytesFrom_len _ _ _
theorem tup2_same {l : Bool} {a b : List UInt8} {l1 l2 x : Bool} (h : a = b) : sameVal (.tup [.str l a, .bool l1 x]) (.tup [.str false b, .bool l2 x]) := fun E => by subst h; rfl
theorem nput_holds {p : List UInt8} (leaf : Bool) (hp : p.length < 1073741824) : Holds (runA cfgN1 200 Tryz.f200 [.str false p, .bool false leaf] (nputA p leaf)) := by
  refine Holds.of_eq (vcNPut p leaf) ?_
  cases nibB p with
  | false => exact ⟨by omega, fun _ => ⟨(fun h => by cases h), fun _ _ => rfl⟩, fun h => by cases h⟩
  | true =>
    refine ⟨by omega, (fun h => by cases h), fun _ => ⟨by omega, trivial, by omega, fun h => ?_, fun h => ?_⟩⟩
    · have ho : decide ((p.length : Int) % 2 = 1) = false := by simpa using h
      refine ⟨by omega, by omega, by simp only [cat, List.length_append, List.length_cons, List.length_nil]; omega, fun _ => tup2_same ?_, fun h => by cases h⟩
      rw [nputL, ho]; rfl
    · have ho : decide ((p.length : Int) % 2 = 1) = true := by simpa using h
      refine ⟨by omega, by simp only [cat, List.length_append, List.length_cons, List.length_nil]; omega, fun _ => tup2_same ?_, fun h => by cases h⟩
      rw [nputL, ho]; rfl
def nputSpec : List SV → Option (Prop × Ans)
  | [.str false p, .bool false leaf] => some (p.length < 1073741824, nputA p leaf)
  | _ => none
theorem nput_ok : CallOk Tryz.prog 200 (ansPT nputSpec) := by
  refine ans_ok (n := 20) (fn := Tryz.f200) Tryz.func200 (by kernel_rfl) (by kernel_rfl) ?_
  intro args p a h hp
  unfold nputSpec at h
  split at h
  · injection h with h; injection h with h1 h2; subst h1; subst h2
    exact ⟨_, goodN1, rfl, fun b => by cases b <;> exact rfl, nput_holds _ hp⟩
  · cases h
theorem tup3_same {l : Bool} {a b : List UInt8} {l1 l2 l3 l4 x y z : Bool} (h : a = b) (h2 : x = y) : sameVal (.tup [.str l a, .bool l1 x, .bool l2 z]) (.tup [.str false b, .bool l3 y, .bool l4 z]) := fun E => by subst h; subst h2; rfl
theorem nget_iff {s : List UInt8} : ngetB s = true ↔ pathL s ≠ [] ∧ byteAt (pathL s) 0 ≤ 3 ∧ (byteAt (pathL s) 0 % 2 = 1 ∨ byteAt (pathL s) 1 = 0) := by
  simp only [ngetB, Bool.and_eq_true, Bool.or_eq_true, decide_eq_true_eq, and_assoc]
theorem nget_holds {s : List UInt8} (hs : s.length < 1099511627776) : Holds (runA cfgN1 201 Tryz.f201 [.str false s] (ngetA s)) := by
  refine Holds.of_eq (vcNGet s) ?_
  have hl := pathL_len s
  have b0 := byteAt_lt (pathL s) 0
  have F : ∀ {p : Prop}, ¬ (pathL s ≠ [] ∧ byteAt (pathL s) 0 ≤ 3 ∧ (byteAt (pathL s) 0 % 2 = 1 ∨ byteAt (pathL s) 1 = 0)) → ngetB s = true → p := fun h h' => absurd (nget_iff.1 h') h
  have T : ∀ {p : Prop}, (pathL s ≠ [] ∧ byteAt (pathL s) 0 ≤ 3 ∧ (byteAt (pathL s) 0 % 2 = 1 ∨ byteAt (pathL s) 1 = 0)) → ngetB s = false → p := fun h h' => by rw [nget_iff.2 h] at h'; cases h'
  have none' : sameVal (.tup [.str true [], .bool true false, .bool true false]) (.tup [.str true [], .bool true false, .bool true false]) := fun _ => rfl
  have O : byteAt (pathL s) 0 % 2 = 1 → (pathL s).drop 1 = ngetP s := fun h => (if_pos h).symm
  have Ev : ¬ byteAt (pathL s) 0 % 2 = 1 → (pathL s).drop 2 = ngetP s := fun h => (if_neg h).symm
  refine ⟨hs, fun h => ⟨F (by simp at h; simp [h]), fun _ => none'⟩, fun h => ?_⟩
  have h : pathL s ≠ [] := of_decide_eq_false h
  have hp := List.length_pos_iff.2 h
  refine ⟨by omega, fun a => ?_, fun a => ⟨fun b => ?_, fun b => ⟨fun c => ?_, fun c => ⟨fun d => ?_, fun d => ?_⟩⟩⟩⟩
  · have a := of_decide_eq_true a
    refine ⟨by omega, fun _ => tup3_same (O (by omega)) (by simp [ngetLeaf, a]), T ⟨h, by omega, .inl (by omega)⟩⟩
  · have b := of_decide_eq_true b
    refine ⟨by omega, fun g => ?_, fun g => ⟨by omega, fun _ => tup3_same (Ev (by omega)) (by simp [ngetLeaf, b]), ?_⟩⟩
    · have g : ¬ byteAt (pathL s) 1 = 0 := by simpa using g
      exact ⟨F (by rintro ⟨_, _, e | e⟩; omega; exact g e), fun _ => none'⟩
    · have g : byteAt (pathL s) 1 = 0 := by simpa using g
      exact T ⟨h, by omega, .inr g⟩
  · have c := of_decide_eq_true c
    refine ⟨by omega, fun _ => tup3_same (O (by omega)) (by simp [ngetLeaf, c]), T ⟨h, by omega, .inl (by omega)⟩⟩
  · have d := of_decide_eq_true d
    refine ⟨by omega, fun g => ?_, fun g => ⟨by omega, fun _ => tup3_same (Ev (by omega)) (by simp [ngetLeaf, d]), ?_⟩⟩
    · have g : ¬ byteAt (pathL s) 1 = 0 := by simpa using g
      exact ⟨F (by rintro ⟨_, _, e | e⟩; omega; exact g e), fun _ => none'⟩
    · have g : byteAt (pathL s) 1 = 0 := by simpa using g
      exact T ⟨h, by omega, .inr g⟩
  · have a := of_decide_eq_false a
    have b := of_decide_eq_false b
    have c := of_decide_eq_false c
    have d := of_decide_eq_false d
    exact ⟨F (by rintro ⟨_, e, _⟩; omega), fun _ => none'⟩
def ngetSpec : List SV → Option (Prop × Ans)
  | [.str false s] => some (s.length < 1099511627776, ngetA s)
  | _ => none
theorem nget_ok : CallOk Tryz.prog 201 (ansPT ngetSpec) := by
  refine ans_ok (n := 20) (fn := Tryz.f201) Tryz.func201 (by kernel_rfl) (by kernel_rfl) ?_
  intro args p a h hp
  unfold ngetSpec at h
  split at h
  · injection h with h; injection h with h1 h2; subst h1; subst h2
    exact ⟨_, goodN1, rfl, fun b => by cases b <;> exact rfl, nget_holds hp⟩
  · cases h
noncomputable def listN2 : List (FuncId × PT) := (166, purePT nvalidSpec) :: (200, ansPT nputSpec) :: (201, ansPT ngetSpec) :: list7
theorem listN2_ok : SummOk Tryz.prog (fun f => lookPT f listN2) := .cons nvalid_ok (purePT_mono _) (.cons nput_ok (ansPT_mono _) (.cons nget_ok (ansPT_mono _) list7_ok))
noncomputable def cfgN2 : Cfg := { cfg0 with summ := fun f => lookPT f listN2 }
theorem goodN2' : Sx.Good Tryz.prog cfgN2 := ⟨mixes, listN2_ok, fns_ok⟩
end Go.Proofs.YtoalfimkkibpdaaGreatDoor
/-
  Node: what a node is: the set-up of the first functions.
-/
namespace Go.Proofs.YtoalfimkkibpdaaGreatDoor
open Go Sx
set_option maxRecDepth 20000
structure Nd where
  k : Int
  p : List UInt8
  v : List UInt8
  r : Nat → List UInt8
def refCells (r : Nat → List UInt8) : List SV := [.str false (r 0), .str false (r 1), .str false (r 2), .str false (r 3), .str false (r 4), .str false (r 5), .str false (r 6), .str false (r 7), .str false (r 8), .str false (r 9), .str false (r 10), .str false (r 11), .str false (r 12), .str false (r 13), .str false (r 14), .str false (r 15)]
def Nd.svL (x : Nd) (l : Bool) (k : Int) : SV := .agg (.int .i64 l k :: .str false x.p :: .str false x.v :: refCells x.r)
def Nd.sv (x : Nd) : SV := x.svL false x.k
def zeroN : SV := .agg [.int .i64 true 0, .str true [], .str true [], .str true [], .str true [], .str true [], .str true [], .str true [], .str true [], .str true [], .str true [], .str true [], .str true [], .str true [], .str true [], .str true [], .str true [], .str true [], .str true []]
def ndOf : List SV → Option Nd
  | [.int .i64 false k, .str false p, .str false v, .str false r0, .str false r1, .str false r2, .str false r3, .str false r4, .str false r5, .str false r6, .str false r7, .str false r8, .str false r9, .str false r10, .str false r11, .str false r12, .str false r13, .str false r14, .str false r15] => some ⟨k, p, v, fun i => [r0, r1, r2, r3, r4, r5, r6, r7, r8, r9, r10, r11, r12, r13, r14, r15].getD i []⟩
  | _ => none
theorem ndOf_eq {l : List SV} {x : Nd} (h : ndOf l = some x) : SV.agg l = x.sv := by
  unfold ndOf at h
  split at h
  · injection h with h; subst h; rfl
  · cases h
def plainB (t : List UInt8) : Bool := cutB t && !cutL t && decide (cutRest t = [])
def hashB (t : List UInt8) : Bool := plainB t && decide (((cutIn t).length : Int) = 32)
def plainA (t : List UInt8) : Ans := .fork (plainB t) fun b => match b with
  | true => .ret (.tup [.str false (cutIn t), .bool true true])
  | false => .ret (.tup [.str true [], .bool true false])
def hashA (t : List UInt8) : Ans := .fork (hashB t) fun b => match b with
  | true => .ret (.tup [.str false (cutIn t), .bool true true])
  | false => .ret (.tup [.str true [], .bool true false])
def pathB (x : Nd) (least : Int) : Bool := decide (least ≤ (x.p.length : Int)) && decide ((x.p.length : Int) ≤ 12) && nibB x.p
def behindI (r : Nat → List UInt8) : Nat → Int
  | 0 => 0
  | i + 1 => if r i = [] then behindI r i else (i : Int) + 1
noncomputable def annBehind (x : Nd) : LoopAnn :=
  { α := Nat, pre := fun _ i => i ≤ 16, mea := fun _ i => 16 - i, fresh := 0, slots := fun _ i => [(7, .int .i64 false i)],
    mem := fun _ i => [(1, .cells [.int .i64 false (behindI x.r i)] 1 3)] }
noncomputable def cfgNB (x : Nd) : Cfg := { cfg0 with summ := fun f => lookPT f listN2, anns := fun f => if f = 192 then [(1, always (annBehind x))] else [] }
theorem goodNB (x : Nd) : Sx.Good Tryz.prog (cfgNB x) := ⟨mixes, listN2_ok, fns_ok⟩
end Go.Proofs.YtoalfimkkibpdaaGreatDoor
/-
  Conditions that the executor computes, written out by a program (vcgen.py).
-/
namespace Go.Proofs.YtoalfimkkibpdaaGreatDoor
open Go Sx
set_option maxRecDepth 20000
theorem vcPlain (t : List UInt8) : VC.holds (runA cfgN2 165 Tryz.f165 [.str false t] (plainA t)) = ((fun P0 : SV => ((t.length < 9223372036854775808 ∧ (cutB t = true → (cutL t = true → (plainB t = true → sameVal P0 (SV.tup [SV.str false (cutIn t), SV.bool true true])) ∧ (plainB t = false → sameVal P0 P0)) ∧ (cutL t = false → ((!decide (cutRest t = [])) = true → (plainB t = true → sameVal P0 (SV.tup [SV.str false (cutIn t), SV.bool true true])) ∧ (plainB t = false → sameVal P0 P0)) ∧ ((!decide (cutRest t = [])) = false → (plainB t = true → sameVal (SV.tup [SV.str false (cutIn t), SV.bool true true]) (SV.tup [SV.str false (cutIn t), SV.bool true true])) ∧ (plainB t = false → sameVal (SV.tup [SV.str false (cutIn t), SV.bool true true]) P0)))) ∧ (cutB t = false → (plainB t = true → sameVal P0 (SV.tup [SV.str false (cutIn t), SV.bool true true])) ∧ (plainB t = false → sameVal P0 P0))))) (SV.tup [SV.str true [], SV.bool true false])) := by kernel_rfl
theorem vcHash (t : List UInt8) : VC.holds (runA cfgN2 135 Tryz.f135 [.str false t] (hashA t)) = ((fun P0 : SV => ((fun P1 : SV => ((t.length < 9223372036854775808 ∧ (cutB t = true → (cutL t = true → (hashB t = true → sameVal P0 P1) ∧ (hashB t = false → sameVal P0 P0)) ∧ (cutL t = false → ((!decide (cutRest t = [])) = true → (hashB t = true → sameVal P0 P1) ∧ (hashB t = false → sameVal P0 P0)) ∧ ((!decide (cutRest t = [])) = false → ((!decide ((↑(cutIn t).length : Int) = 32)) = true → (hashB t = true → sameVal P0 P1) ∧ (hashB t = false → sameVal P0 P0)) ∧ ((!decide ((↑(cutIn t).length : Int) = 32)) = false → (hashB t = true → sameVal P1 P1) ∧ (hashB t = false → sameVal P1 P0))))) ∧ (cutB t = false → (hashB t = true → sameVal P0 P1) ∧ (hashB t = false → sameVal P0 P0))))) (SV.tup [SV.str false (cutIn t), SV.bool true true]))) (SV.tup [SV.str true [], SV.bool true false])) := by kernel_rfl
theorem vcNdPath (x : Nd) (least : Int) (R : SV → Prop) : VC.holds (runP cfgN2 197 Tryz.f197 [x.sv, .int .i64 false least] R) = (((decide (least ≤ (x.p.length : Int)) = true → (decide ((x.p.length : Int) ≤ 12) = true → x.p.length < 1152921504606846976 ∧ R (SV.bool false (nibB x.p))) ∧ (decide ((x.p.length : Int) ≤ 12) = false → R (SV.bool true false))) ∧ (decide (least ≤ (x.p.length : Int)) = false → R (SV.bool true false)))) := by kernel_rfl
theorem vcBehind (x : Nd) (R : SV → Prop) : VC.holds (runP (cfgNB x) 198 Tryz.f198 [x.sv] R) = ((fun R0 : Nat → SV => ((fun P0 : SB => ((∀ (u4 : Loop), (∃ (u3 : Nat), u3 ≤ 16 ∧ 0 = (u3 : Int) ∧ SBle (SB.cells [SV.int .i64 true 0] 1 3) (SB.cells [SV.int .i64 false (behindI x.r u3)] 1 3) ∧ SBle (SB.loop LoopState.ready none u4) (SB.loop LoopState.ready none u4) ∧ SBle P0 P0 ∧ SBle (SB.cells x.sv.cells 19 259) (SB.cells x.sv.cells 19 259) ∧ True) ∧ ∀ (u2 : Nat), u2 ≤ 16 → (decide ((u2 : Int) < 16) = true → (0 ≤ (u2 : Int) ∧ (u2 : Int) < 16 ∧ (u2 : Int) < (↑(16 : Nat) : Int)) ∧ ((!decide (selS [x.r 0, x.r 1, x.r 2, x.r 3, x.r 4, x.r 5, x.r 6, x.r 7, x.r 8, x.r 9, x.r 10, x.r 11, x.r 12, x.r 13, x.r 14, x.r 15] (u2 : Int).toNat = [])) = true → u4 = u4 ∧ ((-9223372036854775808 : Int) ≤ (u2 : Int) + 1 ∧ (u2 : Int) + 1 ≤ (9223372036854775807 : Int)) ∧ ((-9223372036854775808 : Int) ≤ (u2 : Int) + 1 ∧ (u2 : Int) + 1 ≤ (9223372036854775807 : Int)) ∧ ∃ (u1 : Nat), (u1 ≤ 16 ∧ 16 - u1 < 16 - u2) ∧ (u2 : Int) + 1 = (u1 : Int) ∧ SBle (SB.cells [SV.int .i64 false ((u2 : Int) + 1)] 1 3) (SB.cells [SV.int .i64 false (behindI x.r u1)] 1 3) ∧ SBle (SB.loop LoopState.ready none u4) (SB.loop LoopState.ready none u4) ∧ SBle P0 P0 ∧ SBle (SB.cells x.sv.cells 19 259) (SB.cells x.sv.cells 19 259) ∧ True) ∧
 ((!decide (selS [x.r 0, x.r 1, x.r 2, x.r 3, x.r 4, x.r 5, x.r 6, x.r 7, x.r 8, x.r 9, x.r 10, x.r 11, x.r 12, x.r 13, x.r 14, x.r 15] (u2 : Int).toNat = [])) = false → ((-9223372036854775808 : Int) ≤ (u2 : Int) + 1 ∧ (u2 : Int) + 1 ≤ (9223372036854775807 : Int)) ∧ ∃ (u0 : Nat), (u0 ≤ 16 ∧ 16 - u0 < 16 - u2) ∧ (u2 : Int) + 1 = (u0 : Int) ∧ SBle (SB.cells [SV.int .i64 false (behindI x.r u2)] 1 3) (SB.cells [SV.int .i64 false (behindI x.r u0)] 1 3) ∧ SBle (SB.loop LoopState.ready none u4) (SB.loop LoopState.ready none u4) ∧ SBle P0 P0 ∧ SBle (SB.cells x.sv.cells 19 259) (SB.cells x.sv.cells 19 259) ∧ True)) ∧ (decide ((u2 : Int) < 16) = false → R (SV.int .i64 false (behindI x.r u2)))))) (SB.cells (SV.agg [SV.int .i64 false x.k, SV.str false x.p, SV.str false x.v, R0 0, R0 1, R0 2, R0 3, R0 4, R0 5, R0 6, R0 7, R0 8, R0 9, R0 10, R0 11, R0 12, R0 13, R0 14, R0 15]).cells 19 259))) (fun (n0 : Nat)  => SV.str false (x.r n0))) := by kernel_rfl
theorem vcNdNone (x : Nd) (R : SV → Prop) : VC.holds (runP cfgN2 182 Tryz.f182 [x.sv] R) = ((R (SV.bool (false && true && (false && true && (false && true && (false && true && (false && true && (false && true && (false && true && (false && true && (false && true && (false && true && (false && true && (false && true && (false && true && (false && true && (false && true && (false && true && (false && true && (false && true && (false && true && true))))))))))))))) && true)))) (decide (x.k = 0) && (decide (x.p = []) && (decide (x.v = []) && (decide (x.r 0 = []) && (decide (x.r 1 = []) && (decide (x.r 2 = []) && (decide (x.r 3 = []) && (decide (x.r 4 = []) && (decide (x.r 5 = []) && (decide (x.r 6 = []) && (decide (x.r 7 = []) && (decide (x.r 8 = []) && (decide (x.r 9 = []) && (decide (x.r 10 = []) && (decide (x.r 11 = []) && (decide (x.r 12 = []) && (decide (x.r 13 = []) && (decide (x.r 14 = []) && (decide (x.r 15 = []) && true))))))))))))))) && true))))))) := by kernel_rfl
end Go.Proofs.YtoalfimkkibpdaaGreatDoor
/-
  Node: items, hashes, paths, refs: the contracts.
-/
namespace Go.Proofs.YtoalfimkkibpdaaGreatDoor
open Go Sx
set_option maxRecDepth 20000
theorem plain_iff {t : List UInt8} : plainB t = true ↔ cutB t = true ∧ cutL t = false ∧ cutRest t = [] := by
  simp only [plainB, Bool.and_eq_true, Bool.not_eq_true', decide_eq_true_eq, and_assoc]
theorem hash_iff {t : List UInt8} : hashB t = true ↔ (cutB t = true ∧ cutL t = false ∧ cutRest t = []) ∧ (cutIn t).length = 32 := by
  simp only [hashB, Bool.and_eq_true, plain_iff, decide_eq_true_eq]
  constructor <;> rintro ⟨h1, h2⟩ <;> exact ⟨h1, by omega⟩
theorem plain_holds {t : List UInt8} (ht : t.length < 9223372036854775808) : Holds (runA cfgN2 165 Tryz.f165 [.str false t] (plainA t)) := by
  refine Holds.of_eq (vcPlain t) ?_
  have no : sameVal (.tup [.str true [], .bool true false]) (.tup [.str true [], .bool true false]) := fun _ => rfl
  have F : ∀ {p : Prop}, ¬ (cutB t = true ∧ cutL t = false ∧ cutRest t = []) → plainB t = true → p := fun h h' => absurd (plain_iff.1 h') h
  refine ⟨ht, fun a => ⟨fun b => ⟨F (by simp [b]), fun _ => no⟩, fun b => ⟨fun c => ⟨F (by simp at c; simp [c]), fun _ => no⟩, fun c => ?_⟩⟩, fun a => ⟨F (by simp [a]), fun _ => no⟩⟩
  have c : cutRest t = [] := by simpa using c
  have hB := plain_iff.2 ⟨a, b, c⟩
  exact ⟨fun _ _ => rfl, fun h => by rw [hB] at h; cases h⟩
theorem hash_holds {t : List UInt8} (ht : t.length < 9223372036854775808) : Holds (runA cfgN2 135 Tryz.f135 [.str false t] (hashA t)) := by
  refine Holds.of_eq (vcHash t) ?_
  have no : sameVal (.tup [.str true [], .bool true false]) (.tup [.str true [], .bool true false]) := fun _ => rfl
  have F : ∀ {p : Prop}, ¬ ((cutB t = true ∧ cutL t = false ∧ cutRest t = []) ∧ (cutIn t).length = 32) → hashB t = true → p := fun h h' => absurd (hash_iff.1 h') h
  refine ⟨ht, fun a => ⟨fun b => ⟨F (by simp [b]), fun _ => no⟩, fun b => ⟨fun c => ⟨F (by simp at c; simp [c]), fun _ => no⟩, fun c => ⟨fun d => ⟨F (by simp at d; omega), fun _ => no⟩, fun d => ?_⟩⟩⟩, fun a => ⟨F (by simp [a]), fun _ => no⟩⟩
  have c : cutRest t = [] := by simpa using c
  have d : ((cutIn t).length : Int) = 32 := by simpa using d
  have hB := hash_iff.2 ⟨⟨a, b, c⟩, by omega⟩
  exact ⟨fun _ _ => rfl, fun h => by rw [hB] at h; cases h⟩
def plainSpec : List SV → Option (Prop × Ans)
  | [.str false t] => some (t.length < 9223372036854775808, plainA t)
  | _ => none
def hashSpec : List SV → Option (Prop × Ans)
  | [.str false t] => some (t.length < 9223372036854775808, hashA t)
  | _ => none
theorem plain_ok : CallOk Tryz.prog 165 (ansPT plainSpec) := by
  refine ans_ok (n := 20) (fn := Tryz.f165) Tryz.func165 (by kernel_rfl) (by kernel_rfl) ?_
  intro args p a h hp
  unfold plainSpec at h
  split at h
  · injection h with h; injection h with h1 h2; subst h1; subst h2
    exact ⟨_, goodN2', rfl, fun b => by cases b <;> exact rfl, plain_holds hp⟩
  · cases h
theorem hash_ok : CallOk Tryz.prog 135 (ansPT hashSpec) := by
  refine ans_ok (n := 20) (fn := Tryz.f135) Tryz.func135 (by kernel_rfl) (by kernel_rfl) ?_
  intro args p a h hp
  unfold hashSpec at h
  split at h
  · injection h with h; injection h with h1 h2; subst h1; subst h2
    exact ⟨_, goodN2', rfl, fun b => by cases b <;> exact rfl, hash_holds hp⟩
  · cases h
def ndpathSpec : List SV → Option (Prop × SV)
  | [.agg l, .int .i64 false least] => (match ndOf l with
    | some x => some (True, .bool false (pathB x least))
    | none => none)
  | _ => none
theorem ndpath_ok : CallOk Tryz.prog 197 (purePT ndpathSpec) := by
  refine pure_ok goodN2' (n := 20) (fn := Tryz.f197) Tryz.func197 (by kernel_rfl) (by kernel_rfl) ?_
  intro args p r h hp
  unfold ndpathSpec at h
  split at h
  · split at h
    · rename_i l least _ x hx
      injection h with h; injection h with h1 h2; subst h1; subst h2
      rw [ndOf_eq hx]
      refine ⟨rfl, rfl, Holds.of_eq (vcNdPath x least _) ⟨fun a => ⟨fun b => ⟨?_, bool_eq ?_⟩, fun b => bool_eq ?_⟩, fun a => bool_eq ?_⟩⟩
      · have := of_decide_eq_true b; omega
      · rw [pathB, a, b]; rfl
      · rw [pathB, a, b]; rfl
      · rw [pathB, a]; rfl
    · cases h
  · cases h
theorem sel16 (r : Nat → List UInt8) {i : Nat} (h : i < 16) : selS [r 0, r 1, r 2, r 3, r 4, r 5, r 6, r 7, r 8, r 9, r 10, r 11, r 12, r 13, r 14, r 15] i = r i := by
  have : i = 0 ∨ i = 1 ∨ i = 2 ∨ i = 3 ∨ i = 4 ∨ i = 5 ∨ i = 6 ∨ i = 7 ∨ i = 8 ∨ i = 9 ∨ i = 10 ∨ i = 11 ∨ i = 12 ∨ i = 13 ∨ i = 14 ∨ i = 15 := by omega
  rcases this with rfl | rfl | rfl | rfl | rfl | rfl | rfl | rfl | rfl | rfl | rfl | rfl | rfl | rfl | rfl | rfl <;> rfl
theorem cell1 {l l' : Bool} {a b : Int} {tot : Nat} {ty : TypeId} (h : a = b) : SBle (.cells [.int .i64 l a] tot ty) (.cells [.int .i64 l' b] tot ty) := by
  subst h
  exact SBle.cells (fun _ => rfl) rfl
theorem behind_holds (x : Nd) : Holds (runP (cfgNB x) 198 Tryz.f198 [x.sv] (fun v => sameVal v (.int .i64 false (behindI x.r 16)))) := by
  refine Holds.of_eq (vcBehind x _) ?_
  intro R
  refine ⟨⟨0, by omega, rfl, cell1 rfl, SBle.refl _, SBle.refl _, SBle.refl _, trivial⟩, fun i hi => ⟨fun a => ?_, fun a => ?_⟩⟩
  · have a := of_decide_eq_true a
    have ei : i < 16 := by omega
    rw [Int.toNat_natCast, sel16 x.r ei]
    refine ⟨by omega, fun b => ⟨rfl, by omega, by omega, i + 1, by omega, by omega, cell1 ?_, SBle.refl _, SBle.refl _, SBle.refl _, trivial⟩, fun b => ⟨by omega, i + 1, by omega, by omega, cell1 ?_, SBle.refl _, SBle.refl _, SBle.refl _, trivial⟩⟩
    · have b : ¬ x.r i = [] := by simpa using b
      rw [behindI, if_neg b]
    · have b : x.r i = [] := by simpa using b
      rw [behindI, if_pos b]
  · have a := of_decide_eq_false a
    have e : i = 16 := by omega
    rw [e]; exact fun _ => rfl
def behindSpec : List SV → Option (Prop × SV)
  | [.agg l] => (match ndOf l with
    | some x => some (True, .int .i64 false (behindI x.r 16))
    | none => none)
  | _ => none
theorem behind_ok : CallOk Tryz.prog 198 (purePT behindSpec) := by
  refine pure_of_ans (ans_ok (n := 20) (fn := Tryz.f198) Tryz.func198 (by kernel_rfl) (by kernel_rfl) ?_)
  intro args p a h hp
  unfold behindSpec at h
  split at h
  · split at h
    · rename_i l x hx
      injection h with h; injection h with h1 h2; subst h1; subst h2
      rw [ndOf_eq hx]
      exact ⟨_, goodNB x, rfl, rfl, behind_holds x⟩
    · cases h
  · cases h
def noneB (x : Nd) : Bool := decide (x.k = 0) && (decide (x.p = []) && (decide (x.v = []) && (List.range 16).all fun i => decide (x.r i = [])))
def ndnoneSpec : List SV → Option (Prop × SV)
  | [.agg l] => (match ndOf l with
    | some x => some (True, .bool false (noneB x))
    | none => none)
  | _ => none
theorem ndnone_ok : CallOk Tryz.prog 182 (purePT ndnoneSpec) := by
  refine pure_ok goodN2' (n := 20) (fn := Tryz.f182) Tryz.func182 (by kernel_rfl) (by kernel_rfl) ?_
  intro args p r h hp
  unfold ndnoneSpec at h
  split at h
  · split at h
    · rename_i l x hx
      injection h with h; injection h with h1 h2; subst h1; subst h2
      rw [ndOf_eq hx]
      refine ⟨rfl, rfl, Holds.of_eq (vcNdNone x _) (bool_eq ?_)⟩
      rw [noneB, show List.range 16 = [0, 1, 2, 3, 4, 5, 6, 7, 8, 9, 10, 11, 12, 13, 14, 15] from by decide]
      simp only [List.all_cons, List.all_nil, Bool.and_true]
    · cases h
  · cases h
noncomputable def listN3 : List (FuncId × PT) := (165, ansPT plainSpec) :: (135, ansPT hashSpec) :: (197, purePT ndpathSpec) :: (198, purePT behindSpec) :: (182, purePT ndnoneSpec) :: listN2
theorem listN3_ok : SummOk Tryz.prog (fun f => lookPT f listN3) := .cons plain_ok (ansPT_mono _) (.cons hash_ok (ansPT_mono _) (.cons ndpath_ok (purePT_mono _) (.cons behind_ok (purePT_mono _) (.cons ndnone_ok (purePT_mono _) listN2_ok))))
noncomputable def cfgN3 : Cfg := { cfg0 with summ := fun f => lookPT f listN3 }
theorem goodN3 : Sx.Good Tryz.prog cfgN3 := ⟨mixes, listN3_ok, fns_ok⟩
end Go.Proofs.YtoalfimkkibpdaaGreatDoor
/-
  Node: texts of nodes: the set-up.
-/
namespace Go.Proofs.YtoalfimkkibpdaaGreatDoor
open Go Sx
set_option maxRecDepth 20000
def leafB (x : Nd) : Bool := pathB x 0 && (!decide (x.v = []) && (decide ((x.v.length : Int) ≤ 80) && decide (behindI x.r 16 = 0)))
def pathT (x : Nd) (leaf : Bool) : List UInt8 := bif nibB x.p then nputL x.p leaf else []
def leafT (x : Nd) : List UInt8 := listOf [textOf (pathT x true), textOf x.v]
def extT (x : Nd) : List UInt8 := listOf [textOf (pathT x false), x.r 0]
def brI (r : Nat → List UInt8) (i j : Nat) : List UInt8 := if j < i then (if r j = [] then [128] else r j) else [128]
def strs17 (f : Nat → List UInt8) : List SV := [.str false (f 0), .str false (f 1), .str false (f 2), .str false (f 3), .str false (f 4), .str false (f 5), .str false (f 6), .str false (f 7), .str false (f 8), .str false (f 9), .str false (f 10), .str false (f 11), .str false (f 12), .str false (f 13), .str false (f 14), .str false (f 15), .str false (f 16)]
def branchT (x : Nd) : List UInt8 := listOf [brI x.r 16 0, brI x.r 16 1, brI x.r 16 2, brI x.r 16 3, brI x.r 16 4, brI x.r 16 5, brI x.r 16 6, brI x.r 16 7, brI x.r 16 8, brI x.r 16 9, brI x.r 16 10, brI x.r 16 11, brI x.r 16 12, brI x.r 16 13, brI x.r 16 14, brI x.r 16 15, textOf x.v]
def putT (x : Nd) : List UInt8 := if x.k = 0 then [128] else if x.k = 1 then leafT x else if x.k = 2 then extT x else branchT x
structure Nd.Few (x : Nd) : Prop where
  p : x.p.length ≤ 1000
  v : x.v.length ≤ 1000
  r : ∀ j, j < 16 → (x.r j).length ≤ 1000
noncomputable def annBT (x : Nd) : LoopAnn :=
  { α := Nat, pre := fun _ i => i ≤ 16, mea := fun _ i => 16 - i, fresh := 0, slots := fun _ i => [(7, .int .i64 false i)], mem := fun _ i => [(1, .cells (strs17 (brI x.r i)) 17 9)] }
noncomputable def cfgBT (x : Nd) : Cfg := { cfg0 with summ := fun f => lookPT f listN3, anns := fun f => if f = 192 then [(1, always (annBT x))] else [] }
theorem goodBT (x : Nd) : Sx.Good Tryz.prog (cfgBT x) := ⟨mixes, listN3_ok, fns_ok⟩
end Go.Proofs.YtoalfimkkibpdaaGreatDoor
/-
  Node: the node that bytes are: the set-up.
-/
namespace Go.Proofs.YtoalfimkkibpdaaGreatDoor
open Go Sx
set_option maxRecDepth 20000
def refs16 (r0 r1 r2 r3 r4 r5 r6 r7 r8 r9 r10 r11 r12 r13 r14 r15 : List UInt8) : Nat → List UInt8 := fun i => [r0, r1, r2, r3, r4, r5, r6, r7, r8, r9, r10, r11, r12, r13, r14, r15].getD i []
def mk16 (r : Nat → List UInt8) : Nat → List UInt8 := refs16 (r 0) (r 1) (r 2) (r 3) (r 4) (r 5) (r 6) (r 7) (r 8) (r 9) (r 10) (r 11) (r 12) (r 13) (r 14) (r 15)
def noRefs : Nat → List UInt8 := refs16 [] [] [] [] [] [] [] [] [] [] [] [] [] [] [] []
def oneRef (t : List UInt8) : Nat → List UInt8 := refs16 t [] [] [] [] [] [] [] [] [] [] [] [] [] [] []
def rdRef (s : List UInt8) (j : Nat) : List UInt8 := if itemAt s j = [128] then [] else itemAt s j
def rdI (s : List UInt8) (i j : Nat) : List UInt8 := if j < i then rdRef s j else []
def zeroNd : Nd := ⟨0, [], [], noRefs⟩
def rdLeaf (s : List UInt8) : Nd := ⟨1, ngetP (cutIn (itemAt (cutIn s) 0)), cutIn (itemAt (cutIn s) 1), noRefs⟩
def rdExt (s : List UInt8) : Nd := ⟨2, ngetP (cutIn (itemAt (cutIn s) 0)), [], oneRef (itemAt (cutIn s) 1)⟩
def rdBranch (s : List UInt8) : Nd := ⟨3, [], cutIn (itemAt (cutIn s) 16), mk16 (rdRef (cutIn s))⟩
def pairK (s : List UInt8) : Int := bif plainB (itemAt s 0) && ngetB (cutIn (itemAt s 0)) then (bif ngetLeaf (cutIn (itemAt s 0)) then (bif plainB (itemAt s 1) then 1 else -1) else 2) else -1
def listK (s : List UInt8) : Int := bif itemsB s then (if itemsN s = 2 then pairK s else if itemsN s = 17 then (bif plainB (itemAt s 16) then 3 else -1) else -1) else -1
def shapeK (s : List UInt8) : Int := if s = [128] then 0 else bif cutB s && (cutL s && decide (cutRest s = [])) then listK (cutIn s) else -1
def getD (s : List UInt8) : Nd := if shapeK s = 1 then rdLeaf s else if shapeK s = 2 then rdExt s else if shapeK s = 3 then rdBranch s else zeroNd
def readA (s : List UInt8) : Ans := .fork (decide (shapeK s = 0)) fun b => match b with
  | true => .ret (.tup [zeroN, .bool true true])
  | false => .fork (decide (shapeK s = 1)) fun b => match b with
    | true => .ret (.tup [(rdLeaf s).svL true 1, .bool true true])
    | false => .fork (decide (shapeK s = 2)) fun b => match b with
      | true => .ret (.tup [(rdExt s).svL true 2, .bool true true])
      | false => .fork (decide (shapeK s = 3)) fun b => match b with
        | true => .ret (.tup [(rdBranch s).svL true 3, .bool true true])
        | false => .all Nd fun x => .ret (.tup [x.sv, .bool true false])
def mayW (inl : List UInt8 → Bool) (t : List UInt8) : Bool := hashB t || inl t
def extW (inl : List UInt8 → Bool) (x : Nd) : Bool := pathB x 1 && (decide (x.v = []) && (decide (behindI x.r 16 = 1) && (hashB (x.r 0) || (inl (x.r 0) && decide ((getD (x.r 0)).k = 3)))))
def fullN (r : Nat → List UInt8) : Nat → Int
  | 0 => 0
  | i + 1 => if r i = [] then fullN r i else fullN r i + 1
def mays (inl : List UInt8 → Bool) (r : Nat → List UInt8) : Nat → Bool
  | 0 => true
  | i + 1 => mays inl r i && (decide (r i = []) || mayW inl (r i))
def branchW (inl : List UInt8 → Bool) (x : Nd) : Bool := decide (x.p = []) && (decide ((x.v.length : Int) ≤ 80) && (mays inl x.r 16 && decide (2 ≤ min (x.v.length : Int) 1 + fullN x.r 16)))
def validW (inl : List UInt8 → Bool) (x : Nd) : Bool := if x.k = 0 then noneB x else if x.k = 1 then leafB x else if x.k = 2 then extW inl x else if x.k = 3 then branchW inl x else false
def getW (inl : List UInt8 → Bool) (s : List UInt8) : Bool := decide (0 ≤ shapeK s) && (validW inl (getD s) && decide (putT (getD s) = s))
def inlF : Nat → List UInt8 → Bool
  | 0, _ => false
  | n + 1, t => decide (t.length < 32) && (getW (inlF n) t && !decide ((getD t).k = 0))
def inlB (t : List UInt8) : Bool := inlF 32 t
def validB (x : Nd) : Bool := validW inlB x
def getB' (s : List UInt8) : Bool := getW inlB s
end Go.Proofs.YtoalfimkkibpdaaGreatDoor
/-
  Conditions that the executor computes, written out by a program (vcgen.py).
-/
namespace Go.Proofs.YtoalfimkkibpdaaGreatDoor
open Go Sx
set_option maxRecDepth 20000
theorem vcLeaf (x : Nd) (R : SV → Prop) : VC.holds (runP cfgN3 183 Tryz.f183 [x.sv] R) = ((True ∧ (pathB { k := x.k, p := x.p, v := x.v, r := fun (u2 : Nat) => [x.r 0, x.r 1, x.r 2, x.r 3, x.r 4, x.r 5, x.r 6, x.r 7, x.r 8, x.r 9, x.r 10, x.r 11, x.r 12, x.r 13, x.r 14, x.r 15].getD u2 [] : Nd } 0 = true → ((!decide (x.v = [])) = true → (decide ((x.v.length : Int) ≤ 80) = true → True ∧ R (SV.bool (false && true) (decide (behindI (fun (u1 : Nat) => [x.r 0, x.r 1, x.r 2, x.r 3, x.r 4, x.r 5, x.r 6, x.r 7, x.r 8, x.r 9, x.r 10, x.r 11, x.r 12, x.r 13, x.r 14, x.r 15].getD u1 []) 16 = (0 : Int))))) ∧ (decide ((x.v.length : Int) ≤ 80) = false → R (SV.bool true false))) ∧ ((!decide (x.v = [])) = false → R (SV.bool true false))) ∧ (pathB { k := x.k, p := x.p, v := x.v, r := fun (u0 : Nat) => [x.r 0, x.r 1, x.r 2, x.r 3, x.r 4, x.r 5, x.r 6, x.r 7, x.r 8, x.r 9, x.r 10, x.r 11, x.r 12, x.r 13, x.r 14, x.r 15].getD u0 [] : Nd } 0 = false → R (SV.bool true false)))) := by kernel_rfl
theorem vcLeafText (x : Nd) (R : SV → Prop) : VC.holds (runP cfgN3 187 Tryz.f187 [x.sv] R) = ((x.p.length < 1073741824 ∧ (nibB x.p = true → (nputL x.p true).length < 1152921504606846976 ∧ some (SB.cells x.sv.cells 19 259) = some (SB.cells x.sv.cells 19 259) ∧ x.v.length < 1152921504606846976 ∧ (((2 : Nat) = (2 : Nat) ∧ (2 : Nat) ≤ (2 : Nat)) ∧ (2 : Nat) ≤ (140737488355328 : Nat) ∧ (flat [textOf (nputL x.p true), textOf x.v]).length ≤ 140737488355328) ∧ (((0 : Int) ≤ (192 : Int) ∧ (192 : Int) ≤ (192 : Int)) ∧ 0 ≤ (↑(flat [textOf (nputL x.p true), textOf x.v]).length : Int) ∧ (↑(flat [textOf (nputL x.p true), textOf x.v]).length : Int) < 1152921504606846976) ∧ (↑(headOf 192 (↑(flat [textOf (nputL x.p true), textOf x.v]).length : Int).toNat).length : Int) + (↑(flat [textOf (nputL x.p true), textOf x.v]).length : Int) ≤ 9223372036854775807 ∧ R (SV.str false (cat (headOf 192 (↑(flat [textOf (nputL x.p true), textOf x.v]).length : Int).toNat) (flat [textOf (nputL x.p true), textOf x.v])))) ∧ (nibB x.p = false → (0 : Nat) < (1152921504606846976 : Nat) ∧ some (SB.cells x.sv.cells 19 259) = some (SB.cells x.sv.cells 19 259) ∧ x.v.length < 1152921504606846976 ∧ (((2 : Nat) = (2 : Nat) ∧ (2 : Nat) ≤ (2 : Nat)) ∧ (2 : Nat) ≤ (140737488355328 : Nat) ∧
 (flat [textOf [], textOf x.v]).length ≤ 140737488355328) ∧ (((0 : Int) ≤ (192 : Int) ∧ (192 : Int) ≤ (192 : Int)) ∧ 0 ≤ (↑(flat [textOf [], textOf x.v]).length : Int) ∧ (↑(flat [textOf [], textOf x.v]).length : Int) < 1152921504606846976) ∧ (↑(headOf 192 (↑(flat [textOf [], textOf x.v]).length : Int).toNat).length : Int) + (↑(flat [textOf [], textOf x.v]).length : Int) ≤ 9223372036854775807 ∧ R (SV.str false (cat (headOf 192 (↑(flat [textOf [], textOf x.v]).length : Int).toNat) (flat [textOf [], textOf x.v])))))) := by kernel_rfl
theorem vcExtText (x : Nd) (R : SV → Prop) : VC.holds (runP cfgN3 188 Tryz.f188 [x.sv] R) = ((x.p.length < 1073741824 ∧ (nibB x.p = true → (nputL x.p false).length < 1152921504606846976 ∧ some (SB.cells x.sv.cells 19 259) = some (SB.cells x.sv.cells 19 259) ∧ (((2 : Nat) = (2 : Nat) ∧ (2 : Nat) ≤ (2 : Nat)) ∧ (2 : Nat) ≤ (140737488355328 : Nat) ∧ (flat [textOf (nputL x.p false), x.r 0]).length ≤ 140737488355328) ∧ (((0 : Int) ≤ (192 : Int) ∧ (192 : Int) ≤ (192 : Int)) ∧ 0 ≤ (↑(flat [textOf (nputL x.p false), x.r 0]).length : Int) ∧ (↑(flat [textOf (nputL x.p false), x.r 0]).length : Int) < 1152921504606846976) ∧ (↑(headOf 192 (↑(flat [textOf (nputL x.p false), x.r 0]).length : Int).toNat).length : Int) + (↑(flat [textOf (nputL x.p false), x.r 0]).length : Int) ≤ 9223372036854775807 ∧ R (SV.str false (cat (headOf 192 (↑(flat [textOf (nputL x.p false), x.r 0]).length : Int).toNat) (flat [textOf (nputL x.p false), x.r 0])))) ∧ (nibB x.p = false → (0 : Nat) < (1152921504606846976 : Nat) ∧ some (SB.cells x.sv.cells 19 259) = some (SB.cells x.sv.cells 19 259) ∧ (((2 : Nat) = (2 : Nat) ∧ (2 : Nat) ≤ (2 : Nat)) ∧ (2 : Nat) ≤ (140737488355328 : Nat) ∧ (flat [textOf [], x.r 0]).length ≤ 140737488355328) ∧ (((0 : Int) ≤ (192 : Int) ∧ (192 : Int) ≤ (192 : Int)) ∧
 0 ≤ (↑(flat [textOf [], x.r 0]).length : Int) ∧ (↑(flat [textOf [], x.r 0]).length : Int) < 1152921504606846976) ∧ (↑(headOf 192 (↑(flat [textOf [], x.r 0]).length : Int).toNat).length : Int) + (↑(flat [textOf [], x.r 0]).length : Int) ≤ 9223372036854775807 ∧ R (SV.str false (cat (headOf 192 (↑(flat [textOf [], x.r 0]).length : Int).toNat) (flat [textOf [], x.r 0])))))) := by kernel_rfl
theorem vcNoneText (x : Nd) (R : SV → Prop) : VC.holds (runP cfgN3 186 Tryz.f186 [x.sv] R) = (((0 : Nat) < (1152921504606846976 : Nat) ∧ R (SV.str true (textOf [])))) := by kernel_rfl
theorem vcBranchText (x : Nd) (R : SV → Prop) : VC.holds (runP (cfgBT x) 189 Tryz.f189 [x.sv] R) = ((fun R0 : Nat → (Nat) → SV => ((fun R1 : Nat → SV => ((fun R2 : Nat → (Nat) → SV => ((fun R3 : Nat → (Nat) → SV => ((fun R4 : Nat → (Nat) → SV => ((fun R5 : Nat → (Nat) → SV => ((fun P0 : SB => ((fun P1 : SB => (((0 : Nat) < (1152921504606846976 : Nat) ∧ some P0 = some P0 ∧ (0 : Nat) < (1152921504606846976 : Nat) ∧ some P0 = some P0 ∧ (0 : Nat) < (1152921504606846976 : Nat) ∧ some P0 = some P0 ∧ (0 : Nat) < (1152921504606846976 : Nat) ∧ some P0 = some P0 ∧ (0 : Nat) < (1152921504606846976 : Nat) ∧ some P0 = some P0 ∧ (0 : Nat) < (1152921504606846976 : Nat) ∧ some P0 = some P0 ∧ (0 : Nat) < (1152921504606846976 : Nat) ∧ some P0 = some P0 ∧ (0 : Nat) < (1152921504606846976 : Nat) ∧ some P0 = some P0 ∧ (0 : Nat) < (1152921504606846976 : Nat) ∧ some P0 = some P0 ∧ (0 : Nat) < (1152921504606846976 : Nat) ∧ some P0 = some P0 ∧ (0 : Nat) < (1152921504606846976 : Nat) ∧ some P0 = some P0 ∧ (0 : Nat) < (1152921504606846976 : Nat) ∧ some P0 = some P0 ∧ (0 : Nat) < (1152921504606846976 : Nat) ∧ some P0 = some P0 ∧ (0 : Nat) < (1152921504606846976 : Nat) ∧ some P0 = some P0 ∧ (0 : Nat) < (1152921504606846976 : Nat) ∧ some P0 = some P0 ∧ (0 : Nat) < (1152921504606846976 : Nat) ∧ some P0 = some P0 ∧ (0 : Nat) < (1152921504606846976 : Nat) ∧ some P0 = some P0 ∧ ∀ (u4 : Loop), (∃ (u3 : Nat), u3 ≤ 16 ∧ 0 = (u3 : Int) ∧
 SBle (SB.cells [SV.str true (textOf []), SV.str true (textOf []), SV.str true (textOf []), SV.str true (textOf []), SV.str true (textOf []), SV.str true (textOf []), SV.str true (textOf []), SV.str true (textOf []), SV.str true (textOf []), SV.str true (textOf []), SV.str true (textOf []), SV.str true (textOf []), SV.str true (textOf []), SV.str true (textOf []), SV.str true (textOf []), SV.str true (textOf []), SV.str true (textOf [])] 17 9) (SB.cells [R0 0 u3, R0 1 u3, R0 2 u3, R0 3 u3, R0 4 u3, R0 5 u3, R0 6 u3, R0 7 u3, R0 8 u3, R0 9 u3, R0 10 u3, R0 11 u3, R0 12 u3, R0 13 u3, R0 14 u3, R0 15 u3, R0 16 u3] 17 9) ∧ SBle (SB.loop LoopState.ready none u4) (SB.loop LoopState.ready none u4) ∧ SBle P1 P1 ∧ SBle P0 P0 ∧ SBle (SB.cells x.sv.cells 19 259) (SB.cells x.sv.cells 19 259) ∧ True) ∧ ∀ (u2 : Nat), u2 ≤ 16 → (decide ((u2 : Int) < 16) = true → (0 ≤ (u2 : Int) ∧ (u2 : Int) < 16 ∧ (u2 : Int) < (↑(16 : Nat) : Int)) ∧ ((!decide (selS [x.r 0, x.r 1, x.r 2, x.r 3, x.r 4, x.r 5, x.r 6, x.r 7, x.r 8, x.r 9, x.r 10, x.r 11, x.r 12, x.r 13, x.r 14, x.r 15] (u2 : Int).toNat = [])) = true → u4 = u4 ∧ (0 ≤ (u2 : Int) ∧ (u2 : Int) < 17) ∧ (u2 : Int).toNat < 17 ∧
 ((-9223372036854775808 : Int) ≤ (u2 : Int) + 1 ∧ (u2 : Int) + 1 ≤ (9223372036854775807 : Int)) ∧ ∃ (u1 : Nat), (u1 ≤ 16 ∧ 16 - u1 < 16 - u2) ∧ (u2 : Int) + 1 = (u1 : Int) ∧ SBle (SB.cells [R2 0 u2, R2 1 u2, R2 2 u2, R2 3 u2, R2 4 u2, R2 5 u2, R2 6 u2, R2 7 u2, R2 8 u2, R2 9 u2, R2 10 u2, R2 11 u2, R2 12 u2, R2 13 u2, R2 14 u2, R2 15 u2, R2 16 u2] 17 9) (SB.cells [R3 0 u1, R3 1 u1, R3 2 u1, R3 3 u1, R3 4 u1, R3 5 u1, R3 6 u1, R3 7 u1, R3 8 u1, R3 9 u1, R3 10 u1, R3 11 u1, R3 12 u1, R3 13 u1, R3 14 u1, R3 15 u1, R3 16 u1] 17 9) ∧ SBle (SB.loop LoopState.ready none u4) (SB.loop LoopState.ready none u4) ∧ SBle P1 P1 ∧ SBle P0 P0 ∧ SBle (SB.cells x.sv.cells 19 259) (SB.cells x.sv.cells 19 259) ∧ True) ∧ ((!decide (selS [x.r 0, x.r 1, x.r 2, x.r 3, x.r 4, x.r 5, x.r 6, x.r 7, x.r 8, x.r 9, x.r 10, x.r 11, x.r 12, x.r 13, x.r 14, x.r 15] (u2 : Int).toNat = [])) = false → ((-9223372036854775808 : Int) ≤ (u2 : Int) + 1 ∧ (u2 : Int) + 1 ≤ (9223372036854775807 : Int)) ∧ ∃ (u0 : Nat), (u0 ≤ 16 ∧ 16 - u0 < 16 - u2) ∧ (u2 : Int) + 1 = (u0 : Int) ∧
 SBle (SB.cells [R4 0 u2, R4 1 u2, R4 2 u2, R4 3 u2, R4 4 u2, R4 5 u2, R4 6 u2, R4 7 u2, R4 8 u2, R4 9 u2, R4 10 u2, R4 11 u2, R4 12 u2, R4 13 u2, R4 14 u2, R4 15 u2, R4 16 u2] 17 9) (SB.cells [R5 0 u0, R5 1 u0, R5 2 u0, R5 3 u0, R5 4 u0, R5 5 u0, R5 6 u0, R5 7 u0, R5 8 u0, R5 9 u0, R5 10 u0, R5 11 u0, R5 12 u0, R5 13 u0, R5 14 u0, R5 15 u0, R5 16 u0] 17 9) ∧ SBle (SB.loop LoopState.ready none u4) (SB.loop LoopState.ready none u4) ∧ SBle P1 P1 ∧ SBle P0 P0 ∧ SBle (SB.cells x.sv.cells 19 259) (SB.cells x.sv.cells 19 259) ∧ True)) ∧ (decide ((u2 : Int) < 16) = false → x.v.length < 1152921504606846976 ∧ some P0 = some P0 ∧ (((17 : Nat) = (17 : Nat) ∧ (17 : Nat) ≤ (17 : Nat)) ∧ (17 : Nat) ≤ (140737488355328 : Nat) ∧ (flat [brI x.r u2 0, brI x.r u2 1, brI x.r u2 2, brI x.r u2 3, brI x.r u2 4, brI x.r u2 5, brI x.r u2 6, brI x.r u2 7, brI x.r u2 8, brI x.r u2 9, brI x.r u2 10, brI x.r u2 11, brI x.r u2 12, brI x.r u2 13, brI x.r u2 14, brI x.r u2 15, textOf x.v]).length ≤ 140737488355328) ∧ (((0 : Int) ≤ (192 : Int) ∧ (192 : Int) ≤ (192 : Int)) ∧
 0 ≤ (↑(flat [brI x.r u2 0, brI x.r u2 1, brI x.r u2 2, brI x.r u2 3, brI x.r u2 4, brI x.r u2 5, brI x.r u2 6, brI x.r u2 7, brI x.r u2 8, brI x.r u2 9, brI x.r u2 10, brI x.r u2 11, brI x.r u2 12, brI x.r u2 13, brI x.r u2 14, brI x.r u2 15, textOf x.v]).length : Int) ∧ (↑(flat [brI x.r u2 0, brI x.r u2 1, brI x.r u2 2, brI x.r u2 3, brI x.r u2 4, brI x.r u2 5, brI x.r u2 6, brI x.r u2 7, brI x.r u2 8, brI x.r u2 9, brI x.r u2 10, brI x.r u2 11, brI x.r u2 12, brI x.r u2 13, brI x.r u2 14, brI x.r u2 15, textOf x.v]).length : Int) < 1152921504606846976) ∧ (↑(headOf 192 (↑(flat [brI x.r u2 0, brI x.r u2 1, brI x.r u2 2, brI x.r u2 3, brI x.r u2 4, brI x.r u2 5, brI x.r u2 6, brI x.r u2 7, brI x.r u2 8, brI x.r u2 9, brI x.r u2 10, brI x.r u2 11, brI x.r u2 12, brI x.r u2 13, brI x.r u2 14, brI x.r u2 15, textOf x.v]).length : Int).toNat).length : Int) + (↑(flat [brI x.r u2 0, brI x.r u2 1, brI x.r u2 2, brI x.r u2 3, brI x.r u2 4, brI x.r u2 5, brI x.r u2 6, brI x.r u2 7, brI x.r u2 8, brI x.r u2 9, brI x.r u2 10, brI x.r u2 11, brI x.r u2 12, brI x.r u2 13, brI x.r u2 14, brI x.r u2 15, textOf x.v]).length : Int) ≤ 9223372036854775807 ∧
 R (SV.str false (cat (headOf 192 (↑(flat [brI x.r u2 0, brI x.r u2 1, brI x.r u2 2, brI x.r u2 3, brI x.r u2 4, brI x.r u2 5, brI x.r u2 6, brI x.r u2 7, brI x.r u2 8, brI x.r u2 9, brI x.r u2 10, brI x.r u2 11, brI x.r u2 12, brI x.r u2 13, brI x.r u2 14, brI x.r u2 15, textOf x.v]).length : Int).toNat) (flat [brI x.r u2 0, brI x.r u2 1, brI x.r u2 2, brI x.r u2 3, brI x.r u2 4, brI x.r u2 5, brI x.r u2 6, brI x.r u2 7, brI x.r u2 8, brI x.r u2 9, brI x.r u2 10, brI x.r u2 11, brI x.r u2 12, brI x.r u2 13, brI x.r u2 14, brI x.r u2 15, textOf x.v]))))))) (SB.cells (SV.agg [SV.int .i64 false x.k, SV.str false x.p, SV.str false x.v, R1 0, R1 1, R1 2, R1 3, R1 4, R1 5, R1 6, R1 7, R1 8, R1 9, R1 10, R1 11, R1 12, R1 13, R1 14, R1 15]).cells 19 259))) (SB.cells (setRange SV.nilslc.cells 0 (SV.slc ((0 : Nat) + (1 : Nat)) 0 17 true 17).cells) 1 22))) (fun (n0 : Nat) (u0 : Nat) => SV.str false (brI x.r u0 n0)))) (fun (n0 : Nat) (u2 : Nat) => SV.str false (brI x.r u2 n0)))) (fun (n0 : Nat) (u1 : Nat) => SV.str false (brI x.r u1 n0)))) (fun (n0 : Nat) (u2 : Nat) => SV.str false (if (u2 : Int).toNat = n0 then selS [x.r 0, x.r 1, x.r 2, x.r 3, x.r 4, x.r 5, x.r 6, x.r 7, x.r 8, x.r 9, x.r 10, x.r 11, x.r 12, x.r 13, x.r 14, x.r 15] (u2 : Int).toNat else brI x.r u2 n0)))) (fun (n0 : Nat)  => SV.str false (x.r n0)))) (fun (n0 : Nat) (u3 : Nat) => SV.str false (brI x.r u3 n0))) := by kernel_rfl
end Go.Proofs.YtoalfimkkibpdaaGreatDoor
/-
  Node: texts of nodes: the contracts.
-/
namespace Go.Proofs.YtoalfimkkibpdaaGreatDoor
open Go Sx
set_option maxRecDepth 20000
theorem head_le9 (b : Int) (n : Nat) : (headOf b n).length ≤ 9 := by
  unfold headOf
  split
  · simp
  · have := dig_len 8 n
    show (UInt8.ofNat _ :: digits n).length ≤ 9
    rw [List.length_cons]
    have : (digits n).length ≤ 8 := dig_len 8 n
    omega
theorem text_le (b : List UInt8) : (textOf b).length ≤ b.length + 9 := by
  unfold textOf
  split
  · omega
  · have := head_le9 128 b.length
    rw [List.length_append]; omega
theorem behindI_congr {r r' : Nat → List UInt8} : ∀ {n : Nat}, (∀ j, j < n → r j = r' j) → behindI r n = behindI r' n
  | 0, _ => rfl
  | n + 1, h => by
    unfold behindI
    rw [h n (by omega), behindI_congr (fun j hj => h j (by omega))]
theorem getD16 (r : Nat → List UInt8) (j : Nat) (h : j < 16) : [r 0, r 1, r 2, r 3, r 4, r 5, r 6, r 7, r 8, r 9, r 10, r 11, r 12, r 13, r 14, r 15].getD j [] = r j := sel16 r h
theorem leaf_holds (x : Nd) : Holds (runP cfgN3 183 Tryz.f183 [x.sv] (fun v => sameVal v (.bool false (leafB x)))) := by
  refine Holds.of_eq (vcLeaf x _) ?_
  have e : pathB { k := x.k, p := x.p, v := x.v, r := fun (i : Nat) => [x.r 0, x.r 1, x.r 2, x.r 3, x.r 4, x.r 5, x.r 6, x.r 7, x.r 8, x.r 9, x.r 10, x.r 11, x.r 12, x.r 13, x.r 14, x.r 15].getD i [] : Nd } 0 = pathB x 0 := rfl
  rw [e, behindI_congr (getD16 x.r)]
  unfold leafB
  refine ⟨trivial, fun a => ⟨fun b => ⟨fun c => ⟨trivial, bool_eq ?_⟩, fun c => bool_eq ?_⟩, fun b => bool_eq ?_⟩, fun a => bool_eq ?_⟩
  · rw [a, b, c]; rfl
  · rw [a, b, c]; rfl
  · rw [a, b]; rfl
  · rw [a]; rfl
def ndSpec (g : Nd → Option (Prop × SV)) : List SV → Option (Prop × SV)
  | [.agg l] => (match ndOf l with
    | some x => g x
    | none => none)
  | _ => none
theorem ndSpec_eq {g : Nd → Option (Prop × SV)} {args : List SV} {p : Prop} {v : SV} (h : ndSpec g args = some (p, v)) : ∃ x, args = [x.sv] ∧ g x = some (p, v) := by
  unfold ndSpec at h
  split at h
  · split at h
    · rename_i x hx
      exact ⟨x, by rw [ndOf_eq hx], h⟩
    · cases h
  · cases h
theorem nd_wf (x : Nd) : SV.wfs 0 [x.sv] = true := rfl
theorem leaf_ok : CallOk Tryz.prog 183 (purePT (ndSpec fun x => some (True, .bool false (leafB x)))) := by
  refine pure_ok goodN3 (n := 20) (fn := Tryz.f183) Tryz.func183 (by kernel_rfl) (by kernel_rfl) ?_
  intro args p r h hp
  obtain ⟨x, hx, hg⟩ := ndSpec_eq h
  subst hx
  injection hg with hg; injection hg with h1 h2; subst h1; subst h2
  exact ⟨nd_wf x, rfl, leaf_holds x⟩
theorem flat2_le {a b : List UInt8} : (flat [a, b]).length = a.length + b.length := by simp [flat]
theorem pathT_le {x : Nd} {leaf : Bool} : (pathT x leaf).length ≤ x.p.length + 2 := by
  unfold pathT
  cases nibB x.p with
  | false => simp
  | true =>
    simp only [cond_true, nputL, pairsL_len, List.length_cons]
    cases decide ((x.p.length : Int) % 2 = 1) <;> simp only [cond_true, cond_false, List.length_cons] <;> omega
theorem leafText_holds {x : Nd} (hx : x.Few) : Holds (runP cfgN3 187 Tryz.f187 [x.sv] (fun v => sameVal v (.str false (leafT x)))) := by
  refine Holds.of_eq (vcLeafText x _) ?_
  have h1 := hx.p
  have h2 := hx.v
  have h3 := pathT_le (x := x) (leaf := true)
  have h4 := text_le (pathT x true)
  have h5 := text_le x.v
  have h6 := flat2_le (a := textOf (pathT x true)) (b := textOf x.v)
  have h7 := head_le9 192 (((flat [textOf (pathT x true), textOf x.v]).length : Nat) : Int).toNat
  refine ⟨by omega, fun a => ?_, fun a => ?_⟩
  · have e : nputL x.p true = pathT x true := by rw [pathT, a]; rfl
    rw [e]
    exact ⟨by omega, rfl, by omega, by omega, by omega, by omega, fun E => by rw [leafT, listOf, Int.toNat_natCast]; rfl⟩
  · have e : [] = pathT x true := by rw [pathT, a]; rfl
    rw [e]
    exact ⟨by omega, rfl, by omega, by omega, by omega, by omega, fun E => by rw [leafT, listOf, Int.toNat_natCast]; rfl⟩
theorem extText_holds {x : Nd} (hx : x.Few) : Holds (runP cfgN3 188 Tryz.f188 [x.sv] (fun v => sameVal v (.str false (extT x)))) := by
  refine Holds.of_eq (vcExtText x _) ?_
  have h1 := hx.p
  have h2 := hx.r 0 (by decide)
  have h3 := pathT_le (x := x) (leaf := false)
  have h4 := text_le (pathT x false)
  have h6 := flat2_le (a := textOf (pathT x false)) (b := x.r 0)
  have h7 := head_le9 192 (((flat [textOf (pathT x false), x.r 0]).length : Nat) : Int).toNat
  refine ⟨by omega, fun a => ?_, fun a => ?_⟩
  · have e : nputL x.p false = pathT x false := by rw [pathT, a]; rfl
    rw [e]
    exact ⟨by omega, rfl, by omega, by omega, by omega, fun E => by rw [extT, listOf, Int.toNat_natCast]; rfl⟩
  · have e : [] = pathT x false := by rw [pathT, a]; rfl
    rw [e]
    exact ⟨by omega, rfl, by omega, by omega, by omega, fun E => by rw [extT, listOf, Int.toNat_natCast]; rfl⟩
theorem strs17_le {f g : Nat → List UInt8} {tot : Nat} {ty : TypeId} (h : ∀ j, j < 17 → f j = g j) : SBle (.cells (strs17 f) tot ty) (.cells (strs17 g) tot ty) := by
  have e : strs17 f = strs17 g := by
    unfold strs17
    rw [h 0 (by decide), h 1 (by decide), h 2 (by decide), h 3 (by decide), h 4 (by decide), h 5 (by decide), h 6 (by decide), h 7 (by decide), h 8 (by decide), h 9 (by decide), h 10 (by decide), h 11 (by decide), h 12 (by decide), h 13 (by decide), h 14 (by decide), h 15 (by decide), h 16 (by decide)]
  rw [e]; exact SBle.refl _
theorem brI_step {r : Nat → List UInt8} {i : Nat} (_hi : i < 16) (h : r i ≠ []) (j : Nat) : (if i = j then r i else brI r i j) = brI r (i + 1) j := by
  unfold brI
  by_cases e : i = j
  · subst e
    rw [if_pos rfl, if_pos (by omega), if_neg h]
  · rw [if_neg e]
    by_cases e1 : j < i
    · rw [if_pos e1, if_pos (show j < i + 1 by omega)]
    · rw [if_neg e1, if_neg (show ¬ j < i + 1 by omega)]
theorem brI_skip {r : Nat → List UInt8} {i : Nat} (h : r i = []) (j : Nat) : brI r i j = brI r (i + 1) j := by
  unfold brI
  by_cases e : i = j
  · subst e
    rw [if_neg (by omega), if_pos (by omega), if_pos h]
  · by_cases e1 : j < i
    · rw [if_pos e1, if_pos (show j < i + 1 by omega)]
    · rw [if_neg e1, if_neg (show ¬ j < i + 1 by omega)]
theorem flat_le {l : List (List UInt8)} {m : Nat} (h : ∀ x ∈ l, x.length ≤ m) : (flat l).length ≤ l.length * m := by
  induction l with
  | nil => simp [flat]
  | cons a r ih =>
    have h1 := h a (List.mem_cons_self ..)
    have h2 := ih fun x hx => h x (List.mem_cons_of_mem _ hx)
    have e : (flat (a :: r)).length = a.length + (flat r).length := by simp [flat]
    rw [e, List.length_cons, Nat.succ_mul]; omega
theorem brI_le {x : Nd} (hx : x.Few) (i j : Nat) (h : j < 16) : (brI x.r i j).length ≤ 1000 := by
  have := hx.r j h
  unfold brI
  split
  · split
    · simp
    · exact this
  · simp
theorem branchText_holds {x : Nd} (hx : x.Few) : Holds (runP (cfgBT x) 189 Tryz.f189 [x.sv] (fun v => sameVal v (.str false (branchT x)))) := by
  refine Holds.of_eq (vcBranchText x _) ?_
  dsimp only
  refine ⟨by omega, rfl, by omega, rfl, by omega, rfl, by omega, rfl, by omega, rfl, by omega, rfl, by omega, rfl, by omega, rfl, by omega, rfl, by omega, rfl, by omega, rfl, by omega, rfl, by omega, rfl, by omega, rfl, by omega, rfl, by omega, rfl, by omega, rfl, fun R => ⟨⟨0, by omega, rfl, Sx.SBle.cells (fun E => rfl) rfl, SBle.refl _, SBle.refl _, SBle.refl _, SBle.refl _, trivial⟩, fun i hi => ⟨fun a => ?_, fun a => ?_⟩⟩⟩
  · have a := of_decide_eq_true a
    have ei : i < 16 := by omega
    have es := sel16 x.r ei
    rw [Int.toNat_natCast, es]
    refine ⟨by omega, fun b => ⟨rfl, by omega, by omega, by omega, i + 1, by omega, by omega, ?_, SBle.refl _, SBle.refl _, SBle.refl _, SBle.refl _, trivial⟩, fun b => ⟨by omega, i + 1, by omega, by omega, ?_, SBle.refl _, SBle.refl _, SBle.refl _, SBle.refl _, trivial⟩⟩
    · have b : ¬ x.r i = [] := by simpa using b
      exact strs17_le (f := fun j => if i = j then x.r i else brI x.r i j) (g := brI x.r (i + 1)) fun j hj => brI_step ei b j
    · have b : x.r i = [] := by simpa using b
      exact strs17_le fun j hj => brI_skip b j
  · have a := of_decide_eq_false a
    have e : i = 16 := by omega
    subst e
    have h1 := hx.v
    have h2 := text_le x.v
    have hb := brI_le hx 16
    have h6 : (flat [brI x.r 16 0, brI x.r 16 1, brI x.r 16 2, brI x.r 16 3, brI x.r 16 4, brI x.r 16 5, brI x.r 16 6, brI x.r 16 7, brI x.r 16 8, brI x.r 16 9, brI x.r 16 10, brI x.r 16 11, brI x.r 16 12, brI x.r 16 13, brI x.r 16 14, brI x.r 16 15, textOf x.v]).length ≤ 17 * 2000 := by
      refine flat_le (m := 2000) fun y hy => ?_
      simp only [List.mem_cons, List.not_mem_nil, or_false] at hy
      rcases hy with rfl | rfl | rfl | rfl | rfl | rfl | rfl | rfl | rfl | rfl | rfl | rfl | rfl | rfl | rfl | rfl | rfl
      · exact Nat.le_trans (hb 0 (by decide)) (by decide)
      · exact Nat.le_trans (hb 1 (by decide)) (by decide)
      · exact Nat.le_trans (hb 2 (by decide)) (by decide)
      · exact Nat.le_trans (hb 3 (by decide)) (by decide)
      · exact Nat.le_trans (hb 4 (by decide)) (by decide)
      · exact Nat.le_trans (hb 5 (by decide)) (by decide)
      · exact Nat.le_trans (hb 6 (by decide)) (by decide)
      · exact Nat.le_trans (hb 7 (by decide)) (by decide)
      · exact Nat.le_trans (hb 8 (by decide)) (by decide)
      · exact Nat.le_trans (hb 9 (by decide)) (by decide)
      · exact Nat.le_trans (hb 10 (by decide)) (by decide)
      · exact Nat.le_trans (hb 11 (by decide)) (by decide)
      · exact Nat.le_trans (hb 12 (by decide)) (by decide)
      · exact Nat.le_trans (hb 13 (by decide)) (by decide)
      · exact Nat.le_trans (hb 14 (by decide)) (by decide)
      · exact Nat.le_trans (hb 15 (by decide)) (by decide)
      · omega
    have h7 := head_le9 192 (((flat [brI x.r 16 0, brI x.r 16 1, brI x.r 16 2, brI x.r 16 3, brI x.r 16 4, brI x.r 16 5, brI x.r 16 6, brI x.r 16 7, brI x.r 16 8, brI x.r 16 9, brI x.r 16 10, brI x.r 16 11, brI x.r 16 12, brI x.r 16 13, brI x.r 16 14, brI x.r 16 15, textOf x.v]).length : Nat) : Int).toNat
    have e : branchT x = cat (headOf 192 (((flat [brI x.r 16 0, brI x.r 16 1, brI x.r 16 2, brI x.r 16 3, brI x.r 16 4, brI x.r 16 5, brI x.r 16 6, brI x.r 16 7, brI x.r 16 8, brI x.r 16 9, brI x.r 16 10, brI x.r 16 11, brI x.r 16 12, brI x.r 16 13, brI x.r 16 14, brI x.r 16 15, textOf x.v]).length : Nat) : Int).toNat) (flat [brI x.r 16 0, brI x.r 16 1, brI x.r 16 2, brI x.r 16 3, brI x.r 16 4, brI x.r 16 5, brI x.r 16 6, brI x.r 16 7, brI x.r 16 8, brI x.r 16 9, brI x.r 16 10, brI x.r 16 11, brI x.r 16 12, brI x.r 16 13, brI x.r 16 14, brI x.r 16 15, textOf x.v]) := by rw [branchT, listOf, Int.toNat_natCast]; rfl
    generalize flat [brI x.r 16 0, brI x.r 16 1, brI x.r 16 2, brI x.r 16 3, brI x.r 16 4, brI x.r 16 5, brI x.r 16 6, brI x.r 16 7, brI x.r 16 8, brI x.r 16 9, brI x.r 16 10, brI x.r 16 11, brI x.r 16 12, brI x.r 16 13, brI x.r 16 14, brI x.r 16 15, textOf x.v] = F at *
    exact ⟨by omega, rfl, by omega, by omega, by omega, fun E => by rw [e]⟩
theorem noneText_ok : CallOk Tryz.prog 186 (purePT (ndSpec fun _ => some (True, .str false [128]))) := by
  refine pure_ok goodN3 (n := 20) (fn := Tryz.f186) Tryz.func186 (by kernel_rfl) (by kernel_rfl) ?_
  intro args p r h hp
  obtain ⟨x, hx, hg⟩ := ndSpec_eq h
  subst hx
  injection hg with hg; injection hg with h1 h2; subst h1; subst h2
  exact ⟨nd_wf x, rfl, Holds.of_eq (vcNoneText x _) ⟨by omega, fun E => rfl⟩⟩
theorem leafText_ok : CallOk Tryz.prog 187 (purePT (ndSpec fun x => some (x.Few, .str false (leafT x)))) := by
  refine pure_ok goodN3 (n := 20) (fn := Tryz.f187) Tryz.func187 (by kernel_rfl) (by kernel_rfl) ?_
  intro args p r h hp
  obtain ⟨x, hx, hg⟩ := ndSpec_eq h
  subst hx
  injection hg with hg; injection hg with h1 h2; subst h1; subst h2
  exact ⟨nd_wf x, rfl, leafText_holds hp⟩
theorem extText_ok : CallOk Tryz.prog 188 (purePT (ndSpec fun x => some (x.Few, .str false (extT x)))) := by
  refine pure_ok goodN3 (n := 20) (fn := Tryz.f188) Tryz.func188 (by kernel_rfl) (by kernel_rfl) ?_
  intro args p r h hp
  obtain ⟨x, hx, hg⟩ := ndSpec_eq h
  subst hx
  injection hg with hg; injection hg with h1 h2; subst h1; subst h2
  exact ⟨nd_wf x, rfl, extText_holds hp⟩
theorem branchText_ok : CallOk Tryz.prog 189 (purePT (ndSpec fun x => some (x.Few, .str false (branchT x)))) := by
  refine pure_of_ans (ans_ok (n := 20) (fn := Tryz.f189) Tryz.func189 (by kernel_rfl) (by kernel_rfl) ?_)
  intro args p a h hp
  obtain ⟨⟨p0, v0⟩, hq, hpa⟩ := Option.map_eq_some_iff.1 h
  obtain ⟨x, hx, hg⟩ := ndSpec_eq hq
  subst hx
  injection hg with hg; injection hg with g1 g2; subst g1; subst g2
  injection hpa with h1 h2; subst h1; subst h2
  exact ⟨_, goodBT x, nd_wf x, rfl, branchText_holds hp⟩
noncomputable def listN4 : List (FuncId × PT) := (183, purePT (ndSpec fun x => some (True, .bool false (leafB x)))) :: (186, purePT (ndSpec fun _ => some (True, .str false [128]))) ::
  (187, purePT (ndSpec fun x => some (x.Few, .str false (leafT x)))) :: (188, purePT (ndSpec fun x => some (x.Few, .str false (extT x)))) :: (189, purePT (ndSpec fun x => some (x.Few, .str false (branchT x)))) :: listN3
theorem listN4_ok : SummOk Tryz.prog (fun f => lookPT f listN4) := .cons leaf_ok (purePT_mono _) (.cons noneText_ok (purePT_mono _) (.cons leafText_ok (purePT_mono _) (.cons extText_ok (purePT_mono _) (.cons branchText_ok (purePT_mono _) listN3_ok))))
noncomputable def cfgN4 : Cfg := { cfg0 with summ := fun f => lookPT f listN4 }
theorem goodN4 : Sx.Good Tryz.prog cfgN4 := ⟨mixes, listN4_ok, fns_ok⟩
end Go.Proofs.YtoalfimkkibpdaaGreatDoor
/-
  Node: the node that bytes look like: the set-up.
-/
namespace Go.Proofs.YtoalfimkkibpdaaGreatDoor
open Go Sx
set_option maxRecDepth 20000
def rdCells (s : List UInt8) (i : Nat) : List SV := [.int .i64 false 3, .str false [], .str false [], .str false (rdI s i 0), .str false (rdI s i 1), .str false (rdI s i 2), .str false (rdI s i 3), .str false (rdI s i 4), .str false (rdI s i 5), .str false (rdI s i 6), .str false (rdI s i 7), .str false (rdI s i 8), .str false (rdI s i 9), .str false (rdI s i 10), .str false (rdI s i 11), .str false (rdI s i 12), .str false (rdI s i 13), .str false (rdI s i 14), .str false (rdI s i 15)]
noncomputable def annRd (s : List UInt8) : LoopAnn :=
  { α := Nat, pre := fun _ i => i ≤ 16, mea := fun _ i => 16 - i, fresh := 0, slots := fun _ i => [(9, .int .i64 false i)],
    mem := fun st i => match slot st.tmps 4 with
      | some (.ptr k _ _) => [(k, .cells (rdCells (cutIn s) i) 19 116)]
      | _ => [] }
noncomputable def cfgRd (s : List UInt8) : Cfg := { cfg0 with summ := fun f => lookPT f listN4, anns := fun f => if f = 191 then [(3, always (annRd s))] else [] }
theorem goodRd (s : List UInt8) : Sx.Good Tryz.prog (cfgRd s) := ⟨mixes, listN4_ok, fns_ok⟩
end Go.Proofs.YtoalfimkkibpdaaGreatDoor
