/-
  Frame: asks, and their bytes: the set-up.
-/
import Derived.Test.YtocikfhejpilaaaGreatDoorOc
import Derived.Test.YtocikfhejpilaaaGreatDoorOd
namespace Go.Proofs.YtocikfhejpilaaaGreatDoor
open Go Sx

/-- An ask. -/
structure Ak where
  k : Int
  s : Int
  q : Int
  a : Int
  key : List UInt8
  to : List UInt8
  lim : Int
def Ak.sv (x : Ak) : SV := .agg [.int .i64 false x.k, .int .i64 false x.s, .int .i64 false x.q, .int .i64 false x.a, .str false x.key, .str false x.to, .int .i64 false x.lim]
def inRange (n a b : Int) : Bool := decide (a ≤ n) && decide (n ≤ b)
/-- What an ask of a kind has. -/
def roomAt (k : Int) : Bool := decide (k = 0) || decide (k = 7)
def roomKey (k : Int) : Int := bif inRange k 1 4 then 6 else 0
def roomTo (k : Int) : Int := bif decide (k = 4) then 6 else 0
def roomLim (k : Int) : Bool := decide (k = 2) || decide (k = 4)
/-- May it be? -/
def Ak.ok (x : Ak) : Bool := inRange x.k 0 9 && inRange x.q 1 1048576 && (bif decide (x.k = 0) then decide (x.s = 0) else inRange x.s 1 1048576) && (bif roomAt x.k then inRange x.a (-1) 1048576 else decide (x.a = 0)) &&
  decide ((x.key.length : Int) ≤ roomKey x.k) && decide ((x.to.length : Int) ≤ roomTo x.k) && (bif roomLim x.k then inRange x.lim 1 8 else decide (x.lim = 0))
def numOf (n : Int) : List UInt8 := textOf (digits n)
def listOf (l : List (List UInt8)) : List UInt8 := headOf 192 (flat l).length ++ flat l
/-- Its bytes. -/
def Ak.put (x : Ak) : List UInt8 := listOf [numOf 0, numOf x.k, numOf x.s, numOf x.q, numOf (x.a + 1), textOf x.key, textOf x.to, numOf x.lim]
noncomputable def cfgF0 : Cfg := { cfg0 with summ := fun f => lookPT f list7 }
theorem goodF0 : Sx.Good Tryz.prog cfgF0 := ⟨mixes, list7_ok, fns_ok⟩
end Go.Proofs.YtocikfhejpilaaaGreatDoor
/-
  Conditions that the executor computes, written out by a program (vcgen.py).
-/
namespace Go.Proofs.YtocikfhejpilaaaGreatDoor
open Go Sx
set_option maxRecDepth 20000

theorem vcFNum (n : Int) (R : SV → Prop) : VC.holds (runP cfgF0 29 Tryz.f29 [.int .i64 false n] R) = (((0 : Int) ≤ n % (18446744073709551616 : Int) ∧
 n % (18446744073709551616 : Int) < (18446744073709551616 : Int)) ∧
 R (SV.str false (textOf (digits (n % (18446744073709551616 : Int)))))) := by kernel_rfl
theorem vcFWithin (n a b : Int) (R : SV → Prop) : VC.holds (runP cfgF0 38 Tryz.f38 [.int .i64 false n, .int .i64 false a, .int .i64 false b] R) = ((decide (a ≤ n) = true →
 R (SV.bool (false && false) (decide (n ≤ b)))) ∧
 (decide (a ≤ n) = false →
 R (SV.bool true false))) := by kernel_rfl
theorem vcFRoom (k : Int) (R : SV → Prop) : VC.holds (runP cfgF0 39 Tryz.f39 [.int .i64 false k] R) = ((decide (k = (0 : Int)) = true →
 (decide (k = (0 : Int)) = true →
 R (SV.tup [SV.bool true true, SV.int IntKind.i64 true (0 : Int), SV.int IntKind.i64 true (0 : Int), SV.bool true false])) ∧
 (decide (k = (0 : Int)) = false →
 (decide (k = (4 : Int)) = true →
 R (SV.tup [SV.bool true false, SV.int IntKind.i64 true (6 : Int), SV.int IntKind.i64 true (6 : Int), SV.bool true true])) ∧
 (decide (k = (4 : Int)) = false →
 (decide (k = (2 : Int)) = true →
 R (SV.tup [SV.bool true false, SV.int IntKind.i64 true (6 : Int), SV.int IntKind.i64 true (0 : Int), SV.bool true true])) ∧
 (decide (k = (2 : Int)) = false →
 (decide (k = (1 : Int)) = true →
 (decide (k = (1 : Int)) = true →
 R (SV.tup [SV.bool true false, SV.int IntKind.i64 true (6 : Int), SV.int IntKind.i64 true (0 : Int), SV.bool true false])) ∧
 (decide (k = (1 : Int)) = false →
 R (SV.tup [SV.bool true false, SV.int IntKind.i64 true (0 : Int), SV.int IntKind.i64 true (0 : Int), SV.bool true false]))) ∧
 (decide (k = (1 : Int)) = false →
 (decide (k = (3 : Int)) = true →
 R (SV.tup [SV.bool true false, SV.int IntKind.i64 true (6 : Int), SV.int IntKind.i64 true (0 : Int), SV.bool true false])) ∧
 (decide (k = (3 : Int)) = false →
 R (SV.tup [SV.bool true false, SV.int IntKind.i64 true (0 : Int), SV.int IntKind.i64 true (0 : Int), SV.bool true false]))))))) ∧
 (decide (k = (0 : Int)) = false →
 (decide (k = (7 : Int)) = true →
 R (SV.tup [SV.bool true true, SV.int IntKind.i64 true (0 : Int), SV.int IntKind.i64 true (0 : Int), SV.bool true false])) ∧
 (decide (k = (7 : Int)) = false →
 (decide (k = (4 : Int)) = true →
 R (SV.tup [SV.bool true false, SV.int IntKind.i64 true (6 : Int), SV.int IntKind.i64 true (6 : Int), SV.bool true true])) ∧
 (decide (k = (4 : Int)) = false →
 (decide (k = (2 : Int)) = true →
 R (SV.tup [SV.bool true false, SV.int IntKind.i64 true (6 : Int), SV.int IntKind.i64 true (0 : Int), SV.bool true true])) ∧
 (decide (k = (2 : Int)) = false →
 (decide (k = (1 : Int)) = true →
 (decide (k = (1 : Int)) = true →
 R (SV.tup [SV.bool true false, SV.int IntKind.i64 true (6 : Int), SV.int IntKind.i64 true (0 : Int), SV.bool true false])) ∧
 (decide (k = (1 : Int)) = false →
 R (SV.tup [SV.bool true false, SV.int IntKind.i64 true (0 : Int), SV.int IntKind.i64 true (0 : Int), SV.bool true false]))) ∧
 (decide (k = (1 : Int)) = false →
 (decide (k = (3 : Int)) = true →
 R (SV.tup [SV.bool true false, SV.int IntKind.i64 true (6 : Int), SV.int IntKind.i64 true (0 : Int), SV.bool true false])) ∧
 (decide (k = (3 : Int)) = false →
 R (SV.tup [SV.bool true false, SV.int IntKind.i64 true (0 : Int), SV.int IntKind.i64 true (0 : Int), SV.bool true false])))))))) := by kernel_rfl
theorem vcFFlag (b : Bool) (R : SV → Prop) : VC.holds (runP cfgF0 34 Tryz.f34 [.bool false b] R) = ((b = true →
 ((0 : Int) ≤ (1 : Int) ∧
 (1 : Int) < (18446744073709551616 : Int)) ∧
 R (SV.str true (textOf (digits (1 : Int))))) ∧
 (b = false →
 ((0 : Int) ≤ (0 : Int) ∧
 (0 : Int) < (18446744073709551616 : Int)) ∧
 R (SV.str true (textOf (digits (0 : Int)))))) := by kernel_rfl
end Go.Proofs.YtocikfhejpilaaaGreatDoor
/-
  Frame: numbers, flags, ranges: the contracts; ValidAsk: the set-up.
-/
namespace Go.Proofs.YtocikfhejpilaaaGreatDoor
open Go Sx
set_option maxRecDepth 20000

theorem bool_same {l : Bool} {a b : Bool} (h : a = b) : sameVal (.bool l a) (.bool false b) := fun E => by subst h; rfl
def fnumSpec : List SV → Option (Prop × SV)
  | [.int .i64 false n] => some (0 ≤ n ∧ n < 9223372036854775808, .str false (numOf n))
  | _ => none
theorem fnum_ok : CallOk Tryz.prog 29 (purePT fnumSpec) := by
  refine pure_ok goodF0 (n := 20) (fn := Tryz.f29) Tryz.func29 (by kernel_rfl) (by kernel_rfl) ?_
  intro args p r h hp
  unfold fnumSpec at h
  split at h
  · rename_i n
    injection h with h; injection h with h1 h2; subst h1; subst h2
    have e : n % 18446744073709551616 = n := by omega
    refine ⟨rfl, rfl, Holds.of_eq (vcFNum n _) ?_⟩
    rw [e]
    exact ⟨by omega, fun _ => rfl⟩
  · cases h
def withinSpec : List SV → Option (Prop × SV)
  | [.int .i64 false n, .int .i64 false a, .int .i64 false b] => some (True, .bool false (inRange n a b))
  | _ => none
theorem within_ok : CallOk Tryz.prog 38 (purePT withinSpec) := by
  refine pure_ok goodF0 (n := 20) (fn := Tryz.f38) Tryz.func38 (by kernel_rfl) (by kernel_rfl) ?_
  intro args p r h hp
  unfold withinSpec at h
  split at h
  · rename_i n a b
    injection h with h; injection h with h1 h2; subst h1; subst h2
    exact ⟨rfl, rfl, Holds.of_eq (vcFWithin n a b _) ⟨fun h => bool_same (by simp only [inRange, h, Bool.true_and]), fun h => bool_same (by simp only [inRange, h, Bool.false_and])⟩⟩
  · cases h
def roomSpec : List SV → Option (Prop × SV)
  | [.int .i64 false k] => some (True, .tup [.bool false (roomAt k), .int .i64 false (roomKey k), .int .i64 false (roomTo k), .bool false (roomLim k)])
  | _ => none
theorem room_same {k : Int} {a d : Bool} {b c : Int} (h1 : roomAt k = a) (h2 : roomKey k = b) (h3 : roomTo k = c) (h4 : roomLim k = d) :
    sameVal (.tup [.bool true a, .int .i64 true b, .int .i64 true c, .bool true d]) (.tup [.bool false (roomAt k), .int .i64 false (roomKey k), .int .i64 false (roomTo k), .bool false (roomLim k)]) := fun E => by subst h1; subst h2; subst h3; subst h4; rfl
theorem room_ok : CallOk Tryz.prog 39 (purePT roomSpec) := by
  refine pure_ok goodF0 (n := 20) (fn := Tryz.f39) Tryz.func39 (by kernel_rfl) (by kernel_rfl) ?_
  intro args p r h hp
  unfold roomSpec at h
  split at h
  · rename_i k
    injection h with h; injection h with h1 h2; subst h1; subst h2
    refine ⟨rfl, rfl, Holds.of_eq (vcFRoom k _) ?_⟩
    repeat' first
      | apply And.intro
      | intro (_ : _ = true)
      | intro (_ : _ = false)
    all_goals simp only [decide_eq_true_eq, decide_eq_false_iff_not] at *
    all_goals first
      | (exfalso; omega)
      | (refine room_same ?_ ?_ ?_ ?_
         · rw [Bool.eq_iff_iff]; simp only [roomAt, Bool.or_eq_true, decide_eq_true_eq, Bool.false_eq_true, iff_true, iff_false]; omega
         · unfold roomKey
           first
             | (rw [show inRange _ 1 4 = true from by simp only [inRange, Bool.and_eq_true, decide_eq_true_eq]; omega]; rfl)
             | (rw [show inRange _ 1 4 = false from by rw [Bool.eq_false_iff]; simp only [inRange, Bool.and_eq_true, decide_eq_true_eq, ne_eq]; omega]; rfl)
         · unfold roomTo
           first
             | (rw [decide_eq_true (by omega)]; rfl)
             | (rw [decide_eq_false (by omega)]; rfl)
         · rw [Bool.eq_iff_iff]; simp only [roomLim, Bool.or_eq_true, decide_eq_true_eq, Bool.false_eq_true, iff_true, iff_false]; omega)
  · cases h
def flagSpec : List SV → Option (Prop × SV)
  | [.bool false b] => some (True, .str false (bif b then [1] else [128]))
  | _ => none
theorem fflag_ok : CallOk Tryz.prog 34 (purePT flagSpec) := by
  refine pure_ok goodF0 (n := 20) (fn := Tryz.f34) Tryz.func34 (by kernel_rfl) (by kernel_rfl) ?_
  intro args p r h hp
  unfold flagSpec at h
  split at h
  · rename_i b
    injection h with h; injection h with h1 h2; subst h1; subst h2
    refine ⟨rfl, rfl, Holds.of_eq (vcFFlag b _) ⟨fun h => ⟨by omega, fun _ => by subst h; rfl⟩, fun h => ⟨by omega, fun _ => by subst h; rfl⟩⟩⟩
  · cases h
noncomputable def listF1 : List (FuncId × PT) := (29, purePT fnumSpec) :: (38, purePT withinSpec) :: (39, purePT roomSpec) :: (34, purePT flagSpec) :: list7
theorem listF1_ok : SummOk Tryz.prog (fun f => lookPT f listF1) := .cons fnum_ok (purePT_mono _) (.cons within_ok (purePT_mono _) (.cons room_ok (purePT_mono _) (.cons fflag_ok (purePT_mono _) list7_ok)))
noncomputable def cfgF1 : Cfg := { cfg0 with summ := fun f => lookPT f listF1 }
theorem goodF1 : Sx.Good Tryz.prog cfgF1 := ⟨mixes, listF1_ok, fns_ok⟩
end Go.Proofs.YtocikfhejpilaaaGreatDoor
/-
  Conditions that the executor computes, written out by a program (vcgen.py).
-/
namespace Go.Proofs.YtocikfhejpilaaaGreatDoor
open Go Sx
set_option maxRecDepth 20000

theorem vcFValid (x : Ak) (R : SV → Prop) : VC.holds (runP cfgF1 16 Tryz.f16 [x.sv] R) = (True ∧
 ((!inRange x.k (0 : Int) (9 : Int)) = true →
 R (SV.bool true false)) ∧
 ((!inRange x.k (0 : Int) (9 : Int)) = false →
 True ∧
 ((!inRange x.q (1 : Int) (1048576 : Int)) = true →
 R (SV.bool true false)) ∧
 ((!inRange x.q (1 : Int) (1048576 : Int)) = false →
 (decide (x.k = (0 : Int)) = true →
 ((!decide (x.s = (0 : Int))) = true →
 R (SV.bool true false)) ∧
 ((!decide (x.s = (0 : Int))) = false →
 ((!decide (x.k = (0 : Int))) = true →
 True ∧
 ((!inRange x.s (1 : Int) (1048576 : Int)) = true →
 R (SV.bool true false)) ∧
 ((!inRange x.s (1 : Int) (1048576 : Int)) = false →
 True ∧
 (roomAt x.k = true →
 True ∧
 ((!inRange x.a (-1 : Int) (1048576 : Int)) = true →
 R (SV.bool true false)) ∧
 ((!inRange x.a (-1 : Int) (1048576 : Int)) = false →
 ((!roomAt x.k) = true →
 ((!decide (x.a = (0 : Int))) = true →
 R (SV.bool true false)) ∧
 ((!decide (x.a = (0 : Int))) = false →
 (decide (roomKey x.k < (↑x.key.length : Int)) = true →
 R (SV.bool true false)) ∧
 (decide (roomKey x.k < (↑x.key.length : Int)) = false →
 (decide (roomTo x.k < (↑x.to.length : Int)) = true →
 R (SV.bool true false)) ∧
 (decide (roomTo x.k < (↑x.to.length : Int)) = false →
 (roomLim x.k = true →
 True ∧
 R (SV.bool false (inRange x.lim (1 : Int) (8 : Int)))) ∧
 (roomLim x.k = false →
 R (SV.bool (false && true) (decide (x.lim = (0 : Int))))))))) ∧
 ((!roomAt x.k) = false →
 (decide (roomKey x.k < (↑x.key.length : Int)) = true →
 R (SV.bool true false)) ∧
 (decide (roomKey x.k < (↑x.key.length : Int)) = false →
 (decide (roomTo x.k < (↑x.to.length : Int)) = true →
 R (SV.bool true false)) ∧
 (decide (roomTo x.k < (↑x.to.length : Int)) = false →
 (roomLim x.k = true →
 True ∧
 R (SV.bool false (inRange x.lim (1 : Int) (8 : Int)))) ∧
 (roomLim x.k = false →
 R (SV.bool (false && true) (decide (x.lim = (0 : Int)))))))))) ∧
 (roomAt x.k = false →
 ((!roomAt x.k) = true →
 ((!decide (x.a = (0 : Int))) = true →
 R (SV.bool true false)) ∧
 ((!decide (x.a = (0 : Int))) = false →
 (decide (roomKey x.k < (↑x.key.length : Int)) = true →
 R (SV.bool true false)) ∧
 (decide (roomKey x.k < (↑x.key.length : Int)) = false →
 (decide (roomTo x.k < (↑x.to.length : Int)) = true →
 R (SV.bool true false)) ∧
 (decide (roomTo x.k < (↑x.to.length : Int)) = false →
 (roomLim x.k = true →
 True ∧
 R (SV.bool false (inRange x.lim (1 : Int) (8 : Int)))) ∧
 (roomLim x.k = false →
 R (SV.bool (false && true) (decide (x.lim = (0 : Int))))))))) ∧
 ((!roomAt x.k) = false →
 (decide (roomKey x.k < (↑x.key.length : Int)) = true →
 R (SV.bool true false)) ∧
 (decide (roomKey x.k < (↑x.key.length : Int)) = false →
 (decide (roomTo x.k < (↑x.to.length : Int)) = true →
 R (SV.bool true false)) ∧
 (decide (roomTo x.k < (↑x.to.length : Int)) = false →
 (roomLim x.k = true →
 True ∧
 R (SV.bool false (inRange x.lim (1 : Int) (8 : Int)))) ∧
 (roomLim x.k = false →
 R (SV.bool (false && true) (decide (x.lim = (0 : Int))))))))))) ∧
 ((!decide (x.k = (0 : Int))) = false →
 True ∧
 (roomAt x.k = true →
 True ∧
 ((!inRange x.a (-1 : Int) (1048576 : Int)) = true →
 R (SV.bool true false)) ∧
 ((!inRange x.a (-1 : Int) (1048576 : Int)) = false →
 ((!roomAt x.k) = true →
 ((!decide (x.a = (0 : Int))) = true →
 R (SV.bool true false)) ∧
 ((!decide (x.a = (0 : Int))) = false →
 (decide (roomKey x.k < (↑x.key.length : Int)) = true →
 R (SV.bool true false)) ∧
 (decide (roomKey x.k < (↑x.key.length : Int)) = false →
 (decide (roomTo x.k < (↑x.to.length : Int)) = true →
 R (SV.bool true false)) ∧
 (decide (roomTo x.k < (↑x.to.length : Int)) = false →
 (roomLim x.k = true →
 True ∧
 R (SV.bool false (inRange x.lim (1 : Int) (8 : Int)))) ∧
 (roomLim x.k = false →
 R (SV.bool (false && true) (decide (x.lim = (0 : Int))))))))) ∧
 ((!roomAt x.k) = false →
 (decide (roomKey x.k < (↑x.key.length : Int)) = true →
 R (SV.bool true false)) ∧
 (decide (roomKey x.k < (↑x.key.length : Int)) = false →
 (decide (roomTo x.k < (↑x.to.length : Int)) = true →
 R (SV.bool true false)) ∧
 (decide (roomTo x.k < (↑x.to.length : Int)) = false →
 (roomLim x.k = true →
 True ∧
 R (SV.bool false (inRange x.lim (1 : Int) (8 : Int)))) ∧
 (roomLim x.k = false →
 R (SV.bool (false && true) (decide (x.lim = (0 : Int)))))))))) ∧
 (roomAt x.k = false →
 ((!roomAt x.k) = true →
 ((!decide (x.a = (0 : Int))) = true →
 R (SV.bool true false)) ∧
 ((!decide (x.a = (0 : Int))) = false →
 (decide (roomKey x.k < (↑x.key.length : Int)) = true →
 R (SV.bool true false)) ∧
 (decide (roomKey x.k < (↑x.key.length : Int)) = false →
 (decide (roomTo x.k < (↑x.to.length : Int)) = true →
 R (SV.bool true false)) ∧
 (decide (roomTo x.k < (↑x.to.length : Int)) = false →
 (roomLim x.k = true →
 True ∧
 R (SV.bool false (inRange x.lim (1 : Int) (8 : Int)))) ∧
 (roomLim x.k = false →
 R (SV.bool (false && true) (decide (x.lim = (0 : Int))))))))) ∧
 ((!roomAt x.k) = false →
 (decide (roomKey x.k < (↑x.key.length : Int)) = true →
 R (SV.bool true false)) ∧
 (decide (roomKey x.k < (↑x.key.length : Int)) = false →
 (decide (roomTo x.k < (↑x.to.length : Int)) = true →
 R (SV.bool true false)) ∧
 (decide (roomTo x.k < (↑x.to.length : Int)) = false →
 (roomLim x.k = true →
 True ∧
 R (SV.bool false (inRange x.lim (1 : Int) (8 : Int)))) ∧
 (roomLim x.k = false →
 R (SV.bool (false && true) (decide (x.lim = (0 : Int)))))))))))) ∧
 (decide (x.k = (0 : Int)) = false →
 ((!decide (x.k = (0 : Int))) = true →
 True ∧
 ((!inRange x.s (1 : Int) (1048576 : Int)) = true →
 R (SV.bool true false)) ∧
 ((!inRange x.s (1 : Int) (1048576 : Int)) = false →
 True ∧
 (roomAt x.k = true →
 True ∧
 ((!inRange x.a (-1 : Int) (1048576 : Int)) = true →
 R (SV.bool true false)) ∧
 ((!inRange x.a (-1 : Int) (1048576 : Int)) = false →
 ((!roomAt x.k) = true →
 ((!decide (x.a = (0 : Int))) = true →
 R (SV.bool true false)) ∧
 ((!decide (x.a = (0 : Int))) = false →
 (decide (roomKey x.k < (↑x.key.length : Int)) = true →
 R (SV.bool true false)) ∧
 (decide (roomKey x.k < (↑x.key.length : Int)) = false →
 (decide (roomTo x.k < (↑x.to.length : Int)) = true →
 R (SV.bool true false)) ∧
 (decide (roomTo x.k < (↑x.to.length : Int)) = false →
 (roomLim x.k = true →
 True ∧
 R (SV.bool false (inRange x.lim (1 : Int) (8 : Int)))) ∧
 (roomLim x.k = false →
 R (SV.bool (false && true) (decide (x.lim = (0 : Int))))))))) ∧
 ((!roomAt x.k) = false →
 (decide (roomKey x.k < (↑x.key.length : Int)) = true →
 R (SV.bool true false)) ∧
 (decide (roomKey x.k < (↑x.key.length : Int)) = false →
 (decide (roomTo x.k < (↑x.to.length : Int)) = true →
 R (SV.bool true false)) ∧
 (decide (roomTo x.k < (↑x.to.length : Int)) = false →
 (roomLim x.k = true →
 True ∧
 R (SV.bool false (inRange x.lim (1 : Int) (8 : Int)))) ∧
 (roomLim x.k = false →
 R (SV.bool (false && true) (decide (x.lim = (0 : Int)))))))))) ∧
 (roomAt x.k = false →
 ((!roomAt x.k) = true →
 ((!decide (x.a = (0 : Int))) = true →
 R (SV.bool true false)) ∧
 ((!decide (x.a = (0 : Int))) = false →
 (decide (roomKey x.k < (↑x.key.length : Int)) = true →
 R (SV.bool true false)) ∧
 (decide (roomKey x.k < (↑x.key.length : Int)) = false →
 (decide (roomTo x.k < (↑x.to.length : Int)) = true →
 R (SV.bool true false)) ∧
 (decide (roomTo x.k < (↑x.to.length : Int)) = false →
 (roomLim x.k = true →
 True ∧
 R (SV.bool false (inRange x.lim (1 : Int) (8 : Int)))) ∧
 (roomLim x.k = false →
 R (SV.bool (false && true) (decide (x.lim = (0 : Int))))))))) ∧
 ((!roomAt x.k) = false →
 (decide (roomKey x.k < (↑x.key.length : Int)) = true →
 R (SV.bool true false)) ∧
 (decide (roomKey x.k < (↑x.key.length : Int)) = false →
 (decide (roomTo x.k < (↑x.to.length : Int)) = true →
 R (SV.bool true false)) ∧
 (decide (roomTo x.k < (↑x.to.length : Int)) = false →
 (roomLim x.k = true →
 True ∧
 R (SV.bool false (inRange x.lim (1 : Int) (8 : Int)))) ∧
 (roomLim x.k = false →
 R (SV.bool (false && true) (decide (x.lim = (0 : Int))))))))))) ∧
 ((!decide (x.k = (0 : Int))) = false →
 True ∧
 (roomAt x.k = true →
 True ∧
 ((!inRange x.a (-1 : Int) (1048576 : Int)) = true →
 R (SV.bool true false)) ∧
 ((!inRange x.a (-1 : Int) (1048576 : Int)) = false →
 ((!roomAt x.k) = true →
 ((!decide (x.a = (0 : Int))) = true →
 R (SV.bool true false)) ∧
 ((!decide (x.a = (0 : Int))) = false →
 (decide (roomKey x.k < (↑x.key.length : Int)) = true →
 R (SV.bool true false)) ∧
 (decide (roomKey x.k < (↑x.key.length : Int)) = false →
 (decide (roomTo x.k < (↑x.to.length : Int)) = true →
 R (SV.bool true false)) ∧
 (decide (roomTo x.k < (↑x.to.length : Int)) = false →
 (roomLim x.k = true →
 True ∧
 R (SV.bool false (inRange x.lim (1 : Int) (8 : Int)))) ∧
 (roomLim x.k = false →
 R (SV.bool (false && true) (decide (x.lim = (0 : Int))))))))) ∧
 ((!roomAt x.k) = false →
 (decide (roomKey x.k < (↑x.key.length : Int)) = true →
 R (SV.bool true false)) ∧
 (decide (roomKey x.k < (↑x.key.length : Int)) = false →
 (decide (roomTo x.k < (↑x.to.length : Int)) = true →
 R (SV.bool true false)) ∧
 (decide (roomTo x.k < (↑x.to.length : Int)) = false →
 (roomLim x.k = true →
 True ∧
 R (SV.bool false (inRange x.lim (1 : Int) (8 : Int)))) ∧
 (roomLim x.k = false →
 R (SV.bool (false && true) (decide (x.lim = (0 : Int)))))))))) ∧
 (roomAt x.k = false →
 ((!roomAt x.k) = true →
 ((!decide (x.a = (0 : Int))) = true →
 R (SV.bool true false)) ∧
 ((!decide (x.a = (0 : Int))) = false →
 (decide (roomKey x.k < (↑x.key.length : Int)) = true →
 R (SV.bool true false)) ∧
 (decide (roomKey x.k < (↑x.key.length : Int)) = false →
 (decide (roomTo x.k < (↑x.to.length : Int)) = true →
 R (SV.bool true false)) ∧
 (decide (roomTo x.k < (↑x.to.length : Int)) = false →
 (roomLim x.k = true →
 True ∧
 R (SV.bool false (inRange x.lim (1 : Int) (8 : Int)))) ∧
 (roomLim x.k = false →
 R (SV.bool (false && true) (decide (x.lim = (0 : Int))))))))) ∧
 ((!roomAt x.k) = false →
 (decide (roomKey x.k < (↑x.key.length : Int)) = true →
 R (SV.bool true false)) ∧
 (decide (roomKey x.k < (↑x.key.length : Int)) = false →
 (decide (roomTo x.k < (↑x.to.length : Int)) = true →
 R (SV.bool true false)) ∧
 (decide (roomTo x.k < (↑x.to.length : Int)) = false →
 (roomLim x.k = true →
 True ∧
 R (SV.bool false (inRange x.lim (1 : Int) (8 : Int)))) ∧
 (roomLim x.k = false →
 R (SV.bool (false && true) (decide (x.lim = (0 : Int)))))))))))))) := by kernel_rfl
end Go.Proofs.YtocikfhejpilaaaGreatDoor
/-
  Frame: ValidAsk: the contract; PutAsk: the set-up.
-/
namespace Go.Proofs.YtocikfhejpilaaaGreatDoor
open Go Sx
set_option maxRecDepth 20000

set_option maxHeartbeats 2000000 in
theorem fvalid_holds (x : Ak) : Holds (runP cfgF1 16 Tryz.f16 [x.sv] (fun v => sameVal v (.bool false x.ok))) := by
  refine Holds.of_eq (vcFValid x _) ?_
  unfold Ak.ok
  have e1 : decide ((x.key.length : Int) ≤ roomKey x.k) = !decide (roomKey x.k < (x.key.length : Int)) := by rw [← decide_not]; congr 1; simp
  have e2 : decide ((x.to.length : Int) ≤ roomTo x.k) = !decide (roomTo x.k < (x.to.length : Int)) := by rw [← decide_not]; congr 1; simp
  rw [e1, e2]
  generalize inRange x.k 0 9 = b1
  generalize inRange x.q 1 1048576 = b2
  generalize decide (x.k = 0) = b3
  generalize decide (x.s = 0) = b4
  generalize inRange x.s 1 1048576 = b5
  generalize roomAt x.k = b6
  generalize inRange x.a (-1) 1048576 = b7
  generalize decide (x.a = 0) = b8
  generalize decide (roomKey x.k < (x.key.length : Int)) = b9
  generalize decide (roomTo x.k < (x.to.length : Int)) = b10
  generalize roomLim x.k = b11
  generalize inRange x.lim 1 8 = b12
  generalize decide (x.lim = 0) = b13
  repeat' first
    | apply And.intro
    | trivial
    | intro (_ : _ = true)
    | intro (_ : _ = false)
  all_goals (apply bool_same; simp_all)
def askOfSV : List SV → Option Ak
  | [.int .i64 false k, .int .i64 false s, .int .i64 false q, .int .i64 false a, .str false key, .str false to, .int .i64 false lim] => some ⟨k, s, q, a, key, to, lim⟩
  | _ => none
theorem askOfSV_eq {l : List SV} {x : Ak} (h : askOfSV l = some x) : SV.agg l = x.sv := by
  unfold askOfSV at h
  split at h
  · injection h with h; subst h; rfl
  · cases h
def fvalidSpec : List SV → Option (Prop × SV)
  | [.agg l] => (match askOfSV l with
    | some x => some (True, .bool false x.ok)
    | none => none)
  | _ => none
theorem fvalid_ok : CallOk Tryz.prog 16 (purePT fvalidSpec) := by
  refine pure_ok goodF1 (n := 20) (fn := Tryz.f16) Tryz.func16 (by kernel_rfl) (by kernel_rfl) ?_
  intro args p r h hp
  unfold fvalidSpec at h
  split at h
  · split at h
    · rename_i l x hx
      injection h with h; injection h with h1 h2; subst h1; subst h2
      rw [askOfSV_eq hx]
      exact ⟨rfl, rfl, fvalid_holds x⟩
    · cases h
  · cases h
noncomputable def listF2 : List (FuncId × PT) := (16, purePT fvalidSpec) :: listF1
theorem listF2_ok : SummOk Tryz.prog (fun f => lookPT f listF2) := .cons fvalid_ok (purePT_mono _) listF1_ok
noncomputable def cfgF2 : Cfg := { cfg0 with summ := fun f => lookPT f listF2 }
theorem goodF2 : Sx.Good Tryz.prog cfgF2 := ⟨mixes, listF2_ok, fns_ok⟩
def putA (x : Ak) : Ans := .fork x.ok fun b => match b with
  | true => .ret (.tup [.str false x.put, .int .i64 true 0])
  | false => .ret (.tup [.str true [], .int .i64 true 1])
end Go.Proofs.YtocikfhejpilaaaGreatDoor
/-
  Conditions that the executor computes, written out by a program (vcgen.py).
-/
namespace Go.Proofs.YtocikfhejpilaaaGreatDoor
open Go Sx
set_option maxRecDepth 20000

theorem vcFPut (x : Ak) : VC.holds (runA cfgF2 7 Tryz.f7 [x.sv] (putA x)) = (True ∧
 ((!x.ok) = true →
 (x.ok = true →
 sameVal (SV.tup [SV.str true [], SV.int IntKind.i64 true (1 : Int)]) (SV.tup [SV.str false x.put, SV.int IntKind.i64 true (0 : Int)])) ∧
 (x.ok = false →
 sameVal (SV.tup [SV.str true [], SV.int IntKind.i64 true (1 : Int)]) (SV.tup [SV.str true [], SV.int IntKind.i64 true (1 : Int)]))) ∧
 ((!x.ok) = false →
 ((-9223372036854775808 : Int) ≤ x.a + (1 : Int) ∧
 x.a + (1 : Int) ≤ (9223372036854775807 : Int)) ∧
 ((0 : Int) ≤ (0 : Int) ∧
 (0 : Int) < (9223372036854775808 : Int)) ∧
 some (SB.cells x.sv.cells (7 : Nat) (23 : Nat)) = some (SB.cells x.sv.cells (7 : Nat) (23 : Nat)) ∧
 some (SB.cells x.sv.cells (7 : Nat) (23 : Nat)) = some (SB.cells x.sv.cells (7 : Nat) (23 : Nat)) ∧
 some (SB.cells x.sv.cells (7 : Nat) (23 : Nat)) = some (SB.cells x.sv.cells (7 : Nat) (23 : Nat)) ∧
 some (SB.cells x.sv.cells (7 : Nat) (23 : Nat)) = some (SB.cells x.sv.cells (7 : Nat) (23 : Nat)) ∧
 some (SB.cells x.sv.cells (7 : Nat) (23 : Nat)) = some (SB.cells x.sv.cells (7 : Nat) (23 : Nat)) ∧
 some (SB.cells x.sv.cells (7 : Nat) (23 : Nat)) = some (SB.cells x.sv.cells (7 : Nat) (23 : Nat)) ∧
 some (SB.cells x.sv.cells (7 : Nat) (23 : Nat)) = some (SB.cells x.sv.cells (7 : Nat) (23 : Nat)) ∧
 ((0 : Int) ≤ x.k ∧
 x.k < (9223372036854775808 : Int)) ∧
 some (SB.cells x.sv.cells (7 : Nat) (23 : Nat)) = some (SB.cells x.sv.cells (7 : Nat) (23 : Nat)) ∧
 some (SB.cells x.sv.cells (7 : Nat) (23 : Nat)) = some (SB.cells x.sv.cells (7 : Nat) (23 : Nat)) ∧
 some (SB.cells x.sv.cells (7 : Nat) (23 : Nat)) = some (SB.cells x.sv.cells (7 : Nat) (23 : Nat)) ∧
 some (SB.cells x.sv.cells (7 : Nat) (23 : Nat)) = some (SB.cells x.sv.cells (7 : Nat) (23 : Nat)) ∧
 some (SB.cells x.sv.cells (7 : Nat) (23 : Nat)) = some (SB.cells x.sv.cells (7 : Nat) (23 : Nat)) ∧
 some (SB.cells x.sv.cells (7 : Nat) (23 : Nat)) = some (SB.cells x.sv.cells (7 : Nat) (23 : Nat)) ∧
 ((0 : Int) ≤ x.s ∧
 x.s < (9223372036854775808 : Int)) ∧
 some (SB.cells x.sv.cells (7 : Nat) (23 : Nat)) = some (SB.cells x.sv.cells (7 : Nat) (23 : Nat)) ∧
 some (SB.cells x.sv.cells (7 : Nat) (23 : Nat)) = some (SB.cells x.sv.cells (7 : Nat) (23 : Nat)) ∧
 some (SB.cells x.sv.cells (7 : Nat) (23 : Nat)) = some (SB.cells x.sv.cells (7 : Nat) (23 : Nat)) ∧
 some (SB.cells x.sv.cells (7 : Nat) (23 : Nat)) = some (SB.cells x.sv.cells (7 : Nat) (23 : Nat)) ∧
 some (SB.cells x.sv.cells (7 : Nat) (23 : Nat)) = some (SB.cells x.sv.cells (7 : Nat) (23 : Nat)) ∧
 ((0 : Int) ≤ x.q ∧
 x.q < (9223372036854775808 : Int)) ∧
 some (SB.cells x.sv.cells (7 : Nat) (23 : Nat)) = some (SB.cells x.sv.cells (7 : Nat) (23 : Nat)) ∧
 some (SB.cells x.sv.cells (7 : Nat) (23 : Nat)) = some (SB.cells x.sv.cells (7 : Nat) (23 : Nat)) ∧
 some (SB.cells x.sv.cells (7 : Nat) (23 : Nat)) = some (SB.cells x.sv.cells (7 : Nat) (23 : Nat)) ∧
 some (SB.cells x.sv.cells (7 : Nat) (23 : Nat)) = some (SB.cells x.sv.cells (7 : Nat) (23 : Nat)) ∧
 ((0 : Int) ≤ x.a + (1 : Int) ∧
 x.a + (1 : Int) < (9223372036854775808 : Int)) ∧
 some (SB.cells x.sv.cells (7 : Nat) (23 : Nat)) = some (SB.cells x.sv.cells (7 : Nat) (23 : Nat)) ∧
 some (SB.cells x.sv.cells (7 : Nat) (23 : Nat)) = some (SB.cells x.sv.cells (7 : Nat) (23 : Nat)) ∧
 some (SB.cells x.sv.cells (7 : Nat) (23 : Nat)) = some (SB.cells x.sv.cells (7 : Nat) (23 : Nat)) ∧
 x.key.length < (1152921504606846976 : Nat) ∧
 some (SB.cells x.sv.cells (7 : Nat) (23 : Nat)) = some (SB.cells x.sv.cells (7 : Nat) (23 : Nat)) ∧
 some (SB.cells x.sv.cells (7 : Nat) (23 : Nat)) = some (SB.cells x.sv.cells (7 : Nat) (23 : Nat)) ∧
 x.to.length < (1152921504606846976 : Nat) ∧
 some (SB.cells x.sv.cells (7 : Nat) (23 : Nat)) = some (SB.cells x.sv.cells (7 : Nat) (23 : Nat)) ∧
 ((0 : Int) ≤ x.lim ∧
 x.lim < (9223372036854775808 : Int)) ∧
 (((8 : Nat) = (8 : Nat) ∧
 (8 : Nat) ≤ (8 : Nat)) ∧
 (8 : Nat) ≤ (140737488355328 : Nat) ∧
 (flat [numOf (0 : Int), numOf x.k, numOf x.s, numOf x.q, numOf (x.a + (1 : Int)), textOf x.key, textOf x.to, numOf x.lim]).length ≤ (140737488355328 : Nat)) ∧
 (((0 : Int) ≤ (192 : Int) ∧
 (192 : Int) ≤ (192 : Int)) ∧
 (0 : Int) ≤ (↑(flat [numOf (0 : Int), numOf x.k, numOf x.s, numOf x.q, numOf (x.a + (1 : Int)), textOf x.key, textOf x.to, numOf x.lim]).length : Int) ∧
 (↑(flat [numOf (0 : Int), numOf x.k, numOf x.s, numOf x.q, numOf (x.a + (1 : Int)), textOf x.key, textOf x.to, numOf x.lim]).length : Int) < (1152921504606846976 : Int)) ∧
 (↑(headOf (192 : Int) (↑(flat [numOf (0 : Int), numOf x.k, numOf x.s, numOf x.q, numOf (x.a + (1 : Int)), textOf x.key, textOf x.to, numOf x.lim]).length : Int).toNat).length : Int) + (↑(flat [numOf (0 : Int), numOf x.k, numOf x.s, numOf x.q, numOf (x.a + (1 : Int)), textOf x.key, textOf x.to, numOf x.lim]).length : Int) ≤ (9223372036854775807 : Int) ∧
 (x.ok = true →
 sameVal (SV.tup [SV.str false (cat (headOf (192 : Int) (↑(flat [numOf (0 : Int), numOf x.k, numOf x.s, numOf x.q, numOf (x.a + (1 : Int)), textOf x.key, textOf x.to, numOf x.lim]).length : Int).toNat) (flat [numOf (0 : Int), numOf x.k, numOf x.s, numOf x.q, numOf (x.a + (1 : Int)), textOf x.key, textOf x.to, numOf x.lim])), SV.int IntKind.i64 true (0 : Int)]) (SV.tup [SV.str false x.put, SV.int IntKind.i64 true (0 : Int)])) ∧
 (x.ok = false →
 sameVal (SV.tup [SV.str false (cat (headOf (192 : Int) (↑(flat [numOf (0 : Int), numOf x.k, numOf x.s, numOf x.q, numOf (x.a + (1 : Int)), textOf x.key, textOf x.to, numOf x.lim]).length : Int).toNat) (flat [numOf (0 : Int), numOf x.k, numOf x.s, numOf x.q, numOf (x.a + (1 : Int)), textOf x.key, textOf x.to, numOf x.lim])), SV.int IntKind.i64 true (0 : Int)]) (SV.tup [SV.str true [], SV.int IntKind.i64 true (1 : Int)])))) := by kernel_rfl
end Go.Proofs.YtocikfhejpilaaaGreatDoor
/-
  Frame: PutAsk: the contract.
-/
namespace Go.Proofs.YtocikfhejpilaaaGreatDoor
open Go Sx
set_option maxRecDepth 20000

theorem inRange_iff {n a b : Int} : inRange n a b = true ↔ a ≤ n ∧ n ≤ b := by simp [inRange]
/-- What may be is small. -/
structure Ak.Small (x : Ak) : Prop where
  k : 0 ≤ x.k ∧ x.k ≤ 9
  s : 0 ≤ x.s ∧ x.s ≤ 1048576
  q : 1 ≤ x.q ∧ x.q ≤ 1048576
  a : -1 ≤ x.a ∧ x.a ≤ 1048576
  key : x.key.length ≤ 6
  to : x.to.length ≤ 6
  lim : 0 ≤ x.lim ∧ x.lim ≤ 8
theorem Ak.ok_small {x : Ak} (h : x.ok = true) : x.Small := by
  unfold Ak.ok at h
  simp only [Bool.and_eq_true, decide_eq_true_eq] at h
  obtain ⟨⟨⟨⟨⟨⟨h1, h2⟩, h3⟩, h4⟩, h5⟩, h6⟩, h7⟩ := h
  rw [inRange_iff] at h1 h2
  refine ⟨h1, ?_, h2, ?_, ?_, ?_, ?_⟩
  · by_cases e : x.k = 0
    · rw [decide_eq_true e] at h3; simp only [cond_true, decide_eq_true_eq] at h3; omega
    · rw [decide_eq_false e] at h3; simp only [cond_false] at h3; rw [inRange_iff] at h3; omega
  · cases e : roomAt x.k with
    | true => rw [e] at h4; simp only [cond_true] at h4; rw [inRange_iff] at h4; exact h4
    | false => rw [e] at h4; simp only [cond_false, decide_eq_true_eq] at h4; omega
  · have : roomKey x.k ≤ 6 := by unfold roomKey; cases inRange x.k 1 4 <;> simp
    omega
  · have : roomTo x.k ≤ 6 := by unfold roomTo; cases decide (x.k = 4) <;> simp
    omega
  · cases e : roomLim x.k with
    | true => rw [e] at h7; simp only [cond_true] at h7; rw [inRange_iff] at h7; omega
    | false => rw [e] at h7; simp only [cond_false, decide_eq_true_eq] at h7; omega
theorem numOf_zero : numOf 0 = [128] := by decide
theorem numOf_len (n : Int) : (numOf n).length ≤ 17 := by
  have := text_len (digits n)
  have := digits_len n
  unfold numOf; omega
theorem flat_len {l : List (List UInt8)} {m : Nat} (h : ∀ x ∈ l, x.length ≤ m) : (flat l).length ≤ l.length * m := by
  induction l with
  | nil => simp [flat]
  | cons a r ih =>
    have h1 := h a (by simp)
    have h2 := ih fun x hx => h x (by simp [hx])
    have : flat (a :: r) = a ++ flat r := by simp [flat]
    rw [this, List.length_append, List.length_cons, Nat.add_mul]; omega
def Ak.items (x : Ak) : List (List UInt8) := [numOf 0, numOf x.k, numOf x.s, numOf x.q, numOf (x.a + 1), textOf x.key, textOf x.to, numOf x.lim]
theorem Ak.put_eq (x : Ak) : x.put = listOf x.items := rfl
theorem Ak.items_len {x : Ak} (h : x.Small) : (flat x.items).length ≤ 136 := by
  have h1 := text_len x.key
  have h2 := text_len x.to
  have := h.key
  have := h.to
  refine flat_len (l := x.items) (m := 17) fun y hy => ?_
  simp only [Ak.items, List.mem_cons, List.not_mem_nil, or_false] at hy
  rcases hy with rfl | rfl | rfl | rfl | rfl | rfl | rfl | rfl
  all_goals first
    | exact numOf_len _
    | omega
theorem put_holds (x : Ak) : Holds (runA cfgF2 7 Tryz.f7 [x.sv] (putA x)) := by
  refine Holds.of_eq (vcFPut x) ?_
  cases hx : x.ok with
  | false => exact ⟨trivial, fun _ => ⟨(fun h => by cases h), fun _ _ => rfl⟩, fun h => by cases h⟩
  | true =>
    have hs := Ak.ok_small hx
    have hl := Ak.items_len hs
    have hh := head_len 192 (flat x.items).length
    obtain ⟨h1, h2, h3, h4, h5, h6, h7⟩ := hs
    have e : flat [numOf 0, numOf x.k, numOf x.s, numOf x.q, numOf (x.a + 1), textOf x.key, textOf x.to, numOf x.lim] = flat x.items := rfl
    simp only [e, Int.toNat_natCast]
    generalize hL : (flat x.items).length = L at *
    refine ⟨trivial, (fun h => by cases h), fun _ => ?_⟩
    repeat' first
      | apply And.intro
      | intro (_ : _ = true)
      | intro (_ : _ = false)
      | intro (_ : True)
    all_goals first
      | trivial
      | rfl
      | omega
      | (exfalso; simp_all; done)
      | (intro E; rw [Ak.put_eq, listOf, hL]; rfl)
def fputSpec : List SV → Option (Prop × Ans)
  | [.agg l] => (match askOfSV l with
    | some x => some (True, putA x)
    | none => none)
  | _ => none
theorem fput_ok : CallOk Tryz.prog 7 (ansPT fputSpec) := by
  refine ans_ok (n := 20) (fn := Tryz.f7) Tryz.func7 (by kernel_rfl) (by kernel_rfl) ?_
  intro args p a h hp
  unfold fputSpec at h
  split at h
  · split at h
    · rename_i l x hx
      injection h with h; injection h with h1 h2; subst h1; subst h2
      rw [askOfSV_eq hx]
      refine ⟨_, goodF2, rfl, fun b => ?_, put_holds x⟩
      cases b <;> exact rfl
    · cases h
  · cases h
noncomputable def listF3 : List (FuncId × PT) := (7, ansPT fputSpec) :: listF2
theorem listF3_ok : SummOk Tryz.prog (fun f => lookPT f listF3) := .cons fput_ok (ansPT_mono _) listF2_ok
noncomputable def cfgF3 : Cfg := { cfg0 with summ := fun f => lookPT f listF3 }
theorem goodF3 : Sx.Good Tryz.prog cfgF3 := ⟨mixes, listF3_ok, fns_ok⟩
end Go.Proofs.YtocikfhejpilaaaGreatDoor
/-
  Frame: the ask that bytes are: the set-up.
-/
namespace Go.Proofs.YtocikfhejpilaaaGreatDoor
open Go Sx
set_option maxRecDepth 20000

def itOf (s : List UInt8) (j : Nat) : List UInt8 := itemAt (cutIn s) j
def numI (t : List UInt8) : Int := num (cutIn t)
/-- The ask that bytes would be. -/
def askD (s : List UInt8) : Ak := ⟨numI (itOf s 1), numI (itOf s 2), numI (itOf s 3), numI (itOf s 4) - 1, cutIn (itOf s 5), cutIn (itOf s 6), numI (itOf s 7)⟩
def getAskB (s : List UInt8) : Bool := (askD s).ok && decide ((askD s).put = s)
def getAskA (s : List UInt8) : Ans := .fork (getAskB s) fun b => match b with
  | true => .ret (.tup [(askD s).sv, .int .i64 true 0])
  | false => .ret (.tup [.agg [.int .i64 true 0, .int .i64 true 0, .int .i64 true 0, .int .i64 true 0, .str true [], .str true [], .int .i64 true 0], .int .i64 true 2])
end Go.Proofs.YtocikfhejpilaaaGreatDoor
/-
  Frame: plain laws: an ask's bytes tell the ask.
-/
namespace Go.Proofs.YtocikfhejpilaaaGreatDoor
open Go Sx
set_option maxRecDepth 20000

theorem numOf_get {n : Int} (h0 : 0 ≤ n) (h : n < 18446744073709551616) : getB (numOf n) = true ∧ cutB (numOf n) = true ∧ cutL (numOf n) = false ∧ cutRest (numOf n) = [] ∧ numI (numOf n) = n := by
  obtain ⟨h1, h2⟩ := getB_num h0 h
  obtain ⟨g1, g2, g3, _⟩ := getB_iff.1 h1
  exact ⟨h1, g1, g2, g3, by unfold numI numOf; rw [h2, digits_num h0 h]⟩
theorem textOf_get {b : List UInt8} (h : b.length ≤ 1048576) : cutB (textOf b) = true ∧ cutL (textOf b) = false ∧ cutRest (textOf b) = [] ∧ cutIn (textOf b) = b := by
  obtain ⟨h1, h2, h3⟩ := text_one h
  have := (text_cut h []).2.2.1
  rw [List.append_nil] at this
  exact ⟨h1, h2, h3, this⟩
theorem Ak.whole {x : Ak} (h : x.Small) : ∀ y ∈ x.items, cutB y = true ∧ cutRest y = [] := by
  obtain ⟨h1, h2, h3, h4, h5, h6, h7⟩ := h
  have N : ∀ n : Int, 0 ≤ n → n < 18446744073709551616 → cutB (numOf n) = true ∧ cutRest (numOf n) = [] := fun n a b => ⟨(numOf_get a b).2.1, (numOf_get a b).2.2.2.1⟩
  have T : ∀ b : List UInt8, b.length ≤ 1048576 → cutB (textOf b) = true ∧ cutRest (textOf b) = [] := fun b a => ⟨(textOf_get a).1, (textOf_get a).2.2.1⟩
  intro y hy
  simp only [Ak.items, List.mem_cons, List.not_mem_nil, or_false] at hy
  rcases hy with rfl | rfl | rfl | rfl | rfl | rfl | rfl | rfl
  all_goals first
    | exact N _ (by omega) (by omega)
    | exact T _ (by omega)
/-- What an ask's bytes are cut into. -/
structure Ak.Cut (x : Ak) : Prop where
  b : cutB x.put = true
  l : cutL x.put = true
  r : cutRest x.put = []
  ib : itemsB (cutIn x.put) = true
  n : itemsN (cutIn x.put) = 8
  i0 : itemAt (cutIn x.put) 0 = numOf 0
  i1 : itemAt (cutIn x.put) 1 = numOf x.k
  i2 : itemAt (cutIn x.put) 2 = numOf x.s
  i3 : itemAt (cutIn x.put) 3 = numOf x.q
  i4 : itemAt (cutIn x.put) 4 = numOf (x.a + 1)
  i5 : itemAt (cutIn x.put) 5 = textOf x.key
  i6 : itemAt (cutIn x.put) 6 = textOf x.to
  i7 : itemAt (cutIn x.put) 7 = numOf x.lim
theorem Ak.cut {x : Ak} (h : x.Small) : x.Cut := by
  have hl := Ak.items_len h
  obtain ⟨h1, h2, h3, h4⟩ := list_cut (l := x.items) (by omega) []
  rw [List.append_nil] at h1 h2 h3 h4
  have e : headOf 192 (flat x.items).length ++ flat x.items = x.put := rfl
  rw [e] at h1 h2 h3 h4
  obtain ⟨g1, g2, g3⟩ := flat_items x.items (Ak.whole h)
  refine ⟨h1, h2, h4, by rw [h3]; exact g1, by rw [h3, g2]; rfl, ?_, ?_, ?_, ?_, ?_, ?_, ?_, ?_⟩ <;> rw [h3] <;> exact g3 _ _ rfl
theorem askD_put {x : Ak} (h : x.Small) : askD x.put = x := by
  have c := Ak.cut h
  obtain ⟨h1, h2, h3, h4, h5, h6, h7⟩ := h
  unfold askD itOf
  rw [c.i1, c.i2, c.i3, c.i4, c.i5, c.i6, c.i7, (numOf_get (n := x.k) (by omega) (by omega)).2.2.2.2, (numOf_get (n := x.s) (by omega) (by omega)).2.2.2.2, (numOf_get (n := x.q) (by omega) (by omega)).2.2.2.2,
    (numOf_get (n := x.a + 1) (by omega) (by omega)).2.2.2.2, (numOf_get (n := x.lim) (by omega) (by omega)).2.2.2.2, (textOf_get (b := x.key) (by omega)).2.2.2, (textOf_get (b := x.to) (by omega)).2.2.2, Int.add_sub_cancel]
theorem getAskB_iff {s : List UInt8} : getAskB s = true ↔ ∃ x : Ak, x.ok = true ∧ x.put = s := by
  unfold getAskB
  simp only [Bool.and_eq_true, decide_eq_true_eq]
  constructor
  · rintro ⟨h1, h2⟩; exact ⟨_, h1, h2⟩
  · rintro ⟨x, h1, rfl⟩
    rw [askD_put (Ak.ok_small h1)]
    exact ⟨h1, rfl⟩
end Go.Proofs.YtocikfhejpilaaaGreatDoor
