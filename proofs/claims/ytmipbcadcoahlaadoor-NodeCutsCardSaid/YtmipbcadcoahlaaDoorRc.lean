/-
  Conditions that the executor computes, written out by a program (vcgen.py).
-/
import Derived.Test.YtmipbcadcoahlaaDoorRa
import Derived.Test.YtmipbcadcoahlaaDoorRb
namespace Go.Proofs.YtmipbcadcoahlaaDoor
open Go Sx
set_option maxRecDepth 20000

theorem vcLBack (x : Nd) (s : List UInt8) : VC.holds (runA cfgL1 3 Tryd.f3 [x.sv, .str false s] yes) = (True ∧
 True ∧
 ((!fewB { k := x.k, p := x.p, v := x.v, r := fun (i : Nat) => [x.r 0, x.r 1, x.r 2, x.r 3, x.r 4, x.r 5, x.r 6, x.r 7, x.r 8, x.r 9, x.r 10, x.r 11, x.r 12, x.r 13, x.r 14, x.r 15].getD i [] : Nd }) = true →
 sameVal (SV.bool true true) (SV.bool false true)) ∧
 ((!fewB { k := x.k, p := x.p, v := x.v, r := fun (i : Nat) => [x.r 0, x.r 1, x.r 2, x.r 3, x.r 4, x.r 5, x.r 6, x.r 7, x.r 8, x.r 9, x.r 10, x.r 11, x.r 12, x.r 13, x.r 14, x.r 15].getD i [] : Nd }) = false →
 (decide ((1000 : Int) < (↑s.length : Int)) = true →
 sameVal (SV.bool true true) (SV.bool false true)) ∧
 (decide ((1000 : Int) < (↑s.length : Int)) = false →
 Fits { k := x.k, p := x.p, v := x.v, r := fun (i : Nat) => [x.r 0, x.r 1, x.r 2, x.r 3, x.r 4, x.r 5, x.r 6, x.r 7, x.r 8, x.r 9, x.r 10, x.r 11, x.r 12, x.r 13, x.r 14, x.r 15].getD i [] : Nd } ∧
 (validB { k := x.k, p := x.p, v := x.v, r := fun (i : Nat) => [x.r 0, x.r 1, x.r 2, x.r 3, x.r 4, x.r 5, x.r 6, x.r 7, x.r 8, x.r 9, x.r 10, x.r 11, x.r 12, x.r 13, x.r 14, x.r 15].getD i [] : Nd } = true →
 ((putT { k := x.k, p := x.p, v := x.v, r := fun (i : Nat) => [x.r 0, x.r 1, x.r 2, x.r 3, x.r 4, x.r 5, x.r 6, x.r 7, x.r 8, x.r 9, x.r 10, x.r 11, x.r 12, x.r 13, x.r 14, x.r 15].getD i [] : Nd }).length ≤ (9223372036854775808 : Nat) ∧
 (putT { k := x.k, p := x.p, v := x.v, r := fun (i : Nat) => [x.r 0, x.r 1, x.r 2, x.r 3, x.r 4, x.r 5, x.r 6, x.r 7, x.r 8, x.r 9, x.r 10, x.r 11, x.r 12, x.r 13, x.r 14, x.r 15].getD i [] : Nd }).length < (1099511627776 : Nat)) ∧
 (getB' (putT { k := x.k, p := x.p, v := x.v, r := fun (i : Nat) => [x.r 0, x.r 1, x.r 2, x.r 3, x.r 4, x.r 5, x.r 6, x.r 7, x.r 8, x.r 9, x.r 10, x.r 11, x.r 12, x.r 13, x.r 14, x.r 15].getD i [] : Nd }) = true →
 (RelR 9223372036854775808 fun (i : Nat) => [x.r 0, x.r 1, x.r 2, x.r 3, x.r 4, x.r 5, x.r 6, x.r 7, x.r 8, x.r 9, x.r 10, x.r 11, x.r 12, x.r 13, x.r 14, x.r 15].getD i []) ∧
 ((!decide ((0 : Int) = (0 : Int)) == validB { k := x.k, p := x.p, v := x.v, r := fun (i : Nat) => [x.r 0, x.r 1, x.r 2, x.r 3, x.r 4, x.r 5, x.r 6, x.r 7, x.r 8, x.r 9, x.r 10, x.r 11, x.r 12, x.r 13, x.r 14, x.r 15].getD i [] : Nd }) = true →
 sameVal (SV.bool true false) (SV.bool false true)) ∧
 ((!decide ((0 : Int) = (0 : Int)) == validB { k := x.k, p := x.p, v := x.v, r := fun (i : Nat) => [x.r 0, x.r 1, x.r 2, x.r 3, x.r 4, x.r 5, x.r 6, x.r 7, x.r 8, x.r 9, x.r 10, x.r 11, x.r 12, x.r 13, x.r 14, x.r 15].getD i [] : Nd }) = false →
 ((!(decide ((getD (putT { k := x.k, p := x.p, v := x.v, r := fun (i : Nat) => [x.r 0, x.r 1, x.r 2, x.r 3, x.r 4, x.r 5, x.r 6, x.r 7, x.r 8, x.r 9, x.r 10, x.r 11, x.r 12, x.r 13, x.r 14, x.r 15].getD i [] : Nd })).k = x.k) && (decide ((getD (putT { k := x.k, p := x.p, v := x.v, r := fun (i : Nat) => [x.r 0, x.r 1, x.r 2, x.r 3, x.r 4, x.r 5, x.r 6, x.r 7, x.r 8, x.r 9, x.r 10, x.r 11, x.r 12, x.r 13, x.r 14, x.r 15].getD i [] : Nd })).p = x.p) && (decide ((getD (putT { k := x.k, p := x.p, v := x.v, r := fun (i : Nat) => [x.r 0, x.r 1, x.r 2, x.r 3, x.r 4, x.r 5, x.r 6, x.r 7, x.r 8, x.r 9, x.r 10, x.r 11, x.r 12, x.r 13, x.r 14, x.r 15].getD i [] : Nd })).v = x.v) && (decide ((getD (putT { k := x.k, p := x.p, v := x.v, r := fun (i : Nat) => [x.r 0, x.r 1, x.r 2, x.r 3, x.r 4, x.r 5, x.r 6, x.r 7, x.r 8, x.r 9, x.r 10, x.r 11, x.r 12, x.r 13, x.r 14, x.r 15].getD i [] : Nd })).r (0 : Nat) = x.r 0) && (decide ((getD (putT { k := x.k, p := x.p, v := x.v, r := fun (i : Nat) => [x.r 0, x.r 1, x.r 2, x.r 3, x.r 4, x.r 5, x.r 6, x.r 7, x.r 8, x.r 9, x.r 10, x.r 11, x.r 12, x.r 13, x.r 14, x.r 15].getD i [] : Nd })).r (1 : Nat) = x.r 1) && (decide ((getD (putT { k := x.k, p := x.p, v := x.v, r := fun (i : Nat) => [x.r 0, x.r 1, x.r 2, x.r 3, x.r 4, x.r 5, x.r 6, x.r 7, x.r 8, x.r 9, x.r 10, x.r 11, x.r 12, x.r 13, x.r 14, x.r 15].getD i [] : Nd })).r (2 : Nat) = x.r 2) && (decide ((getD (putT { k := x.k, p := x.p, v := x.v, r := fun (i : Nat) => [x.r 0, x.r 1, x.r 2, x.r 3, x.r 4, x.r 5, x.r 6, x.r 7, x.r 8, x.r 9, x.r 10, x.r 11, x.r 12, x.r 13, x.r 14, x.r 15].getD i [] : Nd })).r (3 : Nat) = x.r 3) && (decide ((getD (putT { k := x.k, p := x.p, v := x.v, r := fun (i : Nat) => [x.r 0, x.r 1, x.r 2, x.r 3, x.r 4, x.r 5, x.r 6, x.r 7, x.r 8, x.r 9, x.r 10, x.r 11, x.r 12, x.r 13, x.r 14, x.r 15].getD i [] : Nd })).r (4 : Nat) = x.r 4) && (decide ((getD (putT { k := x.k, p := x.p, v := x.v, r := fun (i : Nat) => [x.r 0, x.r 1, x.r 2, x.r 3, x.r 4, x.r 5, x.r 6, x.r 7, x.r 8, x.r 9, x.r 10, x.r 11, x.r 12, x.r 13, x.r 14, x.r 15].getD i [] : Nd })).r (5 : Nat) = x.r 5) && (decide ((getD (putT { k := x.k, p := x.p, v := x.v, r := fun (i : Nat) => [x.r 0, x.r 1, x.r 2, x.r 3, x.r 4, x.r 5, x.r 6, x.r 7, x.r 8, x.r 9, x.r 10, x.r 11, x.r 12, x.r 13, x.r 14, x.r 15].getD i [] : Nd })).r (6 : Nat) = x.r 6) && (decide ((getD (putT { k := x.k, p := x.p, v := x.v, r := fun (i : Nat) => [x.r 0, x.r 1, x.r 2, x.r 3, x.r 4, x.r 5, x.r 6, x.r 7, x.r 8, x.r 9, x.r 10, x.r 11, x.r 12, x.r 13, x.r 14, x.r 15].getD i [] : Nd })).r (7 : Nat) = x.r 7) && (decide ((getD (putT { k := x.k, p := x.p, v := x.v, r := fun (i : Nat) => [x.r 0, x.r 1, x.r 2, x.r 3, x.r 4, x.r 5, x.r 6, x.r 7, x.r 8, x.r 9, x.r 10, x.r 11, x.r 12, x.r 13, x.r 14, x.r 15].getD i [] : Nd })).r (8 : Nat) = x.r 8) && (decide ((getD (putT { k := x.k, p := x.p, v := x.v, r := fun (i : Nat) => [x.r 0, x.r 1, x.r 2, x.r 3, x.r 4, x.r 5, x.r 6, x.r 7, x.r 8, x.r 9, x.r 10, x.r 11, x.r 12, x.r 13, x.r 14, x.r 15].getD i [] : Nd })).r (9 : Nat) = x.r 9) && (decide ((getD (putT { k := x.k, p := x.p, v := x.v, r := fun (i : Nat) => [x.r 0, x.r 1, x.r 2, x.r 3, x.r 4, x.r 5, x.r 6, x.r 7, x.r 8, x.r 9, x.r 10, x.r 11, x.r 12, x.r 13, x.r 14, x.r 15].getD i [] : Nd })).r (10 : Nat) = x.r 10) && (decide ((getD (putT { k := x.k, p := x.p, v := x.v, r := fun (i : Nat) => [x.r 0, x.r 1, x.r 2, x.r 3, x.r 4, x.r 5, x.r 6, x.r 7, x.r 8, x.r 9, x.r 10, x.r 11, x.r 12, x.r 13, x.r 14, x.r 15].getD i [] : Nd })).r (11 : Nat) = x.r 11) && (decide ((getD (putT { k := x.k, p := x.p, v := x.v, r := fun (i : Nat) => [x.r 0, x.r 1, x.r 2, x.r 3, x.r 4, x.r 5, x.r 6, x.r 7, x.r 8, x.r 9, x.r 10, x.r 11, x.r 12, x.r 13, x.r 14, x.r 15].getD i [] : Nd })).r (12 : Nat) = x.r 12) && (decide ((getD (putT { k := x.k, p := x.p, v := x.v, r := fun (i : Nat) => [x.r 0, x.r 1, x.r 2, x.r 3, x.r 4, x.r 5, x.r 6, x.r 7, x.r 8, x.r 9, x.r 10, x.r 11, x.r 12, x.r 13, x.r 14, x.r 15].getD i [] : Nd })).r (13 : Nat) = x.r 13) && (decide ((getD (putT { k := x.k, p := x.p, v := x.v, r := fun (i : Nat) => [x.r 0, x.r 1, x.r 2, x.r 3, x.r 4, x.r 5, x.r 6, x.r 7, x.r 8, x.r 9, x.r 10, x.r 11, x.r 12, x.r 13, x.r 14, x.r 15].getD i [] : Nd })).r (14 : Nat) = x.r 14) && (decide ((getD (putT { k := x.k, p := x.p, v := x.v, r := fun (i : Nat) => [x.r 0, x.r 1, x.r 2, x.r 3, x.r 4, x.r 5, x.r 6, x.r 7, x.r 8, x.r 9, x.r 10, x.r 11, x.r 12, x.r 13, x.r 14, x.r 15].getD i [] : Nd })).r (15 : Nat) = x.r 15) && true))))))))))))))) && true))))) = true →
 sameVal (SV.bool true false) (SV.bool false true)) ∧
 ((!(decide ((getD (putT { k := x.k, p := x.p, v := x.v, r := fun (i : Nat) => [x.r 0, x.r 1, x.r 2, x.r 3, x.r 4, x.r 5, x.r 6, x.r 7, x.r 8, x.r 9, x.r 10, x.r 11, x.r 12, x.r 13, x.r 14, x.r 15].getD i [] : Nd })).k = x.k) && (decide ((getD (putT { k := x.k, p := x.p, v := x.v, r := fun (i : Nat) => [x.r 0, x.r 1, x.r 2, x.r 3, x.r 4, x.r 5, x.r 6, x.r 7, x.r 8, x.r 9, x.r 10, x.r 11, x.r 12, x.r 13, x.r 14, x.r 15].getD i [] : Nd })).p = x.p) && (decide ((getD (putT { k := x.k, p := x.p, v := x.v, r := fun (i : Nat) => [x.r 0, x.r 1, x.r 2, x.r 3, x.r 4, x.r 5, x.r 6, x.r 7, x.r 8, x.r 9, x.r 10, x.r 11, x.r 12, x.r 13, x.r 14, x.r 15].getD i [] : Nd })).v = x.v) && (decide ((getD (putT { k := x.k, p := x.p, v := x.v, r := fun (i : Nat) => [x.r 0, x.r 1, x.r 2, x.r 3, x.r 4, x.r 5, x.r 6, x.r 7, x.r 8, x.r 9, x.r 10, x.r 11, x.r 12, x.r 13, x.r 14, x.r 15].getD i [] : Nd })).r (0 : Nat) = x.r 0) && (decide ((getD (putT { k := x.k, p := x.p, v := x.v, r := fun (i : Nat) => [x.r 0, x.r 1, x.r 2, x.r 3, x.r 4, x.r 5, x.r 6, x.r 7, x.r 8, x.r 9, x.r 10, x.r 11, x.r 12, x.r 13, x.r 14, x.r 15].getD i [] : Nd })).r (1 : Nat) = x.r 1) && (decide ((getD (putT { k := x.k, p := x.p, v := x.v, r := fun (i : Nat) => [x.r 0, x.r 1, x.r 2, x.r 3, x.r 4, x.r 5, x.r 6, x.r 7, x.r 8, x.r 9, x.r 10, x.r 11, x.r 12, x.r 13, x.r 14, x.r 15].getD i [] : Nd })).r (2 : Nat) = x.r 2) && (decide ((getD (putT { k := x.k, p := x.p, v := x.v, r := fun (i : Nat) => [x.r 0, x.r 1, x.r 2, x.r 3, x.r 4, x.r 5, x.r 6, x.r 7, x.r 8, x.r 9, x.r 10, x.r 11, x.r 12, x.r 13, x.r 14, x.r 15].getD i [] : Nd })).r (3 : Nat) = x.r 3) && (decide ((getD (putT { k := x.k, p := x.p, v := x.v, r := fun (i : Nat) => [x.r 0, x.r 1, x.r 2, x.r 3, x.r 4, x.r 5, x.r 6, x.r 7, x.r 8, x.r 9, x.r 10, x.r 11, x.r 12, x.r 13, x.r 14, x.r 15].getD i [] : Nd })).r (4 : Nat) = x.r 4) && (decide ((getD (putT { k := x.k, p := x.p, v := x.v, r := fun (i : Nat) => [x.r 0, x.r 1, x.r 2, x.r 3, x.r 4, x.r 5, x.r 6, x.r 7, x.r 8, x.r 9, x.r 10, x.r 11, x.r 12, x.r 13, x.r 14, x.r 15].getD i [] : Nd })).r (5 : Nat) = x.r 5) && (decide ((getD (putT { k := x.k, p := x.p, v := x.v, r := fun (i : Nat) => [x.r 0, x.r 1, x.r 2, x.r 3, x.r 4, x.r 5, x.r 6, x.r 7, x.r 8, x.r 9, x.r 10, x.r 11, x.r 12, x.r 13, x.r 14, x.r 15].getD i [] : Nd })).r (6 : Nat) = x.r 6) && (decide ((getD (putT { k := x.k, p := x.p, v := x.v, r := fun (i : Nat) => [x.r 0, x.r 1, x.r 2, x.r 3, x.r 4, x.r 5, x.r 6, x.r 7, x.r 8, x.r 9, x.r 10, x.r 11, x.r 12, x.r 13, x.r 14, x.r 15].getD i [] : Nd })).r (7 : Nat) = x.r 7) && (decide ((getD (putT { k := x.k, p := x.p, v := x.v, r := fun (i : Nat) => [x.r 0, x.r 1, x.r 2, x.r 3, x.r 4, x.r 5, x.r 6, x.r 7, x.r 8, x.r 9, x.r 10, x.r 11, x.r 12, x.r 13, x.r 14, x.r 15].getD i [] : Nd })).r (8 : Nat) = x.r 8) && (decide ((getD (putT { k := x.k, p := x.p, v := x.v, r := fun (i : Nat) => [x.r 0, x.r 1, x.r 2, x.r 3, x.r 4, x.r 5, x.r 6, x.r 7, x.r 8, x.r 9, x.r 10, x.r 11, x.r 12, x.r 13, x.r 14, x.r 15].getD i [] : Nd })).r (9 : Nat) = x.r 9) && (decide ((getD (putT { k := x.k, p := x.p, v := x.v, r := fun (i : Nat) => [x.r 0, x.r 1, x.r 2, x.r 3, x.r 4, x.r 5, x.r 6, x.r 7, x.r 8, x.r 9, x.r 10, x.r 11, x.r 12, x.r 13, x.r 14, x.r 15].getD i [] : Nd })).r (10 : Nat) = x.r 10) && (decide ((getD (putT { k := x.k, p := x.p, v := x.v, r := fun (i : Nat) => [x.r 0, x.r 1, x.r 2, x.r 3, x.r 4, x.r 5, x.r 6, x.r 7, x.r 8, x.r 9, x.r 10, x.r 11, x.r 12, x.r 13, x.r 14, x.r 15].getD i [] : Nd })).r (11 : Nat) = x.r 11) && (decide ((getD (putT { k := x.k, p := x.p, v := x.v, r := fun (i : Nat) => [x.r 0, x.r 1, x.r 2, x.r 3, x.r 4, x.r 5, x.r 6, x.r 7, x.r 8, x.r 9, x.r 10, x.r 11, x.r 12, x.r 13, x.r 14, x.r 15].getD i [] : Nd })).r (12 : Nat) = x.r 12) && (decide ((getD (putT { k := x.k, p := x.p, v := x.v, r := fun (i : Nat) => [x.r 0, x.r 1, x.r 2, x.r 3, x.r 4, x.r 5, x.r 6, x.r 7, x.r 8, x.r 9, x.r 10, x.r 11, x.r 12, x.r 13, x.r 14, x.r 15].getD i [] : Nd })).r (13 : Nat) = x.r 13) && (decide ((getD (putT { k := x.k, p := x.p, v := x.v, r := fun (i : Nat) => [x.r 0, x.r 1, x.r 2, x.r 3, x.r 4, x.r 5, x.r 6, x.r 7, x.r 8, x.r 9, x.r 10, x.r 11, x.r 12, x.r 13, x.r 14, x.r 15].getD i [] : Nd })).r (14 : Nat) = x.r 14) && (decide ((getD (putT { k := x.k, p := x.p, v := x.v, r := fun (i : Nat) => [x.r 0, x.r 1, x.r 2, x.r 3, x.r 4, x.r 5, x.r 6, x.r 7, x.r 8, x.r 9, x.r 10, x.r 11, x.r 12, x.r 13, x.r 14, x.r 15].getD i [] : Nd })).r (15 : Nat) = x.r 15) && true))))))))))))))) && true))))) = false →
 (s.length ≤ (9223372036854775808 : Nat) ∧
 s.length < (1099511627776 : Nat)) ∧
 (getB' s = true →
 Fits { k := (getD s).k, p := (getD s).p, v := (getD s).v, r := fun (i : Nat) => [(getD s).r 0, (getD s).r 1, (getD s).r 2, (getD s).r 3, (getD s).r 4, (getD s).r 5, (getD s).r 6, (getD s).r 7, (getD s).r 8, (getD s).r 9, (getD s).r 10, (getD s).r 11, (getD s).r 12, (getD s).r 13, (getD s).r 14, (getD s).r 15].getD i [] : Nd } ∧
 (validB { k := (getD s).k, p := (getD s).p, v := (getD s).v, r := fun (i : Nat) => [(getD s).r 0, (getD s).r 1, (getD s).r 2, (getD s).r 3, (getD s).r 4, (getD s).r 5, (getD s).r 6, (getD s).r 7, (getD s).r 8, (getD s).r 9, (getD s).r 10, (getD s).r 11, (getD s).r 12, (getD s).r 13, (getD s).r 14, (getD s).r 15].getD i [] : Nd } = true →
 (decide (putT { k := (getD s).k, p := (getD s).p, v := (getD s).v, r := fun (i : Nat) => [(getD s).r 0, (getD s).r 1, (getD s).r 2, (getD s).r 3, (getD s).r 4, (getD s).r 5, (getD s).r 6, (getD s).r 7, (getD s).r 8, (getD s).r 9, (getD s).r 10, (getD s).r 11, (getD s).r 12, (getD s).r 13, (getD s).r 14, (getD s).r 15].getD i [] : Nd } = s) = true →
 (RelR 9223372036854775808 fun (i : Nat) => [(getD s).r 0, (getD s).r 1, (getD s).r 2, (getD s).r 3, (getD s).r 4, (getD s).r 5, (getD s).r 6, (getD s).r 7, (getD s).r 8, (getD s).r 9, (getD s).r 10, (getD s).r 11, (getD s).r 12, (getD s).r 13, (getD s).r 14, (getD s).r 15].getD i []) ∧
 sameVal (SV.bool false (validB { k := (getD s).k, p := (getD s).p, v := (getD s).v, r := fun (i : Nat) => [(getD s).r 0, (getD s).r 1, (getD s).r 2, (getD s).r 3, (getD s).r 4, (getD s).r 5, (getD s).r 6, (getD s).r 7, (getD s).r 8, (getD s).r 9, (getD s).r 10, (getD s).r 11, (getD s).r 12, (getD s).r 13, (getD s).r 14, (getD s).r 15].getD i [] : Nd })) (SV.bool false true)) ∧
 (decide (putT { k := (getD s).k, p := (getD s).p, v := (getD s).v, r := fun (i : Nat) => [(getD s).r 0, (getD s).r 1, (getD s).r 2, (getD s).r 3, (getD s).r 4, (getD s).r 5, (getD s).r 6, (getD s).r 7, (getD s).r 8, (getD s).r 9, (getD s).r 10, (getD s).r 11, (getD s).r 12, (getD s).r 13, (getD s).r 14, (getD s).r 15].getD i [] : Nd } = s) = false →
 sameVal (SV.bool true false) (SV.bool false true))) ∧
 (validB { k := (getD s).k, p := (getD s).p, v := (getD s).v, r := fun (i : Nat) => [(getD s).r 0, (getD s).r 1, (getD s).r 2, (getD s).r 3, (getD s).r 4, (getD s).r 5, (getD s).r 6, (getD s).r 7, (getD s).r 8, (getD s).r 9, (getD s).r 10, (getD s).r 11, (getD s).r 12, (getD s).r 13, (getD s).r 14, (getD s).r 15].getD i [] : Nd } = false →
 sameVal (SV.bool true false) (SV.bool false true))) ∧
 (getB' s = false →
 sameVal (SV.bool (true && (true && (true && (true && true)))) (decide ((0 : Int) = (0 : Int)) && (decide ( ([] : List UInt8) = []) && (decide ( ([] : List UInt8) = []) && (decide ( ([] : List UInt8) = []) && (decide ( ([] : List UInt8) = []) && (decide ( ([] : List UInt8) = []) && (decide ( ([] : List UInt8) = []) && (decide ( ([] : List UInt8) = []) && (decide ( ([] : List UInt8) = []) && (decide ( ([] : List UInt8) = []) && (decide ( ([] : List UInt8) = []) && (decide ( ([] : List UInt8) = []) && (decide ( ([] : List UInt8) = []) && (decide ( ([] : List UInt8) = []) && (decide ( ([] : List UInt8) = []) && (decide ( ([] : List UInt8) = []) && (decide ( ([] : List UInt8) = []) && (decide ( ([] : List UInt8) = []) && (decide ( ([] : List UInt8) = []) && true))))))))))))))) && true))))) (SV.bool false true))))) ∧
 (getB' (putT { k := x.k, p := x.p, v := x.v, r := fun (i : Nat) => [x.r 0, x.r 1, x.r 2, x.r 3, x.r 4, x.r 5, x.r 6, x.r 7, x.r 8, x.r 9, x.r 10, x.r 11, x.r 12, x.r 13, x.r 14, x.r 15].getD i [] : Nd }) = false →
 (RelR 9223372036854775808 fun (i : Nat) => [x.r 0, x.r 1, x.r 2, x.r 3, x.r 4, x.r 5, x.r 6, x.r 7, x.r 8, x.r 9, x.r 10, x.r 11, x.r 12, x.r 13, x.r 14, x.r 15].getD i []) ∧
 ((!decide ((0 : Int) = (0 : Int)) == validB { k := x.k, p := x.p, v := x.v, r := fun (i : Nat) => [x.r 0, x.r 1, x.r 2, x.r 3, x.r 4, x.r 5, x.r 6, x.r 7, x.r 8, x.r 9, x.r 10, x.r 11, x.r 12, x.r 13, x.r 14, x.r 15].getD i [] : Nd }) = true →
 sameVal (SV.bool true false) (SV.bool false true)) ∧
 ((!decide ((0 : Int) = (0 : Int)) == validB { k := x.k, p := x.p, v := x.v, r := fun (i : Nat) => [x.r 0, x.r 1, x.r 2, x.r 3, x.r 4, x.r 5, x.r 6, x.r 7, x.r 8, x.r 9, x.r 10, x.r 11, x.r 12, x.r 13, x.r 14, x.r 15].getD i [] : Nd }) = false →
 sameVal (SV.bool true false) (SV.bool false true)))) ∧
 (validB { k := x.k, p := x.p, v := x.v, r := fun (i : Nat) => [x.r 0, x.r 1, x.r 2, x.r 3, x.r 4, x.r 5, x.r 6, x.r 7, x.r 8, x.r 9, x.r 10, x.r 11, x.r 12, x.r 13, x.r 14, x.r 15].getD i [] : Nd } = false →
 ((0 : Nat) ≤ (9223372036854775808 : Nat) ∧
 (0 : Nat) < (1099511627776 : Nat)) ∧
 (RelR 9223372036854775808 fun (i : Nat) => [x.r 0, x.r 1, x.r 2, x.r 3, x.r 4, x.r 5, x.r 6, x.r 7, x.r 8, x.r 9, x.r 10, x.r 11, x.r 12, x.r 13, x.r 14, x.r 15].getD i []) ∧
 ((!decide ((1 : Int) = (0 : Int)) == validB { k := x.k, p := x.p, v := x.v, r := fun (i : Nat) => [x.r 0, x.r 1, x.r 2, x.r 3, x.r 4, x.r 5, x.r 6, x.r 7, x.r 8, x.r 9, x.r 10, x.r 11, x.r 12, x.r 13, x.r 14, x.r 15].getD i [] : Nd }) = true →
 sameVal (SV.bool true false) (SV.bool false true)) ∧
 ((!decide ((1 : Int) = (0 : Int)) == validB { k := x.k, p := x.p, v := x.v, r := fun (i : Nat) => [x.r 0, x.r 1, x.r 2, x.r 3, x.r 4, x.r 5, x.r 6, x.r 7, x.r 8, x.r 9, x.r 10, x.r 11, x.r 12, x.r 13, x.r 14, x.r 15].getD i [] : Nd }) = false →
 (s.length ≤ (9223372036854775808 : Nat) ∧
 s.length < (1099511627776 : Nat)) ∧
 (getB' s = true →
 Fits { k := (getD s).k, p := (getD s).p, v := (getD s).v, r := fun (i : Nat) => [(getD s).r 0, (getD s).r 1, (getD s).r 2, (getD s).r 3, (getD s).r 4, (getD s).r 5, (getD s).r 6, (getD s).r 7, (getD s).r 8, (getD s).r 9, (getD s).r 10, (getD s).r 11, (getD s).r 12, (getD s).r 13, (getD s).r 14, (getD s).r 15].getD i [] : Nd } ∧
 (validB { k := (getD s).k, p := (getD s).p, v := (getD s).v, r := fun (i : Nat) => [(getD s).r 0, (getD s).r 1, (getD s).r 2, (getD s).r 3, (getD s).r 4, (getD s).r 5, (getD s).r 6, (getD s).r 7, (getD s).r 8, (getD s).r 9, (getD s).r 10, (getD s).r 11, (getD s).r 12, (getD s).r 13, (getD s).r 14, (getD s).r 15].getD i [] : Nd } = true →
 (decide (putT { k := (getD s).k, p := (getD s).p, v := (getD s).v, r := fun (i : Nat) => [(getD s).r 0, (getD s).r 1, (getD s).r 2, (getD s).r 3, (getD s).r 4, (getD s).r 5, (getD s).r 6, (getD s).r 7, (getD s).r 8, (getD s).r 9, (getD s).r 10, (getD s).r 11, (getD s).r 12, (getD s).r 13, (getD s).r 14, (getD s).r 15].getD i [] : Nd } = s) = true →
 (RelR 9223372036854775808 fun (i : Nat) => [(getD s).r 0, (getD s).r 1, (getD s).r 2, (getD s).r 3, (getD s).r 4, (getD s).r 5, (getD s).r 6, (getD s).r 7, (getD s).r 8, (getD s).r 9, (getD s).r 10, (getD s).r 11, (getD s).r 12, (getD s).r 13, (getD s).r 14, (getD s).r 15].getD i []) ∧
 sameVal (SV.bool false (validB { k := (getD s).k, p := (getD s).p, v := (getD s).v, r := fun (i : Nat) => [(getD s).r 0, (getD s).r 1, (getD s).r 2, (getD s).r 3, (getD s).r 4, (getD s).r 5, (getD s).r 6, (getD s).r 7, (getD s).r 8, (getD s).r 9, (getD s).r 10, (getD s).r 11, (getD s).r 12, (getD s).r 13, (getD s).r 14, (getD s).r 15].getD i [] : Nd })) (SV.bool false true)) ∧
 (decide (putT { k := (getD s).k, p := (getD s).p, v := (getD s).v, r := fun (i : Nat) => [(getD s).r 0, (getD s).r 1, (getD s).r 2, (getD s).r 3, (getD s).r 4, (getD s).r 5, (getD s).r 6, (getD s).r 7, (getD s).r 8, (getD s).r 9, (getD s).r 10, (getD s).r 11, (getD s).r 12, (getD s).r 13, (getD s).r 14, (getD s).r 15].getD i [] : Nd } = s) = false →
 sameVal (SV.bool true false) (SV.bool false true))) ∧
 (validB { k := (getD s).k, p := (getD s).p, v := (getD s).v, r := fun (i : Nat) => [(getD s).r 0, (getD s).r 1, (getD s).r 2, (getD s).r 3, (getD s).r 4, (getD s).r 5, (getD s).r 6, (getD s).r 7, (getD s).r 8, (getD s).r 9, (getD s).r 10, (getD s).r 11, (getD s).r 12, (getD s).r 13, (getD s).r 14, (getD s).r 15].getD i [] : Nd } = false →
 sameVal (SV.bool true false) (SV.bool false true))) ∧
 (getB' s = false →
 sameVal (SV.bool (true && (true && (true && (true && true)))) (decide ((0 : Int) = (0 : Int)) && (decide ( ([] : List UInt8) = []) && (decide ( ([] : List UInt8) = []) && (decide ( ([] : List UInt8) = []) && (decide ( ([] : List UInt8) = []) && (decide ( ([] : List UInt8) = []) && (decide ( ([] : List UInt8) = []) && (decide ( ([] : List UInt8) = []) && (decide ( ([] : List UInt8) = []) && (decide ( ([] : List UInt8) = []) && (decide ( ([] : List UInt8) = []) && (decide ( ([] : List UInt8) = []) && (decide ( ([] : List UInt8) = []) && (decide ( ([] : List UInt8) = []) && (decide ( ([] : List UInt8) = []) && (decide ( ([] : List UInt8) = []) && (decide ( ([] : List UInt8) = []) && (decide ( ([] : List UInt8) = []) && (decide ( ([] : List UInt8) = []) && true))))))))))))))) && true))))) (SV.bool false true))))))) := by kernel_rfl
theorem vcLCuts (x : Nd) (a : Int) (s : List UInt8) : VC.holds (runA cfgL1 5 Tryd.f5 [x.sv, .int .u16 false a, .str false s] yes) = (True ∧
 True ∧
 Fits { k := x.k, p := x.p, v := x.v, r := fun (i : Nat) => [x.r 0, x.r 1, x.r 2, x.r 3, x.r 4, x.r 5, x.r 6, x.r 7, x.r 8, x.r 9, x.r 10, x.r 11, x.r 12, x.r 13, x.r 14, x.r 15].getD i [] : Nd } ∧
 (validB { k := x.k, p := x.p, v := x.v, r := fun (i : Nat) => [x.r 0, x.r 1, x.r 2, x.r 3, x.r 4, x.r 5, x.r 6, x.r 7, x.r 8, x.r 9, x.r 10, x.r 11, x.r 12, x.r 13, x.r 14, x.r 15].getD i [] : Nd } = true →
 ((!fewB { k := x.k, p := x.p, v := x.v, r := fun (i : Nat) => [x.r 0, x.r 1, x.r 2, x.r 3, x.r 4, x.r 5, x.r 6, x.r 7, x.r 8, x.r 9, x.r 10, x.r 11, x.r 12, x.r 13, x.r 14, x.r 15].getD i [] : Nd }) = true →
 sameVal (SV.bool true true) (SV.bool false true)) ∧
 ((!fewB { k := x.k, p := x.p, v := x.v, r := fun (i : Nat) => [x.r 0, x.r 1, x.r 2, x.r 3, x.r 4, x.r 5, x.r 6, x.r 7, x.r 8, x.r 9, x.r 10, x.r 11, x.r 12, x.r 13, x.r 14, x.r 15].getD i [] : Nd }) = false →
 (decide ((300 : Int) < (↑s.length : Int)) = true →
 sameVal (SV.bool true true) (SV.bool false true)) ∧
 (decide ((300 : Int) < (↑s.length : Int)) = false →
 ((-9223372036854775808 : Int) ≤ a ∧
 a ≤ (9223372036854775807 : Int)) ∧
 ((0 : Int) ≤ a ∧
 a ≤ (9223372036854775807 : Int) ∧
 (0 : Int) < (↑(putT { k := x.k, p := x.p, v := x.v, r := fun (i : Nat) => [x.r 0, x.r 1, x.r 2, x.r 3, x.r 4, x.r 5, x.r 6, x.r 7, x.r 8, x.r 9, x.r 10, x.r 11, x.r 12, x.r 13, x.r 14, x.r 15].getD i [] : Nd }).length : Int)) ∧
 ((0 : Int) ≤ (0 : Int) ∧
 (0 : Int) ≤ a % (↑(putT { k := x.k, p := x.p, v := x.v, r := fun (i : Nat) => [x.r 0, x.r 1, x.r 2, x.r 3, x.r 4, x.r 5, x.r 6, x.r 7, x.r 8, x.r 9, x.r 10, x.r 11, x.r 12, x.r 13, x.r 14, x.r 15].getD i [] : Nd }).length : Int) ∧
 a % (↑(putT { k := x.k, p := x.p, v := x.v, r := fun (i : Nat) => [x.r 0, x.r 1, x.r 2, x.r 3, x.r 4, x.r 5, x.r 6, x.r 7, x.r 8, x.r 9, x.r 10, x.r 11, x.r 12, x.r 13, x.r 14, x.r 15].getD i [] : Nd }).length : Int) ≤ (↑(putT { k := x.k, p := x.p, v := x.v, r := fun (i : Nat) => [x.r 0, x.r 1, x.r 2, x.r 3, x.r 4, x.r 5, x.r 6, x.r 7, x.r 8, x.r 9, x.r 10, x.r 11, x.r 12, x.r 13, x.r 14, x.r 15].getD i [] : Nd }).length : Int)) ∧
 ((subStr (putT { k := x.k, p := x.p, v := x.v, r := fun (i : Nat) => [x.r 0, x.r 1, x.r 2, x.r 3, x.r 4, x.r 5, x.r 6, x.r 7, x.r 8, x.r 9, x.r 10, x.r 11, x.r 12, x.r 13, x.r 14, x.r 15].getD i [] : Nd }) none (some (Operand.tmp 43)) 0 (a % (↑(putT { k := x.k, p := x.p, v := x.v, r := fun (i : Nat) => [x.r 0, x.r 1, x.r 2, x.r 3, x.r 4, x.r 5, x.r 6, x.r 7, x.r 8, x.r 9, x.r 10, x.r 11, x.r 12, x.r 13, x.r 14, x.r 15].getD i [] : Nd }).length : Int))).length ≤ (9223372036854775808 : Nat) ∧
 (subStr (putT { k := x.k, p := x.p, v := x.v, r := fun (i : Nat) => [x.r 0, x.r 1, x.r 2, x.r 3, x.r 4, x.r 5, x.r 6, x.r 7, x.r 8, x.r 9, x.r 10, x.r 11, x.r 12, x.r 13, x.r 14, x.r 15].getD i [] : Nd }) none (some (Operand.tmp 43)) 0 (a % (↑(putT { k := x.k, p := x.p, v := x.v, r := fun (i : Nat) => [x.r 0, x.r 1, x.r 2, x.r 3, x.r 4, x.r 5, x.r 6, x.r 7, x.r 8, x.r 9, x.r 10, x.r 11, x.r 12, x.r 13, x.r 14, x.r 15].getD i [] : Nd }).length : Int))).length < (1099511627776 : Nat)) ∧
 (getB' (subStr (putT { k := x.k, p := x.p, v := x.v, r := fun (i : Nat) => [x.r 0, x.r 1, x.r 2, x.r 3, x.r 4, x.r 5, x.r 6, x.r 7, x.r 8, x.r 9, x.r 10, x.r 11, x.r 12, x.r 13, x.r 14, x.r 15].getD i [] : Nd }) none (some (Operand.tmp 43)) 0 (a % (↑(putT { k := x.k, p := x.p, v := x.v, r := fun (i : Nat) => [x.r 0, x.r 1, x.r 2, x.r 3, x.r 4, x.r 5, x.r 6, x.r 7, x.r 8, x.r 9, x.r 10, x.r 11, x.r 12, x.r 13, x.r 14, x.r 15].getD i [] : Nd }).length : Int))) = true →
 (↑(putT { k := x.k, p := x.p, v := x.v, r := fun (i : Nat) => [x.r 0, x.r 1, x.r 2, x.r 3, x.r 4, x.r 5, x.r 6, x.r 7, x.r 8, x.r 9, x.r 10, x.r 11, x.r 12, x.r 13, x.r 14, x.r 15].getD i [] : Nd }).length : Int) + (↑s.length : Int) ≤ (9223372036854775807 : Int) ∧
 ((cat (putT { k := x.k, p := x.p, v := x.v, r := fun (i : Nat) => [x.r 0, x.r 1, x.r 2, x.r 3, x.r 4, x.r 5, x.r 6, x.r 7, x.r 8, x.r 9, x.r 10, x.r 11, x.r 12, x.r 13, x.r 14, x.r 15].getD i [] : Nd }) s).length ≤ (9223372036854775808 : Nat) ∧
 (cat (putT { k := x.k, p := x.p, v := x.v, r := fun (i : Nat) => [x.r 0, x.r 1, x.r 2, x.r 3, x.r 4, x.r 5, x.r 6, x.r 7, x.r 8, x.r 9, x.r 10, x.r 11, x.r 12, x.r 13, x.r 14, x.r 15].getD i [] : Nd }) s).length < (1099511627776 : Nat)) ∧
 (getB' (cat (putT { k := x.k, p := x.p, v := x.v, r := fun (i : Nat) => [x.r 0, x.r 1, x.r 2, x.r 3, x.r 4, x.r 5, x.r 6, x.r 7, x.r 8, x.r 9, x.r 10, x.r 11, x.r 12, x.r 13, x.r 14, x.r 15].getD i [] : Nd }) s) = true →
 (decide ((1 : Int) ≤ (↑(putT { k := x.k, p := x.p, v := x.v, r := fun (i : Nat) => [x.r 0, x.r 1, x.r 2, x.r 3, x.r 4, x.r 5, x.r 6, x.r 7, x.r 8, x.r 9, x.r 10, x.r 11, x.r 12, x.r 13, x.r 14, x.r 15].getD i [] : Nd }).length : Int)) = true →
 (decide ((↑(putT { k := x.k, p := x.p, v := x.v, r := fun (i : Nat) => [x.r 0, x.r 1, x.r 2, x.r 3, x.r 4, x.r 5, x.r 6, x.r 7, x.r 8, x.r 9, x.r 10, x.r 11, x.r 12, x.r 13, x.r 14, x.r 15].getD i [] : Nd }).length : Int) ≤ (700 : Int)) = true →
 sameVal (SV.bool true false) (SV.bool false true)) ∧
 (decide ((↑(putT { k := x.k, p := x.p, v := x.v, r := fun (i : Nat) => [x.r 0, x.r 1, x.r 2, x.r 3, x.r 4, x.r 5, x.r 6, x.r 7, x.r 8, x.r 9, x.r 10, x.r 11, x.r 12, x.r 13, x.r 14, x.r 15].getD i [] : Nd }).length : Int) ≤ (700 : Int)) = false →
 sameVal (SV.bool true false) (SV.bool false true))) ∧
 (decide ((1 : Int) ≤ (↑(putT { k := x.k, p := x.p, v := x.v, r := fun (i : Nat) => [x.r 0, x.r 1, x.r 2, x.r 3, x.r 4, x.r 5, x.r 6, x.r 7, x.r 8, x.r 9, x.r 10, x.r 11, x.r 12, x.r 13, x.r 14, x.r 15].getD i [] : Nd }).length : Int)) = false →
 sameVal (SV.bool true false) (SV.bool false true))) ∧
 (getB' (cat (putT { k := x.k, p := x.p, v := x.v, r := fun (i : Nat) => [x.r 0, x.r 1, x.r 2, x.r 3, x.r 4, x.r 5, x.r 6, x.r 7, x.r 8, x.r 9, x.r 10, x.r 11, x.r 12, x.r 13, x.r 14, x.r 15].getD i [] : Nd }) s) = false →
 (decide ((1 : Int) ≤ (↑(putT { k := x.k, p := x.p, v := x.v, r := fun (i : Nat) => [x.r 0, x.r 1, x.r 2, x.r 3, x.r 4, x.r 5, x.r 6, x.r 7, x.r 8, x.r 9, x.r 10, x.r 11, x.r 12, x.r 13, x.r 14, x.r 15].getD i [] : Nd }).length : Int)) = true →
 (decide ((↑(putT { k := x.k, p := x.p, v := x.v, r := fun (i : Nat) => [x.r 0, x.r 1, x.r 2, x.r 3, x.r 4, x.r 5, x.r 6, x.r 7, x.r 8, x.r 9, x.r 10, x.r 11, x.r 12, x.r 13, x.r 14, x.r 15].getD i [] : Nd }).length : Int) ≤ (700 : Int)) = true →
 sameVal (SV.bool true false) (SV.bool false true)) ∧
 (decide ((↑(putT { k := x.k, p := x.p, v := x.v, r := fun (i : Nat) => [x.r 0, x.r 1, x.r 2, x.r 3, x.r 4, x.r 5, x.r 6, x.r 7, x.r 8, x.r 9, x.r 10, x.r 11, x.r 12, x.r 13, x.r 14, x.r 15].getD i [] : Nd }).length : Int) ≤ (700 : Int)) = false →
 sameVal (SV.bool true false) (SV.bool false true))) ∧
 (decide ((1 : Int) ≤ (↑(putT { k := x.k, p := x.p, v := x.v, r := fun (i : Nat) => [x.r 0, x.r 1, x.r 2, x.r 3, x.r 4, x.r 5, x.r 6, x.r 7, x.r 8, x.r 9, x.r 10, x.r 11, x.r 12, x.r 13, x.r 14, x.r 15].getD i [] : Nd }).length : Int)) = false →
 sameVal (SV.bool true false) (SV.bool false true)))) ∧
 (getB' (subStr (putT { k := x.k, p := x.p, v := x.v, r := fun (i : Nat) => [x.r 0, x.r 1, x.r 2, x.r 3, x.r 4, x.r 5, x.r 6, x.r 7, x.r 8, x.r 9, x.r 10, x.r 11, x.r 12, x.r 13, x.r 14, x.r 15].getD i [] : Nd }) none (some (Operand.tmp 43)) 0 (a % (↑(putT { k := x.k, p := x.p, v := x.v, r := fun (i : Nat) => [x.r 0, x.r 1, x.r 2, x.r 3, x.r 4, x.r 5, x.r 6, x.r 7, x.r 8, x.r 9, x.r 10, x.r 11, x.r 12, x.r 13, x.r 14, x.r 15].getD i [] : Nd }).length : Int))) = false →
 (↑(putT { k := x.k, p := x.p, v := x.v, r := fun (i : Nat) => [x.r 0, x.r 1, x.r 2, x.r 3, x.r 4, x.r 5, x.r 6, x.r 7, x.r 8, x.r 9, x.r 10, x.r 11, x.r 12, x.r 13, x.r 14, x.r 15].getD i [] : Nd }).length : Int) + (↑s.length : Int) ≤ (9223372036854775807 : Int) ∧
 ((cat (putT { k := x.k, p := x.p, v := x.v, r := fun (i : Nat) => [x.r 0, x.r 1, x.r 2, x.r 3, x.r 4, x.r 5, x.r 6, x.r 7, x.r 8, x.r 9, x.r 10, x.r 11, x.r 12, x.r 13, x.r 14, x.r 15].getD i [] : Nd }) s).length ≤ (9223372036854775808 : Nat) ∧
 (cat (putT { k := x.k, p := x.p, v := x.v, r := fun (i : Nat) => [x.r 0, x.r 1, x.r 2, x.r 3, x.r 4, x.r 5, x.r 6, x.r 7, x.r 8, x.r 9, x.r 10, x.r 11, x.r 12, x.r 13, x.r 14, x.r 15].getD i [] : Nd }) s).length < (1099511627776 : Nat)) ∧
 (getB' (cat (putT { k := x.k, p := x.p, v := x.v, r := fun (i : Nat) => [x.r 0, x.r 1, x.r 2, x.r 3, x.r 4, x.r 5, x.r 6, x.r 7, x.r 8, x.r 9, x.r 10, x.r 11, x.r 12, x.r 13, x.r 14, x.r 15].getD i [] : Nd }) s) = true →
 (decide ((1 : Int) ≤ (↑(putT { k := x.k, p := x.p, v := x.v, r := fun (i : Nat) => [x.r 0, x.r 1, x.r 2, x.r 3, x.r 4, x.r 5, x.r 6, x.r 7, x.r 8, x.r 9, x.r 10, x.r 11, x.r 12, x.r 13, x.r 14, x.r 15].getD i [] : Nd }).length : Int)) = true →
 (decide ((↑(putT { k := x.k, p := x.p, v := x.v, r := fun (i : Nat) => [x.r 0, x.r 1, x.r 2, x.r 3, x.r 4, x.r 5, x.r 6, x.r 7, x.r 8, x.r 9, x.r 10, x.r 11, x.r 12, x.r 13, x.r 14, x.r 15].getD i [] : Nd }).length : Int) ≤ (700 : Int)) = true →
 (decide (s = []) = true →
 sameVal (SV.bool true true) (SV.bool false true)) ∧
 (decide (s = []) = false →
 sameVal (SV.bool (true && true) (decide ((0 : Int) = (2 : Int)))) (SV.bool false true))) ∧
 (decide ((↑(putT { k := x.k, p := x.p, v := x.v, r := fun (i : Nat) => [x.r 0, x.r 1, x.r 2, x.r 3, x.r 4, x.r 5, x.r 6, x.r 7, x.r 8, x.r 9, x.r 10, x.r 11, x.r 12, x.r 13, x.r 14, x.r 15].getD i [] : Nd }).length : Int) ≤ (700 : Int)) = false →
 sameVal (SV.bool true false) (SV.bool false true))) ∧
 (decide ((1 : Int) ≤ (↑(putT { k := x.k, p := x.p, v := x.v, r := fun (i : Nat) => [x.r 0, x.r 1, x.r 2, x.r 3, x.r 4, x.r 5, x.r 6, x.r 7, x.r 8, x.r 9, x.r 10, x.r 11, x.r 12, x.r 13, x.r 14, x.r 15].getD i [] : Nd }).length : Int)) = false →
 sameVal (SV.bool true false) (SV.bool false true))) ∧
 (getB' (cat (putT { k := x.k, p := x.p, v := x.v, r := fun (i : Nat) => [x.r 0, x.r 1, x.r 2, x.r 3, x.r 4, x.r 5, x.r 6, x.r 7, x.r 8, x.r 9, x.r 10, x.r 11, x.r 12, x.r 13, x.r 14, x.r 15].getD i [] : Nd }) s) = false →
 (decide ((1 : Int) ≤ (↑(putT { k := x.k, p := x.p, v := x.v, r := fun (i : Nat) => [x.r 0, x.r 1, x.r 2, x.r 3, x.r 4, x.r 5, x.r 6, x.r 7, x.r 8, x.r 9, x.r 10, x.r 11, x.r 12, x.r 13, x.r 14, x.r 15].getD i [] : Nd }).length : Int)) = true →
 (decide ((↑(putT { k := x.k, p := x.p, v := x.v, r := fun (i : Nat) => [x.r 0, x.r 1, x.r 2, x.r 3, x.r 4, x.r 5, x.r 6, x.r 7, x.r 8, x.r 9, x.r 10, x.r 11, x.r 12, x.r 13, x.r 14, x.r 15].getD i [] : Nd }).length : Int) ≤ (700 : Int)) = true →
 (decide (s = []) = true →
 sameVal (SV.bool true true) (SV.bool false true)) ∧
 (decide (s = []) = false →
 sameVal (SV.bool (true && true) (decide ((2 : Int) = (2 : Int)))) (SV.bool false true))) ∧
 (decide ((↑(putT { k := x.k, p := x.p, v := x.v, r := fun (i : Nat) => [x.r 0, x.r 1, x.r 2, x.r 3, x.r 4, x.r 5, x.r 6, x.r 7, x.r 8, x.r 9, x.r 10, x.r 11, x.r 12, x.r 13, x.r 14, x.r 15].getD i [] : Nd }).length : Int) ≤ (700 : Int)) = false →
 sameVal (SV.bool true false) (SV.bool false true))) ∧
 (decide ((1 : Int) ≤ (↑(putT { k := x.k, p := x.p, v := x.v, r := fun (i : Nat) => [x.r 0, x.r 1, x.r 2, x.r 3, x.r 4, x.r 5, x.r 6, x.r 7, x.r 8, x.r 9, x.r 10, x.r 11, x.r 12, x.r 13, x.r 14, x.r 15].getD i [] : Nd }).length : Int)) = false →
 sameVal (SV.bool true false) (SV.bool false true))))))) ∧
 (validB { k := x.k, p := x.p, v := x.v, r := fun (i : Nat) => [x.r 0, x.r 1, x.r 2, x.r 3, x.r 4, x.r 5, x.r 6, x.r 7, x.r 8, x.r 9, x.r 10, x.r 11, x.r 12, x.r 13, x.r 14, x.r 15].getD i [] : Nd } = false →
 ((!fewB { k := x.k, p := x.p, v := x.v, r := fun (i : Nat) => [x.r 0, x.r 1, x.r 2, x.r 3, x.r 4, x.r 5, x.r 6, x.r 7, x.r 8, x.r 9, x.r 10, x.r 11, x.r 12, x.r 13, x.r 14, x.r 15].getD i [] : Nd }) = true →
 sameVal (SV.bool true true) (SV.bool false true)) ∧
 ((!fewB { k := x.k, p := x.p, v := x.v, r := fun (i : Nat) => [x.r 0, x.r 1, x.r 2, x.r 3, x.r 4, x.r 5, x.r 6, x.r 7, x.r 8, x.r 9, x.r 10, x.r 11, x.r 12, x.r 13, x.r 14, x.r 15].getD i [] : Nd }) = false →
 sameVal (SV.bool true true) (SV.bool false true)))) := by kernel_rfl
end Go.Proofs.YtmipbcadcoahlaaDoor
/-
  Node: NodeCuts, NodeBack: the runs.
-/
namespace Go.Proofs.YtmipbcadcoahlaaDoor
open Go Sx
set_option maxRecDepth 20000

theorem lcuts_holds {x : Nd} (hx : Fits x) {a : Int} (ha : 0 ≤ a ∧ a < 65536) (s : List UInt8) : Holds (runA cfgL1 5 Tryd.f5 [x.sv, .int .u16 false a, .str false s] yes) := by
  refine Holds.of_eq (vcLCuts x a s) ?_
  have e1 := valid_ext (same_mk x)
  have e2 := put_ext (same_mk x)
  have e3 := few_ext (same_mk x)
  simp only [e1, e2, e3]
  refine ⟨trivial, trivial, fits_mk hx, fun hv => ⟨fun _ => yes_same, fun hf => ⟨fun _ => yes_same, fun hs => ?_⟩⟩, fun _ => ⟨fun _ => yes_same, fun _ => yes_same⟩⟩
  obtain ⟨l1, l2⟩ := put_len hv
  have hE : ∀ k, k < (putT x).length → getB' ((putT x).take k) = false := fun k => put_early hv
  have hM : ∀ m, m ≠ [] → getB' (putT x ++ m) = false := fun m => put_more hv
  have hG := (get_put hv).1
  have hs := of_decide_eq_false hs
  generalize putT x = P at l1 l2 hE hM hG ⊢
  have m1 : 0 ≤ a % (P.length : Int) := Int.emod_nonneg _ (by omega)
  have m2 : a % (P.length : Int) < (P.length : Int) := Int.emod_lt_of_pos _ (by omega)
  generalize a % (P.length : Int) = c at m1 m2 ⊢
  have e5 : subStr P none (some (Operand.tmp 43)) 0 c = P.take c.toNat := rfl
  have e6 : getB' (P.take c.toNat) = false := hE _ (by omega)
  have e7 : (P.take c.toNat).length ≤ P.length := by rw [List.length_take]; omega
  have e8 : cat P s = P ++ s := rfl
  rw [e5, e8, e6, List.length_append]
  have no : ∀ {p : Prop} {q : Prop} [Decidable q], q → decide q = false → p := fun hq h => absurd hq (of_decide_eq_false h)
  refine ⟨by omega, by omega, by omega, by omega, (fun h => by cases h), fun _ => ⟨by omega, by omega, fun h => ⟨fun _ => ⟨fun _ => ⟨fun _ => yes_same, fun g => ?_⟩, no (by omega)⟩, no (by omega)⟩, fun h => ⟨fun _ => ⟨fun _ => ⟨fun _ => yes_same, fun _ _ => rfl⟩, no (by omega)⟩, no (by omega)⟩⟩⟩
  rw [hM s (of_decide_eq_false g)] at h
  cases h
theorem same_yes {X x : Nd} (h : X.Same x) : X.k = x.k ∧ X.p = x.p ∧ X.v = x.v ∧ X.r 0 = x.r 0 ∧ X.r 1 = x.r 1 ∧ X.r 2 = x.r 2 ∧ X.r 3 = x.r 3 ∧ X.r 4 = x.r 4 ∧ X.r 5 = x.r 5 ∧ X.r 6 = x.r 6 ∧ X.r 7 = x.r 7 ∧ X.r 8 = x.r 8 ∧ X.r 9 = x.r 9 ∧ X.r 10 = x.r 10 ∧ X.r 11 = x.r 11 ∧ X.r 12 = x.r 12 ∧ X.r 13 = x.r 13 ∧ X.r 14 = x.r 14 ∧ X.r 15 = x.r 15 :=
  ⟨h.k, h.p, h.v, h.r 0 (by decide), h.r 1 (by decide), h.r 2 (by decide), h.r 3 (by decide), h.r 4 (by decide), h.r 5 (by decide), h.r 6 (by decide), h.r 7 (by decide), h.r 8 (by decide), h.r 9 (by decide), h.r 10 (by decide), h.r 11 (by decide), h.r 12 (by decide), h.r 13 (by decide), h.r 14 (by decide), h.r 15 (by decide)⟩
theorem lback_holds (x : Nd) (s : List UInt8) : Holds (runA cfgL1 3 Tryd.f3 [x.sv, .str false s] yes) := by
  refine Holds.of_eq (vcLBack x s) ?_
  have e1 := valid_ext (same_mk x)
  have e2 := put_ext (same_mk x)
  have e3 := few_ext (same_mk x)
  have d1 := valid_ext (same_mk (getD s))
  have d2 := put_ext (same_mk (getD s))
  simp only [e1, e2, e3, d1, d2]
  refine ⟨trivial, trivial, fun _ => yes_same, fun hf => ⟨fun _ => yes_same, fun hs => ?_⟩⟩
  have hs := of_decide_eq_false hs
  have hf : fewB x = true := by simpa using hf
  have hx := few_fits hf
  refine ⟨fits_mk hx, fun hv => ?_, fun hv => ?_⟩
  · obtain ⟨l1, l2⟩ := put_len hv
    obtain ⟨g1, g2⟩ := get_put hv
    obtain ⟨q0, q1, q2, p0, p1, p2, p3, p4, p5, p6, p7, p8, p9, p10, p11, p12, p13, p14, p15⟩ := same_yes g2
    refine ⟨by omega, fun _ => ⟨fits_rel hx, fun h => ?_, fun _ => ⟨fun h => ?_, fun _ => ⟨by omega, fun hg => ?_, fun _ _ => rfl⟩⟩⟩, fun h => ?_⟩
    · rw [hv] at h; exact absurd h (by decide)
    · simp only [q0, q1, q2, p0, p1, p2, p3, p4, p5, p6, p7, p8, p9, p10, p11, p12, p13, p14, p15, decide_true, Bool.and_true, Bool.not_true] at h
      cases h
    · obtain ⟨b1, b2, b3⟩ := get_parts hg
      have hgf := valid_fits b2
      refine ⟨fits_mk hgf, fun _ => ⟨fun _ => ⟨fits_rel hgf, by rw [b2]; exact yes_same⟩, fun h => absurd b3 (of_decide_eq_false h)⟩, fun h => ?_⟩
      rw [b2] at h; cases h
    · rw [g1] at h; cases h
  · refine ⟨⟨by simp, by simp⟩, fits_rel hx, fun h => ?_, fun _ => ⟨by omega, fun hg => ?_, fun _ _ => rfl⟩⟩
    · rw [hv] at h; exact absurd h (by decide)
    · obtain ⟨b1, b2, b3⟩ := get_parts hg
      have hgf := valid_fits b2
      refine ⟨fits_mk hgf, fun _ => ⟨fun _ => ⟨fits_rel hgf, by rw [b2]; exact yes_same⟩, fun h => absurd b3 (of_decide_eq_false h)⟩, fun h => ?_⟩
      rw [b2] at h; cases h
end Go.Proofs.YtmipbcadcoahlaaDoor
