/-
  Node: the node that bytes look like: the set-up.
-/
import Derived.Test.YtmipbcadcoahlaaDoorPb
namespace Go.Proofs.YtmipbcadcoahlaaDoor
open Go Sx
set_option maxRecDepth 20000

def rdCells (s : List UInt8) (i : Nat) : List SV := [.int .i64 false 3, .str false [], .str false [], .str false (rdI s i 0), .str false (rdI s i 1), .str false (rdI s i 2), .str false (rdI s i 3), .str false (rdI s i 4), .str false (rdI s i 5), .str false (rdI s i 6), .str false (rdI s i 7), .str false (rdI s i 8), .str false (rdI s i 9), .str false (rdI s i 10), .str false (rdI s i 11), .str false (rdI s i 12), .str false (rdI s i 13), .str false (rdI s i 14), .str false (rdI s i 15)]
noncomputable def annRd (s : List UInt8) : LoopAnn :=
  { α := Nat, pre := fun _ i => i ≤ 16, mea := fun _ i => 16 - i, fresh := 0, slots := fun _ i => [(9, .int .i64 false i)],
    mem := fun st i => match slot st.tmps 4 with
      | some (.ptr k _ _) => [(k, .cells (rdCells (cutIn s) i) 19 25)]
      | _ => [] }
noncomputable def cfgRd (s : List UInt8) : Cfg := { cfg0 with summ := fun f => lookPT f listN4, anns := fun f => if f = 38 then [(3, always (annRd s))] else [] }
theorem goodRd (s : List UInt8) : Sx.Good Tryd.prog (cfgRd s) := ⟨mixes, listN4_ok, fns_ok⟩
end Go.Proofs.YtmipbcadcoahlaaDoor
/-
  Conditions that the executor computes, written out by a program (vcgen.py).
-/
namespace Go.Proofs.YtmipbcadcoahlaaDoor
open Go Sx
set_option maxRecDepth 20000

theorem vcRead (s : List UInt8) : VC.holds (runA (cfgRd s) 20 Tryd.f20 [.str false s] (readA s)) = ((fun Q0 : SV => ((fun Q1 : SB => ((fun Q2 : SV => ((fun Q3 : SV => ((fun Q4 : SV => ((fun Q5 : SV => ((fun Q6 : SV => ((fun Q7 : SV => ((fun Q8 : SV => ((fun Q9 : SV => ((0 : Nat) < (1152921504606846976 : Nat) ∧
 (decide (s = textOf []) = true →
 (decide (shapeK s = (0 : Int)) = true →
 sameVal Q5 Q9) ∧
 (decide (shapeK s = (0 : Int)) = false →
 (decide (shapeK s = (1 : Int)) = true →
 sameVal Q5 Q7) ∧
 (decide (shapeK s = (1 : Int)) = false →
 (decide (shapeK s = (2 : Int)) = true →
 sameVal Q5 Q8) ∧
 (decide (shapeK s = (2 : Int)) = false →
 (decide (shapeK s = (3 : Int)) = true →
 sameVal Q5 Q6) ∧
 (decide (shapeK s = (3 : Int)) = false →
 ∃ (x : Nd), sameVal Q5 (SV.tup [x.sv, SV.bool true false])))))) ∧
 (decide (s = textOf []) = false →
 s.length < (9223372036854775808 : Nat) ∧
 (cutB s = true →
 ((!cutL s) = true →
 (decide (shapeK s = (0 : Int)) = true →
 sameVal Q0 Q9) ∧
 (decide (shapeK s = (0 : Int)) = false →
 (decide (shapeK s = (1 : Int)) = true →
 sameVal Q0 Q7) ∧
 (decide (shapeK s = (1 : Int)) = false →
 (decide (shapeK s = (2 : Int)) = true →
 sameVal Q0 Q8) ∧
 (decide (shapeK s = (2 : Int)) = false →
 (decide (shapeK s = (3 : Int)) = true →
 sameVal Q0 Q6) ∧
 (decide (shapeK s = (3 : Int)) = false →
 ∃ (x : Nd), sameVal Q0 (SV.tup [x.sv, SV.bool true false])))))) ∧
 ((!cutL s) = false →
 ((!decide (cutRest s = [])) = true →
 (decide (shapeK s = (0 : Int)) = true →
 sameVal Q0 Q9) ∧
 (decide (shapeK s = (0 : Int)) = false →
 (decide (shapeK s = (1 : Int)) = true →
 sameVal Q0 Q7) ∧
 (decide (shapeK s = (1 : Int)) = false →
 (decide (shapeK s = (2 : Int)) = true →
 sameVal Q0 Q8) ∧
 (decide (shapeK s = (2 : Int)) = false →
 (decide (shapeK s = (3 : Int)) = true →
 sameVal Q0 Q6) ∧
 (decide (shapeK s = (3 : Int)) = false →
 ∃ (x : Nd), sameVal Q0 (SV.tup [x.sv, SV.bool true false])))))) ∧
 ((!decide (cutRest s = [])) = false →
 (cutIn s).length < (1099511627776 : Nat) ∧
 (itemsB (cutIn s) = true →
 ∀ (x : Nat), itemsN (cutIn s) ≤ x →
 (decide ((↑(itemsN (cutIn s)) : Int) = (2 : Int)) = true →
 ((0 : Int) ≤ (0 : Int) ∧
 (0 : Int) < (↑(itemsN (cutIn s)) : Int)) ∧
 (0 : Nat) < itemsN (cutIn s) ∧
 ((0 : Int) ≤ (1 : Int) ∧
 (1 : Int) < (↑(itemsN (cutIn s)) : Int)) ∧
 (1 : Nat) < itemsN (cutIn s) ∧
 (itemAt (cutIn s) 0).length < (9223372036854775808 : Nat) ∧
 (plainB (itemAt (cutIn s) 0) = true →
 (cutIn (itemAt (cutIn s) 0)).length < (1099511627776 : Nat) ∧
 (ngetB (cutIn (itemAt (cutIn s) 0)) = true →
 ((!ngetLeaf (cutIn (itemAt (cutIn s) 0))) = true →
 (decide (shapeK s = (0 : Int)) = true →
 sameVal Q3 Q9) ∧
 (decide (shapeK s = (0 : Int)) = false →
 (decide (shapeK s = (1 : Int)) = true →
 sameVal Q3 Q7) ∧
 (decide (shapeK s = (1 : Int)) = false →
 (decide (shapeK s = (2 : Int)) = true →
 sameVal Q3 Q8) ∧
 (decide (shapeK s = (2 : Int)) = false →
 (decide (shapeK s = (3 : Int)) = true →
 sameVal Q3 Q6) ∧
 (decide (shapeK s = (3 : Int)) = false →
 ∃ (x : Nd), sameVal Q3 (SV.tup [x.sv, SV.bool true false])))))) ∧
 ((!ngetLeaf (cutIn (itemAt (cutIn s) 0))) = false →
 (itemAt (cutIn s) 1).length < (9223372036854775808 : Nat) ∧
 (plainB (itemAt (cutIn s) 1) = true →
 (decide (shapeK s = (0 : Int)) = true →
 sameVal Q2 Q9) ∧
 (decide (shapeK s = (0 : Int)) = false →
 (decide (shapeK s = (1 : Int)) = true →
 sameVal Q2 Q7) ∧
 (decide (shapeK s = (1 : Int)) = false →
 (decide (shapeK s = (2 : Int)) = true →
 sameVal Q2 Q8) ∧
 (decide (shapeK s = (2 : Int)) = false →
 (decide (shapeK s = (3 : Int)) = true →
 sameVal Q2 Q6) ∧
 (decide (shapeK s = (3 : Int)) = false →
 ∃ (x : Nd), sameVal Q2 (SV.tup [x.sv, SV.bool true false])))))) ∧
 (plainB (itemAt (cutIn s) 1) = false →
 (decide (shapeK s = (0 : Int)) = true →
 sameVal Q4 Q9) ∧
 (decide (shapeK s = (0 : Int)) = false →
 (decide (shapeK s = (1 : Int)) = true →
 sameVal Q4 Q7) ∧
 (decide (shapeK s = (1 : Int)) = false →
 (decide (shapeK s = (2 : Int)) = true →
 sameVal Q4 Q8) ∧
 (decide (shapeK s = (2 : Int)) = false →
 (decide (shapeK s = (3 : Int)) = true →
 sameVal Q4 Q6) ∧
 (decide (shapeK s = (3 : Int)) = false →
 ∃ (x : Nd), sameVal Q4 (SV.tup [x.sv, SV.bool true false])))))))) ∧
 (ngetB (cutIn (itemAt (cutIn s) 0)) = false →
 (decide (shapeK s = (0 : Int)) = true →
 sameVal Q0 Q9) ∧
 (decide (shapeK s = (0 : Int)) = false →
 (decide (shapeK s = (1 : Int)) = true →
 sameVal Q0 Q7) ∧
 (decide (shapeK s = (1 : Int)) = false →
 (decide (shapeK s = (2 : Int)) = true →
 sameVal Q0 Q8) ∧
 (decide (shapeK s = (2 : Int)) = false →
 (decide (shapeK s = (3 : Int)) = true →
 sameVal Q0 Q6) ∧
 (decide (shapeK s = (3 : Int)) = false →
 ∃ (x : Nd), sameVal Q0 (SV.tup [x.sv, SV.bool true false]))))))) ∧
 (plainB (itemAt (cutIn s) 0) = false →
 (decide (shapeK s = (0 : Int)) = true →
 sameVal Q0 Q9) ∧
 (decide (shapeK s = (0 : Int)) = false →
 (decide (shapeK s = (1 : Int)) = true →
 sameVal Q0 Q7) ∧
 (decide (shapeK s = (1 : Int)) = false →
 (decide (shapeK s = (2 : Int)) = true →
 sameVal Q0 Q8) ∧
 (decide (shapeK s = (2 : Int)) = false →
 (decide (shapeK s = (3 : Int)) = true →
 sameVal Q0 Q6) ∧
 (decide (shapeK s = (3 : Int)) = false →
 ∃ (x : Nd), sameVal Q0 (SV.tup [x.sv, SV.bool true false]))))))) ∧
 (decide ((↑(itemsN (cutIn s)) : Int) = (2 : Int)) = false →
 (decide ((↑(itemsN (cutIn s)) : Int) = (17 : Int)) = true →
 (∃ (y : Nat), y ≤ (16 : Nat) ∧
 (0 : Int) = (↑y : Int) ∧
 SBle (SB.cells [SV.int .i64 true 3, SV.str true [], SV.str true [], SV.str true [], SV.str true [], SV.str true [], SV.str true [], SV.str true [], SV.str true [], SV.str true [], SV.str true [], SV.str true [], SV.str true [], SV.str true [], SV.str true [], SV.str true [], SV.str true [], SV.str true [], SV.str true []] 19 25) (SB.cells [SV.int .i64 false 3, SV.str false [], SV.str false [], SV.str false (rdI (cutIn s) y 0), SV.str false (rdI (cutIn s) y 1), SV.str false (rdI (cutIn s) y 2), SV.str false (rdI (cutIn s) y 3), SV.str false (rdI (cutIn s) y 4), SV.str false (rdI (cutIn s) y 5), SV.str false (rdI (cutIn s) y 6), SV.str false (rdI (cutIn s) y 7), SV.str false (rdI (cutIn s) y 8), SV.str false (rdI (cutIn s) y 9), SV.str false (rdI (cutIn s) y 10), SV.str false (rdI (cutIn s) y 11), SV.str false (rdI (cutIn s) y 12), SV.str false (rdI (cutIn s) y 13), SV.str false (rdI (cutIn s) y 14), SV.str false (rdI (cutIn s) y 15)] 19 25) ∧
 SBle Q1 Q1 ∧
 SBle (SB.rows true (itemsN (cutIn s)) [Col.str (itemAt (cutIn s))] false x 9) (SB.rows true (itemsN (cutIn s)) [Col.str (itemAt (cutIn s))] false x 9) ∧
 SBle Q1 Q1 ∧
 True) ∧
 ∀ (x_4 : Nat), x_4 ≤ (16 : Nat) →
 (decide ((↑x_4 : Int) < (16 : Int)) = true →
 ((0 : Int) ≤ (↑x_4 : Int) ∧
 (↑x_4 : Int) < (↑(itemsN (cutIn s)) : Int)) ∧
 (0 : Nat) + (↑x_4 : Int).toNat < itemsN (cutIn s) ∧
 (0 : Nat) < (1152921504606846976 : Nat) ∧
 some (SB.rows true (itemsN (cutIn s)) [Col.str (itemAt (cutIn s))] false x 9) = some (SB.rows true (itemsN (cutIn s)) [Col.str (itemAt (cutIn s))] false x 9) ∧
 ((!decide (itemAt (cutIn s) ((0 : Nat) + (↑x_4 : Int).toNat) = textOf [])) = true →
 ((0 : Int) ≤ (↑x_4 : Int) ∧
 (↑x_4 : Int) < (↑(itemsN (cutIn s)) : Int)) ∧
 (0 : Nat) + (↑x_4 : Int).toNat < itemsN (cutIn s) ∧
 ((0 : Int) ≤ (↑x_4 : Int) ∧
 (↑x_4 : Int) < (16 : Int)) ∧
 (↑x_4 : Int).toNat < (16 : Nat) ∧
 ((-9223372036854775808 : Int) ≤ (↑x_4 : Int) + (1 : Int) ∧
 (↑x_4 : Int) + (1 : Int) ≤ (9223372036854775807 : Int)) ∧
 ∃ (y : Nat), (y ≤ (16 : Nat) ∧
 (16 : Nat) - y < (16 : Nat) - x_4) ∧
 (↑x_4 : Int) + (1 : Int) = (↑y : Int) ∧
 SBle (SB.cells [SV.int .i64 false 3, SV.str false [], SV.str false [], SV.str false (if (↑x_4 : Int).toNat = (0 : Nat) then itemAt (cutIn s) ((0 : Nat) + (↑x_4 : Int).toNat) else rdI (cutIn s) x_4 0), SV.str false (if (↑x_4 : Int).toNat = (1 : Nat) then itemAt (cutIn s) ((0 : Nat) + (↑x_4 : Int).toNat) else rdI (cutIn s) x_4 1), SV.str false (if (↑x_4 : Int).toNat = (2 : Nat) then itemAt (cutIn s) ((0 : Nat) + (↑x_4 : Int).toNat) else rdI (cutIn s) x_4 2), SV.str false (if (↑x_4 : Int).toNat = (3 : Nat) then itemAt (cutIn s) ((0 : Nat) + (↑x_4 : Int).toNat) else rdI (cutIn s) x_4 3), SV.str false (if (↑x_4 : Int).toNat = (4 : Nat) then itemAt (cutIn s) ((0 : Nat) + (↑x_4 : Int).toNat) else rdI (cutIn s) x_4 4), SV.str false (if (↑x_4 : Int).toNat = (5 : Nat) then itemAt (cutIn s) ((0 : Nat) + (↑x_4 : Int).toNat) else rdI (cutIn s) x_4 5), SV.str false (if (↑x_4 : Int).toNat = (6 : Nat) then itemAt (cutIn s) ((0 : Nat) + (↑x_4 : Int).toNat) else rdI (cutIn s) x_4 6), SV.str false (if (↑x_4 : Int).toNat = (7 : Nat) then itemAt (cutIn s) ((0 : Nat) + (↑x_4 : Int).toNat) else rdI (cutIn s) x_4 7), SV.str false (if (↑x_4 : Int).toNat = (8 : Nat) then itemAt (cutIn s) ((0 : Nat) + (↑x_4 : Int).toNat) else rdI (cutIn s) x_4 8), SV.str false (if (↑x_4 : Int).toNat = (9 : Nat) then itemAt (cutIn s) ((0 : Nat) + (↑x_4 : Int).toNat) else rdI (cutIn s) x_4 9), SV.str false (if (↑x_4 : Int).toNat = (10 : Nat) then itemAt (cutIn s) ((0 : Nat) + (↑x_4 : Int).toNat) else rdI (cutIn s) x_4 10), SV.str false (if (↑x_4 : Int).toNat = (11 : Nat) then itemAt (cutIn s) ((0 : Nat) + (↑x_4 : Int).toNat) else rdI (cutIn s) x_4 11), SV.str false (if (↑x_4 : Int).toNat = (12 : Nat) then itemAt (cutIn s) ((0 : Nat) + (↑x_4 : Int).toNat) else rdI (cutIn s) x_4 12), SV.str false (if (↑x_4 : Int).toNat = (13 : Nat) then itemAt (cutIn s) ((0 : Nat) + (↑x_4 : Int).toNat) else rdI (cutIn s) x_4 13), SV.str false (if (↑x_4 : Int).toNat = (14 : Nat) then itemAt (cutIn s) ((0 : Nat) + (↑x_4 : Int).toNat) else rdI (cutIn s) x_4 14), SV.str false (if (↑x_4 : Int).toNat = (15 : Nat) then itemAt (cutIn s) ((0 : Nat) + (↑x_4 : Int).toNat) else rdI (cutIn s) x_4 15)] 19 25) (SB.cells [SV.int .i64 false 3, SV.str false [], SV.str false [], SV.str false (rdI (cutIn s) y 0), SV.str false (rdI (cutIn s) y 1), SV.str false (rdI (cutIn s) y 2), SV.str false (rdI (cutIn s) y 3), SV.str false (rdI (cutIn s) y 4), SV.str false (rdI (cutIn s) y 5), SV.str false (rdI (cutIn s) y 6), SV.str false (rdI (cutIn s) y 7), SV.str false (rdI (cutIn s) y 8), SV.str false (rdI (cutIn s) y 9), SV.str false (rdI (cutIn s) y 10), SV.str false (rdI (cutIn s) y 11), SV.str false (rdI (cutIn s) y 12), SV.str false (rdI (cutIn s) y 13), SV.str false (rdI (cutIn s) y 14), SV.str false (rdI (cutIn s) y 15)] 19 25) ∧
 SBle Q1 Q1 ∧
 SBle (SB.rows true (itemsN (cutIn s)) [Col.str (itemAt (cutIn s))] false x 9) (SB.rows true (itemsN (cutIn s)) [Col.str (itemAt (cutIn s))] false x 9) ∧
 SBle Q1 Q1 ∧
 True) ∧
 ((!decide (itemAt (cutIn s) ((0 : Nat) + (↑x_4 : Int).toNat) = textOf [])) = false →
 ((-9223372036854775808 : Int) ≤ (↑x_4 : Int) + (1 : Int) ∧
 (↑x_4 : Int) + (1 : Int) ≤ (9223372036854775807 : Int)) ∧
 ∃ (y : Nat), (y ≤ (16 : Nat) ∧
 (16 : Nat) - y < (16 : Nat) - x_4) ∧
 (↑x_4 : Int) + (1 : Int) = (↑y : Int) ∧
 SBle (SB.cells [SV.int .i64 false 3, SV.str false [], SV.str false [], SV.str false (rdI (cutIn s) x_4 0), SV.str false (rdI (cutIn s) x_4 1), SV.str false (rdI (cutIn s) x_4 2), SV.str false (rdI (cutIn s) x_4 3), SV.str false (rdI (cutIn s) x_4 4), SV.str false (rdI (cutIn s) x_4 5), SV.str false (rdI (cutIn s) x_4 6), SV.str false (rdI (cutIn s) x_4 7), SV.str false (rdI (cutIn s) x_4 8), SV.str false (rdI (cutIn s) x_4 9), SV.str false (rdI (cutIn s) x_4 10), SV.str false (rdI (cutIn s) x_4 11), SV.str false (rdI (cutIn s) x_4 12), SV.str false (rdI (cutIn s) x_4 13), SV.str false (rdI (cutIn s) x_4 14), SV.str false (rdI (cutIn s) x_4 15)] 19 25) (SB.cells [SV.int .i64 false 3, SV.str false [], SV.str false [], SV.str false (rdI (cutIn s) y 0), SV.str false (rdI (cutIn s) y 1), SV.str false (rdI (cutIn s) y 2), SV.str false (rdI (cutIn s) y 3), SV.str false (rdI (cutIn s) y 4), SV.str false (rdI (cutIn s) y 5), SV.str false (rdI (cutIn s) y 6), SV.str false (rdI (cutIn s) y 7), SV.str false (rdI (cutIn s) y 8), SV.str false (rdI (cutIn s) y 9), SV.str false (rdI (cutIn s) y 10), SV.str false (rdI (cutIn s) y 11), SV.str false (rdI (cutIn s) y 12), SV.str false (rdI (cutIn s) y 13), SV.str false (rdI (cutIn s) y 14), SV.str false (rdI (cutIn s) y 15)] 19 25) ∧
 SBle Q1 Q1 ∧
 SBle (SB.rows true (itemsN (cutIn s)) [Col.str (itemAt (cutIn s))] false x 9) (SB.rows true (itemsN (cutIn s)) [Col.str (itemAt (cutIn s))] false x 9) ∧
 SBle Q1 Q1 ∧
 True)) ∧
 (decide ((↑x_4 : Int) < (16 : Int)) = false →
 ((0 : Int) ≤ (16 : Int) ∧
 (16 : Int) < (↑(itemsN (cutIn s)) : Int)) ∧
 (16 : Nat) < itemsN (cutIn s) ∧
 (itemAt (cutIn s) 16).length < (9223372036854775808 : Nat) ∧
 (plainB (itemAt (cutIn s) 16) = true →
 (decide (shapeK s = (0 : Int)) = true →
 sameVal (SV.tup [SV.agg [SV.int .i64 false 3, SV.str false [], SV.str false (cutIn (itemAt (cutIn s) 16)), SV.str false (rdI (cutIn s) x_4 0), SV.str false (rdI (cutIn s) x_4 1), SV.str false (rdI (cutIn s) x_4 2), SV.str false (rdI (cutIn s) x_4 3), SV.str false (rdI (cutIn s) x_4 4), SV.str false (rdI (cutIn s) x_4 5), SV.str false (rdI (cutIn s) x_4 6), SV.str false (rdI (cutIn s) x_4 7), SV.str false (rdI (cutIn s) x_4 8), SV.str false (rdI (cutIn s) x_4 9), SV.str false (rdI (cutIn s) x_4 10), SV.str false (rdI (cutIn s) x_4 11), SV.str false (rdI (cutIn s) x_4 12), SV.str false (rdI (cutIn s) x_4 13), SV.str false (rdI (cutIn s) x_4 14), SV.str false (rdI (cutIn s) x_4 15)], SV.bool true true]) Q9) ∧
 (decide (shapeK s = (0 : Int)) = false →
 (decide (shapeK s = (1 : Int)) = true →
 sameVal (SV.tup [SV.agg [SV.int .i64 false 3, SV.str false [], SV.str false (cutIn (itemAt (cutIn s) 16)), SV.str false (rdI (cutIn s) x_4 0), SV.str false (rdI (cutIn s) x_4 1), SV.str false (rdI (cutIn s) x_4 2), SV.str false (rdI (cutIn s) x_4 3), SV.str false (rdI (cutIn s) x_4 4), SV.str false (rdI (cutIn s) x_4 5), SV.str false (rdI (cutIn s) x_4 6), SV.str false (rdI (cutIn s) x_4 7), SV.str false (rdI (cutIn s) x_4 8), SV.str false (rdI (cutIn s) x_4 9), SV.str false (rdI (cutIn s) x_4 10), SV.str false (rdI (cutIn s) x_4 11), SV.str false (rdI (cutIn s) x_4 12), SV.str false (rdI (cutIn s) x_4 13), SV.str false (rdI (cutIn s) x_4 14), SV.str false (rdI (cutIn s) x_4 15)], SV.bool true true]) Q7) ∧
 (decide (shapeK s = (1 : Int)) = false →
 (decide (shapeK s = (2 : Int)) = true →
 sameVal (SV.tup [SV.agg [SV.int .i64 false 3, SV.str false [], SV.str false (cutIn (itemAt (cutIn s) 16)), SV.str false (rdI (cutIn s) x_4 0), SV.str false (rdI (cutIn s) x_4 1), SV.str false (rdI (cutIn s) x_4 2), SV.str false (rdI (cutIn s) x_4 3), SV.str false (rdI (cutIn s) x_4 4), SV.str false (rdI (cutIn s) x_4 5), SV.str false (rdI (cutIn s) x_4 6), SV.str false (rdI (cutIn s) x_4 7), SV.str false (rdI (cutIn s) x_4 8), SV.str false (rdI (cutIn s) x_4 9), SV.str false (rdI (cutIn s) x_4 10), SV.str false (rdI (cutIn s) x_4 11), SV.str false (rdI (cutIn s) x_4 12), SV.str false (rdI (cutIn s) x_4 13), SV.str false (rdI (cutIn s) x_4 14), SV.str false (rdI (cutIn s) x_4 15)], SV.bool true true]) Q8) ∧
 (decide (shapeK s = (2 : Int)) = false →
 (decide (shapeK s = (3 : Int)) = true →
 sameVal (SV.tup [SV.agg [SV.int .i64 false 3, SV.str false [], SV.str false (cutIn (itemAt (cutIn s) 16)), SV.str false (rdI (cutIn s) x_4 0), SV.str false (rdI (cutIn s) x_4 1), SV.str false (rdI (cutIn s) x_4 2), SV.str false (rdI (cutIn s) x_4 3), SV.str false (rdI (cutIn s) x_4 4), SV.str false (rdI (cutIn s) x_4 5), SV.str false (rdI (cutIn s) x_4 6), SV.str false (rdI (cutIn s) x_4 7), SV.str false (rdI (cutIn s) x_4 8), SV.str false (rdI (cutIn s) x_4 9), SV.str false (rdI (cutIn s) x_4 10), SV.str false (rdI (cutIn s) x_4 11), SV.str false (rdI (cutIn s) x_4 12), SV.str false (rdI (cutIn s) x_4 13), SV.str false (rdI (cutIn s) x_4 14), SV.str false (rdI (cutIn s) x_4 15)], SV.bool true true]) Q6) ∧
 (decide (shapeK s = (3 : Int)) = false →
 ∃ (x : Nd), sameVal (SV.tup [SV.agg [SV.int .i64 false 3, SV.str false [], SV.str false (cutIn (itemAt (cutIn s) 16)), SV.str false (rdI (cutIn s) x_4 0), SV.str false (rdI (cutIn s) x_4 1), SV.str false (rdI (cutIn s) x_4 2), SV.str false (rdI (cutIn s) x_4 3), SV.str false (rdI (cutIn s) x_4 4), SV.str false (rdI (cutIn s) x_4 5), SV.str false (rdI (cutIn s) x_4 6), SV.str false (rdI (cutIn s) x_4 7), SV.str false (rdI (cutIn s) x_4 8), SV.str false (rdI (cutIn s) x_4 9), SV.str false (rdI (cutIn s) x_4 10), SV.str false (rdI (cutIn s) x_4 11), SV.str false (rdI (cutIn s) x_4 12), SV.str false (rdI (cutIn s) x_4 13), SV.str false (rdI (cutIn s) x_4 14), SV.str false (rdI (cutIn s) x_4 15)], SV.bool true true]) (SV.tup [x.sv, SV.bool true false])))))) ∧
 (plainB (itemAt (cutIn s) 16) = false →
 (decide (shapeK s = (0 : Int)) = true →
 sameVal (SV.tup [SV.agg [SV.int .i64 false 3, SV.str false [], SV.str true [], SV.str false (rdI (cutIn s) x_4 0), SV.str false (rdI (cutIn s) x_4 1), SV.str false (rdI (cutIn s) x_4 2), SV.str false (rdI (cutIn s) x_4 3), SV.str false (rdI (cutIn s) x_4 4), SV.str false (rdI (cutIn s) x_4 5), SV.str false (rdI (cutIn s) x_4 6), SV.str false (rdI (cutIn s) x_4 7), SV.str false (rdI (cutIn s) x_4 8), SV.str false (rdI (cutIn s) x_4 9), SV.str false (rdI (cutIn s) x_4 10), SV.str false (rdI (cutIn s) x_4 11), SV.str false (rdI (cutIn s) x_4 12), SV.str false (rdI (cutIn s) x_4 13), SV.str false (rdI (cutIn s) x_4 14), SV.str false (rdI (cutIn s) x_4 15)], SV.bool true false]) Q9) ∧
 (decide (shapeK s = (0 : Int)) = false →
 (decide (shapeK s = (1 : Int)) = true →
 sameVal (SV.tup [SV.agg [SV.int .i64 false 3, SV.str false [], SV.str true [], SV.str false (rdI (cutIn s) x_4 0), SV.str false (rdI (cutIn s) x_4 1), SV.str false (rdI (cutIn s) x_4 2), SV.str false (rdI (cutIn s) x_4 3), SV.str false (rdI (cutIn s) x_4 4), SV.str false (rdI (cutIn s) x_4 5), SV.str false (rdI (cutIn s) x_4 6), SV.str false (rdI (cutIn s) x_4 7), SV.str false (rdI (cutIn s) x_4 8), SV.str false (rdI (cutIn s) x_4 9), SV.str false (rdI (cutIn s) x_4 10), SV.str false (rdI (cutIn s) x_4 11), SV.str false (rdI (cutIn s) x_4 12), SV.str false (rdI (cutIn s) x_4 13), SV.str false (rdI (cutIn s) x_4 14), SV.str false (rdI (cutIn s) x_4 15)], SV.bool true false]) Q7) ∧
 (decide (shapeK s = (1 : Int)) = false →
 (decide (shapeK s = (2 : Int)) = true →
 sameVal (SV.tup [SV.agg [SV.int .i64 false 3, SV.str false [], SV.str true [], SV.str false (rdI (cutIn s) x_4 0), SV.str false (rdI (cutIn s) x_4 1), SV.str false (rdI (cutIn s) x_4 2), SV.str false (rdI (cutIn s) x_4 3), SV.str false (rdI (cutIn s) x_4 4), SV.str false (rdI (cutIn s) x_4 5), SV.str false (rdI (cutIn s) x_4 6), SV.str false (rdI (cutIn s) x_4 7), SV.str false (rdI (cutIn s) x_4 8), SV.str false (rdI (cutIn s) x_4 9), SV.str false (rdI (cutIn s) x_4 10), SV.str false (rdI (cutIn s) x_4 11), SV.str false (rdI (cutIn s) x_4 12), SV.str false (rdI (cutIn s) x_4 13), SV.str false (rdI (cutIn s) x_4 14), SV.str false (rdI (cutIn s) x_4 15)], SV.bool true false]) Q8) ∧
 (decide (shapeK s = (2 : Int)) = false →
 (decide (shapeK s = (3 : Int)) = true →
 sameVal (SV.tup [SV.agg [SV.int .i64 false 3, SV.str false [], SV.str true [], SV.str false (rdI (cutIn s) x_4 0), SV.str false (rdI (cutIn s) x_4 1), SV.str false (rdI (cutIn s) x_4 2), SV.str false (rdI (cutIn s) x_4 3), SV.str false (rdI (cutIn s) x_4 4), SV.str false (rdI (cutIn s) x_4 5), SV.str false (rdI (cutIn s) x_4 6), SV.str false (rdI (cutIn s) x_4 7), SV.str false (rdI (cutIn s) x_4 8), SV.str false (rdI (cutIn s) x_4 9), SV.str false (rdI (cutIn s) x_4 10), SV.str false (rdI (cutIn s) x_4 11), SV.str false (rdI (cutIn s) x_4 12), SV.str false (rdI (cutIn s) x_4 13), SV.str false (rdI (cutIn s) x_4 14), SV.str false (rdI (cutIn s) x_4 15)], SV.bool true false]) Q6) ∧
 (decide (shapeK s = (3 : Int)) = false →
 ∃ (x : Nd), sameVal (SV.tup [SV.agg [SV.int .i64 false 3, SV.str false [], SV.str true [], SV.str false (rdI (cutIn s) x_4 0), SV.str false (rdI (cutIn s) x_4 1), SV.str false (rdI (cutIn s) x_4 2), SV.str false (rdI (cutIn s) x_4 3), SV.str false (rdI (cutIn s) x_4 4), SV.str false (rdI (cutIn s) x_4 5), SV.str false (rdI (cutIn s) x_4 6), SV.str false (rdI (cutIn s) x_4 7), SV.str false (rdI (cutIn s) x_4 8), SV.str false (rdI (cutIn s) x_4 9), SV.str false (rdI (cutIn s) x_4 10), SV.str false (rdI (cutIn s) x_4 11), SV.str false (rdI (cutIn s) x_4 12), SV.str false (rdI (cutIn s) x_4 13), SV.str false (rdI (cutIn s) x_4 14), SV.str false (rdI (cutIn s) x_4 15)], SV.bool true false]) (SV.tup [x.sv, SV.bool true false])))))))) ∧
 (decide ((↑(itemsN (cutIn s)) : Int) = (17 : Int)) = false →
 (decide (shapeK s = (0 : Int)) = true →
 sameVal Q0 Q9) ∧
 (decide (shapeK s = (0 : Int)) = false →
 (decide (shapeK s = (1 : Int)) = true →
 sameVal Q0 Q7) ∧
 (decide (shapeK s = (1 : Int)) = false →
 (decide (shapeK s = (2 : Int)) = true →
 sameVal Q0 Q8) ∧
 (decide (shapeK s = (2 : Int)) = false →
 (decide (shapeK s = (3 : Int)) = true →
 sameVal Q0 Q6) ∧
 (decide (shapeK s = (3 : Int)) = false →
 ∃ (x : Nd), sameVal Q0 (SV.tup [x.sv, SV.bool true false])))))))) ∧
 (itemsB (cutIn s) = false →
 (decide (shapeK s = (0 : Int)) = true →
 sameVal Q0 Q9) ∧
 (decide (shapeK s = (0 : Int)) = false →
 (decide (shapeK s = (1 : Int)) = true →
 sameVal Q0 Q7) ∧
 (decide (shapeK s = (1 : Int)) = false →
 (decide (shapeK s = (2 : Int)) = true →
 sameVal Q0 Q8) ∧
 (decide (shapeK s = (2 : Int)) = false →
 (decide (shapeK s = (3 : Int)) = true →
 sameVal Q0 Q6) ∧
 (decide (shapeK s = (3 : Int)) = false →
 ∃ (x : Nd), sameVal Q0 (SV.tup [x.sv, SV.bool true false]))))))))) ∧
 (cutB s = false →
 (decide (shapeK s = (0 : Int)) = true →
 sameVal Q0 Q9) ∧
 (decide (shapeK s = (0 : Int)) = false →
 (decide (shapeK s = (1 : Int)) = true →
 sameVal Q0 Q7) ∧
 (decide (shapeK s = (1 : Int)) = false →
 (decide (shapeK s = (2 : Int)) = true →
 sameVal Q0 Q8) ∧
 (decide (shapeK s = (2 : Int)) = false →
 (decide (shapeK s = (3 : Int)) = true →
 sameVal Q0 Q6) ∧
 (decide (shapeK s = (3 : Int)) = false →
 ∃ (x : Nd), sameVal Q0 (SV.tup [x.sv, SV.bool true false]))))))))) (SV.tup [zeroN, SV.bool true true]))) (SV.tup [(rdExt s).svL true 2, SV.bool true true]))) (SV.tup [(rdLeaf s).svL true 1, SV.bool true true]))) (SV.tup [(rdBranch s).svL true 3, SV.bool true true]))) (SV.tup [SV.agg [SV.int .i64 true 0, SV.str true [], SV.str true [], SV.str true [], SV.str true [], SV.str true [], SV.str true [], SV.str true [], SV.str true [], SV.str true [], SV.str true [], SV.str true [], SV.str true [], SV.str true [], SV.str true [], SV.str true [], SV.str true [], SV.str true [], SV.str true []], SV.bool true true]))) (SV.tup [SV.agg [SV.int .i64 true 1, SV.str false (ngetP (cutIn (itemAt (cutIn s) 0))), SV.str true [], SV.str true [], SV.str true [], SV.str true [], SV.str true [], SV.str true [], SV.str true [], SV.str true [], SV.str true [], SV.str true [], SV.str true [], SV.str true [], SV.str true [], SV.str true [], SV.str true [], SV.str true [], SV.str true []], SV.bool true false]))) (SV.tup [SV.agg [SV.int .i64 true 2, SV.str false (ngetP (cutIn (itemAt (cutIn s) 0))), SV.str true [], Col.at 1 (Col.str (itemAt (cutIn s))), SV.str true [], SV.str true [], SV.str true [], SV.str true [], SV.str true [], SV.str true [], SV.str true [], SV.str true [], SV.str true [], SV.str true [], SV.str true [], SV.str true [], SV.str true [], SV.str true [], SV.str true []], SV.bool true true]))) (SV.tup [SV.agg [SV.int .i64 true 1, SV.str false (ngetP (cutIn (itemAt (cutIn s) 0))), SV.str false (cutIn (itemAt (cutIn s) 1)), SV.str true [], SV.str true [], SV.str true [], SV.str true [], SV.str true [], SV.str true [], SV.str true [], SV.str true [], SV.str true [], SV.str true [], SV.str true [], SV.str true [], SV.str true [], SV.str true [], SV.str true [], SV.str true []], SV.bool true true]))) (SB.cells (SV.agg [SV.int .i64 true 0, SV.str true [], SV.str true [], SV.str true [], SV.str true [], SV.str true [], SV.str true [], SV.str true [], SV.str true [], SV.str true [], SV.str true [], SV.str true [], SV.str true [], SV.str true [], SV.str true [], SV.str true [], SV.str true [], SV.str true [], SV.str true []]).cells 19 25))) (SV.tup [SV.agg [SV.int .i64 true 0, SV.str true [], SV.str true [], SV.str true [], SV.str true [], SV.str true [], SV.str true [], SV.str true [], SV.str true [], SV.str true [], SV.str true [], SV.str true [], SV.str true [], SV.str true [], SV.str true [], SV.str true [], SV.str true [], SV.str true [], SV.str true []], SV.bool true false])) := by kernel_rfl
end Go.Proofs.YtmipbcadcoahlaaDoor
/-
  Node: the node that bytes look like: the contract.
-/
namespace Go.Proofs.YtmipbcadcoahlaaDoor
open Go Sx
set_option maxRecDepth 20000

/-- The five ways of an answer. -/
def Fit5 (k : Int) (A B C D E : Prop) : Prop := (decide (k = 0) = true → A) ∧ (decide (k = 0) = false → (decide (k = 1) = true → B) ∧ (decide (k = 1) = false → (decide (k = 2) = true → C) ∧ (decide (k = 2) = false → (decide (k = 3) = true → D) ∧ (decide (k = 3) = false → E))))
theorem fit0 {k : Int} {A B C D E : Prop} (h : k = 0) (a : A) : Fit5 k A B C D E := by subst h; exact ⟨fun _ => a, fun h => absurd h (by decide)⟩
theorem fit1 {k : Int} {A B C D E : Prop} (h : k = 1) (a : B) : Fit5 k A B C D E := by subst h; exact ⟨fun h => absurd h (by decide), fun _ => ⟨fun _ => a, fun h => absurd h (by decide)⟩⟩
theorem fit2 {k : Int} {A B C D E : Prop} (h : k = 2) (a : C) : Fit5 k A B C D E := by subst h; exact ⟨fun h => absurd h (by decide), fun _ => ⟨fun h => absurd h (by decide), fun _ => ⟨fun _ => a, fun h => absurd h (by decide)⟩⟩⟩
theorem fit3 {k : Int} {A B C D E : Prop} (h : k = 3) (a : D) : Fit5 k A B C D E := by subst h; exact ⟨fun h => absurd h (by decide), fun _ => ⟨fun h => absurd h (by decide), fun _ => ⟨fun h => absurd h (by decide), fun _ => ⟨fun _ => a, fun h => absurd h (by decide)⟩⟩⟩⟩
theorem fitN {k : Int} {A B C D E : Prop} (h : k = -1) (a : E) : Fit5 k A B C D E := by subst h; exact ⟨fun h => absurd h (by decide), fun _ => ⟨fun h => absurd h (by decide), fun _ => ⟨fun h => absurd h (by decide), fun _ => ⟨fun h => absurd h (by decide), fun _ => a⟩⟩⟩⟩
theorem rdC_le {f g : Nat → List UInt8} {tot : Nat} {ty : TypeId} (h : ∀ j, j < 16 → f j = g j) : SBle (.cells [.int .i64 false 3, .str false [], .str false [], .str false (f 0), .str false (f 1), .str false (f 2), .str false (f 3), .str false (f 4), .str false (f 5), .str false (f 6), .str false (f 7), .str false (f 8), .str false (f 9), .str false (f 10), .str false (f 11), .str false (f 12), .str false (f 13), .str false (f 14), .str false (f 15)] tot ty) (.cells [.int .i64 false 3, .str false [], .str false [], .str false (g 0), .str false (g 1), .str false (g 2), .str false (g 3), .str false (g 4), .str false (g 5), .str false (g 6), .str false (g 7), .str false (g 8), .str false (g 9), .str false (g 10), .str false (g 11), .str false (g 12), .str false (g 13), .str false (g 14), .str false (g 15)] tot ty) := by
  rw [h 0 (by decide), h 1 (by decide), h 2 (by decide), h 3 (by decide), h 4 (by decide), h 5 (by decide), h 6 (by decide), h 7 (by decide), h 8 (by decide), h 9 (by decide), h 10 (by decide), h 11 (by decide), h 12 (by decide), h 13 (by decide), h 14 (by decide), h 15 (by decide)]
  exact SBle.refl _
theorem rdI_step {t : List UInt8} {i : Nat} (h : itemAt t i ≠ [128]) (j : Nat) : (if i = j then itemAt t i else rdI t i j) = rdI t (i + 1) j := by
  unfold rdI
  by_cases e : i = j
  · subst e
    rw [if_pos rfl, if_pos (show i < i + 1 by omega), rdRef, if_neg h]
  · rw [if_neg e]
    by_cases e1 : j < i
    · rw [if_pos e1, if_pos (show j < i + 1 by omega)]
    · rw [if_neg e1, if_neg (show ¬ j < i + 1 by omega)]
theorem rdI_skip {t : List UInt8} {i : Nat} (h : itemAt t i = [128]) (j : Nat) : rdI t i j = rdI t (i + 1) j := by
  unfold rdI
  by_cases e : i = j
  · subst e
    rw [if_neg (show ¬ i < i by omega), if_pos (show i < i + 1 by omega), rdRef, if_pos h]
  · by_cases e1 : j < i
    · rw [if_pos e1, if_pos (show j < i + 1 by omega)]
    · rw [if_neg e1, if_neg (show ¬ j < i + 1 by omega)]
attribute [local irreducible] itemAt itemsN itemsB cutIn cutB cutRest cutL plainB ngetB ngetLeaf ngetP
theorem read_holds {s : List UInt8} (hs : s.length < 1099511627776) : Holds (runA (cfgRd s) 20 Tryd.f20 [.str false s] (readA s)) := by
  refine Holds.of_eq (vcRead s) ?_
  have hin := cutIn_le s
  have hit := itemAt_le (cutIn s)
  have hin2 := fun k => cutIn_le (itemAt (cutIn s) k)
  refine ⟨by omega, fun a => fit0 ?_ (fun _ => rfl), fun a => ⟨by omega, fun b => ⟨fun c => fitN ?_ ⟨zeroNd, fun _ => rfl⟩, fun c => ⟨fun d => fitN ?_ ⟨zeroNd, fun _ => rfl⟩, fun d => ⟨by omega, fun e => fun cap hcap => ⟨fun f => ?_, fun f => ⟨fun g => ?_, fun g => fitN ?_ ⟨zeroNd, fun _ => rfl⟩⟩⟩, fun e => fitN ?_ ⟨zeroNd, fun _ => rfl⟩⟩⟩⟩, fun b => fitN ?_ ⟨zeroNd, fun _ => rfl⟩⟩⟩
  · have a : s = [128] := of_decide_eq_true a
    rw [shapeK, if_pos a]
  · have a : ¬ s = [128] := of_decide_eq_false a
    have c : cutL s = false := by simpa using c
    rw [shapeK, if_neg a, b, c]; rfl
  · have a : ¬ s = [128] := of_decide_eq_false a
    have c : cutL s = true := by simpa using c
    have d : decide (cutRest s = []) = false := by simpa using d
    rw [shapeK, if_neg a, b, c, d]; rfl
  · have a : ¬ s = [128] := of_decide_eq_false a
    have c : cutL s = true := by simpa using c
    have d : decide (cutRest s = []) = true := by simpa using d
    have f := of_decide_eq_true f
    have f : itemsN (cutIn s) = 2 := by omega
    have hk : shapeK s = pairK (cutIn s) := by rw [shapeK, if_neg a, b, c, d, listK, e, if_pos f]; rfl
    have i0 := hit 0
    have i1 := hit 1
    have i2 := hin2 0
    refine ⟨by omega, by omega, by omega, by omega, by omega, fun g => ⟨by omega, fun h => ⟨fun k => fit2 ?_ (fun _ => rfl), fun k => ⟨by omega, fun l => fit1 ?_ (fun _ => rfl), fun l => fitN ?_ ⟨⟨1, ngetP (cutIn (itemAt (cutIn s) 0)), [], noRefs⟩, fun _ => rfl⟩⟩⟩, fun h => fitN ?_ ⟨zeroNd, fun _ => rfl⟩⟩, fun g => fitN ?_ ⟨zeroNd, fun _ => rfl⟩⟩
    · have k : ngetLeaf (cutIn (itemAt (cutIn s) 0)) = false := by simpa using k
      rw [hk, pairK, g, h, k]; rfl
    · have k : ngetLeaf (cutIn (itemAt (cutIn s) 0)) = true := by simpa using k
      rw [hk, pairK, g, h, k, l]; rfl
    · have k : ngetLeaf (cutIn (itemAt (cutIn s) 0)) = true := by simpa using k
      rw [hk, pairK, g, h, k, l]; rfl
    · rw [hk, pairK, g, h]; rfl
    · rw [hk, pairK, g]; rfl
  · have a : ¬ s = [128] := of_decide_eq_false a
    have c : cutL s = true := by simpa using c
    have d : decide (cutRest s = []) = true := by simpa using d
    have f := of_decide_eq_false f
    have f : ¬ itemsN (cutIn s) = 2 := by omega
    have g := of_decide_eq_true g
    have g : itemsN (cutIn s) = 17 := by omega
    have hk : shapeK s = bif plainB (itemAt (cutIn s) 16) then 3 else -1 := by rw [shapeK, if_neg a, b, c, d, listK, e, if_neg f, if_pos g]; rfl
    have i16 := hit 16
    refine ⟨⟨0, by omega, rfl, Sx.SBle.cells (fun E => rfl) rfl, SBle.refl _, SBle.refl _, SBle.refl _, trivial⟩, fun i hi => ⟨fun h => ?_, fun h => ?_⟩⟩
    · have h := of_decide_eq_true h
      rw [Int.toNat_natCast, Nat.zero_add]
      refine ⟨by omega, by omega, by omega, rfl, fun k => ⟨by omega, by omega, by omega, by omega, by omega, i + 1, by omega, by omega, ?_, SBle.refl _, SBle.refl _, SBle.refl _, trivial⟩, fun k => ⟨by omega, i + 1, by omega, by omega, ?_, SBle.refl _, SBle.refl _, SBle.refl _, trivial⟩⟩
      · have k : ¬ itemAt (cutIn s) i = [128] := by
          have : decide (itemAt (cutIn s) i = textOf []) = false := by simpa using k
          exact of_decide_eq_false this
        exact rdC_le (f := fun j => if i = j then itemAt (cutIn s) i else rdI (cutIn s) i j) fun j _ => rdI_step k j
      · have k : itemAt (cutIn s) i = [128] := by
          have : decide (itemAt (cutIn s) i = textOf []) = true := by simpa using k
          exact of_decide_eq_true this
        exact rdC_le fun j _ => rdI_skip k j
    · have h := of_decide_eq_false h
      have ei : i = 16 := by omega
      subst ei
      refine ⟨by omega, by omega, by omega, fun k => fit3 ?_ (fun _ => rfl), fun k => fitN ?_ ⟨⟨3, [], [], mk16 (rdRef (cutIn s))⟩, fun _ => rfl⟩⟩
      · rw [hk, k]; rfl
      · rw [hk, k]; rfl
  · have a : ¬ s = [128] := of_decide_eq_false a
    have c : cutL s = true := by simpa using c
    have d : decide (cutRest s = []) = true := by simpa using d
    have f := of_decide_eq_false f
    have f : ¬ itemsN (cutIn s) = 2 := by omega
    have g := of_decide_eq_false g
    have g : ¬ itemsN (cutIn s) = 17 := by omega
    rw [shapeK, if_neg a, b, c, d, listK, e, if_neg f, if_neg g]; rfl
  · have a : ¬ s = [128] := of_decide_eq_false a
    have c : cutL s = true := by simpa using c
    have d : decide (cutRest s = []) = true := by simpa using d
    rw [shapeK, if_neg a, b, c, d, listK, e]; rfl
  · have a : ¬ s = [128] := of_decide_eq_false a
    rw [shapeK, if_neg a, b]; rfl
def readSpec : List SV → Option (Prop × Ans)
  | [.str false s] => some (s.length < 1099511627776, readA s)
  | _ => none
theorem read_ok : CallOk Tryd.prog 20 (ansPT readSpec) := by
  refine ans_ok (n := 20) (fn := Tryd.f20) Tryd.func20 (by kernel_rfl) (by kernel_rfl) ?_
  intro args p a h hp
  unfold readSpec at h
  split at h
  · rename_i s
    injection h with h; injection h with h1 h2; subst h1; subst h2
    refine ⟨_, goodRd s, rfl, fun b => ?_, read_holds hp⟩
    cases b with
    | true => exact rfl
    | false =>
      intro b
      cases b with
      | true => exact rfl
      | false =>
        intro b
        cases b with
        | true => exact rfl
        | false =>
          intro b
          cases b with
          | true => exact rfl
          | false => exact fun x => rfl
  · cases h
end Go.Proofs.YtmipbcadcoahlaaDoor
