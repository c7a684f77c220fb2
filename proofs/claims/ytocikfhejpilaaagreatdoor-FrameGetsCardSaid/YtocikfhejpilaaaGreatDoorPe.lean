/-
  Conditions that the executor computes, written out by a program (vcgen.py).
-/
import Derived.Test.YtocikfhejpilaaaGreatDoorPd
namespace Go.Proofs.YtocikfhejpilaaaGreatDoor
open Go Sx
set_option maxRecDepth 20000

theorem vcFGR (s : List UInt8) : VC.holds (runA (cfgGR s) 21 Tryz.f21 [.str false s] (getReplyA s)) = ((fun Q0 : SB => ((fun Q1 : SB => ((fun Q2 : SB => ((fun Q3 : SV => ((fun Q4 : SV => ((fun Q5 : SV => ((fun Q6 : SB => ((fun Q7 : SB => ((fun Q8 : SB => ((fun Q9 : SB => ((fun Q10 : SB => ((fun Q11 : SV => ((fun Q12 : SB => ((s.length < (1152921504606846976 : Nat) ∧
 (cutB s = true →
 ((!cutL s) = true →
 ∃ (_y : Unit), getReplyB s = false ∧
 (0 : Nat) = (0 : Nat) ∧
 SBle Q7 (SB.cells [SV.nilslc, SV.int .i64 true 0, errW 0] 3 97) ∧
 SBle Q9 Q9 ∧
 SBle Q0 Q0 ∧
 SBle Q0 Q0 ∧
 True) ∧
 ((!cutL s) = false →
 ((!decide (cutRest s = [])) = true →
 ∃ (_y : Unit), getReplyB s = false ∧
 (0 : Nat) = (0 : Nat) ∧
 SBle Q7 (SB.cells [SV.nilslc, SV.int .i64 true 0, errW 0] 3 97) ∧
 SBle Q9 Q9 ∧
 SBle Q0 Q0 ∧
 SBle Q0 Q0 ∧
 True) ∧
 ((!decide (cutRest s = [])) = false →
 (cutIn s).length < (1099511627776 : Nat) ∧
 (itemsB (cutIn s) = true →
 ∀ (x : Nat), itemsN (cutIn s) ≤ x →
 ((!decide ((↑(itemsN (cutIn s)) : Int) = (9 : Int))) = true →
 ∃ (_y : Unit), getReplyB s = false ∧
 (0 : Nat) = (0 : Nat) ∧
 SBle Q7 (SB.cells [SV.nilslc, SV.int .i64 true 0, errW 0] 3 97) ∧
 SBle Q9 Q9 ∧
 SBle Q0 Q0 ∧
 SBle Q0 Q0 ∧
 True) ∧
 ((!decide ((↑(itemsN (cutIn s)) : Int) = (9 : Int))) = false →
 ∃ (y : Nat), (9 : Nat) ≤ y ∧
 (0 : Nat) = (0 : Nat) ∧
 (3 : Nat) = (3 : Nat) ∧
 ((0 : Nat) = (0 : Nat) ∧
 itemsN (cutIn s) = (9 : Nat) ∧
 x = y) ∧
 (0 : Nat) < itemsN (cutIn s) ∧
 (0 : Int) = (0 : Int) ∧
 SBle (SB.rows true (itemsN (cutIn s)) [Col.str (itemAt (cutIn s))] false x 9) (SB.cells (strs9 s) y 9) ∧
 SBle Q9 Q9 ∧
 SBle Q0 Q0 ∧
 SBle Q0 Q0 ∧
 True)) ∧
 (itemsB (cutIn s) = false →
 ∃ (_y : Unit), getReplyB s = false ∧
 (0 : Nat) = (0 : Nat) ∧
 SBle Q7 (SB.cells [SV.nilslc, SV.int .i64 true 0, errW 0] 3 97) ∧
 SBle Q9 Q9 ∧
 SBle Q0 Q0 ∧
 SBle Q0 Q0 ∧
 True)))) ∧
 (cutB s = false →
 ∃ (_y : Unit), getReplyB s = false ∧
 (0 : Nat) = (0 : Nat) ∧
 SBle Q7 (SB.cells [SV.nilslc, SV.int .i64 true 0, errW 0] 3 97) ∧
 SBle Q9 Q9 ∧
 SBle Q0 Q0 ∧
 SBle Q0 Q0 ∧
 True)) ∧
 (∀ (x : Nat), (9 : Nat) ≤ x →
 ((itemAt (cutIn s) 0).length < (1152921504606846976 : Nat) ∧
 (getB (itemAt (cutIn s) 0) = true →
 (decide ((1048577 : Int) < num (cutIn (itemAt (cutIn s) 0))) = true →
 (0 : Nat) < (1152921504606846976 : Nat) ∧
 (0 : Nat) < (1152921504606846976 : Nat) ∧
 ∃ (y : Int × Int × Int × Int), getReplyB s = false ∧
 SBle (SB.cells [SV.slc 4 0 9 false x, SV.int .i64 true 1, SV.iface 117 (SV.agg [SV.int .i64 true 1, SV.iface 24 (SV.int .i64 true 2)])] 3 97) (SB.cells [SV.slc 4 0 9 false x, SV.int .i64 false y.fst, errW y.fst] 3 97) ∧
 SBle Q8 (SB.cells [SV.int .i64 false y.snd.fst, SV.int .i64 false y.snd.snd.fst, SV.int .i64 true 0, SV.int .i64 true 0, SV.str true [], SV.nilslc, SV.str true [], SV.bool true false] 8 27) ∧
 SBle (SB.cells [SV.int .i64 true 0] 1 3) (SB.cells [SV.int .i64 false y.snd.snd.snd] 1 3) ∧
 SBle (SB.cells (strs9 s) x 9) (SB.cells (strs9 s) x 9) ∧
 SBle Q0 Q0 ∧
 True) ∧
 (decide ((1048577 : Int) < num (cutIn (itemAt (cutIn s) 0))) = false →
 ((-9223372036854775808 : Int) ≤ num (cutIn (itemAt (cutIn s) 0)) ∧
 num (cutIn (itemAt (cutIn s) 0)) ≤ (9223372036854775807 : Int)) ∧
 (itemAt (cutIn s) 1).length < (1152921504606846976 : Nat) ∧
 (getB (itemAt (cutIn s) 1) = true →
 (decide ((1048577 : Int) < num (cutIn (itemAt (cutIn s) 1))) = true →
 (0 : Nat) < (1152921504606846976 : Nat) ∧
 ∃ (y : Int × Int × Int × Int), getReplyB s = false ∧
 SBle (SB.cells [SV.slc 4 0 9 false x, SV.int .i64 true 2, SV.iface 117 (SV.agg [SV.int .i64 true 2, SV.iface 24 (SV.int .i64 true 2)])] 3 97) (SB.cells [SV.slc 4 0 9 false x, SV.int .i64 false y.fst, errW y.fst] 3 97) ∧
 SBle Q8 (SB.cells [SV.int .i64 false y.snd.fst, SV.int .i64 false y.snd.snd.fst, SV.int .i64 true 0, SV.int .i64 true 0, SV.str true [], SV.nilslc, SV.str true [], SV.bool true false] 8 27) ∧
 SBle (SB.cells [SV.int .i64 false (num (cutIn (itemAt (cutIn s) 0)))] 1 3) (SB.cells [SV.int .i64 false y.snd.snd.snd] 1 3) ∧
 SBle (SB.cells (strs9 s) x 9) (SB.cells (strs9 s) x 9) ∧
 SBle Q0 Q0 ∧
 True) ∧
 (decide ((1048577 : Int) < num (cutIn (itemAt (cutIn s) 1))) = false →
 ((-9223372036854775808 : Int) ≤ num (cutIn (itemAt (cutIn s) 1)) ∧
 num (cutIn (itemAt (cutIn s) 1)) ≤ (9223372036854775807 : Int)) ∧
 (itemAt (cutIn s) 2).length < (1152921504606846976 : Nat) ∧
 (getB (itemAt (cutIn s) 2) = true →
 (decide ((1048577 : Int) < num (cutIn (itemAt (cutIn s) 2))) = true →
 ∃ (y : Int × Int × Int × Int), getReplyB s = false ∧
 SBle (SB.cells [SV.slc 4 0 9 false x, SV.int .i64 true 3, SV.iface 117 (SV.agg [SV.int .i64 true 3, SV.iface 24 (SV.int .i64 true 2)])] 3 97) (SB.cells [SV.slc 4 0 9 false x, SV.int .i64 false y.fst, errW y.fst] 3 97) ∧
 SBle (SB.cells [SV.int .i64 false (num (cutIn (itemAt (cutIn s) 1))), SV.int .i64 true 0, SV.int .i64 true 0, SV.int .i64 true 0, SV.str true [], SV.nilslc, SV.str true [], SV.bool true false] 8 27) (SB.cells [SV.int .i64 false y.snd.fst, SV.int .i64 false y.snd.snd.fst, SV.int .i64 true 0, SV.int .i64 true 0, SV.str true [], SV.nilslc, SV.str true [], SV.bool true false] 8 27) ∧
 SBle (SB.cells [SV.int .i64 false (num (cutIn (itemAt (cutIn s) 0)))] 1 3) (SB.cells [SV.int .i64 false y.snd.snd.snd] 1 3) ∧
 SBle (SB.cells (strs9 s) x 9) (SB.cells (strs9 s) x 9) ∧
 SBle Q0 Q0 ∧
 True) ∧
 (decide ((1048577 : Int) < num (cutIn (itemAt (cutIn s) 2))) = false →
 ((-9223372036854775808 : Int) ≤ num (cutIn (itemAt (cutIn s) 2)) ∧
 num (cutIn (itemAt (cutIn s) 2)) ≤ (9223372036854775807 : Int)) ∧
 ∃ (_y : Unit), True ∧
 SBle (SB.cells [SV.slc 4 0 9 false x, SV.int .i64 true 3, SV.niliface] 3 97) (SB.cells [SV.slc 4 0 9 false x, SV.int .i64 true 3, SV.niliface] 3 97) ∧
 SBle (SB.cells [SV.int .i64 false (num (cutIn (itemAt (cutIn s) 1))), SV.int .i64 false (num (cutIn (itemAt (cutIn s) 2))), SV.int .i64 true 0, SV.int .i64 true 0, SV.str true [], SV.nilslc, SV.str true [], SV.bool true false] 8 27) Q12 ∧
 SBle (SB.cells [SV.int .i64 false (num (cutIn (itemAt (cutIn s) 0)))] 1 3) Q2 ∧
 SBle (SB.cells (strs9 s) x 9) (SB.cells (strs9 s) x 9) ∧
 SBle Q0 Q0 ∧
 True)) ∧
 (getB (itemAt (cutIn s) 2) = false →
 ∃ (y : Int × Int × Int × Int), getReplyB s = false ∧
 SBle (SB.cells [SV.slc 4 0 9 false x, SV.int .i64 true 3, SV.iface 117 (SV.agg [SV.int .i64 true 3, SV.iface 24 (SV.int .i64 true 2)])] 3 97) (SB.cells [SV.slc 4 0 9 false x, SV.int .i64 false y.fst, errW y.fst] 3 97) ∧
 SBle (SB.cells [SV.int .i64 false (num (cutIn (itemAt (cutIn s) 1))), SV.int .i64 true 0, SV.int .i64 true 0, SV.int .i64 true 0, SV.str true [], SV.nilslc, SV.str true [], SV.bool true false] 8 27) (SB.cells [SV.int .i64 false y.snd.fst, SV.int .i64 false y.snd.snd.fst, SV.int .i64 true 0, SV.int .i64 true 0, SV.str true [], SV.nilslc, SV.str true [], SV.bool true false] 8 27) ∧
 SBle (SB.cells [SV.int .i64 false (num (cutIn (itemAt (cutIn s) 0)))] 1 3) (SB.cells [SV.int .i64 false y.snd.snd.snd] 1 3) ∧
 SBle (SB.cells (strs9 s) x 9) (SB.cells (strs9 s) x 9) ∧
 SBle Q0 Q0 ∧
 True))) ∧
 (getB (itemAt (cutIn s) 1) = false →
 (0 : Nat) < (1152921504606846976 : Nat) ∧
 ∃ (y : Int × Int × Int × Int), getReplyB s = false ∧
 SBle (SB.cells [SV.slc 4 0 9 false x, SV.int .i64 true 2, SV.iface 117 (SV.agg [SV.int .i64 true 2, SV.iface 24 (SV.int .i64 true 2)])] 3 97) (SB.cells [SV.slc 4 0 9 false x, SV.int .i64 false y.fst, errW y.fst] 3 97) ∧
 SBle Q8 (SB.cells [SV.int .i64 false y.snd.fst, SV.int .i64 false y.snd.snd.fst, SV.int .i64 true 0, SV.int .i64 true 0, SV.str true [], SV.nilslc, SV.str true [], SV.bool true false] 8 27) ∧
 SBle (SB.cells [SV.int .i64 false (num (cutIn (itemAt (cutIn s) 0)))] 1 3) (SB.cells [SV.int .i64 false y.snd.snd.snd] 1 3) ∧
 SBle (SB.cells (strs9 s) x 9) (SB.cells (strs9 s) x 9) ∧
 SBle Q0 Q0 ∧
 True))) ∧
 (getB (itemAt (cutIn s) 0) = false →
 (0 : Nat) < (1152921504606846976 : Nat) ∧
 (0 : Nat) < (1152921504606846976 : Nat) ∧
 ∃ (y : Int × Int × Int × Int), getReplyB s = false ∧
 SBle (SB.cells [SV.slc 4 0 9 false x, SV.int .i64 true 1, SV.iface 117 (SV.agg [SV.int .i64 true 1, SV.iface 24 (SV.int .i64 true 2)])] 3 97) (SB.cells [SV.slc 4 0 9 false x, SV.int .i64 false y.fst, errW y.fst] 3 97) ∧
 SBle Q8 (SB.cells [SV.int .i64 false y.snd.fst, SV.int .i64 false y.snd.snd.fst, SV.int .i64 true 0, SV.int .i64 true 0, SV.str true [], SV.nilslc, SV.str true [], SV.bool true false] 8 27) ∧
 SBle (SB.cells [SV.int .i64 true 0] 1 3) (SB.cells [SV.int .i64 false y.snd.snd.snd] 1 3) ∧
 SBle (SB.cells (strs9 s) x 9) (SB.cells (strs9 s) x 9) ∧
 SBle Q0 Q0 ∧
 True)) ∧
 (∀ (x_2 : Unit), True →
 ((itemAt (cutIn s) 3).length < (1152921504606846976 : Nat) ∧
 (getB (itemAt (cutIn s) 3) = true →
 (decide ((1048577 : Int) < num (cutIn (itemAt (cutIn s) 3))) = true →
 ∃ (y : Int × Int), getReplyB s = false ∧
 SBle (SB.cells [SV.slc 4 0 9 false x, SV.int .i64 true 4, SV.iface 117 (SV.agg [SV.int .i64 true 4, SV.iface 24 (SV.int .i64 true 2)])] 3 97) (SB.cells [SV.slc 4 0 9 false x, SV.int .i64 false y.fst, errW y.fst] 3 97) ∧
 SBle Q12 (SB.cells [SV.int .i64 false (numI (itOf s 1)), SV.int .i64 false (numI (itOf s 2)), SV.int .i64 false y.snd, SV.int .i64 true 0, SV.str true [], SV.nilslc, SV.str true [], SV.bool true false] 8 27) ∧
 SBle Q2 Q2 ∧
 SBle (SB.cells (strs9 s) x 9) (SB.cells (strs9 s) x 9) ∧
 SBle Q0 Q0 ∧
 True) ∧
 (decide ((1048577 : Int) < num (cutIn (itemAt (cutIn s) 3))) = false →
 ((-9223372036854775808 : Int) ≤ num (cutIn (itemAt (cutIn s) 3)) ∧
 num (cutIn (itemAt (cutIn s) 3)) ≤ (9223372036854775807 : Int)) ∧
 ∃ (_y : Unit), True ∧
 SBle (SB.cells [SV.slc 4 0 9 false x, SV.int .i64 true 4, SV.niliface] 3 97) (SB.cells [SV.slc 4 0 9 false x, SV.int .i64 true 4, SV.niliface] 3 97) ∧
 SBle (SB.cells [SV.int .i64 false (numI (itOf s 1)), SV.int .i64 false (numI (itOf s 2)), SV.int .i64 false (num (cutIn (itemAt (cutIn s) 3))), SV.int .i64 true 0, SV.str true [], SV.nilslc, SV.str true [], SV.bool true false] 8 27) Q10 ∧
 SBle Q2 Q2 ∧
 SBle (SB.cells (strs9 s) x 9) (SB.cells (strs9 s) x 9) ∧
 SBle Q0 Q0 ∧
 True)) ∧
 (getB (itemAt (cutIn s) 3) = false →
 ∃ (y : Int × Int), getReplyB s = false ∧
 SBle (SB.cells [SV.slc 4 0 9 false x, SV.int .i64 true 4, SV.iface 117 (SV.agg [SV.int .i64 true 4, SV.iface 24 (SV.int .i64 true 2)])] 3 97) (SB.cells [SV.slc 4 0 9 false x, SV.int .i64 false y.fst, errW y.fst] 3 97) ∧
 SBle Q12 (SB.cells [SV.int .i64 false (numI (itOf s 1)), SV.int .i64 false (numI (itOf s 2)), SV.int .i64 false y.snd, SV.int .i64 true 0, SV.str true [], SV.nilslc, SV.str true [], SV.bool true false] 8 27) ∧
 SBle Q2 Q2 ∧
 SBle (SB.cells (strs9 s) x 9) (SB.cells (strs9 s) x 9) ∧
 SBle Q0 Q0 ∧
 True)) ∧
 (∀ (x_4 : Unit), True →
 ((itemAt (cutIn s) 4).length < (1152921504606846976 : Nat) ∧
 (getB (itemAt (cutIn s) 4) = true →
 (decide ((1048577 : Int) < num (cutIn (itemAt (cutIn s) 4))) = true →
 ∃ (y : Int × Int), getReplyB s = false ∧
 SBle (SB.cells [SV.slc 4 0 9 false x, SV.int .i64 true 5, SV.iface 117 (SV.agg [SV.int .i64 true 5, SV.iface 24 (SV.int .i64 true 2)])] 3 97) (SB.cells [SV.slc 4 0 9 false x, SV.int .i64 false y.fst, errW y.fst] 3 97) ∧
 SBle Q10 (SB.cells [SV.int .i64 false (numI (itOf s 1)), SV.int .i64 false (numI (itOf s 2)), SV.int .i64 false (numI (itOf s 3)), SV.int .i64 false y.snd, SV.str true [], SV.nilslc, SV.str true [], SV.bool true false] 8 27) ∧
 SBle Q2 Q2 ∧
 SBle (SB.cells (strs9 s) x 9) (SB.cells (strs9 s) x 9) ∧
 SBle Q0 Q0 ∧
 True) ∧
 (decide ((1048577 : Int) < num (cutIn (itemAt (cutIn s) 4))) = false →
 ((-9223372036854775808 : Int) ≤ num (cutIn (itemAt (cutIn s) 4)) ∧
 num (cutIn (itemAt (cutIn s) 4)) ≤ (9223372036854775807 : Int)) ∧
 ∃ (_y : Unit), True ∧
 SBle (SB.cells [SV.slc 4 0 9 false x, SV.int .i64 true 5, SV.niliface] 3 97) (SB.cells [SV.slc 4 0 9 false x, SV.int .i64 true 5, SV.niliface] 3 97) ∧
 SBle (SB.cells [SV.int .i64 false (numI (itOf s 1)), SV.int .i64 false (numI (itOf s 2)), SV.int .i64 false (numI (itOf s 3)), SV.int .i64 false (num (cutIn (itemAt (cutIn s) 4))), SV.str true [], SV.nilslc, SV.str true [], SV.bool true false] 8 27) Q6 ∧
 SBle Q2 Q2 ∧
 SBle (SB.cells (strs9 s) x 9) (SB.cells (strs9 s) x 9) ∧
 SBle Q0 Q0 ∧
 True)) ∧
 (getB (itemAt (cutIn s) 4) = false →
 ∃ (y : Int × Int), getReplyB s = false ∧
 SBle (SB.cells [SV.slc 4 0 9 false x, SV.int .i64 true 5, SV.iface 117 (SV.agg [SV.int .i64 true 5, SV.iface 24 (SV.int .i64 true 2)])] 3 97) (SB.cells [SV.slc 4 0 9 false x, SV.int .i64 false y.fst, errW y.fst] 3 97) ∧
 SBle Q10 (SB.cells [SV.int .i64 false (numI (itOf s 1)), SV.int .i64 false (numI (itOf s 2)), SV.int .i64 false (numI (itOf s 3)), SV.int .i64 false y.snd, SV.str true [], SV.nilslc, SV.str true [], SV.bool true false] 8 27) ∧
 SBle Q2 Q2 ∧
 SBle (SB.cells (strs9 s) x 9) (SB.cells (strs9 s) x 9) ∧
 SBle Q0 Q0 ∧
 True)) ∧
 (∀ (x_6 : Unit), True →
 ((itemAt (cutIn s) 5).length < (1152921504606846976 : Nat) ∧
 (cutB (itemAt (cutIn s) 5) = true →
 (cutL (itemAt (cutIn s) 5) = true →
 ∃ (y : Int × List UInt8), getReplyB s = false ∧
 SBle (SB.cells [SV.slc 4 0 9 false x, SV.int .i64 true 6, SV.iface 117 (SV.agg [SV.int .i64 true 6, SV.iface 24 (SV.int .i64 true 2)])] 3 97) (SB.cells [SV.slc 4 0 9 false x, SV.int .i64 false y.fst, errW y.fst] 3 97) ∧
 SBle Q6 (SB.cells [SV.int .i64 false (numI (itOf s 1)), SV.int .i64 false (numI (itOf s 2)), SV.int .i64 false (numI (itOf s 3)), SV.int .i64 false (numI (itOf s 4)), SV.str false y.snd, SV.nilslc, SV.str true [], SV.bool true false] 8 27) ∧
 SBle Q2 Q2 ∧
 SBle (SB.cells (strs9 s) x 9) (SB.cells (strs9 s) x 9) ∧
 SBle Q0 Q0 ∧
 True) ∧
 (cutL (itemAt (cutIn s) 5) = false →
 ((!decide (cutRest (itemAt (cutIn s) 5) = [])) = true →
 ∃ (y : Int × List UInt8), getReplyB s = false ∧
 SBle (SB.cells [SV.slc 4 0 9 false x, SV.int .i64 true 6, SV.iface 117 (SV.agg [SV.int .i64 true 6, SV.iface 24 (SV.int .i64 true 2)])] 3 97) (SB.cells [SV.slc 4 0 9 false x, SV.int .i64 false y.fst, errW y.fst] 3 97) ∧
 SBle Q6 (SB.cells [SV.int .i64 false (numI (itOf s 1)), SV.int .i64 false (numI (itOf s 2)), SV.int .i64 false (numI (itOf s 3)), SV.int .i64 false (numI (itOf s 4)), SV.str false y.snd, SV.nilslc, SV.str true [], SV.bool true false] 8 27) ∧
 SBle Q2 Q2 ∧
 SBle (SB.cells (strs9 s) x 9) (SB.cells (strs9 s) x 9) ∧
 SBle Q0 Q0 ∧
 True) ∧
 ((!decide (cutRest (itemAt (cutIn s) 5) = [])) = false →
 ∃ (_y : Unit), True ∧
 SBle (SB.cells [SV.slc 4 0 9 false x, SV.int .i64 true 6, SV.niliface] 3 97) (SB.cells [SV.slc 4 0 9 false x, SV.int .i64 true 6, SV.niliface] 3 97) ∧
 SBle (SB.cells [SV.int .i64 false (numI (itOf s 1)), SV.int .i64 false (numI (itOf s 2)), SV.int .i64 false (numI (itOf s 3)), SV.int .i64 false (numI (itOf s 4)), SV.str false (cutIn (itemAt (cutIn s) 5)), SV.nilslc, SV.str true [], SV.bool true false] 8 27) Q1 ∧
 SBle Q2 Q2 ∧
 SBle (SB.cells (strs9 s) x 9) (SB.cells (strs9 s) x 9) ∧
 SBle Q0 Q0 ∧
 True))) ∧
 (cutB (itemAt (cutIn s) 5) = false →
 ∃ (y : Int × List UInt8), getReplyB s = false ∧
 SBle (SB.cells [SV.slc 4 0 9 false x, SV.int .i64 true 6, SV.iface 117 (SV.agg [SV.int .i64 true 6, SV.iface 24 (SV.int .i64 true 2)])] 3 97) (SB.cells [SV.slc 4 0 9 false x, SV.int .i64 false y.fst, errW y.fst] 3 97) ∧
 SBle Q6 (SB.cells [SV.int .i64 false (numI (itOf s 1)), SV.int .i64 false (numI (itOf s 2)), SV.int .i64 false (numI (itOf s 3)), SV.int .i64 false (numI (itOf s 4)), SV.str false y.snd, SV.nilslc, SV.str true [], SV.bool true false] 8 27) ∧
 SBle Q2 Q2 ∧
 SBle (SB.cells (strs9 s) x 9) (SB.cells (strs9 s) x 9) ∧
 SBle Q0 Q0 ∧
 True)) ∧
 (∀ (_x_8 : Unit), True →
 ((itemAt (cutIn s) 6).length < (1152921504606846976 : Nat) ∧
 (cutB (itemAt (cutIn s) 6) = true →
 ((!cutL (itemAt (cutIn s) 6)) = true →
 ∃ (y : Int), getReplyB s = false ∧
 SBle (SB.cells [SV.slc 4 0 9 false x, SV.int .i64 true 7, SV.iface 117 Q5] 3 97) (SB.cells [SV.slc 4 0 9 false x, SV.int .i64 false y, errW y] 3 97) ∧
 SBle Q1 Q1 ∧
 SBle Q2 Q2 ∧
 SBle (SB.cells (strs9 s) x 9) (SB.cells (strs9 s) x 9) ∧
 SBle Q0 Q0 ∧
 True) ∧
 ((!cutL (itemAt (cutIn s) 6)) = false →
 ((!decide (cutRest (itemAt (cutIn s) 6) = [])) = true →
 ∃ (y : Int), getReplyB s = false ∧
 SBle (SB.cells [SV.slc 4 0 9 false x, SV.int .i64 true 7, SV.iface 117 Q5] 3 97) (SB.cells [SV.slc 4 0 9 false x, SV.int .i64 false y, errW y] 3 97) ∧
 SBle Q1 Q1 ∧
 SBle Q2 Q2 ∧
 SBle (SB.cells (strs9 s) x 9) (SB.cells (strs9 s) x 9) ∧
 SBle Q0 Q0 ∧
 True) ∧
 ((!decide (cutRest (itemAt (cutIn s) 6) = [])) = false →
 (cutIn (itemAt (cutIn s) 6)).length < (1099511627776 : Nat) ∧
 (itemsB (cutIn (itemAt (cutIn s) 6)) = true →
 ∀ (x_14 : Nat), itemsN (cutIn (itemAt (cutIn s) 6)) ≤ x_14 →
 (decide ((80 : Int) < (↑(itemsN (cutIn (itemAt (cutIn s) 6))) : Int)) = true →
 ∃ (y : Int), getReplyB s = false ∧
 SBle (SB.cells [SV.slc 4 0 9 false x, SV.int .i64 true 7, SV.iface 117 Q5] 3 97) (SB.cells [SV.slc 4 0 9 false x, SV.int .i64 false y, errW y] 3 97) ∧
 SBle Q1 Q1 ∧
 SBle Q2 Q2 ∧
 SBle (SB.cells (strs9 s) x 9) (SB.cells (strs9 s) x 9) ∧
 SBle Q0 Q0 ∧
 True) ∧
 (decide ((80 : Int) < (↑(itemsN (cutIn (itemAt (cutIn s) 6))) : Int)) = false →
 ((0 : Int) ≤ (↑(itemsN (cutIn (itemAt (cutIn s) 6))) : Int) ∧
 (32 : Int) * (↑(itemsN (cutIn (itemAt (cutIn s) 6))) : Int) ≤ (140737488355328 : Int) ∧
 (↑(itemsN (cutIn (itemAt (cutIn s) 6))) : Int) ≤ (9223372036854775807 : Int)) ∧
 (∃ (y : Nat × Nat), Grow (itemsN (cutIn (itOf s 6))) y ∧
 (0 : Int) = (↑y.fst : Int) ∧
 ((0 : Nat) = (0 : Nat) ∧
 (0 : Nat) = y.fst ∧
 (↑(itemsN (cutIn (itemAt (cutIn s) 6))) : Int).toNat = y.snd) ∧
 True ∧
 SBle (SB.cells [] ((↑(itemsN (cutIn (itemAt (cutIn s) 6))) : Int).toNat * (2 : Nat)) 52) (SB.rows false y.fst (colsE (fun (i : Nat) => cutIn (subOf (itOf s 6) i 0)) fun (i : Nat) => cutIn (subOf (itOf s 6) i 1)) false (y.snd * (2 : Nat)) 52) ∧
 SBle (SB.rows true (itemsN (cutIn (itemAt (cutIn s) 6))) [Col.str (itemAt (cutIn (itemAt (cutIn s) 6)))] false x_14 9) (SB.rows true (itemsN (cutIn (itemAt (cutIn s) 6))) [Col.str (itemAt (cutIn (itemAt (cutIn s) 6)))] false x_14 9) ∧
 SBle (SB.cells (setRange (SV.agg [SV.nilslc, SV.int .i64 true 0, SV.niliface]).cells 0 (SV.rslc ((0 : Nat) + (1 : Nat) + (1 : Nat) + (1 : Nat) + (2 : Nat) + (0 : Nat) + (0 : Nat) + (0 : Nat) + (0 : Nat) + (1 : Nat)) 1 true 0 (itemsN (cutIn (itemAt (cutIn s) 6))) x_14).cells) 3 97) (SB.cells (setRange (SV.agg [SV.nilslc, SV.int .i64 true 0, SV.niliface]).cells 0 (SV.rslc ((0 : Nat) + (1 : Nat) + (1 : Nat) + (1 : Nat) + (2 : Nat) + (0 : Nat) + (0 : Nat) + (0 : Nat) + (0 : Nat) + (1 : Nat)) 1 true 0 (itemsN (cutIn (itemAt (cutIn s) 6))) x_14).cells) 3 97) ∧
 SBle (SB.cells (setRange [itemsR (Sx.hd (Code.region 6 #[{ dst := some 23, op := Op.move (Operand.tmp 6), type := (65 : Nat), pos := "read.go:161", after := #[], guard := none : Oper }, { dst := some 24, op := Op.makeFunc (Fn.func 43) #[Operand.tmp 23] #[], type := (68 : Nat), pos := "read.go:161", after := #[{ on := (0 : Nat), ground := Ground.data : Edge }], guard := none : Oper }, { dst := some 25, op := Op.fieldAddr 27 (Operand.tmp 4) 3, type := (0 : Nat), pos := "read.go:161", after := #[], guard := none : Oper }, { dst := some 26, op := Op.buildSlice 100 1 #[((0 : Nat), Operand.tmp 25)], type := (100 : Nat), pos := "read.go:161", after := #[{ on := (2 : Nat), ground := Ground.data : Edge }], guard := none : Oper }, { dst := some 27, op := Op.call { callee := Callee.value (Operand.func 42), args := #[Operand.tmp 24, Operand.tmp 26], argTypes := #[(68 : Nat), (100 : Nat)] : Call }, type := (0 : Nat), pos := "read.go:161", after := #[{ on := (1 : Nat), ground := Ground.data : Edge }, { on := (3 : Nat), ground := Ground.data : Edge }], guard := none : Oper }] false) (aMem fun (st : St) => [rOk st 5, xr ((filledR st).set 3 (SV.int .i64 false (numI (itOf s 4))))]) (Sx.hd (Code.region 5 #[{ dst := some 18, op := Op.move (Operand.tmp 6), type := (65 : Nat), pos := "read.go:160", after := #[], guard := none : Oper }, { dst := some 19, op := Op.makeFunc (Fn.func 51) #[Operand.tmp 18] #[], type := (73 : Nat), pos := "read.go:160", after := #[{ on := (0 : Nat), ground := Ground.data : Edge }], guard := none : Oper }, { dst := some 20, op := Op.fieldAddr 27 (Operand.tmp 4) 2, type := (0 : Nat), pos := "read.go:160", after := #[], guard := none : Oper }, { dst := some 21, op := Op.buildSlice 105 1 #[((0 : Nat), Operand.tmp 20)], type := (105 : Nat), pos := "read.go:160", after := #[{ on := (2 : Nat), ground := Ground.data : Edge }], guard := none : Oper }, { dst := some 22, op := Op.call { callee := Callee.value (Operand.func 50), args := #[Operand.tmp 19, Operand.tmp 21], argTypes := #[(73 : Nat), (105 : Nat)] : Call }, type := (0 : Nat), pos := "read.go:160", after := #[{ on := (1 : Nat), ground := Ground.data : Edge }, { on := (3 : Nat), ground := Ground.data : Edge }], guard := none : Oper }] false) (aMem fun (st : St) => [rOk st 4, xr ((filledR st).set 2 (SV.int .i64 false (numI (itOf s 3))))]) (Sx.hd (Code.region 4 #[{ dst := some 12, op := Op.move (Operand.tmp 6), type := (65 : Nat), pos := "read.go:159", after := #[], guard := none : Oper }, { dst := some 13, op := Op.makeFunc (Fn.func 43) #[Operand.tmp 12] #[], type := (68 : Nat), pos := "read.go:159", after := #[{ on := (0 : Nat), ground := Ground.data : Edge }], guard := none : Oper }, { dst := some 14, op := Op.fieldAddr 27 (Operand.tmp 4) 0, type := (0 : Nat), pos := "read.go:159", after := #[], guard := none : Oper }, { dst := some 15, op := Op.fieldAddr 27 (Operand.tmp 4) 1, type := (0 : Nat), pos := "read.go:159", after := #[], guard := none : Oper }, { dst := some 16, op := Op.buildSlice 100 3 #[((0 : Nat), Operand.tmp 5), ((1 : Nat), Operand.tmp 14), ((2 : Nat), Operand.tmp 15)], type := (100 : Nat), pos := "read.go:159", after := #[{ on := (2 : Nat), ground := Ground.data : Edge }, { on := (3 : Nat), ground := Ground.data : Edge }], guard := none : Oper }, { dst := some 17, op := Op.call { callee := Callee.value (Operand.func 42), args := #[Operand.tmp 13, Operand.tmp 16], argTypes := #[(68 : Nat), (100 : Nat)] : Call }, type := (0 : Nat), pos := "read.go:159", after := #[{ on := (1 : Nat), ground := Ground.data : Edge }, { on := (4 : Nat), ground := Ground.data : Edge }], guard := none : Oper }] false) (aMem fun (st : St) => [rOk st 3, xr (((filledR st).set 0 (SV.int .i64 false (numI (itOf s 1)))).set 1 (SV.int .i64 false (numI (itOf s 2)))), kindB (numI (itOf s 0))]) (Sx.hd (Code.region 3 #[{ dst := some 10, op := Op.move (Operand.tmp 0), type := (9 : Nat), pos := "read.go:158", after := #[], guard := none : Oper }, { dst := some 11, op := Op.call { callee := Callee.value (Operand.func 41), args := #[Operand.tmp 10, Operand.const (Value.int IntKind.i64 9)], argTypes := #[(9 : Nat), (3 : Nat)] : Call }, type := (65 : Nat), pos := "read.go:158", after := #[{ on := (0 : Nat), ground := Ground.data : Edge }], guard := none : Oper }, { dst := some 6, op := Op.assign (Operand.tmp 11), type := (65 : Nat), pos := "read.go:158", after := #[{ on := (1 : Nat), ground := Ground.data : Edge }, { on := (1 : Nat), ground := Ground.chain : Edge }, { on := (0 : Nat), ground := Ground.phase : Edge }, { on := (1 : Nat), ground := Ground.phase : Edge }], guard := none : Oper }] false) (aListed (strs9 s)) { tmps := setSlot (setSlot (setSlot (setSlot (List.map some [SV.str false s] ++ List.replicate ((70 : Nat) - (1 : Nat)) none) (some 2) (some (SV.ptr 0 true 0))) (some 3) (ev (setSlot (List.map some [SV.str false s] ++ List.replicate ((70 : Nat) - (1 : Nat)) none) (some 2) (some (SV.ptr 0 true 0))) (Operand.const (Value.int IntKind.i64 0)))) (some 4) (some (SV.ptr ((0 : Nat) + (1 : Nat)) true 0))) (some 5) (some (SV.ptr ((0 : Nat) + (1 : Nat) + (1 : Nat)) true 0)), m := [((0 : Nat) + (1 : Nat) + (1 : Nat), SB.cells (SV.int .i64 true 0).cells 1 3), ((0 : Nat) + (1 : Nat), SB.cells Q3.cells 8 27), ((0 : Nat), SB.cells Q3.cells 8 27)], nx := (0 : Nat) + (1 : Nat) + (1 : Nat) + (1 : Nat) : St } x) x_2) x_4) x_6), SV.int .i64 true 6, SV.niliface] 1 (SV.int .i64 true 7).cells) 3 97) (SB.cells (setRange [itemsR (Sx.hd (Code.region 6 #[{ dst := some 23, op := Op.move (Operand.tmp 6), type := (65 : Nat), pos := "read.go:161", after := #[], guard := none : Oper }, { dst := some 24, op := Op.makeFunc (Fn.func 43) #[Operand.tmp 23] #[], type := (68 : Nat), pos := "read.go:161", after := #[{ on := (0 : Nat), ground := Ground.data : Edge }], guard := none : Oper }, { dst := some 25, op := Op.fieldAddr 27 (Operand.tmp 4) 3, type := (0 : Nat), pos := "read.go:161", after := #[], guard := none : Oper }, { dst := some 26, op := Op.buildSlice 100 1 #[((0 : Nat), Operand.tmp 25)], type := (100 : Nat), pos := "read.go:161", after := #[{ on := (2 : Nat), ground := Ground.data : Edge }], guard := none : Oper }, { dst := some 27, op := Op.call { callee := Callee.value (Operand.func 42), args := #[Operand.tmp 24, Operand.tmp 26], argTypes := #[(68 : Nat), (100 : Nat)] : Call }, type := (0 : Nat), pos := "read.go:161", after := #[{ on := (1 : Nat), ground := Ground.data : Edge }, { on := (3 : Nat), ground := Ground.data : Edge }], guard := none : Oper }] false) (aMem fun (st : St) => [rOk st 5, xr ((filledR st).set 3 (SV.int .i64 false (numI (itOf s 4))))]) (Sx.hd (Code.region 5 #[{ dst := some 18, op := Op.move (Operand.tmp 6), type := (65 : Nat), pos := "read.go:160", after := #[], guard := none : Oper }, { dst := some 19, op := Op.makeFunc (Fn.func 51) #[Operand.tmp 18] #[], type := (73 : Nat), pos := "read.go:160", after := #[{ on := (0 : Nat), ground := Ground.data : Edge }], guard := none : Oper }, { dst := some 20, op := Op.fieldAddr 27 (Operand.tmp 4) 2, type := (0 : Nat), pos := "read.go:160", after := #[], guard := none : Oper }, { dst := some 21, op := Op.buildSlice 105 1 #[((0 : Nat), Operand.tmp 20)], type := (105 : Nat), pos := "read.go:160", after := #[{ on := (2 : Nat), ground := Ground.data : Edge }], guard := none : Oper }, { dst := some 22, op := Op.call { callee := Callee.value (Operand.func 50), args := #[Operand.tmp 19, Operand.tmp 21], argTypes := #[(73 : Nat), (105 : Nat)] : Call }, type := (0 : Nat), pos := "read.go:160", after := #[{ on := (1 : Nat), ground := Ground.data : Edge }, { on := (3 : Nat), ground := Ground.data : Edge }], guard := none : Oper }] false) (aMem fun (st : St) => [rOk st 4, xr ((filledR st).set 2 (SV.int .i64 false (numI (itOf s 3))))]) (Sx.hd (Code.region 4 #[{ dst := some 12, op := Op.move (Operand.tmp 6), type := (65 : Nat), pos := "read.go:159", after := #[], guard := none : Oper }, { dst := some 13, op := Op.makeFunc (Fn.func 43) #[Operand.tmp 12] #[], type := (68 : Nat), pos := "read.go:159", after := #[{ on := (0 : Nat), ground := Ground.data : Edge }], guard := none : Oper }, { dst := some 14, op := Op.fieldAddr 27 (Operand.tmp 4) 0, type := (0 : Nat), pos := "read.go:159", after := #[], guard := none : Oper }, { dst := some 15, op := Op.fieldAddr 27 (Operand.tmp 4) 1, type := (0 : Nat), pos := "read.go:159", after := #[], guard := none : Oper }, { dst := some 16, op := Op.buildSlice 100 3 #[((0 : Nat), Operand.tmp 5), ((1 : Nat), Operand.tmp 14), ((2 : Nat), Operand.tmp 15)], type := (100 : Nat), pos := "read.go:159", after := #[{ on := (2 : Nat), ground := Ground.data : Edge }, { on := (3 : Nat), ground := Ground.data : Edge }], guard := none : Oper }, { dst := some 17, op := Op.call { callee := Callee.value (Operand.func 42), args := #[Operand.tmp 13, Operand.tmp 16], argTypes := #[(68 : Nat), (100 : Nat)] : Call }, type := (0 : Nat), pos := "read.go:159", after := #[{ on := (1 : Nat), ground := Ground.data : Edge }, { on := (4 : Nat), ground := Ground.data : Edge }], guard := none : Oper }] false) (aMem fun (st : St) => [rOk st 3, xr (((filledR st).set 0 (SV.int .i64 false (numI (itOf s 1)))).set 1 (SV.int .i64 false (numI (itOf s 2)))), kindB (numI (itOf s 0))]) (Sx.hd (Code.region 3 #[{ dst := some 10, op := Op.move (Operand.tmp 0), type := (9 : Nat), pos := "read.go:158", after := #[], guard := none : Oper }, { dst := some 11, op := Op.call { callee := Callee.value (Operand.func 41), args := #[Operand.tmp 10, Operand.const (Value.int IntKind.i64 9)], argTypes := #[(9 : Nat), (3 : Nat)] : Call }, type := (65 : Nat), pos := "read.go:158", after := #[{ on := (0 : Nat), ground := Ground.data : Edge }], guard := none : Oper }, { dst := some 6, op := Op.assign (Operand.tmp 11), type := (65 : Nat), pos := "read.go:158", after := #[{ on := (1 : Nat), ground := Ground.data : Edge }, { on := (1 : Nat), ground := Ground.chain : Edge }, { on := (0 : Nat), ground := Ground.phase : Edge }, { on := (1 : Nat), ground := Ground.phase : Edge }], guard := none : Oper }] false) (aListed (strs9 s)) { tmps := setSlot (setSlot (setSlot (setSlot (List.map some [SV.str false s] ++ List.replicate ((70 : Nat) - (1 : Nat)) none) (some 2) (some (SV.ptr 0 true 0))) (some 3) (ev (setSlot (List.map some [SV.str false s] ++ List.replicate ((70 : Nat) - (1 : Nat)) none) (some 2) (some (SV.ptr 0 true 0))) (Operand.const (Value.int IntKind.i64 0)))) (some 4) (some (SV.ptr ((0 : Nat) + (1 : Nat)) true 0))) (some 5) (some (SV.ptr ((0 : Nat) + (1 : Nat) + (1 : Nat)) true 0)), m := [((0 : Nat) + (1 : Nat) + (1 : Nat), SB.cells (SV.int .i64 true 0).cells 1 3), ((0 : Nat) + (1 : Nat), SB.cells Q3.cells 8 27), ((0 : Nat), SB.cells Q3.cells 8 27)], nx := (0 : Nat) + (1 : Nat) + (1 : Nat) + (1 : Nat) : St } x) x_2) x_4) x_6), SV.int .i64 true 6, SV.niliface] 1 (SV.int .i64 true 7).cells) 3 97) ∧
 SBle (SB.cells ((filledR (Sx.hd (Code.region 6 #[{ dst := some 23, op := Op.move (Operand.tmp 6), type := (65 : Nat), pos := "read.go:161", after := #[], guard := none : Oper }, { dst := some 24, op := Op.makeFunc (Fn.func 43) #[Operand.tmp 23] #[], type := (68 : Nat), pos := "read.go:161", after := #[{ on := (0 : Nat), ground := Ground.data : Edge }], guard := none : Oper }, { dst := some 25, op := Op.fieldAddr 27 (Operand.tmp 4) 3, type := (0 : Nat), pos := "read.go:161", after := #[], guard := none : Oper }, { dst := some 26, op := Op.buildSlice 100 1 #[((0 : Nat), Operand.tmp 25)], type := (100 : Nat), pos := "read.go:161", after := #[{ on := (2 : Nat), ground := Ground.data : Edge }], guard := none : Oper }, { dst := some 27, op := Op.call { callee := Callee.value (Operand.func 42), args := #[Operand.tmp 24, Operand.tmp 26], argTypes := #[(68 : Nat), (100 : Nat)] : Call }, type := (0 : Nat), pos := "read.go:161", after := #[{ on := (1 : Nat), ground := Ground.data : Edge }, { on := (3 : Nat), ground := Ground.data : Edge }], guard := none : Oper }] false) (aMem fun (st : St) => [rOk st 5, xr ((filledR st).set 3 (SV.int .i64 false (numI (itOf s 4))))]) (Sx.hd (Code.region 5 #[{ dst := some 18, op := Op.move (Operand.tmp 6), type := (65 : Nat), pos := "read.go:160", after := #[], guard := none : Oper }, { dst := some 19, op := Op.makeFunc (Fn.func 51) #[Operand.tmp 18] #[], type := (73 : Nat), pos := "read.go:160", after := #[{ on := (0 : Nat), ground := Ground.data : Edge }], guard := none : Oper }, { dst := some 20, op := Op.fieldAddr 27 (Operand.tmp 4) 2, type := (0 : Nat), pos := "read.go:160", after := #[], guard := none : Oper }, { dst := some 21, op := Op.buildSlice 105 1 #[((0 : Nat), Operand.tmp 20)], type := (105 : Nat), pos := "read.go:160", after := #[{ on := (2 : Nat), ground := Ground.data : Edge }], guard := none : Oper }, { dst := some 22, op := Op.call { callee := Callee.value (Operand.func 50), args := #[Operand.tmp 19, Operand.tmp 21], argTypes := #[(73 : Nat), (105 : Nat)] : Call }, type := (0 : Nat), pos := "read.go:160", after := #[{ on := (1 : Nat), ground := Ground.data : Edge }, { on := (3 : Nat), ground := Ground.data : Edge }], guard := none : Oper }] false) (aMem fun (st : St) => [rOk st 4, xr ((filledR st).set 2 (SV.int .i64 false (numI (itOf s 3))))]) (Sx.hd (Code.region 4 #[{ dst := some 12, op := Op.move (Operand.tmp 6), type := (65 : Nat), pos := "read.go:159", after := #[], guard := none : Oper }, { dst := some 13, op := Op.makeFunc (Fn.func 43) #[Operand.tmp 12] #[], type := (68 : Nat), pos := "read.go:159", after := #[{ on := (0 : Nat), ground := Ground.data : Edge }], guard := none : Oper }, { dst := some 14, op := Op.fieldAddr 27 (Operand.tmp 4) 0, type := (0 : Nat), pos := "read.go:159", after := #[], guard := none : Oper }, { dst := some 15, op := Op.fieldAddr 27 (Operand.tmp 4) 1, type := (0 : Nat), pos := "read.go:159", after := #[], guard := none : Oper }, { dst := some 16, op := Op.buildSlice 100 3 #[((0 : Nat), Operand.tmp 5), ((1 : Nat), Operand.tmp 14), ((2 : Nat), Operand.tmp 15)], type := (100 : Nat), pos := "read.go:159", after := #[{ on := (2 : Nat), ground := Ground.data : Edge }, { on := (3 : Nat), ground := Ground.data : Edge }], guard := none : Oper }, { dst := some 17, op := Op.call { callee := Callee.value (Operand.func 42), args := #[Operand.tmp 13, Operand.tmp 16], argTypes := #[(68 : Nat), (100 : Nat)] : Call }, type := (0 : Nat), pos := "read.go:159", after := #[{ on := (1 : Nat), ground := Ground.data : Edge }, { on := (4 : Nat), ground := Ground.data : Edge }], guard := none : Oper }] false) (aMem fun (st : St) => [rOk st 3, xr (((filledR st).set 0 (SV.int .i64 false (numI (itOf s 1)))).set 1 (SV.int .i64 false (numI (itOf s 2)))), kindB (numI (itOf s 0))]) (Sx.hd (Code.region 3 #[{ dst := some 10, op := Op.move (Operand.tmp 0), type := (9 : Nat), pos := "read.go:158", after := #[], guard := none : Oper }, { dst := some 11, op := Op.call { callee := Callee.value (Operand.func 41), args := #[Operand.tmp 10, Operand.const (Value.int IntKind.i64 9)], argTypes := #[(9 : Nat), (3 : Nat)] : Call }, type := (65 : Nat), pos := "read.go:158", after := #[{ on := (0 : Nat), ground := Ground.data : Edge }], guard := none : Oper }, { dst := some 6, op := Op.assign (Operand.tmp 11), type := (65 : Nat), pos := "read.go:158", after := #[{ on := (1 : Nat), ground := Ground.data : Edge }, { on := (1 : Nat), ground := Ground.chain : Edge }, { on := (0 : Nat), ground := Ground.phase : Edge }, { on := (1 : Nat), ground := Ground.phase : Edge }], guard := none : Oper }] false) (aListed (strs9 s)) { tmps := setSlot (setSlot (setSlot (setSlot (List.map some [SV.str false s] ++ List.replicate ((70 : Nat) - (1 : Nat)) none) (some 2) (some (SV.ptr 0 true 0))) (some 3) (ev (setSlot (List.map some [SV.str false s] ++ List.replicate ((70 : Nat) - (1 : Nat)) none) (some 2) (some (SV.ptr 0 true 0))) (Operand.const (Value.int IntKind.i64 0)))) (some 4) (some (SV.ptr ((0 : Nat) + (1 : Nat)) true 0))) (some 5) (some (SV.ptr ((0 : Nat) + (1 : Nat) + (1 : Nat)) true 0)), m := [((0 : Nat) + (1 : Nat) + (1 : Nat), SB.cells (SV.int .i64 true 0).cells 1 3), ((0 : Nat) + (1 : Nat), SB.cells Q3.cells 8 27), ((0 : Nat), SB.cells Q3.cells 8 27)], nx := (0 : Nat) + (1 : Nat) + (1 : Nat) + (1 : Nat) : St } x) x_2) x_4) x_6)).set 4 (SV.str false (cutIn (itOf s 5)))) 8 27) (SB.cells ((filledR (Sx.hd (Code.region 6 #[{ dst := some 23, op := Op.move (Operand.tmp 6), type := (65 : Nat), pos := "read.go:161", after := #[], guard := none : Oper }, { dst := some 24, op := Op.makeFunc (Fn.func 43) #[Operand.tmp 23] #[], type := (68 : Nat), pos := "read.go:161", after := #[{ on := (0 : Nat), ground := Ground.data : Edge }], guard := none : Oper }, { dst := some 25, op := Op.fieldAddr 27 (Operand.tmp 4) 3, type := (0 : Nat), pos := "read.go:161", after := #[], guard := none : Oper }, { dst := some 26, op := Op.buildSlice 100 1 #[((0 : Nat), Operand.tmp 25)], type := (100 : Nat), pos := "read.go:161", after := #[{ on := (2 : Nat), ground := Ground.data : Edge }], guard := none : Oper }, { dst := some 27, op := Op.call { callee := Callee.value (Operand.func 42), args := #[Operand.tmp 24, Operand.tmp 26], argTypes := #[(68 : Nat), (100 : Nat)] : Call }, type := (0 : Nat), pos := "read.go:161", after := #[{ on := (1 : Nat), ground := Ground.data : Edge }, { on := (3 : Nat), ground := Ground.data : Edge }], guard := none : Oper }] false) (aMem fun (st : St) => [rOk st 5, xr ((filledR st).set 3 (SV.int .i64 false (numI (itOf s 4))))]) (Sx.hd (Code.region 5 #[{ dst := some 18, op := Op.move (Operand.tmp 6), type := (65 : Nat), pos := "read.go:160", after := #[], guard := none : Oper }, { dst := some 19, op := Op.makeFunc (Fn.func 51) #[Operand.tmp 18] #[], type := (73 : Nat), pos := "read.go:160", after := #[{ on := (0 : Nat), ground := Ground.data : Edge }], guard := none : Oper }, { dst := some 20, op := Op.fieldAddr 27 (Operand.tmp 4) 2, type := (0 : Nat), pos := "read.go:160", after := #[], guard := none : Oper }, { dst := some 21, op := Op.buildSlice 105 1 #[((0 : Nat), Operand.tmp 20)], type := (105 : Nat), pos := "read.go:160", after := #[{ on := (2 : Nat), ground := Ground.data : Edge }], guard := none : Oper }, { dst := some 22, op := Op.call { callee := Callee.value (Operand.func 50), args := #[Operand.tmp 19, Operand.tmp 21], argTypes := #[(73 : Nat), (105 : Nat)] : Call }, type := (0 : Nat), pos := "read.go:160", after := #[{ on := (1 : Nat), ground := Ground.data : Edge }, { on := (3 : Nat), ground := Ground.data : Edge }], guard := none : Oper }] false) (aMem fun (st : St) => [rOk st 4, xr ((filledR st).set 2 (SV.int .i64 false (numI (itOf s 3))))]) (Sx.hd (Code.region 4 #[{ dst := some 12, op := Op.move (Operand.tmp 6), type := (65 : Nat), pos := "read.go:159", after := #[], guard := none : Oper }, { dst := some 13, op := Op.makeFunc (Fn.func 43) #[Operand.tmp 12] #[], type := (68 : Nat), pos := "read.go:159", after := #[{ on := (0 : Nat), ground := Ground.data : Edge }], guard := none : Oper }, { dst := some 14, op := Op.fieldAddr 27 (Operand.tmp 4) 0, type := (0 : Nat), pos := "read.go:159", after := #[], guard := none : Oper }, { dst := some 15, op := Op.fieldAddr 27 (Operand.tmp 4) 1, type := (0 : Nat), pos := "read.go:159", after := #[], guard := none : Oper }, { dst := some 16, op := Op.buildSlice 100 3 #[((0 : Nat), Operand.tmp 5), ((1 : Nat), Operand.tmp 14), ((2 : Nat), Operand.tmp 15)], type := (100 : Nat), pos := "read.go:159", after := #[{ on := (2 : Nat), ground := Ground.data : Edge }, { on := (3 : Nat), ground := Ground.data : Edge }], guard := none : Oper }, { dst := some 17, op := Op.call { callee := Callee.value (Operand.func 42), args := #[Operand.tmp 13, Operand.tmp 16], argTypes := #[(68 : Nat), (100 : Nat)] : Call }, type := (0 : Nat), pos := "read.go:159", after := #[{ on := (1 : Nat), ground := Ground.data : Edge }, { on := (4 : Nat), ground := Ground.data : Edge }], guard := none : Oper }] false) (aMem fun (st : St) => [rOk st 3, xr (((filledR st).set 0 (SV.int .i64 false (numI (itOf s 1)))).set 1 (SV.int .i64 false (numI (itOf s 2)))), kindB (numI (itOf s 0))]) (Sx.hd (Code.region 3 #[{ dst := some 10, op := Op.move (Operand.tmp 0), type := (9 : Nat), pos := "read.go:158", after := #[], guard := none : Oper }, { dst := some 11, op := Op.call { callee := Callee.value (Operand.func 41), args := #[Operand.tmp 10, Operand.const (Value.int IntKind.i64 9)], argTypes := #[(9 : Nat), (3 : Nat)] : Call }, type := (65 : Nat), pos := "read.go:158", after := #[{ on := (0 : Nat), ground := Ground.data : Edge }], guard := none : Oper }, { dst := some 6, op := Op.assign (Operand.tmp 11), type := (65 : Nat), pos := "read.go:158", after := #[{ on := (1 : Nat), ground := Ground.data : Edge }, { on := (1 : Nat), ground := Ground.chain : Edge }, { on := (0 : Nat), ground := Ground.phase : Edge }, { on := (1 : Nat), ground := Ground.phase : Edge }], guard := none : Oper }] false) (aListed (strs9 s)) { tmps := setSlot (setSlot (setSlot (setSlot (List.map some [SV.str false s] ++ List.replicate ((70 : Nat) - (1 : Nat)) none) (some 2) (some (SV.ptr 0 true 0))) (some 3) (ev (setSlot (List.map some [SV.str false s] ++ List.replicate ((70 : Nat) - (1 : Nat)) none) (some 2) (some (SV.ptr 0 true 0))) (Operand.const (Value.int IntKind.i64 0)))) (some 4) (some (SV.ptr ((0 : Nat) + (1 : Nat)) true 0))) (some 5) (some (SV.ptr ((0 : Nat) + (1 : Nat) + (1 : Nat)) true 0)), m := [((0 : Nat) + (1 : Nat) + (1 : Nat), SB.cells (SV.int .i64 true 0).cells 1 3), ((0 : Nat) + (1 : Nat), SB.cells Q3.cells 8 27), ((0 : Nat), SB.cells Q3.cells 8 27)], nx := (0 : Nat) + (1 : Nat) + (1 : Nat) + (1 : Nat) : St } x) x_2) x_4) x_6)).set 4 (SV.str false (cutIn (itOf s 5)))) 8 27) ∧
 SBle Q2 Q2 ∧
 SBle (SB.cells (strs9 s) x 9) (SB.cells (strs9 s) x 9) ∧
 SBle Q0 Q0 ∧
 True) ∧
 ∀ (x_17 : Nat × Nat), Grow (itemsN (cutIn (itOf s 6))) x_17 →
 (decide ((↑x_17.fst : Int) < (↑(itemsN (cutIn (itemAt (cutIn s) 6))) : Int)) = true →
 ((0 : Int) ≤ (↑x_17.fst : Int) ∧
 (↑x_17.fst : Int) < (↑(itemsN (cutIn (itemAt (cutIn s) 6))) : Int)) ∧
 (0 : Nat) + (↑x_17.fst : Int).toNat < itemsN (cutIn (itemAt (cutIn s) 6)) ∧
 (itemAt (cutIn (itemAt (cutIn s) 6)) ((0 : Nat) + (↑x_17.fst : Int).toNat)).length < (1152921504606846976 : Nat) ∧
 (cutB (itemAt (cutIn (itemAt (cutIn s) 6)) ((0 : Nat) + (↑x_17.fst : Int).toNat)) = true →
 ((!cutL (itemAt (cutIn (itemAt (cutIn s) 6)) ((0 : Nat) + (↑x_17.fst : Int).toNat))) = true →
 (0 : Nat) < (1152921504606846976 : Nat) ∧
 (0 : Nat) < (1152921504606846976 : Nat) ∧
 ((0 : Nat) + x_17.fst ≤ x_17.fst ∧
 True ∧
 (2 : Nat) * (x_17.fst + (1 : Nat)) * (32 : Nat) ≤ (281474976710656 : Nat) ∧
 x_17.fst + (1 : Nat) < (9223372036854775808 : Nat)) ∧
 x_17.snd * (2 : Nat) = x_17.snd * (2 : Nat) ∧
 ∀ (c : Nat), x_17.fst + (1 : Nat) ≤ c →
 ∃ (y : Int), getReplyB s = false ∧
 SBle (SB.cells [SV.slc 4 0 9 false x, SV.int .i64 true 7, SV.iface 117 Q5] 3 97) (SB.cells [SV.slc 4 0 9 false x, SV.int .i64 false y, errW y] 3 97) ∧
 SBle Q1 Q1 ∧
 SBle Q2 Q2 ∧
 SBle (SB.cells (strs9 s) x 9) (SB.cells (strs9 s) x 9) ∧
 SBle Q0 Q0 ∧
 True) ∧
 ((!cutL (itemAt (cutIn (itemAt (cutIn s) 6)) ((0 : Nat) + (↑x_17.fst : Int).toNat))) = false →
 ((!decide (cutRest (itemAt (cutIn (itemAt (cutIn s) 6)) ((0 : Nat) + (↑x_17.fst : Int).toNat)) = [])) = true →
 (0 : Nat) < (1152921504606846976 : Nat) ∧
 (0 : Nat) < (1152921504606846976 : Nat) ∧
 ((0 : Nat) + x_17.fst ≤ x_17.fst ∧
 True ∧
 (2 : Nat) * (x_17.fst + (1 : Nat)) * (32 : Nat) ≤ (281474976710656 : Nat) ∧
 x_17.fst + (1 : Nat) < (9223372036854775808 : Nat)) ∧
 x_17.snd * (2 : Nat) = x_17.snd * (2 : Nat) ∧
 ∀ (c : Nat), x_17.fst + (1 : Nat) ≤ c →
 ∃ (y : Int), getReplyB s = false ∧
 SBle (SB.cells [SV.slc 4 0 9 false x, SV.int .i64 true 7, SV.iface 117 Q5] 3 97) (SB.cells [SV.slc 4 0 9 false x, SV.int .i64 false y, errW y] 3 97) ∧
 SBle Q1 Q1 ∧
 SBle Q2 Q2 ∧
 SBle (SB.cells (strs9 s) x 9) (SB.cells (strs9 s) x 9) ∧
 SBle Q0 Q0 ∧
 True) ∧
 ((!decide (cutRest (itemAt (cutIn (itemAt (cutIn s) 6)) ((0 : Nat) + (↑x_17.fst : Int).toNat)) = [])) = false →
 (cutIn (itemAt (cutIn (itemAt (cutIn s) 6)) ((0 : Nat) + (↑x_17.fst : Int).toNat))).length < (1099511627776 : Nat) ∧
 (itemsB (cutIn (itemAt (cutIn (itemAt (cutIn s) 6)) ((0 : Nat) + (↑x_17.fst : Int).toNat))) = true →
 ∀ (x_24 : Nat), itemsN (cutIn (itemAt (cutIn (itemAt (cutIn s) 6)) ((0 : Nat) + (↑x_17.fst : Int).toNat))) ≤ x_24 →
 ((!decide ((↑(itemsN (cutIn (itemAt (cutIn (itemAt (cutIn s) 6)) ((0 : Nat) + (↑x_17.fst : Int).toNat)))) : Int) = (2 : Int))) = true →
 (0 : Nat) < (1152921504606846976 : Nat) ∧
 (0 : Nat) < (1152921504606846976 : Nat) ∧
 ((0 : Nat) + x_17.fst ≤ x_17.fst ∧
 True ∧
 (2 : Nat) * (x_17.fst + (1 : Nat)) * (32 : Nat) ≤ (281474976710656 : Nat) ∧
 x_17.fst + (1 : Nat) < (9223372036854775808 : Nat)) ∧
 x_17.snd * (2 : Nat) = x_17.snd * (2 : Nat) ∧
 ∀ (c : Nat), x_17.fst + (1 : Nat) ≤ c →
 ∃ (y : Int), getReplyB s = false ∧
 SBle (SB.cells [SV.slc 4 0 9 false x, SV.int .i64 true 7, SV.iface 117 Q5] 3 97) (SB.cells [SV.slc 4 0 9 false x, SV.int .i64 false y, errW y] 3 97) ∧
 SBle Q1 Q1 ∧
 SBle Q2 Q2 ∧
 SBle (SB.cells (strs9 s) x 9) (SB.cells (strs9 s) x 9) ∧
 SBle Q0 Q0 ∧
 True) ∧
 ((!decide ((↑(itemsN (cutIn (itemAt (cutIn (itemAt (cutIn s) 6)) ((0 : Nat) + (↑x_17.fst : Int).toNat)))) : Int) = (2 : Int))) = false →
 (decide ((↑(itemsN (cutIn (itemAt (cutIn (itemAt (cutIn s) 6)) ((0 : Nat) + (↑x_17.fst : Int).toNat)))) : Int) ≤ (0 : Int)) = true →
 (0 : Nat) < (1152921504606846976 : Nat) ∧
 (0 : Nat) < (1152921504606846976 : Nat) ∧
 ((0 : Nat) + x_17.fst ≤ x_17.fst ∧
 True ∧
 (2 : Nat) * (x_17.fst + (1 : Nat)) * (32 : Nat) ≤ (281474976710656 : Nat) ∧
 x_17.fst + (1 : Nat) < (9223372036854775808 : Nat)) ∧
 x_17.snd * (2 : Nat) = x_17.snd * (2 : Nat) ∧
 ∀ (c : Nat), x_17.fst + (1 : Nat) ≤ c →
 ∃ (y : Int), getReplyB s = false ∧
 SBle (SB.cells [SV.slc 4 0 9 false x, SV.int .i64 true 7, SV.iface 117 Q5] 3 97) (SB.cells [SV.slc 4 0 9 false x, SV.int .i64 false y, errW y] 3 97) ∧
 SBle Q1 Q1 ∧
 SBle Q2 Q2 ∧
 SBle (SB.cells (strs9 s) x 9) (SB.cells (strs9 s) x 9) ∧
 SBle Q0 Q0 ∧
 True) ∧
 (decide ((↑(itemsN (cutIn (itemAt (cutIn (itemAt (cutIn s) 6)) ((0 : Nat) + (↑x_17.fst : Int).toNat)))) : Int) ≤ (0 : Int)) = false →
 ((0 : Int) ≤ (0 : Int) ∧
 (0 : Int) < (↑(itemsN (cutIn (itemAt (cutIn (itemAt (cutIn s) 6)) ((0 : Nat) + (↑x_17.fst : Int).toNat)))) : Int)) ∧
 (0 : Nat) < itemsN (cutIn (itemAt (cutIn (itemAt (cutIn s) 6)) ((0 : Nat) + (↑x_17.fst : Int).toNat))) ∧
 (itemAt (cutIn (itemAt (cutIn (itemAt (cutIn s) 6)) ((0 : Nat) + (↑x_17.fst : Int).toNat))) 0).length < (1152921504606846976 : Nat) ∧
 (cutB (itemAt (cutIn (itemAt (cutIn (itemAt (cutIn s) 6)) ((0 : Nat) + (↑x_17.fst : Int).toNat))) 0) = true →
 (cutL (itemAt (cutIn (itemAt (cutIn (itemAt (cutIn s) 6)) ((0 : Nat) + (↑x_17.fst : Int).toNat))) 0) = true →
 (0 : Nat) < (1152921504606846976 : Nat) ∧
 ((0 : Nat) + x_17.fst ≤ x_17.fst ∧
 True ∧
 (2 : Nat) * (x_17.fst + (1 : Nat)) * (32 : Nat) ≤ (281474976710656 : Nat) ∧
 x_17.fst + (1 : Nat) < (9223372036854775808 : Nat)) ∧
 x_17.snd * (2 : Nat) = x_17.snd * (2 : Nat) ∧
 ∀ (c : Nat), x_17.fst + (1 : Nat) ≤ c →
 ∃ (y : Int), getReplyB s = false ∧
 SBle (SB.cells [SV.slc 4 0 9 false x, SV.int .i64 true 7, SV.iface 117 Q5] 3 97) (SB.cells [SV.slc 4 0 9 false x, SV.int .i64 false y, errW y] 3 97) ∧
 SBle Q1 Q1 ∧
 SBle Q2 Q2 ∧
 SBle (SB.cells (strs9 s) x 9) (SB.cells (strs9 s) x 9) ∧
 SBle Q0 Q0 ∧
 True) ∧
 (cutL (itemAt (cutIn (itemAt (cutIn (itemAt (cutIn s) 6)) ((0 : Nat) + (↑x_17.fst : Int).toNat))) 0) = false →
 ((!decide (cutRest (itemAt (cutIn (itemAt (cutIn (itemAt (cutIn s) 6)) ((0 : Nat) + (↑x_17.fst : Int).toNat))) 0) = [])) = true →
 (0 : Nat) < (1152921504606846976 : Nat) ∧
 ((0 : Nat) + x_17.fst ≤ x_17.fst ∧
 True ∧
 (2 : Nat) * (x_17.fst + (1 : Nat)) * (32 : Nat) ≤ (281474976710656 : Nat) ∧
 x_17.fst + (1 : Nat) < (9223372036854775808 : Nat)) ∧
 x_17.snd * (2 : Nat) = x_17.snd * (2 : Nat) ∧
 ∀ (c : Nat), x_17.fst + (1 : Nat) ≤ c →
 ∃ (y : Int), getReplyB s = false ∧
 SBle (SB.cells [SV.slc 4 0 9 false x, SV.int .i64 true 7, SV.iface 117 Q5] 3 97) (SB.cells [SV.slc 4 0 9 false x, SV.int .i64 false y, errW y] 3 97) ∧
 SBle Q1 Q1 ∧
 SBle Q2 Q2 ∧
 SBle (SB.cells (strs9 s) x 9) (SB.cells (strs9 s) x 9) ∧
 SBle Q0 Q0 ∧
 True) ∧
 ((!decide (cutRest (itemAt (cutIn (itemAt (cutIn (itemAt (cutIn s) 6)) ((0 : Nat) + (↑x_17.fst : Int).toNat))) 0) = [])) = false →
 (decide ((↑(itemsN (cutIn (itemAt (cutIn (itemAt (cutIn s) 6)) ((0 : Nat) + (↑x_17.fst : Int).toNat)))) : Int) ≤ (1 : Int)) = true →
 (0 : Nat) < (1152921504606846976 : Nat) ∧
 ((0 : Nat) + x_17.fst ≤ x_17.fst ∧
 True ∧
 (2 : Nat) * (x_17.fst + (1 : Nat)) * (32 : Nat) ≤ (281474976710656 : Nat) ∧
 x_17.fst + (1 : Nat) < (9223372036854775808 : Nat)) ∧
 x_17.snd * (2 : Nat) = x_17.snd * (2 : Nat) ∧
 ∀ (c : Nat), x_17.fst + (1 : Nat) ≤ c →
 ∃ (y : Int), getReplyB s = false ∧
 SBle (SB.cells [SV.slc 4 0 9 false x, SV.int .i64 true 7, SV.iface 117 Q5] 3 97) (SB.cells [SV.slc 4 0 9 false x, SV.int .i64 false y, errW y] 3 97) ∧
 SBle Q1 Q1 ∧
 SBle Q2 Q2 ∧
 SBle (SB.cells (strs9 s) x 9) (SB.cells (strs9 s) x 9) ∧
 SBle Q0 Q0 ∧
 True) ∧
 (decide ((↑(itemsN (cutIn (itemAt (cutIn (itemAt (cutIn s) 6)) ((0 : Nat) + (↑x_17.fst : Int).toNat)))) : Int) ≤ (1 : Int)) = false →
 ((0 : Int) ≤ (1 : Int) ∧
 (1 : Int) < (↑(itemsN (cutIn (itemAt (cutIn (itemAt (cutIn s) 6)) ((0 : Nat) + (↑x_17.fst : Int).toNat)))) : Int)) ∧
 (1 : Nat) < itemsN (cutIn (itemAt (cutIn (itemAt (cutIn s) 6)) ((0 : Nat) + (↑x_17.fst : Int).toNat))) ∧
 (itemAt (cutIn (itemAt (cutIn (itemAt (cutIn s) 6)) ((0 : Nat) + (↑x_17.fst : Int).toNat))) 1).length < (1152921504606846976 : Nat) ∧
 (cutB (itemAt (cutIn (itemAt (cutIn (itemAt (cutIn s) 6)) ((0 : Nat) + (↑x_17.fst : Int).toNat))) 1) = true →
 (cutL (itemAt (cutIn (itemAt (cutIn (itemAt (cutIn s) 6)) ((0 : Nat) + (↑x_17.fst : Int).toNat))) 1) = true →
 ((0 : Nat) + x_17.fst ≤ x_17.fst ∧
 True ∧
 (2 : Nat) * (x_17.fst + (1 : Nat)) * (32 : Nat) ≤ (281474976710656 : Nat) ∧
 x_17.fst + (1 : Nat) < (9223372036854775808 : Nat)) ∧
 x_17.snd * (2 : Nat) = x_17.snd * (2 : Nat) ∧
 ∀ (c : Nat), x_17.fst + (1 : Nat) ≤ c →
 ∃ (y : Int), getReplyB s = false ∧
 SBle (SB.cells [SV.slc 4 0 9 false x, SV.int .i64 true 7, SV.iface 117 Q5] 3 97) (SB.cells [SV.slc 4 0 9 false x, SV.int .i64 false y, errW y] 3 97) ∧
 SBle Q1 Q1 ∧
 SBle Q2 Q2 ∧
 SBle (SB.cells (strs9 s) x 9) (SB.cells (strs9 s) x 9) ∧
 SBle Q0 Q0 ∧
 True) ∧
 (cutL (itemAt (cutIn (itemAt (cutIn (itemAt (cutIn s) 6)) ((0 : Nat) + (↑x_17.fst : Int).toNat))) 1) = false →
 ((!decide (cutRest (itemAt (cutIn (itemAt (cutIn (itemAt (cutIn s) 6)) ((0 : Nat) + (↑x_17.fst : Int).toNat))) 1) = [])) = true →
 ((0 : Nat) + x_17.fst ≤ x_17.fst ∧
 True ∧
 (2 : Nat) * (x_17.fst + (1 : Nat)) * (32 : Nat) ≤ (281474976710656 : Nat) ∧
 x_17.fst + (1 : Nat) < (9223372036854775808 : Nat)) ∧
 x_17.snd * (2 : Nat) = x_17.snd * (2 : Nat) ∧
 ∀ (c : Nat), x_17.fst + (1 : Nat) ≤ c →
 ∃ (y : Int), getReplyB s = false ∧
 SBle (SB.cells [SV.slc 4 0 9 false x, SV.int .i64 true 7, SV.iface 117 Q5] 3 97) (SB.cells [SV.slc 4 0 9 false x, SV.int .i64 false y, errW y] 3 97) ∧
 SBle Q1 Q1 ∧
 SBle Q2 Q2 ∧
 SBle (SB.cells (strs9 s) x 9) (SB.cells (strs9 s) x 9) ∧
 SBle Q0 Q0 ∧
 True) ∧
 ((!decide (cutRest (itemAt (cutIn (itemAt (cutIn (itemAt (cutIn s) 6)) ((0 : Nat) + (↑x_17.fst : Int).toNat))) 1) = [])) = false →
 ((0 : Nat) + x_17.fst ≤ x_17.fst ∧
 True ∧
 (2 : Nat) * (x_17.fst + (1 : Nat)) * (32 : Nat) ≤ (281474976710656 : Nat) ∧
 x_17.fst + (1 : Nat) < (9223372036854775808 : Nat)) ∧
 x_17.snd * (2 : Nat) = x_17.snd * (2 : Nat) ∧
 ∀ (c : Nat), x_17.fst + (1 : Nat) ≤ c →
 ((-9223372036854775808 : Int) ≤ (↑x_17.fst : Int) + (1 : Int) ∧
 (↑x_17.fst : Int) + (1 : Int) ≤ (9223372036854775807 : Int)) ∧
 ∃ (y : Nat × Nat), (Grow (itemsN (cutIn (itOf s 6))) y ∧
 itemsN (cutIn (itOf s 6)) - y.fst < itemsN (cutIn (itOf s 6)) - x_17.fst) ∧
 (↑x_17.fst : Int) + (1 : Int) = (↑y.fst : Int) ∧
 ((0 : Nat) = (0 : Nat) ∧
 x_17.fst + (1 : Nat) = y.fst ∧
 c = y.snd) ∧
 True ∧
 SBle (SB.rows false (x_17.fst + (1 : Nat)) [Col.str fun (j : Nat) => if j < x_17.fst then cutIn (subOf (itOf s 6) j 0) else selS [cutIn (itemAt (cutIn (itemAt (cutIn (itemAt (cutIn s) 6)) ((0 : Nat) + (↑x_17.fst : Int).toNat))) 0)] (j - x_17.fst), Col.str fun (j : Nat) => if j < x_17.fst then cutIn (subOf (itOf s 6) j 1) else selS [cutIn (itemAt (cutIn (itemAt (cutIn (itemAt (cutIn s) 6)) ((0 : Nat) + (↑x_17.fst : Int).toNat))) 1)] (j - x_17.fst)] false (c * (2 : Nat)) 52) (SB.rows false y.fst (colsE (fun (i : Nat) => cutIn (subOf (itOf s 6) i 0)) fun (i : Nat) => cutIn (subOf (itOf s 6) i 1)) false (y.snd * (2 : Nat)) 52) ∧
 SBle (SB.rows true (itemsN (cutIn (itemAt (cutIn s) 6))) [Col.str (itemAt (cutIn (itemAt (cutIn s) 6)))] false x_14 9) (SB.rows true (itemsN (cutIn (itemAt (cutIn s) 6))) [Col.str (itemAt (cutIn (itemAt (cutIn s) 6)))] false x_14 9) ∧
 SBle (SB.cells (setRange (SV.agg [SV.nilslc, SV.int .i64 true 0, SV.niliface]).cells 0 (SV.rslc ((0 : Nat) + (1 : Nat) + (1 : Nat) + (1 : Nat) + (2 : Nat) + (0 : Nat) + (0 : Nat) + (0 : Nat) + (0 : Nat) + (1 : Nat)) 1 true 0 (itemsN (cutIn (itemAt (cutIn s) 6))) x_14).cells) 3 97) (SB.cells (setRange (SV.agg [SV.nilslc, SV.int .i64 true 0, SV.niliface]).cells 0 (SV.rslc ((0 : Nat) + (1 : Nat) + (1 : Nat) + (1 : Nat) + (2 : Nat) + (0 : Nat) + (0 : Nat) + (0 : Nat) + (0 : Nat) + (1 : Nat)) 1 true 0 (itemsN (cutIn (itemAt (cutIn s) 6))) x_14).cells) 3 97) ∧
 SBle (SB.cells (setRange [itemsR (Sx.hd (Code.region 6 #[{ dst := some 23, op := Op.move (Operand.tmp 6), type := (65 : Nat), pos := "read.go:161", after := #[], guard := none : Oper }, { dst := some 24, op := Op.makeFunc (Fn.func 43) #[Operand.tmp 23] #[], type := (68 : Nat), pos := "read.go:161", after := #[{ on := (0 : Nat), ground := Ground.data : Edge }], guard := none : Oper }, { dst := some 25, op := Op.fieldAddr 27 (Operand.tmp 4) 3, type := (0 : Nat), pos := "read.go:161", after := #[], guard := none : Oper }, { dst := some 26, op := Op.buildSlice 100 1 #[((0 : Nat), Operand.tmp 25)], type := (100 : Nat), pos := "read.go:161", after := #[{ on := (2 : Nat), ground := Ground.data : Edge }], guard := none : Oper }, { dst := some 27, op := Op.call { callee := Callee.value (Operand.func 42), args := #[Operand.tmp 24, Operand.tmp 26], argTypes := #[(68 : Nat), (100 : Nat)] : Call }, type := (0 : Nat), pos := "read.go:161", after := #[{ on := (1 : Nat), ground := Ground.data : Edge }, { on := (3 : Nat), ground := Ground.data : Edge }], guard := none : Oper }] false) (aMem fun (st : St) => [rOk st 5, xr ((filledR st).set 3 (SV.int .i64 false (numI (itOf s 4))))]) (Sx.hd (Code.region 5 #[{ dst := some 18, op := Op.move (Operand.tmp 6), type := (65 : Nat), pos := "read.go:160", after := #[], guard := none : Oper }, { dst := some 19, op := Op.makeFunc (Fn.func 51) #[Operand.tmp 18] #[], type := (73 : Nat), pos := "read.go:160", after := #[{ on := (0 : Nat), ground := Ground.data : Edge }], guard := none : Oper }, { dst := some 20, op := Op.fieldAddr 27 (Operand.tmp 4) 2, type := (0 : Nat), pos := "read.go:160", after := #[], guard := none : Oper }, { dst := some 21, op := Op.buildSlice 105 1 #[((0 : Nat), Operand.tmp 20)], type := (105 : Nat), pos := "read.go:160", after := #[{ on := (2 : Nat), ground := Ground.data : Edge }], guard := none : Oper }, { dst := some 22, op := Op.call { callee := Callee.value (Operand.func 50), args := #[Operand.tmp 19, Operand.tmp 21], argTypes := #[(73 : Nat), (105 : Nat)] : Call }, type := (0 : Nat), pos := "read.go:160", after := #[{ on := (1 : Nat), ground := Ground.data : Edge }, { on := (3 : Nat), ground := Ground.data : Edge }], guard := none : Oper }] false) (aMem fun (st : St) => [rOk st 4, xr ((filledR st).set 2 (SV.int .i64 false (numI (itOf s 3))))]) (Sx.hd (Code.region 4 #[{ dst := some 12, op := Op.move (Operand.tmp 6), type := (65 : Nat), pos := "read.go:159", after := #[], guard := none : Oper }, { dst := some 13, op := Op.makeFunc (Fn.func 43) #[Operand.tmp 12] #[], type := (68 : Nat), pos := "read.go:159", after := #[{ on := (0 : Nat), ground := Ground.data : Edge }], guard := none : Oper }, { dst := some 14, op := Op.fieldAddr 27 (Operand.tmp 4) 0, type := (0 : Nat), pos := "read.go:159", after := #[], guard := none : Oper }, { dst := some 15, op := Op.fieldAddr 27 (Operand.tmp 4) 1, type := (0 : Nat), pos := "read.go:159", after := #[], guard := none : Oper }, { dst := some 16, op := Op.buildSlice 100 3 #[((0 : Nat), Operand.tmp 5), ((1 : Nat), Operand.tmp 14), ((2 : Nat), Operand.tmp 15)], type := (100 : Nat), pos := "read.go:159", after := #[{ on := (2 : Nat), ground := Ground.data : Edge }, { on := (3 : Nat), ground := Ground.data : Edge }], guard := none : Oper }, { dst := some 17, op := Op.call { callee := Callee.value (Operand.func 42), args := #[Operand.tmp 13, Operand.tmp 16], argTypes := #[(68 : Nat), (100 : Nat)] : Call }, type := (0 : Nat), pos := "read.go:159", after := #[{ on := (1 : Nat), ground := Ground.data : Edge }, { on := (4 : Nat), ground := Ground.data : Edge }], guard := none : Oper }] false) (aMem fun (st : St) => [rOk st 3, xr (((filledR st).set 0 (SV.int .i64 false (numI (itOf s 1)))).set 1 (SV.int .i64 false (numI (itOf s 2)))), kindB (numI (itOf s 0))]) (Sx.hd (Code.region 3 #[{ dst := some 10, op := Op.move (Operand.tmp 0), type := (9 : Nat), pos := "read.go:158", after := #[], guard := none : Oper }, { dst := some 11, op := Op.call { callee := Callee.value (Operand.func 41), args := #[Operand.tmp 10, Operand.const (Value.int IntKind.i64 9)], argTypes := #[(9 : Nat), (3 : Nat)] : Call }, type := (65 : Nat), pos := "read.go:158", after := #[{ on := (0 : Nat), ground := Ground.data : Edge }], guard := none : Oper }, { dst := some 6, op := Op.assign (Operand.tmp 11), type := (65 : Nat), pos := "read.go:158", after := #[{ on := (1 : Nat), ground := Ground.data : Edge }, { on := (1 : Nat), ground := Ground.chain : Edge }, { on := (0 : Nat), ground := Ground.phase : Edge }, { on := (1 : Nat), ground := Ground.phase : Edge }], guard := none : Oper }] false) (aListed (strs9 s)) { tmps := setSlot (setSlot (setSlot (setSlot (List.map some [SV.str false s] ++ List.replicate ((70 : Nat) - (1 : Nat)) none) (some 2) (some (SV.ptr 0 true 0))) (some 3) (ev (setSlot (List.map some [SV.str false s] ++ List.replicate ((70 : Nat) - (1 : Nat)) none) (some 2) (some (SV.ptr 0 true 0))) (Operand.const (Value.int IntKind.i64 0)))) (some 4) (some (SV.ptr ((0 : Nat) + (1 : Nat)) true 0))) (some 5) (some (SV.ptr ((0 : Nat) + (1 : Nat) + (1 : Nat)) true 0)), m := [((0 : Nat) + (1 : Nat) + (1 : Nat), SB.cells (SV.int .i64 true 0).cells 1 3), ((0 : Nat) + (1 : Nat), SB.cells Q3.cells 8 27), ((0 : Nat), SB.cells Q3.cells 8 27)], nx := (0 : Nat) + (1 : Nat) + (1 : Nat) + (1 : Nat) : St } x) x_2) x_4) x_6), SV.int .i64 true 6, SV.niliface] 1 (SV.int .i64 true 7).cells) 3 97) (SB.cells (setRange [itemsR (Sx.hd (Code.region 6 #[{ dst := some 23, op := Op.move (Operand.tmp 6), type := (65 : Nat), pos := "read.go:161", after := #[], guard := none : Oper }, { dst := some 24, op := Op.makeFunc (Fn.func 43) #[Operand.tmp 23] #[], type := (68 : Nat), pos := "read.go:161", after := #[{ on := (0 : Nat), ground := Ground.data : Edge }], guard := none : Oper }, { dst := some 25, op := Op.fieldAddr 27 (Operand.tmp 4) 3, type := (0 : Nat), pos := "read.go:161", after := #[], guard := none : Oper }, { dst := some 26, op := Op.buildSlice 100 1 #[((0 : Nat), Operand.tmp 25)], type := (100 : Nat), pos := "read.go:161", after := #[{ on := (2 : Nat), ground := Ground.data : Edge }], guard := none : Oper }, { dst := some 27, op := Op.call { callee := Callee.value (Operand.func 42), args := #[Operand.tmp 24, Operand.tmp 26], argTypes := #[(68 : Nat), (100 : Nat)] : Call }, type := (0 : Nat), pos := "read.go:161", after := #[{ on := (1 : Nat), ground := Ground.data : Edge }, { on := (3 : Nat), ground := Ground.data : Edge }], guard := none : Oper }] false) (aMem fun (st : St) => [rOk st 5, xr ((filledR st).set 3 (SV.int .i64 false (numI (itOf s 4))))]) (Sx.hd (Code.region 5 #[{ dst := some 18, op := Op.move (Operand.tmp 6), type := (65 : Nat), pos := "read.go:160", after := #[], guard := none : Oper }, { dst := some 19, op := Op.makeFunc (Fn.func 51) #[Operand.tmp 18] #[], type := (73 : Nat), pos := "read.go:160", after := #[{ on := (0 : Nat), ground := Ground.data : Edge }], guard := none : Oper }, { dst := some 20, op := Op.fieldAddr 27 (Operand.tmp 4) 2, type := (0 : Nat), pos := "read.go:160", after := #[], guard := none : Oper }, { dst := some 21, op := Op.buildSlice 105 1 #[((0 : Nat), Operand.tmp 20)], type := (105 : Nat), pos := "read.go:160", after := #[{ on := (2 : Nat), ground := Ground.data : Edge }], guard := none : Oper }, { dst := some 22, op := Op.call { callee := Callee.value (Operand.func 50), args := #[Operand.tmp 19, Operand.tmp 21], argTypes := #[(73 : Nat), (105 : Nat)] : Call }, type := (0 : Nat), pos := "read.go:160", after := #[{ on := (1 : Nat), ground := Ground.data : Edge }, { on := (3 : Nat), ground := Ground.data : Edge }], guard := none : Oper }] false) (aMem fun (st : St) => [rOk st 4, xr ((filledR st).set 2 (SV.int .i64 false (numI (itOf s 3))))]) (Sx.hd (Code.region 4 #[{ dst := some 12, op := Op.move (Operand.tmp 6), type := (65 : Nat), pos := "read.go:159", after := #[], guard := none : Oper }, { dst := some 13, op := Op.makeFunc (Fn.func 43) #[Operand.tmp 12] #[], type := (68 : Nat), pos := "read.go:159", after := #[{ on := (0 : Nat), ground := Ground.data : Edge }], guard := none : Oper }, { dst := some 14, op := Op.fieldAddr 27 (Operand.tmp 4) 0, type := (0 : Nat), pos := "read.go:159", after := #[], guard := none : Oper }, { dst := some 15, op := Op.fieldAddr 27 (Operand.tmp 4) 1, type := (0 : Nat), pos := "read.go:159", after := #[], guard := none : Oper }, { dst := some 16, op := Op.buildSlice 100 3 #[((0 : Nat), Operand.tmp 5), ((1 : Nat), Operand.tmp 14), ((2 : Nat), Operand.tmp 15)], type := (100 : Nat), pos := "read.go:159", after := #[{ on := (2 : Nat), ground := Ground.data : Edge }, { on := (3 : Nat), ground := Ground.data : Edge }], guard := none : Oper }, { dst := some 17, op := Op.call { callee := Callee.value (Operand.func 42), args := #[Operand.tmp 13, Operand.tmp 16], argTypes := #[(68 : Nat), (100 : Nat)] : Call }, type := (0 : Nat), pos := "read.go:159", after := #[{ on := (1 : Nat), ground := Ground.data : Edge }, { on := (4 : Nat), ground := Ground.data : Edge }], guard := none : Oper }] false) (aMem fun (st : St) => [rOk st 3, xr (((filledR st).set 0 (SV.int .i64 false (numI (itOf s 1)))).set 1 (SV.int .i64 false (numI (itOf s 2)))), kindB (numI (itOf s 0))]) (Sx.hd (Code.region 3 #[{ dst := some 10, op := Op.move (Operand.tmp 0), type := (9 : Nat), pos := "read.go:158", after := #[], guard := none : Oper }, { dst := some 11, op := Op.call { callee := Callee.value (Operand.func 41), args := #[Operand.tmp 10, Operand.const (Value.int IntKind.i64 9)], argTypes := #[(9 : Nat), (3 : Nat)] : Call }, type := (65 : Nat), pos := "read.go:158", after := #[{ on := (0 : Nat), ground := Ground.data : Edge }], guard := none : Oper }, { dst := some 6, op := Op.assign (Operand.tmp 11), type := (65 : Nat), pos := "read.go:158", after := #[{ on := (1 : Nat), ground := Ground.data : Edge }, { on := (1 : Nat), ground := Ground.chain : Edge }, { on := (0 : Nat), ground := Ground.phase : Edge }, { on := (1 : Nat), ground := Ground.phase : Edge }], guard := none : Oper }] false) (aListed (strs9 s)) { tmps := setSlot (setSlot (setSlot (setSlot (List.map some [SV.str false s] ++ List.replicate ((70 : Nat) - (1 : Nat)) none) (some 2) (some (SV.ptr 0 true 0))) (some 3) (ev (setSlot (List.map some [SV.str false s] ++ List.replicate ((70 : Nat) - (1 : Nat)) none) (some 2) (some (SV.ptr 0 true 0))) (Operand.const (Value.int IntKind.i64 0)))) (some 4) (some (SV.ptr ((0 : Nat) + (1 : Nat)) true 0))) (some 5) (some (SV.ptr ((0 : Nat) + (1 : Nat) + (1 : Nat)) true 0)), m := [((0 : Nat) + (1 : Nat) + (1 : Nat), SB.cells (SV.int .i64 true 0).cells 1 3), ((0 : Nat) + (1 : Nat), SB.cells Q3.cells 8 27), ((0 : Nat), SB.cells Q3.cells 8 27)], nx := (0 : Nat) + (1 : Nat) + (1 : Nat) + (1 : Nat) : St } x) x_2) x_4) x_6), SV.int .i64 true 6, SV.niliface] 1 (SV.int .i64 true 7).cells) 3 97) ∧
 SBle (SB.cells ((filledR (Sx.hd (Code.region 6 #[{ dst := some 23, op := Op.move (Operand.tmp 6), type := (65 : Nat), pos := "read.go:161", after := #[], guard := none : Oper }, { dst := some 24, op := Op.makeFunc (Fn.func 43) #[Operand.tmp 23] #[], type := (68 : Nat), pos := "read.go:161", after := #[{ on := (0 : Nat), ground := Ground.data : Edge }], guard := none : Oper }, { dst := some 25, op := Op.fieldAddr 27 (Operand.tmp 4) 3, type := (0 : Nat), pos := "read.go:161", after := #[], guard := none : Oper }, { dst := some 26, op := Op.buildSlice 100 1 #[((0 : Nat), Operand.tmp 25)], type := (100 : Nat), pos := "read.go:161", after := #[{ on := (2 : Nat), ground := Ground.data : Edge }], guard := none : Oper }, { dst := some 27, op := Op.call { callee := Callee.value (Operand.func 42), args := #[Operand.tmp 24, Operand.tmp 26], argTypes := #[(68 : Nat), (100 : Nat)] : Call }, type := (0 : Nat), pos := "read.go:161", after := #[{ on := (1 : Nat), ground := Ground.data : Edge }, { on := (3 : Nat), ground := Ground.data : Edge }], guard := none : Oper }] false) (aMem fun (st : St) => [rOk st 5, xr ((filledR st).set 3 (SV.int .i64 false (numI (itOf s 4))))]) (Sx.hd (Code.region 5 #[{ dst := some 18, op := Op.move (Operand.tmp 6), type := (65 : Nat), pos := "read.go:160", after := #[], guard := none : Oper }, { dst := some 19, op := Op.makeFunc (Fn.func 51) #[Operand.tmp 18] #[], type := (73 : Nat), pos := "read.go:160", after := #[{ on := (0 : Nat), ground := Ground.data : Edge }], guard := none : Oper }, { dst := some 20, op := Op.fieldAddr 27 (Operand.tmp 4) 2, type := (0 : Nat), pos := "read.go:160", after := #[], guard := none : Oper }, { dst := some 21, op := Op.buildSlice 105 1 #[((0 : Nat), Operand.tmp 20)], type := (105 : Nat), pos := "read.go:160", after := #[{ on := (2 : Nat), ground := Ground.data : Edge }], guard := none : Oper }, { dst := some 22, op := Op.call { callee := Callee.value (Operand.func 50), args := #[Operand.tmp 19, Operand.tmp 21], argTypes := #[(73 : Nat), (105 : Nat)] : Call }, type := (0 : Nat), pos := "read.go:160", after := #[{ on := (1 : Nat), ground := Ground.data : Edge }, { on := (3 : Nat), ground := Ground.data : Edge }], guard := none : Oper }] false) (aMem fun (st : St) => [rOk st 4, xr ((filledR st).set 2 (SV.int .i64 false (numI (itOf s 3))))]) (Sx.hd (Code.region 4 #[{ dst := some 12, op := Op.move (Operand.tmp 6), type := (65 : Nat), pos := "read.go:159", after := #[], guard := none : Oper }, { dst := some 13, op := Op.makeFunc (Fn.func 43) #[Operand.tmp 12] #[], type := (68 : Nat), pos := "read.go:159", after := #[{ on := (0 : Nat), ground := Ground.data : Edge }], guard := none : Oper }, { dst := some 14, op := Op.fieldAddr 27 (Operand.tmp 4) 0, type := (0 : Nat), pos := "read.go:159", after := #[], guard := none : Oper }, { dst := some 15, op := Op.fieldAddr 27 (Operand.tmp 4) 1, type := (0 : Nat), pos := "read.go:159", after := #[], guard := none : Oper }, { dst := some 16, op := Op.buildSlice 100 3 #[((0 : Nat), Operand.tmp 5), ((1 : Nat), Operand.tmp 14), ((2 : Nat), Operand.tmp 15)], type := (100 : Nat), pos := "read.go:159", after := #[{ on := (2 : Nat), ground := Ground.data : Edge }, { on := (3 : Nat), ground := Ground.data : Edge }], guard := none : Oper }, { dst := some 17, op := Op.call { callee := Callee.value (Operand.func 42), args := #[Operand.tmp 13, Operand.tmp 16], argTypes := #[(68 : Nat), (100 : Nat)] : Call }, type := (0 : Nat), pos := "read.go:159", after := #[{ on := (1 : Nat), ground := Ground.data : Edge }, { on := (4 : Nat), ground := Ground.data : Edge }], guard := none : Oper }] false) (aMem fun (st : St) => [rOk st 3, xr (((filledR st).set 0 (SV.int .i64 false (numI (itOf s 1)))).set 1 (SV.int .i64 false (numI (itOf s 2)))), kindB (numI (itOf s 0))]) (Sx.hd (Code.region 3 #[{ dst := some 10, op := Op.move (Operand.tmp 0), type := (9 : Nat), pos := "read.go:158", after := #[], guard := none : Oper }, { dst := some 11, op := Op.call { callee := Callee.value (Operand.func 41), args := #[Operand.tmp 10, Operand.const (Value.int IntKind.i64 9)], argTypes := #[(9 : Nat), (3 : Nat)] : Call }, type := (65 : Nat), pos := "read.go:158", after := #[{ on := (0 : Nat), ground := Ground.data : Edge }], guard := none : Oper }, { dst := some 6, op := Op.assign (Operand.tmp 11), type := (65 : Nat), pos := "read.go:158", after := #[{ on := (1 : Nat), ground := Ground.data : Edge }, { on := (1 : Nat), ground := Ground.chain : Edge }, { on := (0 : Nat), ground := Ground.phase : Edge }, { on := (1 : Nat), ground := Ground.phase : Edge }], guard := none : Oper }] false) (aListed (strs9 s)) { tmps := setSlot (setSlot (setSlot (setSlot (List.map some [SV.str false s] ++ List.replicate ((70 : Nat) - (1 : Nat)) none) (some 2) (some (SV.ptr 0 true 0))) (some 3) (ev (setSlot (List.map some [SV.str false s] ++ List.replicate ((70 : Nat) - (1 : Nat)) none) (some 2) (some (SV.ptr 0 true 0))) (Operand.const (Value.int IntKind.i64 0)))) (some 4) (some (SV.ptr ((0 : Nat) + (1 : Nat)) true 0))) (some 5) (some (SV.ptr ((0 : Nat) + (1 : Nat) + (1 : Nat)) true 0)), m := [((0 : Nat) + (1 : Nat) + (1 : Nat), SB.cells (SV.int .i64 true 0).cells 1 3), ((0 : Nat) + (1 : Nat), SB.cells Q3.cells 8 27), ((0 : Nat), SB.cells Q3.cells 8 27)], nx := (0 : Nat) + (1 : Nat) + (1 : Nat) + (1 : Nat) : St } x) x_2) x_4) x_6)).set 4 (SV.str false (cutIn (itOf s 5)))) 8 27) (SB.cells ((filledR (Sx.hd (Code.region 6 #[{ dst := some 23, op := Op.move (Operand.tmp 6), type := (65 : Nat), pos := "read.go:161", after := #[], guard := none : Oper }, { dst := some 24, op := Op.makeFunc (Fn.func 43) #[Operand.tmp 23] #[], type := (68 : Nat), pos := "read.go:161", after := #[{ on := (0 : Nat), ground := Ground.data : Edge }], guard := none : Oper }, { dst := some 25, op := Op.fieldAddr 27 (Operand.tmp 4) 3, type := (0 : Nat), pos := "read.go:161", after := #[], guard := none : Oper }, { dst := some 26, op := Op.buildSlice 100 1 #[((0 : Nat), Operand.tmp 25)], type := (100 : Nat), pos := "read.go:161", after := #[{ on := (2 : Nat), ground := Ground.data : Edge }], guard := none : Oper }, { dst := some 27, op := Op.call { callee := Callee.value (Operand.func 42), args := #[Operand.tmp 24, Operand.tmp 26], argTypes := #[(68 : Nat), (100 : Nat)] : Call }, type := (0 : Nat), pos := "read.go:161", after := #[{ on := (1 : Nat), ground := Ground.data : Edge }, { on := (3 : Nat), ground := Ground.data : Edge }], guard := none : Oper }] false) (aMem fun (st : St) => [rOk st 5, xr ((filledR st).set 3 (SV.int .i64 false (numI (itOf s 4))))]) (Sx.hd (Code.region 5 #[{ dst := some 18, op := Op.move (Operand.tmp 6), type := (65 : Nat), pos := "read.go:160", after := #[], guard := none : Oper }, { dst := some 19, op := Op.makeFunc (Fn.func 51) #[Operand.tmp 18] #[], type := (73 : Nat), pos := "read.go:160", after := #[{ on := (0 : Nat), ground := Ground.data : Edge }], guard := none : Oper }, { dst := some 20, op := Op.fieldAddr 27 (Operand.tmp 4) 2, type := (0 : Nat), pos := "read.go:160", after := #[], guard := none : Oper }, { dst := some 21, op := Op.buildSlice 105 1 #[((0 : Nat), Operand.tmp 20)], type := (105 : Nat), pos := "read.go:160", after := #[{ on := (2 : Nat), ground := Ground.data : Edge }], guard := none : Oper }, { dst := some 22, op := Op.call { callee := Callee.value (Operand.func 50), args := #[Operand.tmp 19, Operand.tmp 21], argTypes := #[(73 : Nat), (105 : Nat)] : Call }, type := (0 : Nat), pos := "read.go:160", after := #[{ on := (1 : Nat), ground := Ground.data : Edge }, { on := (3 : Nat), ground := Ground.data : Edge }], guard := none : Oper }] false) (aMem fun (st : St) => [rOk st 4, xr ((filledR st).set 2 (SV.int .i64 false (numI (itOf s 3))))]) (Sx.hd (Code.region 4 #[{ dst := some 12, op := Op.move (Operand.tmp 6), type := (65 : Nat), pos := "read.go:159", after := #[], guard := none : Oper }, { dst := some 13, op := Op.makeFunc (Fn.func 43) #[Operand.tmp 12] #[], type := (68 : Nat), pos := "read.go:159", after := #[{ on := (0 : Nat), ground := Ground.data : Edge }], guard := none : Oper }, { dst := some 14, op := Op.fieldAddr 27 (Operand.tmp 4) 0, type := (0 : Nat), pos := "read.go:159", after := #[], guard := none : Oper }, { dst := some 15, op := Op.fieldAddr 27 (Operand.tmp 4) 1, type := (0 : Nat), pos := "read.go:159", after := #[], guard := none : Oper }, { dst := some 16, op := Op.buildSlice 100 3 #[((0 : Nat), Operand.tmp 5), ((1 : Nat), Operand.tmp 14), ((2 : Nat), Operand.tmp 15)], type := (100 : Nat), pos := "read.go:159", after := #[{ on := (2 : Nat), ground := Ground.data : Edge }, { on := (3 : Nat), ground := Ground.data : Edge }], guard := none : Oper }, { dst := some 17, op := Op.call { callee := Callee.value (Operand.func 42), args := #[Operand.tmp 13, Operand.tmp 16], argTypes := #[(68 : Nat), (100 : Nat)] : Call }, type := (0 : Nat), pos := "read.go:159", after := #[{ on := (1 : Nat), ground := Ground.data : Edge }, { on := (4 : Nat), ground := Ground.data : Edge }], guard := none : Oper }] false) (aMem fun (st : St) => [rOk st 3, xr (((filledR st).set 0 (SV.int .i64 false (numI (itOf s 1)))).set 1 (SV.int .i64 false (numI (itOf s 2)))), kindB (numI (itOf s 0))]) (Sx.hd (Code.region 3 #[{ dst := some 10, op := Op.move (Operand.tmp 0), type := (9 : Nat), pos := "read.go:158", after := #[], guard := none : Oper }, { dst := some 11, op := Op.call { callee := Callee.value (Operand.func 41), args := #[Operand.tmp 10, Operand.const (Value.int IntKind.i64 9)], argTypes := #[(9 : Nat), (3 : Nat)] : Call }, type := (65 : Nat), pos := "read.go:158", after := #[{ on := (0 : Nat), ground := Ground.data : Edge }], guard := none : Oper }, { dst := some 6, op := Op.assign (Operand.tmp 11), type := (65 : Nat), pos := "read.go:158", after := #[{ on := (1 : Nat), ground := Ground.data : Edge }, { on := (1 : Nat), ground := Ground.chain : Edge }, { on := (0 : Nat), ground := Ground.phase : Edge }, { on := (1 : Nat), ground := Ground.phase : Edge }], guard := none : Oper }] false) (aListed (strs9 s)) { tmps := setSlot (setSlot (setSlot (setSlot (List.map some [SV.str false s] ++ List.replicate ((70 : Nat) - (1 : Nat)) none) (some 2) (some (SV.ptr 0 true 0))) (some 3) (ev (setSlot (List.map some [SV.str false s] ++ List.replicate ((70 : Nat) - (1 : Nat)) none) (some 2) (some (SV.ptr 0 true 0))) (Operand.const (Value.int IntKind.i64 0)))) (some 4) (some (SV.ptr ((0 : Nat) + (1 : Nat)) true 0))) (some 5) (some (SV.ptr ((0 : Nat) + (1 : Nat) + (1 : Nat)) true 0)), m := [((0 : Nat) + (1 : Nat) + (1 : Nat), SB.cells (SV.int .i64 true 0).cells 1 3), ((0 : Nat) + (1 : Nat), SB.cells Q3.cells 8 27), ((0 : Nat), SB.cells Q3.cells 8 27)], nx := (0 : Nat) + (1 : Nat) + (1 : Nat) + (1 : Nat) : St } x) x_2) x_4) x_6)).set 4 (SV.str false (cutIn (itOf s 5)))) 8 27) ∧
 SBle Q2 Q2 ∧
 SBle (SB.cells (strs9 s) x 9) (SB.cells (strs9 s) x 9) ∧
 SBle Q0 Q0 ∧
 True))) ∧
 (cutB (itemAt (cutIn (itemAt (cutIn (itemAt (cutIn s) 6)) ((0 : Nat) + (↑x_17.fst : Int).toNat))) 1) = false →
 ((0 : Nat) + x_17.fst ≤ x_17.fst ∧
 True ∧
 (2 : Nat) * (x_17.fst + (1 : Nat)) * (32 : Nat) ≤ (281474976710656 : Nat) ∧
 x_17.fst + (1 : Nat) < (9223372036854775808 : Nat)) ∧
 x_17.snd * (2 : Nat) = x_17.snd * (2 : Nat) ∧
 ∀ (c : Nat), x_17.fst + (1 : Nat) ≤ c →
 ∃ (y : Int), getReplyB s = false ∧
 SBle (SB.cells [SV.slc 4 0 9 false x, SV.int .i64 true 7, SV.iface 117 Q5] 3 97) (SB.cells [SV.slc 4 0 9 false x, SV.int .i64 false y, errW y] 3 97) ∧
 SBle Q1 Q1 ∧
 SBle Q2 Q2 ∧
 SBle (SB.cells (strs9 s) x 9) (SB.cells (strs9 s) x 9) ∧
 SBle Q0 Q0 ∧
 True))))) ∧
 (cutB (itemAt (cutIn (itemAt (cutIn (itemAt (cutIn s) 6)) ((0 : Nat) + (↑x_17.fst : Int).toNat))) 0) = false →
 (0 : Nat) < (1152921504606846976 : Nat) ∧
 ((0 : Nat) + x_17.fst ≤ x_17.fst ∧
 True ∧
 (2 : Nat) * (x_17.fst + (1 : Nat)) * (32 : Nat) ≤ (281474976710656 : Nat) ∧
 x_17.fst + (1 : Nat) < (9223372036854775808 : Nat)) ∧
 x_17.snd * (2 : Nat) = x_17.snd * (2 : Nat) ∧
 ∀ (c : Nat), x_17.fst + (1 : Nat) ≤ c →
 ∃ (y : Int), getReplyB s = false ∧
 SBle (SB.cells [SV.slc 4 0 9 false x, SV.int .i64 true 7, SV.iface 117 Q5] 3 97) (SB.cells [SV.slc 4 0 9 false x, SV.int .i64 false y, errW y] 3 97) ∧
 SBle Q1 Q1 ∧
 SBle Q2 Q2 ∧
 SBle (SB.cells (strs9 s) x 9) (SB.cells (strs9 s) x 9) ∧
 SBle Q0 Q0 ∧
 True)))) ∧
 (itemsB (cutIn (itemAt (cutIn (itemAt (cutIn s) 6)) ((0 : Nat) + (↑x_17.fst : Int).toNat))) = false →
 (0 : Nat) < (1152921504606846976 : Nat) ∧
 (0 : Nat) < (1152921504606846976 : Nat) ∧
 ((0 : Nat) + x_17.fst ≤ x_17.fst ∧
 True ∧
 (2 : Nat) * (x_17.fst + (1 : Nat)) * (32 : Nat) ≤ (281474976710656 : Nat) ∧
 x_17.fst + (1 : Nat) < (9223372036854775808 : Nat)) ∧
 x_17.snd * (2 : Nat) = x_17.snd * (2 : Nat) ∧
 ∀ (c : Nat), x_17.fst + (1 : Nat) ≤ c →
 ∃ (y : Int), getReplyB s = false ∧
 SBle (SB.cells [SV.slc 4 0 9 false x, SV.int .i64 true 7, SV.iface 117 Q5] 3 97) (SB.cells [SV.slc 4 0 9 false x, SV.int .i64 false y, errW y] 3 97) ∧
 SBle Q1 Q1 ∧
 SBle Q2 Q2 ∧
 SBle (SB.cells (strs9 s) x 9) (SB.cells (strs9 s) x 9) ∧
 SBle Q0 Q0 ∧
 True)))) ∧
 (cutB (itemAt (cutIn (itemAt (cutIn s) 6)) ((0 : Nat) + (↑x_17.fst : Int).toNat)) = false →
 (0 : Nat) < (1152921504606846976 : Nat) ∧
 (0 : Nat) < (1152921504606846976 : Nat) ∧
 ((0 : Nat) + x_17.fst ≤ x_17.fst ∧
 True ∧
 (2 : Nat) * (x_17.fst + (1 : Nat)) * (32 : Nat) ≤ (281474976710656 : Nat) ∧
 x_17.fst + (1 : Nat) < (9223372036854775808 : Nat)) ∧
 x_17.snd * (2 : Nat) = x_17.snd * (2 : Nat) ∧
 ∀ (c : Nat), x_17.fst + (1 : Nat) ≤ c →
 ∃ (y : Int), getReplyB s = false ∧
 SBle (SB.cells [SV.slc 4 0 9 false x, SV.int .i64 true 7, SV.iface 117 Q5] 3 97) (SB.cells [SV.slc 4 0 9 false x, SV.int .i64 false y, errW y] 3 97) ∧
 SBle Q1 Q1 ∧
 SBle Q2 Q2 ∧
 SBle (SB.cells (strs9 s) x 9) (SB.cells (strs9 s) x 9) ∧
 SBle Q0 Q0 ∧
 True)) ∧
 (decide ((↑x_17.fst : Int) < (↑(itemsN (cutIn (itemAt (cutIn s) 6))) : Int)) = false →
 ∃ (y : Nat), itemsN (cutIn (itOf s 6)) ≤ y ∧
 SBle (SB.cells [SV.slc 4 0 9 false x, SV.int .i64 true 7, SV.niliface] 3 97) (SB.cells [SV.slc 4 0 9 false x, SV.int .i64 true 7, SV.niliface] 3 97) ∧
 (8 : Nat) = (8 : Nat) ∧
 numI (itOf s 1) = numI (itOf s 1) ∧
 numI (itOf s 2) = numI (itOf s 2) ∧
 numI (itOf s 3) = numI (itOf s 3) ∧
 numI (itOf s 4) = numI (itOf s 4) ∧
 cutIn (itOf s 5) = cutIn (itOf s 5) ∧
 ((0 : Nat) = (0 : Nat) ∧
 x_17.fst = itemsN (cutIn (itOf s 6)) ∧
 x_17.snd = y) ∧
 True ∧
 ([] : List UInt8) = [] ∧
 false = false ∧
 SBle (SB.rows false x_17.fst (colsE (fun (i : Nat) => cutIn (subOf (itOf s 6) i 0)) fun (i : Nat) => cutIn (subOf (itOf s 6) i 1)) false (x_17.snd * (2 : Nat)) 52) (SB.rows false (itemsN (cutIn (itOf s 6))) (colsE (fun (i : Nat) => cutIn (subOf (itOf s 6) i 0)) fun (i : Nat) => cutIn (subOf (itOf s 6) i 1)) false (y * (2 : Nat)) 52) ∧
 SBle Q2 Q2 ∧
 SBle (SB.cells (strs9 s) x 9) (SB.cells (strs9 s) x 9) ∧
 SBle Q0 Q0 ∧
 True))) ∧
 (itemsB (cutIn (itemAt (cutIn s) 6)) = false →
 ∃ (y : Int), getReplyB s = false ∧
 SBle (SB.cells [SV.slc 4 0 9 false x, SV.int .i64 true 7, SV.iface 117 Q5] 3 97) (SB.cells [SV.slc 4 0 9 false x, SV.int .i64 false y, errW y] 3 97) ∧
 SBle Q1 Q1 ∧
 SBle Q2 Q2 ∧
 SBle (SB.cells (strs9 s) x 9) (SB.cells (strs9 s) x 9) ∧
 SBle Q0 Q0 ∧
 True)))) ∧
 (cutB (itemAt (cutIn s) 6) = false →
 ∃ (y : Int), getReplyB s = false ∧
 SBle (SB.cells [SV.slc 4 0 9 false x, SV.int .i64 true 7, SV.iface 117 Q5] 3 97) (SB.cells [SV.slc 4 0 9 false x, SV.int .i64 false y, errW y] 3 97) ∧
 SBle Q1 Q1 ∧
 SBle Q2 Q2 ∧
 SBle (SB.cells (strs9 s) x 9) (SB.cells (strs9 s) x 9) ∧
 SBle Q0 Q0 ∧
 True)) ∧
 (∀ (x_10 : Nat), itemsN (cutIn (itOf s 6)) ≤ x_10 →
 ((itemAt (cutIn s) 7).length < (1152921504606846976 : Nat) ∧
 (cutB (itemAt (cutIn s) 7) = true →
 (cutL (itemAt (cutIn s) 7) = true →
 ∃ (y : Int × List UInt8), getReplyB s = false ∧
 SBle (SB.cells [SV.slc 4 0 9 false x, SV.int .i64 true 8, SV.iface 117 (SV.agg [SV.int .i64 true 8, SV.iface 24 (SV.int .i64 true 2)])] 3 97) (SB.cells [SV.slc 4 0 9 false x, SV.int .i64 false y.fst, errW y.fst] 3 97) ∧
 SBle (SB.cells [SV.int .i64 false (numI (itOf s 1)), SV.int .i64 false (numI (itOf s 2)), SV.int .i64 false (numI (itOf s 3)), SV.int .i64 false (numI (itOf s 4)), SV.str false (cutIn (itOf s 5)), SV.rslc ((0 : Nat) + (1 : Nat) + (1 : Nat) + (1 : Nat) + (2 : Nat) + (0 : Nat) + (0 : Nat) + (0 : Nat) + (0 : Nat)) 2 false 0 (itemsN (cutIn (itOf s 6))) x_10, SV.str true [], SV.bool true false] 8 27) (SB.cells [SV.int .i64 false (numI (itOf s 1)), SV.int .i64 false (numI (itOf s 2)), SV.int .i64 false (numI (itOf s 3)), SV.int .i64 false (numI (itOf s 4)), SV.str false (cutIn (itOf s 5)), SV.rslc ((0 : Nat) + (1 : Nat) + (1 : Nat) + (1 : Nat) + (2 : Nat) + (0 : Nat) + (0 : Nat) + (0 : Nat) + (0 : Nat)) 2 false 0 (itemsN (cutIn (itOf s 6))) x_10, SV.str false y.snd, SV.bool true false] 8 27) ∧
 SBle (SB.rows false (itemsN (cutIn (itOf s 6))) (colsE (fun (i : Nat) => cutIn (subOf (itOf s 6) i 0)) fun (i : Nat) => cutIn (subOf (itOf s 6) i 1)) false (x_10 * (2 : Nat)) 52) (SB.rows false (itemsN (cutIn (itOf s 6))) (colsE (fun (i : Nat) => cutIn (subOf (itOf s 6) i 0)) fun (i : Nat) => cutIn (subOf (itOf s 6) i 1)) false (x_10 * (2 : Nat)) 52) ∧
 SBle Q2 Q2 ∧
 SBle (SB.cells (strs9 s) x 9) (SB.cells (strs9 s) x 9) ∧
 SBle Q0 Q0 ∧
 True) ∧
 (cutL (itemAt (cutIn s) 7) = false →
 ((!decide (cutRest (itemAt (cutIn s) 7) = [])) = true →
 ∃ (y : Int × List UInt8), getReplyB s = false ∧
 SBle (SB.cells [SV.slc 4 0 9 false x, SV.int .i64 true 8, SV.iface 117 (SV.agg [SV.int .i64 true 8, SV.iface 24 (SV.int .i64 true 2)])] 3 97) (SB.cells [SV.slc 4 0 9 false x, SV.int .i64 false y.fst, errW y.fst] 3 97) ∧
 SBle (SB.cells [SV.int .i64 false (numI (itOf s 1)), SV.int .i64 false (numI (itOf s 2)), SV.int .i64 false (numI (itOf s 3)), SV.int .i64 false (numI (itOf s 4)), SV.str false (cutIn (itOf s 5)), SV.rslc ((0 : Nat) + (1 : Nat) + (1 : Nat) + (1 : Nat) + (2 : Nat) + (0 : Nat) + (0 : Nat) + (0 : Nat) + (0 : Nat)) 2 false 0 (itemsN (cutIn (itOf s 6))) x_10, SV.str true [], SV.bool true false] 8 27) (SB.cells [SV.int .i64 false (numI (itOf s 1)), SV.int .i64 false (numI (itOf s 2)), SV.int .i64 false (numI (itOf s 3)), SV.int .i64 false (numI (itOf s 4)), SV.str false (cutIn (itOf s 5)), SV.rslc ((0 : Nat) + (1 : Nat) + (1 : Nat) + (1 : Nat) + (2 : Nat) + (0 : Nat) + (0 : Nat) + (0 : Nat) + (0 : Nat)) 2 false 0 (itemsN (cutIn (itOf s 6))) x_10, SV.str false y.snd, SV.bool true false] 8 27) ∧
 SBle (SB.rows false (itemsN (cutIn (itOf s 6))) (colsE (fun (i : Nat) => cutIn (subOf (itOf s 6) i 0)) fun (i : Nat) => cutIn (subOf (itOf s 6) i 1)) false (x_10 * (2 : Nat)) 52) (SB.rows false (itemsN (cutIn (itOf s 6))) (colsE (fun (i : Nat) => cutIn (subOf (itOf s 6) i 0)) fun (i : Nat) => cutIn (subOf (itOf s 6) i 1)) false (x_10 * (2 : Nat)) 52) ∧
 SBle Q2 Q2 ∧
 SBle (SB.cells (strs9 s) x 9) (SB.cells (strs9 s) x 9) ∧
 SBle Q0 Q0 ∧
 True) ∧
 ((!decide (cutRest (itemAt (cutIn s) 7) = [])) = false →
 ∃ (_y : Unit), True ∧
 SBle (SB.cells [SV.slc 4 0 9 false x, SV.int .i64 true 8, SV.niliface] 3 97) (SB.cells [SV.slc 4 0 9 false x, SV.int .i64 true 8, SV.niliface] 3 97) ∧
 SBle (SB.cells [SV.int .i64 false (numI (itOf s 1)), SV.int .i64 false (numI (itOf s 2)), SV.int .i64 false (numI (itOf s 3)), SV.int .i64 false (numI (itOf s 4)), SV.str false (cutIn (itOf s 5)), SV.rslc ((0 : Nat) + (1 : Nat) + (1 : Nat) + (1 : Nat) + (2 : Nat) + (0 : Nat) + (0 : Nat) + (0 : Nat) + (0 : Nat)) 2 false 0 (itemsN (cutIn (itOf s 6))) x_10, SV.str false (cutIn (itemAt (cutIn s) 7)), SV.bool true false] 8 27) (SB.cells [SV.int .i64 false (numI (itOf s 1)), SV.int .i64 false (numI (itOf s 2)), SV.int .i64 false (numI (itOf s 3)), SV.int .i64 false (numI (itOf s 4)), SV.str false (cutIn (itOf s 5)), SV.rslc ((0 : Nat) + (1 : Nat) + (1 : Nat) + (1 : Nat) + (2 : Nat) + (0 : Nat) + (0 : Nat) + (0 : Nat) + (0 : Nat)) 2 false 0 (itemsN (cutIn (itOf s 6))) x_10, SV.str false (cutIn (itOf s 7)), SV.bool true false] 8 27) ∧
 SBle (SB.rows false (itemsN (cutIn (itOf s 6))) (colsE (fun (i : Nat) => cutIn (subOf (itOf s 6) i 0)) fun (i : Nat) => cutIn (subOf (itOf s 6) i 1)) false (x_10 * (2 : Nat)) 52) (SB.rows false (itemsN (cutIn (itOf s 6))) (colsE (fun (i : Nat) => cutIn (subOf (itOf s 6) i 0)) fun (i : Nat) => cutIn (subOf (itOf s 6) i 1)) false (x_10 * (2 : Nat)) 52) ∧
 SBle Q2 Q2 ∧
 SBle (SB.cells (strs9 s) x 9) (SB.cells (strs9 s) x 9) ∧
 SBle Q0 Q0 ∧
 True))) ∧
 (cutB (itemAt (cutIn s) 7) = false →
 ∃ (y : Int × List UInt8), getReplyB s = false ∧
 SBle (SB.cells [SV.slc 4 0 9 false x, SV.int .i64 true 8, SV.iface 117 (SV.agg [SV.int .i64 true 8, SV.iface 24 (SV.int .i64 true 2)])] 3 97) (SB.cells [SV.slc 4 0 9 false x, SV.int .i64 false y.fst, errW y.fst] 3 97) ∧
 SBle (SB.cells [SV.int .i64 false (numI (itOf s 1)), SV.int .i64 false (numI (itOf s 2)), SV.int .i64 false (numI (itOf s 3)), SV.int .i64 false (numI (itOf s 4)), SV.str false (cutIn (itOf s 5)), SV.rslc ((0 : Nat) + (1 : Nat) + (1 : Nat) + (1 : Nat) + (2 : Nat) + (0 : Nat) + (0 : Nat) + (0 : Nat) + (0 : Nat)) 2 false 0 (itemsN (cutIn (itOf s 6))) x_10, SV.str true [], SV.bool true false] 8 27) (SB.cells [SV.int .i64 false (numI (itOf s 1)), SV.int .i64 false (numI (itOf s 2)), SV.int .i64 false (numI (itOf s 3)), SV.int .i64 false (numI (itOf s 4)), SV.str false (cutIn (itOf s 5)), SV.rslc ((0 : Nat) + (1 : Nat) + (1 : Nat) + (1 : Nat) + (2 : Nat) + (0 : Nat) + (0 : Nat) + (0 : Nat) + (0 : Nat)) 2 false 0 (itemsN (cutIn (itOf s 6))) x_10, SV.str false y.snd, SV.bool true false] 8 27) ∧
 SBle (SB.rows false (itemsN (cutIn (itOf s 6))) (colsE (fun (i : Nat) => cutIn (subOf (itOf s 6) i 0)) fun (i : Nat) => cutIn (subOf (itOf s 6) i 1)) false (x_10 * (2 : Nat)) 52) (SB.rows false (itemsN (cutIn (itOf s 6))) (colsE (fun (i : Nat) => cutIn (subOf (itOf s 6) i 0)) fun (i : Nat) => cutIn (subOf (itOf s 6) i 1)) false (x_10 * (2 : Nat)) 52) ∧
 SBle Q2 Q2 ∧
 SBle (SB.cells (strs9 s) x 9) (SB.cells (strs9 s) x 9) ∧
 SBle Q0 Q0 ∧
 True)) ∧
 (∀ (_x_12 : Unit), True →
 ((itemAt (cutIn s) 8).length < (1152921504606846976 : Nat) ∧
 (getB (itemAt (cutIn s) 8) = true →
 (decide ((1048577 : Int) < num (cutIn (itemAt (cutIn s) 8))) = true →
 ∃ (y : Int × Bool), getReplyB s = false ∧
 SBle (SB.cells [SV.slc 4 0 9 false x, SV.int .i64 true 9, SV.iface 117 (SV.agg [SV.int .i64 true 9, SV.iface 24 (SV.int .i64 true 2)])] 3 97) (SB.cells [SV.slc 4 0 9 false x, SV.int .i64 false y.fst, errW y.fst] 3 97) ∧
 SBle (SB.cells [SV.int .i64 false (numI (itOf s 1)), SV.int .i64 false (numI (itOf s 2)), SV.int .i64 false (numI (itOf s 3)), SV.int .i64 false (numI (itOf s 4)), SV.str false (cutIn (itOf s 5)), SV.rslc ((0 : Nat) + (1 : Nat) + (1 : Nat) + (1 : Nat) + (2 : Nat) + (0 : Nat) + (0 : Nat) + (0 : Nat) + (0 : Nat)) 2 false 0 (itemsN (cutIn (itOf s 6))) x_10, SV.str false (cutIn (itOf s 7)), SV.bool (true && true) (decide ((0 : Int) = (1 : Int)))] 8 27) (SB.cells [SV.int .i64 false (numI (itOf s 1)), SV.int .i64 false (numI (itOf s 2)), SV.int .i64 false (numI (itOf s 3)), SV.int .i64 false (numI (itOf s 4)), SV.str false (cutIn (itOf s 5)), SV.rslc ((0 : Nat) + (1 : Nat) + (1 : Nat) + (1 : Nat) + (2 : Nat) + (0 : Nat) + (0 : Nat) + (0 : Nat) + (0 : Nat)) 2 false 0 (itemsN (cutIn (itOf s 6))) x_10, SV.str false (cutIn (itOf s 7)), SV.bool false y.snd] 8 27) ∧
 SBle (SB.rows false (itemsN (cutIn (itOf s 6))) (colsE (fun (i : Nat) => cutIn (subOf (itOf s 6) i 0)) fun (i : Nat) => cutIn (subOf (itOf s 6) i 1)) false (x_10 * (2 : Nat)) 52) (SB.rows false (itemsN (cutIn (itOf s 6))) (colsE (fun (i : Nat) => cutIn (subOf (itOf s 6) i 0)) fun (i : Nat) => cutIn (subOf (itOf s 6) i 1)) false (x_10 * (2 : Nat)) 52) ∧
 SBle Q2 Q2 ∧
 SBle (SB.cells (strs9 s) x 9) (SB.cells (strs9 s) x 9) ∧
 SBle Q0 Q0 ∧
 True) ∧
 (decide ((1048577 : Int) < num (cutIn (itemAt (cutIn s) 8))) = false →
 ((-9223372036854775808 : Int) ≤ num (cutIn (itemAt (cutIn s) 8)) ∧
 num (cutIn (itemAt (cutIn s) 8)) ≤ (9223372036854775807 : Int)) ∧
 (decide ((1 : Int) < num (cutIn (itemAt (cutIn s) 8))) = true →
 ∃ (y : Int × Bool), getReplyB s = false ∧
 SBle (SB.cells [SV.slc 4 0 9 false x, SV.int .i64 true 9, SV.iface 117 (SV.agg [SV.int .i64 true 9, SV.iface 24 (SV.int .i64 true 2)])] 3 97) (SB.cells [SV.slc 4 0 9 false x, SV.int .i64 false y.fst, errW y.fst] 3 97) ∧
 SBle (SB.cells [SV.int .i64 false (numI (itOf s 1)), SV.int .i64 false (numI (itOf s 2)), SV.int .i64 false (numI (itOf s 3)), SV.int .i64 false (numI (itOf s 4)), SV.str false (cutIn (itOf s 5)), SV.rslc ((0 : Nat) + (1 : Nat) + (1 : Nat) + (1 : Nat) + (2 : Nat) + (0 : Nat) + (0 : Nat) + (0 : Nat) + (0 : Nat)) 2 false 0 (itemsN (cutIn (itOf s 6))) x_10, SV.str false (cutIn (itOf s 7)), SV.bool (false && true) (decide (num (cutIn (itemAt (cutIn s) 8)) = (1 : Int)))] 8 27) (SB.cells [SV.int .i64 false (numI (itOf s 1)), SV.int .i64 false (numI (itOf s 2)), SV.int .i64 false (numI (itOf s 3)), SV.int .i64 false (numI (itOf s 4)), SV.str false (cutIn (itOf s 5)), SV.rslc ((0 : Nat) + (1 : Nat) + (1 : Nat) + (1 : Nat) + (2 : Nat) + (0 : Nat) + (0 : Nat) + (0 : Nat) + (0 : Nat)) 2 false 0 (itemsN (cutIn (itOf s 6))) x_10, SV.str false (cutIn (itOf s 7)), SV.bool false y.snd] 8 27) ∧
 SBle (SB.rows false (itemsN (cutIn (itOf s 6))) (colsE (fun (i : Nat) => cutIn (subOf (itOf s 6) i 0)) fun (i : Nat) => cutIn (subOf (itOf s 6) i 1)) false (x_10 * (2 : Nat)) 52) (SB.rows false (itemsN (cutIn (itOf s 6))) (colsE (fun (i : Nat) => cutIn (subOf (itOf s 6) i 0)) fun (i : Nat) => cutIn (subOf (itOf s 6) i 1)) false (x_10 * (2 : Nat)) 52) ∧
 SBle Q2 Q2 ∧
 SBle (SB.cells (strs9 s) x 9) (SB.cells (strs9 s) x 9) ∧
 SBle Q0 Q0 ∧
 True) ∧
 (decide ((1 : Int) < num (cutIn (itemAt (cutIn s) 8))) = false →
 ∃ (_y : Unit), True ∧
 SBle (SB.cells [SV.slc 4 0 9 false x, SV.int .i64 true 9, SV.niliface] 3 97) (SB.cells [SV.slc 4 0 9 false x, SV.int .i64 true 9, SV.niliface] 3 97) ∧
 SBle (SB.cells [SV.int .i64 false (numI (itOf s 1)), SV.int .i64 false (numI (itOf s 2)), SV.int .i64 false (numI (itOf s 3)), SV.int .i64 false (numI (itOf s 4)), SV.str false (cutIn (itOf s 5)), SV.rslc ((0 : Nat) + (1 : Nat) + (1 : Nat) + (1 : Nat) + (2 : Nat) + (0 : Nat) + (0 : Nat) + (0 : Nat) + (0 : Nat)) 2 false 0 (itemsN (cutIn (itOf s 6))) x_10, SV.str false (cutIn (itOf s 7)), SV.bool (false && true) (decide (num (cutIn (itemAt (cutIn s) 8)) = (1 : Int)))] 8 27) (SB.cells [SV.int .i64 false (numI (itOf s 1)), SV.int .i64 false (numI (itOf s 2)), SV.int .i64 false (numI (itOf s 3)), SV.int .i64 false (numI (itOf s 4)), SV.str false (cutIn (itOf s 5)), SV.rslc ((0 : Nat) + (1 : Nat) + (1 : Nat) + (1 : Nat) + (2 : Nat) + (0 : Nat) + (0 : Nat) + (0 : Nat) + (0 : Nat)) 2 false 0 (itemsN (cutIn (itOf s 6))) x_10, SV.str false (cutIn (itOf s 7)), SV.bool false (decide (numI (itOf s 8) = (1 : Int)))] 8 27) ∧
 SBle (SB.rows false (itemsN (cutIn (itOf s 6))) (colsE (fun (i : Nat) => cutIn (subOf (itOf s 6) i 0)) fun (i : Nat) => cutIn (subOf (itOf s 6) i 1)) false (x_10 * (2 : Nat)) 52) (SB.rows false (itemsN (cutIn (itOf s 6))) (colsE (fun (i : Nat) => cutIn (subOf (itOf s 6) i 0)) fun (i : Nat) => cutIn (subOf (itOf s 6) i 1)) false (x_10 * (2 : Nat)) 52) ∧
 SBle Q2 Q2 ∧
 SBle (SB.cells (strs9 s) x 9) (SB.cells (strs9 s) x 9) ∧
 SBle Q0 Q0 ∧
 True))) ∧
 (getB (itemAt (cutIn s) 8) = false →
 ∃ (y : Int × Bool), getReplyB s = false ∧
 SBle (SB.cells [SV.slc 4 0 9 false x, SV.int .i64 true 9, SV.iface 117 (SV.agg [SV.int .i64 true 9, SV.iface 24 (SV.int .i64 true 2)])] 3 97) (SB.cells [SV.slc 4 0 9 false x, SV.int .i64 false y.fst, errW y.fst] 3 97) ∧
 SBle (SB.cells [SV.int .i64 false (numI (itOf s 1)), SV.int .i64 false (numI (itOf s 2)), SV.int .i64 false (numI (itOf s 3)), SV.int .i64 false (numI (itOf s 4)), SV.str false (cutIn (itOf s 5)), SV.rslc ((0 : Nat) + (1 : Nat) + (1 : Nat) + (1 : Nat) + (2 : Nat) + (0 : Nat) + (0 : Nat) + (0 : Nat) + (0 : Nat)) 2 false 0 (itemsN (cutIn (itOf s 6))) x_10, SV.str false (cutIn (itOf s 7)), SV.bool (true && true) (decide ((0 : Int) = (1 : Int)))] 8 27) (SB.cells [SV.int .i64 false (numI (itOf s 1)), SV.int .i64 false (numI (itOf s 2)), SV.int .i64 false (numI (itOf s 3)), SV.int .i64 false (numI (itOf s 4)), SV.str false (cutIn (itOf s 5)), SV.rslc ((0 : Nat) + (1 : Nat) + (1 : Nat) + (1 : Nat) + (2 : Nat) + (0 : Nat) + (0 : Nat) + (0 : Nat) + (0 : Nat)) 2 false 0 (itemsN (cutIn (itOf s 6))) x_10, SV.str false (cutIn (itOf s 7)), SV.bool false y.snd] 8 27) ∧
 SBle (SB.rows false (itemsN (cutIn (itOf s 6))) (colsE (fun (i : Nat) => cutIn (subOf (itOf s 6) i 0)) fun (i : Nat) => cutIn (subOf (itOf s 6) i 1)) false (x_10 * (2 : Nat)) 52) (SB.rows false (itemsN (cutIn (itOf s 6))) (colsE (fun (i : Nat) => cutIn (subOf (itOf s 6) i 0)) fun (i : Nat) => cutIn (subOf (itOf s 6) i 1)) false (x_10 * (2 : Nat)) 52) ∧
 SBle Q2 Q2 ∧
 SBle (SB.cells (strs9 s) x 9) (SB.cells (strs9 s) x 9) ∧
 SBle Q0 Q0 ∧
 True)) ∧
 (∀ (_x : Unit), True →
 (((True ∧
 True ∧
 True ∧
 True ∧
 True ∧
 (false = false ∧
 (0 : Nat) + itemsN (cutIn (itOf s 6)) ≤ itemsN (cutIn (itOf s 6))) ∧
 True ∧
 True ∧
 True) ∧
 True) ∧
 True) ∧
 ({ s := numI (itOf s 1), q := numI (itOf s 2), e := numI (itOf s 3), v := numI (itOf s 4), root := cutIn (itOf s 5), n := itemsN (cutIn (itOf s 6)), f := fun (i : Nat) => cutIn (subOf (itOf s 6) i 0), g := fun (i : Nat) => cutIn (subOf (itOf s 6) i 1), proof := cutIn (itOf s 7), more := decide (numI (itOf s 8) = (1 : Int)) : Rp }.ok = true →
 ((!decide (numI (itOf s 0) = (1 : Int))) = true →
 (getReplyB s = true →
 ∃ (x : Nat), itemsN (cutIn (itOf s 6)) ≤ x ∧
 False) ∧
 (getReplyB s = false →
 sameVal Q4 Q11)) ∧
 ((!decide (numI (itOf s 0) = (1 : Int))) = false →
 ((!decide ({ s := numI (itOf s 1), q := numI (itOf s 2), e := numI (itOf s 3), v := numI (itOf s 4), root := cutIn (itOf s 5), n := itemsN (cutIn (itOf s 6)), f := fun (i : Nat) => cutIn (subOf (itOf s 6) i 0), g := fun (i : Nat) => cutIn (subOf (itOf s 6) i 1), proof := cutIn (itOf s 7), more := decide (numI (itOf s 8) = (1 : Int)) : Rp }.put = s)) = true →
 (getReplyB s = true →
 ∃ (x : Nat), itemsN (cutIn (itOf s 6)) ≤ x ∧
 False) ∧
 (getReplyB s = false →
 sameVal Q4 Q11)) ∧
 ((!decide ({ s := numI (itOf s 1), q := numI (itOf s 2), e := numI (itOf s 3), v := numI (itOf s 4), root := cutIn (itOf s 5), n := itemsN (cutIn (itOf s 6)), f := fun (i : Nat) => cutIn (subOf (itOf s 6) i 0), g := fun (i : Nat) => cutIn (subOf (itOf s 6) i 1), proof := cutIn (itOf s 7), more := decide (numI (itOf s 8) = (1 : Int)) : Rp }.put = s)) = false →
 (getReplyB s = true →
 ∃ (x : Nat), itemsN (cutIn (itOf s 6)) ≤ x ∧
 SBle (SB.rows false (itemsN (cutIn (itOf s 6))) (colsE (fun (i : Nat) => cutIn (subOf (itOf s 6) i 0)) fun (i : Nat) => cutIn (subOf (itOf s 6) i 1)) false (x_10 * (2 : Nat)) 52) (SB.rows false (itemsN (cutIn (itOf s 6))) (colsE (fun (i : Nat) => cutIn (subOf (itOf s 6) i 0)) fun (i : Nat) => cutIn (subOf (itOf s 6) i 1)) false (x * (2 : Nat)) 52) ∧
 sameVal (SV.tup [SV.agg [SV.int .i64 false (numI (itOf s 1)), SV.int .i64 false (numI (itOf s 2)), SV.int .i64 false (numI (itOf s 3)), SV.int .i64 false (numI (itOf s 4)), SV.str false (cutIn (itOf s 5)), SV.rslc ((0 : Nat) + (1 : Nat) + (1 : Nat) + (1 : Nat) + (2 : Nat) + (0 : Nat) + (0 : Nat) + (0 : Nat) + (0 : Nat)) 2 false 0 (itemsN (cutIn (itOf s 6))) x_10, SV.str false (cutIn (itOf s 7)), SV.bool false (decide (numI (itOf s 8) = (1 : Int)))], SV.int .i64 true 0]) (SV.tup [(replyD s).sv (SV.rslc ((0 : Nat) + (1 : Nat) + (1 : Nat) + (1 : Nat) + (2 : Nat) + (0 : Nat) + (0 : Nat) + (0 : Nat) + (0 : Nat)) 2 false 0 (itemsN (cutIn (itOf s 6))) x), SV.int .i64 true 0])) ∧
 (getReplyB s = false →
 sameVal (SV.tup [SV.agg [SV.int .i64 false (numI (itOf s 1)), SV.int .i64 false (numI (itOf s 2)), SV.int .i64 false (numI (itOf s 3)), SV.int .i64 false (numI (itOf s 4)), SV.str false (cutIn (itOf s 5)), SV.rslc ((0 : Nat) + (1 : Nat) + (1 : Nat) + (1 : Nat) + (2 : Nat) + (0 : Nat) + (0 : Nat) + (0 : Nat) + (0 : Nat)) 2 false 0 (itemsN (cutIn (itOf s 6))) x_10, SV.str false (cutIn (itOf s 7)), SV.bool false (decide (numI (itOf s 8) = (1 : Int)))], SV.int .i64 true 0]) Q11)))) ∧
 ({ s := numI (itOf s 1), q := numI (itOf s 2), e := numI (itOf s 3), v := numI (itOf s 4), root := cutIn (itOf s 5), n := itemsN (cutIn (itOf s 6)), f := fun (i : Nat) => cutIn (subOf (itOf s 6) i 0), g := fun (i : Nat) => cutIn (subOf (itOf s 6) i 1), proof := cutIn (itOf s 7), more := decide (numI (itOf s 8) = (1 : Int)) : Rp }.ok = false →
 (getReplyB s = true →
 ∃ (x : Nat), itemsN (cutIn (itOf s 6)) ≤ x ∧
 False) ∧
 (getReplyB s = false →
 sameVal Q4 Q11))) ∧
 ∀ (_x : Int × Bool), getReplyB s = false →
 (getReplyB s = true →
 ∃ (x : Nat), itemsN (cutIn (itOf s 6)) ≤ x ∧
 False) ∧
 (getReplyB s = false →
 sameVal Q4 Q11)) ∧
 ∀ (_x : Int × List UInt8), getReplyB s = false →
 (0 : Nat) < (1152921504606846976 : Nat) ∧
 (getReplyB s = true →
 ∃ (x : Nat), itemsN (cutIn (itOf s 6)) ≤ x ∧
 False) ∧
 (getReplyB s = false →
 sameVal Q4 Q11)) ∧
 ∀ (_x : Int), getReplyB s = false →
 (0 : Nat) < (1152921504606846976 : Nat) ∧
 (0 : Nat) < (1152921504606846976 : Nat) ∧
 (getReplyB s = true →
 ∃ (x : Nat), itemsN (cutIn (itOf s 6)) ≤ x ∧
 False) ∧
 (getReplyB s = false →
 sameVal Q4 Q11)) ∧
 ∀ (_x : Int × List UInt8), getReplyB s = false →
 (0 : Nat) < (1152921504606846976 : Nat) ∧
 (0 : Nat) < (1152921504606846976 : Nat) ∧
 (0 : Nat) < (1152921504606846976 : Nat) ∧
 (getReplyB s = true →
 ∃ (x : Nat), itemsN (cutIn (itOf s 6)) ≤ x ∧
 False) ∧
 (getReplyB s = false →
 sameVal Q4 Q11)) ∧
 ∀ (_x : Int × Int), getReplyB s = false →
 (0 : Nat) < (1152921504606846976 : Nat) ∧
 (0 : Nat) < (1152921504606846976 : Nat) ∧
 (0 : Nat) < (1152921504606846976 : Nat) ∧
 (0 : Nat) < (1152921504606846976 : Nat) ∧
 (getReplyB s = true →
 ∃ (x : Nat), itemsN (cutIn (itOf s 6)) ≤ x ∧
 False) ∧
 (getReplyB s = false →
 sameVal Q4 Q11)) ∧
 ∀ (_x : Int × Int), getReplyB s = false →
 (0 : Nat) < (1152921504606846976 : Nat) ∧
 (0 : Nat) < (1152921504606846976 : Nat) ∧
 (0 : Nat) < (1152921504606846976 : Nat) ∧
 (0 : Nat) < (1152921504606846976 : Nat) ∧
 (0 : Nat) < (1152921504606846976 : Nat) ∧
 (getReplyB s = true →
 ∃ (x : Nat), itemsN (cutIn (itOf s 6)) ≤ x ∧
 False) ∧
 (getReplyB s = false →
 sameVal Q4 Q11)) ∧
 ∀ (_x : Int × Int × Int × Int), getReplyB s = false →
 (0 : Nat) < (1152921504606846976 : Nat) ∧
 (0 : Nat) < (1152921504606846976 : Nat) ∧
 (0 : Nat) < (1152921504606846976 : Nat) ∧
 (0 : Nat) < (1152921504606846976 : Nat) ∧
 (0 : Nat) < (1152921504606846976 : Nat) ∧
 (0 : Nat) < (1152921504606846976 : Nat) ∧
 (getReplyB s = true →
 ∃ (x : Nat), itemsN (cutIn (itOf s 6)) ≤ x ∧
 False) ∧
 (getReplyB s = false →
 sameVal Q4 Q11)) ∧
 ∀ (_x : Unit), getReplyB s = false →
 (0 : Nat) < (1152921504606846976 : Nat) ∧
 (0 : Nat) < (1152921504606846976 : Nat) ∧
 (0 : Nat) < (1152921504606846976 : Nat) ∧
 (0 : Nat) < (1152921504606846976 : Nat) ∧
 (0 : Nat) < (1152921504606846976 : Nat) ∧
 (0 : Nat) < (1152921504606846976 : Nat) ∧
 (0 : Nat) < (1152921504606846976 : Nat) ∧
 (0 : Nat) < (1152921504606846976 : Nat) ∧
 (0 : Nat) < (1152921504606846976 : Nat) ∧
 (getReplyB s = true →
 ∃ (x : Nat), itemsN (cutIn (itOf s 6)) ≤ x ∧
 False) ∧
 (getReplyB s = false →
 sameVal Q4 Q11))) (SB.cells [SV.int .i64 false (numI (itOf s 1)), SV.int .i64 false (numI (itOf s 2)), SV.int .i64 true 0, SV.int .i64 true 0, SV.str true [], SV.nilslc, SV.str true [], SV.bool true false] 8 27))) (SV.tup [noReply, SV.int .i64 true 2]))) (SB.cells [SV.int .i64 false (numI (itOf s 1)), SV.int .i64 false (numI (itOf s 2)), SV.int .i64 false (numI (itOf s 3)), SV.int .i64 true 0, SV.str true [], SV.nilslc, SV.str true [], SV.bool true false] 8 27))) (SB.cells (SV.int .i64 true 0).cells 1 3))) (SB.cells [SV.int .i64 true 0, SV.int .i64 true 0, SV.int .i64 true 0, SV.int .i64 true 0, SV.str true [], SV.nilslc, SV.str true [], SV.bool true false] 8 27))) (SB.cells [SV.nilslc, SV.int .i64 true 0, SV.iface 117 (SV.agg [SV.int .i64 true 0, SV.iface 24 (SV.int .i64 true 2)])] 3 97))) (SB.cells [SV.int .i64 false (numI (itOf s 1)), SV.int .i64 false (numI (itOf s 2)), SV.int .i64 false (numI (itOf s 3)), SV.int .i64 false (numI (itOf s 4)), SV.str true [], SV.nilslc, SV.str true [], SV.bool true false] 8 27))) (SV.agg [SV.int .i64 true 7, SV.iface 24 (SV.int .i64 true 2)]))) (SV.tup [SV.agg [SV.int .i64 true 0, SV.int .i64 true 0, SV.int .i64 true 0, SV.int .i64 true 0, SV.str true [], SV.nilslc, SV.str true [], SV.bool true false], SV.int .i64 true 2]))) (SV.agg [SV.int .i64 true 0, SV.int .i64 true 0, SV.int .i64 true 0, SV.int .i64 true 0, SV.str true [], SV.nilslc, SV.str true [], SV.bool true false]))) (SB.cells [SV.int .i64 false (numI (itOf s 0))] 1 3))) (SB.cells [SV.int .i64 false (numI (itOf s 1)), SV.int .i64 false (numI (itOf s 2)), SV.int .i64 false (numI (itOf s 3)), SV.int .i64 false (numI (itOf s 4)), SV.str false (cutIn (itOf s 5)), SV.nilslc, SV.str true [], SV.bool true false] 8 27))) (SB.cells (SV.agg [SV.int .i64 true 0, SV.int .i64 true 0, SV.int .i64 true 0, SV.int .i64 true 0, SV.str true [], SV.nilslc, SV.str true [], SV.bool true false]).cells 8 27)) := by kernel_rfl
end Go.Proofs.YtocikfhejpilaaaGreatDoor
