/-
  Conditions that the executor computes, written out by a program (vcgen.py).
-/
import Derived.Test.YtocikfhejpilaaaGreatDoorPd
namespace Go.Proofs.YtocikfhejpilaaaGreatDoor
open Go Sx
set_option maxRecDepth 20000

theorem vcFGN (s : List UInt8) : VC.holds (runA (cfgGN s) 23 Tryz.f23 [.str false s] (getNoticeA s)) = ((fun Q0 : SB => ((fun Q1 : SB => ((fun Q2 : SB => ((fun Q3 : SV => ((fun Q4 : SV => ((fun Q5 : SV => ((fun Q6 : SB => ((fun Q7 : SB => ((fun Q8 : SB => ((fun Q9 : SV => ((s.length < (1152921504606846976 : Nat) ∧
 (cutB s = true →
 ((!cutL s) = true →
 ∃ (_y : Unit), getNoticeB s = false ∧
 (0 : Nat) = (0 : Nat) ∧
 SBle Q6 (SB.cells [SV.nilslc, SV.int .i64 true 0, errW 0] 3 97) ∧
 SBle Q8 Q8 ∧
 SBle Q0 Q0 ∧
 SBle Q0 Q0 ∧
 True) ∧
 ((!cutL s) = false →
 ((!decide (cutRest s = [])) = true →
 ∃ (_y : Unit), getNoticeB s = false ∧
 (0 : Nat) = (0 : Nat) ∧
 SBle Q6 (SB.cells [SV.nilslc, SV.int .i64 true 0, errW 0] 3 97) ∧
 SBle Q8 Q8 ∧
 SBle Q0 Q0 ∧
 SBle Q0 Q0 ∧
 True) ∧
 ((!decide (cutRest s = [])) = false →
 (cutIn s).length < (1099511627776 : Nat) ∧
 (itemsB (cutIn s) = true →
 ∀ (x : Nat), itemsN (cutIn s) ≤ x →
 ((!decide ((↑(itemsN (cutIn s)) : Int) = (6 : Int))) = true →
 ∃ (_y : Unit), getNoticeB s = false ∧
 (0 : Nat) = (0 : Nat) ∧
 SBle Q6 (SB.cells [SV.nilslc, SV.int .i64 true 0, errW 0] 3 97) ∧
 SBle Q8 Q8 ∧
 SBle Q0 Q0 ∧
 SBle Q0 Q0 ∧
 True) ∧
 ((!decide ((↑(itemsN (cutIn s)) : Int) = (6 : Int))) = false →
 ∃ (y : Nat), (6 : Nat) ≤ y ∧
 (0 : Nat) = (0 : Nat) ∧
 (3 : Nat) = (3 : Nat) ∧
 ((0 : Nat) = (0 : Nat) ∧
 itemsN (cutIn s) = (6 : Nat) ∧
 x = y) ∧
 (0 : Nat) < itemsN (cutIn s) ∧
 (0 : Int) = (0 : Int) ∧
 SBle (SB.rows true (itemsN (cutIn s)) [Col.str (itemAt (cutIn s))] false x 9) (SB.cells (strs6 s) y 9) ∧
 SBle Q8 Q8 ∧
 SBle Q0 Q0 ∧
 SBle Q0 Q0 ∧
 True)) ∧
 (itemsB (cutIn s) = false →
 ∃ (_y : Unit), getNoticeB s = false ∧
 (0 : Nat) = (0 : Nat) ∧
 SBle Q6 (SB.cells [SV.nilslc, SV.int .i64 true 0, errW 0] 3 97) ∧
 SBle Q8 Q8 ∧
 SBle Q0 Q0 ∧
 SBle Q0 Q0 ∧
 True)))) ∧
 (cutB s = false →
 ∃ (_y : Unit), getNoticeB s = false ∧
 (0 : Nat) = (0 : Nat) ∧
 SBle Q6 (SB.cells [SV.nilslc, SV.int .i64 true 0, errW 0] 3 97) ∧
 SBle Q8 Q8 ∧
 SBle Q0 Q0 ∧
 SBle Q0 Q0 ∧
 True)) ∧
 (∀ (x : Nat), (6 : Nat) ≤ x →
 ((itemAt (cutIn s) 0).length < (1152921504606846976 : Nat) ∧
 (getB (itemAt (cutIn s) 0) = true →
 (decide ((1048577 : Int) < num (cutIn (itemAt (cutIn s) 0))) = true →
 (0 : Nat) < (1152921504606846976 : Nat) ∧
 ∃ (y : Int × Int × Int), getNoticeB s = false ∧
 SBle (SB.cells [SV.slc 4 0 6 false x, SV.int .i64 true 1, SV.iface 117 (SV.agg [SV.int .i64 true 1, SV.iface 24 (SV.int .i64 true 2)])] 3 97) (SB.cells [SV.slc 4 0 6 false x, SV.int .i64 false y.fst, errW y.fst] 3 97) ∧
 SBle (SB.cells [SV.int .i64 true 0, SV.int .i64 true 0, SV.int .i64 true 0, SV.str true [], SV.nilslc] 5 30) (SB.cells [SV.int .i64 false y.snd.fst, SV.int .i64 true 0, SV.int .i64 true 0, SV.str true [], SV.nilslc] 5 30) ∧
 SBle (SB.cells [SV.int .i64 true 0] 1 3) (SB.cells [SV.int .i64 false y.snd.snd] 1 3) ∧
 SBle (SB.cells (strs6 s) x 9) (SB.cells (strs6 s) x 9) ∧
 SBle Q0 Q0 ∧
 True) ∧
 (decide ((1048577 : Int) < num (cutIn (itemAt (cutIn s) 0))) = false →
 ((-9223372036854775808 : Int) ≤ num (cutIn (itemAt (cutIn s) 0)) ∧
 num (cutIn (itemAt (cutIn s) 0)) ≤ (9223372036854775807 : Int)) ∧
 (itemAt (cutIn s) 1).length < (1152921504606846976 : Nat) ∧
 (getB (itemAt (cutIn s) 1) = true →
 (decide ((1048577 : Int) < num (cutIn (itemAt (cutIn s) 1))) = true →
 ∃ (y : Int × Int × Int), getNoticeB s = false ∧
 SBle (SB.cells [SV.slc 4 0 6 false x, SV.int .i64 true 2, SV.iface 117 (SV.agg [SV.int .i64 true 2, SV.iface 24 (SV.int .i64 true 2)])] 3 97) (SB.cells [SV.slc 4 0 6 false x, SV.int .i64 false y.fst, errW y.fst] 3 97) ∧
 SBle (SB.cells [SV.int .i64 true 0, SV.int .i64 true 0, SV.int .i64 true 0, SV.str true [], SV.nilslc] 5 30) (SB.cells [SV.int .i64 false y.snd.fst, SV.int .i64 true 0, SV.int .i64 true 0, SV.str true [], SV.nilslc] 5 30) ∧
 SBle (SB.cells [SV.int .i64 false (num (cutIn (itemAt (cutIn s) 0)))] 1 3) (SB.cells [SV.int .i64 false y.snd.snd] 1 3) ∧
 SBle (SB.cells (strs6 s) x 9) (SB.cells (strs6 s) x 9) ∧
 SBle Q0 Q0 ∧
 True) ∧
 (decide ((1048577 : Int) < num (cutIn (itemAt (cutIn s) 1))) = false →
 ((-9223372036854775808 : Int) ≤ num (cutIn (itemAt (cutIn s) 1)) ∧
 num (cutIn (itemAt (cutIn s) 1)) ≤ (9223372036854775807 : Int)) ∧
 ∃ (_y : Unit), True ∧
 SBle (SB.cells [SV.slc 4 0 6 false x, SV.int .i64 true 2, SV.niliface] 3 97) (SB.cells [SV.slc 4 0 6 false x, SV.int .i64 true 2, SV.niliface] 3 97) ∧
 SBle (SB.cells [SV.int .i64 false (num (cutIn (itemAt (cutIn s) 1))), SV.int .i64 true 0, SV.int .i64 true 0, SV.str true [], SV.nilslc] 5 30) (SB.cells [SV.int .i64 false (numI (itOf s 1)), SV.int .i64 true 0, SV.int .i64 true 0, SV.str true [], SV.nilslc] 5 30) ∧
 SBle (SB.cells [SV.int .i64 false (num (cutIn (itemAt (cutIn s) 0)))] 1 3) Q2 ∧
 SBle (SB.cells (strs6 s) x 9) (SB.cells (strs6 s) x 9) ∧
 SBle Q0 Q0 ∧
 True)) ∧
 (getB (itemAt (cutIn s) 1) = false →
 ∃ (y : Int × Int × Int), getNoticeB s = false ∧
 SBle (SB.cells [SV.slc 4 0 6 false x, SV.int .i64 true 2, SV.iface 117 (SV.agg [SV.int .i64 true 2, SV.iface 24 (SV.int .i64 true 2)])] 3 97) (SB.cells [SV.slc 4 0 6 false x, SV.int .i64 false y.fst, errW y.fst] 3 97) ∧
 SBle (SB.cells [SV.int .i64 true 0, SV.int .i64 true 0, SV.int .i64 true 0, SV.str true [], SV.nilslc] 5 30) (SB.cells [SV.int .i64 false y.snd.fst, SV.int .i64 true 0, SV.int .i64 true 0, SV.str true [], SV.nilslc] 5 30) ∧
 SBle (SB.cells [SV.int .i64 false (num (cutIn (itemAt (cutIn s) 0)))] 1 3) (SB.cells [SV.int .i64 false y.snd.snd] 1 3) ∧
 SBle (SB.cells (strs6 s) x 9) (SB.cells (strs6 s) x 9) ∧
 SBle Q0 Q0 ∧
 True))) ∧
 (getB (itemAt (cutIn s) 0) = false →
 (0 : Nat) < (1152921504606846976 : Nat) ∧
 ∃ (y : Int × Int × Int), getNoticeB s = false ∧
 SBle (SB.cells [SV.slc 4 0 6 false x, SV.int .i64 true 1, SV.iface 117 (SV.agg [SV.int .i64 true 1, SV.iface 24 (SV.int .i64 true 2)])] 3 97) (SB.cells [SV.slc 4 0 6 false x, SV.int .i64 false y.fst, errW y.fst] 3 97) ∧
 SBle (SB.cells [SV.int .i64 true 0, SV.int .i64 true 0, SV.int .i64 true 0, SV.str true [], SV.nilslc] 5 30) (SB.cells [SV.int .i64 false y.snd.fst, SV.int .i64 true 0, SV.int .i64 true 0, SV.str true [], SV.nilslc] 5 30) ∧
 SBle (SB.cells [SV.int .i64 true 0] 1 3) (SB.cells [SV.int .i64 false y.snd.snd] 1 3) ∧
 SBle (SB.cells (strs6 s) x 9) (SB.cells (strs6 s) x 9) ∧
 SBle Q0 Q0 ∧
 True)) ∧
 (∀ (x_2 : Unit), True →
 ((itemAt (cutIn s) 2).length < (1152921504606846976 : Nat) ∧
 (getB (itemAt (cutIn s) 2) = true →
 (decide ((1048577 : Int) < num (cutIn (itemAt (cutIn s) 2))) = true →
 ∃ (y : Int × Int), getNoticeB s = false ∧
 SBle (SB.cells [SV.slc 4 0 6 false x, SV.int .i64 true 3, SV.iface 117 (SV.agg [SV.int .i64 true 3, SV.iface 24 (SV.int .i64 true 2)])] 3 97) (SB.cells [SV.slc 4 0 6 false x, SV.int .i64 false y.fst, errW y.fst] 3 97) ∧
 SBle (SB.cells [SV.int .i64 false (numI (itOf s 1)), SV.int .i64 true 0, SV.int .i64 true 0, SV.str true [], SV.nilslc] 5 30) (SB.cells [SV.int .i64 false (numI (itOf s 1)), SV.int .i64 false y.snd, SV.int .i64 true 0, SV.str true [], SV.nilslc] 5 30) ∧
 SBle Q2 Q2 ∧
 SBle (SB.cells (strs6 s) x 9) (SB.cells (strs6 s) x 9) ∧
 SBle Q0 Q0 ∧
 True) ∧
 (decide ((1048577 : Int) < num (cutIn (itemAt (cutIn s) 2))) = false →
 ((-9223372036854775808 : Int) ≤ num (cutIn (itemAt (cutIn s) 2)) ∧
 num (cutIn (itemAt (cutIn s) 2)) ≤ (9223372036854775807 : Int)) ∧
 ∃ (_y : Unit), True ∧
 SBle (SB.cells [SV.slc 4 0 6 false x, SV.int .i64 true 3, SV.niliface] 3 97) (SB.cells [SV.slc 4 0 6 false x, SV.int .i64 true 3, SV.niliface] 3 97) ∧
 SBle (SB.cells [SV.int .i64 false (numI (itOf s 1)), SV.int .i64 false (num (cutIn (itemAt (cutIn s) 2))), SV.int .i64 true 0, SV.str true [], SV.nilslc] 5 30) (SB.cells [SV.int .i64 false (numI (itOf s 1)), SV.int .i64 false (numI (itOf s 2)), SV.int .i64 true 0, SV.str true [], SV.nilslc] 5 30) ∧
 SBle Q2 Q2 ∧
 SBle (SB.cells (strs6 s) x 9) (SB.cells (strs6 s) x 9) ∧
 SBle Q0 Q0 ∧
 True)) ∧
 (getB (itemAt (cutIn s) 2) = false →
 ∃ (y : Int × Int), getNoticeB s = false ∧
 SBle (SB.cells [SV.slc 4 0 6 false x, SV.int .i64 true 3, SV.iface 117 (SV.agg [SV.int .i64 true 3, SV.iface 24 (SV.int .i64 true 2)])] 3 97) (SB.cells [SV.slc 4 0 6 false x, SV.int .i64 false y.fst, errW y.fst] 3 97) ∧
 SBle (SB.cells [SV.int .i64 false (numI (itOf s 1)), SV.int .i64 true 0, SV.int .i64 true 0, SV.str true [], SV.nilslc] 5 30) (SB.cells [SV.int .i64 false (numI (itOf s 1)), SV.int .i64 false y.snd, SV.int .i64 true 0, SV.str true [], SV.nilslc] 5 30) ∧
 SBle Q2 Q2 ∧
 SBle (SB.cells (strs6 s) x 9) (SB.cells (strs6 s) x 9) ∧
 SBle Q0 Q0 ∧
 True)) ∧
 (∀ (x_4 : Unit), True →
 ((itemAt (cutIn s) 3).length < (1152921504606846976 : Nat) ∧
 (getB (itemAt (cutIn s) 3) = true →
 (decide ((1048577 : Int) < num (cutIn (itemAt (cutIn s) 3))) = true →
 ∃ (y : Int × Int), getNoticeB s = false ∧
 SBle (SB.cells [SV.slc 4 0 6 false x, SV.int .i64 true 4, SV.iface 117 (SV.agg [SV.int .i64 true 4, SV.iface 24 (SV.int .i64 true 2)])] 3 97) (SB.cells [SV.slc 4 0 6 false x, SV.int .i64 false y.fst, errW y.fst] 3 97) ∧
 SBle (SB.cells [SV.int .i64 false (numI (itOf s 1)), SV.int .i64 false (numI (itOf s 2)), SV.int .i64 true 0, SV.str true [], SV.nilslc] 5 30) (SB.cells [SV.int .i64 false (numI (itOf s 1)), SV.int .i64 false (numI (itOf s 2)), SV.int .i64 false y.snd, SV.str true [], SV.nilslc] 5 30) ∧
 SBle Q2 Q2 ∧
 SBle (SB.cells (strs6 s) x 9) (SB.cells (strs6 s) x 9) ∧
 SBle Q0 Q0 ∧
 True) ∧
 (decide ((1048577 : Int) < num (cutIn (itemAt (cutIn s) 3))) = false →
 ((-9223372036854775808 : Int) ≤ num (cutIn (itemAt (cutIn s) 3)) ∧
 num (cutIn (itemAt (cutIn s) 3)) ≤ (9223372036854775807 : Int)) ∧
 ∃ (_y : Unit), True ∧
 SBle (SB.cells [SV.slc 4 0 6 false x, SV.int .i64 true 4, SV.niliface] 3 97) (SB.cells [SV.slc 4 0 6 false x, SV.int .i64 true 4, SV.niliface] 3 97) ∧
 SBle (SB.cells [SV.int .i64 false (numI (itOf s 1)), SV.int .i64 false (numI (itOf s 2)), SV.int .i64 false (num (cutIn (itemAt (cutIn s) 3))), SV.str true [], SV.nilslc] 5 30) Q7 ∧
 SBle Q2 Q2 ∧
 SBle (SB.cells (strs6 s) x 9) (SB.cells (strs6 s) x 9) ∧
 SBle Q0 Q0 ∧
 True)) ∧
 (getB (itemAt (cutIn s) 3) = false →
 ∃ (y : Int × Int), getNoticeB s = false ∧
 SBle (SB.cells [SV.slc 4 0 6 false x, SV.int .i64 true 4, SV.iface 117 (SV.agg [SV.int .i64 true 4, SV.iface 24 (SV.int .i64 true 2)])] 3 97) (SB.cells [SV.slc 4 0 6 false x, SV.int .i64 false y.fst, errW y.fst] 3 97) ∧
 SBle (SB.cells [SV.int .i64 false (numI (itOf s 1)), SV.int .i64 false (numI (itOf s 2)), SV.int .i64 true 0, SV.str true [], SV.nilslc] 5 30) (SB.cells [SV.int .i64 false (numI (itOf s 1)), SV.int .i64 false (numI (itOf s 2)), SV.int .i64 false y.snd, SV.str true [], SV.nilslc] 5 30) ∧
 SBle Q2 Q2 ∧
 SBle (SB.cells (strs6 s) x 9) (SB.cells (strs6 s) x 9) ∧
 SBle Q0 Q0 ∧
 True)) ∧
 (∀ (x_6 : Unit), True →
 ((itemAt (cutIn s) 4).length < (1152921504606846976 : Nat) ∧
 (cutB (itemAt (cutIn s) 4) = true →
 (cutL (itemAt (cutIn s) 4) = true →
 ∃ (y : Int × List UInt8), getNoticeB s = false ∧
 SBle (SB.cells [SV.slc 4 0 6 false x, SV.int .i64 true 5, SV.iface 117 (SV.agg [SV.int .i64 true 5, SV.iface 24 (SV.int .i64 true 2)])] 3 97) (SB.cells [SV.slc 4 0 6 false x, SV.int .i64 false y.fst, errW y.fst] 3 97) ∧
 SBle Q7 (SB.cells [SV.int .i64 false (numI (itOf s 1)), SV.int .i64 false (numI (itOf s 2)), SV.int .i64 false (numI (itOf s 3)), SV.str false y.snd, SV.nilslc] 5 30) ∧
 SBle Q2 Q2 ∧
 SBle (SB.cells (strs6 s) x 9) (SB.cells (strs6 s) x 9) ∧
 SBle Q0 Q0 ∧
 True) ∧
 (cutL (itemAt (cutIn s) 4) = false →
 ((!decide (cutRest (itemAt (cutIn s) 4) = [])) = true →
 ∃ (y : Int × List UInt8), getNoticeB s = false ∧
 SBle (SB.cells [SV.slc 4 0 6 false x, SV.int .i64 true 5, SV.iface 117 (SV.agg [SV.int .i64 true 5, SV.iface 24 (SV.int .i64 true 2)])] 3 97) (SB.cells [SV.slc 4 0 6 false x, SV.int .i64 false y.fst, errW y.fst] 3 97) ∧
 SBle Q7 (SB.cells [SV.int .i64 false (numI (itOf s 1)), SV.int .i64 false (numI (itOf s 2)), SV.int .i64 false (numI (itOf s 3)), SV.str false y.snd, SV.nilslc] 5 30) ∧
 SBle Q2 Q2 ∧
 SBle (SB.cells (strs6 s) x 9) (SB.cells (strs6 s) x 9) ∧
 SBle Q0 Q0 ∧
 True) ∧
 ((!decide (cutRest (itemAt (cutIn s) 4) = [])) = false →
 ∃ (_y : Unit), True ∧
 SBle (SB.cells [SV.slc 4 0 6 false x, SV.int .i64 true 5, SV.niliface] 3 97) (SB.cells [SV.slc 4 0 6 false x, SV.int .i64 true 5, SV.niliface] 3 97) ∧
 SBle (SB.cells [SV.int .i64 false (numI (itOf s 1)), SV.int .i64 false (numI (itOf s 2)), SV.int .i64 false (numI (itOf s 3)), SV.str false (cutIn (itemAt (cutIn s) 4)), SV.nilslc] 5 30) Q1 ∧
 SBle Q2 Q2 ∧
 SBle (SB.cells (strs6 s) x 9) (SB.cells (strs6 s) x 9) ∧
 SBle Q0 Q0 ∧
 True))) ∧
 (cutB (itemAt (cutIn s) 4) = false →
 ∃ (y : Int × List UInt8), getNoticeB s = false ∧
 SBle (SB.cells [SV.slc 4 0 6 false x, SV.int .i64 true 5, SV.iface 117 (SV.agg [SV.int .i64 true 5, SV.iface 24 (SV.int .i64 true 2)])] 3 97) (SB.cells [SV.slc 4 0 6 false x, SV.int .i64 false y.fst, errW y.fst] 3 97) ∧
 SBle Q7 (SB.cells [SV.int .i64 false (numI (itOf s 1)), SV.int .i64 false (numI (itOf s 2)), SV.int .i64 false (numI (itOf s 3)), SV.str false y.snd, SV.nilslc] 5 30) ∧
 SBle Q2 Q2 ∧
 SBle (SB.cells (strs6 s) x 9) (SB.cells (strs6 s) x 9) ∧
 SBle Q0 Q0 ∧
 True)) ∧
 (∀ (_x_8 : Unit), True →
 ((itemAt (cutIn s) 5).length < (1152921504606846976 : Nat) ∧
 (cutB (itemAt (cutIn s) 5) = true →
 ((!cutL (itemAt (cutIn s) 5)) = true →
 ∃ (y : Int), getNoticeB s = false ∧
 SBle (SB.cells [SV.slc 4 0 6 false x, SV.int .i64 true 6, SV.iface 117 Q4] 3 97) (SB.cells [SV.slc 4 0 6 false x, SV.int .i64 false y, errW y] 3 97) ∧
 SBle Q1 Q1 ∧
 SBle Q2 Q2 ∧
 SBle (SB.cells (strs6 s) x 9) (SB.cells (strs6 s) x 9) ∧
 SBle Q0 Q0 ∧
 True) ∧
 ((!cutL (itemAt (cutIn s) 5)) = false →
 ((!decide (cutRest (itemAt (cutIn s) 5) = [])) = true →
 ∃ (y : Int), getNoticeB s = false ∧
 SBle (SB.cells [SV.slc 4 0 6 false x, SV.int .i64 true 6, SV.iface 117 Q4] 3 97) (SB.cells [SV.slc 4 0 6 false x, SV.int .i64 false y, errW y] 3 97) ∧
 SBle Q1 Q1 ∧
 SBle Q2 Q2 ∧
 SBle (SB.cells (strs6 s) x 9) (SB.cells (strs6 s) x 9) ∧
 SBle Q0 Q0 ∧
 True) ∧
 ((!decide (cutRest (itemAt (cutIn s) 5) = [])) = false →
 (cutIn (itemAt (cutIn s) 5)).length < (1099511627776 : Nat) ∧
 (itemsB (cutIn (itemAt (cutIn s) 5)) = true →
 ∀ (x_14 : Nat), itemsN (cutIn (itemAt (cutIn s) 5)) ≤ x_14 →
 (decide ((80 : Int) < (↑(itemsN (cutIn (itemAt (cutIn s) 5))) : Int)) = true →
 ∃ (y : Int), getNoticeB s = false ∧
 SBle (SB.cells [SV.slc 4 0 6 false x, SV.int .i64 true 6, SV.iface 117 Q4] 3 97) (SB.cells [SV.slc 4 0 6 false x, SV.int .i64 false y, errW y] 3 97) ∧
 SBle Q1 Q1 ∧
 SBle Q2 Q2 ∧
 SBle (SB.cells (strs6 s) x 9) (SB.cells (strs6 s) x 9) ∧
 SBle Q0 Q0 ∧
 True) ∧
 (decide ((80 : Int) < (↑(itemsN (cutIn (itemAt (cutIn s) 5))) : Int)) = false →
 ((0 : Int) ≤ (↑(itemsN (cutIn (itemAt (cutIn s) 5))) : Int) ∧
 (40 : Int) * (↑(itemsN (cutIn (itemAt (cutIn s) 5))) : Int) ≤ (140737488355328 : Int) ∧
 (↑(itemsN (cutIn (itemAt (cutIn s) 5))) : Int) ≤ (9223372036854775807 : Int)) ∧
 (∃ (y : Nat × Nat), Grow (itemsN (cutIn (itOf s 5))) y ∧
 (0 : Int) = (↑y.fst : Int) ∧
 ((0 : Nat) = (0 : Nat) ∧
 (0 : Nat) = y.fst ∧
 (↑(itemsN (cutIn (itemAt (cutIn s) 5))) : Int).toNat = y.snd) ∧
 True ∧
 SBle (SB.cells [] ((↑(itemsN (cutIn (itemAt (cutIn s) 5))) : Int).toNat * (3 : Nat)) 54) (SB.rows false y.fst (colsC (fun (i : Nat) => cutIn (subOf (itOf s 5) i 0)) (fun (i : Nat) => cutIn (subOf (itOf s 5) i 1)) fun (i : Nat) => decide (numI (subOf (itOf s 5) i 2) = (1 : Int))) false (y.snd * (3 : Nat)) 54) ∧
 SBle (SB.rows true (itemsN (cutIn (itemAt (cutIn s) 5))) [Col.str (itemAt (cutIn (itemAt (cutIn s) 5)))] false x_14 9) (SB.rows true (itemsN (cutIn (itemAt (cutIn s) 5))) [Col.str (itemAt (cutIn (itemAt (cutIn s) 5)))] false x_14 9) ∧
 SBle (SB.cells (setRange (SV.agg [SV.nilslc, SV.int .i64 true 0, SV.niliface]).cells 0 (SV.rslc ((0 : Nat) + (1 : Nat) + (1 : Nat) + (1 : Nat) + (2 : Nat) + (0 : Nat) + (0 : Nat) + (0 : Nat) + (0 : Nat) + (1 : Nat)) 1 true 0 (itemsN (cutIn (itemAt (cutIn s) 5))) x_14).cells) 3 97) (SB.cells (setRange (SV.agg [SV.nilslc, SV.int .i64 true 0, SV.niliface]).cells 0 (SV.rslc ((0 : Nat) + (1 : Nat) + (1 : Nat) + (1 : Nat) + (2 : Nat) + (0 : Nat) + (0 : Nat) + (0 : Nat) + (0 : Nat) + (1 : Nat)) 1 true 0 (itemsN (cutIn (itemAt (cutIn s) 5))) x_14).cells) 3 97) ∧
 SBle (SB.cells (setRange [itemsR (Sx.hd (Code.region 6 #[{ dst := some 22, op := Op.move (Operand.tmp 6), type := (65 : Nat), pos := "read.go:182", after := #[], guard := none : Oper }, { dst := some 23, op := Op.makeFunc (Fn.func 43) #[Operand.tmp 22] #[], type := (68 : Nat), pos := "read.go:182", after := #[{ on := (0 : Nat), ground := Ground.data : Edge }], guard := none : Oper }, { dst := some 24, op := Op.fieldAddr 30 (Operand.tmp 4) 2, type := (0 : Nat), pos := "read.go:182", after := #[], guard := none : Oper }, { dst := some 25, op := Op.buildSlice 100 1 #[((0 : Nat), Operand.tmp 24)], type := (100 : Nat), pos := "read.go:182", after := #[{ on := (2 : Nat), ground := Ground.data : Edge }], guard := none : Oper }, { dst := some 26, op := Op.call { callee := Callee.value (Operand.func 42), args := #[Operand.tmp 23, Operand.tmp 25], argTypes := #[(68 : Nat), (100 : Nat)] : Call }, type := (0 : Nat), pos := "read.go:182", after := #[{ on := (1 : Nat), ground := Ground.data : Edge }, { on := (3 : Nat), ground := Ground.data : Edge }], guard := none : Oper }] false) (aMem fun (st : St) => [rOk st 4, xn ((filledR st).set 2 (SV.int .i64 false (numI (itOf s 3))))]) (Sx.hd (Code.region 5 #[{ dst := some 17, op := Op.move (Operand.tmp 6), type := (65 : Nat), pos := "read.go:181", after := #[], guard := none : Oper }, { dst := some 18, op := Op.makeFunc (Fn.func 51) #[Operand.tmp 17] #[], type := (73 : Nat), pos := "read.go:181", after := #[{ on := (0 : Nat), ground := Ground.data : Edge }], guard := none : Oper }, { dst := some 19, op := Op.fieldAddr 30 (Operand.tmp 4) 1, type := (0 : Nat), pos := "read.go:181", after := #[], guard := none : Oper }, { dst := some 20, op := Op.buildSlice 105 1 #[((0 : Nat), Operand.tmp 19)], type := (105 : Nat), pos := "read.go:181", after := #[{ on := (2 : Nat), ground := Ground.data : Edge }], guard := none : Oper }, { dst := some 21, op := Op.call { callee := Callee.value (Operand.func 50), args := #[Operand.tmp 18, Operand.tmp 20], argTypes := #[(73 : Nat), (105 : Nat)] : Call }, type := (0 : Nat), pos := "read.go:181", after := #[{ on := (1 : Nat), ground := Ground.data : Edge }, { on := (3 : Nat), ground := Ground.data : Edge }], guard := none : Oper }] false) (aMem fun (st : St) => [rOk st 3, xn ((filledR st).set 1 (SV.int .i64 false (numI (itOf s 2))))]) (Sx.hd (Code.region 4 #[{ dst := some 12, op := Op.move (Operand.tmp 6), type := (65 : Nat), pos := "read.go:180", after := #[], guard := none : Oper }, { dst := some 13, op := Op.makeFunc (Fn.func 43) #[Operand.tmp 12] #[], type := (68 : Nat), pos := "read.go:180", after := #[{ on := (0 : Nat), ground := Ground.data : Edge }], guard := none : Oper }, { dst := some 14, op := Op.fieldAddr 30 (Operand.tmp 4) 0, type := (0 : Nat), pos := "read.go:180", after := #[], guard := none : Oper }, { dst := some 15, op := Op.buildSlice 100 2 #[((0 : Nat), Operand.tmp 5), ((1 : Nat), Operand.tmp 14)], type := (100 : Nat), pos := "read.go:180", after := #[{ on := (2 : Nat), ground := Ground.data : Edge }], guard := none : Oper }, { dst := some 16, op := Op.call { callee := Callee.value (Operand.func 42), args := #[Operand.tmp 13, Operand.tmp 15], argTypes := #[(68 : Nat), (100 : Nat)] : Call }, type := (0 : Nat), pos := "read.go:180", after := #[{ on := (1 : Nat), ground := Ground.data : Edge }, { on := (3 : Nat), ground := Ground.data : Edge }], guard := none : Oper }] false) (aMem fun (st : St) => [rOk st 2, xn ((filledR st).set 0 (SV.int .i64 false (numI (itOf s 1)))), kindB (numI (itOf s 0))]) (Sx.hd (Code.region 3 #[{ dst := some 10, op := Op.move (Operand.tmp 0), type := (9 : Nat), pos := "read.go:179", after := #[], guard := none : Oper }, { dst := some 11, op := Op.call { callee := Callee.value (Operand.func 41), args := #[Operand.tmp 10, Operand.const (Value.int IntKind.i64 6)], argTypes := #[(9 : Nat), (3 : Nat)] : Call }, type := (65 : Nat), pos := "read.go:179", after := #[{ on := (0 : Nat), ground := Ground.data : Edge }], guard := none : Oper }, { dst := some 6, op := Op.assign (Operand.tmp 11), type := (65 : Nat), pos := "read.go:179", after := #[{ on := (1 : Nat), ground := Ground.data : Edge }, { on := (1 : Nat), ground := Ground.chain : Edge }, { on := (0 : Nat), ground := Ground.phase : Edge }, { on := (1 : Nat), ground := Ground.phase : Edge }], guard := none : Oper }] false) (aListed (strs6 s)) { tmps := setSlot (setSlot (setSlot (setSlot (List.map some [SV.str false s] ++ List.replicate ((59 : Nat) - (1 : Nat)) none) (some 2) (some (SV.ptr 0 true 0))) (some 3) (ev (setSlot (List.map some [SV.str false s] ++ List.replicate ((59 : Nat) - (1 : Nat)) none) (some 2) (some (SV.ptr 0 true 0))) (Operand.const (Value.int IntKind.i64 0)))) (some 4) (some (SV.ptr ((0 : Nat) + (1 : Nat)) true 0))) (some 5) (some (SV.ptr ((0 : Nat) + (1 : Nat) + (1 : Nat)) true 0)), m := [((0 : Nat) + (1 : Nat) + (1 : Nat), SB.cells (SV.int .i64 true 0).cells 1 3), ((0 : Nat) + (1 : Nat), SB.cells Q3.cells 5 30), ((0 : Nat), SB.cells Q3.cells 5 30)], nx := (0 : Nat) + (1 : Nat) + (1 : Nat) + (1 : Nat) : St } x) x_2) x_4) x_6), SV.int .i64 true 5, SV.niliface] 1 (SV.int .i64 true 6).cells) 3 97) (SB.cells (setRange [itemsR (Sx.hd (Code.region 6 #[{ dst := some 22, op := Op.move (Operand.tmp 6), type := (65 : Nat), pos := "read.go:182", after := #[], guard := none : Oper }, { dst := some 23, op := Op.makeFunc (Fn.func 43) #[Operand.tmp 22] #[], type := (68 : Nat), pos := "read.go:182", after := #[{ on := (0 : Nat), ground := Ground.data : Edge }], guard := none : Oper }, { dst := some 24, op := Op.fieldAddr 30 (Operand.tmp 4) 2, type := (0 : Nat), pos := "read.go:182", after := #[], guard := none : Oper }, { dst := some 25, op := Op.buildSlice 100 1 #[((0 : Nat), Operand.tmp 24)], type := (100 : Nat), pos := "read.go:182", after := #[{ on := (2 : Nat), ground := Ground.data : Edge }], guard := none : Oper }, { dst := some 26, op := Op.call { callee := Callee.value (Operand.func 42), args := #[Operand.tmp 23, Operand.tmp 25], argTypes := #[(68 : Nat), (100 : Nat)] : Call }, type := (0 : Nat), pos := "read.go:182", after := #[{ on := (1 : Nat), ground := Ground.data : Edge }, { on := (3 : Nat), ground := Ground.data : Edge }], guard := none : Oper }] false) (aMem fun (st : St) => [rOk st 4, xn ((filledR st).set 2 (SV.int .i64 false (numI (itOf s 3))))]) (Sx.hd (Code.region 5 #[{ dst := some 17, op := Op.move (Operand.tmp 6), type := (65 : Nat), pos := "read.go:181", after := #[], guard := none : Oper }, { dst := some 18, op := Op.makeFunc (Fn.func 51) #[Operand.tmp 17] #[], type := (73 : Nat), pos := "read.go:181", after := #[{ on := (0 : Nat), ground := Ground.data : Edge }], guard := none : Oper }, { dst := some 19, op := Op.fieldAddr 30 (Operand.tmp 4) 1, type := (0 : Nat), pos := "read.go:181", after := #[], guard := none : Oper }, { dst := some 20, op := Op.buildSlice 105 1 #[((0 : Nat), Operand.tmp 19)], type := (105 : Nat), pos := "read.go:181", after := #[{ on := (2 : Nat), ground := Ground.data : Edge }], guard := none : Oper }, { dst := some 21, op := Op.call { callee := Callee.value (Operand.func 50), args := #[Operand.tmp 18, Operand.tmp 20], argTypes := #[(73 : Nat), (105 : Nat)] : Call }, type := (0 : Nat), pos := "read.go:181", after := #[{ on := (1 : Nat), ground := Ground.data : Edge }, { on := (3 : Nat), ground := Ground.data : Edge }], guard := none : Oper }] false) (aMem fun (st : St) => [rOk st 3, xn ((filledR st).set 1 (SV.int .i64 false (numI (itOf s 2))))]) (Sx.hd (Code.region 4 #[{ dst := some 12, op := Op.move (Operand.tmp 6), type := (65 : Nat), pos := "read.go:180", after := #[], guard := none : Oper }, { dst := some 13, op := Op.makeFunc (Fn.func 43) #[Operand.tmp 12] #[], type := (68 : Nat), pos := "read.go:180", after := #[{ on := (0 : Nat), ground := Ground.data : Edge }], guard := none : Oper }, { dst := some 14, op := Op.fieldAddr 30 (Operand.tmp 4) 0, type := (0 : Nat), pos := "read.go:180", after := #[], guard := none : Oper }, { dst := some 15, op := Op.buildSlice 100 2 #[((0 : Nat), Operand.tmp 5), ((1 : Nat), Operand.tmp 14)], type := (100 : Nat), pos := "read.go:180", after := #[{ on := (2 : Nat), ground := Ground.data : Edge }], guard := none : Oper }, { dst := some 16, op := Op.call { callee := Callee.value (Operand.func 42), args := #[Operand.tmp 13, Operand.tmp 15], argTypes := #[(68 : Nat), (100 : Nat)] : Call }, type := (0 : Nat), pos := "read.go:180", after := #[{ on := (1 : Nat), ground := Ground.data : Edge }, { on := (3 : Nat), ground := Ground.data : Edge }], guard := none : Oper }] false) (aMem fun (st : St) => [rOk st 2, xn ((filledR st).set 0 (SV.int .i64 false (numI (itOf s 1)))), kindB (numI (itOf s 0))]) (Sx.hd (Code.region 3 #[{ dst := some 10, op := Op.move (Operand.tmp 0), type := (9 : Nat), pos := "read.go:179", after := #[], guard := none : Oper }, { dst := some 11, op := Op.call { callee := Callee.value (Operand.func 41), args := #[Operand.tmp 10, Operand.const (Value.int IntKind.i64 6)], argTypes := #[(9 : Nat), (3 : Nat)] : Call }, type := (65 : Nat), pos := "read.go:179", after := #[{ on := (0 : Nat), ground := Ground.data : Edge }], guard := none : Oper }, { dst := some 6, op := Op.assign (Operand.tmp 11), type := (65 : Nat), pos := "read.go:179", after := #[{ on := (1 : Nat), ground := Ground.data : Edge }, { on := (1 : Nat), ground := Ground.chain : Edge }, { on := (0 : Nat), ground := Ground.phase : Edge }, { on := (1 : Nat), ground := Ground.phase : Edge }], guard := none : Oper }] false) (aListed (strs6 s)) { tmps := setSlot (setSlot (setSlot (setSlot (List.map some [SV.str false s] ++ List.replicate ((59 : Nat) - (1 : Nat)) none) (some 2) (some (SV.ptr 0 true 0))) (some 3) (ev (setSlot (List.map some [SV.str false s] ++ List.replicate ((59 : Nat) - (1 : Nat)) none) (some 2) (some (SV.ptr 0 true 0))) (Operand.const (Value.int IntKind.i64 0)))) (some 4) (some (SV.ptr ((0 : Nat) + (1 : Nat)) true 0))) (some 5) (some (SV.ptr ((0 : Nat) + (1 : Nat) + (1 : Nat)) true 0)), m := [((0 : Nat) + (1 : Nat) + (1 : Nat), SB.cells (SV.int .i64 true 0).cells 1 3), ((0 : Nat) + (1 : Nat), SB.cells Q3.cells 5 30), ((0 : Nat), SB.cells Q3.cells 5 30)], nx := (0 : Nat) + (1 : Nat) + (1 : Nat) + (1 : Nat) : St } x) x_2) x_4) x_6), SV.int .i64 true 5, SV.niliface] 1 (SV.int .i64 true 6).cells) 3 97) ∧
 SBle (SB.cells ((filledR (Sx.hd (Code.region 6 #[{ dst := some 22, op := Op.move (Operand.tmp 6), type := (65 : Nat), pos := "read.go:182", after := #[], guard := none : Oper }, { dst := some 23, op := Op.makeFunc (Fn.func 43) #[Operand.tmp 22] #[], type := (68 : Nat), pos := "read.go:182", after := #[{ on := (0 : Nat), ground := Ground.data : Edge }], guard := none : Oper }, { dst := some 24, op := Op.fieldAddr 30 (Operand.tmp 4) 2, type := (0 : Nat), pos := "read.go:182", after := #[], guard := none : Oper }, { dst := some 25, op := Op.buildSlice 100 1 #[((0 : Nat), Operand.tmp 24)], type := (100 : Nat), pos := "read.go:182", after := #[{ on := (2 : Nat), ground := Ground.data : Edge }], guard := none : Oper }, { dst := some 26, op := Op.call { callee := Callee.value (Operand.func 42), args := #[Operand.tmp 23, Operand.tmp 25], argTypes := #[(68 : Nat), (100 : Nat)] : Call }, type := (0 : Nat), pos := "read.go:182", after := #[{ on := (1 : Nat), ground := Ground.data : Edge }, { on := (3 : Nat), ground := Ground.data : Edge }], guard := none : Oper }] false) (aMem fun (st : St) => [rOk st 4, xn ((filledR st).set 2 (SV.int .i64 false (numI (itOf s 3))))]) (Sx.hd (Code.region 5 #[{ dst := some 17, op := Op.move (Operand.tmp 6), type := (65 : Nat), pos := "read.go:181", after := #[], guard := none : Oper }, { dst := some 18, op := Op.makeFunc (Fn.func 51) #[Operand.tmp 17] #[], type := (73 : Nat), pos := "read.go:181", after := #[{ on := (0 : Nat), ground := Ground.data : Edge }], guard := none : Oper }, { dst := some 19, op := Op.fieldAddr 30 (Operand.tmp 4) 1, type := (0 : Nat), pos := "read.go:181", after := #[], guard := none : Oper }, { dst := some 20, op := Op.buildSlice 105 1 #[((0 : Nat), Operand.tmp 19)], type := (105 : Nat), pos := "read.go:181", after := #[{ on := (2 : Nat), ground := Ground.data : Edge }], guard := none : Oper }, { dst := some 21, op := Op.call { callee := Callee.value (Operand.func 50), args := #[Operand.tmp 18, Operand.tmp 20], argTypes := #[(73 : Nat), (105 : Nat)] : Call }, type := (0 : Nat), pos := "read.go:181", after := #[{ on := (1 : Nat), ground := Ground.data : Edge }, { on := (3 : Nat), ground := Ground.data : Edge }], guard := none : Oper }] false) (aMem fun (st : St) => [rOk st 3, xn ((filledR st).set 1 (SV.int .i64 false (numI (itOf s 2))))]) (Sx.hd (Code.region 4 #[{ dst := some 12, op := Op.move (Operand.tmp 6), type := (65 : Nat), pos := "read.go:180", after := #[], guard := none : Oper }, { dst := some 13, op := Op.makeFunc (Fn.func 43) #[Operand.tmp 12] #[], type := (68 : Nat), pos := "read.go:180", after := #[{ on := (0 : Nat), ground := Ground.data : Edge }], guard := none : Oper }, { dst := some 14, op := Op.fieldAddr 30 (Operand.tmp 4) 0, type := (0 : Nat), pos := "read.go:180", after := #[], guard := none : Oper }, { dst := some 15, op := Op.buildSlice 100 2 #[((0 : Nat), Operand.tmp 5), ((1 : Nat), Operand.tmp 14)], type := (100 : Nat), pos := "read.go:180", after := #[{ on := (2 : Nat), ground := Ground.data : Edge }], guard := none : Oper }, { dst := some 16, op := Op.call { callee := Callee.value (Operand.func 42), args := #[Operand.tmp 13, Operand.tmp 15], argTypes := #[(68 : Nat), (100 : Nat)] : Call }, type := (0 : Nat), pos := "read.go:180", after := #[{ on := (1 : Nat), ground := Ground.data : Edge }, { on := (3 : Nat), ground := Ground.data : Edge }], guard := none : Oper }] false) (aMem fun (st : St) => [rOk st 2, xn ((filledR st).set 0 (SV.int .i64 false (numI (itOf s 1)))), kindB (numI (itOf s 0))]) (Sx.hd (Code.region 3 #[{ dst := some 10, op := Op.move (Operand.tmp 0), type := (9 : Nat), pos := "read.go:179", after := #[], guard := none : Oper }, { dst := some 11, op := Op.call { callee := Callee.value (Operand.func 41), args := #[Operand.tmp 10, Operand.const (Value.int IntKind.i64 6)], argTypes := #[(9 : Nat), (3 : Nat)] : Call }, type := (65 : Nat), pos := "read.go:179", after := #[{ on := (0 : Nat), ground := Ground.data : Edge }], guard := none : Oper }, { dst := some 6, op := Op.assign (Operand.tmp 11), type := (65 : Nat), pos := "read.go:179", after := #[{ on := (1 : Nat), ground := Ground.data : Edge }, { on := (1 : Nat), ground := Ground.chain : Edge }, { on := (0 : Nat), ground := Ground.phase : Edge }, { on := (1 : Nat), ground := Ground.phase : Edge }], guard := none : Oper }] false) (aListed (strs6 s)) { tmps := setSlot (setSlot (setSlot (setSlot (List.map some [SV.str false s] ++ List.replicate ((59 : Nat) - (1 : Nat)) none) (some 2) (some (SV.ptr 0 true 0))) (some 3) (ev (setSlot (List.map some [SV.str false s] ++ List.replicate ((59 : Nat) - (1 : Nat)) none) (some 2) (some (SV.ptr 0 true 0))) (Operand.const (Value.int IntKind.i64 0)))) (some 4) (some (SV.ptr ((0 : Nat) + (1 : Nat)) true 0))) (some 5) (some (SV.ptr ((0 : Nat) + (1 : Nat) + (1 : Nat)) true 0)), m := [((0 : Nat) + (1 : Nat) + (1 : Nat), SB.cells (SV.int .i64 true 0).cells 1 3), ((0 : Nat) + (1 : Nat), SB.cells Q3.cells 5 30), ((0 : Nat), SB.cells Q3.cells 5 30)], nx := (0 : Nat) + (1 : Nat) + (1 : Nat) + (1 : Nat) : St } x) x_2) x_4) x_6)).set 3 (SV.str false (cutIn (itOf s 4)))) 5 30) (SB.cells ((filledR (Sx.hd (Code.region 6 #[{ dst := some 22, op := Op.move (Operand.tmp 6), type := (65 : Nat), pos := "read.go:182", after := #[], guard := none : Oper }, { dst := some 23, op := Op.makeFunc (Fn.func 43) #[Operand.tmp 22] #[], type := (68 : Nat), pos := "read.go:182", after := #[{ on := (0 : Nat), ground := Ground.data : Edge }], guard := none : Oper }, { dst := some 24, op := Op.fieldAddr 30 (Operand.tmp 4) 2, type := (0 : Nat), pos := "read.go:182", after := #[], guard := none : Oper }, { dst := some 25, op := Op.buildSlice 100 1 #[((0 : Nat), Operand.tmp 24)], type := (100 : Nat), pos := "read.go:182", after := #[{ on := (2 : Nat), ground := Ground.data : Edge }], guard := none : Oper }, { dst := some 26, op := Op.call { callee := Callee.value (Operand.func 42), args := #[Operand.tmp 23, Operand.tmp 25], argTypes := #[(68 : Nat), (100 : Nat)] : Call }, type := (0 : Nat), pos := "read.go:182", after := #[{ on := (1 : Nat), ground := Ground.data : Edge }, { on := (3 : Nat), ground := Ground.data : Edge }], guard := none : Oper }] false) (aMem fun (st : St) => [rOk st 4, xn ((filledR st).set 2 (SV.int .i64 false (numI (itOf s 3))))]) (Sx.hd (Code.region 5 #[{ dst := some 17, op := Op.move (Operand.tmp 6), type := (65 : Nat), pos := "read.go:181", after := #[], guard := none : Oper }, { dst := some 18, op := Op.makeFunc (Fn.func 51) #[Operand.tmp 17] #[], type := (73 : Nat), pos := "read.go:181", after := #[{ on := (0 : Nat), ground := Ground.data : Edge }], guard := none : Oper }, { dst := some 19, op := Op.fieldAddr 30 (Operand.tmp 4) 1, type := (0 : Nat), pos := "read.go:181", after := #[], guard := none : Oper }, { dst := some 20, op := Op.buildSlice 105 1 #[((0 : Nat), Operand.tmp 19)], type := (105 : Nat), pos := "read.go:181", after := #[{ on := (2 : Nat), ground := Ground.data : Edge }], guard := none : Oper }, { dst := some 21, op := Op.call { callee := Callee.value (Operand.func 50), args := #[Operand.tmp 18, Operand.tmp 20], argTypes := #[(73 : Nat), (105 : Nat)] : Call }, type := (0 : Nat), pos := "read.go:181", after := #[{ on := (1 : Nat), ground := Ground.data : Edge }, { on := (3 : Nat), ground := Ground.data : Edge }], guard := none : Oper }] false) (aMem fun (st : St) => [rOk st 3, xn ((filledR st).set 1 (SV.int .i64 false (numI (itOf s 2))))]) (Sx.hd (Code.region 4 #[{ dst := some 12, op := Op.move (Operand.tmp 6), type := (65 : Nat), pos := "read.go:180", after := #[], guard := none : Oper }, { dst := some 13, op := Op.makeFunc (Fn.func 43) #[Operand.tmp 12] #[], type := (68 : Nat), pos := "read.go:180", after := #[{ on := (0 : Nat), ground := Ground.data : Edge }], guard := none : Oper }, { dst := some 14, op := Op.fieldAddr 30 (Operand.tmp 4) 0, type := (0 : Nat), pos := "read.go:180", after := #[], guard := none : Oper }, { dst := some 15, op := Op.buildSlice 100 2 #[((0 : Nat), Operand.tmp 5), ((1 : Nat), Operand.tmp 14)], type := (100 : Nat), pos := "read.go:180", after := #[{ on := (2 : Nat), ground := Ground.data : Edge }], guard := none : Oper }, { dst := some 16, op := Op.call { callee := Callee.value (Operand.func 42), args := #[Operand.tmp 13, Operand.tmp 15], argTypes := #[(68 : Nat), (100 : Nat)] : Call }, type := (0 : Nat), pos := "read.go:180", after := #[{ on := (1 : Nat), ground := Ground.data : Edge }, { on := (3 : Nat), ground := Ground.data : Edge }], guard := none : Oper }] false) (aMem fun (st : St) => [rOk st 2, xn ((filledR st).set 0 (SV.int .i64 false (numI (itOf s 1)))), kindB (numI (itOf s 0))]) (Sx.hd (Code.region 3 #[{ dst := some 10, op := Op.move (Operand.tmp 0), type := (9 : Nat), pos := "read.go:179", after := #[], guard := none : Oper }, { dst := some 11, op := Op.call { callee := Callee.value (Operand.func 41), args := #[Operand.tmp 10, Operand.const (Value.int IntKind.i64 6)], argTypes := #[(9 : Nat), (3 : Nat)] : Call }, type := (65 : Nat), pos := "read.go:179", after := #[{ on := (0 : Nat), ground := Ground.data : Edge }], guard := none : Oper }, { dst := some 6, op := Op.assign (Operand.tmp 11), type := (65 : Nat), pos := "read.go:179", after := #[{ on := (1 : Nat), ground := Ground.data : Edge }, { on := (1 : Nat), ground := Ground.chain : Edge }, { on := (0 : Nat), ground := Ground.phase : Edge }, { on := (1 : Nat), ground := Ground.phase : Edge }], guard := none : Oper }] false) (aListed (strs6 s)) { tmps := setSlot (setSlot (setSlot (setSlot (List.map some [SV.str false s] ++ List.replicate ((59 : Nat) - (1 : Nat)) none) (some 2) (some (SV.ptr 0 true 0))) (some 3) (ev (setSlot (List.map some [SV.str false s] ++ List.replicate ((59 : Nat) - (1 : Nat)) none) (some 2) (some (SV.ptr 0 true 0))) (Operand.const (Value.int IntKind.i64 0)))) (some 4) (some (SV.ptr ((0 : Nat) + (1 : Nat)) true 0))) (some 5) (some (SV.ptr ((0 : Nat) + (1 : Nat) + (1 : Nat)) true 0)), m := [((0 : Nat) + (1 : Nat) + (1 : Nat), SB.cells (SV.int .i64 true 0).cells 1 3), ((0 : Nat) + (1 : Nat), SB.cells Q3.cells 5 30), ((0 : Nat), SB.cells Q3.cells 5 30)], nx := (0 : Nat) + (1 : Nat) + (1 : Nat) + (1 : Nat) : St } x) x_2) x_4) x_6)).set 3 (SV.str false (cutIn (itOf s 4)))) 5 30) ∧
 SBle Q2 Q2 ∧
 SBle (SB.cells (strs6 s) x 9) (SB.cells (strs6 s) x 9) ∧
 SBle Q0 Q0 ∧
 True) ∧
 ∀ (x_17 : Nat × Nat), Grow (itemsN (cutIn (itOf s 5))) x_17 →
 (decide ((↑x_17.fst : Int) < (↑(itemsN (cutIn (itemAt (cutIn s) 5))) : Int)) = true →
 ((0 : Int) ≤ (↑x_17.fst : Int) ∧
 (↑x_17.fst : Int) < (↑(itemsN (cutIn (itemAt (cutIn s) 5))) : Int)) ∧
 (0 : Nat) + (↑x_17.fst : Int).toNat < itemsN (cutIn (itemAt (cutIn s) 5)) ∧
 (itemAt (cutIn (itemAt (cutIn s) 5)) ((0 : Nat) + (↑x_17.fst : Int).toNat)).length < (1152921504606846976 : Nat) ∧
 (cutB (itemAt (cutIn (itemAt (cutIn s) 5)) ((0 : Nat) + (↑x_17.fst : Int).toNat)) = true →
 ((!cutL (itemAt (cutIn (itemAt (cutIn s) 5)) ((0 : Nat) + (↑x_17.fst : Int).toNat))) = true →
 (0 : Nat) < (1152921504606846976 : Nat) ∧
 (0 : Nat) < (1152921504606846976 : Nat) ∧
 (0 : Nat) < (1152921504606846976 : Nat) ∧
 ((0 : Nat) + x_17.fst ≤ x_17.fst ∧
 True ∧
 (2 : Nat) * (x_17.fst + (1 : Nat)) * (40 : Nat) ≤ (281474976710656 : Nat) ∧
 x_17.fst + (1 : Nat) < (9223372036854775808 : Nat)) ∧
 x_17.snd * (3 : Nat) = x_17.snd * (3 : Nat) ∧
 ∀ (c : Nat), x_17.fst + (1 : Nat) ≤ c →
 ∃ (y : Int), getNoticeB s = false ∧
 SBle (SB.cells [SV.slc 4 0 6 false x, SV.int .i64 true 6, SV.iface 117 Q4] 3 97) (SB.cells [SV.slc 4 0 6 false x, SV.int .i64 false y, errW y] 3 97) ∧
 SBle Q1 Q1 ∧
 SBle Q2 Q2 ∧
 SBle (SB.cells (strs6 s) x 9) (SB.cells (strs6 s) x 9) ∧
 SBle Q0 Q0 ∧
 True) ∧
 ((!cutL (itemAt (cutIn (itemAt (cutIn s) 5)) ((0 : Nat) + (↑x_17.fst : Int).toNat))) = false →
 ((!decide (cutRest (itemAt (cutIn (itemAt (cutIn s) 5)) ((0 : Nat) + (↑x_17.fst : Int).toNat)) = [])) = true →
 (0 : Nat) < (1152921504606846976 : Nat) ∧
 (0 : Nat) < (1152921504606846976 : Nat) ∧
 (0 : Nat) < (1152921504606846976 : Nat) ∧
 ((0 : Nat) + x_17.fst ≤ x_17.fst ∧
 True ∧
 (2 : Nat) * (x_17.fst + (1 : Nat)) * (40 : Nat) ≤ (281474976710656 : Nat) ∧
 x_17.fst + (1 : Nat) < (9223372036854775808 : Nat)) ∧
 x_17.snd * (3 : Nat) = x_17.snd * (3 : Nat) ∧
 ∀ (c : Nat), x_17.fst + (1 : Nat) ≤ c →
 ∃ (y : Int), getNoticeB s = false ∧
 SBle (SB.cells [SV.slc 4 0 6 false x, SV.int .i64 true 6, SV.iface 117 Q4] 3 97) (SB.cells [SV.slc 4 0 6 false x, SV.int .i64 false y, errW y] 3 97) ∧
 SBle Q1 Q1 ∧
 SBle Q2 Q2 ∧
 SBle (SB.cells (strs6 s) x 9) (SB.cells (strs6 s) x 9) ∧
 SBle Q0 Q0 ∧
 True) ∧
 ((!decide (cutRest (itemAt (cutIn (itemAt (cutIn s) 5)) ((0 : Nat) + (↑x_17.fst : Int).toNat)) = [])) = false →
 (cutIn (itemAt (cutIn (itemAt (cutIn s) 5)) ((0 : Nat) + (↑x_17.fst : Int).toNat))).length < (1099511627776 : Nat) ∧
 (itemsB (cutIn (itemAt (cutIn (itemAt (cutIn s) 5)) ((0 : Nat) + (↑x_17.fst : Int).toNat))) = true →
 ∀ (x_24 : Nat), itemsN (cutIn (itemAt (cutIn (itemAt (cutIn s) 5)) ((0 : Nat) + (↑x_17.fst : Int).toNat))) ≤ x_24 →
 ((!decide ((↑(itemsN (cutIn (itemAt (cutIn (itemAt (cutIn s) 5)) ((0 : Nat) + (↑x_17.fst : Int).toNat)))) : Int) = (3 : Int))) = true →
 (0 : Nat) < (1152921504606846976 : Nat) ∧
 (0 : Nat) < (1152921504606846976 : Nat) ∧
 (0 : Nat) < (1152921504606846976 : Nat) ∧
 ((0 : Nat) + x_17.fst ≤ x_17.fst ∧
 True ∧
 (2 : Nat) * (x_17.fst + (1 : Nat)) * (40 : Nat) ≤ (281474976710656 : Nat) ∧
 x_17.fst + (1 : Nat) < (9223372036854775808 : Nat)) ∧
 x_17.snd * (3 : Nat) = x_17.snd * (3 : Nat) ∧
 ∀ (c : Nat), x_17.fst + (1 : Nat) ≤ c →
 ∃ (y : Int), getNoticeB s = false ∧
 SBle (SB.cells [SV.slc 4 0 6 false x, SV.int .i64 true 6, SV.iface 117 Q4] 3 97) (SB.cells [SV.slc 4 0 6 false x, SV.int .i64 false y, errW y] 3 97) ∧
 SBle Q1 Q1 ∧
 SBle Q2 Q2 ∧
 SBle (SB.cells (strs6 s) x 9) (SB.cells (strs6 s) x 9) ∧
 SBle Q0 Q0 ∧
 True) ∧
 ((!decide ((↑(itemsN (cutIn (itemAt (cutIn (itemAt (cutIn s) 5)) ((0 : Nat) + (↑x_17.fst : Int).toNat)))) : Int) = (3 : Int))) = false →
 (decide ((↑(itemsN (cutIn (itemAt (cutIn (itemAt (cutIn s) 5)) ((0 : Nat) + (↑x_17.fst : Int).toNat)))) : Int) ≤ (0 : Int)) = true →
 (0 : Nat) < (1152921504606846976 : Nat) ∧
 (0 : Nat) < (1152921504606846976 : Nat) ∧
 (0 : Nat) < (1152921504606846976 : Nat) ∧
 ((0 : Nat) + x_17.fst ≤ x_17.fst ∧
 True ∧
 (2 : Nat) * (x_17.fst + (1 : Nat)) * (40 : Nat) ≤ (281474976710656 : Nat) ∧
 x_17.fst + (1 : Nat) < (9223372036854775808 : Nat)) ∧
 x_17.snd * (3 : Nat) = x_17.snd * (3 : Nat) ∧
 ∀ (c : Nat), x_17.fst + (1 : Nat) ≤ c →
 ∃ (y : Int), getNoticeB s = false ∧
 SBle (SB.cells [SV.slc 4 0 6 false x, SV.int .i64 true 6, SV.iface 117 Q4] 3 97) (SB.cells [SV.slc 4 0 6 false x, SV.int .i64 false y, errW y] 3 97) ∧
 SBle Q1 Q1 ∧
 SBle Q2 Q2 ∧
 SBle (SB.cells (strs6 s) x 9) (SB.cells (strs6 s) x 9) ∧
 SBle Q0 Q0 ∧
 True) ∧
 (decide ((↑(itemsN (cutIn (itemAt (cutIn (itemAt (cutIn s) 5)) ((0 : Nat) + (↑x_17.fst : Int).toNat)))) : Int) ≤ (0 : Int)) = false →
 ((0 : Int) ≤ (0 : Int) ∧
 (0 : Int) < (↑(itemsN (cutIn (itemAt (cutIn (itemAt (cutIn s) 5)) ((0 : Nat) + (↑x_17.fst : Int).toNat)))) : Int)) ∧
 (0 : Nat) < itemsN (cutIn (itemAt (cutIn (itemAt (cutIn s) 5)) ((0 : Nat) + (↑x_17.fst : Int).toNat))) ∧
 (itemAt (cutIn (itemAt (cutIn (itemAt (cutIn s) 5)) ((0 : Nat) + (↑x_17.fst : Int).toNat))) 0).length < (1152921504606846976 : Nat) ∧
 (cutB (itemAt (cutIn (itemAt (cutIn (itemAt (cutIn s) 5)) ((0 : Nat) + (↑x_17.fst : Int).toNat))) 0) = true →
 (cutL (itemAt (cutIn (itemAt (cutIn (itemAt (cutIn s) 5)) ((0 : Nat) + (↑x_17.fst : Int).toNat))) 0) = true →
 (0 : Nat) < (1152921504606846976 : Nat) ∧
 (0 : Nat) < (1152921504606846976 : Nat) ∧
 ((0 : Nat) + x_17.fst ≤ x_17.fst ∧
 True ∧
 (2 : Nat) * (x_17.fst + (1 : Nat)) * (40 : Nat) ≤ (281474976710656 : Nat) ∧
 x_17.fst + (1 : Nat) < (9223372036854775808 : Nat)) ∧
 x_17.snd * (3 : Nat) = x_17.snd * (3 : Nat) ∧
 ∀ (c : Nat), x_17.fst + (1 : Nat) ≤ c →
 ∃ (y : Int), getNoticeB s = false ∧
 SBle (SB.cells [SV.slc 4 0 6 false x, SV.int .i64 true 6, SV.iface 117 Q4] 3 97) (SB.cells [SV.slc 4 0 6 false x, SV.int .i64 false y, errW y] 3 97) ∧
 SBle Q1 Q1 ∧
 SBle Q2 Q2 ∧
 SBle (SB.cells (strs6 s) x 9) (SB.cells (strs6 s) x 9) ∧
 SBle Q0 Q0 ∧
 True) ∧
 (cutL (itemAt (cutIn (itemAt (cutIn (itemAt (cutIn s) 5)) ((0 : Nat) + (↑x_17.fst : Int).toNat))) 0) = false →
 ((!decide (cutRest (itemAt (cutIn (itemAt (cutIn (itemAt (cutIn s) 5)) ((0 : Nat) + (↑x_17.fst : Int).toNat))) 0) = [])) = true →
 (0 : Nat) < (1152921504606846976 : Nat) ∧
 (0 : Nat) < (1152921504606846976 : Nat) ∧
 ((0 : Nat) + x_17.fst ≤ x_17.fst ∧
 True ∧
 (2 : Nat) * (x_17.fst + (1 : Nat)) * (40 : Nat) ≤ (281474976710656 : Nat) ∧
 x_17.fst + (1 : Nat) < (9223372036854775808 : Nat)) ∧
 x_17.snd * (3 : Nat) = x_17.snd * (3 : Nat) ∧
 ∀ (c : Nat), x_17.fst + (1 : Nat) ≤ c →
 ∃ (y : Int), getNoticeB s = false ∧
 SBle (SB.cells [SV.slc 4 0 6 false x, SV.int .i64 true 6, SV.iface 117 Q4] 3 97) (SB.cells [SV.slc 4 0 6 false x, SV.int .i64 false y, errW y] 3 97) ∧
 SBle Q1 Q1 ∧
 SBle Q2 Q2 ∧
 SBle (SB.cells (strs6 s) x 9) (SB.cells (strs6 s) x 9) ∧
 SBle Q0 Q0 ∧
 True) ∧
 ((!decide (cutRest (itemAt (cutIn (itemAt (cutIn (itemAt (cutIn s) 5)) ((0 : Nat) + (↑x_17.fst : Int).toNat))) 0) = [])) = false →
 (decide ((↑(itemsN (cutIn (itemAt (cutIn (itemAt (cutIn s) 5)) ((0 : Nat) + (↑x_17.fst : Int).toNat)))) : Int) ≤ (1 : Int)) = true →
 (0 : Nat) < (1152921504606846976 : Nat) ∧
 (0 : Nat) < (1152921504606846976 : Nat) ∧
 ((0 : Nat) + x_17.fst ≤ x_17.fst ∧
 True ∧
 (2 : Nat) * (x_17.fst + (1 : Nat)) * (40 : Nat) ≤ (281474976710656 : Nat) ∧
 x_17.fst + (1 : Nat) < (9223372036854775808 : Nat)) ∧
 x_17.snd * (3 : Nat) = x_17.snd * (3 : Nat) ∧
 ∀ (c : Nat), x_17.fst + (1 : Nat) ≤ c →
 ∃ (y : Int), getNoticeB s = false ∧
 SBle (SB.cells [SV.slc 4 0 6 false x, SV.int .i64 true 6, SV.iface 117 Q4] 3 97) (SB.cells [SV.slc 4 0 6 false x, SV.int .i64 false y, errW y] 3 97) ∧
 SBle Q1 Q1 ∧
 SBle Q2 Q2 ∧
 SBle (SB.cells (strs6 s) x 9) (SB.cells (strs6 s) x 9) ∧
 SBle Q0 Q0 ∧
 True) ∧
 (decide ((↑(itemsN (cutIn (itemAt (cutIn (itemAt (cutIn s) 5)) ((0 : Nat) + (↑x_17.fst : Int).toNat)))) : Int) ≤ (1 : Int)) = false →
 ((0 : Int) ≤ (1 : Int) ∧
 (1 : Int) < (↑(itemsN (cutIn (itemAt (cutIn (itemAt (cutIn s) 5)) ((0 : Nat) + (↑x_17.fst : Int).toNat)))) : Int)) ∧
 (1 : Nat) < itemsN (cutIn (itemAt (cutIn (itemAt (cutIn s) 5)) ((0 : Nat) + (↑x_17.fst : Int).toNat))) ∧
 (itemAt (cutIn (itemAt (cutIn (itemAt (cutIn s) 5)) ((0 : Nat) + (↑x_17.fst : Int).toNat))) 1).length < (1152921504606846976 : Nat) ∧
 (cutB (itemAt (cutIn (itemAt (cutIn (itemAt (cutIn s) 5)) ((0 : Nat) + (↑x_17.fst : Int).toNat))) 1) = true →
 (cutL (itemAt (cutIn (itemAt (cutIn (itemAt (cutIn s) 5)) ((0 : Nat) + (↑x_17.fst : Int).toNat))) 1) = true →
 (0 : Nat) < (1152921504606846976 : Nat) ∧
 ((0 : Nat) + x_17.fst ≤ x_17.fst ∧
 True ∧
 (2 : Nat) * (x_17.fst + (1 : Nat)) * (40 : Nat) ≤ (281474976710656 : Nat) ∧
 x_17.fst + (1 : Nat) < (9223372036854775808 : Nat)) ∧
 x_17.snd * (3 : Nat) = x_17.snd * (3 : Nat) ∧
 ∀ (c : Nat), x_17.fst + (1 : Nat) ≤ c →
 ∃ (y : Int), getNoticeB s = false ∧
 SBle (SB.cells [SV.slc 4 0 6 false x, SV.int .i64 true 6, SV.iface 117 Q4] 3 97) (SB.cells [SV.slc 4 0 6 false x, SV.int .i64 false y, errW y] 3 97) ∧
 SBle Q1 Q1 ∧
 SBle Q2 Q2 ∧
 SBle (SB.cells (strs6 s) x 9) (SB.cells (strs6 s) x 9) ∧
 SBle Q0 Q0 ∧
 True) ∧
 (cutL (itemAt (cutIn (itemAt (cutIn (itemAt (cutIn s) 5)) ((0 : Nat) + (↑x_17.fst : Int).toNat))) 1) = false →
 ((!decide (cutRest (itemAt (cutIn (itemAt (cutIn (itemAt (cutIn s) 5)) ((0 : Nat) + (↑x_17.fst : Int).toNat))) 1) = [])) = true →
 (0 : Nat) < (1152921504606846976 : Nat) ∧
 ((0 : Nat) + x_17.fst ≤ x_17.fst ∧
 True ∧
 (2 : Nat) * (x_17.fst + (1 : Nat)) * (40 : Nat) ≤ (281474976710656 : Nat) ∧
 x_17.fst + (1 : Nat) < (9223372036854775808 : Nat)) ∧
 x_17.snd * (3 : Nat) = x_17.snd * (3 : Nat) ∧
 ∀ (c : Nat), x_17.fst + (1 : Nat) ≤ c →
 ∃ (y : Int), getNoticeB s = false ∧
 SBle (SB.cells [SV.slc 4 0 6 false x, SV.int .i64 true 6, SV.iface 117 Q4] 3 97) (SB.cells [SV.slc 4 0 6 false x, SV.int .i64 false y, errW y] 3 97) ∧
 SBle Q1 Q1 ∧
 SBle Q2 Q2 ∧
 SBle (SB.cells (strs6 s) x 9) (SB.cells (strs6 s) x 9) ∧
 SBle Q0 Q0 ∧
 True) ∧
 ((!decide (cutRest (itemAt (cutIn (itemAt (cutIn (itemAt (cutIn s) 5)) ((0 : Nat) + (↑x_17.fst : Int).toNat))) 1) = [])) = false →
 (decide ((↑(itemsN (cutIn (itemAt (cutIn (itemAt (cutIn s) 5)) ((0 : Nat) + (↑x_17.fst : Int).toNat)))) : Int) ≤ (2 : Int)) = true →
 (0 : Nat) < (1152921504606846976 : Nat) ∧
 ((0 : Nat) + x_17.fst ≤ x_17.fst ∧
 True ∧
 (2 : Nat) * (x_17.fst + (1 : Nat)) * (40 : Nat) ≤ (281474976710656 : Nat) ∧
 x_17.fst + (1 : Nat) < (9223372036854775808 : Nat)) ∧
 x_17.snd * (3 : Nat) = x_17.snd * (3 : Nat) ∧
 ∀ (c : Nat), x_17.fst + (1 : Nat) ≤ c →
 ∃ (y : Int), getNoticeB s = false ∧
 SBle (SB.cells [SV.slc 4 0 6 false x, SV.int .i64 true 6, SV.iface 117 Q4] 3 97) (SB.cells [SV.slc 4 0 6 false x, SV.int .i64 false y, errW y] 3 97) ∧
 SBle Q1 Q1 ∧
 SBle Q2 Q2 ∧
 SBle (SB.cells (strs6 s) x 9) (SB.cells (strs6 s) x 9) ∧
 SBle Q0 Q0 ∧
 True) ∧
 (decide ((↑(itemsN (cutIn (itemAt (cutIn (itemAt (cutIn s) 5)) ((0 : Nat) + (↑x_17.fst : Int).toNat)))) : Int) ≤ (2 : Int)) = false →
 ((0 : Int) ≤ (2 : Int) ∧
 (2 : Int) < (↑(itemsN (cutIn (itemAt (cutIn (itemAt (cutIn s) 5)) ((0 : Nat) + (↑x_17.fst : Int).toNat)))) : Int)) ∧
 (2 : Nat) < itemsN (cutIn (itemAt (cutIn (itemAt (cutIn s) 5)) ((0 : Nat) + (↑x_17.fst : Int).toNat))) ∧
 (itemAt (cutIn (itemAt (cutIn (itemAt (cutIn s) 5)) ((0 : Nat) + (↑x_17.fst : Int).toNat))) 2).length < (1152921504606846976 : Nat) ∧
 (getB (itemAt (cutIn (itemAt (cutIn (itemAt (cutIn s) 5)) ((0 : Nat) + (↑x_17.fst : Int).toNat))) 2) = true →
 (decide ((1048577 : Int) < num (cutIn (itemAt (cutIn (itemAt (cutIn (itemAt (cutIn s) 5)) ((0 : Nat) + (↑x_17.fst : Int).toNat))) 2))) = true →
 ((0 : Nat) + x_17.fst ≤ x_17.fst ∧
 True ∧
 (2 : Nat) * (x_17.fst + (1 : Nat)) * (40 : Nat) ≤ (281474976710656 : Nat) ∧
 x_17.fst + (1 : Nat) < (9223372036854775808 : Nat)) ∧
 x_17.snd * (3 : Nat) = x_17.snd * (3 : Nat) ∧
 ∀ (c : Nat), x_17.fst + (1 : Nat) ≤ c →
 ∃ (y : Int), getNoticeB s = false ∧
 SBle (SB.cells [SV.slc 4 0 6 false x, SV.int .i64 true 6, SV.iface 117 Q4] 3 97) (SB.cells [SV.slc 4 0 6 false x, SV.int .i64 false y, errW y] 3 97) ∧
 SBle Q1 Q1 ∧
 SBle Q2 Q2 ∧
 SBle (SB.cells (strs6 s) x 9) (SB.cells (strs6 s) x 9) ∧
 SBle Q0 Q0 ∧
 True) ∧
 (decide ((1048577 : Int) < num (cutIn (itemAt (cutIn (itemAt (cutIn (itemAt (cutIn s) 5)) ((0 : Nat) + (↑x_17.fst : Int).toNat))) 2))) = false →
 ((-9223372036854775808 : Int) ≤ num (cutIn (itemAt (cutIn (itemAt (cutIn (itemAt (cutIn s) 5)) ((0 : Nat) + (↑x_17.fst : Int).toNat))) 2)) ∧
 num (cutIn (itemAt (cutIn (itemAt (cutIn (itemAt (cutIn s) 5)) ((0 : Nat) + (↑x_17.fst : Int).toNat))) 2)) ≤ (9223372036854775807 : Int)) ∧
 (decide ((1 : Int) < num (cutIn (itemAt (cutIn (itemAt (cutIn (itemAt (cutIn s) 5)) ((0 : Nat) + (↑x_17.fst : Int).toNat))) 2))) = true →
 ((0 : Nat) + x_17.fst ≤ x_17.fst ∧
 True ∧
 (2 : Nat) * (x_17.fst + (1 : Nat)) * (40 : Nat) ≤ (281474976710656 : Nat) ∧
 x_17.fst + (1 : Nat) < (9223372036854775808 : Nat)) ∧
 x_17.snd * (3 : Nat) = x_17.snd * (3 : Nat) ∧
 ∀ (c : Nat), x_17.fst + (1 : Nat) ≤ c →
 ∃ (y : Int), getNoticeB s = false ∧
 SBle (SB.cells [SV.slc 4 0 6 false x, SV.int .i64 true 6, SV.iface 117 Q4] 3 97) (SB.cells [SV.slc 4 0 6 false x, SV.int .i64 false y, errW y] 3 97) ∧
 SBle Q1 Q1 ∧
 SBle Q2 Q2 ∧
 SBle (SB.cells (strs6 s) x 9) (SB.cells (strs6 s) x 9) ∧
 SBle Q0 Q0 ∧
 True) ∧
 (decide ((1 : Int) < num (cutIn (itemAt (cutIn (itemAt (cutIn (itemAt (cutIn s) 5)) ((0 : Nat) + (↑x_17.fst : Int).toNat))) 2))) = false →
 ((0 : Nat) + x_17.fst ≤ x_17.fst ∧
 True ∧
 (2 : Nat) * (x_17.fst + (1 : Nat)) * (40 : Nat) ≤ (281474976710656 : Nat) ∧
 x_17.fst + (1 : Nat) < (9223372036854775808 : Nat)) ∧
 x_17.snd * (3 : Nat) = x_17.snd * (3 : Nat) ∧
 ∀ (c : Nat), x_17.fst + (1 : Nat) ≤ c →
 ((-9223372036854775808 : Int) ≤ (↑x_17.fst : Int) + (1 : Int) ∧
 (↑x_17.fst : Int) + (1 : Int) ≤ (9223372036854775807 : Int)) ∧
 ∃ (y : Nat × Nat), (Grow (itemsN (cutIn (itOf s 5))) y ∧
 itemsN (cutIn (itOf s 5)) - y.fst < itemsN (cutIn (itOf s 5)) - x_17.fst) ∧
 (↑x_17.fst : Int) + (1 : Int) = (↑y.fst : Int) ∧
 ((0 : Nat) = (0 : Nat) ∧
 x_17.fst + (1 : Nat) = y.fst ∧
 c = y.snd) ∧
 True ∧
 SBle (SB.rows false (x_17.fst + (1 : Nat)) [Col.str fun (j : Nat) => if j < x_17.fst then cutIn (subOf (itOf s 5) j 0) else selS [cutIn (itemAt (cutIn (itemAt (cutIn (itemAt (cutIn s) 5)) ((0 : Nat) + (↑x_17.fst : Int).toNat))) 0)] (j - x_17.fst), Col.str fun (j : Nat) => if j < x_17.fst then cutIn (subOf (itOf s 5) j 1) else selS [cutIn (itemAt (cutIn (itemAt (cutIn (itemAt (cutIn s) 5)) ((0 : Nat) + (↑x_17.fst : Int).toNat))) 1)] (j - x_17.fst), Col.bool fun (j : Nat) => if j < x_17.fst then decide (numI (subOf (itOf s 5) j 2) = (1 : Int)) else selB [decide (num (cutIn (itemAt (cutIn (itemAt (cutIn (itemAt (cutIn s) 5)) ((0 : Nat) + (↑x_17.fst : Int).toNat))) 2)) = (1 : Int))] (j - x_17.fst)] false (c * (3 : Nat)) 54) (SB.rows false y.fst (colsC (fun (i : Nat) => cutIn (subOf (itOf s 5) i 0)) (fun (i : Nat) => cutIn (subOf (itOf s 5) i 1)) fun (i : Nat) => decide (numI (subOf (itOf s 5) i 2) = (1 : Int))) false (y.snd * (3 : Nat)) 54) ∧
 SBle (SB.rows true (itemsN (cutIn (itemAt (cutIn s) 5))) [Col.str (itemAt (cutIn (itemAt (cutIn s) 5)))] false x_14 9) (SB.rows true (itemsN (cutIn (itemAt (cutIn s) 5))) [Col.str (itemAt (cutIn (itemAt (cutIn s) 5)))] false x_14 9) ∧
 SBle (SB.cells (setRange (SV.agg [SV.nilslc, SV.int .i64 true 0, SV.niliface]).cells 0 (SV.rslc ((0 : Nat) + (1 : Nat) + (1 : Nat) + (1 : Nat) + (2 : Nat) + (0 : Nat) + (0 : Nat) + (0 : Nat) + (0 : Nat) + (1 : Nat)) 1 true 0 (itemsN (cutIn (itemAt (cutIn s) 5))) x_14).cells) 3 97) (SB.cells (setRange (SV.agg [SV.nilslc, SV.int .i64 true 0, SV.niliface]).cells 0 (SV.rslc ((0 : Nat) + (1 : Nat) + (1 : Nat) + (1 : Nat) + (2 : Nat) + (0 : Nat) + (0 : Nat) + (0 : Nat) + (0 : Nat) + (1 : Nat)) 1 true 0 (itemsN (cutIn (itemAt (cutIn s) 5))) x_14).cells) 3 97) ∧
 SBle (SB.cells (setRange [itemsR (Sx.hd (Code.region 6 #[{ dst := some 22, op := Op.move (Operand.tmp 6), type := (65 : Nat), pos := "read.go:182", after := #[], guard := none : Oper }, { dst := some 23, op := Op.makeFunc (Fn.func 43) #[Operand.tmp 22] #[], type := (68 : Nat), pos := "read.go:182", after := #[{ on := (0 : Nat), ground := Ground.data : Edge }], guard := none : Oper }, { dst := some 24, op := Op.fieldAddr 30 (Operand.tmp 4) 2, type := (0 : Nat), pos := "read.go:182", after := #[], guard := none : Oper }, { dst := some 25, op := Op.buildSlice 100 1 #[((0 : Nat), Operand.tmp 24)], type := (100 : Nat), pos := "read.go:182", after := #[{ on := (2 : Nat), ground := Ground.data : Edge }], guard := none : Oper }, { dst := some 26, op := Op.call { callee := Callee.value (Operand.func 42), args := #[Operand.tmp 23, Operand.tmp 25], argTypes := #[(68 : Nat), (100 : Nat)] : Call }, type := (0 : Nat), pos := "read.go:182", after := #[{ on := (1 : Nat), ground := Ground.data : Edge }, { on := (3 : Nat), ground := Ground.data : Edge }], guard := none : Oper }] false) (aMem fun (st : St) => [rOk st 4, xn ((filledR st).set 2 (SV.int .i64 false (numI (itOf s 3))))]) (Sx.hd (Code.region 5 #[{ dst := some 17, op := Op.move (Operand.tmp 6), type := (65 : Nat), pos := "read.go:181", after := #[], guard := none : Oper }, { dst := some 18, op := Op.makeFunc (Fn.func 51) #[Operand.tmp 17] #[], type := (73 : Nat), pos := "read.go:181", after := #[{ on := (0 : Nat), ground := Ground.data : Edge }], guard := none : Oper }, { dst := some 19, op := Op.fieldAddr 30 (Operand.tmp 4) 1, type := (0 : Nat), pos := "read.go:181", after := #[], guard := none : Oper }, { dst := some 20, op := Op.buildSlice 105 1 #[((0 : Nat), Operand.tmp 19)], type := (105 : Nat), pos := "read.go:181", after := #[{ on := (2 : Nat), ground := Ground.data : Edge }], guard := none : Oper }, { dst := some 21, op := Op.call { callee := Callee.value (Operand.func 50), args := #[Operand.tmp 18, Operand.tmp 20], argTypes := #[(73 : Nat), (105 : Nat)] : Call }, type := (0 : Nat), pos := "read.go:181", after := #[{ on := (1 : Nat), ground := Ground.data : Edge }, { on := (3 : Nat), ground := Ground.data : Edge }], guard := none : Oper }] false) (aMem fun (st : St) => [rOk st 3, xn ((filledR st).set 1 (SV.int .i64 false (numI (itOf s 2))))]) (Sx.hd (Code.region 4 #[{ dst := some 12, op := Op.move (Operand.tmp 6), type := (65 : Nat), pos := "read.go:180", after := #[], guard := none : Oper }, { dst := some 13, op := Op.makeFunc (Fn.func 43) #[Operand.tmp 12] #[], type := (68 : Nat), pos := "read.go:180", after := #[{ on := (0 : Nat), ground := Ground.data : Edge }], guard := none : Oper }, { dst := some 14, op := Op.fieldAddr 30 (Operand.tmp 4) 0, type := (0 : Nat), pos := "read.go:180", after := #[], guard := none : Oper }, { dst := some 15, op := Op.buildSlice 100 2 #[((0 : Nat), Operand.tmp 5), ((1 : Nat), Operand.tmp 14)], type := (100 : Nat), pos := "read.go:180", after := #[{ on := (2 : Nat), ground := Ground.data : Edge }], guard := none : Oper }, { dst := some 16, op := Op.call { callee := Callee.value (Operand.func 42), args := #[Operand.tmp 13, Operand.tmp 15], argTypes := #[(68 : Nat), (100 : Nat)] : Call }, type := (0 : Nat), pos := "read.go:180", after := #[{ on := (1 : Nat), ground := Ground.data : Edge }, { on := (3 : Nat), ground := Ground.data : Edge }], guard := none : Oper }] false) (aMem fun (st : St) => [rOk st 2, xn ((filledR st).set 0 (SV.int .i64 false (numI (itOf s 1)))), kindB (numI (itOf s 0))]) (Sx.hd (Code.region 3 #[{ dst := some 10, op := Op.move (Operand.tmp 0), type := (9 : Nat), pos := "read.go:179", after := #[], guard := none : Oper }, { dst := some 11, op := Op.call { callee := Callee.value (Operand.func 41), args := #[Operand.tmp 10, Operand.const (Value.int IntKind.i64 6)], argTypes := #[(9 : Nat), (3 : Nat)] : Call }, type := (65 : Nat), pos := "read.go:179", after := #[{ on := (0 : Nat), ground := Ground.data : Edge }], guard := none : Oper }, { dst := some 6, op := Op.assign (Operand.tmp 11), type := (65 : Nat), pos := "read.go:179", after := #[{ on := (1 : Nat), ground := Ground.data : Edge }, { on := (1 : Nat), ground := Ground.chain : Edge }, { on := (0 : Nat), ground := Ground.phase : Edge }, { on := (1 : Nat), ground := Ground.phase : Edge }], guard := none : Oper }] false) (aListed (strs6 s)) { tmps := setSlot (setSlot (setSlot (setSlot (List.map some [SV.str false s] ++ List.replicate ((59 : Nat) - (1 : Nat)) none) (some 2) (some (SV.ptr 0 true 0))) (some 3) (ev (setSlot (List.map some [SV.str false s] ++ List.replicate ((59 : Nat) - (1 : Nat)) none) (some 2) (some (SV.ptr 0 true 0))) (Operand.const (Value.int IntKind.i64 0)))) (some 4) (some (SV.ptr ((0 : Nat) + (1 : Nat)) true 0))) (some 5) (some (SV.ptr ((0 : Nat) + (1 : Nat) + (1 : Nat)) true 0)), m := [((0 : Nat) + (1 : Nat) + (1 : Nat), SB.cells (SV.int .i64 true 0).cells 1 3), ((0 : Nat) + (1 : Nat), SB.cells Q3.cells 5 30), ((0 : Nat), SB.cells Q3.cells 5 30)], nx := (0 : Nat) + (1 : Nat) + (1 : Nat) + (1 : Nat) : St } x) x_2) x_4) x_6), SV.int .i64 true 5, SV.niliface] 1 (SV.int .i64 true 6).cells) 3 97) (SB.cells (setRange [itemsR (Sx.hd (Code.region 6 #[{ dst := some 22, op := Op.move (Operand.tmp 6), type := (65 : Nat), pos := "read.go:182", after := #[], guard := none : Oper }, { dst := some 23, op := Op.makeFunc (Fn.func 43) #[Operand.tmp 22] #[], type := (68 : Nat), pos := "read.go:182", after := #[{ on := (0 : Nat), ground := Ground.data : Edge }], guard := none : Oper }, { dst := some 24, op := Op.fieldAddr 30 (Operand.tmp 4) 2, type := (0 : Nat), pos := "read.go:182", after := #[], guard := none : Oper }, { dst := some 25, op := Op.buildSlice 100 1 #[((0 : Nat), Operand.tmp 24)], type := (100 : Nat), pos := "read.go:182", after := #[{ on := (2 : Nat), ground := Ground.data : Edge }], guard := none : Oper }, { dst := some 26, op := Op.call { callee := Callee.value (Operand.func 42), args := #[Operand.tmp 23, Operand.tmp 25], argTypes := #[(68 : Nat), (100 : Nat)] : Call }, type := (0 : Nat), pos := "read.go:182", after := #[{ on := (1 : Nat), ground := Ground.data : Edge }, { on := (3 : Nat), ground := Ground.data : Edge }], guard := none : Oper }] false) (aMem fun (st : St) => [rOk st 4, xn ((filledR st).set 2 (SV.int .i64 false (numI (itOf s 3))))]) (Sx.hd (Code.region 5 #[{ dst := some 17, op := Op.move (Operand.tmp 6), type := (65 : Nat), pos := "read.go:181", after := #[], guard := none : Oper }, { dst := some 18, op := Op.makeFunc (Fn.func 51) #[Operand.tmp 17] #[], type := (73 : Nat), pos := "read.go:181", after := #[{ on := (0 : Nat), ground := Ground.data : Edge }], guard := none : Oper }, { dst := some 19, op := Op.fieldAddr 30 (Operand.tmp 4) 1, type := (0 : Nat), pos := "read.go:181", after := #[], guard := none : Oper }, { dst := some 20, op := Op.buildSlice 105 1 #[((0 : Nat), Operand.tmp 19)], type := (105 : Nat), pos := "read.go:181", after := #[{ on := (2 : Nat), ground := Ground.data : Edge }], guard := none : Oper }, { dst := some 21, op := Op.call { callee := Callee.value (Operand.func 50), args := #[Operand.tmp 18, Operand.tmp 20], argTypes := #[(73 : Nat), (105 : Nat)] : Call }, type := (0 : Nat), pos := "read.go:181", after := #[{ on := (1 : Nat), ground := Ground.data : Edge }, { on := (3 : Nat), ground := Ground.data : Edge }], guard := none : Oper }] false) (aMem fun (st : St) => [rOk st 3, xn ((filledR st).set 1 (SV.int .i64 false (numI (itOf s 2))))]) (Sx.hd (Code.region 4 #[{ dst := some 12, op := Op.move (Operand.tmp 6), type := (65 : Nat), pos := "read.go:180", after := #[], guard := none : Oper }, { dst := some 13, op := Op.makeFunc (Fn.func 43) #[Operand.tmp 12] #[], type := (68 : Nat), pos := "read.go:180", after := #[{ on := (0 : Nat), ground := Ground.data : Edge }], guard := none : Oper }, { dst := some 14, op := Op.fieldAddr 30 (Operand.tmp 4) 0, type := (0 : Nat), pos := "read.go:180", after := #[], guard := none : Oper }, { dst := some 15, op := Op.buildSlice 100 2 #[((0 : Nat), Operand.tmp 5), ((1 : Nat), Operand.tmp 14)], type := (100 : Nat), pos := "read.go:180", after := #[{ on := (2 : Nat), ground := Ground.data : Edge }], guard := none : Oper }, { dst := some 16, op := Op.call { callee := Callee.value (Operand.func 42), args := #[Operand.tmp 13, Operand.tmp 15], argTypes := #[(68 : Nat), (100 : Nat)] : Call }, type := (0 : Nat), pos := "read.go:180", after := #[{ on := (1 : Nat), ground := Ground.data : Edge }, { on := (3 : Nat), ground := Ground.data : Edge }], guard := none : Oper }] false) (aMem fun (st : St) => [rOk st 2, xn ((filledR st).set 0 (SV.int .i64 false (numI (itOf s 1)))), kindB (numI (itOf s 0))]) (Sx.hd (Code.region 3 #[{ dst := some 10, op := Op.move (Operand.tmp 0), type := (9 : Nat), pos := "read.go:179", after := #[], guard := none : Oper }, { dst := some 11, op := Op.call { callee := Callee.value (Operand.func 41), args := #[Operand.tmp 10, Operand.const (Value.int IntKind.i64 6)], argTypes := #[(9 : Nat), (3 : Nat)] : Call }, type := (65 : Nat), pos := "read.go:179", after := #[{ on := (0 : Nat), ground := Ground.data : Edge }], guard := none : Oper }, { dst := some 6, op := Op.assign (Operand.tmp 11), type := (65 : Nat), pos := "read.go:179", after := #[{ on := (1 : Nat), ground := Ground.data : Edge }, { on := (1 : Nat), ground := Ground.chain : Edge }, { on := (0 : Nat), ground := Ground.phase : Edge }, { on := (1 : Nat), ground := Ground.phase : Edge }], guard := none : Oper }] false) (aListed (strs6 s)) { tmps := setSlot (setSlot (setSlot (setSlot (List.map some [SV.str false s] ++ List.replicate ((59 : Nat) - (1 : Nat)) none) (some 2) (some (SV.ptr 0 true 0))) (some 3) (ev (setSlot (List.map some [SV.str false s] ++ List.replicate ((59 : Nat) - (1 : Nat)) none) (some 2) (some (SV.ptr 0 true 0))) (Operand.const (Value.int IntKind.i64 0)))) (some 4) (some (SV.ptr ((0 : Nat) + (1 : Nat)) true 0))) (some 5) (some (SV.ptr ((0 : Nat) + (1 : Nat) + (1 : Nat)) true 0)), m := [((0 : Nat) + (1 : Nat) + (1 : Nat), SB.cells (SV.int .i64 true 0).cells 1 3), ((0 : Nat) + (1 : Nat), SB.cells Q3.cells 5 30), ((0 : Nat), SB.cells Q3.cells 5 30)], nx := (0 : Nat) + (1 : Nat) + (1 : Nat) + (1 : Nat) : St } x) x_2) x_4) x_6), SV.int .i64 true 5, SV.niliface] 1 (SV.int .i64 true 6).cells) 3 97) ∧
 SBle (SB.cells ((filledR (Sx.hd (Code.region 6 #[{ dst := some 22, op := Op.move (Operand.tmp 6), type := (65 : Nat), pos := "read.go:182", after := #[], guard := none : Oper }, { dst := some 23, op := Op.makeFunc (Fn.func 43) #[Operand.tmp 22] #[], type := (68 : Nat), pos := "read.go:182", after := #[{ on := (0 : Nat), ground := Ground.data : Edge }], guard := none : Oper }, { dst := some 24, op := Op.fieldAddr 30 (Operand.tmp 4) 2, type := (0 : Nat), pos := "read.go:182", after := #[], guard := none : Oper }, { dst := some 25, op := Op.buildSlice 100 1 #[((0 : Nat), Operand.tmp 24)], type := (100 : Nat), pos := "read.go:182", after := #[{ on := (2 : Nat), ground := Ground.data : Edge }], guard := none : Oper }, { dst := some 26, op := Op.call { callee := Callee.value (Operand.func 42), args := #[Operand.tmp 23, Operand.tmp 25], argTypes := #[(68 : Nat), (100 : Nat)] : Call }, type := (0 : Nat), pos := "read.go:182", after := #[{ on := (1 : Nat), ground := Ground.data : Edge }, { on := (3 : Nat), ground := Ground.data : Edge }], guard := none : Oper }] false) (aMem fun (st : St) => [rOk st 4, xn ((filledR st).set 2 (SV.int .i64 false (numI (itOf s 3))))]) (Sx.hd (Code.region 5 #[{ dst := some 17, op := Op.move (Operand.tmp 6), type := (65 : Nat), pos := "read.go:181", after := #[], guard := none : Oper }, { dst := some 18, op := Op.makeFunc (Fn.func 51) #[Operand.tmp 17] #[], type := (73 : Nat), pos := "read.go:181", after := #[{ on := (0 : Nat), ground := Ground.data : Edge }], guard := none : Oper }, { dst := some 19, op := Op.fieldAddr 30 (Operand.tmp 4) 1, type := (0 : Nat), pos := "read.go:181", after := #[], guard := none : Oper }, { dst := some 20, op := Op.buildSlice 105 1 #[((0 : Nat), Operand.tmp 19)], type := (105 : Nat), pos := "read.go:181", after := #[{ on := (2 : Nat), ground := Ground.data : Edge }], guard := none : Oper }, { dst := some 21, op := Op.call { callee := Callee.value (Operand.func 50), args := #[Operand.tmp 18, Operand.tmp 20], argTypes := #[(73 : Nat), (105 : Nat)] : Call }, type := (0 : Nat), pos := "read.go:181", after := #[{ on := (1 : Nat), ground := Ground.data : Edge }, { on := (3 : Nat), ground := Ground.data : Edge }], guard := none : Oper }] false) (aMem fun (st : St) => [rOk st 3, xn ((filledR st).set 1 (SV.int .i64 false (numI (itOf s 2))))]) (Sx.hd (Code.region 4 #[{ dst := some 12, op := Op.move (Operand.tmp 6), type := (65 : Nat), pos := "read.go:180", after := #[], guard := none : Oper }, { dst := some 13, op := Op.makeFunc (Fn.func 43) #[Operand.tmp 12] #[], type := (68 : Nat), pos := "read.go:180", after := #[{ on := (0 : Nat), ground := Ground.data : Edge }], guard := none : Oper }, { dst := some 14, op := Op.fieldAddr 30 (Operand.tmp 4) 0, type := (0 : Nat), pos := "read.go:180", after := #[], guard := none : Oper }, { dst := some 15, op := Op.buildSlice 100 2 #[((0 : Nat), Operand.tmp 5), ((1 : Nat), Operand.tmp 14)], type := (100 : Nat), pos := "read.go:180", after := #[{ on := (2 : Nat), ground := Ground.data : Edge }], guard := none : Oper }, { dst := some 16, op := Op.call { callee := Callee.value (Operand.func 42), args := #[Operand.tmp 13, Operand.tmp 15], argTypes := #[(68 : Nat), (100 : Nat)] : Call }, type := (0 : Nat), pos := "read.go:180", after := #[{ on := (1 : Nat), ground := Ground.data : Edge }, { on := (3 : Nat), ground := Ground.data : Edge }], guard := none : Oper }] false) (aMem fun (st : St) => [rOk st 2, xn ((filledR st).set 0 (SV.int .i64 false (numI (itOf s 1)))), kindB (numI (itOf s 0))]) (Sx.hd (Code.region 3 #[{ dst := some 10, op := Op.move (Operand.tmp 0), type := (9 : Nat), pos := "read.go:179", after := #[], guard := none : Oper }, { dst := some 11, op := Op.call { callee := Callee.value (Operand.func 41), args := #[Operand.tmp 10, Operand.const (Value.int IntKind.i64 6)], argTypes := #[(9 : Nat), (3 : Nat)] : Call }, type := (65 : Nat), pos := "read.go:179", after := #[{ on := (0 : Nat), ground := Ground.data : Edge }], guard := none : Oper }, { dst := some 6, op := Op.assign (Operand.tmp 11), type := (65 : Nat), pos := "read.go:179", after := #[{ on := (1 : Nat), ground := Ground.data : Edge }, { on := (1 : Nat), ground := Ground.chain : Edge }, { on := (0 : Nat), ground := Ground.phase : Edge }, { on := (1 : Nat), ground := Ground.phase : Edge }], guard := none : Oper }] false) (aListed (strs6 s)) { tmps := setSlot (setSlot (setSlot (setSlot (List.map some [SV.str false s] ++ List.replicate ((59 : Nat) - (1 : Nat)) none) (some 2) (some (SV.ptr 0 true 0))) (some 3) (ev (setSlot (List.map some [SV.str false s] ++ List.replicate ((59 : Nat) - (1 : Nat)) none) (some 2) (some (SV.ptr 0 true 0))) (Operand.const (Value.int IntKind.i64 0)))) (some 4) (some (SV.ptr ((0 : Nat) + (1 : Nat)) true 0))) (some 5) (some (SV.ptr ((0 : Nat) + (1 : Nat) + (1 : Nat)) true 0)), m := [((0 : Nat) + (1 : Nat) + (1 : Nat), SB.cells (SV.int .i64 true 0).cells 1 3), ((0 : Nat) + (1 : Nat), SB.cells Q3.cells 5 30), ((0 : Nat), SB.cells Q3.cells 5 30)], nx := (0 : Nat) + (1 : Nat) + (1 : Nat) + (1 : Nat) : St } x) x_2) x_4) x_6)).set 3 (SV.str false (cutIn (itOf s 4)))) 5 30) (SB.cells ((filledR (Sx.hd (Code.region 6 #[{ dst := some 22, op := Op.move (Operand.tmp 6), type := (65 : Nat), pos := "read.go:182", after := #[], guard := none : Oper }, { dst := some 23, op := Op.makeFunc (Fn.func 43) #[Operand.tmp 22] #[], type := (68 : Nat), pos := "read.go:182", after := #[{ on := (0 : Nat), ground := Ground.data : Edge }], guard := none : Oper }, { dst := some 24, op := Op.fieldAddr 30 (Operand.tmp 4) 2, type := (0 : Nat), pos := "read.go:182", after := #[], guard := none : Oper }, { dst := some 25, op := Op.buildSlice 100 1 #[((0 : Nat), Operand.tmp 24)], type := (100 : Nat), pos := "read.go:182", after := #[{ on := (2 : Nat), ground := Ground.data : Edge }], guard := none : Oper }, { dst := some 26, op := Op.call { callee := Callee.value (Operand.func 42), args := #[Operand.tmp 23, Operand.tmp 25], argTypes := #[(68 : Nat), (100 : Nat)] : Call }, type := (0 : Nat), pos := "read.go:182", after := #[{ on := (1 : Nat), ground := Ground.data : Edge }, { on := (3 : Nat), ground := Ground.data : Edge }], guard := none : Oper }] false) (aMem fun (st : St) => [rOk st 4, xn ((filledR st).set 2 (SV.int .i64 false (numI (itOf s 3))))]) (Sx.hd (Code.region 5 #[{ dst := some 17, op := Op.move (Operand.tmp 6), type := (65 : Nat), pos := "read.go:181", after := #[], guard := none : Oper }, { dst := some 18, op := Op.makeFunc (Fn.func 51) #[Operand.tmp 17] #[], type := (73 : Nat), pos := "read.go:181", after := #[{ on := (0 : Nat), ground := Ground.data : Edge }], guard := none : Oper }, { dst := some 19, op := Op.fieldAddr 30 (Operand.tmp 4) 1, type := (0 : Nat), pos := "read.go:181", after := #[], guard := none : Oper }, { dst := some 20, op := Op.buildSlice 105 1 #[((0 : Nat), Operand.tmp 19)], type := (105 : Nat), pos := "read.go:181", after := #[{ on := (2 : Nat), ground := Ground.data : Edge }], guard := none : Oper }, { dst := some 21, op := Op.call { callee := Callee.value (Operand.func 50), args := #[Operand.tmp 18, Operand.tmp 20], argTypes := #[(73 : Nat), (105 : Nat)] : Call }, type := (0 : Nat), pos := "read.go:181", after := #[{ on := (1 : Nat), ground := Ground.data : Edge }, { on := (3 : Nat), ground := Ground.data : Edge }], guard := none : Oper }] false) (aMem fun (st : St) => [rOk st 3, xn ((filledR st).set 1 (SV.int .i64 false (numI (itOf s 2))))]) (Sx.hd (Code.region 4 #[{ dst := some 12, op := Op.move (Operand.tmp 6), type := (65 : Nat), pos := "read.go:180", after := #[], guard := none : Oper }, { dst := some 13, op := Op.makeFunc (Fn.func 43) #[Operand.tmp 12] #[], type := (68 : Nat), pos := "read.go:180", after := #[{ on := (0 : Nat), ground := Ground.data : Edge }], guard := none : Oper }, { dst := some 14, op := Op.fieldAddr 30 (Operand.tmp 4) 0, type := (0 : Nat), pos := "read.go:180", after := #[], guard := none : Oper }, { dst := some 15, op := Op.buildSlice 100 2 #[((0 : Nat), Operand.tmp 5), ((1 : Nat), Operand.tmp 14)], type := (100 : Nat), pos := "read.go:180", after := #[{ on := (2 : Nat), ground := Ground.data : Edge }], guard := none : Oper }, { dst := some 16, op := Op.call { callee := Callee.value (Operand.func 42), args := #[Operand.tmp 13, Operand.tmp 15], argTypes := #[(68 : Nat), (100 : Nat)] : Call }, type := (0 : Nat), pos := "read.go:180", after := #[{ on := (1 : Nat), ground := Ground.data : Edge }, { on := (3 : Nat), ground := Ground.data : Edge }], guard := none : Oper }] false) (aMem fun (st : St) => [rOk st 2, xn ((filledR st).set 0 (SV.int .i64 false (numI (itOf s 1)))), kindB (numI (itOf s 0))]) (Sx.hd (Code.region 3 #[{ dst := some 10, op := Op.move (Operand.tmp 0), type := (9 : Nat), pos := "read.go:179", after := #[], guard := none : Oper }, { dst := some 11, op := Op.call { callee := Callee.value (Operand.func 41), args := #[Operand.tmp 10, Operand.const (Value.int IntKind.i64 6)], argTypes := #[(9 : Nat), (3 : Nat)] : Call }, type := (65 : Nat), pos := "read.go:179", after := #[{ on := (0 : Nat), ground := Ground.data : Edge }], guard := none : Oper }, { dst := some 6, op := Op.assign (Operand.tmp 11), type := (65 : Nat), pos := "read.go:179", after := #[{ on := (1 : Nat), ground := Ground.data : Edge }, { on := (1 : Nat), ground := Ground.chain : Edge }, { on := (0 : Nat), ground := Ground.phase : Edge }, { on := (1 : Nat), ground := Ground.phase : Edge }], guard := none : Oper }] false) (aListed (strs6 s)) { tmps := setSlot (setSlot (setSlot (setSlot (List.map some [SV.str false s] ++ List.replicate ((59 : Nat) - (1 : Nat)) none) (some 2) (some (SV.ptr 0 true 0))) (some 3) (ev (setSlot (List.map some [SV.str false s] ++ List.replicate ((59 : Nat) - (1 : Nat)) none) (some 2) (some (SV.ptr 0 true 0))) (Operand.const (Value.int IntKind.i64 0)))) (some 4) (some (SV.ptr ((0 : Nat) + (1 : Nat)) true 0))) (some 5) (some (SV.ptr ((0 : Nat) + (1 : Nat) + (1 : Nat)) true 0)), m := [((0 : Nat) + (1 : Nat) + (1 : Nat), SB.cells (SV.int .i64 true 0).cells 1 3), ((0 : Nat) + (1 : Nat), SB.cells Q3.cells 5 30), ((0 : Nat), SB.cells Q3.cells 5 30)], nx := (0 : Nat) + (1 : Nat) + (1 : Nat) + (1 : Nat) : St } x) x_2) x_4) x_6)).set 3 (SV.str false (cutIn (itOf s 4)))) 5 30) ∧
 SBle Q2 Q2 ∧
 SBle (SB.cells (strs6 s) x 9) (SB.cells (strs6 s) x 9) ∧
 SBle Q0 Q0 ∧
 True))) ∧
 (getB (itemAt (cutIn (itemAt (cutIn (itemAt (cutIn s) 5)) ((0 : Nat) + (↑x_17.fst : Int).toNat))) 2) = false →
 ((0 : Nat) + x_17.fst ≤ x_17.fst ∧
 True ∧
 (2 : Nat) * (x_17.fst + (1 : Nat)) * (40 : Nat) ≤ (281474976710656 : Nat) ∧
 x_17.fst + (1 : Nat) < (9223372036854775808 : Nat)) ∧
 x_17.snd * (3 : Nat) = x_17.snd * (3 : Nat) ∧
 ∀ (c : Nat), x_17.fst + (1 : Nat) ≤ c →
 ∃ (y : Int), getNoticeB s = false ∧
 SBle (SB.cells [SV.slc 4 0 6 false x, SV.int .i64 true 6, SV.iface 117 Q4] 3 97) (SB.cells [SV.slc 4 0 6 false x, SV.int .i64 false y, errW y] 3 97) ∧
 SBle Q1 Q1 ∧
 SBle Q2 Q2 ∧
 SBle (SB.cells (strs6 s) x 9) (SB.cells (strs6 s) x 9) ∧
 SBle Q0 Q0 ∧
 True))))) ∧
 (cutB (itemAt (cutIn (itemAt (cutIn (itemAt (cutIn s) 5)) ((0 : Nat) + (↑x_17.fst : Int).toNat))) 1) = false →
 (0 : Nat) < (1152921504606846976 : Nat) ∧
 ((0 : Nat) + x_17.fst ≤ x_17.fst ∧
 True ∧
 (2 : Nat) * (x_17.fst + (1 : Nat)) * (40 : Nat) ≤ (281474976710656 : Nat) ∧
 x_17.fst + (1 : Nat) < (9223372036854775808 : Nat)) ∧
 x_17.snd * (3 : Nat) = x_17.snd * (3 : Nat) ∧
 ∀ (c : Nat), x_17.fst + (1 : Nat) ≤ c →
 ∃ (y : Int), getNoticeB s = false ∧
 SBle (SB.cells [SV.slc 4 0 6 false x, SV.int .i64 true 6, SV.iface 117 Q4] 3 97) (SB.cells [SV.slc 4 0 6 false x, SV.int .i64 false y, errW y] 3 97) ∧
 SBle Q1 Q1 ∧
 SBle Q2 Q2 ∧
 SBle (SB.cells (strs6 s) x 9) (SB.cells (strs6 s) x 9) ∧
 SBle Q0 Q0 ∧
 True))))) ∧
 (cutB (itemAt (cutIn (itemAt (cutIn (itemAt (cutIn s) 5)) ((0 : Nat) + (↑x_17.fst : Int).toNat))) 0) = false →
 (0 : Nat) < (1152921504606846976 : Nat) ∧
 (0 : Nat) < (1152921504606846976 : Nat) ∧
 ((0 : Nat) + x_17.fst ≤ x_17.fst ∧
 True ∧
 (2 : Nat) * (x_17.fst + (1 : Nat)) * (40 : Nat) ≤ (281474976710656 : Nat) ∧
 x_17.fst + (1 : Nat) < (9223372036854775808 : Nat)) ∧
 x_17.snd * (3 : Nat) = x_17.snd * (3 : Nat) ∧
 ∀ (c : Nat), x_17.fst + (1 : Nat) ≤ c →
 ∃ (y : Int), getNoticeB s = false ∧
 SBle (SB.cells [SV.slc 4 0 6 false x, SV.int .i64 true 6, SV.iface 117 Q4] 3 97) (SB.cells [SV.slc 4 0 6 false x, SV.int .i64 false y, errW y] 3 97) ∧
 SBle Q1 Q1 ∧
 SBle Q2 Q2 ∧
 SBle (SB.cells (strs6 s) x 9) (SB.cells (strs6 s) x 9) ∧
 SBle Q0 Q0 ∧
 True)))) ∧
 (itemsB (cutIn (itemAt (cutIn (itemAt (cutIn s) 5)) ((0 : Nat) + (↑x_17.fst : Int).toNat))) = false →
 (0 : Nat) < (1152921504606846976 : Nat) ∧
 (0 : Nat) < (1152921504606846976 : Nat) ∧
 (0 : Nat) < (1152921504606846976 : Nat) ∧
 ((0 : Nat) + x_17.fst ≤ x_17.fst ∧
 True ∧
 (2 : Nat) * (x_17.fst + (1 : Nat)) * (40 : Nat) ≤ (281474976710656 : Nat) ∧
 x_17.fst + (1 : Nat) < (9223372036854775808 : Nat)) ∧
 x_17.snd * (3 : Nat) = x_17.snd * (3 : Nat) ∧
 ∀ (c : Nat), x_17.fst + (1 : Nat) ≤ c →
 ∃ (y : Int), getNoticeB s = false ∧
 SBle (SB.cells [SV.slc 4 0 6 false x, SV.int .i64 true 6, SV.iface 117 Q4] 3 97) (SB.cells [SV.slc 4 0 6 false x, SV.int .i64 false y, errW y] 3 97) ∧
 SBle Q1 Q1 ∧
 SBle Q2 Q2 ∧
 SBle (SB.cells (strs6 s) x 9) (SB.cells (strs6 s) x 9) ∧
 SBle Q0 Q0 ∧
 True)))) ∧
 (cutB (itemAt (cutIn (itemAt (cutIn s) 5)) ((0 : Nat) + (↑x_17.fst : Int).toNat)) = false →
 (0 : Nat) < (1152921504606846976 : Nat) ∧
 (0 : Nat) < (1152921504606846976 : Nat) ∧
 (0 : Nat) < (1152921504606846976 : Nat) ∧
 ((0 : Nat) + x_17.fst ≤ x_17.fst ∧
 True ∧
 (2 : Nat) * (x_17.fst + (1 : Nat)) * (40 : Nat) ≤ (281474976710656 : Nat) ∧
 x_17.fst + (1 : Nat) < (9223372036854775808 : Nat)) ∧
 x_17.snd * (3 : Nat) = x_17.snd * (3 : Nat) ∧
 ∀ (c : Nat), x_17.fst + (1 : Nat) ≤ c →
 ∃ (y : Int), getNoticeB s = false ∧
 SBle (SB.cells [SV.slc 4 0 6 false x, SV.int .i64 true 6, SV.iface 117 Q4] 3 97) (SB.cells [SV.slc 4 0 6 false x, SV.int .i64 false y, errW y] 3 97) ∧
 SBle Q1 Q1 ∧
 SBle Q2 Q2 ∧
 SBle (SB.cells (strs6 s) x 9) (SB.cells (strs6 s) x 9) ∧
 SBle Q0 Q0 ∧
 True)) ∧
 (decide ((↑x_17.fst : Int) < (↑(itemsN (cutIn (itemAt (cutIn s) 5))) : Int)) = false →
 ∃ (y : Nat), itemsN (cutIn (itOf s 5)) ≤ y ∧
 SBle (SB.cells [SV.slc 4 0 6 false x, SV.int .i64 true 6, SV.niliface] 3 97) (SB.cells [SV.slc 4 0 6 false x, SV.int .i64 true 6, SV.niliface] 3 97) ∧
 (5 : Nat) = (5 : Nat) ∧
 numI (itOf s 1) = numI (itOf s 1) ∧
 numI (itOf s 2) = numI (itOf s 2) ∧
 numI (itOf s 3) = numI (itOf s 3) ∧
 cutIn (itOf s 4) = cutIn (itOf s 4) ∧
 ((0 : Nat) = (0 : Nat) ∧
 x_17.fst = itemsN (cutIn (itOf s 5)) ∧
 x_17.snd = y) ∧
 True ∧
 SBle (SB.rows false x_17.fst (colsC (fun (i : Nat) => cutIn (subOf (itOf s 5) i 0)) (fun (i : Nat) => cutIn (subOf (itOf s 5) i 1)) fun (i : Nat) => decide (numI (subOf (itOf s 5) i 2) = (1 : Int))) false (x_17.snd * (3 : Nat)) 54) (SB.rows false (itemsN (cutIn (itOf s 5))) (colsC (fun (i : Nat) => cutIn (subOf (itOf s 5) i 0)) (fun (i : Nat) => cutIn (subOf (itOf s 5) i 1)) fun (i : Nat) => decide (numI (subOf (itOf s 5) i 2) = (1 : Int))) false (y * (3 : Nat)) 54) ∧
 SBle Q2 Q2 ∧
 SBle (SB.cells (strs6 s) x 9) (SB.cells (strs6 s) x 9) ∧
 SBle Q0 Q0 ∧
 True))) ∧
 (itemsB (cutIn (itemAt (cutIn s) 5)) = false →
 ∃ (y : Int), getNoticeB s = false ∧
 SBle (SB.cells [SV.slc 4 0 6 false x, SV.int .i64 true 6, SV.iface 117 Q4] 3 97) (SB.cells [SV.slc 4 0 6 false x, SV.int .i64 false y, errW y] 3 97) ∧
 SBle Q1 Q1 ∧
 SBle Q2 Q2 ∧
 SBle (SB.cells (strs6 s) x 9) (SB.cells (strs6 s) x 9) ∧
 SBle Q0 Q0 ∧
 True)))) ∧
 (cutB (itemAt (cutIn s) 5) = false →
 ∃ (y : Int), getNoticeB s = false ∧
 SBle (SB.cells [SV.slc 4 0 6 false x, SV.int .i64 true 6, SV.iface 117 Q4] 3 97) (SB.cells [SV.slc 4 0 6 false x, SV.int .i64 false y, errW y] 3 97) ∧
 SBle Q1 Q1 ∧
 SBle Q2 Q2 ∧
 SBle (SB.cells (strs6 s) x 9) (SB.cells (strs6 s) x 9) ∧
 SBle Q0 Q0 ∧
 True)) ∧
 (∀ (x : Nat), itemsN (cutIn (itOf s 5)) ≤ x →
 (((True ∧
 True ∧
 True ∧
 True ∧
 (false = false ∧
 (0 : Nat) + itemsN (cutIn (itOf s 5)) ≤ itemsN (cutIn (itOf s 5))) ∧
 True) ∧
 True) ∧
 True) ∧
 ({ s := numI (itOf s 1), e := numI (itOf s 2), b := numI (itOf s 3), root := cutIn (itOf s 4), n := itemsN (cutIn (itOf s 5)), f := fun (i : Nat) => cutIn (subOf (itOf s 5) i 0), g := fun (i : Nat) => cutIn (subOf (itOf s 5) i 1), h := fun (i : Nat) => decide (numI (subOf (itOf s 5) i 2) = (1 : Int)) : Nt }.ok = true →
 ((!decide (numI (itOf s 0) = (2 : Int))) = true →
 (getNoticeB s = true →
 ∃ (x : Nat), itemsN (cutIn (itOf s 5)) ≤ x ∧
 False) ∧
 (getNoticeB s = false →
 sameVal Q5 Q9)) ∧
 ((!decide (numI (itOf s 0) = (2 : Int))) = false →
 ((!decide ({ s := numI (itOf s 1), e := numI (itOf s 2), b := numI (itOf s 3), root := cutIn (itOf s 4), n := itemsN (cutIn (itOf s 5)), f := fun (i : Nat) => cutIn (subOf (itOf s 5) i 0), g := fun (i : Nat) => cutIn (subOf (itOf s 5) i 1), h := fun (i : Nat) => decide (numI (subOf (itOf s 5) i 2) = (1 : Int)) : Nt }.put = s)) = true →
 (getNoticeB s = true →
 ∃ (x : Nat), itemsN (cutIn (itOf s 5)) ≤ x ∧
 False) ∧
 (getNoticeB s = false →
 sameVal Q5 Q9)) ∧
 ((!decide ({ s := numI (itOf s 1), e := numI (itOf s 2), b := numI (itOf s 3), root := cutIn (itOf s 4), n := itemsN (cutIn (itOf s 5)), f := fun (i : Nat) => cutIn (subOf (itOf s 5) i 0), g := fun (i : Nat) => cutIn (subOf (itOf s 5) i 1), h := fun (i : Nat) => decide (numI (subOf (itOf s 5) i 2) = (1 : Int)) : Nt }.put = s)) = false →
 (getNoticeB s = true →
 ∃ (x_15 : Nat), itemsN (cutIn (itOf s 5)) ≤ x_15 ∧
 SBle (SB.rows false (itemsN (cutIn (itOf s 5))) (colsC (fun (i : Nat) => cutIn (subOf (itOf s 5) i 0)) (fun (i : Nat) => cutIn (subOf (itOf s 5) i 1)) fun (i : Nat) => decide (numI (subOf (itOf s 5) i 2) = (1 : Int))) false (x * (3 : Nat)) 54) (SB.rows false (itemsN (cutIn (itOf s 5))) (colsC (fun (i : Nat) => cutIn (subOf (itOf s 5) i 0)) (fun (i : Nat) => cutIn (subOf (itOf s 5) i 1)) fun (i : Nat) => decide (numI (subOf (itOf s 5) i 2) = (1 : Int))) false (x_15 * (3 : Nat)) 54) ∧
 sameVal (SV.tup [SV.agg [SV.int .i64 false (numI (itOf s 1)), SV.int .i64 false (numI (itOf s 2)), SV.int .i64 false (numI (itOf s 3)), SV.str false (cutIn (itOf s 4)), SV.rslc ((0 : Nat) + (1 : Nat) + (1 : Nat) + (1 : Nat) + (2 : Nat) + (0 : Nat) + (0 : Nat) + (0 : Nat) + (0 : Nat)) 3 false 0 (itemsN (cutIn (itOf s 5))) x], SV.int .i64 true 0]) (SV.tup [(noticeD s).sv (SV.rslc ((0 : Nat) + (1 : Nat) + (1 : Nat) + (1 : Nat) + (2 : Nat) + (0 : Nat) + (0 : Nat) + (0 : Nat) + (0 : Nat)) 3 false 0 (itemsN (cutIn (itOf s 5))) x_15), SV.int .i64 true 0])) ∧
 (getNoticeB s = false →
 sameVal (SV.tup [SV.agg [SV.int .i64 false (numI (itOf s 1)), SV.int .i64 false (numI (itOf s 2)), SV.int .i64 false (numI (itOf s 3)), SV.str false (cutIn (itOf s 4)), SV.rslc ((0 : Nat) + (1 : Nat) + (1 : Nat) + (1 : Nat) + (2 : Nat) + (0 : Nat) + (0 : Nat) + (0 : Nat) + (0 : Nat)) 3 false 0 (itemsN (cutIn (itOf s 5))) x], SV.int .i64 true 0]) Q9)))) ∧
 ({ s := numI (itOf s 1), e := numI (itOf s 2), b := numI (itOf s 3), root := cutIn (itOf s 4), n := itemsN (cutIn (itOf s 5)), f := fun (i : Nat) => cutIn (subOf (itOf s 5) i 0), g := fun (i : Nat) => cutIn (subOf (itOf s 5) i 1), h := fun (i : Nat) => decide (numI (subOf (itOf s 5) i 2) = (1 : Int)) : Nt }.ok = false →
 (getNoticeB s = true →
 ∃ (x : Nat), itemsN (cutIn (itOf s 5)) ≤ x ∧
 False) ∧
 (getNoticeB s = false →
 sameVal Q5 Q9))) ∧
 ∀ (_x : Int), getNoticeB s = false →
 (getNoticeB s = true →
 ∃ (x : Nat), itemsN (cutIn (itOf s 5)) ≤ x ∧
 False) ∧
 (getNoticeB s = false →
 sameVal Q5 Q9)) ∧
 ∀ (_x : Int × List UInt8), getNoticeB s = false →
 (0 : Nat) < (1152921504606846976 : Nat) ∧
 (getNoticeB s = true →
 ∃ (x : Nat), itemsN (cutIn (itOf s 5)) ≤ x ∧
 False) ∧
 (getNoticeB s = false →
 sameVal Q5 Q9)) ∧
 ∀ (_x : Int × Int), getNoticeB s = false →
 (0 : Nat) < (1152921504606846976 : Nat) ∧
 (0 : Nat) < (1152921504606846976 : Nat) ∧
 (getNoticeB s = true →
 ∃ (x : Nat), itemsN (cutIn (itOf s 5)) ≤ x ∧
 False) ∧
 (getNoticeB s = false →
 sameVal Q5 Q9)) ∧
 ∀ (_x : Int × Int), getNoticeB s = false →
 (0 : Nat) < (1152921504606846976 : Nat) ∧
 (0 : Nat) < (1152921504606846976 : Nat) ∧
 (0 : Nat) < (1152921504606846976 : Nat) ∧
 (getNoticeB s = true →
 ∃ (x : Nat), itemsN (cutIn (itOf s 5)) ≤ x ∧
 False) ∧
 (getNoticeB s = false →
 sameVal Q5 Q9)) ∧
 ∀ (_x : Int × Int × Int), getNoticeB s = false →
 (0 : Nat) < (1152921504606846976 : Nat) ∧
 (0 : Nat) < (1152921504606846976 : Nat) ∧
 (0 : Nat) < (1152921504606846976 : Nat) ∧
 (0 : Nat) < (1152921504606846976 : Nat) ∧
 (getNoticeB s = true →
 ∃ (x : Nat), itemsN (cutIn (itOf s 5)) ≤ x ∧
 False) ∧
 (getNoticeB s = false →
 sameVal Q5 Q9)) ∧
 ∀ (_x : Unit), getNoticeB s = false →
 (0 : Nat) < (1152921504606846976 : Nat) ∧
 (0 : Nat) < (1152921504606846976 : Nat) ∧
 (0 : Nat) < (1152921504606846976 : Nat) ∧
 (0 : Nat) < (1152921504606846976 : Nat) ∧
 (0 : Nat) < (1152921504606846976 : Nat) ∧
 (0 : Nat) < (1152921504606846976 : Nat) ∧
 (getNoticeB s = true →
 ∃ (x : Nat), itemsN (cutIn (itOf s 5)) ≤ x ∧
 False) ∧
 (getNoticeB s = false →
 sameVal Q5 Q9))) (SV.tup [noNotice, SV.int .i64 true 2]))) (SB.cells (SV.int .i64 true 0).cells 1 3))) (SB.cells [SV.int .i64 false (numI (itOf s 1)), SV.int .i64 false (numI (itOf s 2)), SV.int .i64 false (numI (itOf s 3)), SV.str true [], SV.nilslc] 5 30))) (SB.cells [SV.nilslc, SV.int .i64 true 0, SV.iface 117 (SV.agg [SV.int .i64 true 0, SV.iface 24 (SV.int .i64 true 2)])] 3 97))) (SV.tup [SV.agg [SV.int .i64 true 0, SV.int .i64 true 0, SV.int .i64 true 0, SV.str true [], SV.nilslc], SV.int .i64 true 2]))) (SV.agg [SV.int .i64 true 6, SV.iface 24 (SV.int .i64 true 2)]))) (SV.agg [SV.int .i64 true 0, SV.int .i64 true 0, SV.int .i64 true 0, SV.str true [], SV.nilslc]))) (SB.cells [SV.int .i64 false (numI (itOf s 0))] 1 3))) (SB.cells [SV.int .i64 false (numI (itOf s 1)), SV.int .i64 false (numI (itOf s 2)), SV.int .i64 false (numI (itOf s 3)), SV.str false (cutIn (itOf s 4)), SV.nilslc] 5 30))) (SB.cells (SV.agg [SV.int .i64 true 0, SV.int .i64 true 0, SV.int .i64 true 0, SV.str true [], SV.nilslc]).cells 5 30)) := by kernel_rfl
end Go.Proofs.YtocikfhejpilaaaGreatDoor
