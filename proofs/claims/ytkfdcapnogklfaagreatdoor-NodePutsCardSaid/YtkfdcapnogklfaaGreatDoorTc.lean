/-
  The reference's nodes: the set-up.
-/
import Derived.Test.YtkfdcapnogklfaaGreatDoorTa
namespace Go.Proofs.YtkfdcapnogklfaaGreatDoor
open Go Sx
set_option maxRecDepth 20000
noncomputable def cfgD0 : Cfg := { cfg0 with summ := fun f => lookPT f listA4 }
theorem goodD0 : Sx.Good Tryz.prog cfgD0 := ⟨mixes, listA4_ok, fns_ok⟩
def inItem (t : List UInt8) : List UInt8 := bif cutB t then cutIn t else []
def rtextSpec : List SV → Option (Prop × SV)
  | [.str false t] => some (t.length < 9223372036854775808, .str false (inItem t))
  | _ => none
noncomputable def listD0 : List (FuncId × PT) := (17, ansPT hashSpec) :: (59, purePT rtextSpec) :: listA4
noncomputable def listD1 (L : Nat) : List (FuncId × PT) := (19, ansPT (inlSpec L)) :: listD0
noncomputable def cfgD1 (L : Nat) : Cfg := { cfg0 with summ := fun f => lookPT f (listD1 L) }
def refersSpec (L : Nat) : List SV → Option (Prop × SV)
  | [.str false t] => some (Rel L t, .bool false (mayW inlB t))
  | _ => none
noncomputable def listD2 (L : Nat) : List (FuncId × PT) := (26, purePT (refersSpec L)) :: listD1 L
noncomputable def annSome (x : Nd) : LoopAnn :=
  { α := Nat, pre := fun _ i => i ≤ 16, mea := fun _ i => 16 - i, fresh := 0, slots := fun _ i => [(3, .int .i64 false (fullN x.r i)), (4, .int .i64 false i)], mem := fun _ _ => [] }
noncomputable def annMay (x : Nd) : LoopAnn :=
  { α := Nat, pre := fun _ i => i ≤ 16 ∧ mays inlB x.r i = true, mea := fun _ i => 16 - i, fresh := 0, slots := fun _ i => [(7, .int .i64 false i)], mem := fun _ _ => [] }
noncomputable def cfgDV (L : Nat) (x : Nd) : Cfg := { cfg0 with summ := fun f => lookPT f (listD2 L), anns := fun f => if f = 9 then [(3, always (annSome x)), (17, always (annMay x))] else [] }
noncomputable def annRow (x : Nd) : LoopAnn :=
  { α := Nat × Nat, pre := fun _ g => g.1 ≤ 16 ∧ g.1 ≤ g.2, mea := fun _ g => 16 - g.1, fresh := 1, slots := fun st g => [(6, .rslc st.nx 1 true 0 g.1 g.2), (7, .int .i64 false g.1)],
    mem := fun st g => [(st.nx, .rows true g.1 [.str (brI x.r 16)] false g.2 9)] }
noncomputable def cfgDB (x : Nd) : Cfg := { cfg0 with summ := fun f => lookPT f listD0, anns := fun f => if f = 24 then [(12, always (annRow x))] else [] }
noncomputable def listD3 (L : Nat) : List (FuncId × PT) := (9, purePT (ndSpec fun x => some (RelR L x.r ∧ x.p.length < 1152921504606846976, .bool false (validB x)))) :: (24, purePT (ndSpec fun x => some ((0 ≤ x.k ∧ x.k ≤ 3) ∧ x.Few, .str false (putT x)))) :: listD1 L
noncomputable def cfgD3 (L : Nat) : Cfg := { cfg0 with summ := fun f => lookPT f (listD3 L) }
noncomputable def listD4 (L : Nat) : List (FuncId × PT) := (8, ansPT (ndSpecA fun x => some (RelR L x.r ∧ x.p.length < 1152921504606846976, putA x))) :: listD3 L
noncomputable def annRd4 (s : List UInt8) : LoopAnn :=
  { α := Nat, pre := fun _ i => i ≤ 16, mea := fun _ i => 16 - i, fresh := 0, slots := fun _ i => [(14, .int .i64 false i)],
    mem := fun st i => match slot st.tmps 4 with
      | some (.ptr k _ _) => [(k, .cells (rdCells (cutIn s) i) 19 25)]
      | _ => [] }
noncomputable def cfgDR (L : Nat) (s : List UInt8) : Cfg := { cfg0 with summ := fun f => lookPT f (listD4 L), anns := fun f => if f = 33 then [(21, always (annRd4 s))] else [] }
def readR (s : List UInt8) : Ans := .fork (getB' s) fun b => match b with
  | true => .ret (.tup [(getD s).sv, .bool true true])
  | false => .ret (.tup [zeroN, .bool true false])
def readRSpec (L : Nat) : List SV → Option (Prop × Ans)
  | [.str false s] => some (s.length ≤ L ∧ s.length < 9223372036854775808, readR s)
  | _ => none
noncomputable def listD5 (L : Nat) : List (FuncId × PT) := (33, ansPT (readRSpec L)) :: listD4 L
noncomputable def cfgD5 (L : Nat) : Cfg := { cfg0 with summ := fun f => lookPT f (listD5 L) }
noncomputable def cfgDNo : Cfg := { cfg0 with summ := fun f => lookPT f ((33, fun _ _ _ _ => .fail "not to be called") :: listD0) }
end Go.Proofs.YtkfdcapnogklfaaGreatDoor
/-
  Conditions that the executor computes, written out by a program (vcgen.py).
-/
namespace Go.Proofs.YtkfdcapnogklfaaGreatDoor
open Go Sx
set_option maxRecDepth 20000
theorem vcDHash (t : List UInt8) : VC.holds (runA cfgD0 17 Tryz.f17 [.str false t] (hashA t)) = (((!decide ((↑t.length : Int) = (33 : Int))) = true →
 (hashB t = true →
 sameVal (SV.tup [SV.str true [], SV.bool true false]) (SV.tup [SV.str false (cutIn t), SV.bool true true])) ∧
 (hashB t = false →
 sameVal (SV.tup [SV.str true [], SV.bool true false]) (SV.tup [SV.str true [], SV.bool true false]))) ∧
 ((!decide ((↑t.length : Int) = (33 : Int))) = false →
 ((0 : Int) ≤ (0 : Int) ∧
 (0 : Int) < (↑t.length : Int)) ∧
 ((!decide (byteAt t (0 : Int) = (160 : Int))) = true →
 (hashB t = true →
 sameVal (SV.tup [SV.str true [], SV.bool true false]) (SV.tup [SV.str false (cutIn t), SV.bool true true])) ∧
 (hashB t = false →
 sameVal (SV.tup [SV.str true [], SV.bool true false]) (SV.tup [SV.str true [], SV.bool true false]))) ∧
 ((!decide (byteAt t (0 : Int) = (160 : Int))) = false →
 ((0 : Int) ≤ (1 : Int) ∧
 (1 : Int) ≤ (↑t.length : Int) ∧
 (↑t.length : Int) ≤ (↑t.length : Int)) ∧
 (hashB t = true →
 sameVal (SV.tup [SV.str (false && true && false) (subStr t (some (Operand.const (Value.int IntKind.i64 1))) none 1 (↑t.length : Int)), SV.bool true true]) (SV.tup [SV.str false (cutIn t), SV.bool true true])) ∧
 (hashB t = false →
 sameVal (SV.tup [SV.str (false && true && false) (subStr t (some (Operand.const (Value.int IntKind.i64 1))) none 1 (↑t.length : Int)), SV.bool true true]) (SV.tup [SV.str true [], SV.bool true false]))))) := by kernel_rfl
theorem vcDText (t : List UInt8) (R : SV → Prop) : VC.holds (runP cfgD0 59 Tryz.f59 [.str false t] R) = (t.length < (9223372036854775808 : Nat) ∧
 (cutB t = true →
 R (SV.str false (cutIn t))) ∧
 (cutB t = false →
 R (SV.str true []))) := by kernel_rfl
theorem vcDRefers (L : Nat) (t : List UInt8) (R : SV → Prop) : VC.holds (runP (cfgD1 L) 26 Tryz.f26 [.str false t] R) = (t.length < (9223372036854775808 : Nat) ∧
 (hashB t = true →
 Rel L t ∧
 (inlB t = true →
 R (SV.bool true true)) ∧
 (inlB t = false →
 R (SV.bool true true))) ∧
 (hashB t = false →
 Rel L t ∧
 (inlB t = true →
 R (SV.bool true true)) ∧
 (inlB t = false →
 R (SV.bool true false)))) := by kernel_rfl
theorem vcDValid (L : Nat) (x : Nd) (R : SV → Prop) : VC.holds (runP (cfgDV L x) 9 Tryz.f9 [x.sv] R) = ((∃ (y : Nat), y ≤ (16 : Nat) ∧
 (0 : Int) = fullN x.r y ∧
 (0 : Int) = (↑y : Int) ∧
 SBle (SB.cells x.sv.cells 19 25) (SB.cells x.sv.cells 19 25) ∧
 True) ∧
 ∀ (x_1 : Nat), x_1 ≤ (16 : Nat) →
 (decide ((↑x_1 : Int) < (16 : Int)) = true →
 ((0 : Int) ≤ (↑x_1 : Int) ∧
 (↑x_1 : Int) < (16 : Int)) ∧
 (↑x_1 : Int).toNat < (16 : Nat) ∧
 ((!decide (selS [x.r 0, x.r 1, x.r 2, x.r 3, x.r 4, x.r 5, x.r 6, x.r 7, x.r 8, x.r 9, x.r 10, x.r 11, x.r 12, x.r 13, x.r 14, x.r 15] (↑x_1 : Int).toNat = [])) = true →
 ((-9223372036854775808 : Int) ≤ fullN x.r x_1 + (1 : Int) ∧
 fullN x.r x_1 + (1 : Int) ≤ (9223372036854775807 : Int)) ∧
 ((-9223372036854775808 : Int) ≤ (↑x_1 : Int) + (1 : Int) ∧
 (↑x_1 : Int) + (1 : Int) ≤ (9223372036854775807 : Int)) ∧
 ∃ (y : Nat), (y ≤ (16 : Nat) ∧
 (16 : Nat) - y < (16 : Nat) - x_1) ∧
 fullN x.r x_1 + (1 : Int) = fullN x.r y ∧
 (↑x_1 : Int) + (1 : Int) = (↑y : Int) ∧
 SBle (SB.cells x.sv.cells 19 25) (SB.cells x.sv.cells 19 25) ∧
 True) ∧
 ((!decide (selS [x.r 0, x.r 1, x.r 2, x.r 3, x.r 4, x.r 5, x.r 6, x.r 7, x.r 8, x.r 9, x.r 10, x.r 11, x.r 12, x.r 13, x.r 14, x.r 15] (↑x_1 : Int).toNat = [])) = false →
 ((-9223372036854775808 : Int) ≤ (↑x_1 : Int) + (1 : Int) ∧
 (↑x_1 : Int) + (1 : Int) ≤ (9223372036854775807 : Int)) ∧
 ∃ (y : Nat), (y ≤ (16 : Nat) ∧
 (16 : Nat) - y < (16 : Nat) - x_1) ∧
 fullN x.r x_1 = fullN x.r y ∧
 (↑x_1 : Int) + (1 : Int) = (↑y : Int) ∧
 SBle (SB.cells x.sv.cells 19 25) (SB.cells x.sv.cells 19 25) ∧
 True)) ∧
 (decide ((↑x_1 : Int) < (16 : Int)) = false →
 (decide (x.k = (0 : Int)) = true →
 R (SV.bool (false && true && (false && true && (false && true && (false && true && (false && true && (false && true && (false && true && (false && true && (false && true && (false && true && (false && true && (false && true && (false && true && (false && true && (false && true && (false && true && (false && true && (false && true && (false && true && true))))))))))))))) && true)))) (decide (x.k = (0 : Int)) && (decide (x.p = []) && (decide (x.v = []) && (decide (x.r (0 : Nat) = []) && (decide (x.r (1 : Nat) = []) && (decide (x.r (2 : Nat) = []) && (decide (x.r (3 : Nat) = []) && (decide (x.r (4 : Nat) = []) && (decide (x.r (5 : Nat) = []) && (decide (x.r (6 : Nat) = []) && (decide (x.r (7 : Nat) = []) && (decide (x.r (8 : Nat) = []) && (decide (x.r (9 : Nat) = []) && (decide (x.r (10 : Nat) = []) && (decide (x.r (11 : Nat) = []) && (decide (x.r (12 : Nat) = []) && (decide (x.r (13 : Nat) = []) && (decide (x.r (14 : Nat) = []) && (decide (x.r (15 : Nat) = []) && true))))))))))))))) && true)))))) ∧
 (decide (x.k = (0 : Int)) = false →
 (decide (x.k = (1 : Int)) = true →
 x.p.length < (1152921504606846976 : Nat) ∧
 (nibB x.p = true →
 (decide ((↑x.p.length : Int) ≤ (12 : Int)) = true →
 (decide ((1 : Int) ≤ (↑x.v.length : Int)) = true →
 (decide ((↑x.v.length : Int) ≤ (80 : Int)) = true →
 R (SV.bool (false && true) (decide (fullN x.r x_1 = (0 : Int))))) ∧
 (decide ((↑x.v.length : Int) ≤ (80 : Int)) = false →
 R (SV.bool true false))) ∧
 (decide ((1 : Int) ≤ (↑x.v.length : Int)) = false →
 R (SV.bool true false))) ∧
 (decide ((↑x.p.length : Int) ≤ (12 : Int)) = false →
 R (SV.bool true false))) ∧
 (nibB x.p = false →
 R (SV.bool true false))) ∧
 (decide (x.k = (1 : Int)) = false →
 (decide (x.k = (2 : Int)) = true →
 Rel L (x.r 0) ∧
 (inlB (x.r 0) = true →
 x.p.length < (1152921504606846976 : Nat) ∧
 (nibB x.p = true →
 (decide ((↑x.p.length : Int) ≤ (12 : Int)) = true →
 ((!decide (x.p = [])) = true →
 (decide (x.v = []) = true →
 (decide (fullN x.r x_1 = (1 : Int)) = true →
 Rel L (x.r 0) ∧
 (mayW inlB (x.r 0) = true →
 R (SV.bool (false && true) (decide ((getD (x.r 0)).k = (3 : Int))))) ∧
 (mayW inlB (x.r 0) = false →
 R (SV.bool true false))) ∧
 (decide (fullN x.r x_1 = (1 : Int)) = false →
 R (SV.bool true false))) ∧
 (decide (x.v = []) = false →
 R (SV.bool true false))) ∧
 ((!decide (x.p = [])) = false →
 R (SV.bool true false))) ∧
 (decide ((↑x.p.length : Int) ≤ (12 : Int)) = false →
 R (SV.bool true false))) ∧
 (nibB x.p = false →
 R (SV.bool true false))) ∧
 (inlB (x.r 0) = false →
 x.p.length < (1152921504606846976 : Nat) ∧
 (nibB x.p = true →
 (decide ((↑x.p.length : Int) ≤ (12 : Int)) = true →
 ((!decide (x.p = [])) = true →
 (decide (x.v = []) = true →
 (decide (fullN x.r x_1 = (1 : Int)) = true →
 Rel L (x.r 0) ∧
 (mayW inlB (x.r 0) = true →
 R (SV.bool true true)) ∧
 (mayW inlB (x.r 0) = false →
 R (SV.bool true false))) ∧
 (decide (fullN x.r x_1 = (1 : Int)) = false →
 R (SV.bool true false))) ∧
 (decide (x.v = []) = false →
 R (SV.bool true false))) ∧
 ((!decide (x.p = [])) = false →
 R (SV.bool true false))) ∧
 (decide ((↑x.p.length : Int) ≤ (12 : Int)) = false →
 R (SV.bool true false))) ∧
 (nibB x.p = false →
 R (SV.bool true false)))) ∧
 (decide (x.k = (2 : Int)) = false →
 (decide (x.k = (3 : Int)) = true →
 (∃ (y : Nat), (y ≤ (16 : Nat) ∧
 mays inlB x.r y = true) ∧
 (0 : Int) = (↑y : Int) ∧
 SBle (SB.cells x.sv.cells 19 25) (SB.cells x.sv.cells 19 25) ∧
 True) ∧
 ∀ (x_8 : Nat), x_8 ≤ (16 : Nat) ∧
 mays inlB x.r x_8 = true →
 (decide ((↑x_8 : Int) < (16 : Int)) = true →
 ((0 : Int) ≤ (↑x_8 : Int) ∧
 (↑x_8 : Int) < (16 : Int)) ∧
 (↑x_8 : Int).toNat < (16 : Nat) ∧
 ((!decide (selS [x.r 0, x.r 1, x.r 2, x.r 3, x.r 4, x.r 5, x.r 6, x.r 7, x.r 8, x.r 9, x.r 10, x.r 11, x.r 12, x.r 13, x.r 14, x.r 15] (↑x_8 : Int).toNat = [])) = true →
 ((0 : Int) ≤ (↑x_8 : Int) ∧
 (↑x_8 : Int) < (16 : Int)) ∧
 (↑x_8 : Int).toNat < (16 : Nat) ∧
 Rel L (selS [x.r 0, x.r 1, x.r 2, x.r 3, x.r 4, x.r 5, x.r 6, x.r 7, x.r 8, x.r 9, x.r 10, x.r 11, x.r 12, x.r 13, x.r 14, x.r 15] (↑x_8 : Int).toNat) ∧
 ((!mayW inlB (selS [x.r 0, x.r 1, x.r 2, x.r 3, x.r 4, x.r 5, x.r 6, x.r 7, x.r 8, x.r 9, x.r 10, x.r 11, x.r 12, x.r 13, x.r 14, x.r 15] (↑x_8 : Int).toNat)) = true →
 R (SV.bool true false)) ∧
 ((!mayW inlB (selS [x.r 0, x.r 1, x.r 2, x.r 3, x.r 4, x.r 5, x.r 6, x.r 7, x.r 8, x.r 9, x.r 10, x.r 11, x.r 12, x.r 13, x.r 14, x.r 15] (↑x_8 : Int).toNat)) = false →
 ((-9223372036854775808 : Int) ≤ (↑x_8 : Int) + (1 : Int) ∧
 (↑x_8 : Int) + (1 : Int) ≤ (9223372036854775807 : Int)) ∧
 ∃ (y : Nat), ((y ≤ (16 : Nat) ∧
 mays inlB x.r y = true) ∧
 (16 : Nat) - y < (16 : Nat) - x_8) ∧
 (↑x_8 : Int) + (1 : Int) = (↑y : Int) ∧
 SBle (SB.cells x.sv.cells 19 25) (SB.cells x.sv.cells 19 25) ∧
 True)) ∧
 ((!decide (selS [x.r 0, x.r 1, x.r 2, x.r 3, x.r 4, x.r 5, x.r 6, x.r 7, x.r 8, x.r 9, x.r 10, x.r 11, x.r 12, x.r 13, x.r 14, x.r 15] (↑x_8 : Int).toNat = [])) = false →
 ((-9223372036854775808 : Int) ≤ (↑x_8 : Int) + (1 : Int) ∧
 (↑x_8 : Int) + (1 : Int) ≤ (9223372036854775807 : Int)) ∧
 ∃ (y : Nat), ((y ≤ (16 : Nat) ∧
 mays inlB x.r y = true) ∧
 (16 : Nat) - y < (16 : Nat) - x_8) ∧
 (↑x_8 : Int) + (1 : Int) = (↑y : Int) ∧
 SBle (SB.cells x.sv.cells 19 25) (SB.cells x.sv.cells 19 25) ∧
 True)) ∧
 (decide ((↑x_8 : Int) < (16 : Int)) = false →
 ((!decide (x.v = [])) = true →
 ((-9223372036854775808 : Int) ≤ fullN x.r x_1 + (1 : Int) ∧
 fullN x.r x_1 + (1 : Int) ≤ (9223372036854775807 : Int)) ∧
 (decide (x.p = []) = true →
 (decide ((↑x.v.length : Int) ≤ (80 : Int)) = true →
 R (SV.bool (false && true) (decide ((2 : Int) ≤ fullN x.r x_1 + (1 : Int))))) ∧
 (decide ((↑x.v.length : Int) ≤ (80 : Int)) = false →
 R (SV.bool true false))) ∧
 (decide (x.p = []) = false →
 R (SV.bool true false))) ∧
 ((!decide (x.v = [])) = false →
 (decide (x.p = []) = true →
 (decide ((↑x.v.length : Int) ≤ (80 : Int)) = true →
 R (SV.bool (false && true) (decide ((2 : Int) ≤ fullN x.r x_1)))) ∧
 (decide ((↑x.v.length : Int) ≤ (80 : Int)) = false →
 R (SV.bool true false))) ∧
 (decide (x.p = []) = false →
 R (SV.bool true false))))) ∧
 (decide (x.k = (3 : Int)) = false →
 R (SV.bool true false))))))) := by kernel_rfl
theorem vcDBytes (x : Nd) (R : SV → Prop) : VC.holds (runP (cfgDB x) 24 Tryz.f24 [x.sv] R) = ((decide (x.k = (1 : Int)) = true →
 (decide (x.k = (1 : Int)) = true →
 x.p.length < (1073741824 : Nat) ∧
 (nibB x.p = true →
 (decide (x.k = (1 : Int)) = true →
 x.v.length < (1152921504606846976 : Nat) ∧
 (nputL x.p (decide (x.k = (1 : Int)))).length < (1152921504606846976 : Nat) ∧
 (True ∧
 joinQ [textOf (nputL x.p (decide (x.k = (1 : Int)))), textOf x.v]) ∧
 R (SV.str false (headOf 192 (flat [textOf (nputL x.p (decide (x.k = (1 : Int)))), textOf x.v]).length ++ flat [textOf (nputL x.p (decide (x.k = (1 : Int)))), textOf x.v]))) ∧
 (decide (x.k = (1 : Int)) = false →
 (nputL x.p (decide (x.k = (1 : Int)))).length < (1152921504606846976 : Nat) ∧
 (True ∧
 joinQ [textOf (nputL x.p (decide (x.k = (1 : Int)))), x.r 0]) ∧
 R (SV.str false (headOf 192 (flat [textOf (nputL x.p (decide (x.k = (1 : Int)))), x.r 0]).length ++ flat [textOf (nputL x.p (decide (x.k = (1 : Int)))), x.r 0])))) ∧
 (nibB x.p = false →
 (decide (x.k = (1 : Int)) = true →
 x.v.length < (1152921504606846976 : Nat) ∧
 (0 : Nat) < (1152921504606846976 : Nat) ∧
 (True ∧
 joinQ [textOf [], textOf x.v]) ∧
 R (SV.str false (headOf 192 (flat [textOf [], textOf x.v]).length ++ flat [textOf [], textOf x.v]))) ∧
 (decide (x.k = (1 : Int)) = false →
 (0 : Nat) < (1152921504606846976 : Nat) ∧
 (True ∧
 joinQ [textOf [], x.r 0]) ∧
 R (SV.str false (headOf 192 (flat [textOf [], x.r 0]).length ++ flat [textOf [], x.r 0]))))) ∧
 (decide (x.k = (1 : Int)) = false →
 (decide (x.k = (3 : Int)) = true →
 (∃ (y : Nat × Nat), (y.fst ≤ (16 : Nat) ∧
 y.fst ≤ y.snd) ∧
 y.fst = (0 : Nat) ∧
 (0 : Int) = (↑y.fst : Int) ∧
 (SB.rows true y.fst [Col.str (brI x.r 16)] false y.snd 9).no = true ∧
 SBle (SB.cells x.sv.cells 19 25) (SB.cells x.sv.cells 19 25) ∧
 True) ∧
 ∀ (x_4 : Nat × Nat), x_4.fst ≤ (16 : Nat) ∧
 x_4.fst ≤ x_4.snd →
 (decide ((↑x_4.fst : Int) < (16 : Int)) = true →
 ((0 : Int) ≤ (↑x_4.fst : Int) ∧
 (↑x_4.fst : Int) < (16 : Int)) ∧
 (↑x_4.fst : Int).toNat < (16 : Nat) ∧
 (decide (selS [x.r 0, x.r 1, x.r 2, x.r 3, x.r 4, x.r 5, x.r 6, x.r 7, x.r 8, x.r 9, x.r 10, x.r 11, x.r 12, x.r 13, x.r 14, x.r 15] (↑x_4.fst : Int).toNat = []) = true →
 (0 : Nat) < (1152921504606846976 : Nat) ∧
 ((0 : Nat) + x_4.fst ≤ x_4.fst ∧
 True ∧
 (2 : Nat) * (x_4.fst + (1 : Nat)) * (16 : Nat) ≤ (281474976710656 : Nat) ∧
 x_4.fst + (1 : Nat) < (9223372036854775808 : Nat)) ∧
 x_4.snd = x_4.snd * (1 : Nat) ∧
 ∀ (c : Nat), x_4.fst + (1 : Nat) ≤ c →
 ((-9223372036854775808 : Int) ≤ (↑x_4.fst : Int) + (1 : Int) ∧
 (↑x_4.fst : Int) + (1 : Int) ≤ (9223372036854775807 : Int)) ∧
 ∃ (y : Nat × Nat), ((y.fst ≤ (16 : Nat) ∧
 y.fst ≤ y.snd) ∧
 (16 : Nat) - y.fst < (16 : Nat) - x_4.fst) ∧
 ((0 : Nat) = (0 : Nat) ∧
 x_4.fst + (1 : Nat) = y.fst ∧
 c = y.snd) ∧
 True ∧
 (↑x_4.fst : Int) + (1 : Int) = (↑y.fst : Int) ∧
 SBle (SB.rows true (x_4.fst + (1 : Nat)) [Col.str fun (j : Nat) => if j < x_4.fst then brI x.r 16 j else selS [textOf []] (j - x_4.fst)] false (c * (1 : Nat)) 9) (SB.rows true y.fst [Col.str (brI x.r 16)] false y.snd 9) ∧
 SBle (SB.cells x.sv.cells 19 25) (SB.cells x.sv.cells 19 25) ∧
 True) ∧
 (decide (selS [x.r 0, x.r 1, x.r 2, x.r 3, x.r 4, x.r 5, x.r 6, x.r 7, x.r 8, x.r 9, x.r 10, x.r 11, x.r 12, x.r 13, x.r 14, x.r 15] (↑x_4.fst : Int).toNat = []) = false →
 ((0 : Nat) + x_4.fst ≤ x_4.fst ∧
 True ∧
 (2 : Nat) * (x_4.fst + (1 : Nat)) * (16 : Nat) ≤ (281474976710656 : Nat) ∧
 x_4.fst + (1 : Nat) < (9223372036854775808 : Nat)) ∧
 x_4.snd = x_4.snd * (1 : Nat) ∧
 ∀ (c : Nat), x_4.fst + (1 : Nat) ≤ c →
 ((-9223372036854775808 : Int) ≤ (↑x_4.fst : Int) + (1 : Int) ∧
 (↑x_4.fst : Int) + (1 : Int) ≤ (9223372036854775807 : Int)) ∧
 ∃ (y : Nat × Nat), ((y.fst ≤ (16 : Nat) ∧
 y.fst ≤ y.snd) ∧
 (16 : Nat) - y.fst < (16 : Nat) - x_4.fst) ∧
 ((0 : Nat) = (0 : Nat) ∧
 x_4.fst + (1 : Nat) = y.fst ∧
 c = y.snd) ∧
 True ∧
 (↑x_4.fst : Int) + (1 : Int) = (↑y.fst : Int) ∧
 SBle (SB.rows true (x_4.fst + (1 : Nat)) [Col.str fun (j : Nat) => if j < x_4.fst then brI x.r 16 j else selS [selS [x.r 0, x.r 1, x.r 2, x.r 3, x.r 4, x.r 5, x.r 6, x.r 7, x.r 8, x.r 9, x.r 10, x.r 11, x.r 12, x.r 13, x.r 14, x.r 15] (↑x_4.fst : Int).toNat] (j - x_4.fst)] false (c * (1 : Nat)) 9) (SB.rows true y.fst [Col.str (brI x.r 16)] false y.snd 9) ∧
 SBle (SB.cells x.sv.cells 19 25) (SB.cells x.sv.cells 19 25) ∧
 True)) ∧
 (decide ((↑x_4.fst : Int) < (16 : Int)) = false →
 x.v.length < (1152921504606846976 : Nat) ∧
 ((0 : Nat) + x_4.fst ≤ x_4.fst ∧
 True ∧
 (2 : Nat) * (x_4.fst + (1 : Nat)) * (16 : Nat) ≤ (281474976710656 : Nat) ∧
 x_4.fst + (1 : Nat) < (9223372036854775808 : Nat)) ∧
 x_4.snd = x_4.snd * (1 : Nat) ∧
 ∀ (c : Nat), x_4.fst + (1 : Nat) ≤ c →
 ((true = true ∧
 (0 : Nat) + (x_4.fst + (1 : Nat)) ≤ x_4.fst + (1 : Nat)) ∧
 joinQ (rowL (fun (j : Nat) => if j < x_4.fst then brI x.r 16 j else selS [textOf x.v] (j - x_4.fst)) 0 (x_4.fst + (1 : Nat)))) ∧
 R (SV.str false (headOf 192 (flat (rowL (fun (j : Nat) => if j < x_4.fst then brI x.r 16 j else selS [textOf x.v] (j - x_4.fst)) 0 (x_4.fst + (1 : Nat)))).length ++ flat (rowL (fun (j : Nat) => if j < x_4.fst then brI x.r 16 j else selS [textOf x.v] (j - x_4.fst)) 0 (x_4.fst + (1 : Nat))))))) ∧
 (decide (x.k = (3 : Int)) = false →
 (0 : Nat) < (1152921504606846976 : Nat) ∧
 R (SV.str false (textOf []))))) ∧
 (decide (x.k = (1 : Int)) = false →
 (decide (x.k = (2 : Int)) = true →
 x.p.length < (1073741824 : Nat) ∧
 (nibB x.p = true →
 (decide (x.k = (1 : Int)) = true →
 x.v.length < (1152921504606846976 : Nat) ∧
 (nputL x.p (decide (x.k = (1 : Int)))).length < (1152921504606846976 : Nat) ∧
 (True ∧
 joinQ [textOf (nputL x.p (decide (x.k = (1 : Int)))), textOf x.v]) ∧
 R (SV.str false (headOf 192 (flat [textOf (nputL x.p (decide (x.k = (1 : Int)))), textOf x.v]).length ++ flat [textOf (nputL x.p (decide (x.k = (1 : Int)))), textOf x.v]))) ∧
 (decide (x.k = (1 : Int)) = false →
 (nputL x.p (decide (x.k = (1 : Int)))).length < (1152921504606846976 : Nat) ∧
 (True ∧
 joinQ [textOf (nputL x.p (decide (x.k = (1 : Int)))), x.r 0]) ∧
 R (SV.str false (headOf 192 (flat [textOf (nputL x.p (decide (x.k = (1 : Int)))), x.r 0]).length ++ flat [textOf (nputL x.p (decide (x.k = (1 : Int)))), x.r 0])))) ∧
 (nibB x.p = false →
 (decide (x.k = (1 : Int)) = true →
 x.v.length < (1152921504606846976 : Nat) ∧
 (0 : Nat) < (1152921504606846976 : Nat) ∧
 (True ∧
 joinQ [textOf [], textOf x.v]) ∧
 R (SV.str false (headOf 192 (flat [textOf [], textOf x.v]).length ++ flat [textOf [], textOf x.v]))) ∧
 (decide (x.k = (1 : Int)) = false →
 (0 : Nat) < (1152921504606846976 : Nat) ∧
 (True ∧
 joinQ [textOf [], x.r 0]) ∧
 R (SV.str false (headOf 192 (flat [textOf [], x.r 0]).length ++ flat [textOf [], x.r 0]))))) ∧
 (decide (x.k = (2 : Int)) = false →
 (decide (x.k = (3 : Int)) = true →
 (∃ (y : Nat × Nat), (y.fst ≤ (16 : Nat) ∧
 y.fst ≤ y.snd) ∧
 y.fst = (0 : Nat) ∧
 (0 : Int) = (↑y.fst : Int) ∧
 (SB.rows true y.fst [Col.str (brI x.r 16)] false y.snd 9).no = true ∧
 SBle (SB.cells x.sv.cells 19 25) (SB.cells x.sv.cells 19 25) ∧
 True) ∧
 ∀ (x_4 : Nat × Nat), x_4.fst ≤ (16 : Nat) ∧
 x_4.fst ≤ x_4.snd →
 (decide ((↑x_4.fst : Int) < (16 : Int)) = true →
 ((0 : Int) ≤ (↑x_4.fst : Int) ∧
 (↑x_4.fst : Int) < (16 : Int)) ∧
 (↑x_4.fst : Int).toNat < (16 : Nat) ∧
 (decide (selS [x.r 0, x.r 1, x.r 2, x.r 3, x.r 4, x.r 5, x.r 6, x.r 7, x.r 8, x.r 9, x.r 10, x.r 11, x.r 12, x.r 13, x.r 14, x.r 15] (↑x_4.fst : Int).toNat = []) = true →
 (0 : Nat) < (1152921504606846976 : Nat) ∧
 ((0 : Nat) + x_4.fst ≤ x_4.fst ∧
 True ∧
 (2 : Nat) * (x_4.fst + (1 : Nat)) * (16 : Nat) ≤ (281474976710656 : Nat) ∧
 x_4.fst + (1 : Nat) < (9223372036854775808 : Nat)) ∧
 x_4.snd = x_4.snd * (1 : Nat) ∧
 ∀ (c : Nat), x_4.fst + (1 : Nat) ≤ c →
 ((-9223372036854775808 : Int) ≤ (↑x_4.fst : Int) + (1 : Int) ∧
 (↑x_4.fst : Int) + (1 : Int) ≤ (9223372036854775807 : Int)) ∧
 ∃ (y : Nat × Nat), ((y.fst ≤ (16 : Nat) ∧
 y.fst ≤ y.snd) ∧
 (16 : Nat) - y.fst < (16 : Nat) - x_4.fst) ∧
 ((0 : Nat) = (0 : Nat) ∧
 x_4.fst + (1 : Nat) = y.fst ∧
 c = y.snd) ∧
 True ∧
 (↑x_4.fst : Int) + (1 : Int) = (↑y.fst : Int) ∧
 SBle (SB.rows true (x_4.fst + (1 : Nat)) [Col.str fun (j : Nat) => if j < x_4.fst then brI x.r 16 j else selS [textOf []] (j - x_4.fst)] false (c * (1 : Nat)) 9) (SB.rows true y.fst [Col.str (brI x.r 16)] false y.snd 9) ∧
 SBle (SB.cells x.sv.cells 19 25) (SB.cells x.sv.cells 19 25) ∧
 True) ∧
 (decide (selS [x.r 0, x.r 1, x.r 2, x.r 3, x.r 4, x.r 5, x.r 6, x.r 7, x.r 8, x.r 9, x.r 10, x.r 11, x.r 12, x.r 13, x.r 14, x.r 15] (↑x_4.fst : Int).toNat = []) = false →
 ((0 : Nat) + x_4.fst ≤ x_4.fst ∧
 True ∧
 (2 : Nat) * (x_4.fst + (1 : Nat)) * (16 : Nat) ≤ (281474976710656 : Nat) ∧
 x_4.fst + (1 : Nat) < (9223372036854775808 : Nat)) ∧
 x_4.snd = x_4.snd * (1 : Nat) ∧
 ∀ (c : Nat), x_4.fst + (1 : Nat) ≤ c →
 ((-9223372036854775808 : Int) ≤ (↑x_4.fst : Int) + (1 : Int) ∧
 (↑x_4.fst : Int) + (1 : Int) ≤ (9223372036854775807 : Int)) ∧
 ∃ (y : Nat × Nat), ((y.fst ≤ (16 : Nat) ∧
 y.fst ≤ y.snd) ∧
 (16 : Nat) - y.fst < (16 : Nat) - x_4.fst) ∧
 ((0 : Nat) = (0 : Nat) ∧
 x_4.fst + (1 : Nat) = y.fst ∧
 c = y.snd) ∧
 True ∧
 (↑x_4.fst : Int) + (1 : Int) = (↑y.fst : Int) ∧
 SBle (SB.rows true (x_4.fst + (1 : Nat)) [Col.str fun (j : Nat) => if j < x_4.fst then brI x.r 16 j else selS [selS [x.r 0, x.r 1, x.r 2, x.r 3, x.r 4, x.r 5, x.r 6, x.r 7, x.r 8, x.r 9, x.r 10, x.r 11, x.r 12, x.r 13, x.r 14, x.r 15] (↑x_4.fst : Int).toNat] (j - x_4.fst)] false (c * (1 : Nat)) 9) (SB.rows true y.fst [Col.str (brI x.r 16)] false y.snd 9) ∧
 SBle (SB.cells x.sv.cells 19 25) (SB.cells x.sv.cells 19 25) ∧
 True)) ∧
 (decide ((↑x_4.fst : Int) < (16 : Int)) = false →
 x.v.length < (1152921504606846976 : Nat) ∧
 ((0 : Nat) + x_4.fst ≤ x_4.fst ∧
 True ∧
 (2 : Nat) * (x_4.fst + (1 : Nat)) * (16 : Nat) ≤ (281474976710656 : Nat) ∧
 x_4.fst + (1 : Nat) < (9223372036854775808 : Nat)) ∧
 x_4.snd = x_4.snd * (1 : Nat) ∧
 ∀ (c : Nat), x_4.fst + (1 : Nat) ≤ c →
 ((true = true ∧
 (0 : Nat) + (x_4.fst + (1 : Nat)) ≤ x_4.fst + (1 : Nat)) ∧
 joinQ (rowL (fun (j : Nat) => if j < x_4.fst then brI x.r 16 j else selS [textOf x.v] (j - x_4.fst)) 0 (x_4.fst + (1 : Nat)))) ∧
 R (SV.str false (headOf 192 (flat (rowL (fun (j : Nat) => if j < x_4.fst then brI x.r 16 j else selS [textOf x.v] (j - x_4.fst)) 0 (x_4.fst + (1 : Nat)))).length ++ flat (rowL (fun (j : Nat) => if j < x_4.fst then brI x.r 16 j else selS [textOf x.v] (j - x_4.fst)) 0 (x_4.fst + (1 : Nat))))))) ∧
 (decide (x.k = (3 : Int)) = false →
 (0 : Nat) < (1152921504606846976 : Nat) ∧
 R (SV.str false (textOf [])))))) := by kernel_rfl
theorem vcDPut (L : Nat) (x : Nd) : VC.holds (runA (cfgD3 L) 8 Tryz.f8 [x.sv] (putA x)) = (((RelR L fun (i : Nat) => [x.r 0, x.r 1, x.r 2, x.r 3, x.r 4, x.r 5, x.r 6, x.r 7, x.r 8, x.r 9, x.r 10, x.r 11, x.r 12, x.r 13, x.r 14, x.r 15].getD i []) ∧
 x.p.length < (1152921504606846976 : Nat)) ∧
 ((!validB { k := x.k, p := x.p, v := x.v, r := fun (i : Nat) => [x.r 0, x.r 1, x.r 2, x.r 3, x.r 4, x.r 5, x.r 6, x.r 7, x.r 8, x.r 9, x.r 10, x.r 11, x.r 12, x.r 13, x.r 14, x.r 15].getD i [] : Nd }) = true →
 (validB x = true →
 sameVal (SV.tup [SV.str true [], SV.int .i64 true 1]) (SV.tup [SV.str false (putT x), SV.int .i64 true 0])) ∧
 (validB x = false →
 sameVal (SV.tup [SV.str true [], SV.int .i64 true 1]) (SV.tup [SV.str true [], SV.int .i64 true 1]))) ∧
 ((!validB { k := x.k, p := x.p, v := x.v, r := fun (i : Nat) => [x.r 0, x.r 1, x.r 2, x.r 3, x.r 4, x.r 5, x.r 6, x.r 7, x.r 8, x.r 9, x.r 10, x.r 11, x.r 12, x.r 13, x.r 14, x.r 15].getD i [] : Nd }) = false →
 (((0 : Int) ≤ x.k ∧
 x.k ≤ (3 : Int)) ∧
 { k := x.k, p := x.p, v := x.v, r := fun (i : Nat) => [x.r 0, x.r 1, x.r 2, x.r 3, x.r 4, x.r 5, x.r 6, x.r 7, x.r 8, x.r 9, x.r 10, x.r 11, x.r 12, x.r 13, x.r 14, x.r 15].getD i [] : Nd }.Few) ∧
 (validB x = true →
 sameVal (SV.tup [SV.str false (putT { k := x.k, p := x.p, v := x.v, r := fun (i : Nat) => [x.r 0, x.r 1, x.r 2, x.r 3, x.r 4, x.r 5, x.r 6, x.r 7, x.r 8, x.r 9, x.r 10, x.r 11, x.r 12, x.r 13, x.r 14, x.r 15].getD i [] : Nd }), SV.int .i64 true 0]) (SV.tup [SV.str false (putT x), SV.int .i64 true 0])) ∧
 (validB x = false →
 sameVal (SV.tup [SV.str false (putT { k := x.k, p := x.p, v := x.v, r := fun (i : Nat) => [x.r 0, x.r 1, x.r 2, x.r 3, x.r 4, x.r 5, x.r 6, x.r 7, x.r 8, x.r 9, x.r 10, x.r 11, x.r 12, x.r 13, x.r 14, x.r 15].getD i [] : Nd }), SV.int .i64 true 0]) (SV.tup [SV.str true [], SV.int .i64 true 1])))) := by kernel_rfl
theorem vcDInline (L : Nat) (t : List UInt8) : VC.holds (runA (cfgD5 L) 19 Tryz.f19 [.str false t] (inlA t)) = ((fun Q0 : SV => ((decide ((32 : Int) ≤ (↑t.length : Int)) = true →
 (inlB t = true →
 sameVal Q0 (SV.tup [(getD t).sv, SV.bool true true])) ∧
 (inlB t = false →
 sameVal Q0 (SV.tup [zeroN, SV.bool true false]))) ∧
 (decide ((32 : Int) ≤ (↑t.length : Int)) = false →
 (t.length ≤ L ∧
 t.length < (9223372036854775808 : Nat)) ∧
 (getB' t = true →
 (decide ((getD t).k = (0 : Int)) = true →
 (inlB t = true →
 sameVal Q0 (SV.tup [(getD t).sv, SV.bool true true])) ∧
 (inlB t = false →
 sameVal Q0 (SV.tup [zeroN, SV.bool true false]))) ∧
 (decide ((getD t).k = (0 : Int)) = false →
 (inlB t = true →
 sameVal (SV.tup [SV.agg [SV.int .i64 false (getD t).k, SV.str false (getD t).p, SV.str false (getD t).v, SV.str false ((getD t).r 0), SV.str false ((getD t).r 1), SV.str false ((getD t).r 2), SV.str false ((getD t).r 3), SV.str false ((getD t).r 4), SV.str false ((getD t).r 5), SV.str false ((getD t).r 6), SV.str false ((getD t).r 7), SV.str false ((getD t).r 8), SV.str false ((getD t).r 9), SV.str false ((getD t).r 10), SV.str false ((getD t).r 11), SV.str false ((getD t).r 12), SV.str false ((getD t).r 13), SV.str false ((getD t).r 14), SV.str false ((getD t).r 15)], SV.bool true true]) (SV.tup [(getD t).sv, SV.bool true true])) ∧
 (inlB t = false →
 sameVal (SV.tup [SV.agg [SV.int .i64 false (getD t).k, SV.str false (getD t).p, SV.str false (getD t).v, SV.str false ((getD t).r 0), SV.str false ((getD t).r 1), SV.str false ((getD t).r 2), SV.str false ((getD t).r 3), SV.str false ((getD t).r 4), SV.str false ((getD t).r 5), SV.str false ((getD t).r 6), SV.str false ((getD t).r 7), SV.str false ((getD t).r 8), SV.str false ((getD t).r 9), SV.str false ((getD t).r 10), SV.str false ((getD t).r 11), SV.str false ((getD t).r 12), SV.str false ((getD t).r 13), SV.str false ((getD t).r 14), SV.str false ((getD t).r 15)], SV.bool true true]) (SV.tup [zeroN, SV.bool true false])))) ∧
 (getB' t = false →
 (inlB t = true →
 sameVal Q0 (SV.tup [(getD t).sv, SV.bool true true])) ∧
 (inlB t = false →
 sameVal Q0 (SV.tup [zeroN, SV.bool true false])))))) (SV.tup [SV.agg [SV.int .i64 true 0, SV.str true [], SV.str true [], SV.str true [], SV.str true [], SV.str true [], SV.str true [], SV.str true [], SV.str true [], SV.str true [], SV.str true [], SV.str true [], SV.str true [], SV.str true [], SV.str true [], SV.str true [], SV.str true [], SV.str true [], SV.str true []], SV.bool true false])) := by kernel_rfl
theorem vcDInline0 (t : List UInt8) : VC.holds (runA cfgDNo 19 Tryz.f19 [.str false t] (inlA t)) = ((decide ((32 : Int) ≤ (↑t.length : Int)) = true →
 (inlB t = true →
 sameVal (SV.tup [SV.agg [SV.int .i64 true 0, SV.str true [], SV.str true [], SV.str true [], SV.str true [], SV.str true [], SV.str true [], SV.str true [], SV.str true [], SV.str true [], SV.str true [], SV.str true [], SV.str true [], SV.str true [], SV.str true [], SV.str true [], SV.str true [], SV.str true [], SV.str true []], SV.bool true false]) (SV.tup [(getD t).sv, SV.bool true true])) ∧
 (inlB t = false →
 sameVal (SV.tup [SV.agg [SV.int .i64 true 0, SV.str true [], SV.str true [], SV.str true [], SV.str true [], SV.str true [], SV.str true [], SV.str true [], SV.str true [], SV.str true [], SV.str true [], SV.str true [], SV.str true [], SV.str true [], SV.str true [], SV.str true [], SV.str true [], SV.str true [], SV.str true []], SV.bool true false]) (SV.tup [zeroN, SV.bool true false]))) ∧
 (decide ((32 : Int) ≤ (↑t.length : Int)) = false →
 False)) := by kernel_rfl
theorem vcDGet (L : Nat) (s : List UInt8) : VC.holds (runA (cfgD5 L) 15 Tryz.f15 [.str false s] (getA' s)) = ((s.length ≤ L ∧
 s.length < (9223372036854775808 : Nat)) ∧
 (getB' s = true →
 (getB' s = true →
 sameVal (SV.tup [SV.agg [SV.int .i64 false (getD s).k, SV.str false (getD s).p, SV.str false (getD s).v, SV.str false ((getD s).r 0), SV.str false ((getD s).r 1), SV.str false ((getD s).r 2), SV.str false ((getD s).r 3), SV.str false ((getD s).r 4), SV.str false ((getD s).r 5), SV.str false ((getD s).r 6), SV.str false ((getD s).r 7), SV.str false ((getD s).r 8), SV.str false ((getD s).r 9), SV.str false ((getD s).r 10), SV.str false ((getD s).r 11), SV.str false ((getD s).r 12), SV.str false ((getD s).r 13), SV.str false ((getD s).r 14), SV.str false ((getD s).r 15)], SV.int .i64 true 0]) (SV.tup [(getD s).sv, SV.int .i64 true 0])) ∧
 (getB' s = false →
 sameVal (SV.tup [SV.agg [SV.int .i64 false (getD s).k, SV.str false (getD s).p, SV.str false (getD s).v, SV.str false ((getD s).r 0), SV.str false ((getD s).r 1), SV.str false ((getD s).r 2), SV.str false ((getD s).r 3), SV.str false ((getD s).r 4), SV.str false ((getD s).r 5), SV.str false ((getD s).r 6), SV.str false ((getD s).r 7), SV.str false ((getD s).r 8), SV.str false ((getD s).r 9), SV.str false ((getD s).r 10), SV.str false ((getD s).r 11), SV.str false ((getD s).r 12), SV.str false ((getD s).r 13), SV.str false ((getD s).r 14), SV.str false ((getD s).r 15)], SV.int .i64 true 0]) (SV.tup [zeroN, SV.int .i64 true 2]))) ∧
 (getB' s = false →
 (getB' s = true →
 sameVal (SV.tup [SV.agg [SV.int .i64 true 0, SV.str true [], SV.str true [], SV.str true [], SV.str true [], SV.str true [], SV.str true [], SV.str true [], SV.str true [], SV.str true [], SV.str true [], SV.str true [], SV.str true [], SV.str true [], SV.str true [], SV.str true [], SV.str true [], SV.str true [], SV.str true []], SV.int .i64 true 2]) (SV.tup [(getD s).sv, SV.int .i64 true 0])) ∧
 (getB' s = false →
 sameVal (SV.tup [SV.agg [SV.int .i64 true 0, SV.str true [], SV.str true [], SV.str true [], SV.str true [], SV.str true [], SV.str true [], SV.str true [], SV.str true [], SV.str true [], SV.str true [], SV.str true [], SV.str true [], SV.str true [], SV.str true [], SV.str true [], SV.str true [], SV.str true [], SV.str true []], SV.int .i64 true 2]) (SV.tup [zeroN, SV.int .i64 true 2])))) := by kernel_rfl
end Go.Proofs.YtkfdcapnogklfaaGreatDoor
/-
  The reference's nodes: plain laws.
-/
namespace Go.Proofs.YtkfdcapnogklfaaGreatDoor
open Go Sx
set_option maxRecDepth 20000
theorem valid_1 {x : Nd} (hk : x.k = 1) : validB x = (nibB x.p && (decide ((x.p.length : Int) ≤ 12) && (decide (1 ≤ (x.v.length : Int)) && (decide ((x.v.length : Int) ≤ 80) && decide (fullN x.r 16 = 0))))) := by
  unfold validB validW
  rw [hk, if_neg (by decide), if_pos rfl, full_behind]
  unfold leafB pathB
  have h0 : decide ((0 : Int) ≤ (x.p.length : Int)) = true := decide_eq_true (by omega)
  have h1 : (!decide (x.v = [])) = decide (1 ≤ (x.v.length : Int)) := by
    cases hv : x.v with
    | nil => rfl
    | cons b r =>
      rw [decide_eq_false (by simp), decide_eq_true (by simp only [List.length_cons]; omega)]; rfl
  rw [h0, h1, Bool.true_and]
  cases nibB x.p <;> cases decide ((x.p.length : Int) ≤ 12) <;> rfl
theorem may_ne {t : List UInt8} (h : mayW inlB t = true) : t ≠ [] := fun e => by subst e; revert h; decide
theorem not_both {t : List UInt8} (h : hashB t = true) : inlB t = false := by
  rw [Bool.eq_false_iff]; intro h'
  have := hash_len h
  have := inl_len h'
  omega
theorem valid_2 {x : Nd} (hk : x.k = 2) : validB x = (nibB x.p && (decide ((x.p.length : Int) ≤ 12) && (!decide (x.p = []) && (decide (x.v = []) && (decide (fullN x.r 16 = 1) && (mayW inlB (x.r 0) && (!inlB (x.r 0) || decide ((getD (x.r 0)).k = 3)))))))) := by
  unfold validB validW
  rw [hk, if_neg (by decide), if_neg (by decide), if_pos rfl]
  unfold extW pathB
  have h1 : decide ((1 : Int) ≤ (x.p.length : Int)) = !decide (x.p = []) := by
    cases hv : x.p with
    | nil => rfl
    | cons b r =>
      rw [decide_eq_false (p := (b :: r) = []) (by simp), decide_eq_true (by simp only [List.length_cons]; omega)]; rfl
  have h2 : (hashB (x.r 0) || (inlB (x.r 0) && decide ((getD (x.r 0)).k = 3))) = (mayW inlB (x.r 0) && (!inlB (x.r 0) || decide ((getD (x.r 0)).k = 3))) := by
    unfold mayW
    cases hh : hashB (x.r 0) with
    | true => rw [not_both hh]; rfl
    | false => cases inlB (x.r 0) <;> rfl
  have h3 : (decide (behindI x.r 16 = 1) && (mayW inlB (x.r 0) && (!inlB (x.r 0) || decide ((getD (x.r 0)).k = 3)))) = (decide (fullN x.r 16 = 1) && (mayW inlB (x.r 0) && (!inlB (x.r 0) || decide ((getD (x.r 0)).k = 3)))) := by
    cases hm : mayW inlB (x.r 0) with
    | false => rw [Bool.false_and, Bool.and_false, Bool.and_false]
    | true => rw [full_one (may_ne hm)]
  rw [h1, h2, h3]
  cases nibB x.p <;> cases decide ((x.p.length : Int) ≤ 12) <;> cases decide (x.p = []) <;> rfl
theorem valid_3 {x : Nd} (hk : x.k = 3) : validB x = (mays inlB x.r 16 && (decide (x.p = []) && (decide ((x.v.length : Int) ≤ 80) && decide (2 ≤ (bif decide (x.v = []) then 0 else 1) + fullN x.r 16)))) := by
  unfold validB validW
  rw [hk, if_neg (by decide), if_neg (by decide), if_neg (by decide), if_pos rfl]
  unfold branchW
  have h1 : min (x.v.length : Int) 1 = bif decide (x.v = []) then 0 else 1 := by
    cases hv : x.v with
    | nil => rfl
    | cons b r =>
      rw [decide_eq_false (p := (b :: r) = []) (by simp)]
      simp only [List.length_cons, cond_false]; omega
  rw [h1]
  cases mays inlB x.r 16 <;> cases decide (x.p = []) <;> cases decide ((x.v.length : Int) ≤ 80) <;> rfl
theorem valid_0 {x : Nd} (hk : x.k = 0) : validB x = noneB x := by
  unfold validB validW
  rw [hk, if_pos rfl]
theorem valid_no {x : Nd} (h0 : ¬ x.k = 0) (h1 : ¬ x.k = 1) (h2 : ¬ x.k = 2) (h3 : ¬ x.k = 3) : validB x = false := by
  unfold validB validW
  rw [if_neg h0, if_neg h1, if_neg h2, if_neg h3]
/-! ### What is read is put again -/
theorem get_only {s : List UInt8} {x : Nd} (hv : validB x = true) (hp : putT x = s) : getB' s = true ∧ (getD s).Same x := by
  have := get_put hv
  rwa [hp] at this
theorem get_len {s : List UInt8} (h : getB' s = true) : s.length ≤ 700 := by
  obtain ⟨_, h1, h2⟩ := get_parts h
  have := (put_len h1).2
  rwa [h2] at this
end Go.Proofs.YtkfdcapnogklfaaGreatDoor
/-
  The reference's nodes: hashes, refs, which nodes may be, their bytes: the contracts.
-/
namespace Go.Proofs.YtkfdcapnogklfaaGreatDoor
open Go Sx
set_option maxRecDepth 20000
theorem dhash_ok : CallOk Tryz.prog 17 (ansPT hashSpec) := by
  refine ans_ok (n := 20) (fn := Tryz.f17) Tryz.func17 (by kernel_rfl) (by kernel_rfl) ?_
  intro args p a h hp
  unfold hashSpec at h
  split at h
  · rename_i t
    injection h with h; injection h with h1 h2; subst h1; subst h2
    refine ⟨_, goodD0, rfl, fun b => by cases b <;> exact rfl, Holds.of_eq (vcDHash t) ?_⟩
    have no : sameVal (.tup [.str true [], .bool true false]) (.tup [.str true [], .bool true false]) := fun _ => rfl
    refine ⟨fun a => ⟨fun h => ?_, fun _ => no⟩, fun a => ?_⟩
    · have a : ¬ (t.length : Int) = 33 := by simpa using a
      have := (hash33.1 h).1
      omega
    · have a : (t.length : Int) = 33 := by simpa using a
      refine ⟨by omega, fun b => ⟨fun h => ?_, fun _ => no⟩, fun b => ⟨by omega, fun _ => ?_, fun h => ?_⟩⟩
      · have b : ¬ byteAt t 0 = 160 := by simpa using b
        exact absurd (hash33.1 h).2 b
      · have b : byteAt t 0 = 160 := by simpa using b
        have e := hash_in (by omega) b
        exact tup2_same e.symm
      · have b : byteAt t 0 = 160 := by simpa using b
        rw [hash33.2 ⟨by omega, b⟩] at h
        cases h
  · cases h
theorem dtext_ok : CallOk Tryz.prog 59 (purePT rtextSpec) := by
  refine pure_ok goodD0 (n := 20) (fn := Tryz.f59) Tryz.func59 (by kernel_rfl) (by kernel_rfl) ?_
  intro args p r h hp
  unfold rtextSpec at h
  split at h
  · rename_i t
    injection h with h; injection h with h1 h2; subst h1; subst h2
    refine ⟨rfl, rfl, Holds.of_eq (vcDText t _) ⟨hp, fun a => str_same ?_, fun a => str_same ?_⟩⟩
    · rw [inItem, a]; rfl
    · rw [inItem, a]; rfl
  · cases h
theorem listD0_ok : SummOk Tryz.prog (fun f => lookPT f listD0) := .cons dhash_ok (ansPT_mono _) (.cons dtext_ok (purePT_mono _) listA4_ok)
theorem rel_mk {L : Nat} {x : Nd} (h : RelR L x.r) : RelR L (fun (i : Nat) => [x.r 0, x.r 1, x.r 2, x.r 3, x.r 4, x.r 5, x.r 6, x.r 7, x.r 8, x.r 9, x.r 10, x.r 11, x.r 12, x.r 13, x.r 14, x.r 15].getD i []) := fun j hj => by
  show Rel _ ([x.r 0, x.r 1, x.r 2, x.r 3, x.r 4, x.r 5, x.r 6, x.r 7, x.r 8, x.r 9, x.r 10, x.r 11, x.r 12, x.r 13, x.r 14, x.r 15].getD j [])
  rw [getD16 x.r j hj]
  exact h j hj
theorem dbytes_holds {x : Nd} (hk : 0 ≤ x.k ∧ x.k ≤ 3) (hx : x.Few) : Holds (runP (cfgDB x) 24 Tryz.f24 [x.sv] (fun v => sameVal v (.str false (putT x)))) := by
  refine Holds.of_eq (vcDBytes x _) ?_
  have h1 := hx.p
  have h2 := hx.v
  have h0 := hx.r 0 (by decide)
  have jq : ∀ {a b : List UInt8}, a.length ≤ 3000 → b.length ≤ 3000 → joinQ [a, b] := fun {a b} ha hb => ⟨by rw [flat2_le]; omega, by show 2 < 1152921504606846976; decide⟩
  have tl := text_le x.v
  have pl := fun leaf => text_le (pathT x leaf)
  have pq := fun leaf => pathT_le (x := x) (leaf := leaf)
  have pl1 := pl true
  have pl2 := pl false
  have pq1 := pq true
  have pq2 := pq false
  rcases kinds4 hk with e | e | e | e
  · have k1 : decide (x.k = 1) = false := by rw [e]; rfl
    have k2 : decide (x.k = 2) = false := by rw [e]; rfl
    have k3 : decide (x.k = 3) = false := by rw [e]; rfl
    simp only [k1, k2, k3, Bool.false_eq_true, false_imp_iff, true_imp_iff, eq_self]
    exact ⟨trivial, trivial, trivial, by omega, str_same (by rw [putT, if_pos e]; rfl)⟩
  · have k1 : decide (x.k = 1) = true := by rw [e]; rfl
    have k2 : decide (x.k = 2) = false := by rw [e]; rfl
    have k3 : decide (x.k = 3) = false := by rw [e]; rfl
    simp only [k1, k2, k3, Bool.true_eq_false, Bool.false_eq_true, false_imp_iff, true_imp_iff, eq_self]
    refine ⟨⟨⟨by omega, fun a => ⟨?_, trivial⟩, fun a => ⟨?_, trivial⟩⟩, trivial⟩, trivial⟩
    · have ep : nputL x.p true = pathT x true := by rw [pathT, a]; rfl
      rw [ep]
      exact ⟨by omega, by omega, ⟨trivial, jq (by omega) (by omega)⟩, str_same (by rw [putT, if_neg (by omega), if_pos e]; rfl)⟩
    · have ep : [] = pathT x true := by rw [pathT, a]; rfl
      rw [ep]
      exact ⟨by omega, by omega, ⟨trivial, jq (by omega) (by omega)⟩, str_same (by rw [putT, if_neg (by omega), if_pos e]; rfl)⟩
  · have k1 : decide (x.k = 1) = false := by rw [e]; rfl
    have k2 : decide (x.k = 2) = true := by rw [e]; rfl
    have k3 : decide (x.k = 3) = false := by rw [e]; rfl
    simp only [k1, k2, k3, Bool.true_eq_false, Bool.false_eq_true, false_imp_iff, true_imp_iff, eq_self]
    refine ⟨trivial, ⟨by omega, fun a => ⟨trivial, ?_⟩, fun a => ⟨trivial, ?_⟩⟩, trivial⟩
    · have ep : nputL x.p false = pathT x false := by rw [pathT, a]; rfl
      rw [ep]
      exact ⟨by omega, ⟨trivial, jq (by omega) (by omega)⟩, str_same (by rw [putT, if_neg (by omega), if_neg (by omega), if_pos e]; rfl)⟩
    · have ep : [] = pathT x false := by rw [pathT, a]; rfl
      rw [ep]
      exact ⟨by omega, ⟨trivial, jq (by omega) (by omega)⟩, str_same (by rw [putT, if_neg (by omega), if_neg (by omega), if_pos e]; rfl)⟩
  · have k1 : decide (x.k = 1) = false := by rw [e]; rfl
    have k2 : decide (x.k = 2) = false := by rw [e]; rfl
    have k3 : decide (x.k = 3) = true := by rw [e]; rfl
    simp only [k1, k2, k3, Bool.true_eq_false, Bool.false_eq_true, false_imp_iff, true_imp_iff, eq_self]
    refine ⟨trivial, trivial, ⟨⟨(0, 0), ⟨by omega, by omega⟩, rfl, rfl, rfl, SBle.refl _, trivial⟩, fun g hg => ⟨fun a => ?_, fun a => ?_⟩⟩, trivial⟩
    · have a := of_decide_eq_true a
      have hi : g.1 < 16 := by omega
      rw [Int.toNat_natCast, sel16 x.r hi]
      refine ⟨by omega, by omega, fun b => ⟨by omega, ⟨by omega, trivial, by omega, by omega⟩, by omega, fun c hc => ⟨by omega, (g.1 + 1, c), ⟨⟨by show g.1 + 1 ≤ 16; omega, hc⟩, by show 16 - (g.1 + 1) < _; omega⟩, ⟨trivial, rfl, rfl⟩, trivial, by show (g.1 : Int) + 1 = ((g.1 + 1 : Nat) : Int); omega, Sx.SBle.strRows rfl (Nat.mul_one c) fun j hj => ?_, SBle.refl _, trivial⟩⟩,
        fun b => ⟨⟨by omega, trivial, by omega, by omega⟩, by omega, fun c hc => ⟨by omega, (g.1 + 1, c), ⟨⟨by show g.1 + 1 ≤ 16; omega, hc⟩, by show 16 - (g.1 + 1) < _; omega⟩, ⟨trivial, rfl, rfl⟩, trivial, by show (g.1 : Int) + 1 = ((g.1 + 1 : Nat) : Int); omega, Sx.SBle.strRows rfl (Nat.mul_one c) fun j hj => ?_, SBle.refl _, trivial⟩⟩⟩
      · have b := of_decide_eq_true b
        by_cases h : j < g.1
        · rw [if_pos h]
        · have ej : j = g.1 := by omega
          subst ej
          rw [if_neg h, Nat.sub_self, brI, if_pos hi, if_pos b]; rfl
      · have b := of_decide_eq_false b
        by_cases h : j < g.1
        · rw [if_pos h]
        · have ej : j = g.1 := by omega
          subst ej
          rw [if_neg h, Nat.sub_self, brI, if_pos hi, if_neg b]; rfl
    · have a := of_decide_eq_false a
      have hg1 := hg.1
      have eg : g.1 = 16 := by omega
      rw [eg]
      have er : rowL (fun (j : Nat) => if j < 16 then brI x.r 16 j else selS [textOf x.v] (j - 16)) 0 (16 + 1) = brL x := rfl
      rw [er]
      have bl : (flat (brL x)).length ≤ (brL x).length * 2000 := flat_le fun y hy => by
        rcases brL_mem hy with ⟨j, hj, e⟩ | e
        · have := brI_le hx 16 j hj
          rw [e]; omega
        · rw [e]; omega
      have bn : (brL x).length = 17 := rfl
      exact ⟨by omega, ⟨by omega, trivial, by omega, by omega⟩, by omega, fun c hc => ⟨⟨⟨trivial, by omega⟩, by omega, by omega⟩, str_same (by rw [putT, if_neg (by omega), if_neg (by omega), if_neg (by omega)]; rfl)⟩⟩
theorem dbytes_ok : CallOk Tryz.prog 24 (purePT (ndSpec fun x => some ((0 ≤ x.k ∧ x.k ≤ 3) ∧ x.Few, .str false (putT x)))) := by
  refine nd_ok Tryz.func24 (by kernel_rfl) (by kernel_rfl) fun x p v h hp => ?_
  injection h with h; injection h with h1 h2; subst h1; subst h2
  exact ⟨cfgDB x, [x.sv], ⟨mixes, listD0_ok, fns_ok⟩, fun E => rfl, rfl, rfl, dbytes_holds hp.1 hp.2⟩
end Go.Proofs.YtkfdcapnogklfaaGreatDoor
/-
  The reference's nodes: which nodes may be, and what is put: the contracts, for refs that are short enough.
-/
namespace Go.Proofs.YtkfdcapnogklfaaGreatDoor
open Go Sx
set_option maxRecDepth 20000
section
variable {L : Nat} (hI : CallOk Tryz.prog 19 (ansPT (inlSpec L)))
include hI
theorem listD1_ok : SummOk Tryz.prog (fun f => lookPT f (listD1 L)) := .cons hI (ansPT_mono _) listD0_ok
theorem drefers_ok : CallOk Tryz.prog 26 (purePT (refersSpec L)) := by
  refine pure_ok ⟨mixes, listD1_ok hI, fns_ok⟩ (cfg := cfgD1 L) (n := 20) (fn := Tryz.f26) Tryz.func26 (by kernel_rfl) (by kernel_rfl) ?_
  intro args p r h hp
  unfold refersSpec at h
  split at h
  · rename_i t
    injection h with h; injection h with h1 h2; subst h1; subst h2
    have hp : Rel L t := hp
    refine ⟨rfl, rfl, Holds.of_eq (vcDRefers L t _) ⟨hp.2, fun a => ⟨hp, fun b => bool_eq ?_, fun b => bool_eq ?_⟩, fun a => ⟨hp, fun b => bool_eq ?_, fun b => bool_eq ?_⟩⟩⟩
    · rw [mayW, a]; rfl
    · rw [mayW, a]; rfl
    · rw [mayW, a, b]; rfl
    · rw [mayW, a, b]; rfl
  · cases h
theorem listD2_ok : SummOk Tryz.prog (fun f => lookPT f (listD2 L)) := .cons (drefers_ok hI) (purePT_mono _) (listD1_ok hI)
theorem dvalid_ok : CallOk Tryz.prog 9 (purePT (ndSpec fun x => some (RelR L x.r ∧ x.p.length < 1152921504606846976, .bool false (validB x)))) := by
  refine nd_ok Tryz.func9 (by kernel_rfl) (by kernel_rfl) fun x p v h hp => ?_
  injection h with h; injection h with h1 h2; subst h1; subst h2
  have hp : RelR L x.r ∧ x.p.length < 1152921504606846976 := hp
  refine ⟨cfgDV L x, [x.sv], ⟨mixes, listD2_ok hI, fns_ok⟩, fun E => rfl, rfl, rfl, Holds.of_eq (vcDValid L x _) ?_⟩
  refine ⟨⟨0, by omega, rfl, rfl, SBle.refl _, trivial⟩, fun i hi => ⟨fun a => ?_, fun a => ?_⟩⟩
  · have a := of_decide_eq_true a
    have ei : i < 16 := by omega
    have fn := full_nn x.r i
    rw [Int.toNat_natCast, sel16 x.r ei]
    refine ⟨by omega, by omega, fun b => ⟨by omega, by omega, i + 1, ⟨by omega, by omega⟩, ?_, by omega, SBle.refl _, trivial⟩, fun b => ⟨by omega, i + 1, ⟨by omega, by omega⟩, ?_, by omega, SBle.refl _, trivial⟩⟩
    · have b : ¬ x.r i = [] := by simpa using b
      rw [fullN, if_neg b]
    · have b : x.r i = [] := by simpa using b
      rw [fullN, if_pos b]
  · have a := of_decide_eq_false a
    have ei : i = 16 := by omega
    subst ei
    have fn := full_nn x.r 16
    refine ⟨fun k0 => bool_eq ?_, fun k0 => ⟨fun k1 => ?_, fun k1 => ⟨fun k2 => ?_, fun k2 => ⟨fun k3 => ?_, fun k3 => bool_eq ?_⟩⟩⟩⟩
    · rw [valid_0 (of_decide_eq_true k0), noneB, show List.range 16 = [0, 1, 2, 3, 4, 5, 6, 7, 8, 9, 10, 11, 12, 13, 14, 15] from by decide]
      simp only [List.all_cons, List.all_nil, Bool.and_true]
    · rw [valid_1 (of_decide_eq_true k1)]
      refine ⟨hp.2, fun a1 => ⟨fun a2 => ⟨fun a3 => ⟨fun a4 => bool_eq ?_, fun a4 => bool_eq ?_⟩, fun a3 => bool_eq ?_⟩, fun a2 => bool_eq ?_⟩, fun a1 => bool_eq ?_⟩
      · rw [a1, a2, a3, a4]; rfl
      · rw [a1, a2, a3, a4]; rfl
      · rw [a1, a2, a3]; rfl
      · rw [a1, a2]; rfl
      · rw [a1]; rfl
    · rw [valid_2 (of_decide_eq_true k2)]
      have h0 := hp.1 0 (by decide)
      refine ⟨h0, fun b => ⟨hp.2, fun a1 => ⟨fun a2 => ⟨fun a3 => ⟨fun a4 => ⟨fun a5 => ⟨h0, fun a6 => bool_eq ?_, fun a6 => bool_eq ?_⟩, fun a5 => bool_eq ?_⟩, fun a4 => bool_eq ?_⟩, fun a3 => bool_eq ?_⟩, fun a2 => bool_eq ?_⟩, fun a1 => bool_eq ?_⟩,
        fun b => ⟨hp.2, fun a1 => ⟨fun a2 => ⟨fun a3 => ⟨fun a4 => ⟨fun a5 => ⟨h0, fun a6 => bool_eq ?_, fun a6 => bool_eq ?_⟩, fun a5 => bool_eq ?_⟩, fun a4 => bool_eq ?_⟩, fun a3 => bool_eq ?_⟩, fun a2 => bool_eq ?_⟩, fun a1 => bool_eq ?_⟩⟩
      · rw [a1, a2, a3, a4, a5, a6, b]; rfl
      · rw [a1, a2, a3, a4, a5, a6]; rfl
      · rw [a1, a2, a3, a4, a5]; rfl
      · rw [a1, a2, a3, a4]; rfl
      · rw [a1, a2, a3]; rfl
      · rw [a1, a2]; rfl
      · rw [a1]; rfl
      · rw [a1, a2, a3, a4, a5, a6, b]; rfl
      · rw [a1, a2, a3, a4, a5, a6]; rfl
      · rw [a1, a2, a3, a4, a5]; rfl
      · rw [a1, a2, a3, a4]; rfl
      · rw [a1, a2, a3]; rfl
      · rw [a1, a2]; rfl
      · rw [a1]; rfl
    · rw [valid_3 (of_decide_eq_true k3)]
      refine ⟨⟨0, ⟨by omega, rfl⟩, rfl, SBle.refl _, trivial⟩, fun j hj => ⟨fun b => ?_, fun b => ?_⟩⟩
      · have b := of_decide_eq_true b
        have ej : j < 16 := by omega
        rw [Int.toNat_natCast, sel16 x.r ej]
        refine ⟨by omega, by omega, fun c => ⟨by omega, by omega, hp.1 j ej, fun d => bool_eq ?_, fun d => ⟨by omega, j + 1, ⟨⟨by omega, ?_⟩, by omega⟩, by omega, SBle.refl _, trivial⟩⟩, fun c => ⟨by omega, j + 1, ⟨⟨by omega, ?_⟩, by omega⟩, by omega, SBle.refl _, trivial⟩⟩
        · have c : ¬ x.r j = [] := by simpa using c
          have d : mayW inlB (x.r j) = false := by simpa using d
          rw [mays_not ej c d]; rfl
        · have d : mayW inlB (x.r j) = true := by simpa using d
          rw [mays, hj.2, d, Bool.or_true]; rfl
        · have c : x.r j = [] := by simpa using c
          rw [mays, hj.2, decide_eq_true c]; rfl
      · have b := of_decide_eq_false b
        have hj1 := hj.1
        have ej : j = 16 := by omega
        subst ej
        rw [hj.2]
        refine ⟨fun c => ⟨by omega, fun d => ⟨fun e => bool_eq ?_, fun e => bool_eq ?_⟩, fun d => bool_eq ?_⟩, fun c => ⟨fun d => ⟨fun e => bool_eq ?_, fun e => bool_eq ?_⟩, fun d => bool_eq ?_⟩⟩
        · have c : decide (x.v = []) = false := by simpa using c
          rw [c, d, e, Int.add_comm]; rfl
        · rw [d, e]; rfl
        · rw [d]; rfl
        · have c : decide (x.v = []) = true := by simpa using c
          rw [c, d, e]
          simp only [Bool.true_and, cond_true, Int.zero_add]
        · rw [d, e]; rfl
        · rw [d]; rfl
    · rw [valid_no (of_decide_eq_false k0) (of_decide_eq_false k1) (of_decide_eq_false k2) (of_decide_eq_false k3)]
theorem listD3_ok : SummOk Tryz.prog (fun f => lookPT f (listD3 L)) := .cons (dvalid_ok hI) (purePT_mono _) (.cons dbytes_ok (purePT_mono _) (listD1_ok hI))
theorem dput_ok : CallOk Tryz.prog 8 (ansPT (ndSpecA fun x => some (RelR L x.r ∧ x.p.length < 1152921504606846976, putA x))) := by
  refine ans_ok (n := 20) (fn := Tryz.f8) Tryz.func8 (by kernel_rfl) (by kernel_rfl) ?_
  intro args p a h hp
  obtain ⟨x, hx, hg⟩ := ndSpecA_eq h
  subst hx
  injection hg with hg; injection hg with h1 h2; subst h1; subst h2
  refine ⟨cfgD3 L, ⟨mixes, listD3_ok hI, fns_ok⟩, rfl, fun b => by cases b <;> exact rfl, Holds.of_eq (vcDPut L x) ?_⟩
  have hp : RelR L x.r ∧ x.p.length < 1152921504606846976 := hp
  have e := valid_ext (same_mk x)
  have e2 := put_ext (same_mk x)
  refine ⟨⟨rel_mk hp.1, hp.2⟩, fun a => ?_, fun a => ?_⟩
  · rw [e] at a
    have a : validB x = false := by simpa using a
    rw [a]
    exact ⟨(fun h => by cases h), fun _ _ => rfl⟩
  · rw [e] at a
    have a : validB x = true := by simpa using a
    have hs := valid_short a
    rw [e2, a]
    exact ⟨⟨hs.k, Nd.Few.same (same_mk x) hs.few⟩, fun _ _ => rfl, fun h => by cases h⟩
theorem listD4_ok : SummOk Tryz.prog (fun f => lookPT f (listD4 L)) := .cons (dput_ok hI) (ansPT_mono _) (listD3_ok hI)
end
end Go.Proofs.YtkfdcapnogklfaaGreatDoor
