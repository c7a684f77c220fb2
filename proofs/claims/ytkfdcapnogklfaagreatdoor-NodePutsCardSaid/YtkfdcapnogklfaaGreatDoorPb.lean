/-
  Node: texts of nodes: the set-up.
-/
import Derived.Test.YtkfdcapnogklfaaGreatDoorPa
namespace Go.Proofs.YtkfdcapnogklfaaGreatDoor
open Go Sx
set_option maxRecDepth 20000
def leafB (x : Nd) : Bool := pathB x 0 && (!decide (x.v = []) && (decide ((x.v.length : Int) ≤ 80) && decide (behindI x.r 16 = 0)))
def pathT (x : Nd) (leaf : Bool) : List UInt8 := bif nibB x.p then nputL x.p leaf else []
def leafT (x : Nd) : List UInt8 := listOf [textOf (pathT x true), textOf x.v]
def extT (x : Nd) : List UInt8 := listOf [textOf (pathT x false), x.r 0]
def brI (r : Nat → List UInt8) (i j : Nat) : List UInt8 := if j < i then (if r j = [] then [128] else r j) else [128]
def strs17 (f : Nat → List UInt8) : List SV := [.str false (f 0), .str false (f 1), .str false (f 2), .str false (f 3), .str false (f 4), .str false (f 5), .str false (f 6), .str false (f 7), .str false (f 8), .str false (f 9), .str false (f 10), .str false (f 11), .str false (f 12), .str false (f 13), .str false (f 14), .str false (f 15), .str false (f 16)]
def branchT (x : Nd) : List UInt8 := listOf [brI x.r 16 0, brI x.r 16 1, brI x.r 16 2, brI x.r 16 3, brI x.r 16 4, brI x.r 16 5, brI x.r 16 6, brI x.r 16 7, brI x.r 16 8, brI x.r 16 9, brI x.r 16 10, brI x.r 16 11, brI x.r 16 12, brI x.r 16 13, brI x.r 16 14, brI x.r 16 15, textOf x.v]
def putT (x : Nd) : List UInt8 := if x.k = 0 then [128] else if x.k = 1 then leafT x else if x.k = 2 then extT x else branchT x
structure Nd.Few (x : Nd) : Prop where
  p : x.p.length ≤ 1000
  v : x.v.length ≤ 1000
  r : ∀ j, j < 16 → (x.r j).length ≤ 1000
noncomputable def annBT (x : Nd) : LoopAnn :=
  { α := Nat, pre := fun _ i => i ≤ 16, mea := fun _ i => 16 - i, fresh := 0, slots := fun _ i => [(7, .int .i64 false i)], mem := fun _ i => [(1, .cells (strs17 (brI x.r i)) 17 9)] }
noncomputable def cfgBT (x : Nd) : Cfg := { cfg0 with summ := fun f => lookPT f listN3, anns := fun f => if f = 51 then [(1, always (annBT x))] else [] }
theorem goodBT (x : Nd) : Sx.Good Tryz.prog (cfgBT x) := ⟨mixes, listN3_ok, fns_ok⟩
end Go.Proofs.YtkfdcapnogklfaaGreatDoor
/-
  Node: the node that bytes are: the set-up.
-/
namespace Go.Proofs.YtkfdcapnogklfaaGreatDoor
open Go Sx
set_option maxRecDepth 20000
def refs16 (r0 r1 r2 r3 r4 r5 r6 r7 r8 r9 r10 r11 r12 r13 r14 r15 : List UInt8) : Nat → List UInt8 := fun i => [r0, r1, r2, r3, r4, r5, r6, r7, r8, r9, r10, r11, r12, r13, r14, r15].getD i []
def mk16 (r : Nat → List UInt8) : Nat → List UInt8 := refs16 (r 0) (r 1) (r 2) (r 3) (r 4) (r 5) (r 6) (r 7) (r 8) (r 9) (r 10) (r 11) (r 12) (r 13) (r 14) (r 15)
def noRefs : Nat → List UInt8 := refs16 [] [] [] [] [] [] [] [] [] [] [] [] [] [] [] []
def oneRef (t : List UInt8) : Nat → List UInt8 := refs16 t [] [] [] [] [] [] [] [] [] [] [] [] [] [] []
def rdRef (s : List UInt8) (j : Nat) : List UInt8 := if itemAt s j = [128] then [] else itemAt s j
def rdI (s : List UInt8) (i j : Nat) : List UInt8 := if j < i then rdRef s j else []
def zeroNd : Nd := ⟨0, [], [], noRefs⟩
def rdLeaf (s : List UInt8) : Nd := ⟨1, ngetP (cutIn (itemAt (cutIn s) 0)), cutIn (itemAt (cutIn s) 1), noRefs⟩
def rdExt (s : List UInt8) : Nd := ⟨2, ngetP (cutIn (itemAt (cutIn s) 0)), [], oneRef (itemAt (cutIn s) 1)⟩
def rdBranch (s : List UInt8) : Nd := ⟨3, [], cutIn (itemAt (cutIn s) 16), mk16 (rdRef (cutIn s))⟩
def pairK (s : List UInt8) : Int := bif plainB (itemAt s 0) && ngetB (cutIn (itemAt s 0)) then (bif ngetLeaf (cutIn (itemAt s 0)) then (bif plainB (itemAt s 1) then 1 else -1) else 2) else -1
def listK (s : List UInt8) : Int := bif itemsB s then (if itemsN s = 2 then pairK s else if itemsN s = 17 then (bif plainB (itemAt s 16) then 3 else -1) else -1) else -1
def shapeK (s : List UInt8) : Int := if s = [128] then 0 else bif cutB s && (cutL s && decide (cutRest s = [])) then listK (cutIn s) else -1
def getD (s : List UInt8) : Nd := if shapeK s = 1 then rdLeaf s else if shapeK s = 2 then rdExt s else if shapeK s = 3 then rdBranch s else zeroNd
def readA (s : List UInt8) : Ans := .fork (decide (shapeK s = 0)) fun b => match b with
  | true => .ret (.tup [zeroN, .bool true true])
  | false => .fork (decide (shapeK s = 1)) fun b => match b with
    | true => .ret (.tup [(rdLeaf s).svL true 1, .bool true true])
    | false => .fork (decide (shapeK s = 2)) fun b => match b with
      | true => .ret (.tup [(rdExt s).svL true 2, .bool true true])
      | false => .fork (decide (shapeK s = 3)) fun b => match b with
        | true => .ret (.tup [(rdBranch s).svL true 3, .bool true true])
        | false => .all Nd fun x => .ret (.tup [x.sv, .bool true false])
def mayW (inl : List UInt8 → Bool) (t : List UInt8) : Bool := hashB t || inl t
def extW (inl : List UInt8 → Bool) (x : Nd) : Bool := pathB x 1 && (decide (x.v = []) && (decide (behindI x.r 16 = 1) && (hashB (x.r 0) || (inl (x.r 0) && decide ((getD (x.r 0)).k = 3)))))
def fullN (r : Nat → List UInt8) : Nat → Int
  | 0 => 0
  | i + 1 => if r i = [] then fullN r i else fullN r i + 1
def mays (inl : List UInt8 → Bool) (r : Nat → List UInt8) : Nat → Bool
  | 0 => true
  | i + 1 => mays inl r i && (decide (r i = []) || mayW inl (r i))
def branchW (inl : List UInt8 → Bool) (x : Nd) : Bool := decide (x.p = []) && (decide ((x.v.length : Int) ≤ 80) && (mays inl x.r 16 && decide (2 ≤ min (x.v.length : Int) 1 + fullN x.r 16)))
def validW (inl : List UInt8 → Bool) (x : Nd) : Bool := if x.k = 0 then noneB x else if x.k = 1 then leafB x else if x.k = 2 then extW inl x else if x.k = 3 then branchW inl x else false
def getW (inl : List UInt8 → Bool) (s : List UInt8) : Bool := decide (0 ≤ shapeK s) && (validW inl (getD s) && decide (putT (getD s) = s))
def inlF : Nat → List UInt8 → Bool
  | 0, _ => false
  | n + 1, t => decide (t.length < 32) && (getW (inlF n) t && !decide ((getD t).k = 0))
def inlB (t : List UInt8) : Bool := inlF 32 t
def validB (x : Nd) : Bool := validW inlB x
def getB' (s : List UInt8) : Bool := getW inlB s
end Go.Proofs.YtkfdcapnogklfaaGreatDoor
/-
  Conditions that the executor computes, written out by a program (vcgen.py).
-/
namespace Go.Proofs.YtkfdcapnogklfaaGreatDoor
open Go Sx
set_option maxRecDepth 20000
theorem vcLeaf (x : Nd) (R : SV → Prop) : VC.holds (runP cfgN3 28 Tryz.f28 [x.sv] R) = ((True ∧ (pathB { k := x.k, p := x.p, v := x.v, r := fun (u2 : Nat) => [x.r 0, x.r 1, x.r 2, x.r 3, x.r 4, x.r 5, x.r 6, x.r 7, x.r 8, x.r 9, x.r 10, x.r 11, x.r 12, x.r 13, x.r 14, x.r 15].getD u2 [] : Nd } 0 = true → ((!decide (x.v = [])) = true → (decide ((x.v.length : Int) ≤ 80) = true → True ∧ R (SV.bool (false && true) (decide (behindI (fun (u1 : Nat) => [x.r 0, x.r 1, x.r 2, x.r 3, x.r 4, x.r 5, x.r 6, x.r 7, x.r 8, x.r 9, x.r 10, x.r 11, x.r 12, x.r 13, x.r 14, x.r 15].getD u1 []) 16 = (0 : Int))))) ∧ (decide ((x.v.length : Int) ≤ 80) = false → R (SV.bool true false))) ∧ ((!decide (x.v = [])) = false → R (SV.bool true false))) ∧ (pathB { k := x.k, p := x.p, v := x.v, r := fun (u0 : Nat) => [x.r 0, x.r 1, x.r 2, x.r 3, x.r 4, x.r 5, x.r 6, x.r 7, x.r 8, x.r 9, x.r 10, x.r 11, x.r 12, x.r 13, x.r 14, x.r 15].getD u0 [] : Nd } 0 = false → R (SV.bool true false)))) := by kernel_rfl
theorem vcLeafText (x : Nd) (R : SV → Prop) : VC.holds (runP cfgN3 42 Tryz.f42 [x.sv] R) = ((x.p.length < 1073741824 ∧ (nibB x.p = true → (nputL x.p true).length < 1152921504606846976 ∧ some (SB.cells x.sv.cells 19 44) = some (SB.cells x.sv.cells 19 44) ∧ x.v.length < 1152921504606846976 ∧ (((2 : Nat) = (2 : Nat) ∧ (2 : Nat) ≤ (2 : Nat)) ∧ (2 : Nat) ≤ (140737488355328 : Nat) ∧ (flat [textOf (nputL x.p true), textOf x.v]).length ≤ 140737488355328) ∧ (((0 : Int) ≤ (192 : Int) ∧ (192 : Int) ≤ (192 : Int)) ∧ 0 ≤ (↑(flat [textOf (nputL x.p true), textOf x.v]).length : Int) ∧ (↑(flat [textOf (nputL x.p true), textOf x.v]).length : Int) < 1152921504606846976) ∧ (↑(headOf 192 (↑(flat [textOf (nputL x.p true), textOf x.v]).length : Int).toNat).length : Int) + (↑(flat [textOf (nputL x.p true), textOf x.v]).length : Int) ≤ 9223372036854775807 ∧ R (SV.str false (cat (headOf 192 (↑(flat [textOf (nputL x.p true), textOf x.v]).length : Int).toNat) (flat [textOf (nputL x.p true), textOf x.v])))) ∧ (nibB x.p = false → (0 : Nat) < (1152921504606846976 : Nat) ∧ some (SB.cells x.sv.cells 19 44) = some (SB.cells x.sv.cells 19 44) ∧ x.v.length < 1152921504606846976 ∧ (((2 : Nat) = (2 : Nat) ∧ (2 : Nat) ≤ (2 : Nat)) ∧ (2 : Nat) ≤ (140737488355328 : Nat) ∧
 (flat [textOf [], textOf x.v]).length ≤ 140737488355328) ∧ (((0 : Int) ≤ (192 : Int) ∧ (192 : Int) ≤ (192 : Int)) ∧ 0 ≤ (↑(flat [textOf [], textOf x.v]).length : Int) ∧ (↑(flat [textOf [], textOf x.v]).length : Int) < 1152921504606846976) ∧ (↑(headOf 192 (↑(flat [textOf [], textOf x.v]).length : Int).toNat).length : Int) + (↑(flat [textOf [], textOf x.v]).length : Int) ≤ 9223372036854775807 ∧ R (SV.str false (cat (headOf 192 (↑(flat [textOf [], textOf x.v]).length : Int).toNat) (flat [textOf [], textOf x.v])))))) := by kernel_rfl
theorem vcExtText (x : Nd) (R : SV → Prop) : VC.holds (runP cfgN3 43 Tryz.f43 [x.sv] R) = ((x.p.length < 1073741824 ∧ (nibB x.p = true → (nputL x.p false).length < 1152921504606846976 ∧ some (SB.cells x.sv.cells 19 44) = some (SB.cells x.sv.cells 19 44) ∧ (((2 : Nat) = (2 : Nat) ∧ (2 : Nat) ≤ (2 : Nat)) ∧ (2 : Nat) ≤ (140737488355328 : Nat) ∧ (flat [textOf (nputL x.p false), x.r 0]).length ≤ 140737488355328) ∧ (((0 : Int) ≤ (192 : Int) ∧ (192 : Int) ≤ (192 : Int)) ∧ 0 ≤ (↑(flat [textOf (nputL x.p false), x.r 0]).length : Int) ∧ (↑(flat [textOf (nputL x.p false), x.r 0]).length : Int) < 1152921504606846976) ∧ (↑(headOf 192 (↑(flat [textOf (nputL x.p false), x.r 0]).length : Int).toNat).length : Int) + (↑(flat [textOf (nputL x.p false), x.r 0]).length : Int) ≤ 9223372036854775807 ∧ R (SV.str false (cat (headOf 192 (↑(flat [textOf (nputL x.p false), x.r 0]).length : Int).toNat) (flat [textOf (nputL x.p false), x.r 0])))) ∧ (nibB x.p = false → (0 : Nat) < (1152921504606846976 : Nat) ∧ some (SB.cells x.sv.cells 19 44) = some (SB.cells x.sv.cells 19 44) ∧ (((2 : Nat) = (2 : Nat) ∧ (2 : Nat) ≤ (2 : Nat)) ∧ (2 : Nat) ≤ (140737488355328 : Nat) ∧ (flat [textOf [], x.r 0]).length ≤ 140737488355328) ∧ (((0 : Int) ≤ (192 : Int) ∧ (192 : Int) ≤ (192 : Int)) ∧
 0 ≤ (↑(flat [textOf [], x.r 0]).length : Int) ∧ (↑(flat [textOf [], x.r 0]).length : Int) < 1152921504606846976) ∧ (↑(headOf 192 (↑(flat [textOf [], x.r 0]).length : Int).toNat).length : Int) + (↑(flat [textOf [], x.r 0]).length : Int) ≤ 9223372036854775807 ∧ R (SV.str false (cat (headOf 192 (↑(flat [textOf [], x.r 0]).length : Int).toNat) (flat [textOf [], x.r 0])))))) := by kernel_rfl
theorem vcNoneText (x : Nd) (R : SV → Prop) : VC.holds (runP cfgN3 41 Tryz.f41 [x.sv] R) = (((0 : Nat) < (1152921504606846976 : Nat) ∧ R (SV.str true (textOf [])))) := by kernel_rfl
theorem vcBranchText (x : Nd) (R : SV → Prop) : VC.holds (runP (cfgBT x) 44 Tryz.f44 [x.sv] R) = ((fun R0 : Nat → (Nat) → SV => ((fun R1 : Nat → SV => ((fun R2 : Nat → (Nat) → SV => ((fun R3 : Nat → (Nat) → SV => ((fun R4 : Nat → (Nat) → SV => ((fun R5 : Nat → (Nat) → SV => ((fun P0 : SB => ((fun P1 : SB => (((0 : Nat) < (1152921504606846976 : Nat) ∧ some P0 = some P0 ∧ (0 : Nat) < (1152921504606846976 : Nat) ∧ some P0 = some P0 ∧ (0 : Nat) < (1152921504606846976 : Nat) ∧ some P0 = some P0 ∧ (0 : Nat) < (1152921504606846976 : Nat) ∧ some P0 = some P0 ∧ (0 : Nat) < (1152921504606846976 : Nat) ∧ some P0 = some P0 ∧ (0 : Nat) < (1152921504606846976 : Nat) ∧ some P0 = some P0 ∧ (0 : Nat) < (1152921504606846976 : Nat) ∧ some P0 = some P0 ∧ (0 : Nat) < (1152921504606846976 : Nat) ∧ some P0 = some P0 ∧ (0 : Nat) < (1152921504606846976 : Nat) ∧ some P0 = some P0 ∧ (0 : Nat) < (1152921504606846976 : Nat) ∧ some P0 = some P0 ∧ (0 : Nat) < (1152921504606846976 : Nat) ∧ some P0 = some P0 ∧ (0 : Nat) < (1152921504606846976 : Nat) ∧ some P0 = some P0 ∧ (0 : Nat) < (1152921504606846976 : Nat) ∧ some P0 = some P0 ∧ (0 : Nat) < (1152921504606846976 : Nat) ∧ some P0 = some P0 ∧ (0 : Nat) < (1152921504606846976 : Nat) ∧ some P0 = some P0 ∧ (0 : Nat) < (1152921504606846976 : Nat) ∧ some P0 = some P0 ∧ (0 : Nat) < (1152921504606846976 : Nat) ∧ some P0 = some P0 ∧ ∀ (u4 : Loop), (∃ (u3 : Nat), u3 ≤ 16 ∧ 0 = (u3 : Int) ∧
 SBle (SB.cells [SV.str true (textOf []), SV.str true (textOf []), SV.str true (textOf []), SV.str true (textOf []), SV.str true (textOf []), SV.str true (textOf []), SV.str true (textOf []), SV.str true (textOf []), SV.str true (textOf []), SV.str true (textOf []), SV.str true (textOf []), SV.str true (textOf []), SV.str true (textOf []), SV.str true (textOf []), SV.str true (textOf []), SV.str true (textOf []), SV.str true (textOf [])] 17 9) (SB.cells [R0 0 u3, R0 1 u3, R0 2 u3, R0 3 u3, R0 4 u3, R0 5 u3, R0 6 u3, R0 7 u3, R0 8 u3, R0 9 u3, R0 10 u3, R0 11 u3, R0 12 u3, R0 13 u3, R0 14 u3, R0 15 u3, R0 16 u3] 17 9) ∧ SBle (SB.loop LoopState.ready none u4) (SB.loop LoopState.ready none u4) ∧ SBle P1 P1 ∧ SBle P0 P0 ∧ SBle (SB.cells x.sv.cells 19 44) (SB.cells x.sv.cells 19 44) ∧ True) ∧ ∀ (u2 : Nat), u2 ≤ 16 → (decide ((u2 : Int) < 16) = true → (0 ≤ (u2 : Int) ∧ (u2 : Int) < 16 ∧ (u2 : Int) < (↑(16 : Nat) : Int)) ∧ ((!decide (selS [x.r 0, x.r 1, x.r 2, x.r 3, x.r 4, x.r 5, x.r 6, x.r 7, x.r 8, x.r 9, x.r 10, x.r 11, x.r 12, x.r 13, x.r 14, x.r 15] (u2 : Int).toNat = [])) = true → u4 = u4 ∧ (0 ≤ (u2 : Int) ∧ (u2 : Int) < 17) ∧ (u2 : Int).toNat < 17 ∧
 ((-9223372036854775808 : Int) ≤ (u2 : Int) + 1 ∧ (u2 : Int) + 1 ≤ (9223372036854775807 : Int)) ∧ ∃ (u1 : Nat), (u1 ≤ 16 ∧ 16 - u1 < 16 - u2) ∧ (u2 : Int) + 1 = (u1 : Int) ∧ SBle (SB.cells [R2 0 u2, R2 1 u2, R2 2 u2, R2 3 u2, R2 4 u2, R2 5 u2, R2 6 u2, R2 7 u2, R2 8 u2, R2 9 u2, R2 10 u2, R2 11 u2, R2 12 u2, R2 13 u2, R2 14 u2, R2 15 u2, R2 16 u2] 17 9) (SB.cells [R3 0 u1, R3 1 u1, R3 2 u1, R3 3 u1, R3 4 u1, R3 5 u1, R3 6 u1, R3 7 u1, R3 8 u1, R3 9 u1, R3 10 u1, R3 11 u1, R3 12 u1, R3 13 u1, R3 14 u1, R3 15 u1, R3 16 u1] 17 9) ∧ SBle (SB.loop LoopState.ready none u4) (SB.loop LoopState.ready none u4) ∧ SBle P1 P1 ∧ SBle P0 P0 ∧ SBle (SB.cells x.sv.cells 19 44) (SB.cells x.sv.cells 19 44) ∧ True) ∧ ((!decide (selS [x.r 0, x.r 1, x.r 2, x.r 3, x.r 4, x.r 5, x.r 6, x.r 7, x.r 8, x.r 9, x.r 10, x.r 11, x.r 12, x.r 13, x.r 14, x.r 15] (u2 : Int).toNat = [])) = false → ((-9223372036854775808 : Int) ≤ (u2 : Int) + 1 ∧ (u2 : Int) + 1 ≤ (9223372036854775807 : Int)) ∧ ∃ (u0 : Nat), (u0 ≤ 16 ∧ 16 - u0 < 16 - u2) ∧ (u2 : Int) + 1 = (u0 : Int) ∧
 SBle (SB.cells [R4 0 u2, R4 1 u2, R4 2 u2, R4 3 u2, R4 4 u2, R4 5 u2, R4 6 u2, R4 7 u2, R4 8 u2, R4 9 u2, R4 10 u2, R4 11 u2, R4 12 u2, R4 13 u2, R4 14 u2, R4 15 u2, R4 16 u2] 17 9) (SB.cells [R5 0 u0, R5 1 u0, R5 2 u0, R5 3 u0, R5 4 u0, R5 5 u0, R5 6 u0, R5 7 u0, R5 8 u0, R5 9 u0, R5 10 u0, R5 11 u0, R5 12 u0, R5 13 u0, R5 14 u0, R5 15 u0, R5 16 u0] 17 9) ∧ SBle (SB.loop LoopState.ready none u4) (SB.loop LoopState.ready none u4) ∧ SBle P1 P1 ∧ SBle P0 P0 ∧ SBle (SB.cells x.sv.cells 19 44) (SB.cells x.sv.cells 19 44) ∧ True)) ∧ (decide ((u2 : Int) < 16) = false → x.v.length < 1152921504606846976 ∧ some P0 = some P0 ∧ (((17 : Nat) = (17 : Nat) ∧ (17 : Nat) ≤ (17 : Nat)) ∧ (17 : Nat) ≤ (140737488355328 : Nat) ∧ (flat [brI x.r u2 0, brI x.r u2 1, brI x.r u2 2, brI x.r u2 3, brI x.r u2 4, brI x.r u2 5, brI x.r u2 6, brI x.r u2 7, brI x.r u2 8, brI x.r u2 9, brI x.r u2 10, brI x.r u2 11, brI x.r u2 12, brI x.r u2 13, brI x.r u2 14, brI x.r u2 15, textOf x.v]).length ≤ 140737488355328) ∧ (((0 : Int) ≤ (192 : Int) ∧ (192 : Int) ≤ (192 : Int)) ∧
 0 ≤ (↑(flat [brI x.r u2 0, brI x.r u2 1, brI x.r u2 2, brI x.r u2 3, brI x.r u2 4, brI x.r u2 5, brI x.r u2 6, brI x.r u2 7, brI x.r u2 8, brI x.r u2 9, brI x.r u2 10, brI x.r u2 11, brI x.r u2 12, brI x.r u2 13, brI x.r u2 14, brI x.r u2 15, textOf x.v]).length : Int) ∧ (↑(flat [brI x.r u2 0, brI x.r u2 1, brI x.r u2 2, brI x.r u2 3, brI x.r u2 4, brI x.r u2 5, brI x.r u2 6, brI x.r u2 7, brI x.r u2 8, brI x.r u2 9, brI x.r u2 10, brI x.r u2 11, brI x.r u2 12, brI x.r u2 13, brI x.r u2 14, brI x.r u2 15, textOf x.v]).length : Int) < 1152921504606846976) ∧ (↑(headOf 192 (↑(flat [brI x.r u2 0, brI x.r u2 1, brI x.r u2 2, brI x.r u2 3, brI x.r u2 4, brI x.r u2 5, brI x.r u2 6, brI x.r u2 7, brI x.r u2 8, brI x.r u2 9, brI x.r u2 10, brI x.r u2 11, brI x.r u2 12, brI x.r u2 13, brI x.r u2 14, brI x.r u2 15, textOf x.v]).length : Int).toNat).length : Int) + (↑(flat [brI x.r u2 0, brI x.r u2 1, brI x.r u2 2, brI x.r u2 3, brI x.r u2 4, brI x.r u2 5, brI x.r u2 6, brI x.r u2 7, brI x.r u2 8, brI x.r u2 9, brI x.r u2 10, brI x.r u2 11, brI x.r u2 12, brI x.r u2 13, brI x.r u2 14, brI x.r u2 15, textOf x.v]).length : Int) ≤ 9223372036854775807 ∧
 R (SV.str false (cat (headOf 192 (↑(flat [brI x.r u2 0, brI x.r u2 1, brI x.r u2 2, brI x.r u2 3, brI x.r u2 4, brI x.r u2 5, brI x.r u2 6, brI x.r u2 7, brI x.r u2 8, brI x.r u2 9, brI x.r u2 10, brI x.r u2 11, brI x.r u2 12, brI x.r u2 13, brI x.r u2 14, brI x.r u2 15, textOf x.v]).length : Int).toNat) (flat [brI x.r u2 0, brI x.r u2 1, brI x.r u2 2, brI x.r u2 3, brI x.r u2 4, brI x.r u2 5, brI x.r u2 6, brI x.r u2 7, brI x.r u2 8, brI x.r u2 9, brI x.r u2 10, brI x.r u2 11, brI x.r u2 12, brI x.r u2 13, brI x.r u2 14, brI x.r u2 15, textOf x.v]))))))) (SB.cells (SV.agg [SV.int .i64 false x.k, SV.str false x.p, SV.str false x.v, R1 0, R1 1, R1 2, R1 3, R1 4, R1 5, R1 6, R1 7, R1 8, R1 9, R1 10, R1 11, R1 12, R1 13, R1 14, R1 15]).cells 19 44))) (SB.cells (setRange SV.nilslc.cells 0 (SV.slc ((0 : Nat) + (1 : Nat)) 0 17 true 17).cells) 1 32))) (fun (n0 : Nat) (u0 : Nat) => SV.str false (brI x.r u0 n0)))) (fun (n0 : Nat) (u2 : Nat) => SV.str false (brI x.r u2 n0)))) (fun (n0 : Nat) (u1 : Nat) => SV.str false (brI x.r u1 n0)))) (fun (n0 : Nat) (u2 : Nat) => SV.str false (if (u2 : Int).toNat = n0 then selS [x.r 0, x.r 1, x.r 2, x.r 3, x.r 4, x.r 5, x.r 6, x.r 7, x.r 8, x.r 9, x.r 10, x.r 11, x.r 12, x.r 13, x.r 14, x.r 15] (u2 : Int).toNat else brI x.r u2 n0)))) (fun (n0 : Nat)  => SV.str false (x.r n0)))) (fun (n0 : Nat) (u3 : Nat) => SV.str false (brI x.r u3 n0))) := by kernel_rfl
end Go.Proofs.YtkfdcapnogklfaaGreatDoor
/-
  Node: texts of nodes: the contracts.
-/
namespace Go.Proofs.YtkfdcapnogklfaaGreatDoor
open Go Sx
set_option maxRecDepth 20000
theorem head_le9 (b : Int) (n : Nat) : (headOf b n).length ≤ 9 := by
  unfold headOf
  split
  · simp
  · have := dig_len 8 n
    show (UInt8.ofNat _ :: digits n).length ≤ 9
    rw [List.length_cons]
    have : (digits n).length ≤ 8 := dig_len 8 n
    omega
theorem text_le (b : List UInt8) : (textOf b).length ≤ b.length + 9 := by
  unfold textOf
  split
  · omega
  · have := head_le9 128 b.length
    rw [List.length_append]; omega
theorem behindI_congr {r r' : Nat → List UInt8} : ∀ {n : Nat}, (∀ j, j < n → r j = r' j) → behindI r n = behindI r' n
  | 0, _ => rfl
  | n + 1, h => by
    unfold behindI
    rw [h n (by omega), behindI_congr (fun j hj => h j (by omega))]
theorem getD16 (r : Nat → List UInt8) (j : Nat) (h : j < 16) : [r 0, r 1, r 2, r 3, r 4, r 5, r 6, r 7, r 8, r 9, r 10, r 11, r 12, r 13, r 14, r 15].getD j [] = r j := sel16 r h
theorem leaf_holds (x : Nd) : Holds (runP cfgN3 28 Tryz.f28 [x.sv] (fun v => sameVal v (.bool false (leafB x)))) := by
  refine Holds.of_eq (vcLeaf x _) ?_
  have e : pathB { k := x.k, p := x.p, v := x.v, r := fun (i : Nat) => [x.r 0, x.r 1, x.r 2, x.r 3, x.r 4, x.r 5, x.r 6, x.r 7, x.r 8, x.r 9, x.r 10, x.r 11, x.r 12, x.r 13, x.r 14, x.r 15].getD i [] : Nd } 0 = pathB x 0 := rfl
  rw [e, behindI_congr (getD16 x.r)]
  unfold leafB
  refine ⟨trivial, fun a => ⟨fun b => ⟨fun c => ⟨trivial, bool_eq ?_⟩, fun c => bool_eq ?_⟩, fun b => bool_eq ?_⟩, fun a => bool_eq ?_⟩
  · rw [a, b, c]; rfl
  · rw [a, b, c]; rfl
  · rw [a, b]; rfl
  · rw [a]; rfl
def ndSpec (g : Nd → Option (Prop × SV)) : List SV → Option (Prop × SV)
  | [.agg l] => (match ndOf l with
    | some x => g x
    | none => none)
  | _ => none
theorem ndSpec_eq {g : Nd → Option (Prop × SV)} {args : List SV} {p : Prop} {v : SV} (h : ndSpec g args = some (p, v)) : ∃ x, args = [x.sv] ∧ g x = some (p, v) := by
  unfold ndSpec at h
  split at h
  · split at h
    · rename_i x hx
      exact ⟨x, by rw [ndOf_eq hx], h⟩
    · cases h
  · cases h
theorem nd_wf (x : Nd) : SV.wfs 0 [x.sv] = true := rfl
theorem leaf_ok : CallOk Tryz.prog 28 (purePT (ndSpec fun x => some (True, .bool false (leafB x)))) := by
  refine pure_ok goodN3 (n := 20) (fn := Tryz.f28) Tryz.func28 (by kernel_rfl) (by kernel_rfl) ?_
  intro args p r h hp
  obtain ⟨x, hx, hg⟩ := ndSpec_eq h
  subst hx
  injection hg with hg; injection hg with h1 h2; subst h1; subst h2
  exact ⟨nd_wf x, rfl, leaf_holds x⟩
theorem flat2_le {a b : List UInt8} : (flat [a, b]).length = a.length + b.length := by simp [flat]
theorem pathT_le {x : Nd} {leaf : Bool} : (pathT x leaf).length ≤ x.p.length + 2 := by
  unfold pathT
  cases nibB x.p with
  | false => simp
  | true =>
    simp only [cond_true, nputL, pairsL_len, List.length_cons]
    cases decide ((x.p.length : Int) % 2 = 1) <;> simp only [cond_true, cond_false, List.length_cons] <;> omega
theorem leafText_holds {x : Nd} (hx : x.Few) : Holds (runP cfgN3 42 Tryz.f42 [x.sv] (fun v => sameVal v (.str false (leafT x)))) := by
  refine Holds.of_eq (vcLeafText x _) ?_
  have h1 := hx.p
  have h2 := hx.v
  have h3 := pathT_le (x := x) (leaf := true)
  have h4 := text_le (pathT x true)
  have h5 := text_le x.v
  have h6 := flat2_le (a := textOf (pathT x true)) (b := textOf x.v)
  have h7 := head_le9 192 (((flat [textOf (pathT x true), textOf x.v]).length : Nat) : Int).toNat
  refine ⟨by omega, fun a => ?_, fun a => ?_⟩
  · have e : nputL x.p true = pathT x true := by rw [pathT, a]; rfl
    rw [e]
    exact ⟨by omega, rfl, by omega, by omega, by omega, by omega, fun E => by rw [leafT, listOf, Int.toNat_natCast]; rfl⟩
  · have e : [] = pathT x true := by rw [pathT, a]; rfl
    rw [e]
    exact ⟨by omega, rfl, by omega, by omega, by omega, by omega, fun E => by rw [leafT, listOf, Int.toNat_natCast]; rfl⟩
theorem extText_holds {x : Nd} (hx : x.Few) : Holds (runP cfgN3 43 Tryz.f43 [x.sv] (fun v => sameVal v (.str false (extT x)))) := by
  refine Holds.of_eq (vcExtText x _) ?_
  have h1 := hx.p
  have h2 := hx.r 0 (by decide)
  have h3 := pathT_le (x := x) (leaf := false)
  have h4 := text_le (pathT x false)
  have h6 := flat2_le (a := textOf (pathT x false)) (b := x.r 0)
  have h7 := head_le9 192 (((flat [textOf (pathT x false), x.r 0]).length : Nat) : Int).toNat
  refine ⟨by omega, fun a => ?_, fun a => ?_⟩
  · have e : nputL x.p false = pathT x false := by rw [pathT, a]; rfl
    rw [e]
    exact ⟨by omega, rfl, by omega, by omega, by omega, fun E => by rw [extT, listOf, Int.toNat_natCast]; rfl⟩
  · have e : [] = pathT x false := by rw [pathT, a]; rfl
    rw [e]
    exact ⟨by omega, rfl, by omega, by omega, by omega, fun E => by rw [extT, listOf, Int.toNat_natCast]; rfl⟩
theorem strs17_le {f g : Nat → List UInt8} {tot : Nat} {ty : TypeId} (h : ∀ j, j < 17 → f j = g j) : SBle (.cells (strs17 f) tot ty) (.cells (strs17 g) tot ty) := by
  have e : strs17 f = strs17 g := by
    unfold strs17
    rw [h 0 (by decide), h 1 (by decide), h 2 (by decide), h 3 (by decide), h 4 (by decide), h 5 (by decide), h 6 (by decide), h 7 (by decide), h 8 (by decide), h 9 (by decide), h 10 (by decide), h 11 (by decide), h 12 (by decide), h 13 (by decide), h 14 (by decide), h 15 (by decide), h 16 (by decide)]
  rw [e]; exact SBle.refl _
theorem brI_step {r : Nat → List UInt8} {i : Nat} (_hi : i < 16) (h : r i ≠ []) (j : Nat) : (if i = j then r i else brI r i j) = brI r (i + 1) j := by
  unfold brI
  by_cases e : i = j
  · subst e
    rw [if_pos rfl, if_pos (by omega), if_neg h]
  · rw [if_neg e]
    by_cases e1 : j < i
    · rw [if_pos e1, if_pos (show j < i + 1 by omega)]
    · rw [if_neg e1, if_neg (show ¬ j < i + 1 by omega)]
theorem brI_skip {r : Nat → List UInt8} {i : Nat} (h : r i = []) (j : Nat) : brI r i j = brI r (i + 1) j := by
  unfold brI
  by_cases e : i = j
  · subst e
    rw [if_neg (by omega), if_pos (by omega), if_pos h]
  · by_cases e1 : j < i
    · rw [if_pos e1, if_pos (show j < i + 1 by omega)]
    · rw [if_neg e1, if_neg (show ¬ j < i + 1 by omega)]
theorem flat_le {l : List (List UInt8)} {m : Nat} (h : ∀ x ∈ l, x.length ≤ m) : (flat l).length ≤ l.length * m := by
  induction l with
  | nil => simp [flat]
  | cons a r ih =>
    have h1 := h a (List.mem_cons_self ..)
    have h2 := ih fun x hx => h x (List.mem_cons_of_mem _ hx)
    have e : (flat (a :: r)).length = a.length + (flat r).length := by simp [flat]
    rw [e, List.length_cons, Nat.succ_mul]; omega
theorem brI_le {x : Nd} (hx : x.Few) (i j : Nat) (h : j < 16) : (brI x.r i j).length ≤ 1000 := by
  have := hx.r j h
  unfold brI
  split
  · split
    · simp
    · exact this
  · simp
theorem branchText_holds {x : Nd} (hx : x.Few) : Holds (runP (cfgBT x) 44 Tryz.f44 [x.sv] (fun v => sameVal v (.str false (branchT x)))) := by
  refine Holds.of_eq (vcBranchText x _) ?_
  dsimp only
  refine ⟨by omega, rfl, by omega, rfl, by omega, rfl, by omega, rfl, by omega, rfl, by omega, rfl, by omega, rfl, by omega, rfl, by omega, rfl, by omega, rfl, by omega, rfl, by omega, rfl, by omega, rfl, by omega, rfl, by omega, rfl, by omega, rfl, by omega, rfl, fun R => ⟨⟨0, by omega, rfl, Sx.SBle.cells (fun E => rfl) rfl, SBle.refl _, SBle.refl _, SBle.refl _, SBle.refl _, trivial⟩, fun i hi => ⟨fun a => ?_, fun a => ?_⟩⟩⟩
  · have a := of_decide_eq_true a
    have ei : i < 16 := by omega
    have es := sel16 x.r ei
    rw [Int.toNat_natCast, es]
    refine ⟨by omega, fun b => ⟨rfl, by omega, by omega, by omega, i + 1, by omega, by omega, ?_, SBle.refl _, SBle.refl _, SBle.refl _, SBle.refl _, trivial⟩, fun b => ⟨by omega, i + 1, by omega, by omega, ?_, SBle.refl _, SBle.refl _, SBle.refl _, SBle.refl _, trivial⟩⟩
    · have b : ¬ x.r i = [] := by simpa using b
      exact strs17_le (f := fun j => if i = j then x.r i else brI x.r i j) (g := brI x.r (i + 1)) fun j hj => brI_step ei b j
    · have b : x.r i = [] := by simpa using b
      exact strs17_le fun j hj => brI_skip b j
  · have a := of_decide_eq_false a
    have e : i = 16 := by omega
    subst e
    have h1 := hx.v
    have h2 := text_le x.v
    have hb := brI_le hx 16
    have h6 : (flat [brI x.r 16 0, brI x.r 16 1, brI x.r 16 2, brI x.r 16 3, brI x.r 16 4, brI x.r 16 5, brI x.r 16 6, brI x.r 16 7, brI x.r 16 8, brI x.r 16 9, brI x.r 16 10, brI x.r 16 11, brI x.r 16 12, brI x.r 16 13, brI x.r 16 14, brI x.r 16 15, textOf x.v]).length ≤ 17 * 2000 := by
      refine flat_le (m := 2000) fun y hy => ?_
      simp only [List.mem_cons, List.not_mem_nil, or_false] at hy
      rcases hy with rfl | rfl | rfl | rfl | rfl | rfl | rfl | rfl | rfl | rfl | rfl | rfl | rfl | rfl | rfl | rfl | rfl
      · exact Nat.le_trans (hb 0 (by decide)) (by decide)
      · exact Nat.le_trans (hb 1 (by decide)) (by decide)
      · exact Nat.le_trans (hb 2 (by decide)) (by decide)
      · exact Nat.le_trans (hb 3 (by decide)) (by decide)
      · exact Nat.le_trans (hb 4 (by decide)) (by decide)
      · exact Nat.le_trans (hb 5 (by decide)) (by decide)
      · exact Nat.le_trans (hb 6 (by decide)) (by decide)
      · exact Nat.le_trans (hb 7 (by decide)) (by decide)
      · exact Nat.le_trans (hb 8 (by decide)) (by decide)
      · exact Nat.le_trans (hb 9 (by decide)) (by decide)
      · exact Nat.le_trans (hb 10 (by decide)) (by decide)
      · exact Nat.le_trans (hb 11 (by decide)) (by decide)
      · exact Nat.le_trans (hb 12 (by decide)) (by decide)
      · exact Nat.le_trans (hb 13 (by decide)) (by decide)
      · exact Nat.le_trans (hb 14 (by decide)) (by decide)
      · exact Nat.le_trans (hb 15 (by decide)) (by decide)
      · omega
    have h7 := head_le9 192 (((flat [brI x.r 16 0, brI x.r 16 1, brI x.r 16 2, brI x.r 16 3, brI x.r 16 4, brI x.r 16 5, brI x.r 16 6, brI x.r 16 7, brI x.r 16 8, brI x.r 16 9, brI x.r 16 10, brI x.r 16 11, brI x.r 16 12, brI x.r 16 13, brI x.r 16 14, brI x.r 16 15, textOf x.v]).length : Nat) : Int).toNat
    have e : branchT x = cat (headOf 192 (((flat [brI x.r 16 0, brI x.r 16 1, brI x.r 16 2, brI x.r 16 3, brI x.r 16 4, brI x.r 16 5, brI x.r 16 6, brI x.r 16 7, brI x.r 16 8, brI x.r 16 9, brI x.r 16 10, brI x.r 16 11, brI x.r 16 12, brI x.r 16 13, brI x.r 16 14, brI x.r 16 15, textOf x.v]).length : Nat) : Int).toNat) (flat [brI x.r 16 0, brI x.r 16 1, brI x.r 16 2, brI x.r 16 3, brI x.r 16 4, brI x.r 16 5, brI x.r 16 6, brI x.r 16 7, brI x.r 16 8, brI x.r 16 9, brI x.r 16 10, brI x.r 16 11, brI x.r 16 12, brI x.r 16 13, brI x.r 16 14, brI x.r 16 15, textOf x.v]) := by rw [branchT, listOf, Int.toNat_natCast]; rfl
    generalize flat [brI x.r 16 0, brI x.r 16 1, brI x.r 16 2, brI x.r 16 3, brI x.r 16 4, brI x.r 16 5, brI x.r 16 6, brI x.r 16 7, brI x.r 16 8, brI x.r 16 9, brI x.r 16 10, brI x.r 16 11, brI x.r 16 12, brI x.r 16 13, brI x.r 16 14, brI x.r 16 15, textOf x.v] = F at *
    exact ⟨by omega, rfl, by omega, by omega, by omega, fun E => by rw [e]⟩
theorem noneText_ok : CallOk Tryz.prog 41 (purePT (ndSpec fun _ => some (True, .str false [128]))) := by
  refine pure_ok goodN3 (n := 20) (fn := Tryz.f41) Tryz.func41 (by kernel_rfl) (by kernel_rfl) ?_
  intro args p r h hp
  obtain ⟨x, hx, hg⟩ := ndSpec_eq h
  subst hx
  injection hg with hg; injection hg with h1 h2; subst h1; subst h2
  exact ⟨nd_wf x, rfl, Holds.of_eq (vcNoneText x _) ⟨by omega, fun E => rfl⟩⟩
theorem leafText_ok : CallOk Tryz.prog 42 (purePT (ndSpec fun x => some (x.Few, .str false (leafT x)))) := by
  refine pure_ok goodN3 (n := 20) (fn := Tryz.f42) Tryz.func42 (by kernel_rfl) (by kernel_rfl) ?_
  intro args p r h hp
  obtain ⟨x, hx, hg⟩ := ndSpec_eq h
  subst hx
  injection hg with hg; injection hg with h1 h2; subst h1; subst h2
  exact ⟨nd_wf x, rfl, leafText_holds hp⟩
theorem extText_ok : CallOk Tryz.prog 43 (purePT (ndSpec fun x => some (x.Few, .str false (extT x)))) := by
  refine pure_ok goodN3 (n := 20) (fn := Tryz.f43) Tryz.func43 (by kernel_rfl) (by kernel_rfl) ?_
  intro args p r h hp
  obtain ⟨x, hx, hg⟩ := ndSpec_eq h
  subst hx
  injection hg with hg; injection hg with h1 h2; subst h1; subst h2
  exact ⟨nd_wf x, rfl, extText_holds hp⟩
theorem branchText_ok : CallOk Tryz.prog 44 (purePT (ndSpec fun x => some (x.Few, .str false (branchT x)))) := by
  refine pure_of_ans (ans_ok (n := 20) (fn := Tryz.f44) Tryz.func44 (by kernel_rfl) (by kernel_rfl) ?_)
  intro args p a h hp
  obtain ⟨⟨p0, v0⟩, hq, hpa⟩ := Option.map_eq_some_iff.1 h
  obtain ⟨x, hx, hg⟩ := ndSpec_eq hq
  subst hx
  injection hg with hg; injection hg with g1 g2; subst g1; subst g2
  injection hpa with h1 h2; subst h1; subst h2
  exact ⟨_, goodBT x, nd_wf x, rfl, branchText_holds hp⟩
noncomputable def listN4 : List (FuncId × PT) := (28, purePT (ndSpec fun x => some (True, .bool false (leafB x)))) :: (41, purePT (ndSpec fun _ => some (True, .str false [128]))) ::
  (42, purePT (ndSpec fun x => some (x.Few, .str false (leafT x)))) :: (43, purePT (ndSpec fun x => some (x.Few, .str false (extT x)))) :: (44, purePT (ndSpec fun x => some (x.Few, .str false (branchT x)))) :: listN3
theorem listN4_ok : SummOk Tryz.prog (fun f => lookPT f listN4) := .cons leaf_ok (purePT_mono _) (.cons noneText_ok (purePT_mono _) (.cons leafText_ok (purePT_mono _) (.cons extText_ok (purePT_mono _) (.cons branchText_ok (purePT_mono _) listN3_ok))))
noncomputable def cfgN4 : Cfg := { cfg0 with summ := fun f => lookPT f listN4 }
theorem goodN4 : Sx.Good Tryz.prog cfgN4 := ⟨mixes, listN4_ok, fns_ok⟩
end Go.Proofs.YtkfdcapnogklfaaGreatDoor
