/-
  NARROWER THAN 'FOR EVERY INPUT', by the rows' own cells (each row's printed sentence says how): RlpNums: laid · RlpJoins: laid · RlpCuts: laid.
  DERIVED. THE GIVEN ROWS OF THIS SEAT. 3 by the template 'for every input the law returns true; each argument reads behind the call as it read before'; 0 by the template 'total and deterministic' (their statements: YtndbjcbfnmjheaaDoorTotals.lean).
  GIVEN WITH THE SEED: the statements are not yours to turn. If you find one false, say at which input.
  Laid BY PROGRAM, IN A SANDBOX (cutbox-rows.mjs): the forced cells as the released guide's own fill.sh prints them over the translation 68dc9f7644acccc3… (all of the seat's roots in one cut). By AI agents, Wed Nov 11 2026. No macro, syntax, notation, axiom, sorry.
-/
import Derived.Test.YtndbjcbfnmjheaaDoorChecked
import GoSem.Claim
import GoSem.ClaimJoined
import GoSem.ClaimMapViews
import Derived.JoinedTies
import Derived.KernelRfl
namespace Go.Proofs.YtndbjcbfnmjheaaDoor
/- THE CELL 'sum', in the pinned program and in every row, IS THE sha256 OF THE DUMP (.gsa) THAT YtndbjcbfnmjheaaDoorProg.lean LOADS. Nothing in Lean hashes anything: it is a label: what it is worth is what the hold of that sum in a sandbox is worth. -/
noncomputable def Tryd.pinned : Pinned := { name := "ytndbjcbfnmjheaadoor", sum := "68dc9f7644acccc3e21b6fb4f1f3a0341fe5de754ccc1832524175ae63cd9f92", checked := Tryd.checked }
namespace Rows
def none {H : Type} : Left H := { results := [], args := [] }

/- WHAT THE LISTED PACKAGE-LEVEL VARIABLES READ AS WHEN THE CALL BEGINS. Each datum BY PROGRAM (the guide's laid-datum.mjs) off the statement by which the dump's own 'gosem.cut.vars' lays the variable. In a bare row this is a premise. The card (YtndbjcbfnmjheaaDoorCards.lean) ties it to the program's text. -/
def laid_errors_errorType {H : Type} : DataW H := .iface "internal/reflectlite.rtype" (.agg [.ptr (.lit (.string [101, 114, 114, 111, 114]))])

/-- 'guillochelaw02.RlpNums': WHATEVER THE INPUT: true; the input reads as it did. -/
def rlpNumsSpec : ChangeSpec := { name := "rlpNums", fn := fun _ => fun
  | [d1, d2, d3] => { results := [.lit (.bool true)], args := [d1, d2, d3] }
  | _ => none }
def rlpNumsRow : OpenClaim := { program := "ytndbjcbfnmjheaadoor", sum := "68dc9f7644acccc3e21b6fb4f1f3a0341fe5de754ccc1832524175ae63cd9f92", func := "guilloche/guillochelaw02.RlpNums", spec := "rlpNums", inPlace := ["internal/reflectlite.TypeOf", "internal/abi.NoEscape", "internal/bytealg.MakeNoZero", "internal/reflectlite.ValueOf", "(internal/reflectlite.Value).Type", "(internal/reflectlite.Value).IsNil", "(internal/reflectlite.Value).Elem", "(internal/reflectlite.Value).Set"], unfollowed := true, recurses := true, named := ["errors.errorType"], apart := false, laid := [("errors.errorType", laid_errors_errorType)] }
def RlpNumsSaid : Prop := rlpNumsRow.holds Tryd.pinned (OpenSpec.ofChange rlpNumsSpec)

/-- ITS FALSE NEIGHBOUR: 'it returns false'. Refute it at one input. -/
def rlpNumsWrong : ChangeSpec := { name := "rlpNums", fn := fun _ => fun
  | [d1, d2, d3] => { results := [.lit (.bool false)], args := [d1, d2, d3] }
  | _ => none }
def RlpNumsWrongFalsely : Prop := rlpNumsRow.holds Tryd.pinned (OpenSpec.ofChange rlpNumsWrong)

/-- 'guillochelaw02.RlpJoins': WHATEVER THE INPUT: true; the input reads as it did. -/
def rlpJoinsSpec : ChangeSpec := { name := "rlpJoins", fn := fun _ => fun
  | [d1, d2] => { results := [.lit (.bool true)], args := [d1, d2] }
  | _ => none }
def rlpJoinsRow : OpenClaim := { program := "ytndbjcbfnmjheaadoor", sum := "68dc9f7644acccc3e21b6fb4f1f3a0341fe5de754ccc1832524175ae63cd9f92", func := "guilloche/guillochelaw02.RlpJoins", spec := "rlpJoins", inPlace := ["internal/reflectlite.TypeOf", "internal/abi.NoEscape", "internal/bytealg.MakeNoZero", "internal/reflectlite.ValueOf", "(internal/reflectlite.Value).Type", "(internal/reflectlite.Value).IsNil", "(internal/reflectlite.Value).Elem", "(internal/reflectlite.Value).Set"], unfollowed := true, recurses := true, named := ["errors.errorType"], apart := false, laid := [("errors.errorType", laid_errors_errorType)] }
def RlpJoinsSaid : Prop := rlpJoinsRow.holds Tryd.pinned (OpenSpec.ofChange rlpJoinsSpec)

/-- ITS FALSE NEIGHBOUR: 'it returns false'. Refute it at one input. -/
def rlpJoinsWrong : ChangeSpec := { name := "rlpJoins", fn := fun _ => fun
  | [d1, d2] => { results := [.lit (.bool false)], args := [d1, d2] }
  | _ => none }
def RlpJoinsWrongFalsely : Prop := rlpJoinsRow.holds Tryd.pinned (OpenSpec.ofChange rlpJoinsWrong)

/-- 'guillochelaw02.RlpCuts': WHATEVER THE INPUT: true; the input reads as it did. -/
def rlpCutsSpec : ChangeSpec := { name := "rlpCuts", fn := fun _ => fun
  | [d1, d2, d3] => { results := [.lit (.bool true)], args := [d1, d2, d3] }
  | _ => none }
def rlpCutsRow : OpenClaim := { program := "ytndbjcbfnmjheaadoor", sum := "68dc9f7644acccc3e21b6fb4f1f3a0341fe5de754ccc1832524175ae63cd9f92", func := "guilloche/guillochelaw02.RlpCuts", spec := "rlpCuts", inPlace := ["internal/reflectlite.TypeOf", "internal/abi.NoEscape", "internal/bytealg.MakeNoZero", "internal/reflectlite.ValueOf", "(internal/reflectlite.Value).Type", "(internal/reflectlite.Value).IsNil", "(internal/reflectlite.Value).Elem", "(internal/reflectlite.Value).Set"], unfollowed := true, recurses := true, named := ["errors.errorType"], apart := false, laid := [("errors.errorType", laid_errors_errorType)] }
def RlpCutsSaid : Prop := rlpCutsRow.holds Tryd.pinned (OpenSpec.ofChange rlpCutsSpec)

/-- ITS FALSE NEIGHBOUR: 'it returns false'. Refute it at one input. -/
def rlpCutsWrong : ChangeSpec := { name := "rlpCuts", fn := fun _ => fun
  | [d1, d2, d3] => { results := [.lit (.bool false)], args := [d1, d2, d3] }
  | _ => none }
def RlpCutsWrongFalsely : Prop := rlpCutsRow.holds Tryd.pinned (OpenSpec.ofChange rlpCutsWrong)

/- THE SECOND FORM. 'bulk': how many values and letters a reading holds, each counted each time it is reached (what is shared counts as often as it is met; a slice's spare places count too). A statement '..UptoSaid' is the law's where the arguments, and the package variables that the reading takes, are together of bulk at most 1048576: NARROWER than '..Said'. Prove '..Said' where nothing that the law and all that it calls make is longer than what came in: it says more and counts as full. Else prove '..UptoSaid'. A law counts once. -/
mutual
def uptoBulk {H : Type} : DataW H → Nat
  | .lit (.string bytes) => bytes.length + 1
  | .lit _ => 1
  | .nil => 1
  | .ptr d => uptoBulk d + 1
  | .slice elems spare => uptoBulkAll elems + uptoBulkAll spare + 1
  | .agg parts => uptoBulkAll parts + 1
  | .iface _ d => uptoBulk d + 1
  | .map entries => uptoBulkEntries entries + 1
  | .held _ => 1
def uptoBulkAll {H : Type} : List (DataW H) → Nat
  | [] => 0
  | d :: r => uptoBulk d + uptoBulkAll r
def uptoBulkEntries {H : Type} : List (Lit × DataW H) → Nat
  | [] => 0
  | x :: r => uptoBulkEntry x + uptoBulkEntries r
def uptoBulkEntry {H : Type} : Lit × DataW H → Nat
  | (.string bytes, d) => bytes.length + uptoBulk d + 1
  | (_, d) => uptoBulk d + 1
 end
def uptoSmall : (H : Type) → List (DataW H) → Bool := fun _ ds => decide (uptoBulkAll ds ≤ 1048576)
def OpenSpec.upto (s : _root_.Go.ChangeSpec) : _root_.Go.OpenSpec := { _root_.Go.OpenSpec.ofChange s with cond := some uptoSmall }

/-- 'guillochelaw02.RlpNums', WHERE WHAT IT READS IS OF BULK AT MOST 1048576: true; the input reads as it did. -/
def rlpNumsUptoRow : OpenClaim := { program := "ytndbjcbfnmjheaadoor", sum := "68dc9f7644acccc3e21b6fb4f1f3a0341fe5de754ccc1832524175ae63cd9f92", func := "guilloche/guillochelaw02.RlpNums", spec := "rlpNums", inPlace := ["internal/reflectlite.TypeOf", "internal/abi.NoEscape", "internal/bytealg.MakeNoZero", "internal/reflectlite.ValueOf", "(internal/reflectlite.Value).Type", "(internal/reflectlite.Value).IsNil", "(internal/reflectlite.Value).Elem", "(internal/reflectlite.Value).Set"], unfollowed := true, recurses := true, named := ["errors.errorType"], apart := false, laid := [("errors.errorType", laid_errors_errorType)], narrowed := true }
def RlpNumsUptoSaid : Prop := rlpNumsUptoRow.holds Tryd.pinned (OpenSpec.upto rlpNumsSpec)

/-- 'guillochelaw02.RlpJoins', WHERE WHAT IT READS IS OF BULK AT MOST 1048576: true; the input reads as it did. -/
def rlpJoinsUptoRow : OpenClaim := { program := "ytndbjcbfnmjheaadoor", sum := "68dc9f7644acccc3e21b6fb4f1f3a0341fe5de754ccc1832524175ae63cd9f92", func := "guilloche/guillochelaw02.RlpJoins", spec := "rlpJoins", inPlace := ["internal/reflectlite.TypeOf", "internal/abi.NoEscape", "internal/bytealg.MakeNoZero", "internal/reflectlite.ValueOf", "(internal/reflectlite.Value).Type", "(internal/reflectlite.Value).IsNil", "(internal/reflectlite.Value).Elem", "(internal/reflectlite.Value).Set"], unfollowed := true, recurses := true, named := ["errors.errorType"], apart := false, laid := [("errors.errorType", laid_errors_errorType)], narrowed := true }
def RlpJoinsUptoSaid : Prop := rlpJoinsUptoRow.holds Tryd.pinned (OpenSpec.upto rlpJoinsSpec)

/-- 'guillochelaw02.RlpCuts', WHERE WHAT IT READS IS OF BULK AT MOST 1048576: true; the input reads as it did. -/
def rlpCutsUptoRow : OpenClaim := { program := "ytndbjcbfnmjheaadoor", sum := "68dc9f7644acccc3e21b6fb4f1f3a0341fe5de754ccc1832524175ae63cd9f92", func := "guilloche/guillochelaw02.RlpCuts", spec := "rlpCuts", inPlace := ["internal/reflectlite.TypeOf", "internal/abi.NoEscape", "internal/bytealg.MakeNoZero", "internal/reflectlite.ValueOf", "(internal/reflectlite.Value).Type", "(internal/reflectlite.Value).IsNil", "(internal/reflectlite.Value).Elem", "(internal/reflectlite.Value).Set"], unfollowed := true, recurses := true, named := ["errors.errorType"], apart := false, laid := [("errors.errorType", laid_errors_errorType)], narrowed := true }
def RlpCutsUptoSaid : Prop := rlpCutsUptoRow.holds Tryd.pinned (OpenSpec.upto rlpCutsSpec)

end Rows
end Go.Proofs.YtndbjcbfnmjheaaDoor
