/-
  NARROWER THAN 'FOR EVERY INPUT', by the rows' own cells (each row's printed sentence says how): SpanBuilds: laid · SpanSound: laid · SpanParts: laid · SpanTurned: laid · SpanWhole: laid · SpanKey: laid · WirePuts: laid · WireProves: laid.
  DERIVED. THE GIVEN ROWS OF THIS SEAT. 8 by the template 'for every input the law returns true; each argument reads behind the call as it read before'; 0 by the template 'total and deterministic' (their statements: YtoibaecagklkaaaGreatDoorTotals.lean).
  GIVEN WITH THE SEED: the statements are not yours to turn. If you find one false, say at which input.
  Laid BY PROGRAM, IN A SANDBOX (cutbox-rows.mjs): the forced cells as the released guide's own fill.sh prints them over the translation b9a7546f00fbf995… (all of the seat's roots in one cut). By AI agents, Wed Nov 11 2026. No macro, syntax, notation, axiom, sorry.
-/
import Derived.Test.YtoibaecagklkaaaGreatDoorChecked
import GoSem.Claim
import GoSem.ClaimJoined
import GoSem.ClaimMapViews
import Derived.JoinedTies
import Derived.KernelRfl
namespace Go.Proofs.YtoibaecagklkaaaGreatDoor
/- THE CELL 'sum', in the pinned program and in every row, IS THE sha256 OF THE DUMP (.gsa) THAT YtoibaecagklkaaaGreatDoorProg.lean LOADS. Nothing in Lean hashes anything: it is a label: what it is worth is what the hold of that sum in a sandbox is worth. -/
noncomputable def Tryz.pinned : Pinned := { name := "ytoibaecagklkaaagreatdoor", sum := "b9a7546f00fbf9951fb5e437104a09229d6d7392cf8833f7104b6535620235fe", checked := Tryz.checked }
namespace Rows
def none {H : Type} : Left H := { results := [], args := [] }

/- WHAT THE LISTED PACKAGE-LEVEL VARIABLES READ AS WHEN THE CALL BEGINS. Each datum BY PROGRAM (the guide's laid-datum.mjs) off the statement by which the dump's own 'gosem.cut.vars' lays the variable. In a bare row this is a premise. The card (YtoibaecagklkaaaGreatDoorCards.lean) ties it to the program's text. -/
def laid_errors_errorType {H : Type} : DataW H := .iface "internal/reflectlite.rtype" (.agg [.ptr (.lit (.string [101, 114, 114, 111, 114]))])
def laid_guilloche_sha_cubes {H : Type} : DataW H := .agg [.lit (.int .u32 1116352408), .lit (.int .u32 1899447441), .lit (.int .u32 3049323471), .lit (.int .u32 3921009573), .lit (.int .u32 961987163), .lit (.int .u32 1508970993), .lit (.int .u32 2453635748), .lit (.int .u32 2870763221), .lit (.int .u32 3624381080), .lit (.int .u32 310598401), .lit (.int .u32 607225278), .lit (.int .u32 1426881987), .lit (.int .u32 1925078388), .lit (.int .u32 2162078206), .lit (.int .u32 2614888103), .lit (.int .u32 3248222580), .lit (.int .u32 3835390401), .lit (.int .u32 4022224774), .lit (.int .u32 264347078), .lit (.int .u32 604807628), .lit (.int .u32 770255983), .lit (.int .u32 1249150122), .lit (.int .u32 1555081692), .lit (.int .u32 1996064986), .lit (.int .u32 2554220882), .lit (.int .u32 2821834349), .lit (.int .u32 2952996808), .lit (.int .u32 3210313671), .lit (.int .u32 3336571891), .lit (.int .u32 3584528711), .lit (.int .u32 113926993), .lit (.int .u32 338241895), .lit (.int .u32 666307205), .lit (.int .u32 773529912), .lit (.int .u32 1294757372), .lit (.int .u32 1396182291), .lit (.int .u32 1695183700), .lit (.int .u32 1986661051), .lit (.int .u32 2177026350), .lit (.int .u32 2456956037), .lit (.int .u32 2730485921), .lit (.int .u32 2820302411), .lit (.int .u32 3259730800), .lit (.int .u32 3345764771), .lit (.int .u32 3516065817), .lit (.int .u32 3600352804), .lit (.int .u32 4094571909), .lit (.int .u32 275423344), .lit (.int .u32 430227734), .lit (.int .u32 506948616), .lit (.int .u32 659060556), .lit (.int .u32 883997877), .lit (.int .u32 958139571), .lit (.int .u32 1322822218), .lit (.int .u32 1537002063), .lit (.int .u32 1747873779), .lit (.int .u32 1955562222), .lit (.int .u32 2024104815), .lit (.int .u32 2227730452), .lit (.int .u32 2361852424), .lit (.int .u32 2428436474), .lit (.int .u32 2756734187), .lit (.int .u32 3204031479), .lit (.int .u32 3329325298)]

/-- 'guillochelaw12.SpanBuilds': WHATEVER THE INPUT: true; the input reads as it did. -/
def spanBuildsSpec : ChangeSpec := { name := "spanBuilds", fn := fun _ => fun
  | [d1, d2, d3] => { results := [.lit (.bool true)], args := [d1, d2, d3] }
  | _ => none }
def spanBuildsRow : OpenClaim := { program := "ytoibaecagklkaaagreatdoor", sum := "b9a7546f00fbf9951fb5e437104a09229d6d7392cf8833f7104b6535620235fe", func := "guilloche/guillochelaw12.SpanBuilds", spec := "spanBuilds", inPlace := ["internal/reflectlite.TypeOf", "internal/reflectlite.ValueOf", "(internal/reflectlite.Value).Type", "(internal/reflectlite.Value).IsNil", "(internal/reflectlite.Value).Elem", "(internal/reflectlite.Value).Set", "internal/abi.NoEscape", "internal/bytealg.MakeNoZero"], unfollowed := true, recurses := true, named := ["guilloche/sha.cubes", "errors.errorType"], apart := false, laid := [("errors.errorType", laid_errors_errorType), ("guilloche/sha.cubes", laid_guilloche_sha_cubes)] }
def SpanBuildsSaid : Prop := spanBuildsRow.holds Tryz.pinned (OpenSpec.ofChange spanBuildsSpec)

/-- ITS FALSE NEIGHBOUR: 'it returns false'. Refute it at one input. -/
def spanBuildsWrong : ChangeSpec := { name := "spanBuilds", fn := fun _ => fun
  | [d1, d2, d3] => { results := [.lit (.bool false)], args := [d1, d2, d3] }
  | _ => none }
def SpanBuildsWrongFalsely : Prop := spanBuildsRow.holds Tryz.pinned (OpenSpec.ofChange spanBuildsWrong)

/-- 'guillochelaw12.SpanSound': WHATEVER THE INPUT: true; the input reads as it did. -/
def spanSoundSpec : ChangeSpec := { name := "spanSound", fn := fun _ => fun
  | [d1, d2, d3, d4] => { results := [.lit (.bool true)], args := [d1, d2, d3, d4] }
  | _ => none }
def spanSoundRow : OpenClaim := { program := "ytoibaecagklkaaagreatdoor", sum := "b9a7546f00fbf9951fb5e437104a09229d6d7392cf8833f7104b6535620235fe", func := "guilloche/guillochelaw12.SpanSound", spec := "spanSound", inPlace := ["internal/reflectlite.TypeOf", "internal/reflectlite.ValueOf", "(internal/reflectlite.Value).Type", "(internal/reflectlite.Value).IsNil", "(internal/reflectlite.Value).Elem", "(internal/reflectlite.Value).Set", "internal/abi.NoEscape", "internal/bytealg.MakeNoZero"], unfollowed := true, recurses := true, named := ["guilloche/sha.cubes", "errors.errorType"], apart := false, laid := [("errors.errorType", laid_errors_errorType), ("guilloche/sha.cubes", laid_guilloche_sha_cubes)] }
def SpanSoundSaid : Prop := spanSoundRow.holds Tryz.pinned (OpenSpec.ofChange spanSoundSpec)

/-- ITS FALSE NEIGHBOUR: 'it returns false'. Refute it at one input. -/
def spanSoundWrong : ChangeSpec := { name := "spanSound", fn := fun _ => fun
  | [d1, d2, d3, d4] => { results := [.lit (.bool false)], args := [d1, d2, d3, d4] }
  | _ => none }
def SpanSoundWrongFalsely : Prop := spanSoundRow.holds Tryz.pinned (OpenSpec.ofChange spanSoundWrong)

/-- 'guillochelaw12.SpanParts': WHATEVER THE INPUT: true; the input reads as it did. -/
def spanPartsSpec : ChangeSpec := { name := "spanParts", fn := fun _ => fun
  | [d1, d2, d3, d4] => { results := [.lit (.bool true)], args := [d1, d2, d3, d4] }
  | _ => none }
def spanPartsRow : OpenClaim := { program := "ytoibaecagklkaaagreatdoor", sum := "b9a7546f00fbf9951fb5e437104a09229d6d7392cf8833f7104b6535620235fe", func := "guilloche/guillochelaw12.SpanParts", spec := "spanParts", inPlace := ["internal/reflectlite.TypeOf", "internal/reflectlite.ValueOf", "(internal/reflectlite.Value).Type", "(internal/reflectlite.Value).IsNil", "(internal/reflectlite.Value).Elem", "(internal/reflectlite.Value).Set", "internal/abi.NoEscape", "internal/bytealg.MakeNoZero"], unfollowed := true, recurses := true, named := ["guilloche/sha.cubes", "errors.errorType"], apart := false, laid := [("errors.errorType", laid_errors_errorType), ("guilloche/sha.cubes", laid_guilloche_sha_cubes)] }
def SpanPartsSaid : Prop := spanPartsRow.holds Tryz.pinned (OpenSpec.ofChange spanPartsSpec)

/-- ITS FALSE NEIGHBOUR: 'it returns false'. Refute it at one input. -/
def spanPartsWrong : ChangeSpec := { name := "spanParts", fn := fun _ => fun
  | [d1, d2, d3, d4] => { results := [.lit (.bool false)], args := [d1, d2, d3, d4] }
  | _ => none }
def SpanPartsWrongFalsely : Prop := spanPartsRow.holds Tryz.pinned (OpenSpec.ofChange spanPartsWrong)

/-- 'guillochelaw12.SpanTurned': WHATEVER THE INPUT: true; the input reads as it did. -/
def spanTurnedSpec : ChangeSpec := { name := "spanTurned", fn := fun _ => fun
  | [d1, d2, d3, d4, d5] => { results := [.lit (.bool true)], args := [d1, d2, d3, d4, d5] }
  | _ => none }
def spanTurnedRow : OpenClaim := { program := "ytoibaecagklkaaagreatdoor", sum := "b9a7546f00fbf9951fb5e437104a09229d6d7392cf8833f7104b6535620235fe", func := "guilloche/guillochelaw12.SpanTurned", spec := "spanTurned", inPlace := ["internal/reflectlite.TypeOf", "internal/reflectlite.ValueOf", "(internal/reflectlite.Value).Type", "(internal/reflectlite.Value).IsNil", "(internal/reflectlite.Value).Elem", "(internal/reflectlite.Value).Set", "internal/abi.NoEscape", "internal/bytealg.MakeNoZero"], unfollowed := true, recurses := true, named := ["guilloche/sha.cubes", "errors.errorType"], apart := false, laid := [("errors.errorType", laid_errors_errorType), ("guilloche/sha.cubes", laid_guilloche_sha_cubes)] }
def SpanTurnedSaid : Prop := spanTurnedRow.holds Tryz.pinned (OpenSpec.ofChange spanTurnedSpec)

/-- ITS FALSE NEIGHBOUR: 'it returns false'. Refute it at one input. -/
def spanTurnedWrong : ChangeSpec := { name := "spanTurned", fn := fun _ => fun
  | [d1, d2, d3, d4, d5] => { results := [.lit (.bool false)], args := [d1, d2, d3, d4, d5] }
  | _ => none }
def SpanTurnedWrongFalsely : Prop := spanTurnedRow.holds Tryz.pinned (OpenSpec.ofChange spanTurnedWrong)

/-- 'guillochelaw12.SpanWhole': WHATEVER THE INPUT: true; the input reads as it did. -/
def spanWholeSpec : ChangeSpec := { name := "spanWhole", fn := fun _ => fun
  | [d] => { results := [.lit (.bool true)], args := [d] }
  | _ => none }
def spanWholeRow : OpenClaim := { program := "ytoibaecagklkaaagreatdoor", sum := "b9a7546f00fbf9951fb5e437104a09229d6d7392cf8833f7104b6535620235fe", func := "guilloche/guillochelaw12.SpanWhole", spec := "spanWhole", inPlace := ["internal/reflectlite.TypeOf", "internal/reflectlite.ValueOf", "(internal/reflectlite.Value).Type", "(internal/reflectlite.Value).IsNil", "(internal/reflectlite.Value).Elem", "(internal/reflectlite.Value).Set", "internal/abi.NoEscape", "internal/bytealg.MakeNoZero"], unfollowed := true, recurses := true, named := ["guilloche/sha.cubes", "errors.errorType"], apart := false, laid := [("errors.errorType", laid_errors_errorType), ("guilloche/sha.cubes", laid_guilloche_sha_cubes)] }
def SpanWholeSaid : Prop := spanWholeRow.holds Tryz.pinned (OpenSpec.ofChange spanWholeSpec)

/-- ITS FALSE NEIGHBOUR: 'it returns false'. Refute it at one input. -/
def spanWholeWrong : ChangeSpec := { name := "spanWhole", fn := fun _ => fun
  | [d] => { results := [.lit (.bool false)], args := [d] }
  | _ => none }
def SpanWholeWrongFalsely : Prop := spanWholeRow.holds Tryz.pinned (OpenSpec.ofChange spanWholeWrong)

/-- 'guillochelaw12.SpanKey': WHATEVER THE INPUT: true; the input reads as it did. -/
def spanKeySpec : ChangeSpec := { name := "spanKey", fn := fun _ => fun
  | [d1, d2] => { results := [.lit (.bool true)], args := [d1, d2] }
  | _ => none }
def spanKeyRow : OpenClaim := { program := "ytoibaecagklkaaagreatdoor", sum := "b9a7546f00fbf9951fb5e437104a09229d6d7392cf8833f7104b6535620235fe", func := "guilloche/guillochelaw12.SpanKey", spec := "spanKey", inPlace := ["internal/reflectlite.TypeOf", "internal/reflectlite.ValueOf", "(internal/reflectlite.Value).Type", "(internal/reflectlite.Value).IsNil", "(internal/reflectlite.Value).Elem", "(internal/reflectlite.Value).Set", "internal/abi.NoEscape", "internal/bytealg.MakeNoZero"], unfollowed := true, recurses := true, named := ["guilloche/sha.cubes", "errors.errorType"], apart := false, laid := [("errors.errorType", laid_errors_errorType), ("guilloche/sha.cubes", laid_guilloche_sha_cubes)] }
def SpanKeySaid : Prop := spanKeyRow.holds Tryz.pinned (OpenSpec.ofChange spanKeySpec)

/-- ITS FALSE NEIGHBOUR: 'it returns false'. Refute it at one input. -/
def spanKeyWrong : ChangeSpec := { name := "spanKey", fn := fun _ => fun
  | [d1, d2] => { results := [.lit (.bool false)], args := [d1, d2] }
  | _ => none }
def SpanKeyWrongFalsely : Prop := spanKeyRow.holds Tryz.pinned (OpenSpec.ofChange spanKeyWrong)

/-- 'guillochelaw13.WirePuts': WHATEVER THE INPUT: true; the input reads as it did. -/
def wirePutsSpec : ChangeSpec := { name := "wirePuts", fn := fun _ => fun
  | [d1, d2] => { results := [.lit (.bool true)], args := [d1, d2] }
  | _ => none }
def wirePutsRow : OpenClaim := { program := "ytoibaecagklkaaagreatdoor", sum := "b9a7546f00fbf9951fb5e437104a09229d6d7392cf8833f7104b6535620235fe", func := "guilloche/guillochelaw13.WirePuts", spec := "wirePuts", inPlace := ["internal/reflectlite.TypeOf", "internal/reflectlite.ValueOf", "(internal/reflectlite.Value).Type", "(internal/reflectlite.Value).IsNil", "(internal/reflectlite.Value).Elem", "(internal/reflectlite.Value).Set", "internal/abi.NoEscape", "internal/bytealg.MakeNoZero"], unfollowed := true, recurses := true, named := ["guilloche/sha.cubes", "errors.errorType"], apart := false, laid := [("errors.errorType", laid_errors_errorType), ("guilloche/sha.cubes", laid_guilloche_sha_cubes)] }
def WirePutsSaid : Prop := wirePutsRow.holds Tryz.pinned (OpenSpec.ofChange wirePutsSpec)

/-- ITS FALSE NEIGHBOUR: 'it returns false'. Refute it at one input. -/
def wirePutsWrong : ChangeSpec := { name := "wirePuts", fn := fun _ => fun
  | [d1, d2] => { results := [.lit (.bool false)], args := [d1, d2] }
  | _ => none }
def WirePutsWrongFalsely : Prop := wirePutsRow.holds Tryz.pinned (OpenSpec.ofChange wirePutsWrong)

/-- 'guillochelaw13.WireProves': WHATEVER THE INPUT: true; the input reads as it did. -/
def wireProvesSpec : ChangeSpec := { name := "wireProves", fn := fun _ => fun
  | [d1, d2, d3] => { results := [.lit (.bool true)], args := [d1, d2, d3] }
  | _ => none }
def wireProvesRow : OpenClaim := { program := "ytoibaecagklkaaagreatdoor", sum := "b9a7546f00fbf9951fb5e437104a09229d6d7392cf8833f7104b6535620235fe", func := "guilloche/guillochelaw13.WireProves", spec := "wireProves", inPlace := ["internal/reflectlite.TypeOf", "internal/reflectlite.ValueOf", "(internal/reflectlite.Value).Type", "(internal/reflectlite.Value).IsNil", "(internal/reflectlite.Value).Elem", "(internal/reflectlite.Value).Set", "internal/abi.NoEscape", "internal/bytealg.MakeNoZero"], unfollowed := true, recurses := true, named := ["guilloche/sha.cubes", "errors.errorType"], apart := false, laid := [("errors.errorType", laid_errors_errorType), ("guilloche/sha.cubes", laid_guilloche_sha_cubes)] }
def WireProvesSaid : Prop := wireProvesRow.holds Tryz.pinned (OpenSpec.ofChange wireProvesSpec)

/-- ITS FALSE NEIGHBOUR: 'it returns false'. Refute it at one input. -/
def wireProvesWrong : ChangeSpec := { name := "wireProves", fn := fun _ => fun
  | [d1, d2, d3] => { results := [.lit (.bool false)], args := [d1, d2, d3] }
  | _ => none }
def WireProvesWrongFalsely : Prop := wireProvesRow.holds Tryz.pinned (OpenSpec.ofChange wireProvesWrong)

/- THE SECOND FORM. 'bulk': how many values and letters a reading holds, each counted each time it is reached (what is shared counts as often as it is met; a slice's spare places count too). A statement '..UptoSaid' is the law's where the arguments, and the package variables that the reading takes, are together of bulk at most 1048576: NARROWER than '..Said'. Prove '..Said' where nothing that the law and all that it calls make is longer than what came in: it says more and counts as full. Else prove '..UptoSaid'. A law counts once. -/
mutual
def uptoBulk {H : Type} : DataW H → Nat
  | .lit (.string bytes) => bytes.length + 1
  | .lit _ => 1
  | .nil => 1
  | .ptr d => uptoBulk d + 1
  | .slice elems spare => uptoBulkAll elems + uptoBulkAll spare + 1
  | .agg parts => uptoBulkAll parts + 1
  | .iface _ d => uptoBulk d + 1
  | .map entries => uptoBulkEntries entries + 1
  | .held _ => 1
def uptoBulkAll {H : Type} : List (DataW H) → Nat
  | [] => 0
  | d :: r => uptoBulk d + uptoBulkAll r
def uptoBulkEntries {H : Type} : List (Lit × DataW H) → Nat
  | [] => 0
  | x :: r => uptoBulkEntry x + uptoBulkEntries r
def uptoBulkEntry {H : Type} : Lit × DataW H → Nat
  | (.string bytes, d) => bytes.length + uptoBulk d + 1
  | (_, d) => uptoBulk d + 1
 end
def uptoSmall : (H : Type) → List (DataW H) → Bool := fun _ ds => decide (uptoBulkAll ds ≤ 1048576)
def OpenSpec.upto (s : _root_.Go.ChangeSpec) : _root_.Go.OpenSpec := { _root_.Go.OpenSpec.ofChange s with cond := some uptoSmall }

/-- 'guillochelaw12.SpanBuilds', WHERE WHAT IT READS IS OF BULK AT MOST 1048576: true; the input reads as it did. -/
def spanBuildsUptoRow : OpenClaim := { program := "ytoibaecagklkaaagreatdoor", sum := "b9a7546f00fbf9951fb5e437104a09229d6d7392cf8833f7104b6535620235fe", func := "guilloche/guillochelaw12.SpanBuilds", spec := "spanBuilds", inPlace := ["internal/reflectlite.TypeOf", "internal/reflectlite.ValueOf", "(internal/reflectlite.Value).Type", "(internal/reflectlite.Value).IsNil", "(internal/reflectlite.Value).Elem", "(internal/reflectlite.Value).Set", "internal/abi.NoEscape", "internal/bytealg.MakeNoZero"], unfollowed := true, recurses := true, named := ["guilloche/sha.cubes", "errors.errorType"], apart := false, laid := [("errors.errorType", laid_errors_errorType), ("guilloche/sha.cubes", laid_guilloche_sha_cubes)], narrowed := true }
def SpanBuildsUptoSaid : Prop := spanBuildsUptoRow.holds Tryz.pinned (OpenSpec.upto spanBuildsSpec)

/-- 'guillochelaw12.SpanSound', WHERE WHAT IT READS IS OF BULK AT MOST 1048576: true; the input reads as it did. -/
def spanSoundUptoRow : OpenClaim := { program := "ytoibaecagklkaaagreatdoor", sum := "b9a7546f00fbf9951fb5e437104a09229d6d7392cf8833f7104b6535620235fe", func := "guilloche/guillochelaw12.SpanSound", spec := "spanSound", inPlace := ["internal/reflectlite.TypeOf", "internal/reflectlite.ValueOf", "(internal/reflectlite.Value).Type", "(internal/reflectlite.Value).IsNil", "(internal/reflectlite.Value).Elem", "(internal/reflectlite.Value).Set", "internal/abi.NoEscape", "internal/bytealg.MakeNoZero"], unfollowed := true, recurses := true, named := ["guilloche/sha.cubes", "errors.errorType"], apart := false, laid := [("errors.errorType", laid_errors_errorType), ("guilloche/sha.cubes", laid_guilloche_sha_cubes)], narrowed := true }
def SpanSoundUptoSaid : Prop := spanSoundUptoRow.holds Tryz.pinned (OpenSpec.upto spanSoundSpec)

/-- 'guillochelaw12.SpanParts', WHERE WHAT IT READS IS OF BULK AT MOST 1048576: true; the input reads as it did. -/
def spanPartsUptoRow : OpenClaim := { program := "ytoibaecagklkaaagreatdoor", sum := "b9a7546f00fbf9951fb5e437104a09229d6d7392cf8833f7104b6535620235fe", func := "guilloche/guillochelaw12.SpanParts", spec := "spanParts", inPlace := ["internal/reflectlite.TypeOf", "internal/reflectlite.ValueOf", "(internal/reflectlite.Value).Type", "(internal/reflectlite.Value).IsNil", "(internal/reflectlite.Value).Elem", "(internal/reflectlite.Value).Set", "internal/abi.NoEscape", "internal/bytealg.MakeNoZero"], unfollowed := true, recurses := true, named := ["guilloche/sha.cubes", "errors.errorType"], apart := false, laid := [("errors.errorType", laid_errors_errorType), ("guilloche/sha.cubes", laid_guilloche_sha_cubes)], narrowed := true }
def SpanPartsUptoSaid : Prop := spanPartsUptoRow.holds Tryz.pinned (OpenSpec.upto spanPartsSpec)

/-- 'guillochelaw12.SpanTurned', WHERE WHAT IT READS IS OF BULK AT MOST 1048576: true; the input reads as it did. -/
def spanTurnedUptoRow : OpenClaim := { program := "ytoibaecagklkaaagreatdoor", sum := "b9a7546f00fbf9951fb5e437104a09229d6d7392cf8833f7104b6535620235fe", func := "guilloche/guillochelaw12.SpanTurned", spec := "spanTurned", inPlace := ["internal/reflectlite.TypeOf", "internal/reflectlite.ValueOf", "(internal/reflectlite.Value).Type", "(internal/reflectlite.Value).IsNil", "(internal/reflectlite.Value).Elem", "(internal/reflectlite.Value).Set", "internal/abi.NoEscape", "internal/bytealg.MakeNoZero"], unfollowed := true, recurses := true, named := ["guilloche/sha.cubes", "errors.errorType"], apart := false, laid := [("errors.errorType", laid_errors_errorType), ("guilloche/sha.cubes", laid_guilloche_sha_cubes)], narrowed := true }
def SpanTurnedUptoSaid : Prop := spanTurnedUptoRow.holds Tryz.pinned (OpenSpec.upto spanTurnedSpec)

/-- 'guillochelaw12.SpanWhole', WHERE WHAT IT READS IS OF BULK AT MOST 1048576: true; the input reads as it did. -/
def spanWholeUptoRow : OpenClaim := { program := "ytoibaecagklkaaagreatdoor", sum := "b9a7546f00fbf9951fb5e437104a09229d6d7392cf8833f7104b6535620235fe", func := "guilloche/guillochelaw12.SpanWhole", spec := "spanWhole", inPlace := ["internal/reflectlite.TypeOf", "internal/reflectlite.ValueOf", "(internal/reflectlite.Value).Type", "(internal/reflectlite.Value).IsNil", "(internal/reflectlite.Value).Elem", "(internal/reflectlite.Value).Set", "internal/abi.NoEscape", "internal/bytealg.MakeNoZero"], unfollowed := true, recurses := true, named := ["guilloche/sha.cubes", "errors.errorType"], apart := false, laid := [("errors.errorType", laid_errors_errorType), ("guilloche/sha.cubes", laid_guilloche_sha_cubes)], narrowed := true }
def SpanWholeUptoSaid : Prop := spanWholeUptoRow.holds Tryz.pinned (OpenSpec.upto spanWholeSpec)

/-- 'guillochelaw12.SpanKey', WHERE WHAT IT READS IS OF BULK AT MOST 1048576: true; the input reads as it did. -/
def spanKeyUptoRow : OpenClaim := { program := "ytoibaecagklkaaagreatdoor", sum := "b9a7546f00fbf9951fb5e437104a09229d6d7392cf8833f7104b6535620235fe", func := "guilloche/guillochelaw12.SpanKey", spec := "spanKey", inPlace := ["internal/reflectlite.TypeOf", "internal/reflectlite.ValueOf", "(internal/reflectlite.Value).Type", "(internal/reflectlite.Value).IsNil", "(internal/reflectlite.Value).Elem", "(internal/reflectlite.Value).Set", "internal/abi.NoEscape", "internal/bytealg.MakeNoZero"], unfollowed := true, recurses := true, named := ["guilloche/sha.cubes", "errors.errorType"], apart := false, laid := [("errors.errorType", laid_errors_errorType), ("guilloche/sha.cubes", laid_guilloche_sha_cubes)], narrowed := true }
def SpanKeyUptoSaid : Prop := spanKeyUptoRow.holds Tryz.pinned (OpenSpec.upto spanKeySpec)

/-- 'guillochelaw13.WirePuts', WHERE WHAT IT READS IS OF BULK AT MOST 1048576: true; the input reads as it did. -/
def wirePutsUptoRow : OpenClaim := { program := "ytoibaecagklkaaagreatdoor", sum := "b9a7546f00fbf9951fb5e437104a09229d6d7392cf8833f7104b6535620235fe", func := "guilloche/guillochelaw13.WirePuts", spec := "wirePuts", inPlace := ["internal/reflectlite.TypeOf", "internal/reflectlite.ValueOf", "(internal/reflectlite.Value).Type", "(internal/reflectlite.Value).IsNil", "(internal/reflectlite.Value).Elem", "(internal/reflectlite.Value).Set", "internal/abi.NoEscape", "internal/bytealg.MakeNoZero"], unfollowed := true, recurses := true, named := ["guilloche/sha.cubes", "errors.errorType"], apart := false, laid := [("errors.errorType", laid_errors_errorType), ("guilloche/sha.cubes", laid_guilloche_sha_cubes)], narrowed := true }
def WirePutsUptoSaid : Prop := wirePutsUptoRow.holds Tryz.pinned (OpenSpec.upto wirePutsSpec)

/-- 'guillochelaw13.WireProves', WHERE WHAT IT READS IS OF BULK AT MOST 1048576: true; the input reads as it did. -/
def wireProvesUptoRow : OpenClaim := { program := "ytoibaecagklkaaagreatdoor", sum := "b9a7546f00fbf9951fb5e437104a09229d6d7392cf8833f7104b6535620235fe", func := "guilloche/guillochelaw13.WireProves", spec := "wireProves", inPlace := ["internal/reflectlite.TypeOf", "internal/reflectlite.ValueOf", "(internal/reflectlite.Value).Type", "(internal/reflectlite.Value).IsNil", "(internal/reflectlite.Value).Elem", "(internal/reflectlite.Value).Set", "internal/abi.NoEscape", "internal/bytealg.MakeNoZero"], unfollowed := true, recurses := true, named := ["guilloche/sha.cubes", "errors.errorType"], apart := false, laid := [("errors.errorType", laid_errors_errorType), ("guilloche/sha.cubes", laid_guilloche_sha_cubes)], narrowed := true }
def WireProvesUptoSaid : Prop := wireProvesUptoRow.holds Tryz.pinned (OpenSpec.upto wireProvesSpec)

end Rows
end Go.Proofs.YtoibaecagklkaaaGreatDoor
