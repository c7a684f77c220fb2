/-
  DERIVED. GIVEN WITH THE SEED: THE CARDS: each row of YtndbjcbfnmjheaaDoorRows.lean that lists a variable, with what it lists TIED to the program's text (the seventh form; the later family's looks); each row that meets fmt, with fmt's text TOLD by the authors' own Lean function (tested against real Go, not proved from fmt's source: count such statements apart). THE CARD IS WHAT COUNTS. Prove the row's statement (the work); the ties are given (YtndbjcbfnmjheaaDoorTie.lean); close each card by the builder's one call (the guide's Derived/Test/ToyasCard.lean, 'card_holds'). Laid BY PROGRAM, IN A SANDBOX (cutbox-door.mjs). By AI agents, Wed Nov 11 2026. No macro, syntax, notation, axiom, sorry.
-/
import Derived.Test.YtndbjcbfnmjheaaDoorRows
import GoSem.ClaimSeven
namespace Go.Proofs.YtndbjcbfnmjheaaDoor
namespace Rows

/-- THE TIED CARD OF 'guillochelaw02.RlpNums'. -/
def rlpNumsCard : Claim7 := { stood := { row := rlpNumsRow, standIns := [], harness := (true, "d3815d4fa52966a4e320e1365884279a6c02ea32bbbd7e8d22480c4a0d87648c"), looks := true }, kinds := [], alts := [], laidByText := true, laidKinds := [.handle], laidTests := true, laidLooks := .later }
def RlpNumsCardSaid : Prop := Claim7.holds Tryd.pinned (.plain (OpenSpec.ofChange rlpNumsSpec)) rlpNumsCard

/-- THE TIED CARD OF 'guillochelaw02.RlpJoins'. -/
def rlpJoinsCard : Claim7 := { stood := { row := rlpJoinsRow, standIns := [], harness := (true, "d3815d4fa52966a4e320e1365884279a6c02ea32bbbd7e8d22480c4a0d87648c"), looks := true }, kinds := [], alts := [], laidByText := true, laidKinds := [.handle], laidTests := true, laidLooks := .later }
def RlpJoinsCardSaid : Prop := Claim7.holds Tryd.pinned (.plain (OpenSpec.ofChange rlpJoinsSpec)) rlpJoinsCard

/-- THE TIED CARD OF 'guillochelaw02.RlpCuts'. -/
def rlpCutsCard : Claim7 := { stood := { row := rlpCutsRow, standIns := [], harness := (true, "d3815d4fa52966a4e320e1365884279a6c02ea32bbbd7e8d22480c4a0d87648c"), looks := true }, kinds := [], alts := [], laidByText := true, laidKinds := [.handle], laidTests := true, laidLooks := .later }
def RlpCutsCardSaid : Prop := Claim7.holds Tryd.pinned (.plain (OpenSpec.ofChange rlpCutsSpec)) rlpCutsCard

/-- THE SECOND FORM's CARD OF 'guillochelaw02.RlpNums'. -/
def rlpNumsUptoCard : Claim7 := { stood := { row := rlpNumsUptoRow, standIns := [], harness := (true, "d3815d4fa52966a4e320e1365884279a6c02ea32bbbd7e8d22480c4a0d87648c"), looks := true }, kinds := [], alts := [], laidByText := true, laidKinds := [.handle], laidTests := true, laidLooks := .later }
def RlpNumsUptoCardSaid : Prop := Claim7.holds Tryd.pinned (.plain (OpenSpec.upto rlpNumsSpec)) rlpNumsUptoCard

/-- THE SECOND FORM's CARD OF 'guillochelaw02.RlpJoins'. -/
def rlpJoinsUptoCard : Claim7 := { stood := { row := rlpJoinsUptoRow, standIns := [], harness := (true, "d3815d4fa52966a4e320e1365884279a6c02ea32bbbd7e8d22480c4a0d87648c"), looks := true }, kinds := [], alts := [], laidByText := true, laidKinds := [.handle], laidTests := true, laidLooks := .later }
def RlpJoinsUptoCardSaid : Prop := Claim7.holds Tryd.pinned (.plain (OpenSpec.upto rlpJoinsSpec)) rlpJoinsUptoCard

/-- THE SECOND FORM's CARD OF 'guillochelaw02.RlpCuts'. -/
def rlpCutsUptoCard : Claim7 := { stood := { row := rlpCutsUptoRow, standIns := [], harness := (true, "d3815d4fa52966a4e320e1365884279a6c02ea32bbbd7e8d22480c4a0d87648c"), looks := true }, kinds := [], alts := [], laidByText := true, laidKinds := [.handle], laidTests := true, laidLooks := .later }
def RlpCutsUptoCardSaid : Prop := Claim7.holds Tryd.pinned (.plain (OpenSpec.upto rlpCutsSpec)) rlpCutsUptoCard
end Rows
end Go.Proofs.YtndbjcbfnmjheaaDoor
