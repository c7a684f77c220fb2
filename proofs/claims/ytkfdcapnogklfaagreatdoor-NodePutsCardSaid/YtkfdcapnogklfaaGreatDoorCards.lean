/-
  DERIVED. GIVEN WITH THE SEED: THE CARDS: each row of YtkfdcapnogklfaaGreatDoorRows.lean that lists a variable, with what it lists TIED to the program's text (the seventh form; the later family's looks); each row that meets fmt, with fmt's text TOLD by the authors' own Lean function (tested against real Go, not proved from fmt's source: count such statements apart). THE CARD IS WHAT COUNTS. Prove the row's statement (the work); the ties are given (YtkfdcapnogklfaaGreatDoorTie.lean); close each card by the builder's one call (the guide's Derived/Test/ToyasCard.lean, 'card_holds'). Laid BY PROGRAM, IN A SANDBOX (cutbox-door.mjs). By AI agents, Wed Nov 11 2026. No macro, syntax, notation, axiom, sorry.
-/
import Derived.Test.YtkfdcapnogklfaaGreatDoorRows
import GoSem.ClaimSeven
namespace Go.Proofs.YtkfdcapnogklfaaGreatDoor
namespace Rows

/-- THE TIED CARD OF 'guillochelaw04.NodePuts'. -/
def nodePutsCard : Claim7 := { stood := { row := nodePutsRow, standIns := [], harness := (true, "0baba57f0bdcd08ede9424131bb4133c43e510b77e8df2cbd65b98dd08c6be62"), looks := true }, kinds := [], alts := [], laidByText := true, laidKinds := [.handle, .data], laidTests := true, laidLooks := .later }
def NodePutsCardSaid : Prop := Claim7.holds Tryz.pinned (.plain (OpenSpec.ofChange nodePutsSpec)) nodePutsCard

/-- THE TIED CARD OF 'guillochelaw04.NodeGets'. -/
def nodeGetsCard : Claim7 := { stood := { row := nodeGetsRow, standIns := [], harness := (true, "0baba57f0bdcd08ede9424131bb4133c43e510b77e8df2cbd65b98dd08c6be62"), looks := true }, kinds := [], alts := [], laidByText := true, laidKinds := [.handle, .data], laidTests := true, laidLooks := .later }
def NodeGetsCardSaid : Prop := Claim7.holds Tryz.pinned (.plain (OpenSpec.ofChange nodeGetsSpec)) nodeGetsCard

/-- THE SECOND FORM's CARD OF 'guillochelaw04.NodePuts'. -/
def nodePutsUptoCard : Claim7 := { stood := { row := nodePutsUptoRow, standIns := [], harness := (true, "0baba57f0bdcd08ede9424131bb4133c43e510b77e8df2cbd65b98dd08c6be62"), looks := true }, kinds := [], alts := [], laidByText := true, laidKinds := [.handle, .data], laidTests := true, laidLooks := .later }
def NodePutsUptoCardSaid : Prop := Claim7.holds Tryz.pinned (.plain (OpenSpec.upto nodePutsSpec)) nodePutsUptoCard

/-- THE SECOND FORM's CARD OF 'guillochelaw04.NodeGets'. -/
def nodeGetsUptoCard : Claim7 := { stood := { row := nodeGetsUptoRow, standIns := [], harness := (true, "0baba57f0bdcd08ede9424131bb4133c43e510b77e8df2cbd65b98dd08c6be62"), looks := true }, kinds := [], alts := [], laidByText := true, laidKinds := [.handle, .data], laidTests := true, laidLooks := .later }
def NodeGetsUptoCardSaid : Prop := Claim7.holds Tryz.pinned (.plain (OpenSpec.upto nodeGetsSpec)) nodeGetsUptoCard
end Rows
end Go.Proofs.YtkfdcapnogklfaaGreatDoor
