/-
  DERIVED. GIVEN WITH THE SEED: THE CARDS: each row of YtoalfimkkibpdaaGreatDoorRows.lean that lists a variable, with what it lists TIED to the program's text (the seventh form; the later family's looks); each row that meets fmt, with fmt's text TOLD by the authors' own Lean function (tested against real Go, not proved from fmt's source: count such statements apart). THE CARD IS WHAT COUNTS. Prove the row's statement (the work); the ties are given (YtoalfimkkibpdaaGreatDoorTie.lean); close each card by the builder's one call (the guide's Derived/Test/ToyasCard.lean, 'card_holds'). Laid BY PROGRAM, IN A SANDBOX (cutbox-door.mjs). By AI agents, Wed Nov 11 2026. No macro, syntax, notation, axiom, sorry.
-/
import Derived.Test.YtoalfimkkibpdaaGreatDoorRows
import GoSem.ClaimSeven
namespace Go.Proofs.YtoalfimkkibpdaaGreatDoor
namespace Rows

/-- THE TIED CARD OF 'guillochelaw13.WirePuts'. -/
def wirePutsCard : Claim7 := { stood := { row := wirePutsRow, standIns := [], harness := (true, "d237c4de2e89c912b6d9c280088b3979728eac252c97fa5324b6ee83b691515d"), looks := true }, kinds := [], alts := [], laidByText := true, laidKinds := [.handle, .data], laidTests := true, laidLooks := .later }
def WirePutsCardSaid : Prop := Claim7.holds Tryz.pinned (.plain (OpenSpec.ofChange wirePutsSpec)) wirePutsCard

/-- THE TIED CARD OF 'guillochelaw13.WireGets'. -/
def wireGetsCard : Claim7 := { stood := { row := wireGetsRow, standIns := [], harness := (true, "d237c4de2e89c912b6d9c280088b3979728eac252c97fa5324b6ee83b691515d"), looks := true }, kinds := [], alts := [], laidByText := true, laidKinds := [.handle, .data], laidTests := true, laidLooks := .later }
def WireGetsCardSaid : Prop := Claim7.holds Tryz.pinned (.plain (OpenSpec.ofChange wireGetsSpec)) wireGetsCard

/-- THE TIED CARD OF 'guillochelaw13.WireBack'. -/
def wireBackCard : Claim7 := { stood := { row := wireBackRow, standIns := [], harness := (true, "d237c4de2e89c912b6d9c280088b3979728eac252c97fa5324b6ee83b691515d"), looks := true }, kinds := [], alts := [], laidByText := true, laidKinds := [.handle, .data], laidTests := true, laidLooks := .later }
def WireBackCardSaid : Prop := Claim7.holds Tryz.pinned (.plain (OpenSpec.ofChange wireBackSpec)) wireBackCard

/-- THE TIED CARD OF 'guillochelaw13.WireCuts'. -/
def wireCutsCard : Claim7 := { stood := { row := wireCutsRow, standIns := [], harness := (true, "d237c4de2e89c912b6d9c280088b3979728eac252c97fa5324b6ee83b691515d"), looks := true }, kinds := [], alts := [], laidByText := true, laidKinds := [.handle, .data], laidTests := true, laidLooks := .later }
def WireCutsCardSaid : Prop := Claim7.holds Tryz.pinned (.plain (OpenSpec.ofChange wireCutsSpec)) wireCutsCard

/-- THE TIED CARD OF 'guillochelaw13.WireRoots'. -/
def wireRootsCard : Claim7 := { stood := { row := wireRootsRow, standIns := [], harness := (true, "d237c4de2e89c912b6d9c280088b3979728eac252c97fa5324b6ee83b691515d"), looks := true }, kinds := [], alts := [], laidByText := true, laidKinds := [.handle, .data], laidTests := true, laidLooks := .later }
def WireRootsCardSaid : Prop := Claim7.holds Tryz.pinned (.plain (OpenSpec.ofChange wireRootsSpec)) wireRootsCard

/-- THE TIED CARD OF 'guillochelaw13.WireProves'. -/
def wireProvesCard : Claim7 := { stood := { row := wireProvesRow, standIns := [], harness := (true, "d237c4de2e89c912b6d9c280088b3979728eac252c97fa5324b6ee83b691515d"), looks := true }, kinds := [], alts := [], laidByText := true, laidKinds := [.handle, .data], laidTests := true, laidLooks := .later }
def WireProvesCardSaid : Prop := Claim7.holds Tryz.pinned (.plain (OpenSpec.ofChange wireProvesSpec)) wireProvesCard

/-- THE SECOND FORM's CARD OF 'guillochelaw13.WirePuts'. -/
def wirePutsUptoCard : Claim7 := { stood := { row := wirePutsUptoRow, standIns := [], harness := (true, "d237c4de2e89c912b6d9c280088b3979728eac252c97fa5324b6ee83b691515d"), looks := true }, kinds := [], alts := [], laidByText := true, laidKinds := [.handle, .data], laidTests := true, laidLooks := .later }
def WirePutsUptoCardSaid : Prop := Claim7.holds Tryz.pinned (.plain (OpenSpec.upto wirePutsSpec)) wirePutsUptoCard

/-- THE SECOND FORM's CARD OF 'guillochelaw13.WireGets'. -/
def wireGetsUptoCard : Claim7 := { stood := { row := wireGetsUptoRow, standIns := [], harness := (true, "d237c4de2e89c912b6d9c280088b3979728eac252c97fa5324b6ee83b691515d"), looks := true }, kinds := [], alts := [], laidByText := true, laidKinds := [.handle, .data], laidTests := true, laidLooks := .later }
def WireGetsUptoCardSaid : Prop := Claim7.holds Tryz.pinned (.plain (OpenSpec.upto wireGetsSpec)) wireGetsUptoCard

/-- THE SECOND FORM's CARD OF 'guillochelaw13.WireBack'. -/
def wireBackUptoCard : Claim7 := { stood := { row := wireBackUptoRow, standIns := [], harness := (true, "d237c4de2e89c912b6d9c280088b3979728eac252c97fa5324b6ee83b691515d"), looks := true }, kinds := [], alts := [], laidByText := true, laidKinds := [.handle, .data], laidTests := true, laidLooks := .later }
def WireBackUptoCardSaid : Prop := Claim7.holds Tryz.pinned (.plain (OpenSpec.upto wireBackSpec)) wireBackUptoCard

/-- THE SECOND FORM's CARD OF 'guillochelaw13.WireCuts'. -/
def wireCutsUptoCard : Claim7 := { stood := { row := wireCutsUptoRow, standIns := [], harness := (true, "d237c4de2e89c912b6d9c280088b3979728eac252c97fa5324b6ee83b691515d"), looks := true }, kinds := [], alts := [], laidByText := true, laidKinds := [.handle, .data], laidTests := true, laidLooks := .later }
def WireCutsUptoCardSaid : Prop := Claim7.holds Tryz.pinned (.plain (OpenSpec.upto wireCutsSpec)) wireCutsUptoCard

/-- THE SECOND FORM's CARD OF 'guillochelaw13.WireRoots'. -/
def wireRootsUptoCard : Claim7 := { stood := { row := wireRootsUptoRow, standIns := [], harness := (true, "d237c4de2e89c912b6d9c280088b3979728eac252c97fa5324b6ee83b691515d"), looks := true }, kinds := [], alts := [], laidByText := true, laidKinds := [.handle, .data], laidTests := true, laidLooks := .later }
def WireRootsUptoCardSaid : Prop := Claim7.holds Tryz.pinned (.plain (OpenSpec.upto wireRootsSpec)) wireRootsUptoCard

/-- THE SECOND FORM's CARD OF 'guillochelaw13.WireProves'. -/
def wireProvesUptoCard : Claim7 := { stood := { row := wireProvesUptoRow, standIns := [], harness := (true, "d237c4de2e89c912b6d9c280088b3979728eac252c97fa5324b6ee83b691515d"), looks := true }, kinds := [], alts := [], laidByText := true, laidKinds := [.handle, .data], laidTests := true, laidLooks := .later }
def WireProvesUptoCardSaid : Prop := Claim7.holds Tryz.pinned (.plain (OpenSpec.upto wireProvesSpec)) wireProvesUptoCard
end Rows
end Go.Proofs.YtoalfimkkibpdaaGreatDoor
