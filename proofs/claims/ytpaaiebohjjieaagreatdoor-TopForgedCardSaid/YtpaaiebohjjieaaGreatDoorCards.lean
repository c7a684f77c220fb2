/-
  DERIVED. GIVEN WITH THE SEED: THE CARDS: each row of YtpaaiebohjjieaaGreatDoorRows.lean that lists a variable, with what it lists TIED to the program's text (the seventh form; the later family's looks); each row that meets fmt, with fmt's text TOLD by the authors' own Lean function (tested against real Go, not proved from fmt's source: count such statements apart). THE CARD IS WHAT COUNTS. Prove the row's statement (the work); the ties are given (YtpaaiebohjjieaaGreatDoorTie.lean); close each card by the builder's one call (the guide's Derived/Test/ToyasCard.lean, 'card_holds'). Laid BY PROGRAM, IN A SANDBOX (cutbox-door.mjs). By AI agents, Wed Nov 11 2026. No macro, syntax, notation, axiom, sorry.
-/
import Derived.Test.YtpaaiebohjjieaaGreatDoorRows
import GoSem.ClaimSeven
namespace Go.Proofs.YtpaaiebohjjieaaGreatDoor
namespace Rows

/-- THE TIED CARD OF 'guillochetop.TopForged'. -/
def topForgedCard : Claim7 := { stood := { row := topForgedRow, standIns := [], harness := (true, "e3f57dd8ca90c20567e34026e7c0d650d581eddc73cebfa6efdeacfeb53eeaeb"), looks := true }, kinds := [], alts := [], laidByText := true, laidKinds := [.handle, .data], laidTests := true, laidLooks := .later }
def TopForgedCardSaid : Prop := Claim7.holds Tryz.pinned (.plain (OpenSpec.ofChange topForgedSpec)) topForgedCard

/-- THE SECOND FORM's CARD OF 'guillochetop.TopForged'. -/
def topForgedUptoCard : Claim7 := { stood := { row := topForgedUptoRow, standIns := [], harness := (true, "e3f57dd8ca90c20567e34026e7c0d650d581eddc73cebfa6efdeacfeb53eeaeb"), looks := true }, kinds := [], alts := [], laidByText := true, laidKinds := [.handle, .data], laidTests := true, laidLooks := .later }
def TopForgedUptoCardSaid : Prop := Claim7.holds Tryz.pinned (.plain (OpenSpec.upto topForgedSpec)) topForgedUptoCard
end Rows
end Go.Proofs.YtpaaiebohjjieaaGreatDoor
