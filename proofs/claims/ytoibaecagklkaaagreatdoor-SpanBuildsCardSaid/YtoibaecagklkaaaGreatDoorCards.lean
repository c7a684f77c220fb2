/-
  DERIVED. GIVEN WITH THE SEED: THE CARDS: each row of YtoibaecagklkaaaGreatDoorRows.lean that lists a variable, with what it lists TIED to the program's text (the seventh form; the later family's looks); each row that meets fmt, with fmt's text TOLD by the authors' own Lean function (tested against real Go, not proved from fmt's source: count such statements apart). THE CARD IS WHAT COUNTS. Prove the row's statement (the work); the ties are given (YtoibaecagklkaaaGreatDoorTie.lean); close each card by the builder's one call (the guide's Derived/Test/ToyasCard.lean, 'card_holds'). Laid BY PROGRAM, IN A SANDBOX (cutbox-door.mjs). By AI agents, Wed Nov 11 2026. No macro, syntax, notation, axiom, sorry.
-/
import Derived.Test.YtoibaecagklkaaaGreatDoorRows
import GoSem.ClaimSeven
namespace Go.Proofs.YtoibaecagklkaaaGreatDoor
namespace Rows

/-- THE TIED CARD OF 'guillochelaw12.SpanBuilds'. -/
def spanBuildsCard : Claim7 := { stood := { row := spanBuildsRow, standIns := [], harness := (true, "11537ef47c796b0229796c88f67de9793c9d4ae32d6a58b66263dd2fcd95ace2"), looks := true }, kinds := [], alts := [], laidByText := true, laidKinds := [.handle, .data], laidTests := true, laidLooks := .later }
def SpanBuildsCardSaid : Prop := Claim7.holds Tryz.pinned (.plain (OpenSpec.ofChange spanBuildsSpec)) spanBuildsCard

/-- THE TIED CARD OF 'guillochelaw12.SpanSound'. -/
def spanSoundCard : Claim7 := { stood := { row := spanSoundRow, standIns := [], harness := (true, "11537ef47c796b0229796c88f67de9793c9d4ae32d6a58b66263dd2fcd95ace2"), looks := true }, kinds := [], alts := [], laidByText := true, laidKinds := [.handle, .data], laidTests := true, laidLooks := .later }
def SpanSoundCardSaid : Prop := Claim7.holds Tryz.pinned (.plain (OpenSpec.ofChange spanSoundSpec)) spanSoundCard

/-- THE TIED CARD OF 'guillochelaw12.SpanParts'. -/
def spanPartsCard : Claim7 := { stood := { row := spanPartsRow, standIns := [], harness := (true, "11537ef47c796b0229796c88f67de9793c9d4ae32d6a58b66263dd2fcd95ace2"), looks := true }, kinds := [], alts := [], laidByText := true, laidKinds := [.handle, .data], laidTests := true, laidLooks := .later }
def SpanPartsCardSaid : Prop := Claim7.holds Tryz.pinned (.plain (OpenSpec.ofChange spanPartsSpec)) spanPartsCard

/-- THE TIED CARD OF 'guillochelaw12.SpanTurned'. -/
def spanTurnedCard : Claim7 := { stood := { row := spanTurnedRow, standIns := [], harness := (true, "11537ef47c796b0229796c88f67de9793c9d4ae32d6a58b66263dd2fcd95ace2"), looks := true }, kinds := [], alts := [], laidByText := true, laidKinds := [.handle, .data], laidTests := true, laidLooks := .later }
def SpanTurnedCardSaid : Prop := Claim7.holds Tryz.pinned (.plain (OpenSpec.ofChange spanTurnedSpec)) spanTurnedCard

/-- THE TIED CARD OF 'guillochelaw12.SpanWhole'. -/
def spanWholeCard : Claim7 := { stood := { row := spanWholeRow, standIns := [], harness := (true, "11537ef47c796b0229796c88f67de9793c9d4ae32d6a58b66263dd2fcd95ace2"), looks := true }, kinds := [], alts := [], laidByText := true, laidKinds := [.handle, .data], laidTests := true, laidLooks := .later }
def SpanWholeCardSaid : Prop := Claim7.holds Tryz.pinned (.plain (OpenSpec.ofChange spanWholeSpec)) spanWholeCard

/-- THE TIED CARD OF 'guillochelaw12.SpanKey'. -/
def spanKeyCard : Claim7 := { stood := { row := spanKeyRow, standIns := [], harness := (true, "11537ef47c796b0229796c88f67de9793c9d4ae32d6a58b66263dd2fcd95ace2"), looks := true }, kinds := [], alts := [], laidByText := true, laidKinds := [.handle, .data], laidTests := true, laidLooks := .later }
def SpanKeyCardSaid : Prop := Claim7.holds Tryz.pinned (.plain (OpenSpec.ofChange spanKeySpec)) spanKeyCard

/-- THE TIED CARD OF 'guillochelaw13.WirePuts'. -/
def wirePutsCard : Claim7 := { stood := { row := wirePutsRow, standIns := [], harness := (true, "11537ef47c796b0229796c88f67de9793c9d4ae32d6a58b66263dd2fcd95ace2"), looks := true }, kinds := [], alts := [], laidByText := true, laidKinds := [.handle, .data], laidTests := true, laidLooks := .later }
def WirePutsCardSaid : Prop := Claim7.holds Tryz.pinned (.plain (OpenSpec.ofChange wirePutsSpec)) wirePutsCard

/-- THE TIED CARD OF 'guillochelaw13.WireProves'. -/
def wireProvesCard : Claim7 := { stood := { row := wireProvesRow, standIns := [], harness := (true, "11537ef47c796b0229796c88f67de9793c9d4ae32d6a58b66263dd2fcd95ace2"), looks := true }, kinds := [], alts := [], laidByText := true, laidKinds := [.handle, .data], laidTests := true, laidLooks := .later }
def WireProvesCardSaid : Prop := Claim7.holds Tryz.pinned (.plain (OpenSpec.ofChange wireProvesSpec)) wireProvesCard

/-- THE SECOND FORM's CARD OF 'guillochelaw12.SpanBuilds'. -/
def spanBuildsUptoCard : Claim7 := { stood := { row := spanBuildsUptoRow, standIns := [], harness := (true, "11537ef47c796b0229796c88f67de9793c9d4ae32d6a58b66263dd2fcd95ace2"), looks := true }, kinds := [], alts := [], laidByText := true, laidKinds := [.handle, .data], laidTests := true, laidLooks := .later }
def SpanBuildsUptoCardSaid : Prop := Claim7.holds Tryz.pinned (.plain (OpenSpec.upto spanBuildsSpec)) spanBuildsUptoCard

/-- THE SECOND FORM's CARD OF 'guillochelaw12.SpanSound'. -/
def spanSoundUptoCard : Claim7 := { stood := { row := spanSoundUptoRow, standIns := [], harness := (true, "11537ef47c796b0229796c88f67de9793c9d4ae32d6a58b66263dd2fcd95ace2"), looks := true }, kinds := [], alts := [], laidByText := true, laidKinds := [.handle, .data], laidTests := true, laidLooks := .later }
def SpanSoundUptoCardSaid : Prop := Claim7.holds Tryz.pinned (.plain (OpenSpec.upto spanSoundSpec)) spanSoundUptoCard

/-- THE SECOND FORM's CARD OF 'guillochelaw12.SpanParts'. -/
def spanPartsUptoCard : Claim7 := { stood := { row := spanPartsUptoRow, standIns := [], harness := (true, "11537ef47c796b0229796c88f67de9793c9d4ae32d6a58b66263dd2fcd95ace2"), looks := true }, kinds := [], alts := [], laidByText := true, laidKinds := [.handle, .data], laidTests := true, laidLooks := .later }
def SpanPartsUptoCardSaid : Prop := Claim7.holds Tryz.pinned (.plain (OpenSpec.upto spanPartsSpec)) spanPartsUptoCard

/-- THE SECOND FORM's CARD OF 'guillochelaw12.SpanTurned'. -/
def spanTurnedUptoCard : Claim7 := { stood := { row := spanTurnedUptoRow, standIns := [], harness := (true, "11537ef47c796b0229796c88f67de9793c9d4ae32d6a58b66263dd2fcd95ace2"), looks := true }, kinds := [], alts := [], laidByText := true, laidKinds := [.handle, .data], laidTests := true, laidLooks := .later }
def SpanTurnedUptoCardSaid : Prop := Claim7.holds Tryz.pinned (.plain (OpenSpec.upto spanTurnedSpec)) spanTurnedUptoCard

/-- THE SECOND FORM's CARD OF 'guillochelaw12.SpanWhole'. -/
def spanWholeUptoCard : Claim7 := { stood := { row := spanWholeUptoRow, standIns := [], harness := (true, "11537ef47c796b0229796c88f67de9793c9d4ae32d6a58b66263dd2fcd95ace2"), looks := true }, kinds := [], alts := [], laidByText := true, laidKinds := [.handle, .data], laidTests := true, laidLooks := .later }
def SpanWholeUptoCardSaid : Prop := Claim7.holds Tryz.pinned (.plain (OpenSpec.upto spanWholeSpec)) spanWholeUptoCard

/-- THE SECOND FORM's CARD OF 'guillochelaw12.SpanKey'. -/
def spanKeyUptoCard : Claim7 := { stood := { row := spanKeyUptoRow, standIns := [], harness := (true, "11537ef47c796b0229796c88f67de9793c9d4ae32d6a58b66263dd2fcd95ace2"), looks := true }, kinds := [], alts := [], laidByText := true, laidKinds := [.handle, .data], laidTests := true, laidLooks := .later }
def SpanKeyUptoCardSaid : Prop := Claim7.holds Tryz.pinned (.plain (OpenSpec.upto spanKeySpec)) spanKeyUptoCard

/-- THE SECOND FORM's CARD OF 'guillochelaw13.WirePuts'. -/
def wirePutsUptoCard : Claim7 := { stood := { row := wirePutsUptoRow, standIns := [], harness := (true, "11537ef47c796b0229796c88f67de9793c9d4ae32d6a58b66263dd2fcd95ace2"), looks := true }, kinds := [], alts := [], laidByText := true, laidKinds := [.handle, .data], laidTests := true, laidLooks := .later }
def WirePutsUptoCardSaid : Prop := Claim7.holds Tryz.pinned (.plain (OpenSpec.upto wirePutsSpec)) wirePutsUptoCard

/-- THE SECOND FORM's CARD OF 'guillochelaw13.WireProves'. -/
def wireProvesUptoCard : Claim7 := { stood := { row := wireProvesUptoRow, standIns := [], harness := (true, "11537ef47c796b0229796c88f67de9793c9d4ae32d6a58b66263dd2fcd95ace2"), looks := true }, kinds := [], alts := [], laidByText := true, laidKinds := [.handle, .data], laidTests := true, laidLooks := .later }
def WireProvesUptoCardSaid : Prop := Claim7.holds Tryz.pinned (.plain (OpenSpec.upto wireProvesSpec)) wireProvesUptoCard
end Rows
end Go.Proofs.YtoibaecagklkaaaGreatDoor
