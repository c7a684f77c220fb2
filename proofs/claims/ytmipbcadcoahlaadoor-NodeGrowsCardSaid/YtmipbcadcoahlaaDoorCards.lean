/-
  DERIVED. GIVEN WITH THE SEED: THE CARDS: each row of YtmipbcadcoahlaaDoorRows.lean that lists a variable, with what it lists TIED to the program's text (the seventh form; the later family's looks); each row that meets fmt, with fmt's text TOLD by the authors' own Lean function (tested against real Go, not proved from fmt's source: count such statements apart). THE CARD IS WHAT COUNTS. Prove the row's statement (the work); the ties are given (YtmipbcadcoahlaaDoorTie.lean); close each card by the builder's one call (the guide's Derived/Test/ToyasCard.lean, 'card_holds'). Laid BY PROGRAM, IN A SANDBOX (cutbox-door.mjs). By AI agents, Wed Nov 11 2026. No macro, syntax, notation, axiom, sorry.
-/
import Derived.Test.YtmipbcadcoahlaaDoorRows
import GoSem.ClaimSeven
namespace Go.Proofs.YtmipbcadcoahlaaDoor
namespace Rows

/-- THE TIED CARD OF 'guillochelaw04.NodeBack'. -/
def nodeBackCard : Claim7 := { stood := { row := nodeBackRow, standIns := [], harness := (true, "107248872fb7bc40fc32ca954771f870a2d33938d2287fad1638e542e2ee8a9a"), looks := true }, kinds := [], alts := [], laidByText := true, laidKinds := [.handle, .data], laidTests := true, laidLooks := .later }
def NodeBackCardSaid : Prop := Claim7.holds Tryd.pinned (.plain (OpenSpec.ofChange nodeBackSpec)) nodeBackCard

/-- THE TIED CARD OF 'guillochelaw04.NodeHashes'. -/
def nodeHashesCard : Claim7 := { stood := { row := nodeHashesRow, standIns := [], harness := (true, "107248872fb7bc40fc32ca954771f870a2d33938d2287fad1638e542e2ee8a9a"), looks := true }, kinds := [], alts := [], laidByText := true, laidKinds := [.handle, .data], laidTests := true, laidLooks := .later }
def NodeHashesCardSaid : Prop := Claim7.holds Tryd.pinned (.plain (OpenSpec.ofChange nodeHashesSpec)) nodeHashesCard

/-- THE TIED CARD OF 'guillochelaw04.NodeCuts'. -/
def nodeCutsCard : Claim7 := { stood := { row := nodeCutsRow, standIns := [], harness := (true, "107248872fb7bc40fc32ca954771f870a2d33938d2287fad1638e542e2ee8a9a"), looks := true }, kinds := [], alts := [], laidByText := true, laidKinds := [.handle, .data], laidTests := true, laidLooks := .later }
def NodeCutsCardSaid : Prop := Claim7.holds Tryd.pinned (.plain (OpenSpec.ofChange nodeCutsSpec)) nodeCutsCard

/-- THE TIED CARD OF 'guillochelaw04.NodeGrows'. -/
def nodeGrowsCard : Claim7 := { stood := { row := nodeGrowsRow, standIns := [], harness := (true, "107248872fb7bc40fc32ca954771f870a2d33938d2287fad1638e542e2ee8a9a"), looks := true }, kinds := [], alts := [], laidByText := true, laidKinds := [.handle, .data], laidTests := true, laidLooks := .later }
def NodeGrowsCardSaid : Prop := Claim7.holds Tryd.pinned (.plain (OpenSpec.ofChange nodeGrowsSpec)) nodeGrowsCard

/-- THE TIED CARD OF 'guillochelaw04.NodeRefs'. -/
def nodeRefsCard : Claim7 := { stood := { row := nodeRefsRow, standIns := [], harness := (true, "107248872fb7bc40fc32ca954771f870a2d33938d2287fad1638e542e2ee8a9a"), looks := true }, kinds := [], alts := [], laidByText := true, laidKinds := [.handle, .data], laidTests := true, laidLooks := .later }
def NodeRefsCardSaid : Prop := Claim7.holds Tryd.pinned (.plain (OpenSpec.ofChange nodeRefsSpec)) nodeRefsCard

/-- THE SECOND FORM's CARD OF 'guillochelaw04.NodeBack'. -/
def nodeBackUptoCard : Claim7 := { stood := { row := nodeBackUptoRow, standIns := [], harness := (true, "107248872fb7bc40fc32ca954771f870a2d33938d2287fad1638e542e2ee8a9a"), looks := true }, kinds := [], alts := [], laidByText := true, laidKinds := [.handle, .data], laidTests := true, laidLooks := .later }
def NodeBackUptoCardSaid : Prop := Claim7.holds Tryd.pinned (.plain (OpenSpec.upto nodeBackSpec)) nodeBackUptoCard

/-- THE SECOND FORM's CARD OF 'guillochelaw04.NodeHashes'. -/
def nodeHashesUptoCard : Claim7 := { stood := { row := nodeHashesUptoRow, standIns := [], harness := (true, "107248872fb7bc40fc32ca954771f870a2d33938d2287fad1638e542e2ee8a9a"), looks := true }, kinds := [], alts := [], laidByText := true, laidKinds := [.handle, .data], laidTests := true, laidLooks := .later }
def NodeHashesUptoCardSaid : Prop := Claim7.holds Tryd.pinned (.plain (OpenSpec.upto nodeHashesSpec)) nodeHashesUptoCard

/-- THE SECOND FORM's CARD OF 'guillochelaw04.NodeCuts'. -/
def nodeCutsUptoCard : Claim7 := { stood := { row := nodeCutsUptoRow, standIns := [], harness := (true, "107248872fb7bc40fc32ca954771f870a2d33938d2287fad1638e542e2ee8a9a"), looks := true }, kinds := [], alts := [], laidByText := true, laidKinds := [.handle, .data], laidTests := true, laidLooks := .later }
def NodeCutsUptoCardSaid : Prop := Claim7.holds Tryd.pinned (.plain (OpenSpec.upto nodeCutsSpec)) nodeCutsUptoCard

/-- THE SECOND FORM's CARD OF 'guillochelaw04.NodeGrows'. -/
def nodeGrowsUptoCard : Claim7 := { stood := { row := nodeGrowsUptoRow, standIns := [], harness := (true, "107248872fb7bc40fc32ca954771f870a2d33938d2287fad1638e542e2ee8a9a"), looks := true }, kinds := [], alts := [], laidByText := true, laidKinds := [.handle, .data], laidTests := true, laidLooks := .later }
def NodeGrowsUptoCardSaid : Prop := Claim7.holds Tryd.pinned (.plain (OpenSpec.upto nodeGrowsSpec)) nodeGrowsUptoCard

/-- THE SECOND FORM's CARD OF 'guillochelaw04.NodeRefs'. -/
def nodeRefsUptoCard : Claim7 := { stood := { row := nodeRefsUptoRow, standIns := [], harness := (true, "107248872fb7bc40fc32ca954771f870a2d33938d2287fad1638e542e2ee8a9a"), looks := true }, kinds := [], alts := [], laidByText := true, laidKinds := [.handle, .data], laidTests := true, laidLooks := .later }
def NodeRefsUptoCardSaid : Prop := Claim7.holds Tryd.pinned (.plain (OpenSpec.upto nodeRefsSpec)) nodeRefsUptoCard
end Rows
end Go.Proofs.YtmipbcadcoahlaaDoor
