/-
  DERIVED. GIVEN WITH THE SEED: THE CARDS: each row of YtaodbohfhelokaaDoorRows.lean that lists a variable, with what it lists TIED to the program's text (the seventh form; the later family's looks); each row that meets fmt, with fmt's text TOLD by the authors' own Lean function (tested against real Go, not proved from fmt's source: count such statements apart). THE CARD IS WHAT COUNTS. Prove the row's statement (the work); the ties are given (YtaodbohfhelokaaDoorTie.lean); close each card by the builder's one call (the guide's Derived/Test/ToyasCard.lean, 'card_holds'). Laid BY PROGRAM, IN A SANDBOX (cutbox-door.mjs). By AI agents, Wed Nov 11 2026. No macro, syntax, notation, axiom, sorry.
-/
import Derived.Test.YtaodbohfhelokaaDoorRows
import GoSem.ClaimSeven
namespace Go.Proofs.YtaodbohfhelokaaDoor
namespace Rows

/-- THE TIED CARD OF 'arboristlaw08.GraphRights'. -/
def graphRightsCard : Claim7 := { stood := { row := graphRightsRow, standIns := [], harness := (true, "af074c6ad00ec03137d79e20f0f6607b0113a9c9be8909cf78ec957c37f72321"), looks := false }, kinds := [], alts := [], laidByText := true, laidKinds := [.data], laidTests := true, laidLooks := .later }
def GraphRightsCardSaid : Prop := Claim7.holds Tryd.pinned (.plain (OpenSpec.ofChange graphRightsSpec)) graphRightsCard

/-- THE TIED CARD OF 'arboristlaw08.GraphTells'. -/
def graphTellsCard : Claim7 := { stood := { row := graphTellsRow, standIns := [], harness := (true, "af074c6ad00ec03137d79e20f0f6607b0113a9c9be8909cf78ec957c37f72321"), looks := false }, kinds := [], alts := [], laidByText := true, laidKinds := [.data], laidTests := true, laidLooks := .later }
def GraphTellsCardSaid : Prop := Claim7.holds Tryd.pinned (.plain (OpenSpec.ofChange graphTellsSpec)) graphTellsCard

/-- THE TIED CARD OF 'arboristlaw08.GraphParts'. -/
def graphPartsCard : Claim7 := { stood := { row := graphPartsRow, standIns := [], harness := (true, "af074c6ad00ec03137d79e20f0f6607b0113a9c9be8909cf78ec957c37f72321"), looks := false }, kinds := [], alts := [], laidByText := true, laidKinds := [.data], laidTests := true, laidLooks := .later }
def GraphPartsCardSaid : Prop := Claim7.holds Tryd.pinned (.plain (OpenSpec.ofChange graphPartsSpec)) graphPartsCard

/-- THE TIED CARD OF 'arboristlaw08.GraphOrder'. -/
def graphOrderCard : Claim7 := { stood := { row := graphOrderRow, standIns := [], harness := (true, "af074c6ad00ec03137d79e20f0f6607b0113a9c9be8909cf78ec957c37f72321"), looks := false }, kinds := [], alts := [], laidByText := true, laidKinds := [.data], laidTests := true, laidLooks := .later }
def GraphOrderCardSaid : Prop := Claim7.holds Tryd.pinned (.plain (OpenSpec.ofChange graphOrderSpec)) graphOrderCard

/-- THE TIED CARD OF 'arboristlaw08.GraphWhole'. -/
def graphWholeCard : Claim7 := { stood := { row := graphWholeRow, standIns := [], harness := (true, "af074c6ad00ec03137d79e20f0f6607b0113a9c9be8909cf78ec957c37f72321"), looks := false }, kinds := [], alts := [], laidByText := true, laidKinds := [.data], laidTests := true, laidLooks := .later }
def GraphWholeCardSaid : Prop := Claim7.holds Tryd.pinned (.plain (OpenSpec.ofChange graphWholeSpec)) graphWholeCard

/-- THE TIED CARD OF 'arboristlaw08.GraphKeeps'. -/
def graphKeepsCard : Claim7 := { stood := { row := graphKeepsRow, standIns := [], harness := (true, "af074c6ad00ec03137d79e20f0f6607b0113a9c9be8909cf78ec957c37f72321"), looks := false }, kinds := [], alts := [], laidByText := true, laidKinds := [.data], laidTests := true, laidLooks := .later }
def GraphKeepsCardSaid : Prop := Claim7.holds Tryd.pinned (.plain (OpenSpec.ofChange graphKeepsSpec)) graphKeepsCard

/-- THE TIED CARD OF 'arboristlaw08.GraphAdds'. -/
def graphAddsCard : Claim7 := { stood := { row := graphAddsRow, standIns := [], harness := (true, "af074c6ad00ec03137d79e20f0f6607b0113a9c9be8909cf78ec957c37f72321"), looks := false }, kinds := [], alts := [], laidByText := true, laidKinds := [.data], laidTests := true, laidLooks := .later }
def GraphAddsCardSaid : Prop := Claim7.holds Tryd.pinned (.plain (OpenSpec.ofChange graphAddsSpec)) graphAddsCard

/-- THE TIED CARD OF 'arboristlaw08.GraphPrimal'. -/
def graphPrimalCard : Claim7 := { stood := { row := graphPrimalRow, standIns := [], harness := (true, "af074c6ad00ec03137d79e20f0f6607b0113a9c9be8909cf78ec957c37f72321"), looks := false }, kinds := [], alts := [], laidByText := true, laidKinds := [.data], laidTests := true, laidLooks := .later }
def GraphPrimalCardSaid : Prop := Claim7.holds Tryd.pinned (.plain (OpenSpec.ofChange graphPrimalSpec)) graphPrimalCard

/-- THE SECOND FORM's CARD OF 'arboristlaw08.GraphRights'. -/
def graphRightsUptoCard : Claim7 := { stood := { row := graphRightsUptoRow, standIns := [], harness := (true, "af074c6ad00ec03137d79e20f0f6607b0113a9c9be8909cf78ec957c37f72321"), looks := false }, kinds := [], alts := [], laidByText := true, laidKinds := [.data], laidTests := true, laidLooks := .later }
def GraphRightsUptoCardSaid : Prop := Claim7.holds Tryd.pinned (.plain (OpenSpec.upto graphRightsSpec)) graphRightsUptoCard

/-- THE SECOND FORM's CARD OF 'arboristlaw08.GraphTells'. -/
def graphTellsUptoCard : Claim7 := { stood := { row := graphTellsUptoRow, standIns := [], harness := (true, "af074c6ad00ec03137d79e20f0f6607b0113a9c9be8909cf78ec957c37f72321"), looks := false }, kinds := [], alts := [], laidByText := true, laidKinds := [.data], laidTests := true, laidLooks := .later }
def GraphTellsUptoCardSaid : Prop := Claim7.holds Tryd.pinned (.plain (OpenSpec.upto graphTellsSpec)) graphTellsUptoCard

/-- THE SECOND FORM's CARD OF 'arboristlaw08.GraphParts'. -/
def graphPartsUptoCard : Claim7 := { stood := { row := graphPartsUptoRow, standIns := [], harness := (true, "af074c6ad00ec03137d79e20f0f6607b0113a9c9be8909cf78ec957c37f72321"), looks := false }, kinds := [], alts := [], laidByText := true, laidKinds := [.data], laidTests := true, laidLooks := .later }
def GraphPartsUptoCardSaid : Prop := Claim7.holds Tryd.pinned (.plain (OpenSpec.upto graphPartsSpec)) graphPartsUptoCard

/-- THE SECOND FORM's CARD OF 'arboristlaw08.GraphOrder'. -/
def graphOrderUptoCard : Claim7 := { stood := { row := graphOrderUptoRow, standIns := [], harness := (true, "af074c6ad00ec03137d79e20f0f6607b0113a9c9be8909cf78ec957c37f72321"), looks := false }, kinds := [], alts := [], laidByText := true, laidKinds := [.data], laidTests := true, laidLooks := .later }
def GraphOrderUptoCardSaid : Prop := Claim7.holds Tryd.pinned (.plain (OpenSpec.upto graphOrderSpec)) graphOrderUptoCard

/-- THE SECOND FORM's CARD OF 'arboristlaw08.GraphWhole'. -/
def graphWholeUptoCard : Claim7 := { stood := { row := graphWholeUptoRow, standIns := [], harness := (true, "af074c6ad00ec03137d79e20f0f6607b0113a9c9be8909cf78ec957c37f72321"), looks := false }, kinds := [], alts := [], laidByText := true, laidKinds := [.data], laidTests := true, laidLooks := .later }
def GraphWholeUptoCardSaid : Prop := Claim7.holds Tryd.pinned (.plain (OpenSpec.upto graphWholeSpec)) graphWholeUptoCard

/-- THE SECOND FORM's CARD OF 'arboristlaw08.GraphKeeps'. -/
def graphKeepsUptoCard : Claim7 := { stood := { row := graphKeepsUptoRow, standIns := [], harness := (true, "af074c6ad00ec03137d79e20f0f6607b0113a9c9be8909cf78ec957c37f72321"), looks := false }, kinds := [], alts := [], laidByText := true, laidKinds := [.data], laidTests := true, laidLooks := .later }
def GraphKeepsUptoCardSaid : Prop := Claim7.holds Tryd.pinned (.plain (OpenSpec.upto graphKeepsSpec)) graphKeepsUptoCard

/-- THE SECOND FORM's CARD OF 'arboristlaw08.GraphAdds'. -/
def graphAddsUptoCard : Claim7 := { stood := { row := graphAddsUptoRow, standIns := [], harness := (true, "af074c6ad00ec03137d79e20f0f6607b0113a9c9be8909cf78ec957c37f72321"), looks := false }, kinds := [], alts := [], laidByText := true, laidKinds := [.data], laidTests := true, laidLooks := .later }
def GraphAddsUptoCardSaid : Prop := Claim7.holds Tryd.pinned (.plain (OpenSpec.upto graphAddsSpec)) graphAddsUptoCard

/-- THE SECOND FORM's CARD OF 'arboristlaw08.GraphPrimal'. -/
def graphPrimalUptoCard : Claim7 := { stood := { row := graphPrimalUptoRow, standIns := [], harness := (true, "af074c6ad00ec03137d79e20f0f6607b0113a9c9be8909cf78ec957c37f72321"), looks := false }, kinds := [], alts := [], laidByText := true, laidKinds := [.data], laidTests := true, laidLooks := .later }
def GraphPrimalUptoCardSaid : Prop := Claim7.holds Tryd.pinned (.plain (OpenSpec.upto graphPrimalSpec)) graphPrimalUptoCard
end Rows
end Go.Proofs.YtaodbohfhelokaaDoor
