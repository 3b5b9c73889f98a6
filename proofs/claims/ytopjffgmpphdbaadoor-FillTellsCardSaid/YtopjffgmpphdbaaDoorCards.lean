/-
  DERIVED. GIVEN WITH THE SEED: THE CARDS: each row of YtopjffgmpphdbaaDoorRows.lean that lists a variable, with what it lists TIED to the program's text (the seventh form; the later family's looks); each row that meets fmt, with fmt's text TOLD by the authors' own Lean function (tested against real Go, not proved from fmt's source: count such statements apart). THE CARD IS WHAT COUNTS. Prove the row's statement (the work); the ties are given (YtopjffgmpphdbaaDoorTie.lean); close each card by the builder's one call (the guide's Derived/Test/ToyasCard.lean, 'card_holds'). Laid BY PROGRAM, IN A SANDBOX (cutbox-door.mjs). By AI agents, Wed Nov 11 2026. No macro, syntax, notation, axiom, sorry.
-/
import Derived.Test.YtopjffgmpphdbaaDoorRows
import GoSem.ClaimSeven
namespace Go.Proofs.YtopjffgmpphdbaaDoor
namespace Rows

/-- THE TIED CARD OF 'arboristlaw10.FillTells'. -/
def fillTellsCard : Claim7 := { stood := { row := fillTellsRow, standIns := [], harness := (true, "6ca461ad2d0e272a0487001049e8faa726419818016388472b9d03fa818b05b0"), looks := false }, kinds := [], alts := [], laidByText := true, laidKinds := [.data], laidTests := true, laidLooks := .later }
def FillTellsCardSaid : Prop := Claim7.holds Tryd.pinned (.plain (OpenSpec.ofChange fillTellsSpec)) fillTellsCard

/-- THE TIED CARD OF 'arboristlaw10.FillOnce'. -/
def fillOnceCard : Claim7 := { stood := { row := fillOnceRow, standIns := [], harness := (true, "6ca461ad2d0e272a0487001049e8faa726419818016388472b9d03fa818b05b0"), looks := false }, kinds := [], alts := [], laidByText := true, laidKinds := [.data], laidTests := true, laidLooks := .later }
def FillOnceCardSaid : Prop := Claim7.holds Tryd.pinned (.plain (OpenSpec.ofChange fillOnceSpec)) fillOnceCard

/-- THE TIED CARD OF 'arboristlaw10.FillEdges'. -/
def fillEdgesCard : Claim7 := { stood := { row := fillEdgesRow, standIns := [], harness := (true, "6ca461ad2d0e272a0487001049e8faa726419818016388472b9d03fa818b05b0"), looks := false }, kinds := [], alts := [], laidByText := true, laidKinds := [.data], laidTests := true, laidLooks := .later }
def FillEdgesCardSaid : Prop := Claim7.holds Tryd.pinned (.plain (OpenSpec.ofChange fillEdgesSpec)) fillEdgesCard

/-- THE TIED CARD OF 'arboristlaw10.FillCard'. -/
def fillCardCard : Claim7 := { stood := { row := fillCardRow, standIns := [], harness := (true, "6ca461ad2d0e272a0487001049e8faa726419818016388472b9d03fa818b05b0"), looks := false }, kinds := [], alts := [], laidByText := true, laidKinds := [.data], laidTests := true, laidLooks := .later }
def FillCardCardSaid : Prop := Claim7.holds Tryd.pinned (.plain (OpenSpec.ofChange fillCardSpec)) fillCardCard

/-- THE TIED CARD OF 'arboristlaw10.FillWide'. -/
def fillWideCard : Claim7 := { stood := { row := fillWideRow, standIns := [], harness := (true, "6ca461ad2d0e272a0487001049e8faa726419818016388472b9d03fa818b05b0"), looks := false }, kinds := [], alts := [], laidByText := true, laidKinds := [.data], laidTests := true, laidLooks := .later }
def FillWideCardSaid : Prop := Claim7.holds Tryd.pinned (.plain (OpenSpec.ofChange fillWideSpec)) fillWideCard

/-- THE TIED CARD OF 'arboristlaw10.FillRings'. -/
def fillRingsCard : Claim7 := { stood := { row := fillRingsRow, standIns := [], harness := (true, "6ca461ad2d0e272a0487001049e8faa726419818016388472b9d03fa818b05b0"), looks := false }, kinds := [], alts := [], laidByText := true, laidKinds := [.data], laidTests := true, laidLooks := .later }
def FillRingsCardSaid : Prop := Claim7.holds Tryd.pinned (.plain (OpenSpec.ofChange fillRingsSpec)) fillRingsCard

/-- THE TIED CARD OF 'arboristlaw10.FillWhole'. -/
def fillWholeCard : Claim7 := { stood := { row := fillWholeRow, standIns := [], harness := (true, "6ca461ad2d0e272a0487001049e8faa726419818016388472b9d03fa818b05b0"), looks := false }, kinds := [], alts := [], laidByText := true, laidKinds := [.data], laidTests := true, laidLooks := .later }
def FillWholeCardSaid : Prop := Claim7.holds Tryd.pinned (.plain (OpenSpec.ofChange fillWholeSpec)) fillWholeCard

/-- THE SECOND FORM's CARD OF 'arboristlaw10.FillTells'. -/
def fillTellsUptoCard : Claim7 := { stood := { row := fillTellsUptoRow, standIns := [], harness := (true, "6ca461ad2d0e272a0487001049e8faa726419818016388472b9d03fa818b05b0"), looks := false }, kinds := [], alts := [], laidByText := true, laidKinds := [.data], laidTests := true, laidLooks := .later }
def FillTellsUptoCardSaid : Prop := Claim7.holds Tryd.pinned (.plain (OpenSpec.upto fillTellsSpec)) fillTellsUptoCard

/-- THE SECOND FORM's CARD OF 'arboristlaw10.FillOnce'. -/
def fillOnceUptoCard : Claim7 := { stood := { row := fillOnceUptoRow, standIns := [], harness := (true, "6ca461ad2d0e272a0487001049e8faa726419818016388472b9d03fa818b05b0"), looks := false }, kinds := [], alts := [], laidByText := true, laidKinds := [.data], laidTests := true, laidLooks := .later }
def FillOnceUptoCardSaid : Prop := Claim7.holds Tryd.pinned (.plain (OpenSpec.upto fillOnceSpec)) fillOnceUptoCard

/-- THE SECOND FORM's CARD OF 'arboristlaw10.FillEdges'. -/
def fillEdgesUptoCard : Claim7 := { stood := { row := fillEdgesUptoRow, standIns := [], harness := (true, "6ca461ad2d0e272a0487001049e8faa726419818016388472b9d03fa818b05b0"), looks := false }, kinds := [], alts := [], laidByText := true, laidKinds := [.data], laidTests := true, laidLooks := .later }
def FillEdgesUptoCardSaid : Prop := Claim7.holds Tryd.pinned (.plain (OpenSpec.upto fillEdgesSpec)) fillEdgesUptoCard

/-- THE SECOND FORM's CARD OF 'arboristlaw10.FillCard'. -/
def fillCardUptoCard : Claim7 := { stood := { row := fillCardUptoRow, standIns := [], harness := (true, "6ca461ad2d0e272a0487001049e8faa726419818016388472b9d03fa818b05b0"), looks := false }, kinds := [], alts := [], laidByText := true, laidKinds := [.data], laidTests := true, laidLooks := .later }
def FillCardUptoCardSaid : Prop := Claim7.holds Tryd.pinned (.plain (OpenSpec.upto fillCardSpec)) fillCardUptoCard

/-- THE SECOND FORM's CARD OF 'arboristlaw10.FillWide'. -/
def fillWideUptoCard : Claim7 := { stood := { row := fillWideUptoRow, standIns := [], harness := (true, "6ca461ad2d0e272a0487001049e8faa726419818016388472b9d03fa818b05b0"), looks := false }, kinds := [], alts := [], laidByText := true, laidKinds := [.data], laidTests := true, laidLooks := .later }
def FillWideUptoCardSaid : Prop := Claim7.holds Tryd.pinned (.plain (OpenSpec.upto fillWideSpec)) fillWideUptoCard

/-- THE SECOND FORM's CARD OF 'arboristlaw10.FillRings'. -/
def fillRingsUptoCard : Claim7 := { stood := { row := fillRingsUptoRow, standIns := [], harness := (true, "6ca461ad2d0e272a0487001049e8faa726419818016388472b9d03fa818b05b0"), looks := false }, kinds := [], alts := [], laidByText := true, laidKinds := [.data], laidTests := true, laidLooks := .later }
def FillRingsUptoCardSaid : Prop := Claim7.holds Tryd.pinned (.plain (OpenSpec.upto fillRingsSpec)) fillRingsUptoCard

/-- THE SECOND FORM's CARD OF 'arboristlaw10.FillWhole'. -/
def fillWholeUptoCard : Claim7 := { stood := { row := fillWholeUptoRow, standIns := [], harness := (true, "6ca461ad2d0e272a0487001049e8faa726419818016388472b9d03fa818b05b0"), looks := false }, kinds := [], alts := [], laidByText := true, laidKinds := [.data], laidTests := true, laidLooks := .later }
def FillWholeUptoCardSaid : Prop := Claim7.holds Tryd.pinned (.plain (OpenSpec.upto fillWholeSpec)) fillWholeUptoCard
end Rows
end Go.Proofs.YtopjffgmpphdbaaDoor
