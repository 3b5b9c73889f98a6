/-
  DERIVED. GIVEN WITH THE SEED: THE CARDS: each row of YtfgabdfnbkmaeaaDoorRows.lean that lists a variable, with what it lists TIED to the program's text (the seventh form; the later family's looks); each row that meets fmt, with fmt's text TOLD by the authors' own Lean function (tested against real Go, not proved from fmt's source: count such statements apart). THE CARD IS WHAT COUNTS. Prove the row's statement (the work); the ties are given (YtfgabdfnbkmaeaaDoorTie.lean); close each card by the builder's one call (the guide's Derived/Test/ToyasCard.lean, 'card_holds'). Laid BY PROGRAM, IN A SANDBOX (cutbox-door.mjs). By AI agents, Wed Nov 11 2026. No macro, syntax, notation, axiom, sorry.
-/
import Derived.Test.YtfgabdfnbkmaeaaDoorRows
import GoSem.ClaimSeven
namespace Go.Proofs.YtfgabdfnbkmaeaaDoor
namespace Rows

/-- THE TIED CARD OF 'arboristlaw05.ScanTells'. -/
def scanTellsCard : Claim7 := { stood := { row := scanTellsRow, standIns := [], harness := (true, "c745644d6321d7be2feece47c71eabc9a168fc5a5571adbc368379da2aea8793"), looks := true }, kinds := [], alts := [], laidByText := true, laidKinds := [.data, .data, .data, .sentinel, .sentinel], laidTests := true, laidLooks := .later }
def ScanTellsCardSaid : Prop := Claim7.holds Tryd.pinned (.plain (OpenSpec.ofChange scanTellsSpec)) scanTellsCard

/-- THE TIED CARD OF 'arboristlaw05.ScanPlaces'. -/
def scanPlacesCard : Claim7 := { stood := { row := scanPlacesRow, standIns := [], harness := (true, "c745644d6321d7be2feece47c71eabc9a168fc5a5571adbc368379da2aea8793"), looks := true }, kinds := [], alts := [], laidByText := true, laidKinds := [.data, .data, .data, .sentinel, .sentinel], laidTests := true, laidLooks := .later }
def ScanPlacesCardSaid : Prop := Claim7.holds Tryd.pinned (.plain (OpenSpec.ofChange scanPlacesSpec)) scanPlacesCard

/-- THE TIED CARD OF 'arboristlaw05.ScanBlanks'. -/
def scanBlanksCard : Claim7 := { stood := { row := scanBlanksRow, standIns := [], harness := (true, "c745644d6321d7be2feece47c71eabc9a168fc5a5571adbc368379da2aea8793"), looks := true }, kinds := [], alts := [], laidByText := true, laidKinds := [.data, .data, .data, .sentinel, .sentinel], laidTests := true, laidLooks := .later }
def ScanBlanksCardSaid : Prop := Claim7.holds Tryd.pinned (.plain (OpenSpec.ofChange scanBlanksSpec)) scanBlanksCard

/-- THE TIED CARD OF 'arboristlaw05.ScanNumbers'. -/
def scanNumbersCard : Claim7 := { stood := { row := scanNumbersRow, standIns := [], harness := (true, "c745644d6321d7be2feece47c71eabc9a168fc5a5571adbc368379da2aea8793"), looks := true }, kinds := [], alts := [], laidByText := true, laidKinds := [.data, .data, .data, .sentinel, .sentinel], laidTests := true, laidLooks := .later }
def ScanNumbersCardSaid : Prop := Claim7.holds Tryd.pinned (.plain (OpenSpec.ofChange scanNumbersSpec)) scanNumbersCard

/-- THE TIED CARD OF 'arboristlaw05.ScanLong'. -/
def scanLongCard : Claim7 := { stood := { row := scanLongRow, standIns := [], harness := (true, "c745644d6321d7be2feece47c71eabc9a168fc5a5571adbc368379da2aea8793"), looks := true }, kinds := [], alts := [], laidByText := true, laidKinds := [.data, .data, .data, .sentinel, .sentinel], laidTests := true, laidLooks := .later }
def ScanLongCardSaid : Prop := Claim7.holds Tryd.pinned (.plain (OpenSpec.ofChange scanLongSpec)) scanLongCard

/-- THE TIED CARD OF 'arboristlaw05.ScanPairs'. -/
def scanPairsCard : Claim7 := { stood := { row := scanPairsRow, standIns := [], harness := (true, "c745644d6321d7be2feece47c71eabc9a168fc5a5571adbc368379da2aea8793"), looks := true }, kinds := [], alts := [], laidByText := true, laidKinds := [.data, .data, .data, .sentinel, .sentinel], laidTests := true, laidLooks := .later }
def ScanPairsCardSaid : Prop := Claim7.holds Tryd.pinned (.plain (OpenSpec.ofChange scanPairsSpec)) scanPairsCard

/-- THE TIED CARD OF 'arboristlaw05.ScanNotes'. -/
def scanNotesCard : Claim7 := { stood := { row := scanNotesRow, standIns := [], harness := (true, "c745644d6321d7be2feece47c71eabc9a168fc5a5571adbc368379da2aea8793"), looks := true }, kinds := [], alts := [], laidByText := true, laidKinds := [.data, .data, .data, .sentinel, .sentinel], laidTests := true, laidLooks := .later }
def ScanNotesCardSaid : Prop := Claim7.holds Tryd.pinned (.plain (OpenSpec.ofChange scanNotesSpec)) scanNotesCard

/-- THE SECOND FORM's CARD OF 'arboristlaw05.ScanTells'. -/
def scanTellsUptoCard : Claim7 := { stood := { row := scanTellsUptoRow, standIns := [], harness := (true, "c745644d6321d7be2feece47c71eabc9a168fc5a5571adbc368379da2aea8793"), looks := true }, kinds := [], alts := [], laidByText := true, laidKinds := [.data, .data, .data, .sentinel, .sentinel], laidTests := true, laidLooks := .later }
def ScanTellsUptoCardSaid : Prop := Claim7.holds Tryd.pinned (.plain (OpenSpec.upto scanTellsSpec)) scanTellsUptoCard

/-- THE SECOND FORM's CARD OF 'arboristlaw05.ScanPlaces'. -/
def scanPlacesUptoCard : Claim7 := { stood := { row := scanPlacesUptoRow, standIns := [], harness := (true, "c745644d6321d7be2feece47c71eabc9a168fc5a5571adbc368379da2aea8793"), looks := true }, kinds := [], alts := [], laidByText := true, laidKinds := [.data, .data, .data, .sentinel, .sentinel], laidTests := true, laidLooks := .later }
def ScanPlacesUptoCardSaid : Prop := Claim7.holds Tryd.pinned (.plain (OpenSpec.upto scanPlacesSpec)) scanPlacesUptoCard

/-- THE SECOND FORM's CARD OF 'arboristlaw05.ScanBlanks'. -/
def scanBlanksUptoCard : Claim7 := { stood := { row := scanBlanksUptoRow, standIns := [], harness := (true, "c745644d6321d7be2feece47c71eabc9a168fc5a5571adbc368379da2aea8793"), looks := true }, kinds := [], alts := [], laidByText := true, laidKinds := [.data, .data, .data, .sentinel, .sentinel], laidTests := true, laidLooks := .later }
def ScanBlanksUptoCardSaid : Prop := Claim7.holds Tryd.pinned (.plain (OpenSpec.upto scanBlanksSpec)) scanBlanksUptoCard

/-- THE SECOND FORM's CARD OF 'arboristlaw05.ScanNumbers'. -/
def scanNumbersUptoCard : Claim7 := { stood := { row := scanNumbersUptoRow, standIns := [], harness := (true, "c745644d6321d7be2feece47c71eabc9a168fc5a5571adbc368379da2aea8793"), looks := true }, kinds := [], alts := [], laidByText := true, laidKinds := [.data, .data, .data, .sentinel, .sentinel], laidTests := true, laidLooks := .later }
def ScanNumbersUptoCardSaid : Prop := Claim7.holds Tryd.pinned (.plain (OpenSpec.upto scanNumbersSpec)) scanNumbersUptoCard

/-- THE SECOND FORM's CARD OF 'arboristlaw05.ScanLong'. -/
def scanLongUptoCard : Claim7 := { stood := { row := scanLongUptoRow, standIns := [], harness := (true, "c745644d6321d7be2feece47c71eabc9a168fc5a5571adbc368379da2aea8793"), looks := true }, kinds := [], alts := [], laidByText := true, laidKinds := [.data, .data, .data, .sentinel, .sentinel], laidTests := true, laidLooks := .later }
def ScanLongUptoCardSaid : Prop := Claim7.holds Tryd.pinned (.plain (OpenSpec.upto scanLongSpec)) scanLongUptoCard

/-- THE SECOND FORM's CARD OF 'arboristlaw05.ScanPairs'. -/
def scanPairsUptoCard : Claim7 := { stood := { row := scanPairsUptoRow, standIns := [], harness := (true, "c745644d6321d7be2feece47c71eabc9a168fc5a5571adbc368379da2aea8793"), looks := true }, kinds := [], alts := [], laidByText := true, laidKinds := [.data, .data, .data, .sentinel, .sentinel], laidTests := true, laidLooks := .later }
def ScanPairsUptoCardSaid : Prop := Claim7.holds Tryd.pinned (.plain (OpenSpec.upto scanPairsSpec)) scanPairsUptoCard

/-- THE SECOND FORM's CARD OF 'arboristlaw05.ScanNotes'. -/
def scanNotesUptoCard : Claim7 := { stood := { row := scanNotesUptoRow, standIns := [], harness := (true, "c745644d6321d7be2feece47c71eabc9a168fc5a5571adbc368379da2aea8793"), looks := true }, kinds := [], alts := [], laidByText := true, laidKinds := [.data, .data, .data, .sentinel, .sentinel], laidTests := true, laidLooks := .later }
def ScanNotesUptoCardSaid : Prop := Claim7.holds Tryd.pinned (.plain (OpenSpec.upto scanNotesSpec)) scanNotesUptoCard
end Rows
end Go.Proofs.YtfgabdfnbkmaeaaDoor
