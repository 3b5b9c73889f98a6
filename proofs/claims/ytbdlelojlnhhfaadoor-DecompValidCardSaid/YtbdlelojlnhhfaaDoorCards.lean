/-
  DERIVED. GIVEN WITH THE SEED: THE CARDS: each row of YtbdlelojlnhhfaaDoorRows.lean that lists a variable, with what it lists TIED to the program's text (the seventh form; the later family's looks); each row that meets fmt, with fmt's text TOLD by the authors' own Lean function (tested against real Go, not proved from fmt's source: count such statements apart). THE CARD IS WHAT COUNTS. Prove the row's statement (the work); the ties are given (YtbdlelojlnhhfaaDoorTie.lean); close each card by the builder's one call (the guide's Derived/Test/ToyasCard.lean, 'card_holds'). Laid BY PROGRAM, IN A SANDBOX (cutbox-door.mjs). By AI agents, Wed Nov 11 2026. No macro, syntax, notation, axiom, sorry.
-/
import Derived.Test.YtbdlelojlnhhfaaDoorRows
import GoSem.ClaimSeven
namespace Go.Proofs.YtbdlelojlnhhfaaDoor
namespace Rows

/-- THE TIED CARD OF 'arboristlaw11.DecompShares'. -/
def decompSharesCard : Claim7 := { stood := { row := decompSharesRow, standIns := [], harness := (true, "b5aa703c2f78563fdb3ee921ee4443490ef31990f9c98790df37a4539cd87cd3"), looks := false }, kinds := [], alts := [], laidByText := true, laidKinds := [.data], laidTests := true, laidLooks := .later }
def DecompSharesCardSaid : Prop := Claim7.holds Tryd.pinned (.plain (OpenSpec.ofChange decompSharesSpec)) decompSharesCard

/-- THE TIED CARD OF 'arboristlaw11.DecompWhole'. -/
def decompWholeCard : Claim7 := { stood := { row := decompWholeRow, standIns := [], harness := (true, "b5aa703c2f78563fdb3ee921ee4443490ef31990f9c98790df37a4539cd87cd3"), looks := false }, kinds := [], alts := [], laidByText := true, laidKinds := [.data], laidTests := true, laidLooks := .later }
def DecompWholeCardSaid : Prop := Claim7.holds Tryd.pinned (.plain (OpenSpec.ofChange decompWholeSpec)) decompWholeCard

/-- THE TIED CARD OF 'arboristlaw11.DecompTells'. -/
def decompTellsCard : Claim7 := { stood := { row := decompTellsRow, standIns := [], harness := (true, "b5aa703c2f78563fdb3ee921ee4443490ef31990f9c98790df37a4539cd87cd3"), looks := false }, kinds := [], alts := [], laidByText := true, laidKinds := [.data], laidTests := true, laidLooks := .later }
def DecompTellsCardSaid : Prop := Claim7.holds Tryd.pinned (.plain (OpenSpec.ofChange decompTellsSpec)) decompTellsCard

/-- THE TIED CARD OF 'arboristlaw11.DecompValid'. -/
def decompValidCard : Claim7 := { stood := { row := decompValidRow, standIns := [], harness := (true, "b5aa703c2f78563fdb3ee921ee4443490ef31990f9c98790df37a4539cd87cd3"), looks := false }, kinds := [], alts := [], laidByText := true, laidKinds := [.data], laidTests := true, laidLooks := .later }
def DecompValidCardSaid : Prop := Claim7.holds Tryd.pinned (.plain (OpenSpec.ofChange decompValidSpec)) decompValidCard

/-- THE TIED CARD OF 'arboristlaw11.DecompCliques'. -/
def decompCliquesCard : Claim7 := { stood := { row := decompCliquesRow, standIns := [], harness := (true, "b5aa703c2f78563fdb3ee921ee4443490ef31990f9c98790df37a4539cd87cd3"), looks := false }, kinds := [], alts := [], laidByText := true, laidKinds := [.data], laidTests := true, laidLooks := .later }
def DecompCliquesCardSaid : Prop := Claim7.holds Tryd.pinned (.plain (OpenSpec.ofChange decompCliquesSpec)) decompCliquesCard

/-- THE TIED CARD OF 'arboristlaw11.DecompFilled'. -/
def decompFilledCard : Claim7 := { stood := { row := decompFilledRow, standIns := [], harness := (true, "b5aa703c2f78563fdb3ee921ee4443490ef31990f9c98790df37a4539cd87cd3"), looks := false }, kinds := [], alts := [], laidByText := true, laidKinds := [.data], laidTests := true, laidLooks := .later }
def DecompFilledCardSaid : Prop := Claim7.holds Tryd.pinned (.plain (OpenSpec.ofChange decompFilledSpec)) decompFilledCard

/-- THE TIED CARD OF 'arboristlaw11.DecompTrees'. -/
def decompTreesCard : Claim7 := { stood := { row := decompTreesRow, standIns := [], harness := (true, "b5aa703c2f78563fdb3ee921ee4443490ef31990f9c98790df37a4539cd87cd3"), looks := false }, kinds := [], alts := [], laidByText := true, laidKinds := [.data], laidTests := true, laidLooks := .later }
def DecompTreesCardSaid : Prop := Claim7.holds Tryd.pinned (.plain (OpenSpec.ofChange decompTreesSpec)) decompTreesCard

/-- THE SECOND FORM's CARD OF 'arboristlaw11.DecompShares'. -/
def decompSharesUptoCard : Claim7 := { stood := { row := decompSharesUptoRow, standIns := [], harness := (true, "b5aa703c2f78563fdb3ee921ee4443490ef31990f9c98790df37a4539cd87cd3"), looks := false }, kinds := [], alts := [], laidByText := true, laidKinds := [.data], laidTests := true, laidLooks := .later }
def DecompSharesUptoCardSaid : Prop := Claim7.holds Tryd.pinned (.plain (OpenSpec.upto decompSharesSpec)) decompSharesUptoCard

/-- THE SECOND FORM's CARD OF 'arboristlaw11.DecompWhole'. -/
def decompWholeUptoCard : Claim7 := { stood := { row := decompWholeUptoRow, standIns := [], harness := (true, "b5aa703c2f78563fdb3ee921ee4443490ef31990f9c98790df37a4539cd87cd3"), looks := false }, kinds := [], alts := [], laidByText := true, laidKinds := [.data], laidTests := true, laidLooks := .later }
def DecompWholeUptoCardSaid : Prop := Claim7.holds Tryd.pinned (.plain (OpenSpec.upto decompWholeSpec)) decompWholeUptoCard

/-- THE SECOND FORM's CARD OF 'arboristlaw11.DecompTells'. -/
def decompTellsUptoCard : Claim7 := { stood := { row := decompTellsUptoRow, standIns := [], harness := (true, "b5aa703c2f78563fdb3ee921ee4443490ef31990f9c98790df37a4539cd87cd3"), looks := false }, kinds := [], alts := [], laidByText := true, laidKinds := [.data], laidTests := true, laidLooks := .later }
def DecompTellsUptoCardSaid : Prop := Claim7.holds Tryd.pinned (.plain (OpenSpec.upto decompTellsSpec)) decompTellsUptoCard

/-- THE SECOND FORM's CARD OF 'arboristlaw11.DecompValid'. -/
def decompValidUptoCard : Claim7 := { stood := { row := decompValidUptoRow, standIns := [], harness := (true, "b5aa703c2f78563fdb3ee921ee4443490ef31990f9c98790df37a4539cd87cd3"), looks := false }, kinds := [], alts := [], laidByText := true, laidKinds := [.data], laidTests := true, laidLooks := .later }
def DecompValidUptoCardSaid : Prop := Claim7.holds Tryd.pinned (.plain (OpenSpec.upto decompValidSpec)) decompValidUptoCard

/-- THE SECOND FORM's CARD OF 'arboristlaw11.DecompCliques'. -/
def decompCliquesUptoCard : Claim7 := { stood := { row := decompCliquesUptoRow, standIns := [], harness := (true, "b5aa703c2f78563fdb3ee921ee4443490ef31990f9c98790df37a4539cd87cd3"), looks := false }, kinds := [], alts := [], laidByText := true, laidKinds := [.data], laidTests := true, laidLooks := .later }
def DecompCliquesUptoCardSaid : Prop := Claim7.holds Tryd.pinned (.plain (OpenSpec.upto decompCliquesSpec)) decompCliquesUptoCard

/-- THE SECOND FORM's CARD OF 'arboristlaw11.DecompFilled'. -/
def decompFilledUptoCard : Claim7 := { stood := { row := decompFilledUptoRow, standIns := [], harness := (true, "b5aa703c2f78563fdb3ee921ee4443490ef31990f9c98790df37a4539cd87cd3"), looks := false }, kinds := [], alts := [], laidByText := true, laidKinds := [.data], laidTests := true, laidLooks := .later }
def DecompFilledUptoCardSaid : Prop := Claim7.holds Tryd.pinned (.plain (OpenSpec.upto decompFilledSpec)) decompFilledUptoCard

/-- THE SECOND FORM's CARD OF 'arboristlaw11.DecompTrees'. -/
def decompTreesUptoCard : Claim7 := { stood := { row := decompTreesUptoRow, standIns := [], harness := (true, "b5aa703c2f78563fdb3ee921ee4443490ef31990f9c98790df37a4539cd87cd3"), looks := false }, kinds := [], alts := [], laidByText := true, laidKinds := [.data], laidTests := true, laidLooks := .later }
def DecompTreesUptoCardSaid : Prop := Claim7.holds Tryd.pinned (.plain (OpenSpec.upto decompTreesSpec)) decompTreesUptoCard
end Rows
end Go.Proofs.YtbdlelojlnhhfaaDoor
