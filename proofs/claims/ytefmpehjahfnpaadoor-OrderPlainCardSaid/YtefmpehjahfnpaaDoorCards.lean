/-
  DERIVED. GIVEN WITH THE SEED: THE CARDS: each row of YtefmpehjahfnpaaDoorRows.lean that lists a variable, with what it lists TIED to the program's text (the seventh form; the later family's looks); each row that meets fmt, with fmt's text TOLD by the authors' own Lean function (tested against real Go, not proved from fmt's source: count such statements apart). THE CARD IS WHAT COUNTS. Prove the row's statement (the work); the ties are given (YtefmpehjahfnpaaDoorTie.lean); close each card by the builder's one call (the guide's Derived/Test/ToyasCard.lean, 'card_holds'). Laid BY PROGRAM, IN A SANDBOX (cutbox-door.mjs). By AI agents, Wed Nov 11 2026. No macro, syntax, notation, axiom, sorry.
-/
import Derived.Test.YtefmpehjahfnpaaDoorRows
import GoSem.ClaimSeven
namespace Go.Proofs.YtefmpehjahfnpaaDoor
namespace Rows

/-- THE TIED CARD OF 'arboristlaw09.OrderTells'. -/
def orderTellsCard : Claim7 := { stood := { row := orderTellsRow, standIns := [], harness := (true, "82e550dc9723705c827e48001a763c739af57a53420284e9d0014a01c42de8b0"), looks := false }, kinds := [], alts := [], laidByText := true, laidKinds := [.data], laidTests := true, laidLooks := .later }
def OrderTellsCardSaid : Prop := Claim7.holds Tryd.pinned (.plain (OpenSpec.ofChange orderTellsSpec)) orderTellsCard

/-- THE TIED CARD OF 'arboristlaw09.OrderGoes'. -/
def orderGoesCard : Claim7 := { stood := { row := orderGoesRow, standIns := [], harness := (true, "82e550dc9723705c827e48001a763c739af57a53420284e9d0014a01c42de8b0"), looks := false }, kinds := [], alts := [], laidByText := true, laidKinds := [.data], laidTests := true, laidLooks := .later }
def OrderGoesCardSaid : Prop := Claim7.holds Tryd.pinned (.plain (OpenSpec.ofChange orderGoesSpec)) orderGoesCard

/-- THE TIED CARD OF 'arboristlaw09.OrderTrees'. -/
def orderTreesCard : Claim7 := { stood := { row := orderTreesRow, standIns := [], harness := (true, "82e550dc9723705c827e48001a763c739af57a53420284e9d0014a01c42de8b0"), looks := false }, kinds := [], alts := [], laidByText := true, laidKinds := [.data], laidTests := true, laidLooks := .later }
def OrderTreesCardSaid : Prop := Claim7.holds Tryd.pinned (.plain (OpenSpec.ofChange orderTreesSpec)) orderTreesCard

/-- THE TIED CARD OF 'arboristlaw09.OrderPlain'. -/
def orderPlainCard : Claim7 := { stood := { row := orderPlainRow, standIns := [], harness := (true, "82e550dc9723705c827e48001a763c739af57a53420284e9d0014a01c42de8b0"), looks := false }, kinds := [], alts := [], laidByText := true, laidKinds := [.data], laidTests := true, laidLooks := .later }
def OrderPlainCardSaid : Prop := Claim7.holds Tryd.pinned (.plain (OpenSpec.ofChange orderPlainSpec)) orderPlainCard

/-- THE TIED CARD OF 'arboristlaw09.OrderPermutes'. -/
def orderPermutesCard : Claim7 := { stood := { row := orderPermutesRow, standIns := [], harness := (true, "82e550dc9723705c827e48001a763c739af57a53420284e9d0014a01c42de8b0"), looks := false }, kinds := [], alts := [], laidByText := true, laidKinds := [.data], laidTests := true, laidLooks := .later }
def OrderPermutesCardSaid : Prop := Claim7.holds Tryd.pinned (.plain (OpenSpec.ofChange orderPermutesSpec)) orderPermutesCard

/-- THE SECOND FORM's CARD OF 'arboristlaw09.OrderTells'. -/
def orderTellsUptoCard : Claim7 := { stood := { row := orderTellsUptoRow, standIns := [], harness := (true, "82e550dc9723705c827e48001a763c739af57a53420284e9d0014a01c42de8b0"), looks := false }, kinds := [], alts := [], laidByText := true, laidKinds := [.data], laidTests := true, laidLooks := .later }
def OrderTellsUptoCardSaid : Prop := Claim7.holds Tryd.pinned (.plain (OpenSpec.upto orderTellsSpec)) orderTellsUptoCard

/-- THE SECOND FORM's CARD OF 'arboristlaw09.OrderGoes'. -/
def orderGoesUptoCard : Claim7 := { stood := { row := orderGoesUptoRow, standIns := [], harness := (true, "82e550dc9723705c827e48001a763c739af57a53420284e9d0014a01c42de8b0"), looks := false }, kinds := [], alts := [], laidByText := true, laidKinds := [.data], laidTests := true, laidLooks := .later }
def OrderGoesUptoCardSaid : Prop := Claim7.holds Tryd.pinned (.plain (OpenSpec.upto orderGoesSpec)) orderGoesUptoCard

/-- THE SECOND FORM's CARD OF 'arboristlaw09.OrderTrees'. -/
def orderTreesUptoCard : Claim7 := { stood := { row := orderTreesUptoRow, standIns := [], harness := (true, "82e550dc9723705c827e48001a763c739af57a53420284e9d0014a01c42de8b0"), looks := false }, kinds := [], alts := [], laidByText := true, laidKinds := [.data], laidTests := true, laidLooks := .later }
def OrderTreesUptoCardSaid : Prop := Claim7.holds Tryd.pinned (.plain (OpenSpec.upto orderTreesSpec)) orderTreesUptoCard

/-- THE SECOND FORM's CARD OF 'arboristlaw09.OrderPlain'. -/
def orderPlainUptoCard : Claim7 := { stood := { row := orderPlainUptoRow, standIns := [], harness := (true, "82e550dc9723705c827e48001a763c739af57a53420284e9d0014a01c42de8b0"), looks := false }, kinds := [], alts := [], laidByText := true, laidKinds := [.data], laidTests := true, laidLooks := .later }
def OrderPlainUptoCardSaid : Prop := Claim7.holds Tryd.pinned (.plain (OpenSpec.upto orderPlainSpec)) orderPlainUptoCard

/-- THE SECOND FORM's CARD OF 'arboristlaw09.OrderPermutes'. -/
def orderPermutesUptoCard : Claim7 := { stood := { row := orderPermutesUptoRow, standIns := [], harness := (true, "82e550dc9723705c827e48001a763c739af57a53420284e9d0014a01c42de8b0"), looks := false }, kinds := [], alts := [], laidByText := true, laidKinds := [.data], laidTests := true, laidLooks := .later }
def OrderPermutesUptoCardSaid : Prop := Claim7.holds Tryd.pinned (.plain (OpenSpec.upto orderPermutesSpec)) orderPermutesUptoCard
end Rows
end Go.Proofs.YtefmpehjahfnpaaDoor
