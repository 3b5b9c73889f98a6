/-
  No cell of these rows narrows 'for every input' (looked for: loops, veiled, ifaces, maps, wideKeys, modest, calm, conditions, laid).
  DERIVED. THE GIVEN ROWS OF THIS SEAT. 9 by the template 'for every input the law returns true; each argument reads behind the call as it read before'; 0 by the template 'total and deterministic' (their statements: YtlnmgljiggebiaaTotals.lean).
  GIVEN WITH THE SEED: the statements are not yours to turn. If you find one false, say at which input.
  Laid BY PROGRAM, IN A SANDBOX (cutbox-rows.mjs): the forced cells as the released guide's own fill.sh prints them over the translation 1778c7b1180358cf… (all of the seat's roots in one cut). By AI agents, Wed Nov 11 2026. No macro, syntax, notation, axiom, sorry.
-/
import Derived.Test.YtlnmgljiggebiaaChecked
import GoSem.Claim
import GoSem.ClaimJoined
import GoSem.ClaimMapViews
import Derived.JoinedTies
import Derived.KernelRfl
namespace Go.Proofs.Ytlnmgljiggebiaa
/- THE CELL 'sum', in the pinned program and in every row, IS THE sha256 OF THE DUMP (.gsa) THAT YtlnmgljiggebiaaProg.lean LOADS. Nothing in Lean hashes anything: it is a label: what it is worth is what the hold of that sum in a sandbox is worth. -/
noncomputable def Try.pinned : Pinned := { name := "ytlnmgljiggebiaa", sum := "1778c7b1180358cfa45a0681a7e1b97b62a05d313adb1e43399be9807670b2f4", checked := Try.checked }
namespace Rows
def none {H : Type} : Left H := { results := [], args := [] }

/-- 'arboristlaw01.TupleOrders': WHATEVER THE INPUT: true; the input reads as it did. -/
def tupleOrdersSpec : ChangeSpec := { name := "tupleOrders", fn := fun _ => fun
  | [d1, d2] => { results := [.lit (.bool true)], args := [d1, d2] }
  | _ => none }
def tupleOrdersRow : OpenClaim := { program := "ytlnmgljiggebiaa", sum := "1778c7b1180358cfa45a0681a7e1b97b62a05d313adb1e43399be9807670b2f4", func := "arborist/arboristlaw01.TupleOrders", spec := "tupleOrders", unfollowed := true, recurses := true, apart := false }
def TupleOrdersSaid : Prop := tupleOrdersRow.holds Try.pinned (OpenSpec.ofChange tupleOrdersSpec)

/-- ITS FALSE NEIGHBOUR: 'it returns false'. Refute it at one input. -/
def tupleOrdersWrong : ChangeSpec := { name := "tupleOrders", fn := fun _ => fun
  | [d1, d2] => { results := [.lit (.bool false)], args := [d1, d2] }
  | _ => none }
def TupleOrdersWrongFalsely : Prop := tupleOrdersRow.holds Try.pinned (OpenSpec.ofChange tupleOrdersWrong)

/-- 'arboristlaw01.TuplePicks': WHATEVER THE INPUT: true; the input reads as it did. -/
def tuplePicksSpec : ChangeSpec := { name := "tuplePicks", fn := fun _ => fun
  | [d1, d2] => { results := [.lit (.bool true)], args := [d1, d2] }
  | _ => none }
def tuplePicksRow : OpenClaim := { program := "ytlnmgljiggebiaa", sum := "1778c7b1180358cfa45a0681a7e1b97b62a05d313adb1e43399be9807670b2f4", func := "arborist/arboristlaw01.TuplePicks", spec := "tuplePicks", unfollowed := true, recurses := true, apart := false }
def TuplePicksSaid : Prop := tuplePicksRow.holds Try.pinned (OpenSpec.ofChange tuplePicksSpec)

/-- ITS FALSE NEIGHBOUR: 'it returns false'. Refute it at one input. -/
def tuplePicksWrong : ChangeSpec := { name := "tuplePicks", fn := fun _ => fun
  | [d1, d2] => { results := [.lit (.bool false)], args := [d1, d2] }
  | _ => none }
def TuplePicksWrongFalsely : Prop := tuplePicksRow.holds Try.pinned (OpenSpec.ofChange tuplePicksWrong)

/-- 'arboristlaw01.TupleFinds': WHATEVER THE INPUT: true; the input reads as it did. -/
def tupleFindsSpec : ChangeSpec := { name := "tupleFinds", fn := fun _ => fun
  | [d1, d2] => { results := [.lit (.bool true)], args := [d1, d2] }
  | _ => none }
def tupleFindsRow : OpenClaim := { program := "ytlnmgljiggebiaa", sum := "1778c7b1180358cfa45a0681a7e1b97b62a05d313adb1e43399be9807670b2f4", func := "arborist/arboristlaw01.TupleFinds", spec := "tupleFinds", unfollowed := true, recurses := true, apart := false }
def TupleFindsSaid : Prop := tupleFindsRow.holds Try.pinned (OpenSpec.ofChange tupleFindsSpec)

/-- ITS FALSE NEIGHBOUR: 'it returns false'. Refute it at one input. -/
def tupleFindsWrong : ChangeSpec := { name := "tupleFinds", fn := fun _ => fun
  | [d1, d2] => { results := [.lit (.bool false)], args := [d1, d2] }
  | _ => none }
def TupleFindsWrongFalsely : Prop := tupleFindsRow.holds Try.pinned (OpenSpec.ofChange tupleFindsWrong)

/-- 'arboristlaw01.TupleTurned': WHATEVER THE INPUT: true; the input reads as it did. -/
def tupleTurnedSpec : ChangeSpec := { name := "tupleTurned", fn := fun _ => fun
  | [d1, d2, d3] => { results := [.lit (.bool true)], args := [d1, d2, d3] }
  | _ => none }
def tupleTurnedRow : OpenClaim := { program := "ytlnmgljiggebiaa", sum := "1778c7b1180358cfa45a0681a7e1b97b62a05d313adb1e43399be9807670b2f4", func := "arborist/arboristlaw01.TupleTurned", spec := "tupleTurned", unfollowed := true, recurses := true, apart := false }
def TupleTurnedSaid : Prop := tupleTurnedRow.holds Try.pinned (OpenSpec.ofChange tupleTurnedSpec)

/-- ITS FALSE NEIGHBOUR: 'it returns false'. Refute it at one input. -/
def tupleTurnedWrong : ChangeSpec := { name := "tupleTurned", fn := fun _ => fun
  | [d1, d2, d3] => { results := [.lit (.bool false)], args := [d1, d2, d3] }
  | _ => none }
def TupleTurnedWrongFalsely : Prop := tupleTurnedRow.holds Try.pinned (OpenSpec.ofChange tupleTurnedWrong)

/-- 'arboristlaw01.TupleSame': WHATEVER THE INPUT: true; the input reads as it did. -/
def tupleSameSpec : ChangeSpec := { name := "tupleSame", fn := fun _ => fun
  | [d] => { results := [.lit (.bool true)], args := [d] }
  | _ => none }
def tupleSameRow : OpenClaim := { program := "ytlnmgljiggebiaa", sum := "1778c7b1180358cfa45a0681a7e1b97b62a05d313adb1e43399be9807670b2f4", func := "arborist/arboristlaw01.TupleSame", spec := "tupleSame", unfollowed := true, recurses := true, apart := false }
def TupleSameSaid : Prop := tupleSameRow.holds Try.pinned (OpenSpec.ofChange tupleSameSpec)

/-- ITS FALSE NEIGHBOUR: 'it returns false'. Refute it at one input. -/
def tupleSameWrong : ChangeSpec := { name := "tupleSame", fn := fun _ => fun
  | [d] => { results := [.lit (.bool false)], args := [d] }
  | _ => none }
def TupleSameWrongFalsely : Prop := tupleSameRow.holds Try.pinned (OpenSpec.ofChange tupleSameWrong)

/-- 'arboristlaw01.TupleAll': WHATEVER THE INPUT: true; the input reads as it did. -/
def tupleAllSpec : ChangeSpec := { name := "tupleAll", fn := fun _ => fun
  | [d1, d2, d3] => { results := [.lit (.bool true)], args := [d1, d2, d3] }
  | _ => none }
def tupleAllRow : OpenClaim := { program := "ytlnmgljiggebiaa", sum := "1778c7b1180358cfa45a0681a7e1b97b62a05d313adb1e43399be9807670b2f4", func := "arborist/arboristlaw01.TupleAll", spec := "tupleAll", unfollowed := true, recurses := true, apart := false }
def TupleAllSaid : Prop := tupleAllRow.holds Try.pinned (OpenSpec.ofChange tupleAllSpec)

/-- ITS FALSE NEIGHBOUR: 'it returns false'. Refute it at one input. -/
def tupleAllWrong : ChangeSpec := { name := "tupleAll", fn := fun _ => fun
  | [d1, d2, d3] => { results := [.lit (.bool false)], args := [d1, d2, d3] }
  | _ => none }
def TupleAllWrongFalsely : Prop := tupleAllRow.holds Try.pinned (OpenSpec.ofChange tupleAllWrong)

/-- 'arboristlaw01.TupleSets': WHATEVER THE INPUT: true; the input reads as it did. -/
def tupleSetsSpec : ChangeSpec := { name := "tupleSets", fn := fun _ => fun
  | [d1, d2] => { results := [.lit (.bool true)], args := [d1, d2] }
  | _ => none }
def tupleSetsRow : OpenClaim := { program := "ytlnmgljiggebiaa", sum := "1778c7b1180358cfa45a0681a7e1b97b62a05d313adb1e43399be9807670b2f4", func := "arborist/arboristlaw01.TupleSets", spec := "tupleSets", unfollowed := true, recurses := true, apart := false }
def TupleSetsSaid : Prop := tupleSetsRow.holds Try.pinned (OpenSpec.ofChange tupleSetsSpec)

/-- ITS FALSE NEIGHBOUR: 'it returns false'. Refute it at one input. -/
def tupleSetsWrong : ChangeSpec := { name := "tupleSets", fn := fun _ => fun
  | [d1, d2] => { results := [.lit (.bool false)], args := [d1, d2] }
  | _ => none }
def TupleSetsWrongFalsely : Prop := tupleSetsRow.holds Try.pinned (OpenSpec.ofChange tupleSetsWrong)

/-- 'arboristlaw01.TupleParts': WHATEVER THE INPUT: true; the input reads as it did. -/
def tuplePartsSpec : ChangeSpec := { name := "tupleParts", fn := fun _ => fun
  | [d1, d2] => { results := [.lit (.bool true)], args := [d1, d2] }
  | _ => none }
def tuplePartsRow : OpenClaim := { program := "ytlnmgljiggebiaa", sum := "1778c7b1180358cfa45a0681a7e1b97b62a05d313adb1e43399be9807670b2f4", func := "arborist/arboristlaw01.TupleParts", spec := "tupleParts", unfollowed := true, recurses := true, apart := false }
def TuplePartsSaid : Prop := tuplePartsRow.holds Try.pinned (OpenSpec.ofChange tuplePartsSpec)

/-- ITS FALSE NEIGHBOUR: 'it returns false'. Refute it at one input. -/
def tuplePartsWrong : ChangeSpec := { name := "tupleParts", fn := fun _ => fun
  | [d1, d2] => { results := [.lit (.bool false)], args := [d1, d2] }
  | _ => none }
def TuplePartsWrongFalsely : Prop := tuplePartsRow.holds Try.pinned (OpenSpec.ofChange tuplePartsWrong)

/-- 'arboristlaw01.TupleLaws': WHATEVER THE INPUT: true; the input reads as it did. -/
def tupleLawsSpec : ChangeSpec := { name := "tupleLaws", fn := fun _ => fun
  | [d1, d2, d3] => { results := [.lit (.bool true)], args := [d1, d2, d3] }
  | _ => none }
def tupleLawsRow : OpenClaim := { program := "ytlnmgljiggebiaa", sum := "1778c7b1180358cfa45a0681a7e1b97b62a05d313adb1e43399be9807670b2f4", func := "arborist/arboristlaw01.TupleLaws", spec := "tupleLaws", unfollowed := true, recurses := true, apart := false }
def TupleLawsSaid : Prop := tupleLawsRow.holds Try.pinned (OpenSpec.ofChange tupleLawsSpec)

/-- ITS FALSE NEIGHBOUR: 'it returns false'. Refute it at one input. -/
def tupleLawsWrong : ChangeSpec := { name := "tupleLaws", fn := fun _ => fun
  | [d1, d2, d3] => { results := [.lit (.bool false)], args := [d1, d2, d3] }
  | _ => none }
def TupleLawsWrongFalsely : Prop := tupleLawsRow.holds Try.pinned (OpenSpec.ofChange tupleLawsWrong)

/- THE SECOND FORM. 'bulk': how many values and letters a reading holds, each counted each time it is reached (what is shared counts as often as it is met; a slice's spare places count too). A statement '..UptoSaid' is the law's where the arguments, and the package variables that the reading takes, are together of bulk at most 1048576: NARROWER than '..Said'. Prove '..Said' where nothing that the law and all that it calls make is longer than what came in: it says more and counts as full. Else prove '..UptoSaid'. A law counts once. -/
mutual
def uptoBulk {H : Type} : DataW H → Nat
  | .lit (.string bytes) => bytes.length + 1
  | .lit _ => 1
  | .nil => 1
  | .ptr d => uptoBulk d + 1
  | .slice elems spare => uptoBulkAll elems + uptoBulkAll spare + 1
  | .agg parts => uptoBulkAll parts + 1
  | .iface _ d => uptoBulk d + 1
  | .map entries => uptoBulkEntries entries + 1
  | .held _ => 1
def uptoBulkAll {H : Type} : List (DataW H) → Nat
  | [] => 0
  | d :: r => uptoBulk d + uptoBulkAll r
def uptoBulkEntries {H : Type} : List (Lit × DataW H) → Nat
  | [] => 0
  | x :: r => uptoBulkEntry x + uptoBulkEntries r
def uptoBulkEntry {H : Type} : Lit × DataW H → Nat
  | (.string bytes, d) => bytes.length + uptoBulk d + 1
  | (_, d) => uptoBulk d + 1
 end
def uptoSmall : (H : Type) → List (DataW H) → Bool := fun _ ds => decide (uptoBulkAll ds ≤ 1048576)
def OpenSpec.upto (s : _root_.Go.ChangeSpec) : _root_.Go.OpenSpec := { _root_.Go.OpenSpec.ofChange s with cond := some uptoSmall }

/-- 'arboristlaw01.TupleOrders', WHERE WHAT IT READS IS OF BULK AT MOST 1048576: true; the input reads as it did. -/
def tupleOrdersUptoRow : OpenClaim := { program := "ytlnmgljiggebiaa", sum := "1778c7b1180358cfa45a0681a7e1b97b62a05d313adb1e43399be9807670b2f4", func := "arborist/arboristlaw01.TupleOrders", spec := "tupleOrders", unfollowed := true, recurses := true, apart := false, narrowed := true }
def TupleOrdersUptoSaid : Prop := tupleOrdersUptoRow.holds Try.pinned (OpenSpec.upto tupleOrdersSpec)

/-- 'arboristlaw01.TuplePicks', WHERE WHAT IT READS IS OF BULK AT MOST 1048576: true; the input reads as it did. -/
def tuplePicksUptoRow : OpenClaim := { program := "ytlnmgljiggebiaa", sum := "1778c7b1180358cfa45a0681a7e1b97b62a05d313adb1e43399be9807670b2f4", func := "arborist/arboristlaw01.TuplePicks", spec := "tuplePicks", unfollowed := true, recurses := true, apart := false, narrowed := true }
def TuplePicksUptoSaid : Prop := tuplePicksUptoRow.holds Try.pinned (OpenSpec.upto tuplePicksSpec)

/-- 'arboristlaw01.TupleFinds', WHERE WHAT IT READS IS OF BULK AT MOST 1048576: true; the input reads as it did. -/
def tupleFindsUptoRow : OpenClaim := { program := "ytlnmgljiggebiaa", sum := "1778c7b1180358cfa45a0681a7e1b97b62a05d313adb1e43399be9807670b2f4", func := "arborist/arboristlaw01.TupleFinds", spec := "tupleFinds", unfollowed := true, recurses := true, apart := false, narrowed := true }
def TupleFindsUptoSaid : Prop := tupleFindsUptoRow.holds Try.pinned (OpenSpec.upto tupleFindsSpec)

/-- 'arboristlaw01.TupleTurned', WHERE WHAT IT READS IS OF BULK AT MOST 1048576: true; the input reads as it did. -/
def tupleTurnedUptoRow : OpenClaim := { program := "ytlnmgljiggebiaa", sum := "1778c7b1180358cfa45a0681a7e1b97b62a05d313adb1e43399be9807670b2f4", func := "arborist/arboristlaw01.TupleTurned", spec := "tupleTurned", unfollowed := true, recurses := true, apart := false, narrowed := true }
def TupleTurnedUptoSaid : Prop := tupleTurnedUptoRow.holds Try.pinned (OpenSpec.upto tupleTurnedSpec)

/-- 'arboristlaw01.TupleSame', WHERE WHAT IT READS IS OF BULK AT MOST 1048576: true; the input reads as it did. -/
def tupleSameUptoRow : OpenClaim := { program := "ytlnmgljiggebiaa", sum := "1778c7b1180358cfa45a0681a7e1b97b62a05d313adb1e43399be9807670b2f4", func := "arborist/arboristlaw01.TupleSame", spec := "tupleSame", unfollowed := true, recurses := true, apart := false, narrowed := true }
def TupleSameUptoSaid : Prop := tupleSameUptoRow.holds Try.pinned (OpenSpec.upto tupleSameSpec)

/-- 'arboristlaw01.TupleAll', WHERE WHAT IT READS IS OF BULK AT MOST 1048576: true; the input reads as it did. -/
def tupleAllUptoRow : OpenClaim := { program := "ytlnmgljiggebiaa", sum := "1778c7b1180358cfa45a0681a7e1b97b62a05d313adb1e43399be9807670b2f4", func := "arborist/arboristlaw01.TupleAll", spec := "tupleAll", unfollowed := true, recurses := true, apart := false, narrowed := true }
def TupleAllUptoSaid : Prop := tupleAllUptoRow.holds Try.pinned (OpenSpec.upto tupleAllSpec)

/-- 'arboristlaw01.TupleSets', WHERE WHAT IT READS IS OF BULK AT MOST 1048576: true; the input reads as it did. -/
def tupleSetsUptoRow : OpenClaim := { program := "ytlnmgljiggebiaa", sum := "1778c7b1180358cfa45a0681a7e1b97b62a05d313adb1e43399be9807670b2f4", func := "arborist/arboristlaw01.TupleSets", spec := "tupleSets", unfollowed := true, recurses := true, apart := false, narrowed := true }
def TupleSetsUptoSaid : Prop := tupleSetsUptoRow.holds Try.pinned (OpenSpec.upto tupleSetsSpec)

/-- 'arboristlaw01.TupleParts', WHERE WHAT IT READS IS OF BULK AT MOST 1048576: true; the input reads as it did. -/
def tuplePartsUptoRow : OpenClaim := { program := "ytlnmgljiggebiaa", sum := "1778c7b1180358cfa45a0681a7e1b97b62a05d313adb1e43399be9807670b2f4", func := "arborist/arboristlaw01.TupleParts", spec := "tupleParts", unfollowed := true, recurses := true, apart := false, narrowed := true }
def TuplePartsUptoSaid : Prop := tuplePartsUptoRow.holds Try.pinned (OpenSpec.upto tuplePartsSpec)

/-- 'arboristlaw01.TupleLaws', WHERE WHAT IT READS IS OF BULK AT MOST 1048576: true; the input reads as it did. -/
def tupleLawsUptoRow : OpenClaim := { program := "ytlnmgljiggebiaa", sum := "1778c7b1180358cfa45a0681a7e1b97b62a05d313adb1e43399be9807670b2f4", func := "arborist/arboristlaw01.TupleLaws", spec := "tupleLaws", unfollowed := true, recurses := true, apart := false, narrowed := true }
def TupleLawsUptoSaid : Prop := tupleLawsUptoRow.holds Try.pinned (OpenSpec.upto tupleLawsSpec)

end Rows
end Go.Proofs.Ytlnmgljiggebiaa
