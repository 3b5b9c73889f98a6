/-
  No cell of these rows narrows 'for every input' (looked for: loops, veiled, ifaces, maps, wideKeys, modest, calm, conditions, laid).
  DERIVED. THE GIVEN ROWS OF THIS SEAT. 12 by the template 'for every input the law returns true; each argument reads behind the call as it read before'; 0 by the template 'total and deterministic' (their statements: YtpmfdggbccbfaaaTotals.lean).
  GIVEN WITH THE SEED: the statements are not yours to turn. If you find one false, say at which input.
  Laid BY PROGRAM, IN A SANDBOX (cutbox-rows.mjs): the forced cells as the released guide's own fill.sh prints them over the translation 0db4c7f363b2106e… (all of the seat's roots in one cut). By AI agents, Wed Nov 11 2026. No macro, syntax, notation, axiom, sorry.
-/
import Derived.Test.YtpmfdggbccbfaaaChecked
import GoSem.Claim
import GoSem.ClaimJoined
import GoSem.ClaimMapViews
import Derived.JoinedTies
import Derived.KernelRfl
namespace Go.Proofs.Ytpmfdggbccbfaaa
/- THE CELL 'sum', in the pinned program and in every row, IS THE sha256 OF THE DUMP (.gsa) THAT YtpmfdggbccbfaaaProg.lean LOADS. Nothing in Lean hashes anything: it is a label: what it is worth is what the hold of that sum in a sandbox is worth. -/
noncomputable def Try.pinned : Pinned := { name := "ytpmfdggbccbfaaa", sum := "0db4c7f363b2106e560efdf63bb16d6e695e185f3659ffc12794b13591f2ed3f", checked := Try.checked }
namespace Rows
def none {H : Type} : Left H := { results := [], args := [] }

/-- 'arboristlaw12.ValidTells': WHATEVER THE INPUT: true; the input reads as it did. -/
def validTellsSpec : ChangeSpec := { name := "validTells", fn := fun _ => fun
  | [d1, d2, d3] => { results := [.lit (.bool true)], args := [d1, d2, d3] }
  | _ => none }
def validTellsRow : OpenClaim := { program := "ytpmfdggbccbfaaa", sum := "0db4c7f363b2106e560efdf63bb16d6e695e185f3659ffc12794b13591f2ed3f", func := "arborist/arboristlaw12.ValidTells", spec := "validTells", unfollowed := true, recurses := true, apart := false }
def ValidTellsSaid : Prop := validTellsRow.holds Try.pinned (OpenSpec.ofChange validTellsSpec)

/-- ITS FALSE NEIGHBOUR: 'it returns false'. Refute it at one input. -/
def validTellsWrong : ChangeSpec := { name := "validTells", fn := fun _ => fun
  | [d1, d2, d3] => { results := [.lit (.bool false)], args := [d1, d2, d3] }
  | _ => none }
def ValidTellsWrongFalsely : Prop := validTellsRow.holds Try.pinned (OpenSpec.ofChange validTellsWrong)

/-- 'arboristlaw12.ValidParts': WHATEVER THE INPUT: true; the input reads as it did. -/
def validPartsSpec : ChangeSpec := { name := "validParts", fn := fun _ => fun
  | [d1, d2, d3] => { results := [.lit (.bool true)], args := [d1, d2, d3] }
  | _ => none }
def validPartsRow : OpenClaim := { program := "ytpmfdggbccbfaaa", sum := "0db4c7f363b2106e560efdf63bb16d6e695e185f3659ffc12794b13591f2ed3f", func := "arborist/arboristlaw12.ValidParts", spec := "validParts", unfollowed := true, recurses := true, apart := false }
def ValidPartsSaid : Prop := validPartsRow.holds Try.pinned (OpenSpec.ofChange validPartsSpec)

/-- ITS FALSE NEIGHBOUR: 'it returns false'. Refute it at one input. -/
def validPartsWrong : ChangeSpec := { name := "validParts", fn := fun _ => fun
  | [d1, d2, d3] => { results := [.lit (.bool false)], args := [d1, d2, d3] }
  | _ => none }
def ValidPartsWrongFalsely : Prop := validPartsRow.holds Try.pinned (OpenSpec.ofChange validPartsWrong)

/-- 'arboristlaw12.ValidChain': WHATEVER THE INPUT: true; the input reads as it did. -/
def validChainSpec : ChangeSpec := { name := "validChain", fn := fun _ => fun
  | [d1, d2, d3] => { results := [.lit (.bool true)], args := [d1, d2, d3] }
  | _ => none }
def validChainRow : OpenClaim := { program := "ytpmfdggbccbfaaa", sum := "0db4c7f363b2106e560efdf63bb16d6e695e185f3659ffc12794b13591f2ed3f", func := "arborist/arboristlaw12.ValidChain", spec := "validChain", unfollowed := true, recurses := true, apart := false }
def ValidChainSaid : Prop := validChainRow.holds Try.pinned (OpenSpec.ofChange validChainSpec)

/-- ITS FALSE NEIGHBOUR: 'it returns false'. Refute it at one input. -/
def validChainWrong : ChangeSpec := { name := "validChain", fn := fun _ => fun
  | [d1, d2, d3] => { results := [.lit (.bool false)], args := [d1, d2, d3] }
  | _ => none }
def ValidChainWrongFalsely : Prop := validChainRow.holds Try.pinned (OpenSpec.ofChange validChainWrong)

/-- 'arboristlaw12.ValidMore': WHATEVER THE INPUT: true; the input reads as it did. -/
def validMoreSpec : ChangeSpec := { name := "validMore", fn := fun _ => fun
  | [d1, d2, d3, d4] => { results := [.lit (.bool true)], args := [d1, d2, d3, d4] }
  | _ => none }
def validMoreRow : OpenClaim := { program := "ytpmfdggbccbfaaa", sum := "0db4c7f363b2106e560efdf63bb16d6e695e185f3659ffc12794b13591f2ed3f", func := "arborist/arboristlaw12.ValidMore", spec := "validMore", unfollowed := true, recurses := true, apart := false }
def ValidMoreSaid : Prop := validMoreRow.holds Try.pinned (OpenSpec.ofChange validMoreSpec)

/-- ITS FALSE NEIGHBOUR: 'it returns false'. Refute it at one input. -/
def validMoreWrong : ChangeSpec := { name := "validMore", fn := fun _ => fun
  | [d1, d2, d3, d4] => { results := [.lit (.bool false)], args := [d1, d2, d3, d4] }
  | _ => none }
def ValidMoreWrongFalsely : Prop := validMoreRow.holds Try.pinned (OpenSpec.ofChange validMoreWrong)

/-- 'arboristlaw12.ValidTurned': WHATEVER THE INPUT: true; the input reads as it did. -/
def validTurnedSpec : ChangeSpec := { name := "validTurned", fn := fun _ => fun
  | [d1, d2, d3] => { results := [.lit (.bool true)], args := [d1, d2, d3] }
  | _ => none }
def validTurnedRow : OpenClaim := { program := "ytpmfdggbccbfaaa", sum := "0db4c7f363b2106e560efdf63bb16d6e695e185f3659ffc12794b13591f2ed3f", func := "arborist/arboristlaw12.ValidTurned", spec := "validTurned", unfollowed := true, recurses := true, apart := false }
def ValidTurnedSaid : Prop := validTurnedRow.holds Try.pinned (OpenSpec.ofChange validTurnedSpec)

/-- ITS FALSE NEIGHBOUR: 'it returns false'. Refute it at one input. -/
def validTurnedWrong : ChangeSpec := { name := "validTurned", fn := fun _ => fun
  | [d1, d2, d3] => { results := [.lit (.bool false)], args := [d1, d2, d3] }
  | _ => none }
def ValidTurnedWrongFalsely : Prop := validTurnedRow.holds Try.pinned (OpenSpec.ofChange validTurnedWrong)

/-- 'arboristlaw12.ValidRoots': WHATEVER THE INPUT: true; the input reads as it did. -/
def validRootsSpec : ChangeSpec := { name := "validRoots", fn := fun _ => fun
  | [d1, d2, d3] => { results := [.lit (.bool true)], args := [d1, d2, d3] }
  | _ => none }
def validRootsRow : OpenClaim := { program := "ytpmfdggbccbfaaa", sum := "0db4c7f363b2106e560efdf63bb16d6e695e185f3659ffc12794b13591f2ed3f", func := "arborist/arboristlaw12.ValidRoots", spec := "validRoots", unfollowed := true, recurses := true, apart := false }
def ValidRootsSaid : Prop := validRootsRow.holds Try.pinned (OpenSpec.ofChange validRootsSpec)

/-- ITS FALSE NEIGHBOUR: 'it returns false'. Refute it at one input. -/
def validRootsWrong : ChangeSpec := { name := "validRoots", fn := fun _ => fun
  | [d1, d2, d3] => { results := [.lit (.bool false)], args := [d1, d2, d3] }
  | _ => none }
def ValidRootsWrongFalsely : Prop := validRootsRow.holds Try.pinned (OpenSpec.ofChange validRootsWrong)

/-- 'arboristlaw13.PlaceTells': WHATEVER THE INPUT: true; the input reads as it did. -/
def placeTellsSpec : ChangeSpec := { name := "placeTells", fn := fun _ => fun
  | [d1, d2, d3, d4] => { results := [.lit (.bool true)], args := [d1, d2, d3, d4] }
  | _ => none }
def placeTellsRow : OpenClaim := { program := "ytpmfdggbccbfaaa", sum := "0db4c7f363b2106e560efdf63bb16d6e695e185f3659ffc12794b13591f2ed3f", func := "arborist/arboristlaw13.PlaceTells", spec := "placeTells", unfollowed := true, recurses := true, apart := false }
def PlaceTellsSaid : Prop := placeTellsRow.holds Try.pinned (OpenSpec.ofChange placeTellsSpec)

/-- ITS FALSE NEIGHBOUR: 'it returns false'. Refute it at one input. -/
def placeTellsWrong : ChangeSpec := { name := "placeTells", fn := fun _ => fun
  | [d1, d2, d3, d4] => { results := [.lit (.bool false)], args := [d1, d2, d3, d4] }
  | _ => none }
def PlaceTellsWrongFalsely : Prop := placeTellsRow.holds Try.pinned (OpenSpec.ofChange placeTellsWrong)

/-- 'arboristlaw13.PlaceAfter': WHATEVER THE INPUT: true; the input reads as it did. -/
def placeAfterSpec : ChangeSpec := { name := "placeAfter", fn := fun _ => fun
  | [d1, d2] => { results := [.lit (.bool true)], args := [d1, d2] }
  | _ => none }
def placeAfterRow : OpenClaim := { program := "ytpmfdggbccbfaaa", sum := "0db4c7f363b2106e560efdf63bb16d6e695e185f3659ffc12794b13591f2ed3f", func := "arborist/arboristlaw13.PlaceAfter", spec := "placeAfter", unfollowed := true, recurses := true, apart := false }
def PlaceAfterSaid : Prop := placeAfterRow.holds Try.pinned (OpenSpec.ofChange placeAfterSpec)

/-- ITS FALSE NEIGHBOUR: 'it returns false'. Refute it at one input. -/
def placeAfterWrong : ChangeSpec := { name := "placeAfter", fn := fun _ => fun
  | [d1, d2] => { results := [.lit (.bool false)], args := [d1, d2] }
  | _ => none }
def PlaceAfterWrongFalsely : Prop := placeAfterRow.holds Try.pinned (OpenSpec.ofChange placeAfterWrong)

/-- 'arboristlaw13.PlaceScopes': WHATEVER THE INPUT: true; the input reads as it did. -/
def placeScopesSpec : ChangeSpec := { name := "placeScopes", fn := fun _ => fun
  | [d1, d2] => { results := [.lit (.bool true)], args := [d1, d2] }
  | _ => none }
def placeScopesRow : OpenClaim := { program := "ytpmfdggbccbfaaa", sum := "0db4c7f363b2106e560efdf63bb16d6e695e185f3659ffc12794b13591f2ed3f", func := "arborist/arboristlaw13.PlaceScopes", spec := "placeScopes", unfollowed := true, recurses := true, apart := false }
def PlaceScopesSaid : Prop := placeScopesRow.holds Try.pinned (OpenSpec.ofChange placeScopesSpec)

/-- ITS FALSE NEIGHBOUR: 'it returns false'. Refute it at one input. -/
def placeScopesWrong : ChangeSpec := { name := "placeScopes", fn := fun _ => fun
  | [d1, d2] => { results := [.lit (.bool false)], args := [d1, d2] }
  | _ => none }
def PlaceScopesWrongFalsely : Prop := placeScopesRow.holds Try.pinned (OpenSpec.ofChange placeScopesWrong)

/-- 'arboristlaw13.PlaceKin': WHATEVER THE INPUT: true; the input reads as it did. -/
def placeKinSpec : ChangeSpec := { name := "placeKin", fn := fun _ => fun
  | [d1, d2] => { results := [.lit (.bool true)], args := [d1, d2] }
  | _ => none }
def placeKinRow : OpenClaim := { program := "ytpmfdggbccbfaaa", sum := "0db4c7f363b2106e560efdf63bb16d6e695e185f3659ffc12794b13591f2ed3f", func := "arborist/arboristlaw13.PlaceKin", spec := "placeKin", unfollowed := true, recurses := true, apart := false }
def PlaceKinSaid : Prop := placeKinRow.holds Try.pinned (OpenSpec.ofChange placeKinSpec)

/-- ITS FALSE NEIGHBOUR: 'it returns false'. Refute it at one input. -/
def placeKinWrong : ChangeSpec := { name := "placeKin", fn := fun _ => fun
  | [d1, d2] => { results := [.lit (.bool false)], args := [d1, d2] }
  | _ => none }
def PlaceKinWrongFalsely : Prop := placeKinRow.holds Try.pinned (OpenSpec.ofChange placeKinWrong)

/-- 'arboristlaw13.PlaceRow': WHATEVER THE INPUT: true; the input reads as it did. -/
def placeRowSpec : ChangeSpec := { name := "placeRow", fn := fun _ => fun
  | [d1, d2] => { results := [.lit (.bool true)], args := [d1, d2] }
  | _ => none }
def placeRowRow : OpenClaim := { program := "ytpmfdggbccbfaaa", sum := "0db4c7f363b2106e560efdf63bb16d6e695e185f3659ffc12794b13591f2ed3f", func := "arborist/arboristlaw13.PlaceRow", spec := "placeRow", unfollowed := true, recurses := true, apart := false }
def PlaceRowSaid : Prop := placeRowRow.holds Try.pinned (OpenSpec.ofChange placeRowSpec)

/-- ITS FALSE NEIGHBOUR: 'it returns false'. Refute it at one input. -/
def placeRowWrong : ChangeSpec := { name := "placeRow", fn := fun _ => fun
  | [d1, d2] => { results := [.lit (.bool false)], args := [d1, d2] }
  | _ => none }
def PlaceRowWrongFalsely : Prop := placeRowRow.holds Try.pinned (OpenSpec.ofChange placeRowWrong)

/-- 'arboristlaw13.PlaceFirst': WHATEVER THE INPUT: true; the input reads as it did. -/
def placeFirstSpec : ChangeSpec := { name := "placeFirst", fn := fun _ => fun
  | [d1, d2] => { results := [.lit (.bool true)], args := [d1, d2] }
  | _ => none }
def placeFirstRow : OpenClaim := { program := "ytpmfdggbccbfaaa", sum := "0db4c7f363b2106e560efdf63bb16d6e695e185f3659ffc12794b13591f2ed3f", func := "arborist/arboristlaw13.PlaceFirst", spec := "placeFirst", unfollowed := true, recurses := true, apart := false }
def PlaceFirstSaid : Prop := placeFirstRow.holds Try.pinned (OpenSpec.ofChange placeFirstSpec)

/-- ITS FALSE NEIGHBOUR: 'it returns false'. Refute it at one input. -/
def placeFirstWrong : ChangeSpec := { name := "placeFirst", fn := fun _ => fun
  | [d1, d2] => { results := [.lit (.bool false)], args := [d1, d2] }
  | _ => none }
def PlaceFirstWrongFalsely : Prop := placeFirstRow.holds Try.pinned (OpenSpec.ofChange placeFirstWrong)

/- THE SECOND FORM. 'bulk': how many values and letters a reading holds, each counted each time it is reached (what is shared counts as often as it is met; a slice's spare places count too). A statement '..UptoSaid' is the law's where the arguments, and the package variables that the reading takes, are together of bulk at most 1048576: NARROWER than '..Said'. Prove '..Said' where nothing that the law and all that it calls make is longer than what came in: it says more and counts as full. Else prove '..UptoSaid'. A law counts once. -/
mutual
def uptoBulk {H : Type} : DataW H → Nat
  | .lit (.string bytes) => bytes.length + 1
  | .lit _ => 1
  | .nil => 1
  | .ptr d => uptoBulk d + 1
  | .slice elems spare => uptoBulkAll elems + uptoBulkAll spare + 1
  | .agg parts => uptoBulkAll parts + 1
  | .iface _ d => uptoBulk d + 1
  | .map entries => uptoBulkEntries entries + 1
  | .held _ => 1
def uptoBulkAll {H : Type} : List (DataW H) → Nat
  | [] => 0
  | d :: r => uptoBulk d + uptoBulkAll r
def uptoBulkEntries {H : Type} : List (Lit × DataW H) → Nat
  | [] => 0
  | x :: r => uptoBulkEntry x + uptoBulkEntries r
def uptoBulkEntry {H : Type} : Lit × DataW H → Nat
  | (.string bytes, d) => bytes.length + uptoBulk d + 1
  | (_, d) => uptoBulk d + 1
 end
def uptoSmall : (H : Type) → List (DataW H) → Bool := fun _ ds => decide (uptoBulkAll ds ≤ 1048576)
def OpenSpec.upto (s : _root_.Go.ChangeSpec) : _root_.Go.OpenSpec := { _root_.Go.OpenSpec.ofChange s with cond := some uptoSmall }

/-- 'arboristlaw12.ValidTells', WHERE WHAT IT READS IS OF BULK AT MOST 1048576: true; the input reads as it did. -/
def validTellsUptoRow : OpenClaim := { program := "ytpmfdggbccbfaaa", sum := "0db4c7f363b2106e560efdf63bb16d6e695e185f3659ffc12794b13591f2ed3f", func := "arborist/arboristlaw12.ValidTells", spec := "validTells", unfollowed := true, recurses := true, apart := false, narrowed := true }
def ValidTellsUptoSaid : Prop := validTellsUptoRow.holds Try.pinned (OpenSpec.upto validTellsSpec)

/-- 'arboristlaw12.ValidParts', WHERE WHAT IT READS IS OF BULK AT MOST 1048576: true; the input reads as it did. -/
def validPartsUptoRow : OpenClaim := { program := "ytpmfdggbccbfaaa", sum := "0db4c7f363b2106e560efdf63bb16d6e695e185f3659ffc12794b13591f2ed3f", func := "arborist/arboristlaw12.ValidParts", spec := "validParts", unfollowed := true, recurses := true, apart := false, narrowed := true }
def ValidPartsUptoSaid : Prop := validPartsUptoRow.holds Try.pinned (OpenSpec.upto validPartsSpec)

/-- 'arboristlaw12.ValidChain', WHERE WHAT IT READS IS OF BULK AT MOST 1048576: true; the input reads as it did. -/
def validChainUptoRow : OpenClaim := { program := "ytpmfdggbccbfaaa", sum := "0db4c7f363b2106e560efdf63bb16d6e695e185f3659ffc12794b13591f2ed3f", func := "arborist/arboristlaw12.ValidChain", spec := "validChain", unfollowed := true, recurses := true, apart := false, narrowed := true }
def ValidChainUptoSaid : Prop := validChainUptoRow.holds Try.pinned (OpenSpec.upto validChainSpec)

/-- 'arboristlaw12.ValidMore', WHERE WHAT IT READS IS OF BULK AT MOST 1048576: true; the input reads as it did. -/
def validMoreUptoRow : OpenClaim := { program := "ytpmfdggbccbfaaa", sum := "0db4c7f363b2106e560efdf63bb16d6e695e185f3659ffc12794b13591f2ed3f", func := "arborist/arboristlaw12.ValidMore", spec := "validMore", unfollowed := true, recurses := true, apart := false, narrowed := true }
def ValidMoreUptoSaid : Prop := validMoreUptoRow.holds Try.pinned (OpenSpec.upto validMoreSpec)

/-- 'arboristlaw12.ValidTurned', WHERE WHAT IT READS IS OF BULK AT MOST 1048576: true; the input reads as it did. -/
def validTurnedUptoRow : OpenClaim := { program := "ytpmfdggbccbfaaa", sum := "0db4c7f363b2106e560efdf63bb16d6e695e185f3659ffc12794b13591f2ed3f", func := "arborist/arboristlaw12.ValidTurned", spec := "validTurned", unfollowed := true, recurses := true, apart := false, narrowed := true }
def ValidTurnedUptoSaid : Prop := validTurnedUptoRow.holds Try.pinned (OpenSpec.upto validTurnedSpec)

/-- 'arboristlaw12.ValidRoots', WHERE WHAT IT READS IS OF BULK AT MOST 1048576: true; the input reads as it did. -/
def validRootsUptoRow : OpenClaim := { program := "ytpmfdggbccbfaaa", sum := "0db4c7f363b2106e560efdf63bb16d6e695e185f3659ffc12794b13591f2ed3f", func := "arborist/arboristlaw12.ValidRoots", spec := "validRoots", unfollowed := true, recurses := true, apart := false, narrowed := true }
def ValidRootsUptoSaid : Prop := validRootsUptoRow.holds Try.pinned (OpenSpec.upto validRootsSpec)

/-- 'arboristlaw13.PlaceTells', WHERE WHAT IT READS IS OF BULK AT MOST 1048576: true; the input reads as it did. -/
def placeTellsUptoRow : OpenClaim := { program := "ytpmfdggbccbfaaa", sum := "0db4c7f363b2106e560efdf63bb16d6e695e185f3659ffc12794b13591f2ed3f", func := "arborist/arboristlaw13.PlaceTells", spec := "placeTells", unfollowed := true, recurses := true, apart := false, narrowed := true }
def PlaceTellsUptoSaid : Prop := placeTellsUptoRow.holds Try.pinned (OpenSpec.upto placeTellsSpec)

/-- 'arboristlaw13.PlaceAfter', WHERE WHAT IT READS IS OF BULK AT MOST 1048576: true; the input reads as it did. -/
def placeAfterUptoRow : OpenClaim := { program := "ytpmfdggbccbfaaa", sum := "0db4c7f363b2106e560efdf63bb16d6e695e185f3659ffc12794b13591f2ed3f", func := "arborist/arboristlaw13.PlaceAfter", spec := "placeAfter", unfollowed := true, recurses := true, apart := false, narrowed := true }
def PlaceAfterUptoSaid : Prop := placeAfterUptoRow.holds Try.pinned (OpenSpec.upto placeAfterSpec)

/-- 'arboristlaw13.PlaceScopes', WHERE WHAT IT READS IS OF BULK AT MOST 1048576: true; the input reads as it did. -/
def placeScopesUptoRow : OpenClaim := { program := "ytpmfdggbccbfaaa", sum := "0db4c7f363b2106e560efdf63bb16d6e695e185f3659ffc12794b13591f2ed3f", func := "arborist/arboristlaw13.PlaceScopes", spec := "placeScopes", unfollowed := true, recurses := true, apart := false, narrowed := true }
def PlaceScopesUptoSaid : Prop := placeScopesUptoRow.holds Try.pinned (OpenSpec.upto placeScopesSpec)

/-- 'arboristlaw13.PlaceKin', WHERE WHAT IT READS IS OF BULK AT MOST 1048576: true; the input reads as it did. -/
def placeKinUptoRow : OpenClaim := { program := "ytpmfdggbccbfaaa", sum := "0db4c7f363b2106e560efdf63bb16d6e695e185f3659ffc12794b13591f2ed3f", func := "arborist/arboristlaw13.PlaceKin", spec := "placeKin", unfollowed := true, recurses := true, apart := false, narrowed := true }
def PlaceKinUptoSaid : Prop := placeKinUptoRow.holds Try.pinned (OpenSpec.upto placeKinSpec)

/-- 'arboristlaw13.PlaceRow', WHERE WHAT IT READS IS OF BULK AT MOST 1048576: true; the input reads as it did. -/
def placeRowUptoRow : OpenClaim := { program := "ytpmfdggbccbfaaa", sum := "0db4c7f363b2106e560efdf63bb16d6e695e185f3659ffc12794b13591f2ed3f", func := "arborist/arboristlaw13.PlaceRow", spec := "placeRow", unfollowed := true, recurses := true, apart := false, narrowed := true }
def PlaceRowUptoSaid : Prop := placeRowUptoRow.holds Try.pinned (OpenSpec.upto placeRowSpec)

/-- 'arboristlaw13.PlaceFirst', WHERE WHAT IT READS IS OF BULK AT MOST 1048576: true; the input reads as it did. -/
def placeFirstUptoRow : OpenClaim := { program := "ytpmfdggbccbfaaa", sum := "0db4c7f363b2106e560efdf63bb16d6e695e185f3659ffc12794b13591f2ed3f", func := "arborist/arboristlaw13.PlaceFirst", spec := "placeFirst", unfollowed := true, recurses := true, apart := false, narrowed := true }
def PlaceFirstUptoSaid : Prop := placeFirstUptoRow.holds Try.pinned (OpenSpec.upto placeFirstSpec)

end Rows
end Go.Proofs.Ytpmfdggbccbfaaa
