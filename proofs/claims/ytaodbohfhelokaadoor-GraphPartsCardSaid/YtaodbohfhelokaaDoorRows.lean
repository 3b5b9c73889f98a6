/-
  NARROWER THAN 'FOR EVERY INPUT', by the rows' own cells (each row's printed sentence says how): GraphRights: laid · GraphTells: laid · GraphParts: laid · GraphOrder: laid · GraphWhole: laid · GraphKeeps: laid · GraphAdds: laid · GraphPrimal: laid.
  DERIVED. THE GIVEN ROWS OF THIS SEAT. 8 by the template 'for every input the law returns true; each argument reads behind the call as it read before'; 0 by the template 'total and deterministic' (their statements: YtaodbohfhelokaaDoorTotals.lean).
  GIVEN WITH THE SEED: the statements are not yours to turn. If you find one false, say at which input.
  Laid BY PROGRAM, IN A SANDBOX (cutbox-rows.mjs): the forced cells as the released guide's own fill.sh prints them over the translation 0ecd028dec31045f… (all of the seat's roots in one cut). By AI agents, Wed Nov 11 2026. No macro, syntax, notation, axiom, sorry.
-/
import Derived.Test.YtaodbohfhelokaaDoorChecked
import GoSem.Claim
import GoSem.ClaimJoined
import GoSem.ClaimMapViews
import Derived.JoinedTies
import Derived.KernelRfl
namespace Go.Proofs.YtaodbohfhelokaaDoor
/- THE CELL 'sum', in the pinned program and in every row, IS THE sha256 OF THE DUMP (.gsa) THAT YtaodbohfhelokaaDoorProg.lean LOADS. Nothing in Lean hashes anything: it is a label: what it is worth is what the hold of that sum in a sandbox is worth. -/
noncomputable def Tryd.pinned : Pinned := { name := "ytaodbohfhelokaadoor", sum := "0ecd028dec31045fefe8f57ddbb4e45183db14605b1278f9a08e724e10db4e77", checked := Tryd.checked }
namespace Rows
def none {H : Type} : Left H := { results := [], args := [] }

/- WHAT THE LISTED PACKAGE-LEVEL VARIABLES READ AS WHEN THE CALL BEGINS. Each datum BY PROGRAM (the guide's laid-datum.mjs) off the statement by which the dump's own 'gosem.cut.vars' lays the variable. In a bare row this is a premise. The card (YtaodbohfhelokaaDoorCards.lean) ties it to the program's text. -/
def laid_math_bits_deBruijn64tab {H : Type} : DataW H := .agg [.lit (.int .u8 0), .lit (.int .u8 1), .lit (.int .u8 56), .lit (.int .u8 2), .lit (.int .u8 57), .lit (.int .u8 49), .lit (.int .u8 28), .lit (.int .u8 3), .lit (.int .u8 61), .lit (.int .u8 58), .lit (.int .u8 42), .lit (.int .u8 50), .lit (.int .u8 38), .lit (.int .u8 29), .lit (.int .u8 17), .lit (.int .u8 4), .lit (.int .u8 62), .lit (.int .u8 47), .lit (.int .u8 59), .lit (.int .u8 36), .lit (.int .u8 45), .lit (.int .u8 43), .lit (.int .u8 51), .lit (.int .u8 22), .lit (.int .u8 53), .lit (.int .u8 39), .lit (.int .u8 33), .lit (.int .u8 30), .lit (.int .u8 24), .lit (.int .u8 18), .lit (.int .u8 12), .lit (.int .u8 5), .lit (.int .u8 63), .lit (.int .u8 55), .lit (.int .u8 48), .lit (.int .u8 27), .lit (.int .u8 60), .lit (.int .u8 41), .lit (.int .u8 37), .lit (.int .u8 16), .lit (.int .u8 46), .lit (.int .u8 35), .lit (.int .u8 44), .lit (.int .u8 21), .lit (.int .u8 52), .lit (.int .u8 32), .lit (.int .u8 23), .lit (.int .u8 11), .lit (.int .u8 54), .lit (.int .u8 26), .lit (.int .u8 40), .lit (.int .u8 15), .lit (.int .u8 34), .lit (.int .u8 20), .lit (.int .u8 31), .lit (.int .u8 10), .lit (.int .u8 25), .lit (.int .u8 14), .lit (.int .u8 19), .lit (.int .u8 9), .lit (.int .u8 13), .lit (.int .u8 8), .lit (.int .u8 7), .lit (.int .u8 6)]

/-- 'arboristlaw08.GraphRights': WHATEVER THE INPUT: true; the input reads as it did. -/
def graphRightsSpec : ChangeSpec := { name := "graphRights", fn := fun _ => fun
  | [d1, d2] => { results := [.lit (.bool true)], args := [d1, d2] }
  | _ => none }
def graphRightsRow : OpenClaim := { program := "ytaodbohfhelokaadoor", sum := "0ecd028dec31045fefe8f57ddbb4e45183db14605b1278f9a08e724e10db4e77", func := "arborist/arboristlaw08.GraphRights", spec := "graphRights", named := ["math/bits.deBruijn64tab"], apart := false, laid := [("math/bits.deBruijn64tab", laid_math_bits_deBruijn64tab)] }
def GraphRightsSaid : Prop := graphRightsRow.holds Tryd.pinned (OpenSpec.ofChange graphRightsSpec)

/-- ITS FALSE NEIGHBOUR: 'it returns false'. Refute it at one input. -/
def graphRightsWrong : ChangeSpec := { name := "graphRights", fn := fun _ => fun
  | [d1, d2] => { results := [.lit (.bool false)], args := [d1, d2] }
  | _ => none }
def GraphRightsWrongFalsely : Prop := graphRightsRow.holds Tryd.pinned (OpenSpec.ofChange graphRightsWrong)

/-- 'arboristlaw08.GraphTells': WHATEVER THE INPUT: true; the input reads as it did. -/
def graphTellsSpec : ChangeSpec := { name := "graphTells", fn := fun _ => fun
  | [d1, d2, d3, d4, d5] => { results := [.lit (.bool true)], args := [d1, d2, d3, d4, d5] }
  | _ => none }
def graphTellsRow : OpenClaim := { program := "ytaodbohfhelokaadoor", sum := "0ecd028dec31045fefe8f57ddbb4e45183db14605b1278f9a08e724e10db4e77", func := "arborist/arboristlaw08.GraphTells", spec := "graphTells", named := ["math/bits.deBruijn64tab"], apart := false, laid := [("math/bits.deBruijn64tab", laid_math_bits_deBruijn64tab)] }
def GraphTellsSaid : Prop := graphTellsRow.holds Tryd.pinned (OpenSpec.ofChange graphTellsSpec)

/-- ITS FALSE NEIGHBOUR: 'it returns false'. Refute it at one input. -/
def graphTellsWrong : ChangeSpec := { name := "graphTells", fn := fun _ => fun
  | [d1, d2, d3, d4, d5] => { results := [.lit (.bool false)], args := [d1, d2, d3, d4, d5] }
  | _ => none }
def GraphTellsWrongFalsely : Prop := graphTellsRow.holds Tryd.pinned (OpenSpec.ofChange graphTellsWrong)

/-- 'arboristlaw08.GraphParts': WHATEVER THE INPUT: true; the input reads as it did. -/
def graphPartsSpec : ChangeSpec := { name := "graphParts", fn := fun _ => fun
  | [d1, d2] => { results := [.lit (.bool true)], args := [d1, d2] }
  | _ => none }
def graphPartsRow : OpenClaim := { program := "ytaodbohfhelokaadoor", sum := "0ecd028dec31045fefe8f57ddbb4e45183db14605b1278f9a08e724e10db4e77", func := "arborist/arboristlaw08.GraphParts", spec := "graphParts", named := ["math/bits.deBruijn64tab"], apart := false, laid := [("math/bits.deBruijn64tab", laid_math_bits_deBruijn64tab)] }
def GraphPartsSaid : Prop := graphPartsRow.holds Tryd.pinned (OpenSpec.ofChange graphPartsSpec)

/-- ITS FALSE NEIGHBOUR: 'it returns false'. Refute it at one input. -/
def graphPartsWrong : ChangeSpec := { name := "graphParts", fn := fun _ => fun
  | [d1, d2] => { results := [.lit (.bool false)], args := [d1, d2] }
  | _ => none }
def GraphPartsWrongFalsely : Prop := graphPartsRow.holds Tryd.pinned (OpenSpec.ofChange graphPartsWrong)

/-- 'arboristlaw08.GraphOrder': WHATEVER THE INPUT: true; the input reads as it did. -/
def graphOrderSpec : ChangeSpec := { name := "graphOrder", fn := fun _ => fun
  | [d] => { results := [.lit (.bool true)], args := [d] }
  | _ => none }
def graphOrderRow : OpenClaim := { program := "ytaodbohfhelokaadoor", sum := "0ecd028dec31045fefe8f57ddbb4e45183db14605b1278f9a08e724e10db4e77", func := "arborist/arboristlaw08.GraphOrder", spec := "graphOrder", named := ["math/bits.deBruijn64tab"], apart := false, laid := [("math/bits.deBruijn64tab", laid_math_bits_deBruijn64tab)] }
def GraphOrderSaid : Prop := graphOrderRow.holds Tryd.pinned (OpenSpec.ofChange graphOrderSpec)

/-- ITS FALSE NEIGHBOUR: 'it returns false'. Refute it at one input. -/
def graphOrderWrong : ChangeSpec := { name := "graphOrder", fn := fun _ => fun
  | [d] => { results := [.lit (.bool false)], args := [d] }
  | _ => none }
def GraphOrderWrongFalsely : Prop := graphOrderRow.holds Tryd.pinned (OpenSpec.ofChange graphOrderWrong)

/-- 'arboristlaw08.GraphWhole': WHATEVER THE INPUT: true; the input reads as it did. -/
def graphWholeSpec : ChangeSpec := { name := "graphWhole", fn := fun _ => fun
  | [d1, d2, d3] => { results := [.lit (.bool true)], args := [d1, d2, d3] }
  | _ => none }
def graphWholeRow : OpenClaim := { program := "ytaodbohfhelokaadoor", sum := "0ecd028dec31045fefe8f57ddbb4e45183db14605b1278f9a08e724e10db4e77", func := "arborist/arboristlaw08.GraphWhole", spec := "graphWhole", named := ["math/bits.deBruijn64tab"], apart := false, laid := [("math/bits.deBruijn64tab", laid_math_bits_deBruijn64tab)] }
def GraphWholeSaid : Prop := graphWholeRow.holds Tryd.pinned (OpenSpec.ofChange graphWholeSpec)

/-- ITS FALSE NEIGHBOUR: 'it returns false'. Refute it at one input. -/
def graphWholeWrong : ChangeSpec := { name := "graphWhole", fn := fun _ => fun
  | [d1, d2, d3] => { results := [.lit (.bool false)], args := [d1, d2, d3] }
  | _ => none }
def GraphWholeWrongFalsely : Prop := graphWholeRow.holds Tryd.pinned (OpenSpec.ofChange graphWholeWrong)

/-- 'arboristlaw08.GraphKeeps': WHATEVER THE INPUT: true; the input reads as it did. -/
def graphKeepsSpec : ChangeSpec := { name := "graphKeeps", fn := fun _ => fun
  | [d1, d2, d3, d4] => { results := [.lit (.bool true)], args := [d1, d2, d3, d4] }
  | _ => none }
def graphKeepsRow : OpenClaim := { program := "ytaodbohfhelokaadoor", sum := "0ecd028dec31045fefe8f57ddbb4e45183db14605b1278f9a08e724e10db4e77", func := "arborist/arboristlaw08.GraphKeeps", spec := "graphKeeps", named := ["math/bits.deBruijn64tab"], apart := false, laid := [("math/bits.deBruijn64tab", laid_math_bits_deBruijn64tab)] }
def GraphKeepsSaid : Prop := graphKeepsRow.holds Tryd.pinned (OpenSpec.ofChange graphKeepsSpec)

/-- ITS FALSE NEIGHBOUR: 'it returns false'. Refute it at one input. -/
def graphKeepsWrong : ChangeSpec := { name := "graphKeeps", fn := fun _ => fun
  | [d1, d2, d3, d4] => { results := [.lit (.bool false)], args := [d1, d2, d3, d4] }
  | _ => none }
def GraphKeepsWrongFalsely : Prop := graphKeepsRow.holds Tryd.pinned (OpenSpec.ofChange graphKeepsWrong)

/-- 'arboristlaw08.GraphAdds': WHATEVER THE INPUT: true; the input reads as it did. -/
def graphAddsSpec : ChangeSpec := { name := "graphAdds", fn := fun _ => fun
  | [d1, d2, d3, d4] => { results := [.lit (.bool true)], args := [d1, d2, d3, d4] }
  | _ => none }
def graphAddsRow : OpenClaim := { program := "ytaodbohfhelokaadoor", sum := "0ecd028dec31045fefe8f57ddbb4e45183db14605b1278f9a08e724e10db4e77", func := "arborist/arboristlaw08.GraphAdds", spec := "graphAdds", named := ["math/bits.deBruijn64tab"], apart := false, laid := [("math/bits.deBruijn64tab", laid_math_bits_deBruijn64tab)] }
def GraphAddsSaid : Prop := graphAddsRow.holds Tryd.pinned (OpenSpec.ofChange graphAddsSpec)

/-- ITS FALSE NEIGHBOUR: 'it returns false'. Refute it at one input. -/
def graphAddsWrong : ChangeSpec := { name := "graphAdds", fn := fun _ => fun
  | [d1, d2, d3, d4] => { results := [.lit (.bool false)], args := [d1, d2, d3, d4] }
  | _ => none }
def GraphAddsWrongFalsely : Prop := graphAddsRow.holds Tryd.pinned (OpenSpec.ofChange graphAddsWrong)

/-- 'arboristlaw08.GraphPrimal': WHATEVER THE INPUT: true; the input reads as it did. -/
def graphPrimalSpec : ChangeSpec := { name := "graphPrimal", fn := fun _ => fun
  | [d] => { results := [.lit (.bool true)], args := [d] }
  | _ => none }
def graphPrimalRow : OpenClaim := { program := "ytaodbohfhelokaadoor", sum := "0ecd028dec31045fefe8f57ddbb4e45183db14605b1278f9a08e724e10db4e77", func := "arborist/arboristlaw08.GraphPrimal", spec := "graphPrimal", unfollowed := true, recurses := true, named := ["math/bits.deBruijn64tab"], apart := false, laid := [("math/bits.deBruijn64tab", laid_math_bits_deBruijn64tab)] }
def GraphPrimalSaid : Prop := graphPrimalRow.holds Tryd.pinned (OpenSpec.ofChange graphPrimalSpec)

/-- ITS FALSE NEIGHBOUR: 'it returns false'. Refute it at one input. -/
def graphPrimalWrong : ChangeSpec := { name := "graphPrimal", fn := fun _ => fun
  | [d] => { results := [.lit (.bool false)], args := [d] }
  | _ => none }
def GraphPrimalWrongFalsely : Prop := graphPrimalRow.holds Tryd.pinned (OpenSpec.ofChange graphPrimalWrong)

/- THE SECOND FORM. 'bulk': how many values and letters a reading holds, each counted each time it is reached (what is shared counts as often as it is met; a slice's spare places count too). A statement '..UptoSaid' is the law's where the arguments, and the package variables that the reading takes, are together of bulk at most 1048576: NARROWER than '..Said'. Prove '..Said' where nothing that the law and all that it calls make is longer than what came in: it says more and counts as full. Else prove '..UptoSaid'. A law counts once. -/
mutual
def uptoBulk {H : Type} : DataW H → Nat
  | .lit (.string bytes) => bytes.length + 1
  | .lit _ => 1
  | .nil => 1
  | .ptr d => uptoBulk d + 1
  | .slice elems spare => uptoBulkAll elems + uptoBulkAll spare + 1
  | .agg parts => uptoBulkAll parts + 1
  | .iface _ d => uptoBulk d + 1
  | .map entries => uptoBulkEntries entries + 1
  | .held _ => 1
def uptoBulkAll {H : Type} : List (DataW H) → Nat
  | [] => 0
  | d :: r => uptoBulk d + uptoBulkAll r
def uptoBulkEntries {H : Type} : List (Lit × DataW H) → Nat
  | [] => 0
  | x :: r => uptoBulkEntry x + uptoBulkEntries r
def uptoBulkEntry {H : Type} : Lit × DataW H → Nat
  | (.string bytes, d) => bytes.length + uptoBulk d + 1
  | (_, d) => uptoBulk d + 1
 end
def uptoSmall : (H : Type) → List (DataW H) → Bool := fun _ ds => decide (uptoBulkAll ds ≤ 1048576)
def OpenSpec.upto (s : _root_.Go.ChangeSpec) : _root_.Go.OpenSpec := { _root_.Go.OpenSpec.ofChange s with cond := some uptoSmall }

/-- 'arboristlaw08.GraphRights', WHERE WHAT IT READS IS OF BULK AT MOST 1048576: true; the input reads as it did. -/
def graphRightsUptoRow : OpenClaim := { program := "ytaodbohfhelokaadoor", sum := "0ecd028dec31045fefe8f57ddbb4e45183db14605b1278f9a08e724e10db4e77", func := "arborist/arboristlaw08.GraphRights", spec := "graphRights", named := ["math/bits.deBruijn64tab"], apart := false, laid := [("math/bits.deBruijn64tab", laid_math_bits_deBruijn64tab)], narrowed := true }
def GraphRightsUptoSaid : Prop := graphRightsUptoRow.holds Tryd.pinned (OpenSpec.upto graphRightsSpec)

/-- 'arboristlaw08.GraphTells', WHERE WHAT IT READS IS OF BULK AT MOST 1048576: true; the input reads as it did. -/
def graphTellsUptoRow : OpenClaim := { program := "ytaodbohfhelokaadoor", sum := "0ecd028dec31045fefe8f57ddbb4e45183db14605b1278f9a08e724e10db4e77", func := "arborist/arboristlaw08.GraphTells", spec := "graphTells", named := ["math/bits.deBruijn64tab"], apart := false, laid := [("math/bits.deBruijn64tab", laid_math_bits_deBruijn64tab)], narrowed := true }
def GraphTellsUptoSaid : Prop := graphTellsUptoRow.holds Tryd.pinned (OpenSpec.upto graphTellsSpec)

/-- 'arboristlaw08.GraphParts', WHERE WHAT IT READS IS OF BULK AT MOST 1048576: true; the input reads as it did. -/
def graphPartsUptoRow : OpenClaim := { program := "ytaodbohfhelokaadoor", sum := "0ecd028dec31045fefe8f57ddbb4e45183db14605b1278f9a08e724e10db4e77", func := "arborist/arboristlaw08.GraphParts", spec := "graphParts", named := ["math/bits.deBruijn64tab"], apart := false, laid := [("math/bits.deBruijn64tab", laid_math_bits_deBruijn64tab)], narrowed := true }
def GraphPartsUptoSaid : Prop := graphPartsUptoRow.holds Tryd.pinned (OpenSpec.upto graphPartsSpec)

/-- 'arboristlaw08.GraphOrder', WHERE WHAT IT READS IS OF BULK AT MOST 1048576: true; the input reads as it did. -/
def graphOrderUptoRow : OpenClaim := { program := "ytaodbohfhelokaadoor", sum := "0ecd028dec31045fefe8f57ddbb4e45183db14605b1278f9a08e724e10db4e77", func := "arborist/arboristlaw08.GraphOrder", spec := "graphOrder", named := ["math/bits.deBruijn64tab"], apart := false, laid := [("math/bits.deBruijn64tab", laid_math_bits_deBruijn64tab)], narrowed := true }
def GraphOrderUptoSaid : Prop := graphOrderUptoRow.holds Tryd.pinned (OpenSpec.upto graphOrderSpec)

/-- 'arboristlaw08.GraphWhole', WHERE WHAT IT READS IS OF BULK AT MOST 1048576: true; the input reads as it did. -/
def graphWholeUptoRow : OpenClaim := { program := "ytaodbohfhelokaadoor", sum := "0ecd028dec31045fefe8f57ddbb4e45183db14605b1278f9a08e724e10db4e77", func := "arborist/arboristlaw08.GraphWhole", spec := "graphWhole", named := ["math/bits.deBruijn64tab"], apart := false, laid := [("math/bits.deBruijn64tab", laid_math_bits_deBruijn64tab)], narrowed := true }
def GraphWholeUptoSaid : Prop := graphWholeUptoRow.holds Tryd.pinned (OpenSpec.upto graphWholeSpec)

/-- 'arboristlaw08.GraphKeeps', WHERE WHAT IT READS IS OF BULK AT MOST 1048576: true; the input reads as it did. -/
def graphKeepsUptoRow : OpenClaim := { program := "ytaodbohfhelokaadoor", sum := "0ecd028dec31045fefe8f57ddbb4e45183db14605b1278f9a08e724e10db4e77", func := "arborist/arboristlaw08.GraphKeeps", spec := "graphKeeps", named := ["math/bits.deBruijn64tab"], apart := false, laid := [("math/bits.deBruijn64tab", laid_math_bits_deBruijn64tab)], narrowed := true }
def GraphKeepsUptoSaid : Prop := graphKeepsUptoRow.holds Tryd.pinned (OpenSpec.upto graphKeepsSpec)

/-- 'arboristlaw08.GraphAdds', WHERE WHAT IT READS IS OF BULK AT MOST 1048576: true; the input reads as it did. -/
def graphAddsUptoRow : OpenClaim := { program := "ytaodbohfhelokaadoor", sum := "0ecd028dec31045fefe8f57ddbb4e45183db14605b1278f9a08e724e10db4e77", func := "arborist/arboristlaw08.GraphAdds", spec := "graphAdds", named := ["math/bits.deBruijn64tab"], apart := false, laid := [("math/bits.deBruijn64tab", laid_math_bits_deBruijn64tab)], narrowed := true }
def GraphAddsUptoSaid : Prop := graphAddsUptoRow.holds Tryd.pinned (OpenSpec.upto graphAddsSpec)

/-- 'arboristlaw08.GraphPrimal', WHERE WHAT IT READS IS OF BULK AT MOST 1048576: true; the input reads as it did. -/
def graphPrimalUptoRow : OpenClaim := { program := "ytaodbohfhelokaadoor", sum := "0ecd028dec31045fefe8f57ddbb4e45183db14605b1278f9a08e724e10db4e77", func := "arborist/arboristlaw08.GraphPrimal", spec := "graphPrimal", unfollowed := true, recurses := true, named := ["math/bits.deBruijn64tab"], apart := false, laid := [("math/bits.deBruijn64tab", laid_math_bits_deBruijn64tab)], narrowed := true }
def GraphPrimalUptoSaid : Prop := graphPrimalUptoRow.holds Tryd.pinned (OpenSpec.upto graphPrimalSpec)

end Rows
end Go.Proofs.YtaodbohfhelokaaDoor
