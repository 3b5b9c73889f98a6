/-
  NARROWER THAN 'FOR EVERY INPUT', by the rows' own cells (each row's printed sentence says how): FillTells: laid · FillOnce: laid · FillEdges: laid · FillCard: laid · FillWide: laid · FillRings: laid · FillWhole: laid.
  DERIVED. THE GIVEN ROWS OF THIS SEAT. 7 by the template 'for every input the law returns true; each argument reads behind the call as it read before'; 0 by the template 'total and deterministic' (their statements: YtopjffgmpphdbaaDoorTotals.lean).
  GIVEN WITH THE SEED: the statements are not yours to turn. If you find one false, say at which input.
  Laid BY PROGRAM, IN A SANDBOX (cutbox-rows.mjs): the forced cells as the released guide's own fill.sh prints them over the translation 020eba5fe4c57719… (all of the seat's roots in one cut). By AI agents, Wed Nov 11 2026. No macro, syntax, notation, axiom, sorry.
-/
import Derived.Test.YtopjffgmpphdbaaDoorChecked
import GoSem.Claim
import GoSem.ClaimJoined
import GoSem.ClaimMapViews
import Derived.JoinedTies
import Derived.KernelRfl
namespace Go.Proofs.YtopjffgmpphdbaaDoor
/- THE CELL 'sum', in the pinned program and in every row, IS THE sha256 OF THE DUMP (.gsa) THAT YtopjffgmpphdbaaDoorProg.lean LOADS. Nothing in Lean hashes anything: it is a label: what it is worth is what the hold of that sum in a sandbox is worth. -/
noncomputable def Tryd.pinned : Pinned := { name := "ytopjffgmpphdbaadoor", sum := "020eba5fe4c57719303729470cc3a99ca78ea81eb85e134af4d8de27b7c41c30", checked := Tryd.checked }
namespace Rows
def none {H : Type} : Left H := { results := [], args := [] }

/- WHAT THE LISTED PACKAGE-LEVEL VARIABLES READ AS WHEN THE CALL BEGINS. Each datum BY PROGRAM (the guide's laid-datum.mjs) off the statement by which the dump's own 'gosem.cut.vars' lays the variable. In a bare row this is a premise. The card (YtopjffgmpphdbaaDoorCards.lean) ties it to the program's text. -/
def laid_math_bits_deBruijn64tab {H : Type} : DataW H := .agg [.lit (.int .u8 0), .lit (.int .u8 1), .lit (.int .u8 56), .lit (.int .u8 2), .lit (.int .u8 57), .lit (.int .u8 49), .lit (.int .u8 28), .lit (.int .u8 3), .lit (.int .u8 61), .lit (.int .u8 58), .lit (.int .u8 42), .lit (.int .u8 50), .lit (.int .u8 38), .lit (.int .u8 29), .lit (.int .u8 17), .lit (.int .u8 4), .lit (.int .u8 62), .lit (.int .u8 47), .lit (.int .u8 59), .lit (.int .u8 36), .lit (.int .u8 45), .lit (.int .u8 43), .lit (.int .u8 51), .lit (.int .u8 22), .lit (.int .u8 53), .lit (.int .u8 39), .lit (.int .u8 33), .lit (.int .u8 30), .lit (.int .u8 24), .lit (.int .u8 18), .lit (.int .u8 12), .lit (.int .u8 5), .lit (.int .u8 63), .lit (.int .u8 55), .lit (.int .u8 48), .lit (.int .u8 27), .lit (.int .u8 60), .lit (.int .u8 41), .lit (.int .u8 37), .lit (.int .u8 16), .lit (.int .u8 46), .lit (.int .u8 35), .lit (.int .u8 44), .lit (.int .u8 21), .lit (.int .u8 52), .lit (.int .u8 32), .lit (.int .u8 23), .lit (.int .u8 11), .lit (.int .u8 54), .lit (.int .u8 26), .lit (.int .u8 40), .lit (.int .u8 15), .lit (.int .u8 34), .lit (.int .u8 20), .lit (.int .u8 31), .lit (.int .u8 10), .lit (.int .u8 25), .lit (.int .u8 14), .lit (.int .u8 19), .lit (.int .u8 9), .lit (.int .u8 13), .lit (.int .u8 8), .lit (.int .u8 7), .lit (.int .u8 6)]

/-- 'arboristlaw10.FillTells': WHATEVER THE INPUT: true; the input reads as it did. -/
def fillTellsSpec : ChangeSpec := { name := "fillTells", fn := fun _ => fun
  | [d1, d2, d3, d4] => { results := [.lit (.bool true)], args := [d1, d2, d3, d4] }
  | _ => none }
def fillTellsRow : OpenClaim := { program := "ytopjffgmpphdbaadoor", sum := "020eba5fe4c57719303729470cc3a99ca78ea81eb85e134af4d8de27b7c41c30", func := "arborist/arboristlaw10.FillTells", spec := "fillTells", unfollowed := true, recurses := true, named := ["math/bits.deBruijn64tab"], apart := false, laid := [("math/bits.deBruijn64tab", laid_math_bits_deBruijn64tab)] }
def FillTellsSaid : Prop := fillTellsRow.holds Tryd.pinned (OpenSpec.ofChange fillTellsSpec)

/-- ITS FALSE NEIGHBOUR: 'it returns false'. Refute it at one input. -/
def fillTellsWrong : ChangeSpec := { name := "fillTells", fn := fun _ => fun
  | [d1, d2, d3, d4] => { results := [.lit (.bool false)], args := [d1, d2, d3, d4] }
  | _ => none }
def FillTellsWrongFalsely : Prop := fillTellsRow.holds Tryd.pinned (OpenSpec.ofChange fillTellsWrong)

/-- 'arboristlaw10.FillOnce': WHATEVER THE INPUT: true; the input reads as it did. -/
def fillOnceSpec : ChangeSpec := { name := "fillOnce", fn := fun _ => fun
  | [d1, d2, d3] => { results := [.lit (.bool true)], args := [d1, d2, d3] }
  | _ => none }
def fillOnceRow : OpenClaim := { program := "ytopjffgmpphdbaadoor", sum := "020eba5fe4c57719303729470cc3a99ca78ea81eb85e134af4d8de27b7c41c30", func := "arborist/arboristlaw10.FillOnce", spec := "fillOnce", unfollowed := true, recurses := true, named := ["math/bits.deBruijn64tab"], apart := false, laid := [("math/bits.deBruijn64tab", laid_math_bits_deBruijn64tab)] }
def FillOnceSaid : Prop := fillOnceRow.holds Tryd.pinned (OpenSpec.ofChange fillOnceSpec)

/-- ITS FALSE NEIGHBOUR: 'it returns false'. Refute it at one input. -/
def fillOnceWrong : ChangeSpec := { name := "fillOnce", fn := fun _ => fun
  | [d1, d2, d3] => { results := [.lit (.bool false)], args := [d1, d2, d3] }
  | _ => none }
def FillOnceWrongFalsely : Prop := fillOnceRow.holds Tryd.pinned (OpenSpec.ofChange fillOnceWrong)

/-- 'arboristlaw10.FillEdges': WHATEVER THE INPUT: true; the input reads as it did. -/
def fillEdgesSpec : ChangeSpec := { name := "fillEdges", fn := fun _ => fun
  | [d1, d2, d3] => { results := [.lit (.bool true)], args := [d1, d2, d3] }
  | _ => none }
def fillEdgesRow : OpenClaim := { program := "ytopjffgmpphdbaadoor", sum := "020eba5fe4c57719303729470cc3a99ca78ea81eb85e134af4d8de27b7c41c30", func := "arborist/arboristlaw10.FillEdges", spec := "fillEdges", unfollowed := true, recurses := true, named := ["math/bits.deBruijn64tab"], apart := false, laid := [("math/bits.deBruijn64tab", laid_math_bits_deBruijn64tab)] }
def FillEdgesSaid : Prop := fillEdgesRow.holds Tryd.pinned (OpenSpec.ofChange fillEdgesSpec)

/-- ITS FALSE NEIGHBOUR: 'it returns false'. Refute it at one input. -/
def fillEdgesWrong : ChangeSpec := { name := "fillEdges", fn := fun _ => fun
  | [d1, d2, d3] => { results := [.lit (.bool false)], args := [d1, d2, d3] }
  | _ => none }
def FillEdgesWrongFalsely : Prop := fillEdgesRow.holds Tryd.pinned (OpenSpec.ofChange fillEdgesWrong)

/-- 'arboristlaw10.FillCard': WHATEVER THE INPUT: true; the input reads as it did. -/
def fillCardSpec : ChangeSpec := { name := "fillCard", fn := fun _ => fun
  | [d1, d2, d3] => { results := [.lit (.bool true)], args := [d1, d2, d3] }
  | _ => none }
def fillCardRow : OpenClaim := { program := "ytopjffgmpphdbaadoor", sum := "020eba5fe4c57719303729470cc3a99ca78ea81eb85e134af4d8de27b7c41c30", func := "arborist/arboristlaw10.FillCard", spec := "fillCard", unfollowed := true, recurses := true, named := ["math/bits.deBruijn64tab"], apart := false, laid := [("math/bits.deBruijn64tab", laid_math_bits_deBruijn64tab)] }
def FillCardSaid : Prop := fillCardRow.holds Tryd.pinned (OpenSpec.ofChange fillCardSpec)

/-- ITS FALSE NEIGHBOUR: 'it returns false'. Refute it at one input. -/
def fillCardWrong : ChangeSpec := { name := "fillCard", fn := fun _ => fun
  | [d1, d2, d3] => { results := [.lit (.bool false)], args := [d1, d2, d3] }
  | _ => none }
def FillCardWrongFalsely : Prop := fillCardRow.holds Tryd.pinned (OpenSpec.ofChange fillCardWrong)

/-- 'arboristlaw10.FillWide': WHATEVER THE INPUT: true; the input reads as it did. -/
def fillWideSpec : ChangeSpec := { name := "fillWide", fn := fun _ => fun
  | [d1, d2, d3, d4, d5] => { results := [.lit (.bool true)], args := [d1, d2, d3, d4, d5] }
  | _ => none }
def fillWideRow : OpenClaim := { program := "ytopjffgmpphdbaadoor", sum := "020eba5fe4c57719303729470cc3a99ca78ea81eb85e134af4d8de27b7c41c30", func := "arborist/arboristlaw10.FillWide", spec := "fillWide", unfollowed := true, recurses := true, named := ["math/bits.deBruijn64tab"], apart := false, laid := [("math/bits.deBruijn64tab", laid_math_bits_deBruijn64tab)] }
def FillWideSaid : Prop := fillWideRow.holds Tryd.pinned (OpenSpec.ofChange fillWideSpec)

/-- ITS FALSE NEIGHBOUR: 'it returns false'. Refute it at one input. -/
def fillWideWrong : ChangeSpec := { name := "fillWide", fn := fun _ => fun
  | [d1, d2, d3, d4, d5] => { results := [.lit (.bool false)], args := [d1, d2, d3, d4, d5] }
  | _ => none }
def FillWideWrongFalsely : Prop := fillWideRow.holds Tryd.pinned (OpenSpec.ofChange fillWideWrong)

/-- 'arboristlaw10.FillRings': WHATEVER THE INPUT: true; the input reads as it did. -/
def fillRingsSpec : ChangeSpec := { name := "fillRings", fn := fun _ => fun
  | [d1, d2] => { results := [.lit (.bool true)], args := [d1, d2] }
  | _ => none }
def fillRingsRow : OpenClaim := { program := "ytopjffgmpphdbaadoor", sum := "020eba5fe4c57719303729470cc3a99ca78ea81eb85e134af4d8de27b7c41c30", func := "arborist/arboristlaw10.FillRings", spec := "fillRings", unfollowed := true, recurses := true, named := ["math/bits.deBruijn64tab"], apart := false, laid := [("math/bits.deBruijn64tab", laid_math_bits_deBruijn64tab)] }
def FillRingsSaid : Prop := fillRingsRow.holds Tryd.pinned (OpenSpec.ofChange fillRingsSpec)

/-- ITS FALSE NEIGHBOUR: 'it returns false'. Refute it at one input. -/
def fillRingsWrong : ChangeSpec := { name := "fillRings", fn := fun _ => fun
  | [d1, d2] => { results := [.lit (.bool false)], args := [d1, d2] }
  | _ => none }
def FillRingsWrongFalsely : Prop := fillRingsRow.holds Tryd.pinned (OpenSpec.ofChange fillRingsWrong)

/-- 'arboristlaw10.FillWhole': WHATEVER THE INPUT: true; the input reads as it did. -/
def fillWholeSpec : ChangeSpec := { name := "fillWhole", fn := fun _ => fun
  | [d1, d2] => { results := [.lit (.bool true)], args := [d1, d2] }
  | _ => none }
def fillWholeRow : OpenClaim := { program := "ytopjffgmpphdbaadoor", sum := "020eba5fe4c57719303729470cc3a99ca78ea81eb85e134af4d8de27b7c41c30", func := "arborist/arboristlaw10.FillWhole", spec := "fillWhole", unfollowed := true, recurses := true, named := ["math/bits.deBruijn64tab"], apart := false, laid := [("math/bits.deBruijn64tab", laid_math_bits_deBruijn64tab)] }
def FillWholeSaid : Prop := fillWholeRow.holds Tryd.pinned (OpenSpec.ofChange fillWholeSpec)

/-- ITS FALSE NEIGHBOUR: 'it returns false'. Refute it at one input. -/
def fillWholeWrong : ChangeSpec := { name := "fillWhole", fn := fun _ => fun
  | [d1, d2] => { results := [.lit (.bool false)], args := [d1, d2] }
  | _ => none }
def FillWholeWrongFalsely : Prop := fillWholeRow.holds Tryd.pinned (OpenSpec.ofChange fillWholeWrong)

/- THE SECOND FORM. 'bulk': how many values and letters a reading holds, each counted each time it is reached (what is shared counts as often as it is met; a slice's spare places count too). A statement '..UptoSaid' is the law's where the arguments, and the package variables that the reading takes, are together of bulk at most 1048576: NARROWER than '..Said'. Prove '..Said' where nothing that the law and all that it calls make is longer than what came in: it says more and counts as full. Else prove '..UptoSaid'. A law counts once. -/
mutual
def uptoBulk {H : Type} : DataW H → Nat
  | .lit (.string bytes) => bytes.length + 1
  | .lit _ => 1
  | .nil => 1
  | .ptr d => uptoBulk d + 1
  | .slice elems spare => uptoBulkAll elems + uptoBulkAll spare + 1
  | .agg parts => uptoBulkAll parts + 1
  | .iface _ d => uptoBulk d + 1
  | .map entries => uptoBulkEntries entries + 1
  | .held _ => 1
def uptoBulkAll {H : Type} : List (DataW H) → Nat
  | [] => 0
  | d :: r => uptoBulk d + uptoBulkAll r
def uptoBulkEntries {H : Type} : List (Lit × DataW H) → Nat
  | [] => 0
  | x :: r => uptoBulkEntry x + uptoBulkEntries r
def uptoBulkEntry {H : Type} : Lit × DataW H → Nat
  | (.string bytes, d) => bytes.length + uptoBulk d + 1
  | (_, d) => uptoBulk d + 1
 end
def uptoSmall : (H : Type) → List (DataW H) → Bool := fun _ ds => decide (uptoBulkAll ds ≤ 1048576)
def OpenSpec.upto (s : _root_.Go.ChangeSpec) : _root_.Go.OpenSpec := { _root_.Go.OpenSpec.ofChange s with cond := some uptoSmall }

/-- 'arboristlaw10.FillTells', WHERE WHAT IT READS IS OF BULK AT MOST 1048576: true; the input reads as it did. -/
def fillTellsUptoRow : OpenClaim := { program := "ytopjffgmpphdbaadoor", sum := "020eba5fe4c57719303729470cc3a99ca78ea81eb85e134af4d8de27b7c41c30", func := "arborist/arboristlaw10.FillTells", spec := "fillTells", unfollowed := true, recurses := true, named := ["math/bits.deBruijn64tab"], apart := false, laid := [("math/bits.deBruijn64tab", laid_math_bits_deBruijn64tab)], narrowed := true }
def FillTellsUptoSaid : Prop := fillTellsUptoRow.holds Tryd.pinned (OpenSpec.upto fillTellsSpec)

/-- 'arboristlaw10.FillOnce', WHERE WHAT IT READS IS OF BULK AT MOST 1048576: true; the input reads as it did. -/
def fillOnceUptoRow : OpenClaim := { program := "ytopjffgmpphdbaadoor", sum := "020eba5fe4c57719303729470cc3a99ca78ea81eb85e134af4d8de27b7c41c30", func := "arborist/arboristlaw10.FillOnce", spec := "fillOnce", unfollowed := true, recurses := true, named := ["math/bits.deBruijn64tab"], apart := false, laid := [("math/bits.deBruijn64tab", laid_math_bits_deBruijn64tab)], narrowed := true }
def FillOnceUptoSaid : Prop := fillOnceUptoRow.holds Tryd.pinned (OpenSpec.upto fillOnceSpec)

/-- 'arboristlaw10.FillEdges', WHERE WHAT IT READS IS OF BULK AT MOST 1048576: true; the input reads as it did. -/
def fillEdgesUptoRow : OpenClaim := { program := "ytopjffgmpphdbaadoor", sum := "020eba5fe4c57719303729470cc3a99ca78ea81eb85e134af4d8de27b7c41c30", func := "arborist/arboristlaw10.FillEdges", spec := "fillEdges", unfollowed := true, recurses := true, named := ["math/bits.deBruijn64tab"], apart := false, laid := [("math/bits.deBruijn64tab", laid_math_bits_deBruijn64tab)], narrowed := true }
def FillEdgesUptoSaid : Prop := fillEdgesUptoRow.holds Tryd.pinned (OpenSpec.upto fillEdgesSpec)

/-- 'arboristlaw10.FillCard', WHERE WHAT IT READS IS OF BULK AT MOST 1048576: true; the input reads as it did. -/
def fillCardUptoRow : OpenClaim := { program := "ytopjffgmpphdbaadoor", sum := "020eba5fe4c57719303729470cc3a99ca78ea81eb85e134af4d8de27b7c41c30", func := "arborist/arboristlaw10.FillCard", spec := "fillCard", unfollowed := true, recurses := true, named := ["math/bits.deBruijn64tab"], apart := false, laid := [("math/bits.deBruijn64tab", laid_math_bits_deBruijn64tab)], narrowed := true }
def FillCardUptoSaid : Prop := fillCardUptoRow.holds Tryd.pinned (OpenSpec.upto fillCardSpec)

/-- 'arboristlaw10.FillWide', WHERE WHAT IT READS IS OF BULK AT MOST 1048576: true; the input reads as it did. -/
def fillWideUptoRow : OpenClaim := { program := "ytopjffgmpphdbaadoor", sum := "020eba5fe4c57719303729470cc3a99ca78ea81eb85e134af4d8de27b7c41c30", func := "arborist/arboristlaw10.FillWide", spec := "fillWide", unfollowed := true, recurses := true, named := ["math/bits.deBruijn64tab"], apart := false, laid := [("math/bits.deBruijn64tab", laid_math_bits_deBruijn64tab)], narrowed := true }
def FillWideUptoSaid : Prop := fillWideUptoRow.holds Tryd.pinned (OpenSpec.upto fillWideSpec)

/-- 'arboristlaw10.FillRings', WHERE WHAT IT READS IS OF BULK AT MOST 1048576: true; the input reads as it did. -/
def fillRingsUptoRow : OpenClaim := { program := "ytopjffgmpphdbaadoor", sum := "020eba5fe4c57719303729470cc3a99ca78ea81eb85e134af4d8de27b7c41c30", func := "arborist/arboristlaw10.FillRings", spec := "fillRings", unfollowed := true, recurses := true, named := ["math/bits.deBruijn64tab"], apart := false, laid := [("math/bits.deBruijn64tab", laid_math_bits_deBruijn64tab)], narrowed := true }
def FillRingsUptoSaid : Prop := fillRingsUptoRow.holds Tryd.pinned (OpenSpec.upto fillRingsSpec)

/-- 'arboristlaw10.FillWhole', WHERE WHAT IT READS IS OF BULK AT MOST 1048576: true; the input reads as it did. -/
def fillWholeUptoRow : OpenClaim := { program := "ytopjffgmpphdbaadoor", sum := "020eba5fe4c57719303729470cc3a99ca78ea81eb85e134af4d8de27b7c41c30", func := "arborist/arboristlaw10.FillWhole", spec := "fillWhole", unfollowed := true, recurses := true, named := ["math/bits.deBruijn64tab"], apart := false, laid := [("math/bits.deBruijn64tab", laid_math_bits_deBruijn64tab)], narrowed := true }
def FillWholeUptoSaid : Prop := fillWholeUptoRow.holds Tryd.pinned (OpenSpec.upto fillWholeSpec)

end Rows
end Go.Proofs.YtopjffgmpphdbaaDoor
