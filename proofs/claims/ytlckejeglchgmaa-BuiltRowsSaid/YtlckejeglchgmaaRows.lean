/-
  No cell of these rows narrows 'for every input' (looked for: loops, veiled, ifaces, maps, wideKeys, modest, calm, conditions, laid).
  DERIVED. THE GIVEN ROWS OF THIS SEAT. 6 by the template 'for every input the law returns true; each argument reads behind the call as it read before'; 0 by the template 'total and deterministic' (their statements: YtlckejeglchgmaaTotals.lean).
  GIVEN WITH THE SEED: the statements are not yours to turn. If you find one false, say at which input.
  Laid BY PROGRAM, IN A SANDBOX (cutbox-rows.mjs): the forced cells as the released guide's own fill.sh prints them over the translation a303005d698743ae… (all of the seat's roots in one cut). By AI agents, Wed Nov 11 2026. No macro, syntax, notation, axiom, sorry.
-/
import Derived.Test.YtlckejeglchgmaaChecked
import GoSem.Claim
import GoSem.ClaimJoined
import GoSem.ClaimMapViews
import Derived.JoinedTies
import Derived.KernelRfl
namespace Go.Proofs.Ytlckejeglchgmaa
/- THE CELL 'sum', in the pinned program and in every row, IS THE sha256 OF THE DUMP (.gsa) THAT YtlckejeglchgmaaProg.lean LOADS. Nothing in Lean hashes anything: it is a label: what it is worth is what the hold of that sum in a sandbox is worth. -/
noncomputable def Try.pinned : Pinned := { name := "ytlckejeglchgmaa", sum := "a303005d698743aefa97d4d71d7cf40e3ec45cddb3b418132b4f946cd91aea23", checked := Try.checked }
namespace Rows
def none {H : Type} : Left H := { results := [], args := [] }

/-- 'arboristlaw07.BuiltFull': WHATEVER THE INPUT: true; the input reads as it did. -/
def builtFullSpec : ChangeSpec := { name := "builtFull", fn := fun _ => fun
  | [d1, d2, d3] => { results := [.lit (.bool true)], args := [d1, d2, d3] }
  | _ => none }
def builtFullRow : OpenClaim := { program := "ytlckejeglchgmaa", sum := "a303005d698743aefa97d4d71d7cf40e3ec45cddb3b418132b4f946cd91aea23", func := "arborist/arboristlaw07.BuiltFull", spec := "builtFull", unfollowed := true, recurses := true, apart := false }
def BuiltFullSaid : Prop := builtFullRow.holds Try.pinned (OpenSpec.ofChange builtFullSpec)

/-- ITS FALSE NEIGHBOUR: 'it returns false'. Refute it at one input. -/
def builtFullWrong : ChangeSpec := { name := "builtFull", fn := fun _ => fun
  | [d1, d2, d3] => { results := [.lit (.bool false)], args := [d1, d2, d3] }
  | _ => none }
def BuiltFullWrongFalsely : Prop := builtFullRow.holds Try.pinned (OpenSpec.ofChange builtFullWrong)

/-- 'arboristlaw07.BuiltTurned': WHATEVER THE INPUT: true; the input reads as it did. -/
def builtTurnedSpec : ChangeSpec := { name := "builtTurned", fn := fun _ => fun
  | [d1, d2, d3] => { results := [.lit (.bool true)], args := [d1, d2, d3] }
  | _ => none }
def builtTurnedRow : OpenClaim := { program := "ytlckejeglchgmaa", sum := "a303005d698743aefa97d4d71d7cf40e3ec45cddb3b418132b4f946cd91aea23", func := "arborist/arboristlaw07.BuiltTurned", spec := "builtTurned", unfollowed := true, recurses := true, apart := false }
def BuiltTurnedSaid : Prop := builtTurnedRow.holds Try.pinned (OpenSpec.ofChange builtTurnedSpec)

/-- ITS FALSE NEIGHBOUR: 'it returns false'. Refute it at one input. -/
def builtTurnedWrong : ChangeSpec := { name := "builtTurned", fn := fun _ => fun
  | [d1, d2, d3] => { results := [.lit (.bool false)], args := [d1, d2, d3] }
  | _ => none }
def BuiltTurnedWrongFalsely : Prop := builtTurnedRow.holds Try.pinned (OpenSpec.ofChange builtTurnedWrong)

/-- 'arboristlaw07.BuiltSums': WHATEVER THE INPUT: true; the input reads as it did. -/
def builtSumsSpec : ChangeSpec := { name := "builtSums", fn := fun _ => fun
  | [d1, d2, d3] => { results := [.lit (.bool true)], args := [d1, d2, d3] }
  | _ => none }
def builtSumsRow : OpenClaim := { program := "ytlckejeglchgmaa", sum := "a303005d698743aefa97d4d71d7cf40e3ec45cddb3b418132b4f946cd91aea23", func := "arborist/arboristlaw07.BuiltSums", spec := "builtSums", unfollowed := true, recurses := true, apart := false }
def BuiltSumsSaid : Prop := builtSumsRow.holds Try.pinned (OpenSpec.ofChange builtSumsSpec)

/-- ITS FALSE NEIGHBOUR: 'it returns false'. Refute it at one input. -/
def builtSumsWrong : ChangeSpec := { name := "builtSums", fn := fun _ => fun
  | [d1, d2, d3] => { results := [.lit (.bool false)], args := [d1, d2, d3] }
  | _ => none }
def BuiltSumsWrongFalsely : Prop := builtSumsRow.holds Try.pinned (OpenSpec.ofChange builtSumsWrong)

/-- 'arboristlaw07.BuiltPairs': WHATEVER THE INPUT: true; the input reads as it did. -/
def builtPairsSpec : ChangeSpec := { name := "builtPairs", fn := fun _ => fun
  | [d] => { results := [.lit (.bool true)], args := [d] }
  | _ => none }
def builtPairsRow : OpenClaim := { program := "ytlckejeglchgmaa", sum := "a303005d698743aefa97d4d71d7cf40e3ec45cddb3b418132b4f946cd91aea23", func := "arborist/arboristlaw07.BuiltPairs", spec := "builtPairs", unfollowed := true, recurses := true, apart := false }
def BuiltPairsSaid : Prop := builtPairsRow.holds Try.pinned (OpenSpec.ofChange builtPairsSpec)

/-- ITS FALSE NEIGHBOUR: 'it returns false'. Refute it at one input. -/
def builtPairsWrong : ChangeSpec := { name := "builtPairs", fn := fun _ => fun
  | [d] => { results := [.lit (.bool false)], args := [d] }
  | _ => none }
def BuiltPairsWrongFalsely : Prop := builtPairsRow.holds Try.pinned (OpenSpec.ofChange builtPairsWrong)

/-- 'arboristlaw07.BuiltRows': WHATEVER THE INPUT: true; the input reads as it did. -/
def builtRowsSpec : ChangeSpec := { name := "builtRows", fn := fun _ => fun
  | [d] => { results := [.lit (.bool true)], args := [d] }
  | _ => none }
def builtRowsRow : OpenClaim := { program := "ytlckejeglchgmaa", sum := "a303005d698743aefa97d4d71d7cf40e3ec45cddb3b418132b4f946cd91aea23", func := "arborist/arboristlaw07.BuiltRows", spec := "builtRows", unfollowed := true, recurses := true, apart := false }
def BuiltRowsSaid : Prop := builtRowsRow.holds Try.pinned (OpenSpec.ofChange builtRowsSpec)

/-- ITS FALSE NEIGHBOUR: 'it returns false'. Refute it at one input. -/
def builtRowsWrong : ChangeSpec := { name := "builtRows", fn := fun _ => fun
  | [d] => { results := [.lit (.bool false)], args := [d] }
  | _ => none }
def BuiltRowsWrongFalsely : Prop := builtRowsRow.holds Try.pinned (OpenSpec.ofChange builtRowsWrong)

/-- 'arboristlaw07.BuiltTells': WHATEVER THE INPUT: true; the input reads as it did. -/
def builtTellsSpec : ChangeSpec := { name := "builtTells", fn := fun _ => fun
  | [d1, d2] => { results := [.lit (.bool true)], args := [d1, d2] }
  | _ => none }
def builtTellsRow : OpenClaim := { program := "ytlckejeglchgmaa", sum := "a303005d698743aefa97d4d71d7cf40e3ec45cddb3b418132b4f946cd91aea23", func := "arborist/arboristlaw07.BuiltTells", spec := "builtTells", unfollowed := true, recurses := true, apart := false }
def BuiltTellsSaid : Prop := builtTellsRow.holds Try.pinned (OpenSpec.ofChange builtTellsSpec)

/-- ITS FALSE NEIGHBOUR: 'it returns false'. Refute it at one input. -/
def builtTellsWrong : ChangeSpec := { name := "builtTells", fn := fun _ => fun
  | [d1, d2] => { results := [.lit (.bool false)], args := [d1, d2] }
  | _ => none }
def BuiltTellsWrongFalsely : Prop := builtTellsRow.holds Try.pinned (OpenSpec.ofChange builtTellsWrong)

/- THE SECOND FORM. 'bulk': how many values and letters a reading holds, each counted each time it is reached (what is shared counts as often as it is met; a slice's spare places count too). A statement '..UptoSaid' is the law's where the arguments, and the package variables that the reading takes, are together of bulk at most 1048576: NARROWER than '..Said'. Prove '..Said' where nothing that the law and all that it calls make is longer than what came in: it says more and counts as full. Else prove '..UptoSaid'. A law counts once. -/
mutual
def uptoBulk {H : Type} : DataW H → Nat
  | .lit (.string bytes) => bytes.length + 1
  | .lit _ => 1
  | .nil => 1
  | .ptr d => uptoBulk d + 1
  | .slice elems spare => uptoBulkAll elems + uptoBulkAll spare + 1
  | .agg parts => uptoBulkAll parts + 1
  | .iface _ d => uptoBulk d + 1
  | .map entries => uptoBulkEntries entries + 1
  | .held _ => 1
def uptoBulkAll {H : Type} : List (DataW H) → Nat
  | [] => 0
  | d :: r => uptoBulk d + uptoBulkAll r
def uptoBulkEntries {H : Type} : List (Lit × DataW H) → Nat
  | [] => 0
  | x :: r => uptoBulkEntry x + uptoBulkEntries r
def uptoBulkEntry {H : Type} : Lit × DataW H → Nat
  | (.string bytes, d) => bytes.length + uptoBulk d + 1
  | (_, d) => uptoBulk d + 1
 end
def uptoSmall : (H : Type) → List (DataW H) → Bool := fun _ ds => decide (uptoBulkAll ds ≤ 1048576)
def OpenSpec.upto (s : _root_.Go.ChangeSpec) : _root_.Go.OpenSpec := { _root_.Go.OpenSpec.ofChange s with cond := some uptoSmall }

/-- 'arboristlaw07.BuiltFull', WHERE WHAT IT READS IS OF BULK AT MOST 1048576: true; the input reads as it did. -/
def builtFullUptoRow : OpenClaim := { program := "ytlckejeglchgmaa", sum := "a303005d698743aefa97d4d71d7cf40e3ec45cddb3b418132b4f946cd91aea23", func := "arborist/arboristlaw07.BuiltFull", spec := "builtFull", unfollowed := true, recurses := true, apart := false, narrowed := true }
def BuiltFullUptoSaid : Prop := builtFullUptoRow.holds Try.pinned (OpenSpec.upto builtFullSpec)

/-- 'arboristlaw07.BuiltTurned', WHERE WHAT IT READS IS OF BULK AT MOST 1048576: true; the input reads as it did. -/
def builtTurnedUptoRow : OpenClaim := { program := "ytlckejeglchgmaa", sum := "a303005d698743aefa97d4d71d7cf40e3ec45cddb3b418132b4f946cd91aea23", func := "arborist/arboristlaw07.BuiltTurned", spec := "builtTurned", unfollowed := true, recurses := true, apart := false, narrowed := true }
def BuiltTurnedUptoSaid : Prop := builtTurnedUptoRow.holds Try.pinned (OpenSpec.upto builtTurnedSpec)

/-- 'arboristlaw07.BuiltSums', WHERE WHAT IT READS IS OF BULK AT MOST 1048576: true; the input reads as it did. -/
def builtSumsUptoRow : OpenClaim := { program := "ytlckejeglchgmaa", sum := "a303005d698743aefa97d4d71d7cf40e3ec45cddb3b418132b4f946cd91aea23", func := "arborist/arboristlaw07.BuiltSums", spec := "builtSums", unfollowed := true, recurses := true, apart := false, narrowed := true }
def BuiltSumsUptoSaid : Prop := builtSumsUptoRow.holds Try.pinned (OpenSpec.upto builtSumsSpec)

/-- 'arboristlaw07.BuiltPairs', WHERE WHAT IT READS IS OF BULK AT MOST 1048576: true; the input reads as it did. -/
def builtPairsUptoRow : OpenClaim := { program := "ytlckejeglchgmaa", sum := "a303005d698743aefa97d4d71d7cf40e3ec45cddb3b418132b4f946cd91aea23", func := "arborist/arboristlaw07.BuiltPairs", spec := "builtPairs", unfollowed := true, recurses := true, apart := false, narrowed := true }
def BuiltPairsUptoSaid : Prop := builtPairsUptoRow.holds Try.pinned (OpenSpec.upto builtPairsSpec)

/-- 'arboristlaw07.BuiltRows', WHERE WHAT IT READS IS OF BULK AT MOST 1048576: true; the input reads as it did. -/
def builtRowsUptoRow : OpenClaim := { program := "ytlckejeglchgmaa", sum := "a303005d698743aefa97d4d71d7cf40e3ec45cddb3b418132b4f946cd91aea23", func := "arborist/arboristlaw07.BuiltRows", spec := "builtRows", unfollowed := true, recurses := true, apart := false, narrowed := true }
def BuiltRowsUptoSaid : Prop := builtRowsUptoRow.holds Try.pinned (OpenSpec.upto builtRowsSpec)

/-- 'arboristlaw07.BuiltTells', WHERE WHAT IT READS IS OF BULK AT MOST 1048576: true; the input reads as it did. -/
def builtTellsUptoRow : OpenClaim := { program := "ytlckejeglchgmaa", sum := "a303005d698743aefa97d4d71d7cf40e3ec45cddb3b418132b4f946cd91aea23", func := "arborist/arboristlaw07.BuiltTells", spec := "builtTells", unfollowed := true, recurses := true, apart := false, narrowed := true }
def BuiltTellsUptoSaid : Prop := builtTellsUptoRow.holds Try.pinned (OpenSpec.upto builtTellsSpec)

end Rows
end Go.Proofs.Ytlckejeglchgmaa
