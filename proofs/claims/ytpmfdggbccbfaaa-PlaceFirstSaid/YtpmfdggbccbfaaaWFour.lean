-- The kit's words for printed texts, laid by its own.py; what this seat's texts do not use is left out (wip/tools/prune.py).
import Derived.Test.YtpmfdggbccbfaaaWTab
/-! ### 56. Four, five, six operations that may come up next, in any order -/
namespace Go.Proofs.YtpmfdggbccbfaaaW.PrintLast
section
variable {P : Program} {ops : Array Oper} {Q : Exit → Act → World → Prop} {md : Region.Mode} {S : World → Prop} {ds : List Nat} {T : Bool × List (List Nat × List Nat)}
end
end Go.Proofs.YtpmfdggbccbfaaaW.PrintLast
