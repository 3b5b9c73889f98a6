-- The kit's words for printed texts, laid by its own.py; what this seat's texts do not use is left out (wip/tools/prune.py).
import Derived.Test.YtpmfdggbccbfaaaWWords
import Derived.Laws.StructEq
/-! ### 53. '==' of structs as_ one Bool -/
namespace Go.Proofs.YtpmfdggbccbfaaaW.PrintWords
open Go.RowKit
section
variable {P : Program} {d : Nat} {xs ys : Array Value} {f : Field} {fs : List Field} {a b : Value} {r s : Bool} {w : World}
end
end Go.Proofs.YtpmfdggbccbfaaaW.PrintWords
