-- The kit's words for printed texts, laid by its own.py; what this seat's texts do not use is left out (wip/tools/prune.py).
import Derived.Test.YtpmfdggbccbfaaaWInv
import Derived.Test.YtpmfdggbccbfaaaWFootNe
namespace Go.Proofs.YtpmfdggbccbfaaaW.PrintWords
open Go.RowKit
end Go.Proofs.YtpmfdggbccbfaaaW.PrintWords
namespace Go.Proofs.YtpmfdggbccbfaaaW.PrintLast
section
variable {ops : Array Oper} {a : Act} {o og : Oper} {g : Nat} {t : Tmp} {u : Bool}
end
end Go.Proofs.YtpmfdggbccbfaaaW.PrintLast
