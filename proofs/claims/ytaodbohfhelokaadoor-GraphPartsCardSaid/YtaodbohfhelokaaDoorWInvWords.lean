-- The kit's words for printed texts, laid by its own.py; what this seat's texts do not use is left out (wip/tools/prune.py).
import Derived.Test.YtaodbohfhelokaaDoorWInv
import Derived.Test.YtaodbohfhelokaaDoorWFootNe
namespace Go.Proofs.YtaodbohfhelokaaDoorW.PrintWords
open Go.RowKit
end Go.Proofs.YtaodbohfhelokaaDoorW.PrintWords
namespace Go.Proofs.YtaodbohfhelokaaDoorW.PrintLast
section
variable {ops : Array Oper} {a : Act} {o og : Oper} {g : Nat} {t : Tmp} {u : Bool}
end
end Go.Proofs.YtaodbohfhelokaaDoorW.PrintLast
