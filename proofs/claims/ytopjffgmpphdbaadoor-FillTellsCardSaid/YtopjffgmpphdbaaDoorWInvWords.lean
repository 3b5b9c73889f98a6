-- The kit's words for printed texts, laid by its own.py; what this seat's texts do not use is left out (wip/tools/prune.py).
import Derived.Test.YtopjffgmpphdbaaDoorWInv
import Derived.Test.YtopjffgmpphdbaaDoorWFootNe
namespace Go.Proofs.YtopjffgmpphdbaaDoorW.PrintWords
open Go.RowKit
end Go.Proofs.YtopjffgmpphdbaaDoorW.PrintWords
namespace Go.Proofs.YtopjffgmpphdbaaDoorW.PrintLast
section
variable {ops : Array Oper} {a : Act} {o og : Oper} {g : Nat} {t : Tmp} {u : Bool}
end
end Go.Proofs.YtopjffgmpphdbaaDoorW.PrintLast
