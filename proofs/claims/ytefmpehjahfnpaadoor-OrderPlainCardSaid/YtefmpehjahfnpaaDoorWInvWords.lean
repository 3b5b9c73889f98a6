-- The kit's words for printed texts, laid by its own.py; what this seat's texts do not use is left out (wip/tools/prune.py).
import Derived.Test.YtefmpehjahfnpaaDoorWInv
import Derived.Test.YtefmpehjahfnpaaDoorWFootNe
namespace Go.Proofs.YtefmpehjahfnpaaDoorW.PrintWords
open Go.RowKit
end Go.Proofs.YtefmpehjahfnpaaDoorW.PrintWords
namespace Go.Proofs.YtefmpehjahfnpaaDoorW.PrintLast
section
variable {ops : Array Oper} {a : Act} {o og : Oper} {g : Nat} {t : Tmp} {u : Bool}
end
end Go.Proofs.YtefmpehjahfnpaaDoorW.PrintLast
