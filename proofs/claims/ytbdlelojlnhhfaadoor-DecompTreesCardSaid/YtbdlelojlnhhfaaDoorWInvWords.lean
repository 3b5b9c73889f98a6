-- The kit's words for printed texts, laid by its own.py; what this seat's texts do not use is left out (wip/tools/prune.py).
import Derived.Test.YtbdlelojlnhhfaaDoorWInv
import Derived.Test.YtbdlelojlnhhfaaDoorWFootNe
namespace Go.Proofs.YtbdlelojlnhhfaaDoorW.PrintWords
open Go.RowKit
end Go.Proofs.YtbdlelojlnhhfaaDoorW.PrintWords
namespace Go.Proofs.YtbdlelojlnhhfaaDoorW.PrintLast
section
variable {ops : Array Oper} {a : Act} {o og : Oper} {g : Nat} {t : Tmp} {u : Bool}
end
end Go.Proofs.YtbdlelojlnhhfaaDoorW.PrintLast
