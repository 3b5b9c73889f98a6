-- The kit's words for printed texts, laid by its own.py; what this seat's texts do not use is left out (wip/tools/prune.py).
import Derived.Test.YtpmfdggbccbfaaaWN
/-! ### 52. A row that stays read whatever happens to a block (a set of blocks) doesn't lie there -/
namespace Go.Proofs.YtpmfdggbccbfaaaW.PrintWords
open Go.RowKit
namespace Kd
section
variable {α : Type} {d : Kd α} {W : World} {g n : Nat} {S ok : Nat → Prop} {A : Option Addr} {ad : Addr} {xs : List α}
end
end Kd
end Go.Proofs.YtpmfdggbccbfaaaW.PrintWords
