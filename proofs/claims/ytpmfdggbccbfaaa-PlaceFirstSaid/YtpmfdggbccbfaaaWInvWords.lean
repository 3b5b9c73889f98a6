-- The kit's words for printed texts, laid by its own.py; what this seat's texts do not use is left out (wip/tools/prune.py).
import Derived.Test.YtpmfdggbccbfaaaWInv
import Derived.Test.YtpmfdggbccbfaaaWFootNe
namespace Go.Proofs.YtpmfdggbccbfaaaW.PrintWords
open Go.RowKit
/-- Two rows, one made behind the other's standing. -/
theorem own_apart {v1 v2 : Value} {n : Nat} (hlt : ∀ k, v1.ownBlock = some k → k < n) (hge : ∀ k, v2.ownBlock = some k → n ≤ k) : v1.ownBlock = none ∨ v1.ownBlock ≠ v2.ownBlock := by
  cases h : v1.ownBlock with
  | none => exact .inl rfl
  | some k => exact .inr (fun e => by have := hlt k h; have := hge k e.symm; omega)
end Go.Proofs.YtpmfdggbccbfaaaW.PrintWords
namespace Go.Proofs.YtpmfdggbccbfaaaW.PrintLast
section
variable {ops : Array Oper} {a : Act} {o og : Oper} {g : Nat} {t : Tmp} {u : Bool}
end
end Go.Proofs.YtpmfdggbccbfaaaW.PrintLast
