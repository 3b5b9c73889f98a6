/- PlaceRow: of bags in a row, each below the one ahead of it, the last comes first; of those that all hang at the first they come in order, the root last: for every number n (reduced to 1 to 20) and either shape. No condition. -/
import Derived.Test.YtpmfdggbccbfaaaPr1
import Derived.Test.YtpmfdggbccbfaaaPr31
import Derived.Test.YtpmfdggbccbfaaaPr55
namespace Go.Proofs.Ytpmfdggbccbfaaa.Pure
open Go.RowKit Go.Proofs.Ytpmfdggbccbfaaa.Pr Go.Proofs.YtpmfdggbccbfaaaW.PrintWords Go.Proofs.YtpmfdggbccbfaaaW.PrintLast

theorem shown13 : arboristlaw13_shown.f 60 = some true := by decide +kernel
theorem rows_all : ∀ n : Fin 20, ∀ b : Bool, arboristlaw13_PlaceRow.l0 200 ((n.val : Int) + 1) b true 0 [] [] = some true := by decide +kernel
theorem PlaceRow : arboristlaw13_PlaceRow.Pure := by
  intro a0 a1 _
  refine ⟨200, ?_⟩
  have hs : arboristlaw13_shown.f 200 = some true := at_rounds (g := fun k => arboristlaw13_shown.f k) (fun k => arboristlaw13_shown.mono k) (k := 60) (by omega) shown13
  have hm : Int.tmod (a0 % 65536) 20 = (a0 % 65536) % 20 := Int.tmod_eq_emod_of_nonneg (by omega)
  obtain ⟨n, hn⟩ : ∃ n : Fin 20, wrap64 (1 + Int.tmod (Go.bits .and .i64 a0 65535) 20) = (n.val : Int) + 1 := by
    refine ⟨⟨((a0 % 65536) % 20).toNat, by omega⟩, ?_⟩
    rw [i64_and65535, hm]
    unfold wrap64
    simp only
    omega
  unfold arboristlaw13_PlaceRow.f
  rw [hs, hn]
  exact rows_all n a1

end Go.Proofs.Ytpmfdggbccbfaaa.Pure
