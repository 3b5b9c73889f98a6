/- ValidRoots: two trees beside each other are none; hung at one of the first one's bags they are one: for every three numbers (reduced to 1 to 8, 1 to 8, and a place in the first). No condition. -/
import Derived.Test.YtpmfdggbccbfaaaPr1
import Derived.Test.YtpmfdggbccbfaaaPr13
import Derived.Test.YtpmfdggbccbfaaaPr27
set_option linter.unusedVariables false
namespace Go.Proofs.Ytpmfdggbccbfaaa.Pure
open Go.RowKit Go.Proofs.Ytpmfdggbccbfaaa.Pr Go.Proofs.YtpmfdggbccbfaaaW.PrintWords Go.Proofs.YtpmfdggbccbfaaaW.PrintLast

theorem roots_shown : arboristlaw12_shown.f 100 = some true := by decide +kernel
theorem roots_all : ∀ a b c : Fin 8, c.val ≤ a.val → arboristlaw12_ValidRoots.l0 200 ((a.val : Int) + 1) ((b.val : Int) + 1) (c.val : Int) true 0 [] [] = some true := by decide +kernel
theorem one_to (x : Int) (m : Nat) (h0 : 0 < m) (h1 : m < 1000) : ∃ n : Fin m, wrap64 (1 + Int.tmod (Go.bits .and .i64 x 65535) m) = (n.val : Int) + 1 := by
  have hm : Int.tmod (x % 65536) m = (x % 65536) % m := Int.tmod_eq_emod_of_nonneg (by omega)
  have h2 := Int.emod_nonneg (x % 65536) (show (m : Int) ≠ 0 by omega)
  have h3 := Int.emod_lt_of_pos (x % 65536) (show 0 < (m : Int) by omega)
  refine ⟨⟨((x % 65536) % m).toNat, by omega⟩, ?_⟩
  rw [i64_and65535, hm, wrap_id (by omega) (by omega)]
  simp only
  omega
theorem ValidRoots : arboristlaw12_ValidRoots.Pure := by
  intro a0 a1 a2 _ _ _
  refine ⟨200, ?_⟩
  have hs : arboristlaw12_shown.f 200 = some true := at_rounds (g := fun k => arboristlaw12_shown.f k) (fun k => arboristlaw12_shown.mono k) (k := 100) (by omega) roots_shown
  obtain ⟨a, ha⟩ := one_to a0 8 (by omega) (by omega)
  obtain ⟨b, hb⟩ := one_to a1 8 (by omega) (by omega)
  simp only [Int.cast_ofNat_Int] at ha hb
  have hc : ∃ c : Fin 8, c.val ≤ a.val ∧ Int.tmod (Go.bits .and .i64 a2 65535) ((a.val : Int) + 1) = (c.val : Int) := by
    have hm : Int.tmod (a2 % 65536) ((a.val : Int) + 1) = (a2 % 65536) % ((a.val : Int) + 1) := Int.tmod_eq_emod_of_nonneg (by omega)
    have h2 := Int.emod_nonneg (a2 % 65536) (show ((a.val : Int) + 1) ≠ 0 by omega)
    have h3 := Int.emod_lt_of_pos (a2 % 65536) (show 0 < (a.val : Int) + 1 by omega)
    have h4 := a.isLt
    refine ⟨⟨((a2 % 65536) % ((a.val : Int) + 1)).toNat, by omega⟩, by simp only; omega, ?_⟩
    rw [i64_and65535, hm]
    simp only
    omega
  obtain ⟨c, hc1, hc2⟩ := hc
  unfold arboristlaw12_ValidRoots.f
  rw [hs, Option.bind_some, ha, hb, hc2, if_neg (by omega)]
  exact roots_all a b c hc1

end Go.Proofs.Ytpmfdggbccbfaaa.Pure
