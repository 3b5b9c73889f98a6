-- Printed by a program of this session's own (wip/tools/pp.py) over the kit's print.py; Lean checks it.
import Derived.Test.YtpmfdggbccbfaaaPr0
import Derived.Test.YtpmfdggbccbfaaaPr1
import Derived.Test.YtpmfdggbccbfaaaPr4
namespace Go.Proofs.Ytpmfdggbccbfaaa.Pr
open Go.RowKit Go.Proofs.YtpmfdggbccbfaaaW.PrintWords Go.Proofs.YtpmfdggbccbfaaaW.PrintLast Go.Proofs.YtpmfdggbccbfaaaW.PrintMore
attribute [local go_sem] max2_int min2_int max_two min_two max_three min_three max_four min_four   -- for this text's walks alone
set_option linter.unusedVariables false
set_option linter.unusedSimpArgs false

-- given by hand
/-! ### slices_ContainsFunc_int_int_46: function 46 -/
set_option maxHeartbeats 2000000 in
theorem slices_ContainsFunc_int_int_46.callsP {α : Type} (d : Kd α) (h1 : d.sz = 1) (p : α → Bool) (g : Nat) (lb : Array Value) (eg : ∀ args w, (callFunc g args).run Try.prog w = .ok (.enter g args) w) (A : Option Addr) (c : Nat) (xs : List α) (w : World)
    (hp : PredKd Try.prog g lb d xs p w) (hr : d.C w A xs.length xs) :
    Calls Try.prog 46 #[.slice A xs.length c, .func (.func g) #[] lb] w fun e w' => e = .returned (.bool (xs.any p)) ∧ Below w.heap.size w w' := by
  have HC := Aside0.mk (slices_IndexFunc_int_int_52.callsP d h1 p g lb eg A c xs w hp hr)
  have HN := Aside0.mk (idx_nonneg p xs 0 (by omega))
  clear hp hr
  obtain ⟨z, hz⟩ : ∃ z, z = idxOf p xs 0 := ⟨_, rfl⟩
  rw [← hz] at HC HN
  rw [← HN.out]
  clear HN hz
  go_enter Try.func46, Try.ntmps46
  go_wp2_with (go_at_call 52; refine HC.out.mono ?_; rintro e w' ⟨rfl, hb⟩; have HB2 := Aside0.mk hb; clear hb)
  go_ret
  exact ⟨rfl, HB2.out⟩

end Go.Proofs.Ytpmfdggbccbfaaa.Pr
