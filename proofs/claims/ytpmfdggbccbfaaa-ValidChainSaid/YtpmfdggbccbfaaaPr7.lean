-- Printed by a program of this session's own (wip/tools/pp.py) over the kit's print.py; Lean checks it.
import Derived.Test.YtpmfdggbccbfaaaPr0
import Derived.Test.YtpmfdggbccbfaaaPr1
import Derived.Test.YtpmfdggbccbfaaaPr6
namespace Go.Proofs.Ytpmfdggbccbfaaa.Pr
open Go.RowKit Go.Proofs.YtpmfdggbccbfaaaW.PrintWords Go.Proofs.YtpmfdggbccbfaaaW.PrintLast Go.Proofs.YtpmfdggbccbfaaaW.PrintMore
attribute [local go_sem] max2_int min2_int max_two min_two max_three min_three max_four min_four   -- for this text's walks alone
set_option linter.unusedVariables false
set_option linter.unusedSimpArgs false

-- given by hand
/-! ### slices_Contains_int_int: function 50 -/
def slices_Contains_int_int.f (l0 : List Int) (a1 : Int) : Option Bool := some (l0.any (fun x => x == a1))
theorem slices_Contains_int_int.calls (A0 : Option Addr) (c0 : Nat) (l0 : List Int) (a1 : Int) (r : Bool) (w : World) (hr0 : Kd.C (Kd.int .i64) w A0 l0.length l0) (hc0 : l0.length ≤ c0) (h : slices_Contains_int_int.f l0 a1 = some r) :
    Calls Try.prog 50 #[.slice A0 l0.length c0, .int .i64 a1] w fun e w' => e = .returned (.bool r) ∧ Drawn0 w w' := by
  have HE := Aside0.mk (Option.some.inj h)
  have HC := Aside0.mk (slices_Index_int_int.calls A0 c0 l0 a1 _ w hr0 hc0 rfl)
  have HN := Aside0.mk (idx_nonneg (fun x => x == a1) l0 0 (by omega))
  obtain ⟨z, hz⟩ : ∃ z, z = idxOf (fun x => x == a1) l0 0 := ⟨_, rfl⟩
  rw [← hz] at HC HN
  have HF := Aside0.mk (HN.out.trans HE.out)
  clear hz hr0 hc0 h HE HN
  go_enter Try.func50, Try.ntmps50
  go_wp2_with (go_at_call 57; refine HC.out.mono ?_; rintro e w' ⟨rfl, hb⟩; have HB2 := Aside0.mk hb; clear hb)
  go_ret
  exact ⟨by rw [← HF.out]; rfl, HB2.out⟩

end Go.Proofs.Ytpmfdggbccbfaaa.Pr
