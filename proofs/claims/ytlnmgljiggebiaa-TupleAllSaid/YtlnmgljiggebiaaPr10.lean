-- Printed by a program of this session's own (wip/tools/pp.py) over the kit's print.py; Lean checks it.
import Derived.Test.YtlnmgljiggebiaaPr0
import Derived.Test.YtlnmgljiggebiaaPr5
namespace Go.Proofs.Ytlnmgljiggebiaa.Pr
open Go.RowKit Go.Proofs.YtlnmgljiggebiaaW.PrintWords Go.Proofs.YtlnmgljiggebiaaW.PrintLast Go.Proofs.YtlnmgljiggebiaaW.PrintMore
attribute [local go_sem] max2_int min2_int max_two min_two max_three min_three max_four min_four   -- for this text's walks alone
set_option linter.unusedVariables false
set_option linter.unusedSimpArgs false

-- given by hand
/-! ### tuple_Find: function 16 -/
-- needs slices_BinarySearchFunc_int_int_int tuple_Compare
def tuple_Find.f (l0 : List (List Int)) (l1 : List Int) : Option (Int × Bool) := if l0.length < 17592186044416 then some ((bsI l0 l1 : Nat), bsF l0 l1) else none
theorem tuple_Find.calls (A0 : Option Addr) (c0 : Nat) (l0 : List (List Int)) (A1 : Option Addr) (c1 : Nat) (l1 : List Int) (r1 : Int) (r2 : Bool) (w : World) (hr0 : Kd.C (Kd.slice 3 (Kd.int .i64)) w A0 l0.length l0) (hc0 : l0.length ≤ c0) (hr1 : Kd.C (Kd.int .i64) w A1 l1.length l1) (hc1 : l1.length ≤ c1) (h : tuple_Find.f l0 l1 = some (r1, r2)) :
    Calls Try.prog 16 #[.slice A0 l0.length c0, .slice A1 l1.length c1] w fun e w' => e = .returned (.tuple #[.int .i64 r1, .bool r2]) ∧ Drawn0 w w' := by
  unfold tuple_Find.f at h
  split at h
  case isFalse => cases h
  rename_i hlen
  simp only [Option.some.injEq, Prod.mk.injEq] at h
  obtain ⟨rfl, rfl⟩ := h
  have HC := Aside0.mk (slices_BinarySearchFunc_int_int_int.callsC A0 c0 l0 A1 c1 l1 w hr0 hc0 hr1 hc1 hlen)
  clear hr0 hr1 hc0 hc1 hlen
  obtain ⟨z, hz⟩ : ∃ z, z = bsI l0 l1 := ⟨_, rfl⟩
  obtain ⟨y, hy⟩ : ∃ y, y = bsF l0 l1 := ⟨_, rfl⟩
  rw [← hz, ← hy] at HC ⊢
  clear hz hy
  go_enter Try.func16, Try.ntmps16
  go_wp2_with (go_at_call 39; refine HC.out.mono ?_; rintro e w' ⟨rfl, hb⟩; have HB2 := Aside0.mk hb; clear hb)
  go_ret2
  exact ⟨rfl, HB2.out⟩

end Go.Proofs.Ytlnmgljiggebiaa.Pr
