-- Printed by a program of this session's own (wip/tools/pp.py) over the kit's print.py; Lean checks it.
import Derived.Test.YtbdlelojlnhhfaaDoorPr0
import Derived.Test.YtbdlelojlnhhfaaDoorPr54
import Derived.Test.YtbdlelojlnhhfaaDoorPr56
namespace Go.Proofs.YtbdlelojlnhhfaaDoor.Pr
open Go.RowKit Go.Proofs.YtbdlelojlnhhfaaDoorW.PrintWords Go.Proofs.YtbdlelojlnhhfaaDoorW.PrintLast Go.Proofs.YtbdlelojlnhhfaaDoorW.PrintMore
attribute [local go_sem] max2_int min2_int max_two min_two max_three min_three max_four min_four
set_option linter.unusedVariables false
set_option linter.unusedSimpArgs false
/-! ### arboristref09_Of: function 28 -/
def arboristref09_Of.f (k : Nat) (l0 : List (List Bool)) (a1 : Int) : Option (List Int) := if a1 = 3 then ((arboristref09_card.f k l0).bind fun t824 => (some t824)) else ((arboristref09_goes.f k l0 (a1 == 1)).bind fun t827 => (some t827))
theorem arboristref09_Of.mono : ∀ a0 a1 k, LeO (arboristref09_Of.f k a0 a1) (arboristref09_Of.f (k + 1) a0 a1) := by
 intro a0 a1 k
 unfold arboristref09_Of.f
 repeat' first
   | (with_reducible first | exact arboristref09_card.mono _ _ | exact arboristref09_goes.mono _ _ _ | exact LeO.refl _ | exact LeO.none _ | refine LeO.ite ?_ ?_ | refine LeO.bind ?_ (fun _ => ?_))
   | exact arboristref09_card.mono _ _
   | exact arboristref09_goes.mono _ _ _
   | exact LeO.none _
   | refine LeO.ite ?_ ?_
   | refine LeO.bind ?_ (fun _ => ?_)
set_option maxHeartbeats 8000000 in
set_option maxRecDepth 100000 in
theorem arboristref09_Of.calls (k : Nat) (A0 : Option Addr) (c0 : Nat) (l0 : List (List Bool)) (a1 : Int) (r : List Int) (w : World) (hr0 : Kd.C (Kd.slice 4 Kd.bool) w A0 l0.length l0) (hc0 : l0.length ≤ c0) (h : arboristref09_Of.f k l0 a1 = some r) :
  Calls Tryd.prog 28 #[.slice A0 l0.length c0, .int .i64 a1] w fun e w' => ∃ v0_ : Value, e = .returned (v0_) ∧ Kd.R (Kd.int .i64) 3 w' w.heap.size (fun _ => True) v0_ r ∧ Below w.heap.size w w' := by
 have HR0 := Aside0.mk hr0;have HC0 := Aside0.mk hc0;clear hr0 hc0;have HB := Aside0.mk (Below.refl w.heap.size w);have H : (if a1 = 3 then ((arboristref09_card.f k l0).bind fun t824 => (some t824)) else ((arboristref09_goes.f k l0 (a1 == 1)).bind fun t827 => (some t827))) = some r := h;clear h;by_cases c3 : a1 = 3
 ·rw [if_pos c3] at H
  have c3b0 : (a1 == 3) = true := beq_iff_eq.mpr c3;have c3b1 : (a1 != 3) = false := bne_eq_false_iff_eq.mpr c3;clear c3;replace H := Option.bind_eq_some_iff.mp H;obtain ⟨t824, A40, H⟩ := H;replace H : (some t824) = some r := H;have A4 := Aside0.mk A40;clear A40;obtain rfl := Option.some.inj H;go_enter Tryd.func28, Tryd.ntmps28
  go_wp2_with (first | ((with_reducible refine gate_callee (f := 39) rfl ?_); refine goesL_ (some 8) rfl rfl Tryd.func39 (by kernel_rfl) rfl #[.slice A0 l0.length c0] rfl qM ?_; (with_reducible refine (arboristref09_card.calls k _ _ l0 t824 _ ?side1 ?side2 A4.out).mono ?_); (case side1 => repeat (first | exact HR0.out | (with_reducible refine Kd.C_alloc ?_ _) | (with_reducible refine Kd.C_drewN ?_ _) | (with_reducible refine Kd.C_drew ?_))); (case side2 => exact HC0.out); rintro e w5 ⟨v825, rfl, ho0, hb⟩; refine ⟨_, rfl, ?_⟩; have n0_ := Aside0.mk (Kd.R_lower ho0 (below_size (qB HB.out))); have n1_ := Aside0.mk (below_step (qB HB.out) hb); clear HB; have HO826 := n0_; have HB := n1_; clear n0_ n1_; (try clear hb); (try clear hb2); (try clear hk); (try clear hi); (try clear ho0)))
  go_ret
  exact ⟨_, by first | rfl | (simp [errW_none, errW_some] <;> rfl) | (simp [*, errW_none, errW_some] <;> rfl), by (with_reducible repeat (first | apply Kd.R_alloc | apply Kd.R_drewN | apply Kd.R_drew)); exact HO826.out, by repeat (first | (with_reducible first | exact HB.out | apply below_alloc | apply pw_below_drewN | apply below_drew1) | exact HB.out)⟩
 ·rw [if_neg c3] at H
  have c3b0 : (a1 == 3) = false := beq_eq_false_iff_ne.mpr c3;have c3b1 : (a1 != 3) = true := bne_iff_ne.mpr c3;replace H := Option.bind_eq_some_iff.mp H;obtain ⟨t827, A60, H⟩ := H;replace H : (some t827) = some r := H;have A6 := Aside0.mk A60;clear A60;obtain rfl := Option.some.inj H;go_enter Tryd.func28, Tryd.ntmps28
  go_wp2_with (first | ((with_reducible refine gate_callee (f := 40) rfl ?_); refine goesL_ (some 12) rfl rfl Tryd.func40 (by kernel_rfl) rfl #[.slice A0 l0.length c0, .bool (a1 == 1)] rfl qM ?_; (with_reducible refine (arboristref09_goes.calls k _ _ l0 (a1 == 1) t827 _ ?side1 ?side2 A6.out).mono ?_); (case side1 => repeat (first | exact HR0.out | (with_reducible refine Kd.C_alloc ?_ _) | (with_reducible refine Kd.C_drewN ?_ _) | (with_reducible refine Kd.C_drew ?_))); (case side2 => exact HC0.out); rintro e w7 ⟨v828, rfl, ho0, hb⟩; refine ⟨_, rfl, ?_⟩; have n0_ := Aside0.mk (Kd.R_lower ho0 (below_size (qB HB.out))); have n1_ := Aside0.mk (below_step (qB HB.out) hb); clear HB; have HO829 := n0_; have HB := n1_; clear n0_ n1_; (try clear hb); (try clear hb2); (try clear hk); (try clear hi); (try clear ho0)))
  go_ret
  exact ⟨_, by first | rfl | (simp [errW_none, errW_some] <;> rfl) | (simp [*, errW_none, errW_some] <;> rfl), by (with_reducible repeat (first | apply Kd.R_alloc | apply Kd.R_drewN | apply Kd.R_drew)); exact HO829.out, by repeat (first | (with_reducible first | exact HB.out | apply below_alloc | apply pw_below_drewN | apply below_drew1) | exact HB.out)⟩
end Go.Proofs.YtbdlelojlnhhfaaDoor.Pr
