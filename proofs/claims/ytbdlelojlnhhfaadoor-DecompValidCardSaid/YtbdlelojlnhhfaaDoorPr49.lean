-- Printed by a program of this session's own (wip/tools/pp.py) over the kit's print.py; Lean checks it.
import Derived.Test.YtbdlelojlnhhfaaDoorPr0
import Derived.Test.YtbdlelojlnhhfaaDoorPr39
namespace Go.Proofs.YtbdlelojlnhhfaaDoor.Pr
open Go.RowKit Go.Proofs.YtbdlelojlnhhfaaDoorW.PrintWords Go.Proofs.YtbdlelojlnhhfaaDoorW.PrintLast Go.Proofs.YtbdlelojlnhhfaaDoorW.PrintMore
attribute [local go_sem] max2_int min2_int max_two min_two max_three min_three max_four min_four
set_option linter.unusedVariables false
set_option linter.unusedSimpArgs false
/-! ### arboristref10_Width: function 22 -/
def arboristref10_Width.l0 : Nat → Int → List (List Int) → Int → Option (Int)
 | 0, _, _, _ => none
 | k + 1, x5, x6, x7 => if x7 < (x6.length : Int) then (if 0 ≤ x7 then (arboristref10_Width.l0 k (mx x5 ((rd_L1 x6 x7).length : Int)) x6 (wrap64 (x7 + 1))) else (none)) else (some (wrap64 (x5 - 1)))
def arboristref10_Width.f (k : Nat) (l0 : List (List Bool)) (l1 : List Int) : Option (Int) := (arboristref10_Bags.f k l0 l1).bind fun t672 => (arboristref10_Width.l0 k 0 t672 0)
theorem arboristref10_Width.mono_l : ∀ k, (∀ y0 y1 y2, LeO (arboristref10_Width.l0 k y0 y1 y2) (arboristref10_Width.l0 (k + 1) y0 y1 y2))
 | 0 => fun _ _ _ r h => by simp [arboristref10_Width.l0] at h
 | k + 1 => by
  have ih0 := arboristref10_Width.mono_l k;all_goals intros
  all_goals (first | unfold arboristref10_Width.l0)
  all_goals repeat' first
  | (with_reducible first | exact ih0 _ _ _ | exact arboristref10_Bags.mono _ _ _ | exact LeO.refl _ | exact LeO.none _ | refine LeO.ite ?_ ?_ | refine LeO.bind ?_ (fun _ => ?_))
  | exact ih0 _ _ _
  | exact arboristref10_Bags.mono _ _ _
  | exact LeO.none _
  | refine LeO.ite ?_ ?_
  | refine LeO.bind ?_ (fun _ => ?_)
theorem arboristref10_Width.mono : ∀ a0 a1 k, LeO (arboristref10_Width.f k a0 a1) (arboristref10_Width.f (k + 1) a0 a1) := by
 intro a0 a1 k
 have ih0 := arboristref10_Width.mono_l k;unfold arboristref10_Width.f
 repeat' first
   | (with_reducible first | exact ih0 _ _ _ | exact arboristref10_Bags.mono _ _ _ | exact LeO.refl _ | exact LeO.none _ | refine LeO.ite ?_ ?_ | refine LeO.bind ?_ (fun _ => ?_))
   | exact ih0 _ _ _
   | exact arboristref10_Bags.mono _ _ _
   | exact LeO.none _
   | refine LeO.ite ?_ ?_
   | refine LeO.bind ?_ (fun _ => ?_)
set_option maxHeartbeats 8000000 in
set_option maxRecDepth 100000 in
theorem arboristref10_Width.calls (k : Nat) (A0 : Option Addr) (c0 : Nat) (l0 : List (List Bool)) (A1 : Option Addr) (c1 : Nat) (l1 : List Int) (r : Int) (w : World) (hr0 : Kd.C (Kd.slice 4 Kd.bool) w A0 l0.length l0) (hc0 : l0.length ≤ c0) (hr1 : Kd.C (Kd.int .i64) w A1 l1.length l1) (hc1 : l1.length ≤ c1) (h : arboristref10_Width.f k l0 l1 = some r) :
  Calls Tryd.prog 22 #[.slice A0 l0.length c0, .slice A1 l1.length c1] w fun e w' => e = .returned (.int .i64 r) ∧ Below w.heap.size w w' := by
 have HR0 := Aside0.mk hr0;have HC0 := Aside0.mk hc0;clear hr0 hc0;have HR1 := Aside0.mk hr1;have HC1 := Aside0.mk hc1;clear hr1 hc1;have HB := Aside0.mk (Below.refl w.heap.size w);have H : ((arboristref10_Bags.f k l0 l1).bind fun t672 => (arboristref10_Width.l0 k 0 t672 0)) = some r := h;clear h;replace H := Option.bind_eq_some_iff.mp H;obtain ⟨t672, A30, H⟩ := H;(try dsimp only at H);have A3 := Aside0.mk A30;clear A30;have H' := Aside0.mk H;clear H;go_enter Tryd.func22, Tryd.ntmps22
 go_wp2_with (first | ((with_reducible refine gate_callee (f := 26) rfl ?_); refine goesL_ (some 10) rfl rfl Tryd.func26 (by kernel_rfl) rfl #[.slice A0 l0.length c0, .slice A1 l1.length c1] rfl qM ?_; (with_reducible refine (arboristref10_Bags.calls k _ _ l0 _ _ l1 t672 _ ?side1 ?side2 ?side3 ?side4 A3.out).mono ?_); (case side1 => repeat (first | exact HR0.out | (with_reducible refine Kd.C_alloc ?_ _) | (with_reducible refine Kd.C_drewN ?_ _) | (with_reducible refine Kd.C_drew ?_))); (case side2 => exact HC0.out); (case side3 => repeat (first | exact HR1.out | (with_reducible refine Kd.C_alloc ?_ _) | (with_reducible refine Kd.C_drewN ?_ _) | (with_reducible refine Kd.C_drew ?_))); (case side4 => exact HC1.out); rintro e w4 ⟨v673, rfl, ho0, hb⟩; refine ⟨_, rfl, ?_⟩; have n0_ := Aside0.mk (Kd.S_lower ho0 (below_size (qB HB.out))); have n1_ := Aside0.mk (below_step (qB HB.out) hb); clear HB; have HO674 := n0_; have HB := n1_; clear n0_ n1_; (try clear hb); (try clear hb2); (try clear hk); (try clear hi); (try clear ho0)))
 go_loopg [5, 7] k (fun kq v5 v7 w' => ∃ (x5_1 : Int) (x7_1 : Int), v5 = .int .i64 x5_1 ∧ v7 = .int .i64 x7_1 ∧ Aside0 (arboristref10_Width.l0 kq x5_1 t672 x7_1 = some r) ∧ Aside0 (kq ≤ k) ∧ Aside0 (Kd.S (Kd.slice 3 (Kd.int .i64)) 23 w' w.heap.size (fun _ => True) v673 t672) ∧ Aside0 (Below w.heap.size w w'))
 case atStart => exact ⟨(0), (0), (by first | rfl | (simp; done) | (simp [*]; done)), (by first | rfl | (simp; done) | (simp [*]; done)), H', ⟨Nat.le_refl _⟩, ⟨by (with_reducible repeat (first | apply Kd.S_alloc | apply Kd.S_drewN | apply Kd.S_drew)); exact HO674.out⟩, ⟨by repeat (first | (with_reducible first | exact HB.out | apply below_alloc | apply pw_below_drewN | apply below_drew1) | exact HB.out)⟩⟩
 case round =>
  clear H';try clear c1
  try clear c2
  try clear p2
  obtain ⟨x5_1, x7_1, rfl, rfl, HA, HK1, HO_6, HB⟩ := hrel;cases gk with
  | zero => exact absurd HA.out (by simp [arboristref10_Width.l0])
  | succ k1 =>
   have H := HA.out;clear HA;simp only [arboristref10_Width.l0] at H
   by_cases c5 : x7_1 < (t672.length : Int)
   ·rw [if_pos c5] at H
    have c5b0 : decide (x7_1 < (t672.length : Int)) = true := decide_eq_true c5;clear c5;by_cases c6 : 0 ≤ x7_1
    ·rw [if_pos c6] at H
     have c6b0 : decide (0 ≤ x7_1) = true := decide_eq_true c6;clear c6;obtain ⟨ji7, hji7⟩ : ∃ j_ : Int, (mx x5_1 ((rd_L1 t672 x7_1).length : Int)) = j_ := ⟨_, rfl⟩;replace H : (arboristref10_Width.l0 k1 ji7 t672 (wrap64 (x7_1 + 1))) = some r := by first | (rw [hji7] at H; exact H) | (simp only [hji7] at H ⊢; exact H)
     have hji7_ : (if x5_1 < ((rd_L1 t672 x7_1).length : Int) then ((rd_L1 t672 x7_1).length : Int) else x5_1) = ji7 := hji7;have H' := Aside0.mk H;clear H;obtain ⟨Ao8, co8, eo8⟩ := Kd.S_slice HO_6.out;subst eo8;have p675 : 0 ≤ (x7_1 : Int) := of_decide_eq_true qA;have q675 : x7_1 < (t672.length : Int) := of_decide_eq_true qA;obtain ⟨ad675, A675_0, c675_0, e675, hx675_0, hl675_0, hi675_0⟩ := at_L1 (Kd.S_reads' HO_6.out).2.2 x7_1 p675 q675;cases e675
     obtain ⟨ce675, hce675, hMe675, hcc675⟩ := Kd.S_get HO_6.out [] x7_1 p675 (by first | exact q675 | exact of_decide_eq_true qA | (have e_ := (Kd.S_reads' HO_6.out).1; omega));obtain ⟨ve675_0, rfl, ge675_0⟩ := hMe675;have hv675_0 := hcc675 0 _ rfl;rw [Nat.add_zero, show ((Kd.slice 3 (Kd.int .i64))).sz = 1 from rfl, Nat.mul_one] at hv675_0
     replace hv675_0 := Option.some.inj (hv675_0.symm.trans hx675_0);rw [hv675_0] at ge675_0
     have HL675_0 := Aside0.mk (show Kd.R (Kd.int .i64) 3 _ _ _ _ (rd_L1 t672 x7_1) from ge675_0);clear hv675_0 ge675_0;clear hcc675 hce675;have HR675_0 := Aside0.mk hi675_0;have HC675_0 := Aside0.mk hl675_0;clear hi675_0 hl675_0;replace p675 := eq_true p675;replace q675 := eq_true q675;go_wp2
     first | go_roundg k1 | (simp only [← hji7]; (try simp only [← hji7] at H'); go_roundg k1)
     case measure => have := HK1.out; omega
     case rel => exact ⟨(ji7), (wrap64 (x7_1 + 1)), (by first | rfl | (simp; done) | (simp only [← hji7] <;> (first | rfl | simp)) | (simp [*]; done)), (by first | rfl | (simp; done) | (simp [*]; done)), H', ⟨by have := HK1.out; omega⟩, ⟨by (with_reducible repeat (first | apply Kd.S_alloc | apply Kd.S_drewN | apply Kd.S_drew)); exact HO_6.out⟩, ⟨by repeat (first | (with_reducible first | exact HB.out | apply below_alloc | apply pw_below_drewN | apply below_drew1) | exact HB.out)⟩⟩
    ·rw [if_neg c6] at H
     exact absurd H (by simp)
   ·rw [if_neg c5] at H
    have c5b0 : decide (x7_1 < (t672.length : Int)) = false := decide_eq_false c5;clear c5;obtain rfl := Option.some.inj H;obtain ⟨Ao9, co9, eo9⟩ := Kd.S_slice HO_6.out;subst eo9;go_wp2
    go_ret
    exact ⟨by first | rfl | (simp [errW_none, errW_some] <;> rfl) | (simp [*, errW_none, errW_some] <;> rfl), by repeat (first | (with_reducible first | exact HB.out | apply below_alloc | apply pw_below_drewN | apply below_drew1) | exact HB.out)⟩
end Go.Proofs.YtbdlelojlnhhfaaDoor.Pr
