-- Printed by a program of this session's own (wip/tools/pp.py) over the kit's print.py; Lean checks it.
import Derived.Test.YtbdlelojlnhhfaaDoorPr0
import Derived.Test.YtbdlelojlnhhfaaDoorPr40
namespace Go.Proofs.YtbdlelojlnhhfaaDoor.Pr
open Go.RowKit Go.Proofs.YtbdlelojlnhhfaaDoorW.PrintWords Go.Proofs.YtbdlelojlnhhfaaDoorW.PrintLast Go.Proofs.YtbdlelojlnhhfaaDoorW.PrintMore
attribute [local go_sem] max2_int min2_int max_two min_two max_three min_three max_four min_four
set_option linter.unusedVariables false
set_option linter.unusedSimpArgs false
/-! ### arboristref09_Missing: function 47 -/
mutual
def arboristref09_Missing.l0 : Nat → List (List Bool) → List Int → Int → Int → Option (Int)
 | 0, _, _, _, _ => none
 | k + 1, x0, x5, x6, x7 => if x7 < (x5.length : Int) then (arboristref09_Missing.l1 k x0 x5 x6 x7 0) else (some x6)
def arboristref09_Missing.l1 : Nat → List (List Bool) → List Int → Int → Int → Int → Option (Int)
 | 0, _, _, _, _, _ => none
 | k + 1, x0, x5, x6, x7, x8 => if x8 < x7 then (if 0 ≤ x7 then (if x7 < (x5.length : Int) then (if 0 ≤ (rd x5 x7) then (if (rd x5 x7) < (x0.length : Int) then (if 0 ≤ x8 then (if x8 < (x5.length : Int) then (if 0 ≤ (rd x5 x8) then (if (rd x5 x8) < ((rd_L8 x0 (rd x5 x7)).length : Int) then (if (rdOf false (rd_L8 x0 (rd x5 x7)) (rd x5 x8) = true) then (arboristref09_Missing.l1 k x0 x5 x6 x7 (wrap64 (x8 + 1))) else (arboristref09_Missing.l1 k x0 x5 (wrap64 (x6 + 1)) x7 (wrap64 (x8 + 1)))) else (none)) else (none)) else (none)) else (none)) else (none)) else (none)) else (none)) else (none)) else (arboristref09_Missing.l0 k x0 x5 x6 (wrap64 (x7 + 1)))
end
def arboristref09_Missing.f (k : Nat) (l0 : List (List Bool)) (a1 : Int) : Option (Int) := (arboristref08_Neighbors.f k l0 a1).bind fun t798 => (arboristref09_Missing.l0 k l0 t798 0 0)
theorem arboristref09_Missing.mono_l : ∀ k, (∀ y0 y1 y2 y3, LeO (arboristref09_Missing.l0 k y0 y1 y2 y3) (arboristref09_Missing.l0 (k + 1) y0 y1 y2 y3)) ∧ (∀ y0 y1 y2 y3 y4, LeO (arboristref09_Missing.l1 k y0 y1 y2 y3 y4) (arboristref09_Missing.l1 (k + 1) y0 y1 y2 y3 y4))
 | 0 => ⟨fun _ _ _ _ r h => by simp [arboristref09_Missing.l0] at h, fun _ _ _ _ _ r h => by simp [arboristref09_Missing.l1] at h⟩
 | k + 1 => by
  obtain ⟨ih0, ih1⟩ := arboristref09_Missing.mono_l k;refine ⟨?_, ?_⟩;all_goals intros
  all_goals (first | unfold arboristref09_Missing.l0 | unfold arboristref09_Missing.l1)
  all_goals repeat' first
  | (with_reducible first | exact ih0 _ _ _ _ | exact ih1 _ _ _ _ _ | exact arboristref08_Neighbors.mono _ _ _ | exact LeO.refl _ | exact LeO.none _ | refine LeO.ite ?_ ?_ | refine LeO.bind ?_ (fun _ => ?_))
  | exact ih0 _ _ _ _
  | exact ih1 _ _ _ _ _
  | exact arboristref08_Neighbors.mono _ _ _
  | exact LeO.none _
  | refine LeO.ite ?_ ?_
  | refine LeO.bind ?_ (fun _ => ?_)
theorem arboristref09_Missing.mono : ∀ a0 a1 k, LeO (arboristref09_Missing.f k a0 a1) (arboristref09_Missing.f (k + 1) a0 a1) := by
 intro a0 a1 k
 obtain ⟨ih0, ih1⟩ := arboristref09_Missing.mono_l k;unfold arboristref09_Missing.f
 repeat' first
   | (with_reducible first | exact ih0 _ _ _ _ | exact ih1 _ _ _ _ _ | exact arboristref08_Neighbors.mono _ _ _ | exact LeO.refl _ | exact LeO.none _ | refine LeO.ite ?_ ?_ | refine LeO.bind ?_ (fun _ => ?_))
   | exact ih0 _ _ _ _
   | exact ih1 _ _ _ _ _
   | exact arboristref08_Neighbors.mono _ _ _
   | exact LeO.none _
   | refine LeO.ite ?_ ?_
   | refine LeO.bind ?_ (fun _ => ?_)
set_option maxHeartbeats 8000000 in
set_option maxRecDepth 100000 in
theorem arboristref09_Missing.calls (k : Nat) (A0 : Option Addr) (c0 : Nat) (l0 : List (List Bool)) (a1 : Int) (r : Int) (w : World) (hr0 : Kd.C (Kd.slice 4 Kd.bool) w A0 l0.length l0) (hc0 : l0.length ≤ c0) (h : arboristref09_Missing.f k l0 a1 = some r) :
  Calls Tryd.prog 47 #[.slice A0 l0.length c0, .int .i64 a1] w fun e w' => e = .returned (.int .i64 r) ∧ Below w.heap.size w w' := by
 have HR0 := Aside0.mk hr0;have HC0 := Aside0.mk hc0;clear hr0 hc0;have HB := Aside0.mk (Below.refl w.heap.size w);have H : ((arboristref08_Neighbors.f k l0 a1).bind fun t798 => (arboristref09_Missing.l0 k l0 t798 0 0)) = some r := h;clear h;replace H := Option.bind_eq_some_iff.mp H;obtain ⟨t798, A30, H⟩ := H;(try dsimp only at H);have A3 := Aside0.mk A30;clear A30;have H' := Aside0.mk H;clear H;go_enter Tryd.func47, Tryd.ntmps47
 go_wp2_with (first | (go_at_call 27; (with_reducible refine (arboristref08_Neighbors.calls k _ _ l0 a1 t798 _ ?side1 ?side2 A3.out).mono ?_); (case side1 => repeat (first | exact HR0.out | (with_reducible refine Kd.C_alloc ?_ _) | (with_reducible refine Kd.C_drewN ?_ _) | (with_reducible refine Kd.C_drew ?_))); (case side2 => exact HC0.out); rintro e w4 ⟨v799, rfl, ho0, hb⟩; have n0_ := Aside0.mk (Kd.R_lower ho0 (below_size (qB HB.out))); have n1_ := Aside0.mk (below_step (qB HB.out) hb); clear HB; have HO800 := n0_; have HB := n1_; clear n0_ n1_; (try clear hb); (try clear hb2); (try clear hk); (try clear hi); (try clear ho0)))
 repeat (go_quiet (first | (go_at_call 27; (with_reducible refine (arboristref08_Neighbors.calls k _ _ l0 a1 t798 _ ?side1 ?side2 A3.out).mono ?_); (case side1 => repeat (first | exact HR0.out | (with_reducible refine Kd.C_alloc ?_ _) | (with_reducible refine Kd.C_drewN ?_ _) | (with_reducible refine Kd.C_drew ?_))); (case side2 => exact HC0.out); rintro e w4 ⟨v799, rfl, ho0, hb⟩; have n0_ := Aside0.mk (Kd.R_lower ho0 (below_size (qB HB.out))); have n1_ := Aside0.mk (below_step (qB HB.out) hb); clear HB; have HO800 := n0_; have HB := n1_; clear n0_ n1_; (try clear hb); (try clear hb2); (try clear hk); (try clear hi); (try clear ho0))); try go_wp2_with (first | (go_at_call 27; (with_reducible refine (arboristref08_Neighbors.calls k _ _ l0 a1 t798 _ ?side1 ?side2 A3.out).mono ?_); (case side1 => repeat (first | exact HR0.out | (with_reducible refine Kd.C_alloc ?_ _) | (with_reducible refine Kd.C_drewN ?_ _) | (with_reducible refine Kd.C_drew ?_))); (case side2 => exact HC0.out); rintro e w4 ⟨v799, rfl, ho0, hb⟩; have n0_ := Aside0.mk (Kd.R_lower ho0 (below_size (qB HB.out))); have n1_ := Aside0.mk (below_step (qB HB.out) hb); clear HB; have HO800 := n0_; have HB := n1_; clear n0_ n1_; (try clear hb); (try clear hb2); (try clear hk); (try clear hi); (try clear ho0))))
 go_loopg [6, 7] k (fun kq v6 v7 w' => ∃ (x6_1 : Int) (x7_1 : Int), v6 = .int .i64 x6_1 ∧ v7 = .int .i64 x7_1 ∧ Aside0 (arboristref09_Missing.l0 kq l0 t798 x6_1 x7_1 = some r) ∧ Aside0 (kq ≤ k) ∧ Aside0 (Kd.R (Kd.int .i64) 3 w' w.heap.size (fun _ => True) v799 t798) ∧ Aside0 (Below w.heap.size w w'))
 case atStart => exact ⟨(0), (0), (by first | rfl | (simp; done) | (simp [*]; done)), (by first | rfl | (simp; done) | (simp [*]; done)), H', ⟨Nat.le_refl _⟩, ⟨by (with_reducible repeat (first | apply Kd.R_alloc | apply Kd.R_drewN | apply Kd.R_drew)); exact HO800.out⟩, ⟨by repeat (first | (with_reducible first | exact HB.out | apply below_alloc | apply pw_below_drewN | apply below_drew1) | exact HB.out)⟩⟩
 case round =>
  clear H';try clear p2
  try clear c4
  obtain ⟨x6_1, x7_1, rfl, rfl, HA, HK1, HO_5, HB⟩ := hrel;cases gk with
  | zero => exact absurd HA.out (by simp [arboristref09_Missing.l0])
  | succ k1 =>
   have H := HA.out;clear HA;simp only [arboristref09_Missing.l0] at H
   by_cases c5 : x7_1 < (t798.length : Int)
   ·rw [if_pos c5] at H
    have c5b0 : decide (x7_1 < (t798.length : Int)) = true := decide_eq_true c5;clear c5;have H' := Aside0.mk H;clear H;obtain ⟨Ao6, co6, eo6⟩ := Kd.R_slice HO_5.out;subst eo6;go_wp2
    repeat (go_quiet (fail); try go_wp2)
    go_loopg [6, 8] k1 (fun kq v6 v8 w' => ∃ (x6_2 : Int) (x8_2 : Int), v6 = .int .i64 x6_2 ∧ v8 = .int .i64 x8_2 ∧ Aside0 (arboristref09_Missing.l1 kq l0 t798 x6_2 x7_1 x8_2 = some r) ∧ Aside0 (kq ≤ k1) ∧ Aside0 (Kd.R (Kd.int .i64) 3 w' w.heap.size (fun _ => True) (.slice Ao6 t798.length co6) t798) ∧ Aside0 (Below w.heap.size w w'))
    case atStart => exact ⟨(x6_1), (0), (by first | rfl | (simp; done) | (simp [*]; done)), (by first | rfl | (simp; done) | (simp [*]; done)), H', ⟨Nat.le_refl _⟩, ⟨by (with_reducible repeat (first | apply Kd.R_alloc | apply Kd.R_drewN | apply Kd.R_drew)); exact HO_5.out⟩, ⟨by repeat (first | (with_reducible first | exact HB.out | apply below_alloc | apply pw_below_drewN | apply below_drew1) | exact HB.out)⟩⟩
    case round =>
     clear H';try clear p2
     try clear c4
     try clear c5
     try clear c5b0
     try clear p2
     obtain ⟨x6_2, x8_2, rfl, rfl, HA, HK2, HO_5, HB⟩ := hrel;cases gk with
     | zero => exact absurd HA.out (by simp [arboristref09_Missing.l1])
     | succ k2 =>
      have H := HA.out;clear HA;simp only [arboristref09_Missing.l1] at H
      by_cases c7 : x8_2 < x7_1
      ·rw [if_pos c7] at H
       have c7b0 : decide (x8_2 < x7_1) = true := decide_eq_true c7;clear c7;by_cases c8 : 0 ≤ x7_1
       ·rw [if_pos c8] at H
        have c8b0 : decide (0 ≤ x7_1) = true := decide_eq_true c8;clear c8;by_cases c9 : x7_1 < (t798.length : Int)
        ·rw [if_pos c9] at H
         have c9b0 : decide (x7_1 < (t798.length : Int)) = true := decide_eq_true c9;clear c9;by_cases c10 : 0 ≤ (rd t798 x7_1)
         ·rw [if_pos c10] at H
          have c10b0 : decide (0 ≤ (rd t798 x7_1)) = true := decide_eq_true c10;clear c10;by_cases c11 : (rd t798 x7_1) < (l0.length : Int)
          ·rw [if_pos c11] at H
           have c11b0 : decide ((rd t798 x7_1) < (l0.length : Int)) = true := decide_eq_true c11;clear c11;by_cases c12 : 0 ≤ x8_2
           ·rw [if_pos c12] at H
            have c12b0 : decide (0 ≤ x8_2) = true := decide_eq_true c12;clear c12;by_cases c13 : x8_2 < (t798.length : Int)
            ·rw [if_pos c13] at H
             have c13b0 : decide (x8_2 < (t798.length : Int)) = true := decide_eq_true c13;clear c13;by_cases c14 : 0 ≤ (rd t798 x8_2)
             ·rw [if_pos c14] at H
              have c14b0 : decide (0 ≤ (rd t798 x8_2)) = true := decide_eq_true c14;clear c14;by_cases c15 : (rd t798 x8_2) < ((rd_L8 l0 (rd t798 x7_1)).length : Int)
              ·rw [if_pos c15] at H
               have c15b0 : decide ((rd t798 x8_2) < ((rd_L8 l0 (rd t798 x7_1)).length : Int)) = true := decide_eq_true c15;clear c15;obtain ⟨bq16, hbq16⟩ : ∃ b_ : Bool, b_ = (rdOf false (rd_L8 l0 (rd t798 x7_1)) (rd t798 x8_2)) := ⟨_, rfl⟩;replace H : (if (bq16 = true) then (arboristref09_Missing.l1 k2 l0 t798 x6_2 x7_1 (wrap64 (x8_2 + 1))) else (arboristref09_Missing.l1 k2 l0 t798 (wrap64 (x6_2 + 1)) x7_1 (wrap64 (x8_2 + 1)))) = some r := by rw [← hbq16] at H; exact H
               have Nbq16 := Aside0.mk hbq16;clear hbq16;by_cases c17 : (bq16 = true)
               ·subst c17;replace H : (arboristref09_Missing.l1 k2 l0 t798 x6_2 x7_1 (wrap64 (x8_2 + 1))) = some r := by rw [if_pos rfl] at H; exact H
                have H' := Aside0.mk H;clear H;have p801 : 0 ≤ (x7_1 : Int) := of_decide_eq_true qA;have q801 : x7_1 < (t798.length : Int) := of_decide_eq_true qA;obtain ⟨ad801, e801, hx801_0⟩ := Kd.at_int (Kd.R_reads' HO_5.out).2.2 x7_1 p801 q801;cases e801
                replace p801 := eq_true p801;replace q801 := eq_true q801;have p802 : 0 ≤ ((rd t798 x7_1) : Int) := of_decide_eq_true qA;have q802 : (rd t798 x7_1) < (l0.length : Int) := of_decide_eq_true qA;obtain ⟨ad802, A802_0, c802_0, e802, hx802_0, hl802_0, hi802_0⟩ := at_L8 HR0.out (rd t798 x7_1) p802 q802;cases e802
                replace hx802_0 := (HB.out.cell (World.block_lt_of_cell? w _ hx802_0)).trans hx802_0;have HR802_0 := Aside0.mk hi802_0;have HC802_0 := Aside0.mk hl802_0;clear hi802_0 hl802_0;replace p802 := eq_true p802;replace q802 := eq_true q802;have p803 : 0 ≤ (x8_2 : Int) := of_decide_eq_true qA;have q803 : x8_2 < (t798.length : Int) := of_decide_eq_true qA;obtain ⟨ad803, e803, hx803_0⟩ := Kd.at_int (Kd.R_reads' HO_5.out).2.2 x8_2 p803 q803;obtain rfl : ad801 = ad803 := (by injection e803);replace p803 := eq_true p803;replace q803 := eq_true q803;have p804 : 0 ≤ ((rd t798 x8_2) : Int) := of_decide_eq_true qA;have q804 : (rd t798 x8_2) < ((rd_L8 l0 (rd t798 x7_1)).length : Int) := of_decide_eq_true qA;obtain ⟨ad804, e804, hx804_0⟩ := Kd.at_bool HR802_0.out (rd t798 x8_2) p804 q804;(try rw [← Nbq16.out] at hx804_0);cases e804
                replace hx804_0 := (HB.out.cell (World.block_lt_of_cell? w _ hx804_0)).trans hx804_0;replace p804 := eq_true p804;replace q804 := eq_true q804;go_wp2
                repeat (go_quiet (fail); try go_wp2)
                go_roundg k2
                case measure => have := HK1.out; have := HK2.out; omega
                case rel => exact ⟨(x6_2), (wrap64 (x8_2 + 1)), (by first | rfl | (simp; done) | (simp [*]; done)), (by first | rfl | (simp; done) | (simp [*]; done)), H', ⟨by have := HK1.out; have := HK2.out; omega⟩, ⟨by (with_reducible repeat (first | apply Kd.R_alloc | apply Kd.R_drewN | apply Kd.R_drew)); exact HO_5.out⟩, ⟨by repeat (first | (with_reducible first | exact HB.out | apply below_alloc | apply pw_below_drewN | apply below_drew1) | exact HB.out)⟩⟩
               ·replace c17 := Bool.eq_false_iff.mpr c17;subst c17;replace H : (arboristref09_Missing.l1 k2 l0 t798 (wrap64 (x6_2 + 1)) x7_1 (wrap64 (x8_2 + 1))) = some r := by rw [if_neg (show ¬ (false = true) by decide)] at H; exact H
                have H' := Aside0.mk H;clear H;have p801 : 0 ≤ (x7_1 : Int) := of_decide_eq_true qA;have q801 : x7_1 < (t798.length : Int) := of_decide_eq_true qA;obtain ⟨ad801, e801, hx801_0⟩ := Kd.at_int (Kd.R_reads' HO_5.out).2.2 x7_1 p801 q801;cases e801
                replace p801 := eq_true p801;replace q801 := eq_true q801;have p802 : 0 ≤ ((rd t798 x7_1) : Int) := of_decide_eq_true qA;have q802 : (rd t798 x7_1) < (l0.length : Int) := of_decide_eq_true qA;obtain ⟨ad802, A802_0, c802_0, e802, hx802_0, hl802_0, hi802_0⟩ := at_L8 HR0.out (rd t798 x7_1) p802 q802;cases e802
                replace hx802_0 := (HB.out.cell (World.block_lt_of_cell? w _ hx802_0)).trans hx802_0;have HR802_0 := Aside0.mk hi802_0;have HC802_0 := Aside0.mk hl802_0;clear hi802_0 hl802_0;replace p802 := eq_true p802;replace q802 := eq_true q802;have p803 : 0 ≤ (x8_2 : Int) := of_decide_eq_true qA;have q803 : x8_2 < (t798.length : Int) := of_decide_eq_true qA;obtain ⟨ad803, e803, hx803_0⟩ := Kd.at_int (Kd.R_reads' HO_5.out).2.2 x8_2 p803 q803;obtain rfl : ad801 = ad803 := (by injection e803);replace p803 := eq_true p803;replace q803 := eq_true q803;have p804 : 0 ≤ ((rd t798 x8_2) : Int) := of_decide_eq_true qA;have q804 : (rd t798 x8_2) < ((rd_L8 l0 (rd t798 x7_1)).length : Int) := of_decide_eq_true qA;obtain ⟨ad804, e804, hx804_0⟩ := Kd.at_bool HR802_0.out (rd t798 x8_2) p804 q804;(try rw [← Nbq16.out] at hx804_0);cases e804
                replace hx804_0 := (HB.out.cell (World.block_lt_of_cell? w _ hx804_0)).trans hx804_0;replace p804 := eq_true p804;replace q804 := eq_true q804;go_wp2
                repeat (go_quiet (fail); try go_wp2)
                go_roundg k2
                case measure => have := HK1.out; have := HK2.out; omega
                case rel => exact ⟨(wrap64 (x6_2 + 1)), (wrap64 (x8_2 + 1)), (by first | rfl | (simp; done) | (simp [*]; done)), (by first | rfl | (simp; done) | (simp [*]; done)), H', ⟨by have := HK1.out; have := HK2.out; omega⟩, ⟨by (with_reducible repeat (first | apply Kd.R_alloc | apply Kd.R_drewN | apply Kd.R_drew)); exact HO_5.out⟩, ⟨by repeat (first | (with_reducible first | exact HB.out | apply below_alloc | apply pw_below_drewN | apply below_drew1) | exact HB.out)⟩⟩
              ·rw [if_neg c15] at H
               exact absurd H (by simp)
             ·rw [if_neg c14] at H
              exact absurd H (by simp)
            ·rw [if_neg c13] at H
             exact absurd H (by simp)
           ·rw [if_neg c12] at H
            exact absurd H (by simp)
          ·rw [if_neg c11] at H
           exact absurd H (by simp)
         ·rw [if_neg c10] at H
          exact absurd H (by simp)
        ·rw [if_neg c9] at H
         exact absurd H (by simp)
       ·rw [if_neg c8] at H
        exact absurd H (by simp)
      ·rw [if_neg c7] at H
       have c7b0 : decide (x8_2 < x7_1) = false := decide_eq_false c7;clear c7;have H' := Aside0.mk H;clear H;go_wp2
       repeat (go_quiet (fail); try go_wp2)
       go_roundg k2
       case measure => have := HK1.out; have := HK2.out; omega
       case rel => exact ⟨(x6_2), (wrap64 (x7_1 + 1)), (by first | rfl | (simp; done) | (simp [*]; done)), (by first | rfl | (simp; done) | (simp [*]; done)), H', ⟨by have := HK1.out; have := HK2.out; omega⟩, ⟨by (with_reducible repeat (first | apply Kd.R_alloc | apply Kd.R_drewN | apply Kd.R_drew)); exact HO_5.out⟩, ⟨by repeat (first | (with_reducible first | exact HB.out | apply below_alloc | apply pw_below_drewN | apply below_drew1) | exact HB.out)⟩⟩
   ·rw [if_neg c5] at H
    have c5b0 : decide (x7_1 < (t798.length : Int)) = false := decide_eq_false c5;clear c5;obtain rfl := Option.some.inj H;obtain ⟨Ao18, co18, eo18⟩ := Kd.R_slice HO_5.out;subst eo18;go_wp2
    repeat (go_quiet (fail); try go_wp2)
    go_ret
    exact ⟨by first | rfl | (simp [errW_none, errW_some] <;> rfl) | (simp [*, errW_none, errW_some] <;> rfl), by repeat (first | (with_reducible first | exact HB.out | apply below_alloc | apply pw_below_drewN | apply below_drew1) | exact HB.out)⟩
end Go.Proofs.YtbdlelojlnhhfaaDoor.Pr
