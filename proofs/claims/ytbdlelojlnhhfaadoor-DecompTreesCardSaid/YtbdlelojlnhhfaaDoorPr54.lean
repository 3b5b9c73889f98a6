-- Printed by a program of this session's own (wip/tools/pp.py) over the kit's print.py; Lean checks it.
import Derived.Test.YtbdlelojlnhhfaaDoorPr0
namespace Go.Proofs.YtbdlelojlnhhfaaDoor.Pr
open Go.RowKit Go.Proofs.YtbdlelojlnhhfaaDoorW.PrintWords Go.Proofs.YtbdlelojlnhhfaaDoorW.PrintLast Go.Proofs.YtbdlelojlnhhfaaDoorW.PrintMore
attribute [local go_sem] max2_int min2_int max_two min_two max_three min_three max_four min_four
set_option linter.unusedVariables false
set_option linter.unusedSimpArgs false
/-! ### arboristref09_card: function 39 -/
mutual
def arboristref09_card.l0 : Nat → List (List Bool) → List Bool → List Int → Option (List Int)
 | 0, _, _, _ => none
 | k + 1, x0, x3, x4 => if (x4.length : Int) < (x0.length : Int) then (arboristref09_card.l1 k x0 x3 x4 (-1) 0 0) else (some x4)
def arboristref09_card.l1 : Nat → List (List Bool) → List Bool → List Int → Int → Int → Int → Option (List Int)
 | 0, _, _, _, _, _, _ => none
 | k + 1, x0, x3, x4, x5, x6, x7 => if x7 < (x0.length : Int) then (arboristref09_card.l2 k x0 x3 x4 x5 x6 x7 0 0) else (if 0 ≤ x5 then (if x5 < (x3.length : Int) then ((some (([x5] : List Int) : List Int)).bind fun y788 => (if y788.length + x4.length < 17592186044416 then (arboristref09_card.l0 k x0 (x3.set (x5 : Int).toNat true) (y788 ++ x4)) else (none))) else (none)) else (none))
def arboristref09_card.l2 : Nat → List (List Bool) → List Bool → List Int → Int → Int → Int → Int → Int → Option (List Int)
 | 0, _, _, _, _, _, _, _, _ => none
 | k + 1, x0, x3, x4, x5, x6, x7, x8, x9 => if x9 < (x0.length : Int) then (if 0 ≤ x7 then (if x7 < (x0.length : Int) then (if 0 ≤ x9 then (if x9 < ((rd_L8 x0 x7).length : Int) then (if rdOf false (rd_L8 x0 x7) x9 = true then (if x9 < (x3.length : Int) then (if rdOf false x3 x9 = true then (arboristref09_card.l2 k x0 x3 x4 x5 x6 x7 (wrap64 (x8 + 1)) (wrap64 (x9 + 1))) else (arboristref09_card.l2 k x0 x3 x4 x5 x6 x7 x8 (wrap64 (x9 + 1)))) else (none)) else (arboristref09_card.l2 k x0 x3 x4 x5 x6 x7 x8 (wrap64 (x9 + 1)))) else (none)) else (none)) else (none)) else (none)) else (if 0 ≤ x7 then (if x7 < (x3.length : Int) then (if rdOf false x3 x7 = true then (arboristref09_card.l1 k x0 x3 x4 x5 x6 (wrap64 (x7 + 1))) else (if x5 < 0 then (arboristref09_card.l1 k x0 x3 x4 x7 x8 (wrap64 (x7 + 1))) else (if x8 > x6 then (arboristref09_card.l1 k x0 x3 x4 x7 x8 (wrap64 (x7 + 1))) else (arboristref09_card.l1 k x0 x3 x4 x5 x6 (wrap64 (x7 + 1)))))) else (none)) else (none))
end
def arboristref09_card.f (k : Nat) (l0 : List (List Bool)) : Option (List Int) := if 0 ≤ (l0.length : Int) then (if ((l0.length : Int) : Int).toNat ≤ 281474976710656 then (arboristref09_card.l0 k l0 (List.replicate ((l0.length : Int) : Int).toNat false) (([] : List Int))) else (none)) else (none)
theorem arboristref09_card.mono_l : ∀ k, (∀ y0 y1 y2, LeO (arboristref09_card.l0 k y0 y1 y2) (arboristref09_card.l0 (k + 1) y0 y1 y2)) ∧ (∀ y0 y1 y2 y3 y4 y5, LeO (arboristref09_card.l1 k y0 y1 y2 y3 y4 y5) (arboristref09_card.l1 (k + 1) y0 y1 y2 y3 y4 y5)) ∧ (∀ y0 y1 y2 y3 y4 y5 y6 y7, LeO (arboristref09_card.l2 k y0 y1 y2 y3 y4 y5 y6 y7) (arboristref09_card.l2 (k + 1) y0 y1 y2 y3 y4 y5 y6 y7))
 | 0 => ⟨fun _ _ _ r h => by simp [arboristref09_card.l0] at h, fun _ _ _ _ _ _ r h => by simp [arboristref09_card.l1] at h, fun _ _ _ _ _ _ _ _ r h => by simp [arboristref09_card.l2] at h⟩
 | k + 1 => by
  obtain ⟨ih0, ih1, ih2⟩ := arboristref09_card.mono_l k;refine ⟨?_, ?_, ?_⟩;all_goals intros
  all_goals (first | unfold arboristref09_card.l0 | unfold arboristref09_card.l1 | unfold arboristref09_card.l2)
  all_goals repeat' first
  | (with_reducible first | exact ih0 _ _ _ | exact ih1 _ _ _ _ _ _ | exact ih2 _ _ _ _ _ _ _ _ | exact LeO.refl _ | exact LeO.none _ | refine LeO.ite ?_ ?_ | refine LeO.bind ?_ (fun _ => ?_))
  | exact ih0 _ _ _
  | exact ih1 _ _ _ _ _ _
  | exact ih2 _ _ _ _ _ _ _ _
  | exact LeO.none _
  | refine LeO.ite ?_ ?_
  | refine LeO.bind ?_ (fun _ => ?_)
theorem arboristref09_card.mono : ∀ a0 k, LeO (arboristref09_card.f k a0) (arboristref09_card.f (k + 1) a0) := by
 intro a0 k
 obtain ⟨ih0, ih1, ih2⟩ := arboristref09_card.mono_l k;unfold arboristref09_card.f
 repeat' first
   | (with_reducible first | exact ih0 _ _ _ | exact ih1 _ _ _ _ _ _ | exact ih2 _ _ _ _ _ _ _ _ | exact LeO.refl _ | exact LeO.none _ | refine LeO.ite ?_ ?_ | refine LeO.bind ?_ (fun _ => ?_))
   | exact ih0 _ _ _
   | exact ih1 _ _ _ _ _ _
   | exact ih2 _ _ _ _ _ _ _ _
   | exact LeO.none _
   | refine LeO.ite ?_ ?_
   | refine LeO.bind ?_ (fun _ => ?_)
set_option maxHeartbeats 8000000 in
set_option maxRecDepth 100000 in
theorem arboristref09_card.calls (k : Nat) (A0 : Option Addr) (c0 : Nat) (l0 : List (List Bool)) (r : List Int) (w : World) (hr0 : Kd.C (Kd.slice 4 Kd.bool) w A0 l0.length l0) (hc0 : l0.length ≤ c0) (h : arboristref09_card.f k l0 = some r) :
  Calls Tryd.prog 39 #[.slice A0 l0.length c0] w fun e w' => ∃ v0_ : Value, e = .returned (v0_) ∧ Kd.R (Kd.int .i64) 3 w' w.heap.size (fun _ => True) v0_ r ∧ Below w.heap.size w w' := by
 have HR0 := Aside0.mk hr0;have HC0 := Aside0.mk hc0;clear hr0 hc0;have HB := Aside0.mk (Below.refl w.heap.size w);have H : (if 0 ≤ (l0.length : Int) then (if ((l0.length : Int) : Int).toNat ≤ 281474976710656 then (arboristref09_card.l0 k l0 (List.replicate ((l0.length : Int) : Int).toNat false) (([] : List Int))) else (none)) else (none)) = some r := h;clear h;by_cases c2 : 0 ≤ (l0.length : Int)
 ·rw [if_pos c2] at H
  have c2b0 := eq_true c2;have c2b1 : decide (0 ≤ (l0.length : Int)) = true := decide_eq_true c2;clear c2;by_cases c3 : ((l0.length : Int) : Int).toNat ≤ 281474976710656
  ·rw [if_pos c3] at H
   have c3b0 := eq_true c3;have c3b1 : decide (((l0.length : Int) : Int).toNat ≤ 281474976710656) = true := decide_eq_true c3;clear c3;obtain ⟨y781, hy781⟩ : ∃ y_ : List Bool, y_ = (List.replicate ((l0.length : Int) : Int).toNat false) := ⟨_, rfl⟩;replace H : (arboristref09_card.l0 k l0 y781 (([] : List Int))) = some r := by first | (rw [hy781]; with_reducible exact H) | (have H2_ := (Option.bind_some _ _).symm.trans H; rw [hy781]; with_reducible exact H2_) | (have H2_ := (Option.bind_some _ _).symm.trans H; with_reducible exact H2_) | with_reducible exact H | (rw [hy781]; exact H) | exact H
   have Ny781 := Aside0.mk hy781;clear hy781;obtain ⟨y784, hy784⟩ : ∃ y_ : List Int, y_ = (([] : List Int)) := ⟨_, rfl⟩;replace H : (arboristref09_card.l0 k l0 y781 y784) = some r := by first | (rw [hy784]; with_reducible exact H) | (have H2_ := (Option.bind_some _ _).symm.trans H; rw [hy784]; with_reducible exact H2_) | (have H2_ := (Option.bind_some _ _).symm.trans H; with_reducible exact H2_) | with_reducible exact H | (rw [hy784]; exact H) | exact H
   have Ny784 := Aside0.mk hy784;clear hy784;have H' := Aside0.mk H;clear H;go_enter Tryd.func39, Tryd.ntmps39
   go_wp2_with (first | ((with_reducible refine gate_dst (N := 12) rfl ?_); refine Kd.R_make Kd.bool _ 4 rfl (N := 12) rfl 40 _ _ rfl (l0.length : Int) rfl rfl Tryd.underlying40 (.bool false) 1 info4 rfl (by decide) (by omega) false (ok := fun _ => True) (okp := fun _ => True) rfl (fun _ hk => hk) trivial (of_decide_eq_true qA) (Nat.le_trans (Nat.mul_le_mul_right _ (of_decide_eq_true qA : (l0.length : Int).toNat ≤ 281474976710656)) (by omega)) (Below.refl _ _) (Nat.le_refl _) ?_; intro v782 w4 ho5 hb hg_ hnew_; clear hg_ hnew_; (first | rw [← Ny781.out] at ho5 | (simp only [Int.reduceToNat] at ho5; rw [← Ny781.out] at ho5)); have n0_ := Aside0.mk (Kd.R_lower ho5 (below_size (qB HB.out))); have n1_ := Aside0.mk (below_step (qB HB.out) hb); clear HB; have HO783 := n0_; have HB := n1_; clear n0_ n1_; clear hb ho5) | ((with_reducible refine gate_dst (N := 13) rfl ?_); refine Kd.R_lit (Kd.int .i64) _ 3 ?hg (N := 13) ?hd (xs := ([] : List Int)) (inner := []) (ok := fun _ => True) (okp := fun _ => True) ?hr ?hp (fun _ hk => hk) trivial (Below.refl _ _) (Nat.le_refl _) (by simp) ?_; (case hd => rfl); (case hg => rfl); (case hr => first | (go_simp; done) | (go_simp; rfl)); (case hp => exact (Reps.none _ _)); intro v785 w6 ho7 hb hg_ hnew_; clear hg_ hnew_; (first | rw [← Ny784.out] at ho7 | (simp only [Int.reduceToNat] at ho7; rw [← Ny784.out] at ho7)); have n0_ := Aside0.mk (Kd.R_below (qR HO783.out) hb); have n1_ := Aside0.mk (Kd.R_lower ho7 (below_size (qB HB.out))); have n2_ := Aside0.mk (below_step (qB HB.out) hb); clear HO783; clear HB; have HO783 := n0_; have HO786 := n1_; have HB := n2_; clear n0_ n1_ n2_; clear hb ho7))
   go_loopg [4] k (fun kq v4 w' => ∃ (x3_1 : List Bool) (x4_1 : List Int), Aside0 (arboristref09_card.l0 kq l0 x3_1 x4_1 = some r) ∧ Aside0 (kq ≤ k) ∧ Aside0 (Kd.R Kd.bool 4 w' w.heap.size (fun _ => True) v782 x3_1) ∧ Aside0 (Kd.R (Kd.int .i64) 3 w' w.heap.size (fun _ => True) v4 x4_1) ∧ Aside0 (Below w.heap.size w w'))
   case atStart => exact ⟨(y781), (y784), H', ⟨Nat.le_refl _⟩, ⟨by (with_reducible repeat (first | apply Kd.R_alloc | apply Kd.R_drewN | apply Kd.R_drew)); exact HO783.out⟩, ⟨by (with_reducible repeat (first | apply Kd.R_alloc | apply Kd.R_drewN | apply Kd.R_drew)); exact HO786.out⟩, ⟨by repeat (first | (with_reducible first | exact HB.out | apply below_alloc | apply pw_below_drewN | apply below_drew1) | exact HB.out)⟩⟩
   case round =>
    clear H';try clear c2
    try clear c2b0
    try clear c2b1
    try clear p2
    try clear c3
    try clear c3b0
    try clear c3b1
    obtain ⟨x3_1, x4_1, HA, HK1, HO_3, HO_4, HB⟩ := hrel;cases gk with
    | zero => exact absurd HA.out (by simp [arboristref09_card.l0])
    | succ k1 =>
     have H := HA.out;clear HA;simp only [arboristref09_card.l0] at H
     by_cases c8 : (x4_1.length : Int) < (l0.length : Int)
     ·rw [if_pos c8] at H
      have c8b0 : decide ((x4_1.length : Int) < (l0.length : Int)) = true := decide_eq_true c8;have c8b1 : decide (x4_1.length < l0.length) = true := decide_eq_true (Int.ofNat_lt.mp c8);clear c8;have H' := Aside0.mk H;clear H;obtain ⟨Ao9, co9, eo9⟩ := Kd.R_slice HO_4.out;subst eo9;go_wp2
      go_loopg [5, 6, 7] k1 (fun kq v5 v6 v7 w' => ∃ (x5_2 : Int) (x6_2 : Int) (x7_2 : Int), v5 = .int .i64 x5_2 ∧ v6 = .int .i64 x6_2 ∧ v7 = .int .i64 x7_2 ∧ Aside0 (arboristref09_card.l1 kq l0 x3_1 x4_1 x5_2 x6_2 x7_2 = some r) ∧ Aside0 (kq ≤ k1) ∧ Aside0 (Kd.R Kd.bool 4 w' w.heap.size (fun _ => True) v782 x3_1) ∧ Aside0 (Kd.R (Kd.int .i64) 3 w' w.heap.size (fun _ => True) (.slice Ao9 x4_1.length co9) x4_1) ∧ Aside0 (Below w.heap.size w w'))
      case atStart => exact ⟨((-1)), (0), (0), (by first | rfl | (simp; done) | (simp [*]; done)), (by first | rfl | (simp; done) | (simp [*]; done)), (by first | rfl | (simp; done) | (simp [*]; done)), H', ⟨Nat.le_refl _⟩, ⟨by (with_reducible repeat (first | apply Kd.R_alloc | apply Kd.R_drewN | apply Kd.R_drew)); exact HO_3.out⟩, ⟨by (with_reducible repeat (first | apply Kd.R_alloc | apply Kd.R_drewN | apply Kd.R_drew)); exact HO_4.out⟩, ⟨by repeat (first | (with_reducible first | exact HB.out | apply below_alloc | apply pw_below_drewN | apply below_drew1) | exact HB.out)⟩⟩
      case round =>
       clear H';try clear c2
       try clear c2b0
       try clear c2b1
       try clear p2
       try clear c3
       try clear c3b0
       try clear c3b1
       try clear c8
       try clear c8b0
       try clear c8b1
       try clear p2
       obtain ⟨x5_2, x6_2, x7_2, rfl, rfl, rfl, HA, HK2, HO_3, HO_4, HB⟩ := hrel;cases gk with
       | zero => exact absurd HA.out (by simp [arboristref09_card.l1])
       | succ k2 =>
        have H := HA.out;clear HA;simp only [arboristref09_card.l1] at H
        by_cases c10 : x7_2 < (l0.length : Int)
        ·rw [if_pos c10] at H
         have c10b0 : decide (x7_2 < (l0.length : Int)) = true := decide_eq_true c10;clear c10;have H' := Aside0.mk H;clear H;go_wp2
         go_loopg [8, 9] k2 (fun kq v8 v9 w' => ∃ (x8_3 : Int) (x9_3 : Int), v8 = .int .i64 x8_3 ∧ v9 = .int .i64 x9_3 ∧ Aside0 (arboristref09_card.l2 kq l0 x3_1 x4_1 x5_2 x6_2 x7_2 x8_3 x9_3 = some r) ∧ Aside0 (kq ≤ k2) ∧ Aside0 (Kd.R Kd.bool 4 w' w.heap.size (fun _ => True) v782 x3_1) ∧ Aside0 (Kd.R (Kd.int .i64) 3 w' w.heap.size (fun _ => True) (.slice Ao9 x4_1.length co9) x4_1) ∧ Aside0 (Below w.heap.size w w'))
         case atStart => exact ⟨(0), (0), (by first | rfl | (simp; done) | (simp [*]; done)), (by first | rfl | (simp; done) | (simp [*]; done)), H', ⟨Nat.le_refl _⟩, ⟨by (with_reducible repeat (first | apply Kd.R_alloc | apply Kd.R_drewN | apply Kd.R_drew)); exact HO_3.out⟩, ⟨by (with_reducible repeat (first | apply Kd.R_alloc | apply Kd.R_drewN | apply Kd.R_drew)); exact HO_4.out⟩, ⟨by repeat (first | (with_reducible first | exact HB.out | apply below_alloc | apply pw_below_drewN | apply below_drew1) | exact HB.out)⟩⟩
         case round =>
          clear H';try clear c1
          try clear c2
          try clear c2b0
          try clear c2b1
          try clear p2
          try clear c3
          try clear c3b0
          try clear c3b1
          try clear c8
          try clear c8b0
          try clear c8b1
          try clear c10
          try clear c10b0
          try clear p2
          obtain ⟨x8_3, x9_3, rfl, rfl, HA, HK3, HO_3, HO_4, HB⟩ := hrel;cases gk with
          | zero => exact absurd HA.out (by simp [arboristref09_card.l2])
          | succ k3 =>
           have H := HA.out;clear HA;simp only [arboristref09_card.l2] at H
           by_cases c11 : x9_3 < (l0.length : Int)
           ·rw [if_pos c11] at H
            have c11b0 : decide (x9_3 < (l0.length : Int)) = true := decide_eq_true c11;clear c11;by_cases c12 : 0 ≤ x7_2
            ·rw [if_pos c12] at H
             have c12b0 : decide (0 ≤ x7_2) = true := decide_eq_true c12;clear c12;by_cases c13 : x7_2 < (l0.length : Int)
             ·rw [if_pos c13] at H
              have c13b0 : decide (x7_2 < (l0.length : Int)) = true := decide_eq_true c13;clear c13;by_cases c14 : 0 ≤ x9_3
              ·rw [if_pos c14] at H
               have c14b0 : decide (0 ≤ x9_3) = true := decide_eq_true c14;clear c14;by_cases c15 : x9_3 < ((rd_L8 l0 x7_2).length : Int)
               ·rw [if_pos c15] at H
                have c15b0 : decide (x9_3 < ((rd_L8 l0 x7_2).length : Int)) = true := decide_eq_true c15;clear c15;obtain ⟨bq16, hbq16⟩ : ∃ b_ : Bool, b_ = (rdOf false (rd_L8 l0 x7_2) x9_3) := ⟨_, rfl⟩;replace H : (if bq16 = true then (if x9_3 < (x3_1.length : Int) then (if rdOf false x3_1 x9_3 = true then (arboristref09_card.l2 k3 l0 x3_1 x4_1 x5_2 x6_2 x7_2 (wrap64 (x8_3 + 1)) (wrap64 (x9_3 + 1))) else (arboristref09_card.l2 k3 l0 x3_1 x4_1 x5_2 x6_2 x7_2 x8_3 (wrap64 (x9_3 + 1)))) else (none)) else (arboristref09_card.l2 k3 l0 x3_1 x4_1 x5_2 x6_2 x7_2 x8_3 (wrap64 (x9_3 + 1)))) = some r := by rw [← hbq16] at H; exact H
                have Nbq16 := Aside0.mk hbq16;clear hbq16;by_cases c17 : bq16 = true
                ·subst c17;replace H : (if x9_3 < (x3_1.length : Int) then (if rdOf false x3_1 x9_3 = true then (arboristref09_card.l2 k3 l0 x3_1 x4_1 x5_2 x6_2 x7_2 (wrap64 (x8_3 + 1)) (wrap64 (x9_3 + 1))) else (arboristref09_card.l2 k3 l0 x3_1 x4_1 x5_2 x6_2 x7_2 x8_3 (wrap64 (x9_3 + 1)))) else (none)) = some r := by rw [if_pos rfl] at H; exact H
                 by_cases c18 : x9_3 < (x3_1.length : Int)
                 ·rw [if_pos c18] at H
                  have c18b0 : decide (x9_3 < (x3_1.length : Int)) = true := decide_eq_true c18;clear c18;obtain ⟨bq19, hbq19⟩ : ∃ b_ : Bool, b_ = (rdOf false x3_1 x9_3) := ⟨_, rfl⟩;replace H : (if bq19 = true then (arboristref09_card.l2 k3 l0 x3_1 x4_1 x5_2 x6_2 x7_2 (wrap64 (x8_3 + 1)) (wrap64 (x9_3 + 1))) else (arboristref09_card.l2 k3 l0 x3_1 x4_1 x5_2 x6_2 x7_2 x8_3 (wrap64 (x9_3 + 1)))) = some r := by rw [← hbq19] at H; exact H
                  have Nbq19 := Aside0.mk hbq19;clear hbq19;by_cases c20 : bq19 = true
                  ·subst c20;replace H : (arboristref09_card.l2 k3 l0 x3_1 x4_1 x5_2 x6_2 x7_2 (wrap64 (x8_3 + 1)) (wrap64 (x9_3 + 1))) = some r := by rw [if_pos rfl] at H; exact H
                   have H' := Aside0.mk H;clear H;have p794 : 0 ≤ (x7_2 : Int) := of_decide_eq_true qA;have q794 : x7_2 < (l0.length : Int) := of_decide_eq_true qA;obtain ⟨ad794, A794_0, c794_0, e794, hx794_0, hl794_0, hi794_0⟩ := at_L8 HR0.out x7_2 p794 q794;cases e794
                   replace hx794_0 := (HB.out.cell (World.block_lt_of_cell? w _ hx794_0)).trans hx794_0;have HR794_0 := Aside0.mk hi794_0;have HC794_0 := Aside0.mk hl794_0;clear hi794_0 hl794_0;replace p794 := eq_true p794;replace q794 := eq_true q794;have p795 : 0 ≤ (x9_3 : Int) := of_decide_eq_true qA;have q795 : x9_3 < ((rd_L8 l0 x7_2).length : Int) := of_decide_eq_true qA;obtain ⟨ad795, e795, hx795_0⟩ := Kd.at_bool HR794_0.out x9_3 p795 q795;(try rw [← Nbq16.out] at hx795_0);(try rw [← Nbq19.out] at hx795_0);cases e795
                   replace hx795_0 := (HB.out.cell (World.block_lt_of_cell? w _ hx795_0)).trans hx795_0;replace p795 := eq_true p795;replace q795 := eq_true q795;obtain ⟨Ao21, co21, eo21⟩ := Kd.R_slice HO_3.out;subst eo21;have p796 : 0 ≤ (x9_3 : Int) := of_decide_eq_true qA;have q796 : x9_3 < (x3_1.length : Int) := of_decide_eq_true qA;obtain ⟨ad796, e796, hx796_0⟩ := Kd.at_bool (Kd.R_reads' HO_3.out).2.2 x9_3 p796 q796;(try rw [← Nbq16.out] at hx796_0);(try rw [← Nbq19.out] at hx796_0);cases e796
                   replace p796 := eq_true p796;replace q796 := eq_true q796;go_wp2
                   go_roundg k3
                   case measure => have := HK1.out; have := HK2.out; have := HK3.out; omega
                   case rel => exact ⟨(wrap64 (x8_3 + 1)), (wrap64 (x9_3 + 1)), (by first | rfl | (simp; done) | (simp [*]; done)), (by first | rfl | (simp; done) | (simp [*]; done)), H', ⟨by have := HK1.out; have := HK2.out; have := HK3.out; omega⟩, ⟨by (with_reducible repeat (first | apply Kd.R_alloc | apply Kd.R_drewN | apply Kd.R_drew)); exact HO_3.out⟩, ⟨by (with_reducible repeat (first | apply Kd.R_alloc | apply Kd.R_drewN | apply Kd.R_drew)); exact HO_4.out⟩, ⟨by repeat (first | (with_reducible first | exact HB.out | apply below_alloc | apply pw_below_drewN | apply below_drew1) | exact HB.out)⟩⟩
                  ·replace c20 := Bool.eq_false_iff.mpr c20;subst c20;replace H : (arboristref09_card.l2 k3 l0 x3_1 x4_1 x5_2 x6_2 x7_2 x8_3 (wrap64 (x9_3 + 1))) = some r := by rw [if_neg (show ¬ (false = true) by decide)] at H; exact H
                   have H' := Aside0.mk H;clear H;have p794 : 0 ≤ (x7_2 : Int) := of_decide_eq_true qA;have q794 : x7_2 < (l0.length : Int) := of_decide_eq_true qA;obtain ⟨ad794, A794_0, c794_0, e794, hx794_0, hl794_0, hi794_0⟩ := at_L8 HR0.out x7_2 p794 q794;cases e794
                   replace hx794_0 := (HB.out.cell (World.block_lt_of_cell? w _ hx794_0)).trans hx794_0;have HR794_0 := Aside0.mk hi794_0;have HC794_0 := Aside0.mk hl794_0;clear hi794_0 hl794_0;replace p794 := eq_true p794;replace q794 := eq_true q794;have p795 : 0 ≤ (x9_3 : Int) := of_decide_eq_true qA;have q795 : x9_3 < ((rd_L8 l0 x7_2).length : Int) := of_decide_eq_true qA;obtain ⟨ad795, e795, hx795_0⟩ := Kd.at_bool HR794_0.out x9_3 p795 q795;(try rw [← Nbq16.out] at hx795_0);(try rw [← Nbq19.out] at hx795_0);cases e795
                   replace hx795_0 := (HB.out.cell (World.block_lt_of_cell? w _ hx795_0)).trans hx795_0;replace p795 := eq_true p795;replace q795 := eq_true q795;obtain ⟨Ao22, co22, eo22⟩ := Kd.R_slice HO_3.out;subst eo22;have p796 : 0 ≤ (x9_3 : Int) := of_decide_eq_true qA;have q796 : x9_3 < (x3_1.length : Int) := of_decide_eq_true qA;obtain ⟨ad796, e796, hx796_0⟩ := Kd.at_bool (Kd.R_reads' HO_3.out).2.2 x9_3 p796 q796;(try rw [← Nbq16.out] at hx796_0);(try rw [← Nbq19.out] at hx796_0);cases e796
                   replace p796 := eq_true p796;replace q796 := eq_true q796;go_wp2
                   go_roundg k3
                   case measure => have := HK1.out; have := HK2.out; have := HK3.out; omega
                   case rel => exact ⟨(x8_3), (wrap64 (x9_3 + 1)), (by first | rfl | (simp; done) | (simp [*]; done)), (by first | rfl | (simp; done) | (simp [*]; done)), H', ⟨by have := HK1.out; have := HK2.out; have := HK3.out; omega⟩, ⟨by (with_reducible repeat (first | apply Kd.R_alloc | apply Kd.R_drewN | apply Kd.R_drew)); exact HO_3.out⟩, ⟨by (with_reducible repeat (first | apply Kd.R_alloc | apply Kd.R_drewN | apply Kd.R_drew)); exact HO_4.out⟩, ⟨by repeat (first | (with_reducible first | exact HB.out | apply below_alloc | apply pw_below_drewN | apply below_drew1) | exact HB.out)⟩⟩
                 ·rw [if_neg c18] at H
                  exact absurd H (by simp)
                ·replace c17 := Bool.eq_false_iff.mpr c17;subst c17;replace H : (arboristref09_card.l2 k3 l0 x3_1 x4_1 x5_2 x6_2 x7_2 x8_3 (wrap64 (x9_3 + 1))) = some r := by rw [if_neg (show ¬ (false = true) by decide)] at H; exact H
                 have H' := Aside0.mk H;clear H;have p794 : 0 ≤ (x7_2 : Int) := of_decide_eq_true qA;have q794 : x7_2 < (l0.length : Int) := of_decide_eq_true qA;obtain ⟨ad794, A794_0, c794_0, e794, hx794_0, hl794_0, hi794_0⟩ := at_L8 HR0.out x7_2 p794 q794;cases e794
                 replace hx794_0 := (HB.out.cell (World.block_lt_of_cell? w _ hx794_0)).trans hx794_0;have HR794_0 := Aside0.mk hi794_0;have HC794_0 := Aside0.mk hl794_0;clear hi794_0 hl794_0;replace p794 := eq_true p794;replace q794 := eq_true q794;have p795 : 0 ≤ (x9_3 : Int) := of_decide_eq_true qA;have q795 : x9_3 < ((rd_L8 l0 x7_2).length : Int) := of_decide_eq_true qA;obtain ⟨ad795, e795, hx795_0⟩ := Kd.at_bool HR794_0.out x9_3 p795 q795;(try rw [← Nbq16.out] at hx795_0);cases e795
                 replace hx795_0 := (HB.out.cell (World.block_lt_of_cell? w _ hx795_0)).trans hx795_0;replace p795 := eq_true p795;replace q795 := eq_true q795;go_wp2
                 go_roundg k3
                 case measure => have := HK1.out; have := HK2.out; have := HK3.out; omega
                 case rel => exact ⟨(x8_3), (wrap64 (x9_3 + 1)), (by first | rfl | (simp; done) | (simp [*]; done)), (by first | rfl | (simp; done) | (simp [*]; done)), H', ⟨by have := HK1.out; have := HK2.out; have := HK3.out; omega⟩, ⟨by (with_reducible repeat (first | apply Kd.R_alloc | apply Kd.R_drewN | apply Kd.R_drew)); exact HO_3.out⟩, ⟨by (with_reducible repeat (first | apply Kd.R_alloc | apply Kd.R_drewN | apply Kd.R_drew)); exact HO_4.out⟩, ⟨by repeat (first | (with_reducible first | exact HB.out | apply below_alloc | apply pw_below_drewN | apply below_drew1) | exact HB.out)⟩⟩
               ·rw [if_neg c15] at H
                exact absurd H (by simp)
              ·rw [if_neg c14] at H
               exact absurd H (by simp)
             ·rw [if_neg c13] at H
              exact absurd H (by simp)
            ·rw [if_neg c12] at H
             exact absurd H (by simp)
           ·rw [if_neg c11] at H
            have c11b0 : decide (x9_3 < (l0.length : Int)) = false := decide_eq_false c11;clear c11;by_cases c23 : 0 ≤ x7_2
            ·rw [if_pos c23] at H
             have c23b0 : decide (0 ≤ x7_2) = true := decide_eq_true c23;clear c23;by_cases c24 : x7_2 < (x3_1.length : Int)
             ·rw [if_pos c24] at H
              have c24b0 : decide (x7_2 < (x3_1.length : Int)) = true := decide_eq_true c24;clear c24;obtain ⟨bq25, hbq25⟩ : ∃ b_ : Bool, b_ = (rdOf false x3_1 x7_2) := ⟨_, rfl⟩;replace H : (if bq25 = true then (arboristref09_card.l1 k3 l0 x3_1 x4_1 x5_2 x6_2 (wrap64 (x7_2 + 1))) else (if x5_2 < 0 then (arboristref09_card.l1 k3 l0 x3_1 x4_1 x7_2 x8_3 (wrap64 (x7_2 + 1))) else (if x8_3 > x6_2 then (arboristref09_card.l1 k3 l0 x3_1 x4_1 x7_2 x8_3 (wrap64 (x7_2 + 1))) else (arboristref09_card.l1 k3 l0 x3_1 x4_1 x5_2 x6_2 (wrap64 (x7_2 + 1)))))) = some r := by rw [← hbq25] at H; exact H
              have Nbq25 := Aside0.mk hbq25;clear hbq25;by_cases c26 : bq25 = true
              ·subst c26;replace H : (arboristref09_card.l1 k3 l0 x3_1 x4_1 x5_2 x6_2 (wrap64 (x7_2 + 1))) = some r := by rw [if_pos rfl] at H; exact H
               have H' := Aside0.mk H;clear H;obtain ⟨Ao27, co27, eo27⟩ := Kd.R_slice HO_3.out;subst eo27;have p797 : 0 ≤ (x7_2 : Int) := of_decide_eq_true qA;have q797 : x7_2 < (x3_1.length : Int) := of_decide_eq_true qA;obtain ⟨ad797, e797, hx797_0⟩ := Kd.at_bool (Kd.R_reads' HO_3.out).2.2 x7_2 p797 q797;(try rw [← Nbq25.out] at hx797_0);cases e797
               replace p797 := eq_true p797;replace q797 := eq_true q797;go_wp2
               go_roundg k3
               case measure => have := HK1.out; have := HK2.out; have := HK3.out; omega
               case rel => exact ⟨(x5_2), (x6_2), (wrap64 (x7_2 + 1)), (by first | rfl | (simp; done) | (simp [*]; done)), (by first | rfl | (simp; done) | (simp [*]; done)), (by first | rfl | (simp; done) | (simp [*]; done)), H', ⟨by have := HK1.out; have := HK2.out; have := HK3.out; omega⟩, ⟨by (with_reducible repeat (first | apply Kd.R_alloc | apply Kd.R_drewN | apply Kd.R_drew)); exact HO_3.out⟩, ⟨by (with_reducible repeat (first | apply Kd.R_alloc | apply Kd.R_drewN | apply Kd.R_drew)); exact HO_4.out⟩, ⟨by repeat (first | (with_reducible first | exact HB.out | apply below_alloc | apply pw_below_drewN | apply below_drew1) | exact HB.out)⟩⟩
              ·replace c26 := Bool.eq_false_iff.mpr c26;subst c26;replace H : (if x5_2 < 0 then (arboristref09_card.l1 k3 l0 x3_1 x4_1 x7_2 x8_3 (wrap64 (x7_2 + 1))) else (if x8_3 > x6_2 then (arboristref09_card.l1 k3 l0 x3_1 x4_1 x7_2 x8_3 (wrap64 (x7_2 + 1))) else (arboristref09_card.l1 k3 l0 x3_1 x4_1 x5_2 x6_2 (wrap64 (x7_2 + 1))))) = some r := by rw [if_neg (show ¬ (false = true) by decide)] at H; exact H
               by_cases c28 : x5_2 < 0
               ·rw [if_pos c28] at H
                have c28b0 : decide (x5_2 < 0) = true := decide_eq_true c28;clear c28;have H' := Aside0.mk H;clear H;obtain ⟨Ao29, co29, eo29⟩ := Kd.R_slice HO_3.out;subst eo29;have p797 : 0 ≤ (x7_2 : Int) := of_decide_eq_true qA;have q797 : x7_2 < (x3_1.length : Int) := of_decide_eq_true qA;obtain ⟨ad797, e797, hx797_0⟩ := Kd.at_bool (Kd.R_reads' HO_3.out).2.2 x7_2 p797 q797;(try rw [← Nbq25.out] at hx797_0);cases e797
                replace p797 := eq_true p797;replace q797 := eq_true q797;go_wp2
                go_roundg k3
                case measure => have := HK1.out; have := HK2.out; have := HK3.out; omega
                case rel => exact ⟨(x7_2), (x8_3), (wrap64 (x7_2 + 1)), (by first | rfl | (simp; done) | (simp [*]; done)), (by first | rfl | (simp; done) | (simp [*]; done)), (by first | rfl | (simp; done) | (simp [*]; done)), H', ⟨by have := HK1.out; have := HK2.out; have := HK3.out; omega⟩, ⟨by (with_reducible repeat (first | apply Kd.R_alloc | apply Kd.R_drewN | apply Kd.R_drew)); exact HO_3.out⟩, ⟨by (with_reducible repeat (first | apply Kd.R_alloc | apply Kd.R_drewN | apply Kd.R_drew)); exact HO_4.out⟩, ⟨by repeat (first | (with_reducible first | exact HB.out | apply below_alloc | apply pw_below_drewN | apply below_drew1) | exact HB.out)⟩⟩
               ·rw [if_neg c28] at H
                have c28b0 : decide (x5_2 < 0) = false := decide_eq_false c28;clear c28;by_cases c30 : x8_3 > x6_2
                ·rw [if_pos c30] at H
                 have c30b0 : decide (x6_2 < x8_3) = true := decide_eq_true c30;clear c30;have H' := Aside0.mk H;clear H;obtain ⟨Ao31, co31, eo31⟩ := Kd.R_slice HO_3.out;subst eo31;have p797 : 0 ≤ (x7_2 : Int) := of_decide_eq_true qA;have q797 : x7_2 < (x3_1.length : Int) := of_decide_eq_true qA;obtain ⟨ad797, e797, hx797_0⟩ := Kd.at_bool (Kd.R_reads' HO_3.out).2.2 x7_2 p797 q797;(try rw [← Nbq25.out] at hx797_0);cases e797
                 replace p797 := eq_true p797;replace q797 := eq_true q797;go_wp2
                 go_roundg k3
                 case measure => have := HK1.out; have := HK2.out; have := HK3.out; omega
                 case rel => exact ⟨(x7_2), (x8_3), (wrap64 (x7_2 + 1)), (by first | rfl | (simp; done) | (simp [*]; done)), (by first | rfl | (simp; done) | (simp [*]; done)), (by first | rfl | (simp; done) | (simp [*]; done)), H', ⟨by have := HK1.out; have := HK2.out; have := HK3.out; omega⟩, ⟨by (with_reducible repeat (first | apply Kd.R_alloc | apply Kd.R_drewN | apply Kd.R_drew)); exact HO_3.out⟩, ⟨by (with_reducible repeat (first | apply Kd.R_alloc | apply Kd.R_drewN | apply Kd.R_drew)); exact HO_4.out⟩, ⟨by repeat (first | (with_reducible first | exact HB.out | apply below_alloc | apply pw_below_drewN | apply below_drew1) | exact HB.out)⟩⟩
                ·rw [if_neg c30] at H
                 have c30b0 : decide (x6_2 < x8_3) = false := decide_eq_false c30;clear c30;have H' := Aside0.mk H;clear H;obtain ⟨Ao32, co32, eo32⟩ := Kd.R_slice HO_3.out;subst eo32;have p797 : 0 ≤ (x7_2 : Int) := of_decide_eq_true qA;have q797 : x7_2 < (x3_1.length : Int) := of_decide_eq_true qA;obtain ⟨ad797, e797, hx797_0⟩ := Kd.at_bool (Kd.R_reads' HO_3.out).2.2 x7_2 p797 q797;(try rw [← Nbq25.out] at hx797_0);cases e797
                 replace p797 := eq_true p797;replace q797 := eq_true q797;go_wp2
                 go_roundg k3
                 case measure => have := HK1.out; have := HK2.out; have := HK3.out; omega
                 case rel => exact ⟨(x5_2), (x6_2), (wrap64 (x7_2 + 1)), (by first | rfl | (simp; done) | (simp [*]; done)), (by first | rfl | (simp; done) | (simp [*]; done)), (by first | rfl | (simp; done) | (simp [*]; done)), H', ⟨by have := HK1.out; have := HK2.out; have := HK3.out; omega⟩, ⟨by (with_reducible repeat (first | apply Kd.R_alloc | apply Kd.R_drewN | apply Kd.R_drew)); exact HO_3.out⟩, ⟨by (with_reducible repeat (first | apply Kd.R_alloc | apply Kd.R_drewN | apply Kd.R_drew)); exact HO_4.out⟩, ⟨by repeat (first | (with_reducible first | exact HB.out | apply below_alloc | apply pw_below_drewN | apply below_drew1) | exact HB.out)⟩⟩
             ·rw [if_neg c24] at H
              exact absurd H (by simp)
            ·rw [if_neg c23] at H
             exact absurd H (by simp)
        ·rw [if_neg c10] at H
         have c10b0 : decide (x7_2 < (l0.length : Int)) = false := decide_eq_false c10;clear c10;by_cases c33 : 0 ≤ x5_2
         ·rw [if_pos c33] at H
          have c33b0 : decide (0 ≤ x5_2) = true := decide_eq_true c33;clear c33;by_cases c34 : x5_2 < (x3_1.length : Int)
          ·rw [if_pos c34] at H
           have c34b0 : decide (x5_2 < (x3_1.length : Int)) = true := decide_eq_true c34;clear c34;obtain ⟨y787, hy787⟩ : ∃ y_ : List Bool, y_ = (x3_1.set (x5_2 : Int).toNat true) := ⟨_, rfl⟩;replace H : ((some (([x5_2] : List Int) : List Int)).bind fun y788 => (if y788.length + x4_1.length < 17592186044416 then (arboristref09_card.l0 k2 l0 y787 (y788 ++ x4_1)) else (none))) = some r := by first | (rw [hy787]; with_reducible exact H) | (have H2_ := (Option.bind_some _ _).symm.trans H; rw [hy787]; with_reducible exact H2_) | (have H2_ := (Option.bind_some _ _).symm.trans H; with_reducible exact H2_) | with_reducible exact H | (rw [hy787]; exact H) | exact H
           have Ny787 := Aside0.mk hy787;clear hy787;obtain ⟨y788, hy788⟩ : ∃ y_ : List Int, y_ = (([x5_2] : List Int)) := ⟨_, rfl⟩;replace H : (if y788.length + x4_1.length < 17592186044416 then (arboristref09_card.l0 k2 l0 y787 (y788 ++ x4_1)) else (none)) = some r := by first | (rw [hy788]; with_reducible exact H) | (have H2_ := (Option.bind_some _ _).symm.trans H; rw [hy788]; with_reducible exact H2_) | (have H2_ := (Option.bind_some _ _).symm.trans H; with_reducible exact H2_) | with_reducible exact H | (rw [hy788]; exact H) | exact H
           have Ny788 := Aside0.mk hy788;clear hy788;by_cases c36 : y788.length + x4_1.length < 17592186044416
           ·rw [if_pos c36] at H
            have LMc36 := Aside0.mk c36;clear c36;obtain ⟨y791, hy791⟩ : ∃ y_ : List Int, y_ = (y788 ++ x4_1) := ⟨_, rfl⟩;replace H : (arboristref09_card.l0 k2 l0 y787 y791) = some r := by first | (rw [hy791]; with_reducible exact H) | (have H2_ := (Option.bind_some _ _).symm.trans H; rw [hy791]; with_reducible exact H2_) | (have H2_ := (Option.bind_some _ _).symm.trans H; with_reducible exact H2_) | with_reducible exact H | (rw [hy791]; exact H) | exact H
            have Ny791 := Aside0.mk hy791;clear hy791;have H' := Aside0.mk H;clear H;have p35 : 0 ≤ (x5_2 : Int) := of_decide_eq_true qA;have q35 : (x5_2 : Int) < ((x3_1.length : Int) : Int) := of_decide_eq_true qA;obtain ⟨go35, co35, eo35, gb35, gl35, cl35, HG35⟩ := Kd.R_form HO_3.out (by omega);(first | cases eo35 | (injection eo35 with ea_ en_ ec_; (first | subst ea_ | (injection ea_ with ea_; subst ea_)); subst ec_; clear en_));have GB35 := Aside0.mk gb35;have GG35 := Aside0.mk HG35;clear gb35 gl35 HG35;obtain ⟨hx35_0, hf35_0⟩ := Kd.R_celln false HO_3.out (x5_2 : Int) p35 q35;replace p35 := eq_true p35;replace q35 := eq_true q35;have HP37 := Kd.R_putg HO_3.out (x5_2 : Int) true;go_wp2_with (first | ((with_reducible refine gate_store (t := 4) (p := 64) rfl ?_); refine store_event (t := 4) (p := 64) (v := ?vo_w38) (w1 := (wr.setCell ⟨go35, (x5_2 : Int).toNat, none⟩ (.bool true))) ?hg ?ho ?hn ?hr ?_; (case ho => rfl); (case hg => rfl); (case hn => rfl); (case hr => first | (go_simp; done) | (go_simp; rfl)); intro w38 hw; have hg : wr.grownBy w38 (some go35) := (by rw [hw]; exact HP37.2); have hp_ : Kd.R Kd.bool 4 w38 w.heap.size (fun _ => True) (.slice (some ⟨go35, 0, none⟩) x3_1.length co35) y787 := (by rw [hw, Ny787.out]; exact HP37.1); clear HP37; have n0_ := Aside0.mk (hp_); have n1_ := Aside0.mk (Kd.R_over' (v := (.slice (some ⟨go35, 0, none⟩) x3_1.length co35)) (qR HO_4.out) (Kd.R_typed HO_3.out) (by decide) hg); have n2_ := Aside0.mk ((by rw [hw]; exact below_set (HB.out) GB35.out : Below w.heap.size w w38)); clear HO_3; clear HO_4; clear HB; have HO_3 := n0_; have HO_4 := n1_; have HB := n2_; clear n0_ n1_ n2_; clear hg hw hp_) | ((with_reducible refine gate_dst (N := 66) rfl ?_); refine Kd.R_lit (Kd.int .i64) _ 3 ?hg (N := 66) ?hd (xs := ([x5_2] : List Int)) (inner := [.int .i64 x5_2]) (ok := fun _ => True) (okp := fun _ => True) ?hr ?hp (fun _ hk => hk) trivial (Below.refl _ _) (Nat.le_refl _) (by simp) ?_; (case hd => rfl); (case hg => rfl); (case hr => first | (go_simp; done) | (go_simp; rfl)); (case hp => exact (Reps.one (show Kd.M (Kd.int .i64) _ _ _ x5_2 [.int .i64 x5_2] from rfl) (Reps.none _ _))); intro v789 w39 ho40 hb hg_ hnew_; clear hg_ hnew_; (first | rw [← Ny788.out] at ho40 | (simp only [Int.reduceToNat] at ho40; rw [← Ny788.out] at ho40)); have n0_ := Aside0.mk (Kd.R_below (qR HO_3.out) hb); have n1_ := Aside0.mk (Kd.R_elder' (qR HO_4.out) (Kd.R_base ho40) hb); have n2_ := Aside0.mk (Kd.R_lower (Kd.R_new' ho40 (Kd.R_lt (qR HO_4.out))) (below_size (qB HB.out))); have n3_ := Aside0.mk (below_step (qB HB.out) hb); clear HO_3; clear HO_4; clear HB; have HO_3 := n0_; have HO_4 := n1_; have HO790 := n2_; have HB := n3_; clear n0_ n1_ n2_ n3_; clear hb ho40) | ((with_reducible refine gate_builtin (b := .append) (xs := #[.tmp 66, .tmp 67]) rfl ?_); at_builtin; refine Kd.R_append_rows (Kd.int .i64) (w0 := w) w.heap.size rfl (.tmp 66) (.tmp 67) 23 3 (.int .i64 0) 8 rfl Tryd.underlying23 info3 rfl (by decide) (by omega) v789 y788 x4_1 _ _ _ (fun k_ => some k_ ≠ (.slice Ao9 x4_1.length co9 : Value).ownBlock) (fun _ => False) rfl rfl ?aO ?aR (fun _ _ h => h) (fun _ h => h.elim) ?aF ?aB ?aS ?aL ?_; (case aR => repeat (first | exact (Kd.R_reads' HO_4.out).2.2 | (with_reducible refine Kd.C_alloc ?_ _) | (with_reducible refine Kd.C_drewN ?_ _) | (with_reducible refine Kd.C_drew ?_))); (case aB => exact (qB HB.out)); (case aF => exact (fun k_ hk => Kd.fresh' (Kd.R_lt (qR HO_4.out)) k_ hk)); (case aO => exact (by (with_reducible repeat (first | apply Kd.R_alloc | apply Kd.R_drewN | apply Kd.R_drew)); exact Kd.R_mono HO790.out (fun _ hk => hk.2))); (case aS => exact (below_size (qB HB.out))); (case aL => have := LMc36.out; omega); intro v792 w41 ho hb hg hat; rw [← Ny791.out] at ho; have n0_ := Aside0.mk (Kd.R_over' (qR HO_3.out) (Kd.R_typed (qR HO790.out)) (by decide) hg); have n1_ := Aside0.mk (Kd.R_after (ok := (fun _ => True)) (qR HO_4.out) hg hat); have n2_ := Aside0.mk (hb); have n3_ := Aside0.mk (ho); clear HO_3; clear HO_4; clear HB; clear HO790; have HO_3 := n0_; have HO_4 := n1_; have HB := n2_; have HO793 := n3_; clear n0_ n1_ n2_ n3_; clear ho hb hg hat))
            go_roundg k2
            case measure => have := HK1.out; have := HK2.out; omega
            case rel => exact ⟨(y787), (y791), H', ⟨by have := HK1.out; have := HK2.out; omega⟩, ⟨by (with_reducible repeat (first | apply Kd.R_alloc | apply Kd.R_drewN | apply Kd.R_drew)); exact HO_3.out⟩, ⟨by (with_reducible repeat (first | apply Kd.R_alloc | apply Kd.R_drewN | apply Kd.R_drew)); exact Kd.R_mono HO793.out (fun _ hk => trivial)⟩, ⟨by repeat (first | (with_reducible first | exact HB.out | apply below_alloc | apply pw_below_drewN | apply below_drew1) | exact HB.out)⟩⟩
           ·rw [if_neg c36] at H
            exact absurd H (by simp)
          ·rw [if_neg c34] at H
           exact absurd H (by simp)
         ·rw [if_neg c33] at H
          exact absurd H (by simp)
     ·rw [if_neg c8] at H
      have c8b0 : decide ((x4_1.length : Int) < (l0.length : Int)) = false := decide_eq_false c8;have c8b1 : decide (x4_1.length < l0.length) = false := decide_eq_false (fun h => c8 (Int.ofNat_lt.mpr h));clear c8;obtain rfl := Option.some.inj H;obtain ⟨Ao42, co42, eo42⟩ := Kd.R_slice HO_4.out;subst eo42;go_wp2
      go_ret
      exact ⟨_, by first | rfl | (simp [errW_none, errW_some] <;> rfl) | (simp [*, errW_none, errW_some] <;> rfl), by (with_reducible repeat (first | apply Kd.R_alloc | apply Kd.R_drewN | apply Kd.R_drew)); exact HO_4.out, by repeat (first | (with_reducible first | exact HB.out | apply below_alloc | apply pw_below_drewN | apply below_drew1) | exact HB.out)⟩
  ·rw [if_neg c3] at H
   exact absurd H (by simp)
 ·rw [if_neg c2] at H
  exact absurd H (by simp)
end Go.Proofs.YtbdlelojlnhhfaaDoor.Pr
