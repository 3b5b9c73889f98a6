-- Printed by wip/tools/pp.py over the kit's print.py, several texts in one (wip/tools/mergepr.py); Lean checks it.
import Derived.Test.YtbdlelojlnhhfaaDoorPr0
import Derived.Test.YtbdlelojlnhhfaaDoorPr36
import Derived.Test.YtbdlelojlnhhfaaDoorPr1
namespace Go.Proofs.YtbdlelojlnhhfaaDoor.Pr
open Go.RowKit Go.Proofs.YtbdlelojlnhhfaaDoorW.PrintWords Go.Proofs.YtbdlelojlnhhfaaDoorW.PrintLast Go.Proofs.YtbdlelojlnhhfaaDoorW.PrintMore
attribute [local go_sem] max2_int min2_int max_two min_two max_three min_three max_four min_four
set_option linter.unusedVariables false
set_option linter.unusedSimpArgs false
/-! ### arboristref09_Valid: function 17 -/
mutual
def arboristref09_Valid.l0 : Nat → Int → List Int → Int → Option (Bool)
 | 0, _, _, _ => none
 | k + 1, x0, x1, x5 => if x5 < x0 then (arboristref09_Valid.l1 k x0 x1 x5 0 0) else (some true)
def arboristref09_Valid.l1 : Nat → Int → List Int → Int → Int → Int → Option (Bool)
 | 0, _, _, _, _, _ => none
 | k + 1, x0, x1, x5, x6, x7 => if x7 < x0 then (if 0 ≤ x7 then (if x7 < (x1.length : Int) then (if (rd x1 x7) = x5 then (arboristref09_Valid.l1 k x0 x1 x5 (wrap64 (x6 + 1)) (wrap64 (x7 + 1))) else (arboristref09_Valid.l1 k x0 x1 x5 x6 (wrap64 (x7 + 1)))) else (none)) else (none)) else (if x6 = 1 then (arboristref09_Valid.l0 k x0 x1 (wrap64 (x5 + 1))) else (some false))
end
def arboristref09_Valid.f (k : Nat) (a0 : Int) (l1 : List Int) : Option (Bool) := if (l1.length : Int) = a0 then (arboristref09_Valid.l0 k a0 l1 0) else (some false)
theorem arboristref09_Valid.mono_l : ∀ k, (∀ y0 y1 y2, LeO (arboristref09_Valid.l0 k y0 y1 y2) (arboristref09_Valid.l0 (k + 1) y0 y1 y2)) ∧ (∀ y0 y1 y2 y3 y4, LeO (arboristref09_Valid.l1 k y0 y1 y2 y3 y4) (arboristref09_Valid.l1 (k + 1) y0 y1 y2 y3 y4))
 | 0 => ⟨fun _ _ _ r h => by simp [arboristref09_Valid.l0] at h, fun _ _ _ _ _ r h => by simp [arboristref09_Valid.l1] at h⟩
 | k + 1 => by
  obtain ⟨ih0, ih1⟩ := arboristref09_Valid.mono_l k;refine ⟨?_, ?_⟩;all_goals intros
  all_goals (first | unfold arboristref09_Valid.l0 | unfold arboristref09_Valid.l1)
  all_goals repeat' first
  | (with_reducible first | exact ih0 _ _ _ | exact ih1 _ _ _ _ _ | exact LeO.refl _ | exact LeO.none _ | refine LeO.ite ?_ ?_ | refine LeO.bind ?_ (fun _ => ?_))
  | exact ih0 _ _ _
  | exact ih1 _ _ _ _ _
  | exact LeO.none _
  | refine LeO.ite ?_ ?_
  | refine LeO.bind ?_ (fun _ => ?_)
theorem arboristref09_Valid.mono : ∀ a0 a1 k, LeO (arboristref09_Valid.f k a0 a1) (arboristref09_Valid.f (k + 1) a0 a1) := by
 intro a0 a1 k
 obtain ⟨ih0, ih1⟩ := arboristref09_Valid.mono_l k;unfold arboristref09_Valid.f
 repeat' first
   | (with_reducible first | exact ih0 _ _ _ | exact ih1 _ _ _ _ _ | exact LeO.refl _ | exact LeO.none _ | refine LeO.ite ?_ ?_ | refine LeO.bind ?_ (fun _ => ?_))
   | exact ih0 _ _ _
   | exact ih1 _ _ _ _ _
   | exact LeO.none _
   | refine LeO.ite ?_ ?_
   | refine LeO.bind ?_ (fun _ => ?_)
set_option maxHeartbeats 8000000 in
set_option maxRecDepth 100000 in
theorem arboristref09_Valid.calls (k : Nat) (a0 : Int) (A1 : Option Addr) (c1 : Nat) (l1 : List Int) (r : Bool) (w : World) (hr1 : Kd.C (Kd.int .i64) w A1 l1.length l1) (hc1 : l1.length ≤ c1) (h : arboristref09_Valid.f k a0 l1 = some r) :
  Calls Tryd.prog 17 #[.int .i64 a0, .slice A1 l1.length c1] w fun e w' => e = .returned (.bool r) ∧ Drawn0 w w' := by
 have HR1 := Aside0.mk hr1;have HC1 := Aside0.mk hc1;clear hr1 hc1;have H : (if (l1.length : Int) = a0 then (arboristref09_Valid.l0 k a0 l1 0) else (some false)) = some r := h;clear h;by_cases c3 : (l1.length : Int) = a0
 ·rw [if_pos c3] at H
  have c3b0 : ((l1.length : Int) == a0) = true := beq_iff_eq.mpr c3;have c3b1 : ((l1.length : Int) != a0) = false := bne_eq_false_iff_eq.mpr c3;clear c3;have H' := Aside0.mk H;clear H;go_enter Tryd.func17, Tryd.ntmps17
  go_wp2
  go_loopg [5] k (fun kq v5 w' => ∃ (x5_1 : Int), v5 = .int .i64 x5_1 ∧ Aside0 (arboristref09_Valid.l0 kq a0 l1 x5_1 = some r) ∧ Aside0 (kq ≤ k) ∧ Drawn0 w w')
  case atStart => exact ⟨(0), (by first | rfl | (simp; done) | (simp [*]; done)), H', ⟨Nat.le_refl _⟩, by repeat (first | exact Drawn0.refl _ | apply Drawn0.step)⟩
  case round =>
   clear H';try clear c1
   try clear p2
   try clear c3
   try clear c3b0
   try clear c3b1
   obtain ⟨x5_1, rfl, HA, HK1, ⟨m1, rfl⟩⟩ := hrel;cases gk with
   | zero => exact absurd HA.out (by simp [arboristref09_Valid.l0])
   | succ k1 =>
    have H := HA.out;clear HA;simp only [arboristref09_Valid.l0] at H
    by_cases c4 : x5_1 < a0
    ·rw [if_pos c4] at H
     have c4b0 : decide (x5_1 < a0) = true := decide_eq_true c4;clear c4;have H' := Aside0.mk H;clear H;go_wp2
     go_loopg [6, 7] k1 (fun kq v6 v7 w' => ∃ (x6_2 : Int) (x7_2 : Int), v6 = .int .i64 x6_2 ∧ v7 = .int .i64 x7_2 ∧ Aside0 (arboristref09_Valid.l1 kq a0 l1 x5_1 x6_2 x7_2 = some r) ∧ Aside0 (kq ≤ k1) ∧ Drawn0 w w')
     case atStart => exact ⟨(0), (0), (by first | rfl | (simp; done) | (simp [*]; done)), (by first | rfl | (simp; done) | (simp [*]; done)), H', ⟨Nat.le_refl _⟩, by repeat (first | exact Drawn0.refl _ | apply Drawn0.step)⟩
     case round =>
      clear H';try clear c1
      try clear p2
      try clear c3
      try clear c3b0
      try clear c3b1
      try clear c4
      try clear c4b0
      try clear p2
      obtain ⟨x6_2, x7_2, rfl, rfl, HA, HK2, ⟨m2, rfl⟩⟩ := hrel;cases gk with
      | zero => exact absurd HA.out (by simp [arboristref09_Valid.l1])
      | succ k2 =>
       have H := HA.out;clear HA;simp only [arboristref09_Valid.l1] at H
       by_cases c5 : x7_2 < a0
       ·rw [if_pos c5] at H
        have c5b0 : decide (x7_2 < a0) = true := decide_eq_true c5;clear c5;by_cases c6 : 0 ≤ x7_2
        ·rw [if_pos c6] at H
         have c6b0 : decide (0 ≤ x7_2) = true := decide_eq_true c6;clear c6;by_cases c7 : x7_2 < (l1.length : Int)
         ·rw [if_pos c7] at H
          have c7b0 : decide (x7_2 < (l1.length : Int)) = true := decide_eq_true c7;clear c7;by_cases c8 : (rd l1 x7_2) = x5_1
          ·rw [if_pos c8] at H
           have c8b0 : ((rd l1 x7_2) == x5_1) = true := beq_iff_eq.mpr c8;have c8b1 : ((rd l1 x7_2) != x5_1) = false := bne_eq_false_iff_eq.mpr c8;clear c8;have H' := Aside0.mk H;clear H;have p453 : 0 ≤ (x7_2 : Int) := of_decide_eq_true qA;have q453 : x7_2 < (l1.length : Int) := of_decide_eq_true qA;obtain ⟨ad453, e453, hx453_0⟩ := Kd.at_int HR1.out x7_2 p453 q453;cases e453
           replace p453 := eq_true p453;replace q453 := eq_true q453;go_wp2
           go_roundg k2
           case measure => have := HK1.out; have := HK2.out; omega
           case rel => exact ⟨(wrap64 (x6_2 + 1)), (wrap64 (x7_2 + 1)), (by first | rfl | (simp; done) | (simp [*]; done)), (by first | rfl | (simp; done) | (simp [*]; done)), H', ⟨by have := HK1.out; have := HK2.out; omega⟩, by repeat (first | exact Drawn0.refl _ | apply Drawn0.step)⟩
          ·rw [if_neg c8] at H
           have c8b0 : ((rd l1 x7_2) == x5_1) = false := beq_eq_false_iff_ne.mpr c8;have c8b1 : ((rd l1 x7_2) != x5_1) = true := bne_iff_ne.mpr c8;have H' := Aside0.mk H;clear H;have p453 : 0 ≤ (x7_2 : Int) := of_decide_eq_true qA;have q453 : x7_2 < (l1.length : Int) := of_decide_eq_true qA;obtain ⟨ad453, e453, hx453_0⟩ := Kd.at_int HR1.out x7_2 p453 q453;cases e453
           replace p453 := eq_true p453;replace q453 := eq_true q453;go_wp2
           go_roundg k2
           case measure => have := HK1.out; have := HK2.out; omega
           case rel => exact ⟨(x6_2), (wrap64 (x7_2 + 1)), (by first | rfl | (simp; done) | (simp [*]; done)), (by first | rfl | (simp; done) | (simp [*]; done)), H', ⟨by have := HK1.out; have := HK2.out; omega⟩, by repeat (first | exact Drawn0.refl _ | apply Drawn0.step)⟩
         ·rw [if_neg c7] at H
          exact absurd H (by simp)
        ·rw [if_neg c6] at H
         exact absurd H (by simp)
       ·rw [if_neg c5] at H
        have c5b0 : decide (x7_2 < a0) = false := decide_eq_false c5;clear c5;by_cases c9 : x6_2 = 1
        ·rw [if_pos c9] at H
         have c9b0 : (x6_2 == 1) = true := beq_iff_eq.mpr c9;have c9b1 : (x6_2 != 1) = false := bne_eq_false_iff_eq.mpr c9;clear c9;have H' := Aside0.mk H;clear H;go_wp2
         go_roundg k2
         case measure => have := HK1.out; have := HK2.out; omega
         case rel => exact ⟨(wrap64 (x5_1 + 1)), (by first | rfl | (simp; done) | (simp [*]; done)), H', ⟨by have := HK1.out; have := HK2.out; omega⟩, by repeat (first | exact Drawn0.refl _ | apply Drawn0.step)⟩
        ·rw [if_neg c9] at H
         have c9b0 : (x6_2 == 1) = false := beq_eq_false_iff_ne.mpr c9;have c9b1 : (x6_2 != 1) = true := bne_iff_ne.mpr c9;obtain rfl := Option.some.inj H;go_wp2
         go_ret
         exact ⟨by first | rfl | (simp; done) | (simp [*]; done), by repeat (first | exact Drawn0.refl _ | apply Drawn0.step)⟩
    ·rw [if_neg c4] at H
     have c4b0 : decide (x5_1 < a0) = false := decide_eq_false c4;clear c4;obtain rfl := Option.some.inj H;go_wp2
     go_ret
     exact ⟨by first | rfl | (simp; done) | (simp [*]; done), by repeat (first | exact Drawn0.refl _ | apply Drawn0.step)⟩
 ·rw [if_neg c3] at H
  have c3b0 : ((l1.length : Int) == a0) = false := beq_eq_false_iff_ne.mpr c3;have c3b1 : ((l1.length : Int) != a0) = true := bne_iff_ne.mpr c3;obtain rfl := Option.some.inj H;go_enter Tryd.func17, Tryd.ntmps17
  go_wp2
  go_ret
  exact ⟨by first | rfl | (simp; done) | (simp [*]; done), by repeat (first | exact Drawn0.refl _ | apply Drawn0.step)⟩
/-! ### arboristref01_Without: function 24 -/
def arboristref01_Without.l0 : Nat → List Int → List Int → List Int → Int → Option (List Int)
 | 0, _, _, _, _ => none
 | k + 1, x0, x1, x5, x6 => if x6 < (x0.length : Int) then (if 0 ≤ x6 then ((arboristref01_In.f k x1 (rd x0 x6)).bind fun t458 => (if t458 = true then (arboristref01_Without.l0 k x0 x1 x5 (wrap64 (x6 + 1))) else (if x5.length < 17592186044416 then (arboristref01_Without.l0 k x0 x1 (x5 ++ [rd x0 x6]) (wrap64 (x6 + 1))) else (none)))) else (none)) else (some x5)
def arboristref01_Without.f (k : Nat) (l0 : List Int) (l1 : List Int) : Option (List Int) := arboristref01_Without.l0 k l0 l1 (([] : List Int)) 0
theorem arboristref01_Without.mono_l : ∀ k, (∀ y0 y1 y2 y3, LeO (arboristref01_Without.l0 k y0 y1 y2 y3) (arboristref01_Without.l0 (k + 1) y0 y1 y2 y3))
 | 0 => fun _ _ _ _ r h => by simp [arboristref01_Without.l0] at h
 | k + 1 => by
  have ih0 := arboristref01_Without.mono_l k;all_goals intros
  all_goals (first | unfold arboristref01_Without.l0)
  all_goals repeat' first
  | (with_reducible first | exact ih0 _ _ _ _ | exact arboristref01_In.mono _ _ _ | exact LeO.refl _ | exact LeO.none _ | refine LeO.ite ?_ ?_ | refine LeO.bind ?_ (fun _ => ?_))
  | exact ih0 _ _ _ _
  | exact arboristref01_In.mono _ _ _
  | exact LeO.none _
  | refine LeO.ite ?_ ?_
  | refine LeO.bind ?_ (fun _ => ?_)
theorem arboristref01_Without.mono : ∀ a0 a1 k, LeO (arboristref01_Without.f k a0 a1) (arboristref01_Without.f (k + 1) a0 a1) := by
 intro a0 a1 k
 have ih0 := arboristref01_Without.mono_l k;unfold arboristref01_Without.f
 repeat' first
   | (with_reducible first | exact ih0 _ _ _ _ | exact arboristref01_In.mono _ _ _ | exact LeO.refl _ | exact LeO.none _ | refine LeO.ite ?_ ?_ | refine LeO.bind ?_ (fun _ => ?_))
   | exact ih0 _ _ _ _
   | exact arboristref01_In.mono _ _ _
   | exact LeO.none _
   | refine LeO.ite ?_ ?_
   | refine LeO.bind ?_ (fun _ => ?_)
set_option maxHeartbeats 8000000 in
set_option maxRecDepth 100000 in
theorem arboristref01_Without.calls (k : Nat) (A0 : Option Addr) (c0 : Nat) (l0 : List Int) (A1 : Option Addr) (c1 : Nat) (l1 : List Int) (r : List Int) (w : World) (hr0 : Kd.C (Kd.int .i64) w A0 l0.length l0) (hc0 : l0.length ≤ c0) (hr1 : Kd.C (Kd.int .i64) w A1 l1.length l1) (hc1 : l1.length ≤ c1) (h : arboristref01_Without.f k l0 l1 = some r) :
  Calls Tryd.prog 24 #[.slice A0 l0.length c0, .slice A1 l1.length c1] w fun e w' => ∃ v0_ : Value, e = .returned (v0_) ∧ Kd.R (Kd.int .i64) 3 w' w.heap.size (fun _ => True) v0_ r ∧ Below w.heap.size w w' := by
 have HR0 := Aside0.mk hr0;have HC0 := Aside0.mk hc0;clear hr0 hc0;have HR1 := Aside0.mk hr1;have HC1 := Aside0.mk hc1;clear hr1 hc1;have HB := Aside0.mk (Below.refl w.heap.size w);have H : (arboristref01_Without.l0 k l0 l1 (([] : List Int)) 0) = some r := h;clear h;obtain ⟨y454, hy454⟩ : ∃ y_ : List Int, y_ = (([] : List Int)) := ⟨_, rfl⟩;replace H : (arboristref01_Without.l0 k l0 l1 y454 0) = some r := by first | (rw [hy454]; with_reducible exact H) | (have H2_ := (Option.bind_some _ _).symm.trans H; rw [hy454]; with_reducible exact H2_) | (have H2_ := (Option.bind_some _ _).symm.trans H; with_reducible exact H2_) | with_reducible exact H | (rw [hy454]; exact H) | exact H
 have Ny454 := Aside0.mk hy454;clear hy454;have H' := Aside0.mk H;clear H;go_enter Tryd.func24, Tryd.ntmps24
 go_wp2_with (first | ((with_reducible refine gate_dst (N := 8) rfl ?_); refine Kd.R_lit (Kd.int .i64) _ 3 ?hg (N := 8) ?hd (xs := ([] : List Int)) (inner := []) (ok := fun _ => True) (okp := fun _ => True) ?hr ?hp (fun _ hk => hk) trivial (Below.refl _ _) (Nat.le_refl _) (by simp) ?_; (case hd => rfl); (case hg => rfl); (case hr => first | (go_simp; done) | (go_simp; rfl)); (case hp => exact (Reps.none _ _)); intro v455 w3 ho4 hb hg_ hnew_; clear hg_ hnew_; (first | rw [← Ny454.out] at ho4 | (simp only [Int.reduceToNat] at ho4; rw [← Ny454.out] at ho4)); have n0_ := Aside0.mk (Kd.R_lower ho4 (below_size (qB HB.out))); have n1_ := Aside0.mk (below_step (qB HB.out) hb); clear HB; have HO456 := n0_; have HB := n1_; clear n0_ n1_; clear hb ho4))
 go_loopg [5, 6] k (fun kq v5 v6 w' => ∃ (x5_1 : List Int) (x6_1 : Int), v6 = .int .i64 x6_1 ∧ Aside0 (arboristref01_Without.l0 kq l0 l1 x5_1 x6_1 = some r) ∧ Aside0 (kq ≤ k) ∧ Aside0 (Kd.R (Kd.int .i64) 3 w' w.heap.size (fun _ => True) v5 x5_1) ∧ Aside0 (Below w.heap.size w w'))
 case atStart => exact ⟨(y454), (0), (by first | rfl | (simp; done) | (simp [*]; done)), H', ⟨Nat.le_refl _⟩, ⟨by (with_reducible repeat (first | apply Kd.R_alloc | apply Kd.R_drewN | apply Kd.R_drew)); exact HO456.out⟩, ⟨by repeat (first | (with_reducible first | exact HB.out | apply below_alloc | apply pw_below_drewN | apply below_drew1) | exact HB.out)⟩⟩
 case round =>
  clear H';try clear c1
  try clear c2
  try clear p2
  obtain ⟨x5_1, x6_1, rfl, HA, HK1, HO_5, HB⟩ := hrel;cases gk with
  | zero => exact absurd HA.out (by simp [arboristref01_Without.l0])
  | succ k1 =>
   have H := HA.out;clear HA;simp only [arboristref01_Without.l0] at H
   by_cases c5 : x6_1 < (l0.length : Int)
   ·rw [if_pos c5] at H
    have c5b0 : decide (x6_1 < (l0.length : Int)) = true := decide_eq_true c5;clear c5;by_cases c6 : 0 ≤ x6_1
    ·rw [if_pos c6] at H
     have c6b0 : decide (0 ≤ x6_1) = true := decide_eq_true c6;clear c6;replace H := Option.bind_eq_some_iff.mp H;obtain ⟨t458, A70, H⟩ := H;(try dsimp only at H);have A7 := Aside0.mk A70;clear A70;by_cases c8 : t458 = true
     ·subst c8;replace H : (arboristref01_Without.l0 k1 l0 l1 x5_1 (wrap64 (x6_1 + 1))) = some r := by rw [if_pos rfl] at H; exact H
      have H' := Aside0.mk H;clear H;have p457 : 0 ≤ (x6_1 : Int) := of_decide_eq_true qA;have q457 : x6_1 < (l0.length : Int) := of_decide_eq_true qA;obtain ⟨ad457, e457, hx457_0⟩ := Kd.at_int HR0.out x6_1 p457 q457;cases e457
      replace hx457_0 := (HB.out.cell (World.block_lt_of_cell? w _ hx457_0)).trans hx457_0;replace p457 := eq_true p457;replace q457 := eq_true q457;go_wp2_with (first | ((with_reducible refine gate_callee (f := 34) rfl ?_); refine goesL_ (some 20) rfl rfl Tryd.func34 (by kernel_rfl) rfl #[.slice A1 l1.length c1, .int .i64 (rd l0 x6_1)] rfl qM ?_; (with_reducible refine (arboristref01_In.calls k1 _ _ l1 (rd l0 x6_1) true _ ?side1 ?side2 A7.out).mono ?_); (case side1 => repeat (first | exact (Kd.C_below HR1.out HB.out) | (with_reducible refine Kd.C_alloc ?_ _) | (with_reducible refine Kd.C_drewN ?_ _) | (with_reducible refine Kd.C_drew ?_))); (case side2 => exact HC1.out); rintro e w' ⟨rfl, ⟨nd, rfl⟩⟩; refine ⟨_, rfl, ?_⟩))
      go_roundg k1
      case measure => have := HK1.out; omega
      case rel => exact ⟨(x5_1), (wrap64 (x6_1 + 1)), (by first | rfl | (simp; done) | (simp [*]; done)), H', ⟨by have := HK1.out; omega⟩, ⟨by (with_reducible repeat (first | apply Kd.R_alloc | apply Kd.R_drewN | apply Kd.R_drew)); exact HO_5.out⟩, ⟨by repeat (first | (with_reducible first | exact HB.out | apply below_alloc | apply pw_below_drewN | apply below_drew1) | exact HB.out)⟩⟩
     ·replace c8 := Bool.eq_false_iff.mpr c8;subst c8;replace H : (if x5_1.length < 17592186044416 then (arboristref01_Without.l0 k1 l0 l1 (x5_1 ++ [rd l0 x6_1]) (wrap64 (x6_1 + 1))) else (none)) = some r := by rw [if_neg (show ¬ (false = true) by decide)] at H; exact H
      by_cases c9 : x5_1.length < 17592186044416
      ·rw [if_pos c9] at H
       have LMc9 := Aside0.mk c9;clear c9;obtain ⟨y460, hy460⟩ : ∃ y_ : List Int, y_ = (x5_1 ++ [rd l0 x6_1]) := ⟨_, rfl⟩;replace H : (arboristref01_Without.l0 k1 l0 l1 y460 (wrap64 (x6_1 + 1))) = some r := by first | (rw [hy460]; with_reducible exact H) | (have H2_ := (Option.bind_some _ _).symm.trans H; rw [hy460]; with_reducible exact H2_) | (have H2_ := (Option.bind_some _ _).symm.trans H; with_reducible exact H2_) | with_reducible exact H | (rw [hy460]; exact H) | exact H
       have Ny460 := Aside0.mk hy460;clear hy460;have H' := Aside0.mk H;clear H;have p457 : 0 ≤ (x6_1 : Int) := of_decide_eq_true qA;have q457 : x6_1 < (l0.length : Int) := of_decide_eq_true qA;obtain ⟨ad457, e457, hx457_0⟩ := Kd.at_int HR0.out x6_1 p457 q457;cases e457
       replace hx457_0 := (HB.out.cell (World.block_lt_of_cell? w _ hx457_0)).trans hx457_0;replace p457 := eq_true p457;replace q457 := eq_true q457;go_wp2_with (first | ((with_reducible refine gate_callee (f := 34) rfl ?_); refine goesL_ (some 20) rfl rfl Tryd.func34 (by kernel_rfl) rfl #[.slice A1 l1.length c1, .int .i64 (rd l0 x6_1)] rfl qM ?_; (with_reducible refine (arboristref01_In.calls k1 _ _ l1 (rd l0 x6_1) false _ ?side1 ?side2 A7.out).mono ?_); (case side1 => repeat (first | exact (Kd.C_below HR1.out HB.out) | (with_reducible refine Kd.C_alloc ?_ _) | (with_reducible refine Kd.C_drewN ?_ _) | (with_reducible refine Kd.C_drew ?_))); (case side2 => exact HC1.out); rintro e w' ⟨rfl, ⟨nd, rfl⟩⟩; refine ⟨_, rfl, ?_⟩; have p459 : 0 ≤ (x6_1 : Int) := of_decide_eq_true qA; have q459 : x6_1 < (l0.length : Int) := of_decide_eq_true qA; obtain ⟨ad459, e459, hx459_0⟩ := Kd.at_int HR0.out x6_1 p459 q459; obtain rfl : ad457 = ad459 := (by injection e459); replace hx459_0 := (HB.out.cell (World.block_lt_of_cell? w _ hx459_0)).trans hx459_0; replace p459 := eq_true p459; replace q459 := eq_true q459) | ((with_reducible refine gate_builtin (b := .append) (xs := #[.tmp 23, .tmp 28]) rfl ?_); at_builtin; refine Kd.R_append (Kd.int .i64) (w0 := w) w.heap.size rfl (.tmp 23) (.tmp 28) 23 3 (.int .i64 0) 8 rfl Tryd.underlying23 info3 rfl (by decide) (by omega) u5 x5_1 (rd l0 x6_1) [.int .i64 (rd l0 x6_1)] (fun _ => True) (fun _ => False) rfl rfl ?aP (fun _ hk => hk.elim) ?aF ?aO ?aB ?aS ?aL ?_; (case aP => exact rfl); (case aB => exact (qB HB.out)); (case aF => exact (fun _ _ => trivial)); (case aO => exact (qR HO_5.out)); (case aS => exact (below_size (qB HB.out))); (case aL => have := LMc9.out; omega); intro v461 w10 ho hb hg hat; rw [← Ny460.out] at ho; have n0_ := Aside0.mk (hb); have n1_ := Aside0.mk (ho); clear HB; clear HO_5; have HB := n0_; have HO462 := n1_; clear n0_ n1_; clear ho hb hg hat))
       go_roundg k1
       case measure => have := HK1.out; omega
       case rel => exact ⟨(y460), (wrap64 (x6_1 + 1)), (by first | rfl | (simp; done) | (simp [*]; done)), H', ⟨by have := HK1.out; omega⟩, ⟨by (with_reducible repeat (first | apply Kd.R_alloc | apply Kd.R_drewN | apply Kd.R_drew)); exact HO462.out⟩, ⟨by repeat (first | (with_reducible first | exact HB.out | apply below_alloc | apply pw_below_drewN | apply below_drew1) | exact HB.out)⟩⟩
      ·rw [if_neg c9] at H
       exact absurd H (by simp)
    ·rw [if_neg c6] at H
     exact absurd H (by simp)
   ·rw [if_neg c5] at H
    have c5b0 : decide (x6_1 < (l0.length : Int)) = false := decide_eq_false c5;clear c5;obtain rfl := Option.some.inj H;go_wp2
    go_ret
    exact ⟨_, by first | rfl | (simp [errW_none, errW_some] <;> rfl) | (simp [*, errW_none, errW_some] <;> rfl), by (with_reducible repeat (first | apply Kd.R_alloc | apply Kd.R_drewN | apply Kd.R_drew)); exact HO_5.out, by repeat (first | (with_reducible first | exact HB.out | apply below_alloc | apply pw_below_drewN | apply below_drew1) | exact HB.out)⟩
/-! ### arboristref01_Within: function 21 -/
def arboristref01_Within.f (k : Nat) (l0 : List Int) (l1 : List Int) : Option (Bool) := (arboristref01_Without.f k l0 l1).bind fun t463 => (some ((t463.length : Int) == 0))
theorem arboristref01_Within.mono : ∀ a0 a1 k, LeO (arboristref01_Within.f k a0 a1) (arboristref01_Within.f (k + 1) a0 a1) := by
 intro a0 a1 k
 unfold arboristref01_Within.f
 repeat' first
   | (with_reducible first | exact arboristref01_Without.mono _ _ _ | exact LeO.refl _ | exact LeO.none _ | refine LeO.ite ?_ ?_ | refine LeO.bind ?_ (fun _ => ?_))
   | exact arboristref01_Without.mono _ _ _
   | exact LeO.none _
   | refine LeO.ite ?_ ?_
   | refine LeO.bind ?_ (fun _ => ?_)
set_option maxHeartbeats 8000000 in
set_option maxRecDepth 100000 in
theorem arboristref01_Within.calls (k : Nat) (A0 : Option Addr) (c0 : Nat) (l0 : List Int) (A1 : Option Addr) (c1 : Nat) (l1 : List Int) (r : Bool) (w : World) (hr0 : Kd.C (Kd.int .i64) w A0 l0.length l0) (hc0 : l0.length ≤ c0) (hr1 : Kd.C (Kd.int .i64) w A1 l1.length l1) (hc1 : l1.length ≤ c1) (h : arboristref01_Within.f k l0 l1 = some r) :
  Calls Tryd.prog 21 #[.slice A0 l0.length c0, .slice A1 l1.length c1] w fun e w' => e = .returned (.bool r) ∧ Below w.heap.size w w' := by
 have HR0 := Aside0.mk hr0;have HC0 := Aside0.mk hc0;clear hr0 hc0;have HR1 := Aside0.mk hr1;have HC1 := Aside0.mk hc1;clear hr1 hc1;have HB := Aside0.mk (Below.refl w.heap.size w);have H : ((arboristref01_Without.f k l0 l1).bind fun t463 => (some ((t463.length : Int) == 0))) = some r := h;clear h;replace H := Option.bind_eq_some_iff.mp H;obtain ⟨t463, A30, H⟩ := H;(try dsimp only at H);have A3 := Aside0.mk A30;clear A30;obtain rfl := Option.some.inj H;go_enter Tryd.func21, Tryd.ntmps21
 go_wp2_with (first | ((with_reducible refine gate_callee (f := 24) rfl ?_); refine goesL_ (some 7) rfl rfl Tryd.func24 (by kernel_rfl) rfl #[.slice A0 l0.length c0, .slice A1 l1.length c1] rfl qM ?_; (with_reducible refine (arboristref01_Without.calls k _ _ l0 _ _ l1 t463 _ ?side1 ?side2 ?side3 ?side4 A3.out).mono ?_); (case side1 => repeat (first | exact HR0.out | (with_reducible refine Kd.C_alloc ?_ _) | (with_reducible refine Kd.C_drewN ?_ _) | (with_reducible refine Kd.C_drew ?_))); (case side2 => exact HC0.out); (case side3 => repeat (first | exact HR1.out | (with_reducible refine Kd.C_alloc ?_ _) | (with_reducible refine Kd.C_drewN ?_ _) | (with_reducible refine Kd.C_drew ?_))); (case side4 => exact HC1.out); rintro e w4 ⟨v464, rfl, ho0, hb⟩; refine ⟨_, rfl, ?_⟩; have n0_ := Aside0.mk (Kd.R_lower ho0 (below_size (qB HB.out))); have n1_ := Aside0.mk (below_step (qB HB.out) hb); clear HB; have HO465 := n0_; have HB := n1_; clear n0_ n1_; (try clear hb); (try clear hb2); (try clear hk); (try clear hi); (try clear ho0); obtain ⟨Ao5, co5, eo5⟩ := Kd.R_slice HO465.out; subst eo5))
 go_ret
 exact ⟨by first | rfl | (simp [errW_none, errW_some] <;> rfl) | (simp [*, errW_none, errW_some] <;> rfl), by repeat (first | (with_reducible first | exact HB.out | apply below_alloc | apply pw_below_drewN | apply below_drew1) | exact HB.out)⟩
end Go.Proofs.YtbdlelojlnhhfaaDoor.Pr
namespace Go.Proofs.YtbdlelojlnhhfaaDoor.Pr
open Go.RowKit Go.Proofs.YtbdlelojlnhhfaaDoorW.PrintWords Go.Proofs.YtbdlelojlnhhfaaDoorW.PrintLast Go.Proofs.YtbdlelojlnhhfaaDoorW.PrintMore
attribute [local go_sem] max2_int min2_int max_two min_two max_three min_three max_four min_four
set_option linter.unusedVariables false
set_option linter.unusedSimpArgs false
/-! ### arboristref08_Neighbors: function 27 -/
mutual
def arboristref08_Neighbors.l0 : Nat → List (List Bool) → Int → List Int → Int → Option (List Int)
 | 0, _, _, _, _ => none
 | k + 1, x0, x1, x5, x6 => if x6 < (x0.length : Int) then (if x1 ≥ 0 then (arboristref08_Neighbors.j1 k x0 x1 x5 x6 (decide (x1 < (x0.length : Int)))) else (arboristref08_Neighbors.j1 k x0 x1 x5 x6 false)) else (arboristref08_Neighbors.j1 k x0 x1 x5 x6 false)
def arboristref08_Neighbors.j1 : Nat → List (List Bool) → Int → List Int → Int → Bool → Option (List Int)
 | 0, _, _, _, _, _ => none
 | k + 1, x0, x1, x5, x6, x21 => if x21 = true then (if 0 ≤ x1 then (if x1 < (x0.length : Int) then (if 0 ≤ x6 then (if x6 < ((rd_L8 x0 x1).length : Int) then (if rdOf false (rd_L8 x0 x1) x6 = true then (if x5.length < 17592186044416 then (arboristref08_Neighbors.l0 k x0 x1 (x5 ++ [x6]) (wrap64 (x6 + 1))) else (none)) else (arboristref08_Neighbors.l0 k x0 x1 x5 (wrap64 (x6 + 1)))) else (none)) else (none)) else (none)) else (none)) else (some x5)
end
def arboristref08_Neighbors.f (k : Nat) (l0 : List (List Bool)) (a1 : Int) : Option (List Int) := arboristref08_Neighbors.l0 k l0 a1 (([] : List Int)) 0
theorem arboristref08_Neighbors.mono_l : ∀ k, (∀ y0 y1 y2 y3, LeO (arboristref08_Neighbors.l0 k y0 y1 y2 y3) (arboristref08_Neighbors.l0 (k + 1) y0 y1 y2 y3)) ∧ (∀ y0 y1 y2 y3 y4, LeO (arboristref08_Neighbors.j1 k y0 y1 y2 y3 y4) (arboristref08_Neighbors.j1 (k + 1) y0 y1 y2 y3 y4))
 | 0 => ⟨fun _ _ _ _ r h => by simp [arboristref08_Neighbors.l0] at h, fun _ _ _ _ _ r h => by simp [arboristref08_Neighbors.j1] at h⟩
 | k + 1 => by
  obtain ⟨ih0, ih1⟩ := arboristref08_Neighbors.mono_l k;refine ⟨?_, ?_⟩;all_goals intros
  all_goals (first | unfold arboristref08_Neighbors.l0 | unfold arboristref08_Neighbors.j1)
  all_goals repeat' first
  | (with_reducible first | exact ih0 _ _ _ _ | exact ih1 _ _ _ _ _ | exact LeO.refl _ | exact LeO.none _ | refine LeO.ite ?_ ?_ | refine LeO.bind ?_ (fun _ => ?_))
  | exact ih0 _ _ _ _
  | exact ih1 _ _ _ _ _
  | exact LeO.none _
  | refine LeO.ite ?_ ?_
  | refine LeO.bind ?_ (fun _ => ?_)
theorem arboristref08_Neighbors.mono : ∀ a0 a1 k, LeO (arboristref08_Neighbors.f k a0 a1) (arboristref08_Neighbors.f (k + 1) a0 a1) := by
 intro a0 a1 k
 obtain ⟨ih0, ih1⟩ := arboristref08_Neighbors.mono_l k;unfold arboristref08_Neighbors.f
 repeat' first
   | (with_reducible first | exact ih0 _ _ _ _ | exact ih1 _ _ _ _ _ | exact LeO.refl _ | exact LeO.none _ | refine LeO.ite ?_ ?_ | refine LeO.bind ?_ (fun _ => ?_))
   | exact ih0 _ _ _ _
   | exact ih1 _ _ _ _ _
   | exact LeO.none _
   | refine LeO.ite ?_ ?_
   | refine LeO.bind ?_ (fun _ => ?_)
set_option maxHeartbeats 8000000 in
set_option maxRecDepth 100000 in
theorem arboristref08_Neighbors.calls (k : Nat) (A0 : Option Addr) (c0 : Nat) (l0 : List (List Bool)) (a1 : Int) (r : List Int) (w : World) (hr0 : Kd.C (Kd.slice 4 Kd.bool) w A0 l0.length l0) (hc0 : l0.length ≤ c0) (h : arboristref08_Neighbors.f k l0 a1 = some r) :
  Calls Tryd.prog 27 #[.slice A0 l0.length c0, .int .i64 a1] w fun e w' => ∃ v0_ : Value, e = .returned (v0_) ∧ Kd.R (Kd.int .i64) 3 w' w.heap.size (fun _ => True) v0_ r ∧ Below w.heap.size w w' := by
 have HR0 := Aside0.mk hr0;have HC0 := Aside0.mk hc0;clear hr0 hc0;have HB := Aside0.mk (Below.refl w.heap.size w);have H : (arboristref08_Neighbors.l0 k l0 a1 (([] : List Int)) 0) = some r := h;clear h;obtain ⟨y466, hy466⟩ : ∃ y_ : List Int, y_ = (([] : List Int)) := ⟨_, rfl⟩;replace H : (arboristref08_Neighbors.l0 k l0 a1 y466 0) = some r := by first | (rw [hy466]; with_reducible exact H) | (have H2_ := (Option.bind_some _ _).symm.trans H; rw [hy466]; with_reducible exact H2_) | (have H2_ := (Option.bind_some _ _).symm.trans H; with_reducible exact H2_) | with_reducible exact H | (rw [hy466]; exact H) | exact H
 have Ny466 := Aside0.mk hy466;clear hy466;have H' := Aside0.mk H;clear H;go_enter Tryd.func27, Tryd.ntmps27
 go_wp2_with (first | ((with_reducible refine gate_dst (N := 7) rfl ?_); (try (refine gate_guard (by rfl) ?_; dsimp only)); refine Kd.R_lit (Kd.int .i64) _ 3 ?hg (N := 7) ?hd (xs := ([] : List Int)) (inner := []) (ok := fun _ => True) (okp := fun _ => True) ?hr ?hp (fun _ hk => hk) trivial (Below.refl _ _) (Nat.le_refl _) (by simp) ?_; (case hd => rfl); (case hg => rfl); (case hr => first | (go_simp; done) | (go_simp; rfl)); (case hp => exact (Reps.none _ _)); intro v467 w3 ho4 hb hg_ hnew_; clear hg_ hnew_; (first | rw [← Ny466.out] at ho4 | (simp only [Int.reduceToNat] at ho4; rw [← Ny466.out] at ho4)); have n0_ := Aside0.mk (Kd.R_lower ho4 (below_size (qB HB.out))); have n1_ := Aside0.mk (below_step (qB HB.out) hb); clear HB; have HO468 := n0_; have HB := n1_; clear n0_ n1_; clear hb ho4))
 go_loopg [5, 6] k (fun kq v5 v6 w' => ∃ (x5_1 : List Int) (x6_1 : Int), v6 = .int .i64 x6_1 ∧ Aside0 (arboristref08_Neighbors.l0 kq l0 a1 x5_1 x6_1 = some r) ∧ Aside0 (kq ≤ k) ∧ Aside0 (Kd.R (Kd.int .i64) 3 w' w.heap.size (fun _ => True) v5 x5_1) ∧ Aside0 (Below w.heap.size w w'))
 case atStart => exact ⟨(y466), (0), (by first | rfl | (simp; done) | (simp [*]; done)), H', ⟨Nat.le_refl _⟩, ⟨by (with_reducible repeat (first | apply Kd.R_alloc | apply Kd.R_drewN | apply Kd.R_drew)); exact HO468.out⟩, ⟨by repeat (first | (with_reducible first | exact HB.out | apply below_alloc | apply pw_below_drewN | apply below_drew1) | exact HB.out)⟩⟩
 case round =>
  clear H';try clear c2
  try clear p2
  obtain ⟨x5_1, x6_1, rfl, HA, HK1, HO_5, HB⟩ := hrel;cases gk with
  | zero => exact absurd HA.out (by simp [arboristref08_Neighbors.l0])
  | succ k1 =>
   have H := HA.out;clear HA;simp only [arboristref08_Neighbors.l0] at H
   have HC5 := Aside0.mk H;clear H;go_upto_region 3 with (fail)
   go_cut [21] (fun v21 wc => ∃ (kq : Nat) (x21_4 : Bool), v21 = .bool x21_4 ∧ Aside0 (arboristref08_Neighbors.j1 kq l0 a1 x5_1 x6_1 x21_4 = some r) ∧ Aside0 (kq ≤ k1) ∧ Aside0 (Kd.R (Kd.int .i64) 3 wc w.heap.size (fun _ => True) u5 x5_1) ∧ Aside0 (Below w.heap.size w wc))
   case first =>
    have H := HC5.out;clear HC5;by_cases c6 : x6_1 < (l0.length : Int)
    ·rw [if_pos c6] at H
     have c6b0 : decide (x6_1 < (l0.length : Int)) = true := decide_eq_true c6;clear c6;(first | rw [c6b0] | (simp only [i64_w, i32_w]; rw [c6b0]) | skip);by_cases c7 : a1 ≥ 0
     ·rw [if_pos c7] at H
      have c7b0 : decide (0 ≤ a1) = true := decide_eq_true c7;clear c7;have H' := Aside0.mk H;clear H;go_wp2
      go_meet
      case rel => exact ⟨_, (decide (a1 < (l0.length : Int))), (by first | rfl | (simp; done) | (simp [*]; done)), H', ⟨by have := HK1.out; first | omega | exact Nat.le_refl _⟩, ⟨by (with_reducible repeat (first | apply Kd.R_alloc | apply Kd.R_drewN | apply Kd.R_drew)); exact HO_5.out⟩, ⟨by repeat (first | (with_reducible first | exact HB.out | apply below_alloc | apply pw_below_drewN | apply below_drew1) | exact HB.out)⟩⟩
     ·rw [if_neg c7] at H
      have c7b0 : decide (0 ≤ a1) = false := decide_eq_false c7;clear c7;have H' := Aside0.mk H;clear H;go_wp2
      go_meet
      case rel => exact ⟨_, (false), (by first | rfl | (simp; done) | (simp [*]; done)), H', ⟨by have := HK1.out; first | omega | exact Nat.le_refl _⟩, ⟨by (with_reducible repeat (first | apply Kd.R_alloc | apply Kd.R_drewN | apply Kd.R_drew)); exact HO_5.out⟩, ⟨by repeat (first | (with_reducible first | exact HB.out | apply below_alloc | apply pw_below_drewN | apply below_drew1) | exact HB.out)⟩⟩
    ·rw [if_neg c6] at H
     have c6b0 : decide (x6_1 < (l0.length : Int)) = false := decide_eq_false c6;clear c6;(first | rw [c6b0] | (simp only [i64_w, i32_w]; rw [c6b0]) | skip);have H' := Aside0.mk H;clear H;go_wp2
     go_meet
     case rel => exact ⟨_, (false), (by first | rfl | (simp; done) | (simp [*]; done)), H', ⟨by have := HK1.out; first | omega | exact Nat.le_refl _⟩, ⟨by (with_reducible repeat (first | apply Kd.R_alloc | apply Kd.R_drewN | apply Kd.R_drew)); exact HO_5.out⟩, ⟨by repeat (first | (with_reducible first | exact HB.out | apply below_alloc | apply pw_below_drewN | apply below_drew1) | exact HB.out)⟩⟩
   case rest =>
    clear HC5;try clear c2
    try clear p2
    try clear c6
    try clear c6b0
    try clear c7
    try clear c7b0
    try clear p2
    obtain ⟨kq, x21_4, rfl, HA, HJ4, HO_5, HB⟩ := hcut;cases kq with
    | zero => exact absurd HA.out (by simp [arboristref08_Neighbors.j1])
    | succ kj4 =>
     have H := HA.out;clear HA;simp only [arboristref08_Neighbors.j1] at H
     by_cases c8 : x21_4 = true
     ·subst c8;replace H : (if 0 ≤ a1 then (if a1 < (l0.length : Int) then (if 0 ≤ x6_1 then (if x6_1 < ((rd_L8 l0 a1).length : Int) then (if rdOf false (rd_L8 l0 a1) x6_1 = true then (if x5_1.length < 17592186044416 then (arboristref08_Neighbors.l0 kj4 l0 a1 (x5_1 ++ [x6_1]) (wrap64 (x6_1 + 1))) else (none)) else (arboristref08_Neighbors.l0 kj4 l0 a1 x5_1 (wrap64 (x6_1 + 1)))) else (none)) else (none)) else (none)) else (none)) = some r := by rw [if_pos rfl] at H; exact H
      by_cases c9 : 0 ≤ a1
      ·rw [if_pos c9] at H
       have c9b0 : decide (0 ≤ a1) = true := decide_eq_true c9;clear c9;by_cases c10 : a1 < (l0.length : Int)
       ·rw [if_pos c10] at H
        have c10b0 : decide (a1 < (l0.length : Int)) = true := decide_eq_true c10;clear c10;by_cases c11 : 0 ≤ x6_1
        ·rw [if_pos c11] at H
         have c11b0 : decide (0 ≤ x6_1) = true := decide_eq_true c11;clear c11;by_cases c12 : x6_1 < ((rd_L8 l0 a1).length : Int)
         ·rw [if_pos c12] at H
          have c12b0 : decide (x6_1 < ((rd_L8 l0 a1).length : Int)) = true := decide_eq_true c12;clear c12;obtain ⟨bq13, hbq13⟩ : ∃ b_ : Bool, b_ = (rdOf false (rd_L8 l0 a1) x6_1) := ⟨_, rfl⟩;replace H : (if bq13 = true then (if x5_1.length < 17592186044416 then (arboristref08_Neighbors.l0 kj4 l0 a1 (x5_1 ++ [x6_1]) (wrap64 (x6_1 + 1))) else (none)) else (arboristref08_Neighbors.l0 kj4 l0 a1 x5_1 (wrap64 (x6_1 + 1)))) = some r := by rw [← hbq13] at H; exact H
          have Nbq13 := Aside0.mk hbq13;clear hbq13;by_cases c14 : bq13 = true
          ·subst c14;replace H : (if x5_1.length < 17592186044416 then (arboristref08_Neighbors.l0 kj4 l0 a1 (x5_1 ++ [x6_1]) (wrap64 (x6_1 + 1))) else (none)) = some r := by rw [if_pos rfl] at H; exact H
           by_cases c15 : x5_1.length < 17592186044416
           ·rw [if_pos c15] at H
            have LMc15 := Aside0.mk c15;clear c15;obtain ⟨y471, hy471⟩ : ∃ y_ : List Int, y_ = (x5_1 ++ [x6_1]) := ⟨_, rfl⟩;replace H : (arboristref08_Neighbors.l0 kj4 l0 a1 y471 (wrap64 (x6_1 + 1))) = some r := by first | (rw [hy471]; with_reducible exact H) | (have H2_ := (Option.bind_some _ _).symm.trans H; rw [hy471]; with_reducible exact H2_) | (have H2_ := (Option.bind_some _ _).symm.trans H; with_reducible exact H2_) | with_reducible exact H | (rw [hy471]; exact H) | exact H
            have Ny471 := Aside0.mk hy471;clear hy471;have H' := Aside0.mk H;clear H;have p469 : 0 ≤ (a1 : Int) := of_decide_eq_true qA;have q469 : a1 < (l0.length : Int) := of_decide_eq_true qA;obtain ⟨ad469, A469_0, c469_0, e469, hx469_0, hl469_0, hi469_0⟩ := at_L8 HR0.out a1 p469 q469;cases e469
            replace hx469_0 := (HB.out.cell (World.block_lt_of_cell? w _ hx469_0)).trans hx469_0;have HR469_0 := Aside0.mk hi469_0;have HC469_0 := Aside0.mk hl469_0;clear hi469_0 hl469_0;replace p469 := eq_true p469;replace q469 := eq_true q469;have p470 : 0 ≤ (x6_1 : Int) := of_decide_eq_true qA;have q470 : x6_1 < ((rd_L8 l0 a1).length : Int) := of_decide_eq_true qA;obtain ⟨ad470, e470, hx470_0⟩ := Kd.at_bool HR469_0.out x6_1 p470 q470;(try rw [← Nbq13.out] at hx470_0);cases e470
            replace hx470_0 := (HB.out.cell (World.block_lt_of_cell? w _ hx470_0)).trans hx470_0;replace p470 := eq_true p470;replace q470 := eq_true q470;go_wp2_with (first | ((with_reducible refine gate_builtin (b := .append) (xs := #[.tmp 31, .tmp 33]) rfl ?_); (try (refine gate_guard (by rfl) ?_; dsimp only)); at_builtin; refine Kd.R_append (Kd.int .i64) (w0 := w) w.heap.size rfl (.tmp 31) (.tmp 33) 23 3 (.int .i64 0) 8 rfl Tryd.underlying23 info3 rfl (by decide) (by omega) u5 x5_1 x6_1 [.int .i64 x6_1] (fun _ => True) (fun _ => False) rfl rfl ?aP (fun _ hk => hk.elim) ?aF ?aO ?aB ?aS ?aL ?_; (case aP => exact rfl); (case aB => exact (qB HB.out)); (case aF => exact (fun _ _ => trivial)); (case aO => exact (qR HO_5.out)); (case aS => exact (below_size (qB HB.out))); (case aL => have := LMc15.out; omega); intro v472 w16 ho hb hg hat; rw [← Ny471.out] at ho; have n0_ := Aside0.mk (hb); have n1_ := Aside0.mk (ho); clear HB; clear HO_5; have HB := n0_; have HO473 := n1_; clear n0_ n1_; clear ho hb hg hat))
            go_roundg kj4
            case measure => have := HK1.out; have := HJ4.out; omega
            case rel => exact ⟨(y471), (wrap64 (x6_1 + 1)), (by first | rfl | (simp; done) | (simp [*]; done)), H', ⟨by have := HK1.out; have := HJ4.out; omega⟩, ⟨by (with_reducible repeat (first | apply Kd.R_alloc | apply Kd.R_drewN | apply Kd.R_drew)); exact HO473.out⟩, ⟨by repeat (first | (with_reducible first | exact HB.out | apply below_alloc | apply pw_below_drewN | apply below_drew1) | exact HB.out)⟩⟩
           ·rw [if_neg c15] at H
            exact absurd H (by simp)
          ·replace c14 := Bool.eq_false_iff.mpr c14;subst c14;replace H : (arboristref08_Neighbors.l0 kj4 l0 a1 x5_1 (wrap64 (x6_1 + 1))) = some r := by rw [if_neg (show ¬ (false = true) by decide)] at H; exact H
           have H' := Aside0.mk H;clear H;have p469 : 0 ≤ (a1 : Int) := of_decide_eq_true qA;have q469 : a1 < (l0.length : Int) := of_decide_eq_true qA;obtain ⟨ad469, A469_0, c469_0, e469, hx469_0, hl469_0, hi469_0⟩ := at_L8 HR0.out a1 p469 q469;cases e469
           replace hx469_0 := (HB.out.cell (World.block_lt_of_cell? w _ hx469_0)).trans hx469_0;have HR469_0 := Aside0.mk hi469_0;have HC469_0 := Aside0.mk hl469_0;clear hi469_0 hl469_0;replace p469 := eq_true p469;replace q469 := eq_true q469;have p470 : 0 ≤ (x6_1 : Int) := of_decide_eq_true qA;have q470 : x6_1 < ((rd_L8 l0 a1).length : Int) := of_decide_eq_true qA;obtain ⟨ad470, e470, hx470_0⟩ := Kd.at_bool HR469_0.out x6_1 p470 q470;(try rw [← Nbq13.out] at hx470_0);cases e470
           replace hx470_0 := (HB.out.cell (World.block_lt_of_cell? w _ hx470_0)).trans hx470_0;replace p470 := eq_true p470;replace q470 := eq_true q470;go_wp2
           go_roundg kj4
           case measure => have := HK1.out; have := HJ4.out; omega
           case rel => exact ⟨(x5_1), (wrap64 (x6_1 + 1)), (by first | rfl | (simp; done) | (simp [*]; done)), H', ⟨by have := HK1.out; have := HJ4.out; omega⟩, ⟨by (with_reducible repeat (first | apply Kd.R_alloc | apply Kd.R_drewN | apply Kd.R_drew)); exact HO_5.out⟩, ⟨by repeat (first | (with_reducible first | exact HB.out | apply below_alloc | apply pw_below_drewN | apply below_drew1) | exact HB.out)⟩⟩
         ·rw [if_neg c12] at H
          exact absurd H (by simp)
        ·rw [if_neg c11] at H
         exact absurd H (by simp)
       ·rw [if_neg c10] at H
        exact absurd H (by simp)
      ·rw [if_neg c9] at H
       exact absurd H (by simp)
     ·replace c8 := Bool.eq_false_iff.mpr c8;subst c8;replace H : (some x5_1) = some r := by rw [if_neg (show ¬ (false = true) by decide)] at H; exact H
      obtain rfl := Option.some.inj H;go_wp2
      go_ret
      exact ⟨_, by first | rfl | (simp [errW_none, errW_some] <;> rfl) | (simp [*, errW_none, errW_some] <;> rfl), by (with_reducible repeat (first | apply Kd.R_alloc | apply Kd.R_drewN | apply Kd.R_drew)); exact HO_5.out, by repeat (first | (with_reducible first | exact HB.out | apply below_alloc | apply pw_below_drewN | apply below_drew1) | exact HB.out)⟩
/-! ### arboristref09_Copy: function 36 -/
def arboristref09_Copy.l0 : Nat → List (List Bool) → List (List Bool) → Int → Option ((List (List Bool)))
 | 0, _, _, _ => none
 | k + 1, x0, x3, x4 => if x4 < (x0.length : Int) then ((some (([] : List Bool) : List Bool)).bind fun y477 => (if 0 ≤ x4 then (if y477.length + (rd_L8 x0 x4).length < 140737488355328 then (if x3.length < 5864062014805 then (arboristref09_Copy.l0 k x0 (x3 ++ [(y477 ++ (rd_L8 x0 x4))]) (wrap64 (x4 + 1))) else (none)) else (none)) else (none))) else (some x3)
def arboristref09_Copy.f (k : Nat) (l0 : List (List Bool)) : Option ((List (List Bool))) := arboristref09_Copy.l0 k l0 (([] : List (List Bool))) 0
theorem arboristref09_Copy.mono_l : ∀ k, (∀ y0 y1 y2, LeO (arboristref09_Copy.l0 k y0 y1 y2) (arboristref09_Copy.l0 (k + 1) y0 y1 y2))
 | 0 => fun _ _ _ r h => by simp [arboristref09_Copy.l0] at h
 | k + 1 => by
  have ih0 := arboristref09_Copy.mono_l k;all_goals intros
  all_goals (first | unfold arboristref09_Copy.l0)
  all_goals repeat' first
  | (with_reducible first | exact ih0 _ _ _ | exact LeO.refl _ | exact LeO.none _ | refine LeO.ite ?_ ?_ | refine LeO.bind ?_ (fun _ => ?_))
  | exact ih0 _ _ _
  | exact LeO.none _
  | refine LeO.ite ?_ ?_
  | refine LeO.bind ?_ (fun _ => ?_)
theorem arboristref09_Copy.mono : ∀ a0 k, LeO (arboristref09_Copy.f k a0) (arboristref09_Copy.f (k + 1) a0) := by
 intro a0 k
 have ih0 := arboristref09_Copy.mono_l k;unfold arboristref09_Copy.f
 repeat' first
   | (with_reducible first | exact ih0 _ _ _ | exact LeO.refl _ | exact LeO.none _ | refine LeO.ite ?_ ?_ | refine LeO.bind ?_ (fun _ => ?_))
   | exact ih0 _ _ _
   | exact LeO.none _
   | refine LeO.ite ?_ ?_
   | refine LeO.bind ?_ (fun _ => ?_)
set_option maxHeartbeats 8000000 in
set_option maxRecDepth 100000 in
theorem arboristref09_Copy.calls (k : Nat) (A0 : Option Addr) (c0 : Nat) (l0 : List (List Bool)) (r : List (List Bool)) (w : World) (hr0 : Kd.C (Kd.slice 4 Kd.bool) w A0 l0.length l0) (hc0 : l0.length ≤ c0) (h : arboristref09_Copy.f k l0 = some r) :
  Calls Tryd.prog 36 #[.slice A0 l0.length c0] w fun e w' => ∃ v0_ : Value, e = .returned (v0_) ∧ Kd.S (Kd.slice 4 Kd.bool) 40 w' w.heap.size (fun _ => True) v0_ r ∧ Below w.heap.size w w' := by
 have HR0 := Aside0.mk hr0;have HC0 := Aside0.mk hc0;clear hr0 hc0;have HB := Aside0.mk (Below.refl w.heap.size w);have H : (arboristref09_Copy.l0 k l0 (([] : List (List Bool))) 0) = some r := h;clear h;obtain ⟨y474, hy474⟩ : ∃ y_ : List (List Bool), y_ = (([] : List (List Bool))) := ⟨_, rfl⟩;replace H : (arboristref09_Copy.l0 k l0 y474 0) = some r := by first | (rw [hy474]; with_reducible exact H) | (have H2_ := (Option.bind_some _ _).symm.trans H; rw [hy474]; with_reducible exact H2_) | (have H2_ := (Option.bind_some _ _).symm.trans H; with_reducible exact H2_) | with_reducible exact H | (rw [hy474]; exact H) | exact H
 have Ny474 := Aside0.mk hy474;clear hy474;have H' := Aside0.mk H;clear H;go_enter Tryd.func36, Tryd.ntmps36
 go_wp2_with (first | ((with_reducible refine gate_dst (N := 5) rfl ?_); refine Kd.S_lit (Kd.slice 4 Kd.bool) _ 40 ?hg (N := 5) ?hd (xs := ([] : List (List Bool))) (inner := []) (ok := fun _ => True) (okp := fun _ => True) ?hr ?hp (fun _ hk => hk) trivial (Below.refl _ _) (Nat.le_refl _) (by simp) ?_; (case hd => rfl); (case hg => rfl); (case hr => first | (go_simp; done) | (go_simp; rfl)); (case hp => exact (Reps.none _ _)); intro v475 w2 ho3 hb hg_ hnew_; clear hg_ hnew_; (first | rw [← Ny474.out] at ho3 | (simp only [Int.reduceToNat] at ho3; rw [← Ny474.out] at ho3)); have n0_ := Aside0.mk (Kd.S_lower ho3 (below_size (qB HB.out))); have n1_ := Aside0.mk (below_step (qB HB.out) hb); clear HB; have HO476 := n0_; have HB := n1_; clear n0_ n1_; clear hb ho3))
 go_loopg [3, 4] k (fun kq v3 v4 w' => ∃ (x3_1 : List (List Bool)) (x4_1 : Int), v4 = .int .i64 x4_1 ∧ Aside0 (arboristref09_Copy.l0 kq l0 x3_1 x4_1 = some r) ∧ Aside0 (kq ≤ k) ∧ Aside0 (Kd.S (Kd.slice 4 Kd.bool) 40 w' w.heap.size (fun _ => True) v3 x3_1) ∧ Aside0 (Below w.heap.size w w'))
 case atStart => exact ⟨(y474), (0), (by first | rfl | (simp; done) | (simp [*]; done)), H', ⟨Nat.le_refl _⟩, ⟨by (with_reducible repeat (first | apply Kd.S_alloc | apply Kd.S_drewN | apply Kd.S_drew)); exact HO476.out⟩, ⟨by repeat (first | (with_reducible first | exact HB.out | apply below_alloc | apply pw_below_drewN | apply below_drew1) | exact HB.out)⟩⟩
 case round =>
  clear H';try clear p2
  try clear c3
  obtain ⟨x3_1, x4_1, rfl, HA, HK1, HO_3, HB⟩ := hrel;cases gk with
  | zero => exact absurd HA.out (by simp [arboristref09_Copy.l0])
  | succ k1 =>
   have H := HA.out;clear HA;simp only [arboristref09_Copy.l0] at H
   by_cases c4 : x4_1 < (l0.length : Int)
   ·rw [if_pos c4] at H
    have c4b0 : decide (x4_1 < (l0.length : Int)) = true := decide_eq_true c4;clear c4;obtain ⟨y477, hy477⟩ : ∃ y_ : List Bool, y_ = (([] : List Bool)) := ⟨_, rfl⟩;replace H : (if 0 ≤ x4_1 then (if y477.length + (rd_L8 l0 x4_1).length < 140737488355328 then (if x3_1.length < 5864062014805 then (arboristref09_Copy.l0 k1 l0 (x3_1 ++ [(y477 ++ (rd_L8 l0 x4_1))]) (wrap64 (x4_1 + 1))) else (none)) else (none)) else (none)) = some r := by first | (rw [hy477]; with_reducible exact H) | (have H2_ := (Option.bind_some _ _).symm.trans H; rw [hy477]; with_reducible exact H2_) | (have H2_ := (Option.bind_some _ _).symm.trans H; with_reducible exact H2_) | with_reducible exact H | (rw [hy477]; exact H) | exact H
    have Ny477 := Aside0.mk hy477;clear hy477;by_cases c5 : 0 ≤ x4_1
    ·rw [if_pos c5] at H
     have c5b0 : decide (0 ≤ x4_1) = true := decide_eq_true c5;clear c5;by_cases c6 : y477.length + (rd_L8 l0 x4_1).length < 140737488355328
     ·rw [if_pos c6] at H
      have LMc6 := Aside0.mk c6;clear c6;obtain ⟨y481, hy481⟩ : ∃ y_ : List Bool, y_ = (y477 ++ (rd_L8 l0 x4_1)) := ⟨_, rfl⟩;replace H : (if x3_1.length < 5864062014805 then (arboristref09_Copy.l0 k1 l0 (x3_1 ++ [y481]) (wrap64 (x4_1 + 1))) else (none)) = some r := by first | (rw [hy481]; with_reducible exact H) | (have H2_ := (Option.bind_some _ _).symm.trans H; rw [hy481]; with_reducible exact H2_) | (have H2_ := (Option.bind_some _ _).symm.trans H; with_reducible exact H2_) | with_reducible exact H | (rw [hy481]; exact H) | exact H
      have Ny481 := Aside0.mk hy481;clear hy481;by_cases c7 : x3_1.length < 5864062014805
      ·rw [if_pos c7] at H
       have LMc7 := Aside0.mk c7;clear c7;obtain ⟨y484, hy484⟩ : ∃ y_ : List (List Bool), y_ = (x3_1 ++ [y481]) := ⟨_, rfl⟩;replace H : (arboristref09_Copy.l0 k1 l0 y484 (wrap64 (x4_1 + 1))) = some r := by first | (rw [hy484]; with_reducible exact H) | (have H2_ := (Option.bind_some _ _).symm.trans H; rw [hy484]; with_reducible exact H2_) | (have H2_ := (Option.bind_some _ _).symm.trans H; with_reducible exact H2_) | with_reducible exact H | (rw [hy484]; exact H) | exact H
       have Ny484 := Aside0.mk hy484;clear hy484;have H' := Aside0.mk H;clear H;go_wp2_with (first | ((with_reducible refine gate_dst (N := 13) rfl ?_); refine Kd.R_lit Kd.bool _ 4 ?hg (N := 13) ?hd (xs := ([] : List Bool)) (inner := []) (ok := fun _ => True) (okp := fun _ => True) ?hr ?hp (fun _ hk => hk) trivial (Below.refl _ _) (Nat.le_refl _) (by simp) ?_; (case hd => rfl); (case hg => rfl); (case hr => first | (go_simp; done) | (go_simp; rfl)); (case hp => exact (Reps.none _ _)); intro v478 w8 ho9 hb hg_ hnew_; clear hg_ hnew_; (first | rw [← Ny477.out] at ho9 | (simp only [Int.reduceToNat] at ho9; rw [← Ny477.out] at ho9)); have n0_ := Aside0.mk (Kd.S_elder' (qS HO_3.out) (Kd.R_base ho9) hb); have n1_ := Aside0.mk (Kd.R_lower ho9 (below_size (qB HB.out))); have n2_ := Aside0.mk (below_step (qB HB.out) hb); clear HO_3; clear HB; have HO_3 := n0_; have HO479 := n1_; have HB := n2_; clear n0_ n1_ n2_; clear hb ho9; have p480 : 0 ≤ (x4_1 : Int) := of_decide_eq_true qA; have q480 : x4_1 < (l0.length : Int) := of_decide_eq_true qA; obtain ⟨ad480, A480_0, c480_0, e480, hx480_0, hl480_0, hi480_0⟩ := at_L8 HR0.out x4_1 p480 q480; cases e480; replace hx480_0 := (HB.out.cell (World.block_lt_of_cell? w _ hx480_0)).trans hx480_0; have HR480_0 := Aside0.mk hi480_0; have HC480_0 := Aside0.mk hl480_0; clear hi480_0 hl480_0; replace p480 := eq_true p480; replace q480 := eq_true q480) | ((with_reducible refine gate_builtin (b := .append) (xs := #[.tmp 13, .tmp 17]) rfl ?_); at_builtin; refine Kd.R_append_rows Kd.bool (w0 := w) w.heap.size rfl (.tmp 13) (.tmp 17) 40 4 (.bool false) 1 rfl Tryd.underlying40 info4 rfl (by decide) (by omega) v478 y477 (rd_L8 l0 x4_1) _ _ _ (fun _ => True) (fun _ => False) rfl rfl ?aO ?aR (fun _ _ h => h) (fun _ h => h.elim) ?aF ?aB ?aS ?aL ?_; (case aR => repeat (first | exact (Kd.C_below HR480_0.out HB.out) | (with_reducible refine Kd.C_alloc ?_ _) | (with_reducible refine Kd.C_drewN ?_ _) | (with_reducible refine Kd.C_drew ?_))); (case aB => exact (qB HB.out)); (case aF => exact (fun _ _ => trivial)); (case aO => exact (qR HO479.out)); (case aS => exact (below_size (qB HB.out))); (case aL => have := LMc6.out; omega); intro v482 w10 ho hb hg hat; rw [← Ny481.out] at ho; have n0_ := Aside0.mk (Kd.S_after (ok := (fun _ => True)) (qS HO_3.out) hg hat); have n1_ := Aside0.mk (hb); have n2_ := Aside0.mk (ho); clear HO_3; clear HB; clear HO479; have HO_3 := n0_; have HB := n1_; have HO483 := n2_; clear n0_ n1_ n2_; clear ho hb hg hat; obtain ⟨Ao12, co12, eo12⟩ := Kd.R_slice HO483.out; subst eo12) | ((with_reducible refine gate_builtin (b := .append) (xs := #[.tmp 12, .tmp 19]) rfl ?_); at_builtin; refine Kd.S_append (Kd.slice 4 Kd.bool) (w0 := w) w.heap.size rfl (.tmp 12) (.tmp 19) 25 40 (.slice none 0 0) 24 rfl Tryd.underlying25 info40 rfl (by decide) (by omega) u3 x3_1 y481 [.slice Ao12 y481.length co12] (fun _ => True) (fun k_ => some k_ = (.slice Ao12 y481.length co12 : Value).ownBlock) rfl rfl ?aP (fun k_ hk_ => ((Kd.R_mono (ok' := fun k_ => ((fun _ => True)) k_ ∧ some k_ ≠ (u3 : Value).ownBlock) (Kd.R_apart' (HO483.out) (Kd.S_typed HO_3.out) (by decide)) (fun k_ hk => ⟨trivial, hk.2⟩))).1 k_ hk_.symm) ?aF ?aO ?aB ?aS ?aL ?_; (case aP => exact Kd.M_row (Kd.R_mono (Kd.R_tight rfl (Kd.R_mono (ok' := fun k_ => ((fun _ => True)) k_ ∧ some k_ ≠ (u3 : Value).ownBlock) (Kd.R_apart' (HO483.out) (Kd.S_typed HO_3.out) (by decide)) (fun k_ hk => ⟨trivial, hk.2⟩))) (fun _ h_ => h_))); (case aB => exact (qB HB.out)); (case aF => exact (fun _ _ => trivial)); (case aO => exact (by (with_reducible repeat (first | apply Kd.S_alloc | apply Kd.S_drewN | apply Kd.S_drew)); exact Kd.S_mono HO_3.out (fun k_ hk => ⟨trivial, fun e_ => hk.2 e_⟩))); (case aS => exact (below_size (qB HB.out))); (case aL => have := LMc7.out; omega); intro v485 w11 ho hb hg hat; rw [← Ny484.out] at ho; have n0_ := Aside0.mk (hb); have n1_ := Aside0.mk (ho); clear HB; clear HO_3; clear HO483; have HB := n0_; have HO486 := n1_; clear n0_ n1_; clear ho hb hg hat))
       go_roundg k1
       case measure => have := HK1.out; omega
       case rel => exact ⟨(y484), (wrap64 (x4_1 + 1)), (by first | rfl | (simp; done) | (simp [*]; done)), H', ⟨by have := HK1.out; omega⟩, ⟨by (with_reducible repeat (first | apply Kd.S_alloc | apply Kd.S_drewN | apply Kd.S_drew)); exact HO486.out⟩, ⟨by repeat (first | (with_reducible first | exact HB.out | apply below_alloc | apply pw_below_drewN | apply below_drew1) | exact HB.out)⟩⟩
      ·rw [if_neg c7] at H
       exact absurd H (by simp)
     ·rw [if_neg c6] at H
      exact absurd H (by simp)
    ·rw [if_neg c5] at H
     exact absurd H (by simp)
   ·rw [if_neg c4] at H
    have c4b0 : decide (x4_1 < (l0.length : Int)) = false := decide_eq_false c4;clear c4;obtain rfl := Option.some.inj H;go_wp2
    go_ret
    exact ⟨_, by first | rfl | (simp [errW_none, errW_some] <;> rfl) | (simp [*, errW_none, errW_some] <;> rfl), by (with_reducible repeat (first | apply Kd.S_alloc | apply Kd.S_drewN | apply Kd.S_drew)); exact HO_3.out, by repeat (first | (with_reducible first | exact HB.out | apply below_alloc | apply pw_below_drewN | apply below_drew1) | exact HB.out)⟩
end Go.Proofs.YtbdlelojlnhhfaaDoor.Pr
namespace Go.Proofs.YtbdlelojlnhhfaaDoor.Pr
open Go.RowKit Go.Proofs.YtbdlelojlnhhfaaDoorW.PrintWords Go.Proofs.YtbdlelojlnhhfaaDoorW.PrintLast Go.Proofs.YtbdlelojlnhhfaaDoorW.PrintMore
attribute [local go_sem] max2_int min2_int max_two min_two max_three min_three max_four min_four
set_option linter.unusedVariables false
set_option linter.unusedSimpArgs false
/-! ### arboristref01_Unite: function 37 -/
mutual
def arboristref01_Unite.l0 : Nat → List Int → List Int → List Int → Int → Int → Option (List Int)
 | 0, _, _, _, _, _ => none
 | k + 1, x0, x5, x6, x7, x8 => if x7 < (x0.length : Int) then (arboristref01_Unite.j1 k x0 x5 x6 x7 x8 true) else (arboristref01_Unite.j1 k x0 x5 x6 x7 x8 (decide (x8 < (x6.length : Int))))
def arboristref01_Unite.j1 : Nat → List Int → List Int → List Int → Int → Int → Bool → Option (List Int)
 | 0, _, _, _, _, _, _ => none
 | k + 1, x0, x5, x6, x7, x8, x22 => if x22 = true then (if x8 = (x6.length : Int) then (if 0 ≤ x7 then (if x7 < (x0.length : Int) then (if x5.length < 17592186044416 then (arboristref01_Unite.l0 k x0 (x5 ++ [rd x0 x7]) x6 (wrap64 (x7 + 1)) x8) else (none)) else (none)) else (none)) else (if x7 < (x0.length : Int) then (if 0 ≤ x7 then (if 0 ≤ x8 then (if x8 < (x6.length : Int) then (if (rd x0 x7) < (rd x6 x8) then (if x5.length < 17592186044416 then (arboristref01_Unite.l0 k x0 (x5 ++ [rd x0 x7]) x6 (wrap64 (x7 + 1)) x8) else (none)) else (if x5.length < 17592186044416 then (arboristref01_Unite.l0 k x0 (x5 ++ [rd x6 x8]) x6 x7 (wrap64 (x8 + 1))) else (none))) else (none)) else (none)) else (none)) else (if 0 ≤ x8 then (if x8 < (x6.length : Int) then (if x5.length < 17592186044416 then (arboristref01_Unite.l0 k x0 (x5 ++ [rd x6 x8]) x6 x7 (wrap64 (x8 + 1))) else (none)) else (none)) else (none)))) else (some x5)
end
def arboristref01_Unite.f (k : Nat) (l0 : List Int) (l1 : List Int) : Option (List Int) := (arboristref01_Without.f k l1 l0).bind fun t490 => (arboristref01_Unite.l0 k l0 (([] : List Int)) t490 0 0)
theorem arboristref01_Unite.mono_l : ∀ k, (∀ y0 y1 y2 y3 y4, LeO (arboristref01_Unite.l0 k y0 y1 y2 y3 y4) (arboristref01_Unite.l0 (k + 1) y0 y1 y2 y3 y4)) ∧ (∀ y0 y1 y2 y3 y4 y5, LeO (arboristref01_Unite.j1 k y0 y1 y2 y3 y4 y5) (arboristref01_Unite.j1 (k + 1) y0 y1 y2 y3 y4 y5))
 | 0 => ⟨fun _ _ _ _ _ r h => by simp [arboristref01_Unite.l0] at h, fun _ _ _ _ _ _ r h => by simp [arboristref01_Unite.j1] at h⟩
 | k + 1 => by
  obtain ⟨ih0, ih1⟩ := arboristref01_Unite.mono_l k;refine ⟨?_, ?_⟩;all_goals intros
  all_goals (first | unfold arboristref01_Unite.l0 | unfold arboristref01_Unite.j1)
  all_goals repeat' first
  | (with_reducible first | exact ih0 _ _ _ _ _ | exact ih1 _ _ _ _ _ _ | exact arboristref01_Without.mono _ _ _ | exact LeO.refl _ | exact LeO.none _ | refine LeO.ite ?_ ?_ | refine LeO.bind ?_ (fun _ => ?_))
  | exact ih0 _ _ _ _ _
  | exact ih1 _ _ _ _ _ _
  | exact arboristref01_Without.mono _ _ _
  | exact LeO.none _
  | refine LeO.ite ?_ ?_
  | refine LeO.bind ?_ (fun _ => ?_)
theorem arboristref01_Unite.mono : ∀ a0 a1 k, LeO (arboristref01_Unite.f k a0 a1) (arboristref01_Unite.f (k + 1) a0 a1) := by
 intro a0 a1 k
 obtain ⟨ih0, ih1⟩ := arboristref01_Unite.mono_l k;unfold arboristref01_Unite.f
 repeat' first
   | (with_reducible first | exact ih0 _ _ _ _ _ | exact ih1 _ _ _ _ _ _ | exact arboristref01_Without.mono _ _ _ | exact LeO.refl _ | exact LeO.none _ | refine LeO.ite ?_ ?_ | refine LeO.bind ?_ (fun _ => ?_))
   | exact ih0 _ _ _ _ _
   | exact ih1 _ _ _ _ _ _
   | exact arboristref01_Without.mono _ _ _
   | exact LeO.none _
   | refine LeO.ite ?_ ?_
   | refine LeO.bind ?_ (fun _ => ?_)
set_option maxHeartbeats 8000000 in
set_option maxRecDepth 100000 in
theorem arboristref01_Unite.calls (k : Nat) (A0 : Option Addr) (c0 : Nat) (l0 : List Int) (A1 : Option Addr) (c1 : Nat) (l1 : List Int) (r : List Int) (w : World) (hr0 : Kd.C (Kd.int .i64) w A0 l0.length l0) (hc0 : l0.length ≤ c0) (hr1 : Kd.C (Kd.int .i64) w A1 l1.length l1) (hc1 : l1.length ≤ c1) (h : arboristref01_Unite.f k l0 l1 = some r) :
  Calls Tryd.prog 37 #[.slice A0 l0.length c0, .slice A1 l1.length c1] w fun e w' => ∃ v0_ : Value, e = .returned (v0_) ∧ Kd.R (Kd.int .i64) 3 w' w.heap.size (fun _ => True) v0_ r ∧ Below w.heap.size w w' := by
 have HR0 := Aside0.mk hr0;have HC0 := Aside0.mk hc0;clear hr0 hc0;have HR1 := Aside0.mk hr1;have HC1 := Aside0.mk hc1;clear hr1 hc1;have HB := Aside0.mk (Below.refl w.heap.size w);have H : ((arboristref01_Without.f k l1 l0).bind fun t490 => (arboristref01_Unite.l0 k l0 (([] : List Int)) t490 0 0)) = some r := h;clear h;obtain ⟨y487, hy487⟩ : ∃ y_ : List Int, y_ = (([] : List Int)) := ⟨_, rfl⟩;replace H : ((arboristref01_Without.f k l1 l0).bind fun t490 => (arboristref01_Unite.l0 k l0 y487 t490 0 0)) = some r := by first | (rw [hy487]; with_reducible exact H) | (have H2_ := (Option.bind_some _ _).symm.trans H; rw [hy487]; with_reducible exact H2_) | (have H2_ := (Option.bind_some _ _).symm.trans H; with_reducible exact H2_) | with_reducible exact H | (rw [hy487]; exact H) | exact H
 have Ny487 := Aside0.mk hy487;clear hy487;replace H := Option.bind_eq_some_iff.mp H;obtain ⟨t490, A30, H⟩ := H;(try dsimp only at H);have A3 := Aside0.mk A30;clear A30;have H' := Aside0.mk H;clear H;go_enter Tryd.func37, Tryd.ntmps37
 go_wp2_with (first | ((with_reducible refine gate_dst (N := 9) rfl ?_); (try (refine gate_guard (by rfl) ?_; dsimp only)); refine Kd.R_lit (Kd.int .i64) _ 3 ?hg (N := 9) ?hd (xs := ([] : List Int)) (inner := []) (ok := fun _ => True) (okp := fun _ => True) ?hr ?hp (fun _ hk => hk) trivial (Below.refl _ _) (Nat.le_refl _) (by simp) ?_; (case hd => rfl); (case hg => rfl); (case hr => first | (go_simp; done) | (go_simp; rfl)); (case hp => exact (Reps.none _ _)); intro v488 w4 ho5 hb hg_ hnew_; clear hg_ hnew_; (first | rw [← Ny487.out] at ho5 | (simp only [Int.reduceToNat] at ho5; rw [← Ny487.out] at ho5)); have n0_ := Aside0.mk (Kd.R_lower ho5 (below_size (qB HB.out))); have n1_ := Aside0.mk (below_step (qB HB.out) hb); clear HB; have HO489 := n0_; have HB := n1_; clear n0_ n1_; clear hb ho5) | (go_at_call 24; (with_reducible refine (arboristref01_Without.calls k _ _ l1 _ _ l0 t490 _ ?side1 ?side2 ?side3 ?side4 A3.out).mono ?_); (case side1 => repeat (first | exact (Kd.C_below HR1.out HB.out) | (with_reducible refine Kd.C_alloc ?_ _) | (with_reducible refine Kd.C_drewN ?_ _) | (with_reducible refine Kd.C_drew ?_))); (case side2 => exact HC1.out); (case side3 => repeat (first | exact (Kd.C_below HR0.out HB.out) | (with_reducible refine Kd.C_alloc ?_ _) | (with_reducible refine Kd.C_drewN ?_ _) | (with_reducible refine Kd.C_drew ?_))); (case side4 => exact HC0.out); rintro e w6 ⟨v491, rfl, ho0, hb⟩; have n0_ := Aside0.mk (Kd.R_elder' (qR HO489.out) (Kd.R_base ho0) hb); have n1_ := Aside0.mk (Kd.R_lower (Kd.R_new' ho0 (Kd.R_lt (qR HO489.out))) (below_size (qB HB.out))); have n2_ := Aside0.mk (below_step (qB HB.out) hb); clear HO489; clear HB; have HO489 := n0_; have HO492 := n1_; have HB := n2_; clear n0_ n1_ n2_; (try clear hb); (try clear hb2); (try clear hk); (try clear hi); (try clear ho0)))
 repeat (go_quiet (first | ((with_reducible refine gate_dst (N := 9) rfl ?_); (try (refine gate_guard (by rfl) ?_; dsimp only)); refine Kd.R_lit (Kd.int .i64) _ 3 ?hg (N := 9) ?hd (xs := ([] : List Int)) (inner := []) (ok := fun _ => True) (okp := fun _ => True) ?hr ?hp (fun _ hk => hk) trivial (Below.refl _ _) (Nat.le_refl _) (by simp) ?_; (case hd => rfl); (case hg => rfl); (case hr => first | (go_simp; done) | (go_simp; rfl)); (case hp => exact (Reps.none _ _)); intro v488 w4 ho5 hb hg_ hnew_; clear hg_ hnew_; (first | rw [← Ny487.out] at ho5 | (simp only [Int.reduceToNat] at ho5; rw [← Ny487.out] at ho5)); have n0_ := Aside0.mk (Kd.R_lower ho5 (below_size (qB HB.out))); have n1_ := Aside0.mk (below_step (qB HB.out) hb); clear HB; have HO489 := n0_; have HB := n1_; clear n0_ n1_; clear hb ho5) | (go_at_call 24; (with_reducible refine (arboristref01_Without.calls k _ _ l1 _ _ l0 t490 _ ?side1 ?side2 ?side3 ?side4 A3.out).mono ?_); (case side1 => repeat (first | exact (Kd.C_below HR1.out HB.out) | (with_reducible refine Kd.C_alloc ?_ _) | (with_reducible refine Kd.C_drewN ?_ _) | (with_reducible refine Kd.C_drew ?_))); (case side2 => exact HC1.out); (case side3 => repeat (first | exact (Kd.C_below HR0.out HB.out) | (with_reducible refine Kd.C_alloc ?_ _) | (with_reducible refine Kd.C_drewN ?_ _) | (with_reducible refine Kd.C_drew ?_))); (case side4 => exact HC0.out); rintro e w6 ⟨v491, rfl, ho0, hb⟩; have n0_ := Aside0.mk (Kd.R_elder' (qR HO489.out) (Kd.R_base ho0) hb); have n1_ := Aside0.mk (Kd.R_lower (Kd.R_new' ho0 (Kd.R_lt (qR HO489.out))) (below_size (qB HB.out))); have n2_ := Aside0.mk (below_step (qB HB.out) hb); clear HO489; clear HB; have HO489 := n0_; have HO492 := n1_; have HB := n2_; clear n0_ n1_ n2_; (try clear hb); (try clear hb2); (try clear hk); (try clear hi); (try clear ho0))); try go_wp2_with (first | ((with_reducible refine gate_dst (N := 9) rfl ?_); (try (refine gate_guard (by rfl) ?_; dsimp only)); refine Kd.R_lit (Kd.int .i64) _ 3 ?hg (N := 9) ?hd (xs := ([] : List Int)) (inner := []) (ok := fun _ => True) (okp := fun _ => True) ?hr ?hp (fun _ hk => hk) trivial (Below.refl _ _) (Nat.le_refl _) (by simp) ?_; (case hd => rfl); (case hg => rfl); (case hr => first | (go_simp; done) | (go_simp; rfl)); (case hp => exact (Reps.none _ _)); intro v488 w4 ho5 hb hg_ hnew_; clear hg_ hnew_; (first | rw [← Ny487.out] at ho5 | (simp only [Int.reduceToNat] at ho5; rw [← Ny487.out] at ho5)); have n0_ := Aside0.mk (Kd.R_lower ho5 (below_size (qB HB.out))); have n1_ := Aside0.mk (below_step (qB HB.out) hb); clear HB; have HO489 := n0_; have HB := n1_; clear n0_ n1_; clear hb ho5) | (go_at_call 24; (with_reducible refine (arboristref01_Without.calls k _ _ l1 _ _ l0 t490 _ ?side1 ?side2 ?side3 ?side4 A3.out).mono ?_); (case side1 => repeat (first | exact (Kd.C_below HR1.out HB.out) | (with_reducible refine Kd.C_alloc ?_ _) | (with_reducible refine Kd.C_drewN ?_ _) | (with_reducible refine Kd.C_drew ?_))); (case side2 => exact HC1.out); (case side3 => repeat (first | exact (Kd.C_below HR0.out HB.out) | (with_reducible refine Kd.C_alloc ?_ _) | (with_reducible refine Kd.C_drewN ?_ _) | (with_reducible refine Kd.C_drew ?_))); (case side4 => exact HC0.out); rintro e w6 ⟨v491, rfl, ho0, hb⟩; have n0_ := Aside0.mk (Kd.R_elder' (qR HO489.out) (Kd.R_base ho0) hb); have n1_ := Aside0.mk (Kd.R_lower (Kd.R_new' ho0 (Kd.R_lt (qR HO489.out))) (below_size (qB HB.out))); have n2_ := Aside0.mk (below_step (qB HB.out) hb); clear HO489; clear HB; have HO489 := n0_; have HO492 := n1_; have HB := n2_; clear n0_ n1_ n2_; (try clear hb); (try clear hb2); (try clear hk); (try clear hi); (try clear ho0))))
 go_loopg [5, 7, 8] k (fun kq v5 v7 v8 w' => ∃ (x5_1 : List Int) (x7_1 : Int) (x8_1 : Int), v7 = .int .i64 x7_1 ∧ v8 = .int .i64 x8_1 ∧ Aside0 (arboristref01_Unite.l0 kq l0 x5_1 t490 x7_1 x8_1 = some r) ∧ Aside0 (kq ≤ k) ∧ Aside0 (Kd.R (Kd.int .i64) 3 w' w.heap.size (fun k_ => some k_ ≠ (v491 : Value).ownBlock) v5 x5_1) ∧ Aside0 (Kd.R (Kd.int .i64) 3 w' w.heap.size (fun k_ => some k_ ≠ (v5 : Value).ownBlock) v491 t490) ∧ Aside0 (Below w.heap.size w w'))
 case atStart => exact ⟨(y487), (0), (0), (by first | rfl | (simp; done) | (simp [*]; done)), (by first | rfl | (simp; done) | (simp [*]; done)), H', ⟨Nat.le_refl _⟩, ⟨by (with_reducible repeat (first | apply Kd.R_alloc | apply Kd.R_drewN | apply Kd.R_drew)); exact Kd.R_mono HO489.out (fun _ hk => hk.2)⟩, ⟨by (with_reducible repeat (first | apply Kd.R_alloc | apply Kd.R_drewN | apply Kd.R_drew)); exact Kd.R_mono HO492.out (fun _ hk => hk.2)⟩, ⟨by repeat (first | (with_reducible first | exact HB.out | apply below_alloc | apply pw_below_drewN | apply below_drew1) | exact HB.out)⟩⟩
 case round =>
  clear H';try clear c1
  try clear p2
  try clear c3
  obtain ⟨x5_1, x7_1, x8_1, rfl, rfl, HA, HK1, HO_5, HO_6, HB⟩ := hrel;cases gk with
  | zero => exact absurd HA.out (by simp [arboristref01_Unite.l0])
  | succ k1 =>
   have H := HA.out;clear HA;simp only [arboristref01_Unite.l0] at H
   have HC7 := Aside0.mk H;clear H;go_upto_region 5 with (fail)
   repeat (go_quiet (fail); go_upto_region 5 with (fail))
   go_cut [22] (fun v22 wc => ∃ (kq : Nat) (x22_6 : Bool), v22 = .bool x22_6 ∧ Aside0 (arboristref01_Unite.j1 kq l0 x5_1 t490 x7_1 x8_1 x22_6 = some r) ∧ Aside0 (kq ≤ k1) ∧ Aside0 (Kd.R (Kd.int .i64) 3 wc w.heap.size (fun k_ => some k_ ≠ (v491 : Value).ownBlock) u5 x5_1) ∧ Aside0 (Kd.R (Kd.int .i64) 3 wc w.heap.size (fun k_ => some k_ ≠ (u5 : Value).ownBlock) v491 t490) ∧ Aside0 (Below w.heap.size w wc))
   case first =>
    have H := HC7.out;clear HC7;by_cases c8 : x7_1 < (l0.length : Int)
    ·rw [if_pos c8] at H
     have c8b0 : decide (x7_1 < (l0.length : Int)) = true := decide_eq_true c8;clear c8;(first | rw [c8b0] | (simp only [i64_w, i32_w]; rw [c8b0]) | skip);have H' := Aside0.mk H;clear H;go_wp2
     repeat (go_quiet (fail); try go_wp2)
     go_meet
     case rel => exact ⟨_, (true), (by first | rfl | (simp; done) | (simp [*]; done)), H', ⟨by have := HK1.out; first | omega | exact Nat.le_refl _⟩, ⟨by (with_reducible repeat (first | apply Kd.R_alloc | apply Kd.R_drewN | apply Kd.R_drew)); exact HO_5.out⟩, ⟨by (with_reducible repeat (first | apply Kd.R_alloc | apply Kd.R_drewN | apply Kd.R_drew)); exact HO_6.out⟩, ⟨by repeat (first | (with_reducible first | exact HB.out | apply below_alloc | apply pw_below_drewN | apply below_drew1) | exact HB.out)⟩⟩
    ·rw [if_neg c8] at H
     have c8b0 : decide (x7_1 < (l0.length : Int)) = false := decide_eq_false c8;clear c8;(first | rw [c8b0] | (simp only [i64_w, i32_w]; rw [c8b0]) | skip);have H' := Aside0.mk H;clear H;obtain ⟨Ao9, co9, eo9⟩ := Kd.R_slice HO_6.out;subst eo9;go_wp2
     repeat (go_quiet (fail); try go_wp2)
     go_meet
     case rel => exact ⟨_, (decide (x8_1 < (t490.length : Int))), (by first | rfl | (simp; done) | (simp [*]; done)), H', ⟨by have := HK1.out; first | omega | exact Nat.le_refl _⟩, ⟨by (with_reducible repeat (first | apply Kd.R_alloc | apply Kd.R_drewN | apply Kd.R_drew)); exact HO_5.out⟩, ⟨by (with_reducible repeat (first | apply Kd.R_alloc | apply Kd.R_drewN | apply Kd.R_drew)); exact HO_6.out⟩, ⟨by repeat (first | (with_reducible first | exact HB.out | apply below_alloc | apply pw_below_drewN | apply below_drew1) | exact HB.out)⟩⟩
   case rest =>
    clear HC7;try clear c1
    try clear p2
    try clear c3
    try clear c8
    try clear c8b0
    try clear p2
    obtain ⟨kq, x22_6, rfl, HA, HJ6, HO_5, HO_6, HB⟩ := hcut;cases kq with
    | zero => exact absurd HA.out (by simp [arboristref01_Unite.j1])
    | succ kj6 =>
     have H := HA.out;clear HA;simp only [arboristref01_Unite.j1] at H
     by_cases c10 : x22_6 = true
     ·subst c10;replace H : (if x8_1 = (t490.length : Int) then (if 0 ≤ x7_1 then (if x7_1 < (l0.length : Int) then (if x5_1.length < 17592186044416 then (arboristref01_Unite.l0 kj6 l0 (x5_1 ++ [rd l0 x7_1]) t490 (wrap64 (x7_1 + 1)) x8_1) else (none)) else (none)) else (none)) else (if x7_1 < (l0.length : Int) then (if 0 ≤ x7_1 then (if 0 ≤ x8_1 then (if x8_1 < (t490.length : Int) then (if (rd l0 x7_1) < (rd t490 x8_1) then (if x5_1.length < 17592186044416 then (arboristref01_Unite.l0 kj6 l0 (x5_1 ++ [rd l0 x7_1]) t490 (wrap64 (x7_1 + 1)) x8_1) else (none)) else (if x5_1.length < 17592186044416 then (arboristref01_Unite.l0 kj6 l0 (x5_1 ++ [rd t490 x8_1]) t490 x7_1 (wrap64 (x8_1 + 1))) else (none))) else (none)) else (none)) else (none)) else (if 0 ≤ x8_1 then (if x8_1 < (t490.length : Int) then (if x5_1.length < 17592186044416 then (arboristref01_Unite.l0 kj6 l0 (x5_1 ++ [rd t490 x8_1]) t490 x7_1 (wrap64 (x8_1 + 1))) else (none)) else (none)) else (none)))) = some r := by rw [if_pos rfl] at H; exact H
      by_cases c11 : x8_1 = (t490.length : Int)
      ·rw [if_pos c11] at H
       have c11b0 : (x8_1 == (t490.length : Int)) = true := beq_iff_eq.mpr c11;have c11b1 : (x8_1 != (t490.length : Int)) = false := bne_eq_false_iff_eq.mpr c11;clear c11;by_cases c12 : 0 ≤ x7_1
       ·rw [if_pos c12] at H
        have c12b0 : decide (0 ≤ x7_1) = true := decide_eq_true c12;clear c12;by_cases c13 : x7_1 < (l0.length : Int)
        ·rw [if_pos c13] at H
         have c13b0 : decide (x7_1 < (l0.length : Int)) = true := decide_eq_true c13;clear c13;by_cases c14 : x5_1.length < 17592186044416
         ·rw [if_pos c14] at H
          have LMc14 := Aside0.mk c14;clear c14;obtain ⟨y494, hy494⟩ : ∃ y_ : List Int, y_ = (x5_1 ++ [rd l0 x7_1]) := ⟨_, rfl⟩;replace H : (arboristref01_Unite.l0 kj6 l0 y494 t490 (wrap64 (x7_1 + 1)) x8_1) = some r := by first | (rw [hy494]; with_reducible exact H) | (have H2_ := (Option.bind_some _ _).symm.trans H; rw [hy494]; with_reducible exact H2_) | (have H2_ := (Option.bind_some _ _).symm.trans H; with_reducible exact H2_) | with_reducible exact H | (rw [hy494]; exact H) | exact H
          have Ny494 := Aside0.mk hy494;clear hy494;have H' := Aside0.mk H;clear H;obtain ⟨Ao15, co15, eo15⟩ := Kd.R_slice HO_6.out;subst eo15;have p493 : 0 ≤ (x7_1 : Int) := of_decide_eq_true qA;have q493 : x7_1 < (l0.length : Int) := of_decide_eq_true qA;obtain ⟨ad493, e493, hx493_0⟩ := Kd.at_int HR0.out x7_1 p493 q493;cases e493
          replace hx493_0 := (HB.out.cell (World.block_lt_of_cell? w _ hx493_0)).trans hx493_0;replace p493 := eq_true p493;replace q493 := eq_true q493;go_wp2_with (first | ((with_reducible refine gate_builtin (b := .append) (xs := #[.tmp 44, .tmp 49]) rfl ?_); (try (refine gate_guard (by rfl) ?_; dsimp only)); at_builtin; refine Kd.R_append (Kd.int .i64) (w0 := w) w.heap.size rfl (.tmp 44) (.tmp 49) 23 3 (.int .i64 0) 8 rfl Tryd.underlying23 info3 rfl (by decide) (by omega) u5 x5_1 (rd l0 x7_1) [.int .i64 (rd l0 x7_1)] (fun k_ => some k_ ≠ (.slice Ao15 t490.length co15 : Value).ownBlock) (fun _ => False) rfl rfl ?aP (fun _ hk => hk.elim) ?aF ?aO ?aB ?aS ?aL ?_; (case aP => exact rfl); (case aB => exact (qB HB.out)); (case aF => exact (fun k_ hk => Kd.fresh' (Kd.R_lt (qR HO_6.out)) k_ hk)); (case aO => exact (qR HO_5.out)); (case aS => exact (below_size (qB HB.out))); (case aL => have := LMc14.out; omega); intro v495 w16 ho hb hg hat; rw [← Ny494.out] at ho; have n0_ := Aside0.mk (Kd.R_after (ok := (fun _ => True)) (by (with_reducible repeat (first | apply Kd.R_alloc | apply Kd.R_drewN | apply Kd.R_drew)); exact Kd.R_mono HO_6.out (fun _ hk => ⟨trivial, hk⟩)) hg hat); have n1_ := Aside0.mk (hb); have n2_ := Aside0.mk (ho); clear HO_6; clear HB; clear HO_5; have HO_6 := n0_; have HB := n1_; have HO496 := n2_; clear n0_ n1_ n2_; clear ho hb hg hat))
          repeat (go_quiet (first | ((with_reducible refine gate_builtin (b := .append) (xs := #[.tmp 44, .tmp 49]) rfl ?_); (try (refine gate_guard (by rfl) ?_; dsimp only)); at_builtin; refine Kd.R_append (Kd.int .i64) (w0 := w) w.heap.size rfl (.tmp 44) (.tmp 49) 23 3 (.int .i64 0) 8 rfl Tryd.underlying23 info3 rfl (by decide) (by omega) u5 x5_1 (rd l0 x7_1) [.int .i64 (rd l0 x7_1)] (fun k_ => some k_ ≠ (.slice Ao15 t490.length co15 : Value).ownBlock) (fun _ => False) rfl rfl ?aP (fun _ hk => hk.elim) ?aF ?aO ?aB ?aS ?aL ?_; (case aP => exact rfl); (case aB => exact (qB HB.out)); (case aF => exact (fun k_ hk => Kd.fresh' (Kd.R_lt (qR HO_6.out)) k_ hk)); (case aO => exact (qR HO_5.out)); (case aS => exact (below_size (qB HB.out))); (case aL => have := LMc14.out; omega); intro v495 w16 ho hb hg hat; rw [← Ny494.out] at ho; have n0_ := Aside0.mk (Kd.R_after (ok := (fun _ => True)) (by (with_reducible repeat (first | apply Kd.R_alloc | apply Kd.R_drewN | apply Kd.R_drew)); exact Kd.R_mono HO_6.out (fun _ hk => ⟨trivial, hk⟩)) hg hat); have n1_ := Aside0.mk (hb); have n2_ := Aside0.mk (ho); clear HO_6; clear HB; clear HO_5; have HO_6 := n0_; have HB := n1_; have HO496 := n2_; clear n0_ n1_ n2_; clear ho hb hg hat)); try go_wp2_with (first | ((with_reducible refine gate_builtin (b := .append) (xs := #[.tmp 44, .tmp 49]) rfl ?_); (try (refine gate_guard (by rfl) ?_; dsimp only)); at_builtin; refine Kd.R_append (Kd.int .i64) (w0 := w) w.heap.size rfl (.tmp 44) (.tmp 49) 23 3 (.int .i64 0) 8 rfl Tryd.underlying23 info3 rfl (by decide) (by omega) u5 x5_1 (rd l0 x7_1) [.int .i64 (rd l0 x7_1)] (fun k_ => some k_ ≠ (.slice Ao15 t490.length co15 : Value).ownBlock) (fun _ => False) rfl rfl ?aP (fun _ hk => hk.elim) ?aF ?aO ?aB ?aS ?aL ?_; (case aP => exact rfl); (case aB => exact (qB HB.out)); (case aF => exact (fun k_ hk => Kd.fresh' (Kd.R_lt (qR HO_6.out)) k_ hk)); (case aO => exact (qR HO_5.out)); (case aS => exact (below_size (qB HB.out))); (case aL => have := LMc14.out; omega); intro v495 w16 ho hb hg hat; rw [← Ny494.out] at ho; have n0_ := Aside0.mk (Kd.R_after (ok := (fun _ => True)) (by (with_reducible repeat (first | apply Kd.R_alloc | apply Kd.R_drewN | apply Kd.R_drew)); exact Kd.R_mono HO_6.out (fun _ hk => ⟨trivial, hk⟩)) hg hat); have n1_ := Aside0.mk (hb); have n2_ := Aside0.mk (ho); clear HO_6; clear HB; clear HO_5; have HO_6 := n0_; have HB := n1_; have HO496 := n2_; clear n0_ n1_ n2_; clear ho hb hg hat)))
          go_roundg kj6
          case measure => have := HK1.out; have := HJ6.out; omega
          case rel => exact ⟨(y494), (wrap64 (x7_1 + 1)), (x8_1), (by first | rfl | (simp; done) | (simp [*]; done)), (by first | rfl | (simp; done) | (simp [*]; done)), H', ⟨by have := HK1.out; have := HJ6.out; omega⟩, ⟨by (with_reducible repeat (first | apply Kd.R_alloc | apply Kd.R_drewN | apply Kd.R_drew)); exact HO496.out⟩, ⟨by (with_reducible repeat (first | apply Kd.R_alloc | apply Kd.R_drewN | apply Kd.R_drew)); exact Kd.R_mono HO_6.out (fun _ hk => hk.2)⟩, ⟨by repeat (first | (with_reducible first | exact HB.out | apply below_alloc | apply pw_below_drewN | apply below_drew1) | exact HB.out)⟩⟩
         ·rw [if_neg c14] at H
          exact absurd H (by simp)
        ·rw [if_neg c13] at H
         exact absurd H (by simp)
       ·rw [if_neg c12] at H
        exact absurd H (by simp)
      ·rw [if_neg c11] at H
       have c11b0 : (x8_1 == (t490.length : Int)) = false := beq_eq_false_iff_ne.mpr c11;have c11b1 : (x8_1 != (t490.length : Int)) = true := bne_iff_ne.mpr c11;by_cases c17 : x7_1 < (l0.length : Int)
       ·rw [if_pos c17] at H
        have c17b0 : decide (x7_1 < (l0.length : Int)) = true := decide_eq_true c17;clear c17;by_cases c18 : 0 ≤ x7_1
        ·rw [if_pos c18] at H
         have c18b0 : decide (0 ≤ x7_1) = true := decide_eq_true c18;clear c18;by_cases c19 : 0 ≤ x8_1
         ·rw [if_pos c19] at H
          have c19b0 : decide (0 ≤ x8_1) = true := decide_eq_true c19;clear c19;by_cases c20 : x8_1 < (t490.length : Int)
          ·rw [if_pos c20] at H
           have c20b0 : decide (x8_1 < (t490.length : Int)) = true := decide_eq_true c20;clear c20;by_cases c21 : (rd l0 x7_1) < (rd t490 x8_1)
           ·rw [if_pos c21] at H
            have c21b0 : decide ((rd l0 x7_1) < (rd t490 x8_1)) = true := decide_eq_true c21;clear c21;by_cases c22 : x5_1.length < 17592186044416
            ·rw [if_pos c22] at H
             have LMc22 := Aside0.mk c22;clear c22;obtain ⟨y500, hy500⟩ : ∃ y_ : List Int, y_ = (x5_1 ++ [rd l0 x7_1]) := ⟨_, rfl⟩;replace H : (arboristref01_Unite.l0 kj6 l0 y500 t490 (wrap64 (x7_1 + 1)) x8_1) = some r := by first | (rw [hy500]; with_reducible exact H) | (have H2_ := (Option.bind_some _ _).symm.trans H; rw [hy500]; with_reducible exact H2_) | (have H2_ := (Option.bind_some _ _).symm.trans H; with_reducible exact H2_) | with_reducible exact H | (rw [hy500]; exact H) | exact H
             have Ny500 := Aside0.mk hy500;clear hy500;have H' := Aside0.mk H;clear H;obtain ⟨Ao23, co23, eo23⟩ := Kd.R_slice HO_6.out;subst eo23;have p497 : 0 ≤ (x7_1 : Int) := of_decide_eq_true qA;have q497 : x7_1 < (l0.length : Int) := of_decide_eq_true qA;obtain ⟨ad497, e497, hx497_0⟩ := Kd.at_int HR0.out x7_1 p497 q497;cases e497
             replace hx497_0 := (HB.out.cell (World.block_lt_of_cell? w _ hx497_0)).trans hx497_0;replace p497 := eq_true p497;replace q497 := eq_true q497;have p498 : 0 ≤ (x8_1 : Int) := of_decide_eq_true qA;have q498 : x8_1 < (t490.length : Int) := of_decide_eq_true qA;obtain ⟨ad498, e498, hx498_0⟩ := Kd.at_int (Kd.R_reads' HO_6.out).2.2 x8_1 p498 q498;cases e498
             replace p498 := eq_true p498;replace q498 := eq_true q498;have p499 : 0 ≤ (x7_1 : Int) := of_decide_eq_true qA;have q499 : x7_1 < (l0.length : Int) := of_decide_eq_true qA;obtain ⟨ad499, e499, hx499_0⟩ := Kd.at_int HR0.out x7_1 p499 q499;obtain rfl : ad497 = ad499 := (by injection e499);replace hx499_0 := (HB.out.cell (World.block_lt_of_cell? w _ hx499_0)).trans hx499_0;replace p499 := eq_true p499;replace q499 := eq_true q499;go_wp2_with (first | ((with_reducible refine gate_builtin (b := .append) (xs := #[.tmp 44, .tmp 49]) rfl ?_); (try (refine gate_guard (by rfl) ?_; dsimp only)); at_builtin; refine Kd.R_append (Kd.int .i64) (w0 := w) w.heap.size rfl (.tmp 44) (.tmp 49) 23 3 (.int .i64 0) 8 rfl Tryd.underlying23 info3 rfl (by decide) (by omega) u5 x5_1 (rd l0 x7_1) [.int .i64 (rd l0 x7_1)] (fun k_ => some k_ ≠ (.slice (some ad498) t490.length co23 : Value).ownBlock) (fun _ => False) rfl rfl ?aP (fun _ hk => hk.elim) ?aF ?aO ?aB ?aS ?aL ?_; (case aP => exact rfl); (case aB => exact (qB HB.out)); (case aF => exact (fun k_ hk => Kd.fresh' (Kd.R_lt (qR HO_6.out)) k_ hk)); (case aO => exact (qR HO_5.out)); (case aS => exact (below_size (qB HB.out))); (case aL => have := LMc22.out; omega); intro v501 w24 ho hb hg hat; rw [← Ny500.out] at ho; have n0_ := Aside0.mk (Kd.R_after (ok := (fun _ => True)) (by (with_reducible repeat (first | apply Kd.R_alloc | apply Kd.R_drewN | apply Kd.R_drew)); exact Kd.R_mono HO_6.out (fun _ hk => ⟨trivial, hk⟩)) hg hat); have n1_ := Aside0.mk (hb); have n2_ := Aside0.mk (ho); clear HO_6; clear HB; clear HO_5; have HO_6 := n0_; have HB := n1_; have HO502 := n2_; clear n0_ n1_ n2_; clear ho hb hg hat))
             repeat (go_quiet (first | ((with_reducible refine gate_builtin (b := .append) (xs := #[.tmp 44, .tmp 49]) rfl ?_); (try (refine gate_guard (by rfl) ?_; dsimp only)); at_builtin; refine Kd.R_append (Kd.int .i64) (w0 := w) w.heap.size rfl (.tmp 44) (.tmp 49) 23 3 (.int .i64 0) 8 rfl Tryd.underlying23 info3 rfl (by decide) (by omega) u5 x5_1 (rd l0 x7_1) [.int .i64 (rd l0 x7_1)] (fun k_ => some k_ ≠ (.slice (some ad498) t490.length co23 : Value).ownBlock) (fun _ => False) rfl rfl ?aP (fun _ hk => hk.elim) ?aF ?aO ?aB ?aS ?aL ?_; (case aP => exact rfl); (case aB => exact (qB HB.out)); (case aF => exact (fun k_ hk => Kd.fresh' (Kd.R_lt (qR HO_6.out)) k_ hk)); (case aO => exact (qR HO_5.out)); (case aS => exact (below_size (qB HB.out))); (case aL => have := LMc22.out; omega); intro v501 w24 ho hb hg hat; rw [← Ny500.out] at ho; have n0_ := Aside0.mk (Kd.R_after (ok := (fun _ => True)) (by (with_reducible repeat (first | apply Kd.R_alloc | apply Kd.R_drewN | apply Kd.R_drew)); exact Kd.R_mono HO_6.out (fun _ hk => ⟨trivial, hk⟩)) hg hat); have n1_ := Aside0.mk (hb); have n2_ := Aside0.mk (ho); clear HO_6; clear HB; clear HO_5; have HO_6 := n0_; have HB := n1_; have HO502 := n2_; clear n0_ n1_ n2_; clear ho hb hg hat)); try go_wp2_with (first | ((with_reducible refine gate_builtin (b := .append) (xs := #[.tmp 44, .tmp 49]) rfl ?_); (try (refine gate_guard (by rfl) ?_; dsimp only)); at_builtin; refine Kd.R_append (Kd.int .i64) (w0 := w) w.heap.size rfl (.tmp 44) (.tmp 49) 23 3 (.int .i64 0) 8 rfl Tryd.underlying23 info3 rfl (by decide) (by omega) u5 x5_1 (rd l0 x7_1) [.int .i64 (rd l0 x7_1)] (fun k_ => some k_ ≠ (.slice (some ad498) t490.length co23 : Value).ownBlock) (fun _ => False) rfl rfl ?aP (fun _ hk => hk.elim) ?aF ?aO ?aB ?aS ?aL ?_; (case aP => exact rfl); (case aB => exact (qB HB.out)); (case aF => exact (fun k_ hk => Kd.fresh' (Kd.R_lt (qR HO_6.out)) k_ hk)); (case aO => exact (qR HO_5.out)); (case aS => exact (below_size (qB HB.out))); (case aL => have := LMc22.out; omega); intro v501 w24 ho hb hg hat; rw [← Ny500.out] at ho; have n0_ := Aside0.mk (Kd.R_after (ok := (fun _ => True)) (by (with_reducible repeat (first | apply Kd.R_alloc | apply Kd.R_drewN | apply Kd.R_drew)); exact Kd.R_mono HO_6.out (fun _ hk => ⟨trivial, hk⟩)) hg hat); have n1_ := Aside0.mk (hb); have n2_ := Aside0.mk (ho); clear HO_6; clear HB; clear HO_5; have HO_6 := n0_; have HB := n1_; have HO502 := n2_; clear n0_ n1_ n2_; clear ho hb hg hat)))
             go_roundg kj6
             case measure => have := HK1.out; have := HJ6.out; omega
             case rel => exact ⟨(y500), (wrap64 (x7_1 + 1)), (x8_1), (by first | rfl | (simp; done) | (simp [*]; done)), (by first | rfl | (simp; done) | (simp [*]; done)), H', ⟨by have := HK1.out; have := HJ6.out; omega⟩, ⟨by (with_reducible repeat (first | apply Kd.R_alloc | apply Kd.R_drewN | apply Kd.R_drew)); exact HO502.out⟩, ⟨by (with_reducible repeat (first | apply Kd.R_alloc | apply Kd.R_drewN | apply Kd.R_drew)); exact Kd.R_mono HO_6.out (fun _ hk => hk.2)⟩, ⟨by repeat (first | (with_reducible first | exact HB.out | apply below_alloc | apply pw_below_drewN | apply below_drew1) | exact HB.out)⟩⟩
            ·rw [if_neg c22] at H
             exact absurd H (by simp)
           ·rw [if_neg c21] at H
            have c21b0 : decide ((rd l0 x7_1) < (rd t490 x8_1)) = false := decide_eq_false c21;clear c21;by_cases c25 : x5_1.length < 17592186044416
            ·rw [if_pos c25] at H
             have LMc25 := Aside0.mk c25;clear c25;obtain ⟨y504, hy504⟩ : ∃ y_ : List Int, y_ = (x5_1 ++ [rd t490 x8_1]) := ⟨_, rfl⟩;replace H : (arboristref01_Unite.l0 kj6 l0 y504 t490 x7_1 (wrap64 (x8_1 + 1))) = some r := by first | (rw [hy504]; with_reducible exact H) | (have H2_ := (Option.bind_some _ _).symm.trans H; rw [hy504]; with_reducible exact H2_) | (have H2_ := (Option.bind_some _ _).symm.trans H; with_reducible exact H2_) | with_reducible exact H | (rw [hy504]; exact H) | exact H
             have Ny504 := Aside0.mk hy504;clear hy504;have H' := Aside0.mk H;clear H;obtain ⟨Ao26, co26, eo26⟩ := Kd.R_slice HO_6.out;subst eo26;have p497 : 0 ≤ (x7_1 : Int) := of_decide_eq_true qA;have q497 : x7_1 < (l0.length : Int) := of_decide_eq_true qA;obtain ⟨ad497, e497, hx497_0⟩ := Kd.at_int HR0.out x7_1 p497 q497;cases e497
             replace hx497_0 := (HB.out.cell (World.block_lt_of_cell? w _ hx497_0)).trans hx497_0;replace p497 := eq_true p497;replace q497 := eq_true q497;have p498 : 0 ≤ (x8_1 : Int) := of_decide_eq_true qA;have q498 : x8_1 < (t490.length : Int) := of_decide_eq_true qA;obtain ⟨ad498, e498, hx498_0⟩ := Kd.at_int (Kd.R_reads' HO_6.out).2.2 x8_1 p498 q498;cases e498
             replace p498 := eq_true p498;replace q498 := eq_true q498;have p503 : 0 ≤ (x8_1 : Int) := of_decide_eq_true qA;have q503 : x8_1 < (t490.length : Int) := of_decide_eq_true qA;obtain ⟨ad503, e503, hx503_0⟩ := Kd.at_int (Kd.R_reads' HO_6.out).2.2 x8_1 p503 q503;obtain rfl : ad498 = ad503 := (by injection e503);replace p503 := eq_true p503;replace q503 := eq_true q503;go_wp2_with (first | ((with_reducible refine gate_builtin (b := .append) (xs := #[.tmp 53, .tmp 58]) rfl ?_); (try (refine gate_guard (by rfl) ?_; dsimp only)); at_builtin; refine Kd.R_append (Kd.int .i64) (w0 := w) w.heap.size rfl (.tmp 53) (.tmp 58) 23 3 (.int .i64 0) 8 rfl Tryd.underlying23 info3 rfl (by decide) (by omega) u5 x5_1 (rd t490 x8_1) [.int .i64 (rd t490 x8_1)] (fun k_ => some k_ ≠ (.slice (some ad498) t490.length co26 : Value).ownBlock) (fun _ => False) rfl rfl ?aP (fun _ hk => hk.elim) ?aF ?aO ?aB ?aS ?aL ?_; (case aP => exact rfl); (case aB => exact (qB HB.out)); (case aF => exact (fun k_ hk => Kd.fresh' (Kd.R_lt (qR HO_6.out)) k_ hk)); (case aO => exact (qR HO_5.out)); (case aS => exact (below_size (qB HB.out))); (case aL => have := LMc25.out; omega); intro v505 w27 ho hb hg hat; rw [← Ny504.out] at ho; have n0_ := Aside0.mk (Kd.R_after (ok := (fun _ => True)) (by (with_reducible repeat (first | apply Kd.R_alloc | apply Kd.R_drewN | apply Kd.R_drew)); exact Kd.R_mono HO_6.out (fun _ hk => ⟨trivial, hk⟩)) hg hat); have n1_ := Aside0.mk (hb); have n2_ := Aside0.mk (ho); clear HO_6; clear HB; clear HO_5; have HO_6 := n0_; have HB := n1_; have HO506 := n2_; clear n0_ n1_ n2_; clear ho hb hg hat))
             repeat (go_quiet (first | ((with_reducible refine gate_builtin (b := .append) (xs := #[.tmp 53, .tmp 58]) rfl ?_); (try (refine gate_guard (by rfl) ?_; dsimp only)); at_builtin; refine Kd.R_append (Kd.int .i64) (w0 := w) w.heap.size rfl (.tmp 53) (.tmp 58) 23 3 (.int .i64 0) 8 rfl Tryd.underlying23 info3 rfl (by decide) (by omega) u5 x5_1 (rd t490 x8_1) [.int .i64 (rd t490 x8_1)] (fun k_ => some k_ ≠ (.slice (some ad498) t490.length co26 : Value).ownBlock) (fun _ => False) rfl rfl ?aP (fun _ hk => hk.elim) ?aF ?aO ?aB ?aS ?aL ?_; (case aP => exact rfl); (case aB => exact (qB HB.out)); (case aF => exact (fun k_ hk => Kd.fresh' (Kd.R_lt (qR HO_6.out)) k_ hk)); (case aO => exact (qR HO_5.out)); (case aS => exact (below_size (qB HB.out))); (case aL => have := LMc25.out; omega); intro v505 w27 ho hb hg hat; rw [← Ny504.out] at ho; have n0_ := Aside0.mk (Kd.R_after (ok := (fun _ => True)) (by (with_reducible repeat (first | apply Kd.R_alloc | apply Kd.R_drewN | apply Kd.R_drew)); exact Kd.R_mono HO_6.out (fun _ hk => ⟨trivial, hk⟩)) hg hat); have n1_ := Aside0.mk (hb); have n2_ := Aside0.mk (ho); clear HO_6; clear HB; clear HO_5; have HO_6 := n0_; have HB := n1_; have HO506 := n2_; clear n0_ n1_ n2_; clear ho hb hg hat)); try go_wp2_with (first | ((with_reducible refine gate_builtin (b := .append) (xs := #[.tmp 53, .tmp 58]) rfl ?_); (try (refine gate_guard (by rfl) ?_; dsimp only)); at_builtin; refine Kd.R_append (Kd.int .i64) (w0 := w) w.heap.size rfl (.tmp 53) (.tmp 58) 23 3 (.int .i64 0) 8 rfl Tryd.underlying23 info3 rfl (by decide) (by omega) u5 x5_1 (rd t490 x8_1) [.int .i64 (rd t490 x8_1)] (fun k_ => some k_ ≠ (.slice (some ad498) t490.length co26 : Value).ownBlock) (fun _ => False) rfl rfl ?aP (fun _ hk => hk.elim) ?aF ?aO ?aB ?aS ?aL ?_; (case aP => exact rfl); (case aB => exact (qB HB.out)); (case aF => exact (fun k_ hk => Kd.fresh' (Kd.R_lt (qR HO_6.out)) k_ hk)); (case aO => exact (qR HO_5.out)); (case aS => exact (below_size (qB HB.out))); (case aL => have := LMc25.out; omega); intro v505 w27 ho hb hg hat; rw [← Ny504.out] at ho; have n0_ := Aside0.mk (Kd.R_after (ok := (fun _ => True)) (by (with_reducible repeat (first | apply Kd.R_alloc | apply Kd.R_drewN | apply Kd.R_drew)); exact Kd.R_mono HO_6.out (fun _ hk => ⟨trivial, hk⟩)) hg hat); have n1_ := Aside0.mk (hb); have n2_ := Aside0.mk (ho); clear HO_6; clear HB; clear HO_5; have HO_6 := n0_; have HB := n1_; have HO506 := n2_; clear n0_ n1_ n2_; clear ho hb hg hat)))
             go_roundg kj6
             case measure => have := HK1.out; have := HJ6.out; omega
             case rel => exact ⟨(y504), (x7_1), (wrap64 (x8_1 + 1)), (by first | rfl | (simp; done) | (simp [*]; done)), (by first | rfl | (simp; done) | (simp [*]; done)), H', ⟨by have := HK1.out; have := HJ6.out; omega⟩, ⟨by (with_reducible repeat (first | apply Kd.R_alloc | apply Kd.R_drewN | apply Kd.R_drew)); exact HO506.out⟩, ⟨by (with_reducible repeat (first | apply Kd.R_alloc | apply Kd.R_drewN | apply Kd.R_drew)); exact Kd.R_mono HO_6.out (fun _ hk => hk.2)⟩, ⟨by repeat (first | (with_reducible first | exact HB.out | apply below_alloc | apply pw_below_drewN | apply below_drew1) | exact HB.out)⟩⟩
            ·rw [if_neg c25] at H
             exact absurd H (by simp)
          ·rw [if_neg c20] at H
           exact absurd H (by simp)
         ·rw [if_neg c19] at H
          exact absurd H (by simp)
        ·rw [if_neg c18] at H
         exact absurd H (by simp)
       ·rw [if_neg c17] at H
        have c17b0 : decide (x7_1 < (l0.length : Int)) = false := decide_eq_false c17;clear c17;by_cases c28 : 0 ≤ x8_1
        ·rw [if_pos c28] at H
         have c28b0 : decide (0 ≤ x8_1) = true := decide_eq_true c28;clear c28;by_cases c29 : x8_1 < (t490.length : Int)
         ·rw [if_pos c29] at H
          have c29b0 : decide (x8_1 < (t490.length : Int)) = true := decide_eq_true c29;clear c29;by_cases c30 : x5_1.length < 17592186044416
          ·rw [if_pos c30] at H
           have LMc30 := Aside0.mk c30;clear c30;obtain ⟨y508, hy508⟩ : ∃ y_ : List Int, y_ = (x5_1 ++ [rd t490 x8_1]) := ⟨_, rfl⟩;replace H : (arboristref01_Unite.l0 kj6 l0 y508 t490 x7_1 (wrap64 (x8_1 + 1))) = some r := by first | (rw [hy508]; with_reducible exact H) | (have H2_ := (Option.bind_some _ _).symm.trans H; rw [hy508]; with_reducible exact H2_) | (have H2_ := (Option.bind_some _ _).symm.trans H; with_reducible exact H2_) | with_reducible exact H | (rw [hy508]; exact H) | exact H
           have Ny508 := Aside0.mk hy508;clear hy508;have H' := Aside0.mk H;clear H;obtain ⟨Ao31, co31, eo31⟩ := Kd.R_slice HO_6.out;subst eo31;have p507 : 0 ≤ (x8_1 : Int) := of_decide_eq_true qA;have q507 : x8_1 < (t490.length : Int) := of_decide_eq_true qA;obtain ⟨ad507, e507, hx507_0⟩ := Kd.at_int (Kd.R_reads' HO_6.out).2.2 x8_1 p507 q507;cases e507
           replace p507 := eq_true p507;replace q507 := eq_true q507;go_wp2_with (first | ((with_reducible refine gate_builtin (b := .append) (xs := #[.tmp 53, .tmp 58]) rfl ?_); (try (refine gate_guard (by rfl) ?_; dsimp only)); at_builtin; refine Kd.R_append (Kd.int .i64) (w0 := w) w.heap.size rfl (.tmp 53) (.tmp 58) 23 3 (.int .i64 0) 8 rfl Tryd.underlying23 info3 rfl (by decide) (by omega) u5 x5_1 (rd t490 x8_1) [.int .i64 (rd t490 x8_1)] (fun k_ => some k_ ≠ (.slice (some ad507) t490.length co31 : Value).ownBlock) (fun _ => False) rfl rfl ?aP (fun _ hk => hk.elim) ?aF ?aO ?aB ?aS ?aL ?_; (case aP => exact rfl); (case aB => exact (qB HB.out)); (case aF => exact (fun k_ hk => Kd.fresh' (Kd.R_lt (qR HO_6.out)) k_ hk)); (case aO => exact (qR HO_5.out)); (case aS => exact (below_size (qB HB.out))); (case aL => have := LMc30.out; omega); intro v509 w32 ho hb hg hat; rw [← Ny508.out] at ho; have n0_ := Aside0.mk (Kd.R_after (ok := (fun _ => True)) (by (with_reducible repeat (first | apply Kd.R_alloc | apply Kd.R_drewN | apply Kd.R_drew)); exact Kd.R_mono HO_6.out (fun _ hk => ⟨trivial, hk⟩)) hg hat); have n1_ := Aside0.mk (hb); have n2_ := Aside0.mk (ho); clear HO_6; clear HB; clear HO_5; have HO_6 := n0_; have HB := n1_; have HO510 := n2_; clear n0_ n1_ n2_; clear ho hb hg hat))
           repeat (go_quiet (first | ((with_reducible refine gate_builtin (b := .append) (xs := #[.tmp 53, .tmp 58]) rfl ?_); (try (refine gate_guard (by rfl) ?_; dsimp only)); at_builtin; refine Kd.R_append (Kd.int .i64) (w0 := w) w.heap.size rfl (.tmp 53) (.tmp 58) 23 3 (.int .i64 0) 8 rfl Tryd.underlying23 info3 rfl (by decide) (by omega) u5 x5_1 (rd t490 x8_1) [.int .i64 (rd t490 x8_1)] (fun k_ => some k_ ≠ (.slice (some ad507) t490.length co31 : Value).ownBlock) (fun _ => False) rfl rfl ?aP (fun _ hk => hk.elim) ?aF ?aO ?aB ?aS ?aL ?_; (case aP => exact rfl); (case aB => exact (qB HB.out)); (case aF => exact (fun k_ hk => Kd.fresh' (Kd.R_lt (qR HO_6.out)) k_ hk)); (case aO => exact (qR HO_5.out)); (case aS => exact (below_size (qB HB.out))); (case aL => have := LMc30.out; omega); intro v509 w32 ho hb hg hat; rw [← Ny508.out] at ho; have n0_ := Aside0.mk (Kd.R_after (ok := (fun _ => True)) (by (with_reducible repeat (first | apply Kd.R_alloc | apply Kd.R_drewN | apply Kd.R_drew)); exact Kd.R_mono HO_6.out (fun _ hk => ⟨trivial, hk⟩)) hg hat); have n1_ := Aside0.mk (hb); have n2_ := Aside0.mk (ho); clear HO_6; clear HB; clear HO_5; have HO_6 := n0_; have HB := n1_; have HO510 := n2_; clear n0_ n1_ n2_; clear ho hb hg hat)); try go_wp2_with (first | ((with_reducible refine gate_builtin (b := .append) (xs := #[.tmp 53, .tmp 58]) rfl ?_); (try (refine gate_guard (by rfl) ?_; dsimp only)); at_builtin; refine Kd.R_append (Kd.int .i64) (w0 := w) w.heap.size rfl (.tmp 53) (.tmp 58) 23 3 (.int .i64 0) 8 rfl Tryd.underlying23 info3 rfl (by decide) (by omega) u5 x5_1 (rd t490 x8_1) [.int .i64 (rd t490 x8_1)] (fun k_ => some k_ ≠ (.slice (some ad507) t490.length co31 : Value).ownBlock) (fun _ => False) rfl rfl ?aP (fun _ hk => hk.elim) ?aF ?aO ?aB ?aS ?aL ?_; (case aP => exact rfl); (case aB => exact (qB HB.out)); (case aF => exact (fun k_ hk => Kd.fresh' (Kd.R_lt (qR HO_6.out)) k_ hk)); (case aO => exact (qR HO_5.out)); (case aS => exact (below_size (qB HB.out))); (case aL => have := LMc30.out; omega); intro v509 w32 ho hb hg hat; rw [← Ny508.out] at ho; have n0_ := Aside0.mk (Kd.R_after (ok := (fun _ => True)) (by (with_reducible repeat (first | apply Kd.R_alloc | apply Kd.R_drewN | apply Kd.R_drew)); exact Kd.R_mono HO_6.out (fun _ hk => ⟨trivial, hk⟩)) hg hat); have n1_ := Aside0.mk (hb); have n2_ := Aside0.mk (ho); clear HO_6; clear HB; clear HO_5; have HO_6 := n0_; have HB := n1_; have HO510 := n2_; clear n0_ n1_ n2_; clear ho hb hg hat)))
           go_roundg kj6
           case measure => have := HK1.out; have := HJ6.out; omega
           case rel => exact ⟨(y508), (x7_1), (wrap64 (x8_1 + 1)), (by first | rfl | (simp; done) | (simp [*]; done)), (by first | rfl | (simp; done) | (simp [*]; done)), H', ⟨by have := HK1.out; have := HJ6.out; omega⟩, ⟨by (with_reducible repeat (first | apply Kd.R_alloc | apply Kd.R_drewN | apply Kd.R_drew)); exact HO510.out⟩, ⟨by (with_reducible repeat (first | apply Kd.R_alloc | apply Kd.R_drewN | apply Kd.R_drew)); exact Kd.R_mono HO_6.out (fun _ hk => hk.2)⟩, ⟨by repeat (first | (with_reducible first | exact HB.out | apply below_alloc | apply pw_below_drewN | apply below_drew1) | exact HB.out)⟩⟩
          ·rw [if_neg c30] at H
           exact absurd H (by simp)
         ·rw [if_neg c29] at H
          exact absurd H (by simp)
        ·rw [if_neg c28] at H
         exact absurd H (by simp)
     ·replace c10 := Bool.eq_false_iff.mpr c10;subst c10;replace H : (some x5_1) = some r := by rw [if_neg (show ¬ (false = true) by decide)] at H; exact H
      obtain rfl := Option.some.inj H;go_wp2
      repeat (go_quiet (fail); try go_wp2)
      go_ret
      exact ⟨_, by first | rfl | (simp [errW_none, errW_some] <;> rfl) | (simp [*, errW_none, errW_some] <;> rfl), by (with_reducible repeat (first | apply Kd.R_alloc | apply Kd.R_drewN | apply Kd.R_drew)); exact Kd.R_mono HO_5.out (fun _ hk => trivial), by repeat (first | (with_reducible first | exact HB.out | apply below_alloc | apply pw_below_drewN | apply below_drew1) | exact HB.out)⟩
end Go.Proofs.YtbdlelojlnhhfaaDoor.Pr
namespace Go.Proofs.YtbdlelojlnhhfaaDoor.Pr
open Go.RowKit Go.Proofs.YtbdlelojlnhhfaaDoorW.PrintWords Go.Proofs.YtbdlelojlnhhfaaDoorW.PrintLast Go.Proofs.YtbdlelojlnhhfaaDoorW.PrintMore
attribute [local go_sem] max2_int min2_int max_two min_two max_three min_three max_four min_four
set_option linter.unusedVariables false
set_option linter.unusedSimpArgs false
/-! ### arboristref09_Go: function 38 -/
mutual
def arboristref09_Go.l0 : Nat → List (List Bool) → Int → List Int → Int → Option ((List (List Bool)))
 | 0, _, _, _, _ => none
 | k + 1, x0, x1, x4, x5 => if x5 < (x4.length : Int) then (arboristref09_Go.l1 k x0 x1 x4 x5 0) else (arboristref09_Go.l2 k x0 x1 x4 0)
def arboristref09_Go.l1 : Nat → List (List Bool) → Int → List Int → Int → Int → Option ((List (List Bool)))
 | 0, _, _, _, _, _ => none
 | k + 1, x0, x1, x4, x5, x6 => if x6 < (x4.length : Int) then (if x5 = x6 then (arboristref09_Go.l1 k x0 x1 x4 x5 (wrap64 (x6 + 1))) else (if 0 ≤ x5 then (if x5 < (x4.length : Int) then (if 0 ≤ (rd x4 x5) then (if (rd x4 x5) < (x0.length : Int) then (if 0 ≤ x6 then (if 0 ≤ (rd x4 x6) then (if (rd x4 x6) < ((rd_L8 x0 (rd x4 x5)).length : Int) then (arboristref09_Go.l1 k (x0.set ((rd x4 x5) : Int).toNat ((rd_L8 x0 (rd x4 x5)).set ((rd x4 x6) : Int).toNat true)) x1 x4 x5 (wrap64 (x6 + 1))) else (none)) else (none)) else (none)) else (none)) else (none)) else (none)) else (none))) else (arboristref09_Go.l0 k x0 x1 x4 (wrap64 (x5 + 1)))
def arboristref09_Go.l2 : Nat → List (List Bool) → Int → List Int → Int → Option ((List (List Bool)))
 | 0, _, _, _, _ => none
 | k + 1, x0, x1, x4, x7 => if x7 < (x4.length : Int) then (if 0 ≤ x1 then (if x1 < (x0.length : Int) then (if 0 ≤ x7 then (if 0 ≤ (rd x4 x7) then (if (rd x4 x7) < ((rd_L8 x0 x1).length : Int) then ((some (x0.set (x1 : Int).toNat ((rd_L8 x0 x1).set ((rd x4 x7) : Int).toNat false) : List (List Bool))).bind fun y524 => (if (rd x4 x7) < (x0.length : Int) then (if x1 < ((rd_L8 y524 (rd x4 x7)).length : Int) then (arboristref09_Go.l2 k (y524.set ((rd x4 x7) : Int).toNat ((rd_L8 y524 (rd x4 x7)).set (x1 : Int).toNat false)) x1 x4 (wrap64 (x7 + 1))) else (none)) else (none))) else (none)) else (none)) else (none)) else (none)) else (none)) else (some x0)
end
def arboristref09_Go.f (k : Nat) (l0 : List (List Bool)) (a1 : Int) : Option ((List (List Bool))) := (arboristref08_Neighbors.f k l0 a1).bind fun t511 => (arboristref09_Go.l0 k l0 a1 t511 0)
theorem arboristref09_Go.mono_l : ∀ k, (∀ y0 y1 y2 y3, LeO (arboristref09_Go.l0 k y0 y1 y2 y3) (arboristref09_Go.l0 (k + 1) y0 y1 y2 y3)) ∧ (∀ y0 y1 y2 y3 y4, LeO (arboristref09_Go.l1 k y0 y1 y2 y3 y4) (arboristref09_Go.l1 (k + 1) y0 y1 y2 y3 y4)) ∧ (∀ y0 y1 y2 y3, LeO (arboristref09_Go.l2 k y0 y1 y2 y3) (arboristref09_Go.l2 (k + 1) y0 y1 y2 y3))
 | 0 => ⟨fun _ _ _ _ r h => by simp [arboristref09_Go.l0] at h, fun _ _ _ _ _ r h => by simp [arboristref09_Go.l1] at h, fun _ _ _ _ r h => by simp [arboristref09_Go.l2] at h⟩
 | k + 1 => by
  obtain ⟨ih0, ih1, ih2⟩ := arboristref09_Go.mono_l k;refine ⟨?_, ?_, ?_⟩;all_goals intros
  all_goals (first | unfold arboristref09_Go.l0 | unfold arboristref09_Go.l1 | unfold arboristref09_Go.l2)
  all_goals repeat' first
  | (with_reducible first | exact ih0 _ _ _ _ | exact ih1 _ _ _ _ _ | exact ih2 _ _ _ _ | exact arboristref08_Neighbors.mono _ _ _ | exact LeO.refl _ | exact LeO.none _ | refine LeO.ite ?_ ?_ | refine LeO.bind ?_ (fun _ => ?_))
  | exact ih0 _ _ _ _
  | exact ih1 _ _ _ _ _
  | exact ih2 _ _ _ _
  | exact arboristref08_Neighbors.mono _ _ _
  | exact LeO.none _
  | refine LeO.ite ?_ ?_
  | refine LeO.bind ?_ (fun _ => ?_)
theorem arboristref09_Go.mono : ∀ a0 a1 k, LeO (arboristref09_Go.f k a0 a1) (arboristref09_Go.f (k + 1) a0 a1) := by
 intro a0 a1 k
 obtain ⟨ih0, ih1, ih2⟩ := arboristref09_Go.mono_l k;unfold arboristref09_Go.f
 repeat' first
   | (with_reducible first | exact ih0 _ _ _ _ | exact ih1 _ _ _ _ _ | exact ih2 _ _ _ _ | exact arboristref08_Neighbors.mono _ _ _ | exact LeO.refl _ | exact LeO.none _ | refine LeO.ite ?_ ?_ | refine LeO.bind ?_ (fun _ => ?_))
   | exact ih0 _ _ _ _
   | exact ih1 _ _ _ _ _
   | exact ih2 _ _ _ _
   | exact arboristref08_Neighbors.mono _ _ _
   | exact LeO.none _
   | refine LeO.ite ?_ ?_
   | refine LeO.bind ?_ (fun _ => ?_)
def arboristref09_Go.T8 : Bool × List (List Nat × List Nat) := (true, [([], []), ([], []), ([], []), ([1, 2], [1, 2]), ([3], [3]), ([0, 4], [0, 4]), ([5], [5]), ([], []), ([], []), ([7, 8], [7, 8]), ([9], [9]), ([6, 10, 0, 1, 2, 3, 4, 5, 6, 7, 8, 9, 10], [6, 10]), ([11, 0, 1, 2, 3, 4, 5, 6, 7, 8, 9, 10], [11])])
def arboristref09_Go.B8 : List Nat := [0, 0, 0, 6, 14, 31, 63, 0, 0, 384, 896, 2047, 4095]
theorem arboristref09_Go.tab8 : rtab .any (opsOf Tryd.f38 8) = arboristref09_Go.T8 := by kernel_rfl
theorem arboristref09_Go.bits8 : waitsOk arboristref09_Go.T8.2 arboristref09_Go.B8 = true := by kernel_rfl
def arboristref09_Go.T12 : Bool × List (List Nat × List Nat) := (true, [([], []), ([], []), ([0, 1], [0, 1]), ([2], [2]), ([], []), ([], []), ([4, 5], [4, 5]), ([6], [6]), ([3, 7, 0, 1, 2, 3, 4, 5, 6, 7], [3, 7]), ([8, 0, 1, 2, 3, 4, 5, 6, 7], [8])])
def arboristref09_Go.B12 : List Nat := [0, 0, 3, 7, 0, 0, 48, 112, 255, 511]
theorem arboristref09_Go.tab12 : rtab .any (opsOf Tryd.f38 12) = arboristref09_Go.T12 := by kernel_rfl
theorem arboristref09_Go.bits12 : waitsOk arboristref09_Go.T12.2 arboristref09_Go.B12 = true := by kernel_rfl
set_option maxHeartbeats 8000000 in
set_option maxRecDepth 100000 in
theorem arboristref09_Go.calls (k : Nat) (P0_ : Nat → Prop) (u9000_ : Value) (l0 : List (List Bool)) (a1 : Int) (r : List (List Bool)) (w0 w : World) (hB : Below w0.heap.size w0 w) (ho0 : Kd.S (Kd.slice 4 Kd.bool) 40 w w0.heap.size P0_ u9000_ l0) (h : arboristref09_Go.f k l0 a1 = some r) :
  Calls Tryd.prog 38 #[u9000_, .int .i64 a1] w fun e w' => e = .returned (.tuple #[]) ∧ Kd.S (Kd.slice 4 Kd.bool) 40 w' w0.heap.size (fun k_ => (P0_ k_ ∨ w.heap.size ≤ k_)) u9000_ r ∧ Below w0.heap.size w0 w' ∧ Kept w w' (fun k_ => P0_ k_) := by
 have HO0 := Aside0.mk (show Kd.S (Kd.slice 4 Kd.bool) 40 w w0.heap.size (fun k_ => (P0_ k_ ∨ w.heap.size ≤ k_)) u9000_ l0 from Kd.S_mono ho0 (fun k_ hk => (.inl hk)));have HK := Aside0.mk (Kept.refl w (fun k_ => P0_ k_));have HW0 := Aside0.mk hB.size;have HB := Aside0.mk hB;clear hB;have H : ((arboristref08_Neighbors.f k l0 a1).bind fun t511 => (arboristref09_Go.l0 k l0 a1 t511 0)) = some r := h;clear h;replace H := Option.bind_eq_some_iff.mp H;obtain ⟨t511, A30, H⟩ := H;(try dsimp only at H);have A3 := Aside0.mk A30;clear A30;have H' := Aside0.mk H;clear H;obtain ⟨Ao4, co4, eo4⟩ := Kd.S_slice HO0.out;subst eo4;go_enter Tryd.func38, Tryd.ntmps38
 go_wp2_with (first | ((with_reducible refine gate_callee (f := 27) rfl ?_); refine goesL_ (some 10) rfl rfl Tryd.func27 (by kernel_rfl) rfl #[.slice Ao4 l0.length co4, .int .i64 a1] rfl qM ?_; (with_reducible refine (arboristref08_Neighbors.calls k _ _ l0 a1 t511 _ ?side1 ?side2 A3.out).mono ?_); (case side1 => repeat (first | exact (Kd.S_reads' HO0.out).2.2 | (with_reducible refine Kd.C_alloc ?_ _) | (with_reducible refine Kd.C_drewN ?_ _) | (with_reducible refine Kd.C_drew ?_))); (case side2 => exact (Kd.S_reads' HO0.out).2.1); rintro e w5 ⟨v512, rfl, ho0, hb⟩; refine ⟨_, rfl, ?_⟩; have n0_ := Aside0.mk (Kd.S_below (qS HO0.out) hb); have n1_ := Aside0.mk (Kd.R_lower (Kd.R_newM (M := fun k_ => (P0_ k_ ∨ w.heap.size ≤ k_)) ho0 (by first | exact HK.out.1 | exact (show Kept w _ (fun k_ => P0_ k_) from by repeat (first | (with_reducible first | exact HK.out | apply Kept.alloc | apply Kept.drewN | apply Kept.drew) | exact HK.out)).1) (fun k_ h_ => .inr h_)) (below_size (qB HB.out))); have n2_ := Aside0.mk (Kept.below (S := (fun k_ => P0_ k_)) (by repeat (first | (with_reducible first | exact HK.out | apply Kept.alloc | apply Kept.drewN | apply Kept.drew) | exact HK.out)) hb); have n3_ := Aside0.mk (below_step (qB HB.out) hb); clear HO0; clear HK; clear HB; have HO0 := n0_; have HO513 := n1_; have HK := n2_; have HB := n3_; clear n0_ n1_ n2_ n3_; (try clear hb); (try clear hb2); (try clear hk); (try clear hi); (try clear ho0)))
 go_loopg [5] k (fun kq v5 w' => ∃ (x0_1 : List (List Bool)) (x5_1 : Int), v5 = .int .i64 x5_1 ∧ Aside0 (arboristref09_Go.l0 kq x0_1 a1 t511 x5_1 = some r) ∧ Aside0 (kq ≤ k) ∧ Aside0 (Kd.S (Kd.slice 4 Kd.bool) 40 w' w0.heap.size (fun k_ => (P0_ k_ ∨ w.heap.size ≤ k_)) (.slice Ao4 l0.length co4) x0_1) ∧ Aside0 (Kd.R (Kd.int .i64) 3 w' w0.heap.size (fun k_ => (P0_ k_ ∨ w.heap.size ≤ k_)) v512 t511) ∧ Aside0 (Kept w w' (fun k_ => P0_ k_)) ∧ Aside0 (Below w0.heap.size w0 w'))
 case atStart => exact ⟨(l0), (0), (by first | rfl | (simp; done) | (simp [*]; done)), H', ⟨Nat.le_refl _⟩, ⟨by (with_reducible repeat (first | apply Kd.S_alloc | apply Kd.S_drewN | apply Kd.S_drew)); exact HO0.out⟩, ⟨by (with_reducible repeat (first | apply Kd.R_alloc | apply Kd.R_drewN | apply Kd.R_drew)); exact Kd.R_mono HO513.out (fun _ hk => hk.1)⟩, ⟨by repeat (first | (with_reducible first | exact HK.out | apply Kept.alloc | apply Kept.drewN | apply Kept.drew) | exact HK.out)⟩, ⟨by repeat (first | (with_reducible first | exact HB.out | apply below_alloc | apply pw_below_drewN | apply below_drew1) | exact HB.out)⟩⟩
 case round =>
  clear H';try clear c2
  try clear p2
  try clear c3
  obtain ⟨x0_1, x5_1, rfl, HA, HK1, HO_0, HO_4, HK, HB⟩ := hrel;have hl0_1 := (Kd.S_reads' HO_0.out).1;rw [hl0_1] at HO_0
  (try simp only [hl0_1]);(try simp only [hl0_1] at HO_4);cases gk with
  | zero => exact absurd HA.out (by simp [arboristref09_Go.l0])
  | succ k1 =>
   have H := HA.out;clear HA;simp only [arboristref09_Go.l0] at H
   by_cases c6 : x5_1 < (t511.length : Int)
   ·rw [if_pos c6] at H
    have c6b0 : decide (x5_1 < (t511.length : Int)) = true := decide_eq_true c6;clear c6;have H' := Aside0.mk H;clear H;obtain ⟨Ao7, co7, eo7⟩ := Kd.R_slice HO_4.out;subst eo7;go_wp2
    go_loopg [6] k1 (fun kq v6 w' => ∃ (x0_2 : List (List Bool)) (x6_2 : Int), v6 = .int .i64 x6_2 ∧ Aside0 (arboristref09_Go.l1 kq x0_2 a1 t511 x5_1 x6_2 = some r) ∧ Aside0 (kq ≤ k1) ∧ Aside0 (Kd.S (Kd.slice 4 Kd.bool) 40 w' w0.heap.size (fun k_ => (P0_ k_ ∨ w.heap.size ≤ k_)) (.slice Ao4 x0_1.length co4) x0_2) ∧ Aside0 (Kd.R (Kd.int .i64) 3 w' w0.heap.size (fun k_ => (P0_ k_ ∨ w.heap.size ≤ k_)) (.slice Ao7 t511.length co7) t511) ∧ Aside0 (Kept w w' (fun k_ => P0_ k_)) ∧ Aside0 (Below w0.heap.size w0 w'))
    case atStart => exact ⟨(x0_1), (0), (by first | rfl | (simp; done) | (simp [*]; done)), H', ⟨Nat.le_refl _⟩, ⟨by (try simp only [hl0_1]); (with_reducible repeat (first | apply Kd.S_alloc | apply Kd.S_drewN | apply Kd.S_drew)); exact HO_0.out⟩, ⟨by (try simp only [hl0_1]); (with_reducible repeat (first | apply Kd.R_alloc | apply Kd.R_drewN | apply Kd.R_drew)); exact HO_4.out⟩, ⟨by repeat (first | (with_reducible first | exact HK.out | apply Kept.alloc | apply Kept.drewN | apply Kept.drew) | exact HK.out)⟩, ⟨by repeat (first | (with_reducible first | exact HB.out | apply below_alloc | apply pw_below_drewN | apply below_drew1) | exact HB.out)⟩⟩
    case round =>
     clear H';try clear c2
     try clear p2
     try clear c3
     try clear c6
     try clear c6b0
     try clear p2
     obtain ⟨x0_2, x6_2, rfl, HA, HK2, HO_0, HO_4, HK, HB⟩ := hrel;have hl0_2 := (Kd.S_reads' HO_0.out).1;rw [hl0_2] at HO_0
     (try simp only [hl0_2]);(try simp only [hl0_2] at HO_4);cases gk with
     | zero => exact absurd HA.out (by simp [arboristref09_Go.l1])
     | succ k2 =>
      have H := HA.out;clear HA;simp only [arboristref09_Go.l1] at H
      by_cases c8 : x6_2 < (t511.length : Int)
      ·rw [if_pos c8] at H
       have c8b0 : decide (x6_2 < (t511.length : Int)) = true := decide_eq_true c8;clear c8;by_cases c9 : x5_1 = x6_2
       ·rw [if_pos c9] at H
        have c9b0 : (x5_1 == x6_2) = true := beq_iff_eq.mpr c9;have c9b1 : (x5_1 != x6_2) = false := bne_eq_false_iff_eq.mpr c9;clear c9;have H' := Aside0.mk H;clear H;go_wp2
        (try simp only [← hl0_2]);go_roundg k2
        case measure => have := HK1.out; have := HK2.out; omega
        case rel => exact ⟨(x0_2), (wrap64 (x6_2 + 1)), (by first | rfl | (simp; done) | (simp [*]; done)), H', ⟨by have := HK1.out; have := HK2.out; omega⟩, ⟨by (try simp only [hl0_1]); (try simp only [hl0_2]); (with_reducible repeat (first | apply Kd.S_alloc | apply Kd.S_drewN | apply Kd.S_drew)); exact HO_0.out⟩, ⟨by (try simp only [hl0_1]); (try simp only [hl0_2]); (with_reducible repeat (first | apply Kd.R_alloc | apply Kd.R_drewN | apply Kd.R_drew)); exact HO_4.out⟩, ⟨by repeat (first | (with_reducible first | exact HK.out | apply Kept.alloc | apply Kept.drewN | apply Kept.drew) | exact HK.out)⟩, ⟨by repeat (first | (with_reducible first | exact HB.out | apply below_alloc | apply pw_below_drewN | apply below_drew1) | exact HB.out)⟩⟩
       ·rw [if_neg c9] at H
        have c9b0 : (x5_1 == x6_2) = false := beq_eq_false_iff_ne.mpr c9;have c9b1 : (x5_1 != x6_2) = true := bne_iff_ne.mpr c9;by_cases c10 : 0 ≤ x5_1
        ·rw [if_pos c10] at H
         have c10b0 : decide (0 ≤ x5_1) = true := decide_eq_true c10;clear c10;by_cases c11 : x5_1 < (t511.length : Int)
         ·rw [if_pos c11] at H
          have c11b0 : decide (x5_1 < (t511.length : Int)) = true := decide_eq_true c11;clear c11;by_cases c12 : 0 ≤ (rd t511 x5_1)
          ·rw [if_pos c12] at H
           have c12b0 : decide (0 ≤ (rd t511 x5_1)) = true := decide_eq_true c12;clear c12;by_cases c13 : (rd t511 x5_1) < (x0_2.length : Int)
           ·rw [if_pos c13] at H
            have c13b0 : decide ((rd t511 x5_1) < (x0_2.length : Int)) = true := decide_eq_true c13;clear c13;by_cases c14 : 0 ≤ x6_2
            ·rw [if_pos c14] at H
             have c14b0 : decide (0 ≤ x6_2) = true := decide_eq_true c14;clear c14;by_cases c15 : 0 ≤ (rd t511 x6_2)
             ·rw [if_pos c15] at H
              have c15b0 : decide (0 ≤ (rd t511 x6_2)) = true := decide_eq_true c15;clear c15;by_cases c16 : (rd t511 x6_2) < ((rd_L8 x0_2 (rd t511 x5_1)).length : Int)
              ·rw [if_pos c16] at H
               have c16b0 : decide ((rd t511 x6_2) < ((rd_L8 x0_2 (rd t511 x5_1)).length : Int)) = true := decide_eq_true c16;clear c16;obtain ⟨y517, hy517⟩ : ∃ y_ : List Bool, y_ = ((rd_L8 x0_2 (rd t511 x5_1)).set ((rd t511 x6_2) : Int).toNat true) := ⟨_, rfl⟩;replace H : (arboristref09_Go.l1 k2 (x0_2.set ((rd t511 x5_1) : Int).toNat y517) a1 t511 x5_1 (wrap64 (x6_2 + 1))) = some r := by first | (rw [hy517]; with_reducible exact H) | (have H2_ := (Option.bind_some _ _).symm.trans H; rw [hy517]; with_reducible exact H2_) | (have H2_ := (Option.bind_some _ _).symm.trans H; with_reducible exact H2_) | with_reducible exact H | (rw [hy517]; exact H) | exact H
               have Ny517 := Aside0.mk hy517;clear hy517;obtain ⟨y519, hy519⟩ : ∃ y_ : List (List Bool), y_ = (x0_2.set ((rd t511 x5_1) : Int).toNat y517) := ⟨_, rfl⟩;replace H : (arboristref09_Go.l1 k2 y519 a1 t511 x5_1 (wrap64 (x6_2 + 1))) = some r := by first | (rw [hy519]; with_reducible exact H) | (have H2_ := (Option.bind_some _ _).symm.trans H; rw [hy519]; with_reducible exact H2_) | (have H2_ := (Option.bind_some _ _).symm.trans H; with_reducible exact H2_) | with_reducible exact H | (rw [hy519]; exact H) | exact H
               have Ny519 := Aside0.mk hy519;clear hy519;have H' := Aside0.mk H;clear H;try go_wp2
               replace HO_0 := Aside0.mk (Kd.S_drew HO_0.out);replace HO_4 := Aside0.mk (Kd.R_drew HO_4.out);replace HK := Aside0.mk (Kept.drew HK.out);replace HB := Aside0.mk (below_drew1 HB.out);have p514 : 0 ≤ (x5_1 : Int) := of_decide_eq_true qA;have q514 : x5_1 < (t511.length : Int) := of_decide_eq_true qA;obtain ⟨ad514, e514, hx514_0⟩ := Kd.at_int (Kd.R_reads' HO_4.out).2.2 x5_1 p514 q514;cases e514
               replace p514 := eq_true p514;replace q514 := eq_true q514;have p515 : 0 ≤ ((rd t511 x5_1) : Int) := of_decide_eq_true qA;have q515 : (rd t511 x5_1) < (x0_2.length : Int) := of_decide_eq_true qA;obtain ⟨ad515, A515_0, c515_0, e515, hx515_0, hl515_0, hi515_0⟩ := at_L8 (Kd.S_reads' HO_0.out).2.2 (rd t511 x5_1) p515 q515;cases e515
               obtain ⟨ce515, hce515, hMe515, hcc515⟩ := Kd.S_get HO_0.out [] (rd t511 x5_1) p515 (by first | exact q515 | exact of_decide_eq_true qA | (have e_ := (Kd.S_reads' HO_0.out).1; omega));obtain ⟨ve515_0, rfl, ge515_0⟩ := hMe515;have hv515_0 := hcc515 0 _ rfl;rw [Nat.add_zero, show ((Kd.slice 4 Kd.bool)).sz = 1 from rfl, Nat.mul_one] at hv515_0
               replace hv515_0 := Option.some.inj (hv515_0.symm.trans hx515_0);rw [hv515_0] at ge515_0
               have HL515_0 := Aside0.mk (show Kd.R Kd.bool 4 _ _ _ _ (rd_L8 x0_2 (rd t511 x5_1)) from ge515_0);clear hv515_0 ge515_0;have HX515_0 := Aside0.mk hx515_0;clear hcc515 hce515;have HR515_0 := Aside0.mk hi515_0;have HC515_0 := Aside0.mk hl515_0;clear hi515_0 hl515_0;replace p515 := eq_true p515;replace q515 := eq_true q515;have p516 : 0 ≤ (x6_2 : Int) := of_decide_eq_true qA;have q516 : x6_2 < (t511.length : Int) := of_decide_eq_true qA;obtain ⟨ad516, e516, hx516_0⟩ := Kd.at_int (Kd.R_reads' HO_4.out).2.2 x6_2 p516 q516;obtain rfl : ad514 = ad516 := (by injection e516);replace p516 := eq_true p516;replace q516 := eq_true q516;have p17 : 0 ≤ ((rd t511 x6_2) : Int) := of_decide_eq_true qA;have q17 : ((rd t511 x6_2) : Int) < (((rd_L8 x0_2 (rd t511 x5_1)).length : Int) : Int) := of_decide_eq_true qA;obtain ⟨go17, co17, eo17, gb17, gl17, cl17, HG17⟩ := Kd.R_form HL515_0.out (by omega);(first | cases eo17 | (injection eo17 with ea_ en_ ec_; (first | subst ea_ | (injection ea_ with ea_; subst ea_)); subst ec_; clear en_));have GB17 := Aside0.mk gb17;have GG17 := Aside0.mk HG17;clear gb17 gl17 HG17;have HMgo17 := Aside0.mk (show (P0_ go17 ∨ w.heap.size ≤ go17) from (HL515_0.out.1 _ rfl).1);obtain ⟨hx17_0, hf17_0⟩ := Kd.R_celln false HL515_0.out ((rd t511 x6_2) : Int) p17 q17;replace p17 := eq_true p17;replace q17 := eq_true q17;have hq19 : ((rd t511 x5_1) : Int) < (x0_2.length : Int) := (by have h_ : ((rd t511 x5_1) : Int) < ((x0_2.length : Int) : Int) := of_decide_eq_true qA; first | exact h_ | (have e_ := (Kd.S_reads' HO_0.out).1; omega) | simpa only [List.length_set, List.length_set] using h_);obtain ⟨oki19, ce19, hcl19, hM19, hcc19, hok19, hbk19⟩ := Kd.S_borrow HO_0.out [] ((rd t511 x5_1) : Int) (of_decide_eq_true qA) (by first | exact hq19 | (have e_ := (Kd.S_reads' HO_0.out).1; have h_ := hq19; omega));obtain ⟨ve19_0, rfl, ge19_0⟩ := hM19;have hv19 := hcc19 0 _ rfl;rw [Nat.add_zero, show ((Kd.slice 4 Kd.bool)).sz = 1 from rfl, Nat.mul_one] at hv19
               replace hv19 := Option.some.inj (hv19.symm.trans HX515_0.out);subst hv19;clear hcc19 hcl19;replace ge19_0 := (show Kd.R Kd.bool 4 _ _ _ _ (rd_L8 x0_2 (rd t511 x5_1)) from ge19_0);have HP19 := Kd.R_putg ge19_0 ((rd t511 x6_2) : Int) true;rw [← Ny517.out] at HP19
               have HS19 := hbk19 HP19.2 (fun k_ e_ => by injection e_ with e_; subst e_; exact ge19_0.1 _ rfl) (x' := y517) (Kd.M_row HP19.1);rw [← Ny519.out] at HS19
               have HQ19 := Aside0.mk HS19;clear HP19 HS19 hbk19 hok19;refine start_ (n := 13) (S := fun w' => w'.cell? (ad514.add (x5_1).toNat) = some (.int .i64 (rd t511 x5_1)) ∧ w'.cell? (ad515.add ((rd t511 x5_1)).toNat) = some (.slice (some ⟨go17, 0, none⟩) (rd_L8 x0_2 (rd t511 x5_1)).length c515_0) ∧ w'.cell? (ad514.add (x6_2).toNat) = some (.int .i64 (rd t511 x6_2))) (ds := [12]) (bs 13 0) (by kernel_rfl) rfl rfl ⟨hx514_0, hx515_0, hx516_0⟩ (fun hHeld => ?_); refine with_tabW arboristref09_Go.tab8 arboristref09_Go.bits8 (fun HT_ HW_ => ?_)
               generalize wr.drew = w18 at HO_0 HO_4 HK HB GG17 HL515_0 HQ19 HR515_0 HX515_0 hf17_0 hx17_0 hx514_0 hx515_0 hx516_0 hHeld ⊢
               refine qP 0 (some 26) (bs 13 1) HT_.out ?_;refine qP 1 (some 27) (bs 13 3) HT_.out ?_;refine qP 2 (some 28) (bs 13 7) HT_.out ?_;refine qP 3 (some 29) (bs 13 15) HT_.out ?_;refine qP 7 (some 33) (bs 13 143) HT_.out ?_;refine qP 8 (some 34) (bs 13 399) HT_.out ?_;refine qP 9 (some 35) (bs 13 911) HT_.out ?_;refine take_ (i := 4) (N := some 30) (v := ?_) (a' := ?_) (bs 13 927) rfl rfl (take_ofW HT_.out HW_.out (by kernel_rfl)) (fun _ _ _ h => h) (Or.inl ⟨by rfl, ?_⟩) hHeld ?_ ?_;rotate_left
               ·rintro w' ⟨s0, s1, s2⟩
                go_simp
                with_reducible rfl
               rotate_left; (simp only [Act.put, List.setIfInBounds_toArray, List.set_cons_zero, List.set_cons_succ, i64_w, i32_w]; rfl)
               refine qP 5 (some 31) (bs 13 959) HT_.out ?_;refine take_ (i := 6) (N := some 32) (v := ?_) (a' := ?_) (bs 13 1023) rfl rfl (take_ofW HT_.out HW_.out (by kernel_rfl)) (fun _ _ _ h => h) (Or.inl ⟨by rfl, ?_⟩) hHeld ?_ ?_;rotate_left
               ·rintro w' ⟨s0, s1, s2⟩
                go_simp
                with_reducible rfl
               rotate_left; (simp only [Act.put, List.setIfInBounds_toArray, List.set_cons_zero, List.set_cons_succ, i64_w, i32_w]; rfl)
               refine take_ (i := 10) (N := some 36) (v := ?_) (a' := ?_) (bs 13 2047) rfl rfl (take_ofW HT_.out HW_.out (by kernel_rfl)) (fun _ _ _ h => h) (Or.inl ⟨by rfl, ?_⟩) hHeld ?_ ?_;rotate_left
               ·rintro w' ⟨s0, s1, s2⟩
                go_simp
                with_reducible rfl
               rotate_left; (simp only [Act.put, List.setIfInBounds_toArray, List.set_cons_zero, List.set_cons_succ, i64_w, i32_w]; rfl)
               refine qP 11 (some 37) (bs 13 4095) HT_.out ?_;refine last_ (i := 12) (N := none) (bs 13 8191) rfl rfl (one_of HT_.out (by kernel_rfl)) (by decide) (fun K hK => ?_);refine skip_ (w1 := ?_) (by rfl) rfl ?_ ?_;rotate_left
               ·go_simp
                rfl
               refine hK.out _ _ ?_;clear hK K;refine done_ (done_of HT_.out (by kernel_rfl)) ?_;try go_wp2
               (try simp only [← hl0_2]);go_roundg k2
               case measure => have := HK1.out; have := HK2.out; omega
               case rel => exact ⟨(y519), (wrap64 (x6_2 + 1)), (by first | rfl | (simp; done) | (simp [*]; done)), H', ⟨by have := HK1.out; have := HK2.out; omega⟩, ⟨by (try simp only [hl0_1]); (try simp only [hl0_2]); (with_reducible repeat (first | apply Kd.S_alloc | apply Kd.S_drewN | apply Kd.S_drew)); exact HQ19.out⟩, ⟨by (try simp only [hl0_1]); (try simp only [hl0_2]); (with_reducible repeat (first | apply Kd.R_alloc | apply Kd.R_drewN | apply Kd.R_drew)); exact Kd.R_mono (Kd.R_far (p := ⟨go17, ((rd t511 x6_2) : Int).toNat, none⟩) (Kd.R_types HO_4.out GG17.out (by decide)) (fun _ hk => hk.2) (.bool true)) (fun _ hk => hk.1)⟩, ⟨by repeat (first | (with_reducible first | exact HK.out | apply Kept.alloc | apply Kept.drewN | apply Kept.drew | refine Kept.setCell ?_ HMgo17.out _) | exact HK.out)⟩, ⟨by repeat (first | (with_reducible first | exact HB.out | apply below_alloc | apply pw_below_drewN | apply below_drew1 | refine below_set ?_ GB17.out) | exact HB.out)⟩⟩
              ·rw [if_neg c16] at H
               exact absurd H (by simp)
             ·rw [if_neg c15] at H
              exact absurd H (by simp)
            ·rw [if_neg c14] at H
             exact absurd H (by simp)
           ·rw [if_neg c13] at H
            exact absurd H (by simp)
          ·rw [if_neg c12] at H
           exact absurd H (by simp)
         ·rw [if_neg c11] at H
          exact absurd H (by simp)
        ·rw [if_neg c10] at H
         exact absurd H (by simp)
      ·rw [if_neg c8] at H
       have c8b0 : decide (x6_2 < (t511.length : Int)) = false := decide_eq_false c8;clear c8;have H' := Aside0.mk H;clear H;go_wp2
       (try simp only [← hl0_1, ← hl0_2]);go_roundg k2
       case measure => have := HK1.out; have := HK2.out; omega
       case rel => exact ⟨(x0_2), (wrap64 (x5_1 + 1)), (by first | rfl | (simp; done) | (simp [*]; done)), H', ⟨by have := HK1.out; have := HK2.out; omega⟩, ⟨by (try simp only [hl0_1]); (try simp only [hl0_2]); (with_reducible repeat (first | apply Kd.S_alloc | apply Kd.S_drewN | apply Kd.S_drew)); exact HO_0.out⟩, ⟨by (try simp only [hl0_1]); (try simp only [hl0_2]); (with_reducible repeat (first | apply Kd.R_alloc | apply Kd.R_drewN | apply Kd.R_drew)); exact HO_4.out⟩, ⟨by repeat (first | (with_reducible first | exact HK.out | apply Kept.alloc | apply Kept.drewN | apply Kept.drew) | exact HK.out)⟩, ⟨by repeat (first | (with_reducible first | exact HB.out | apply below_alloc | apply pw_below_drewN | apply below_drew1) | exact HB.out)⟩⟩
   ·rw [if_neg c6] at H
    have c6b0 : decide (x5_1 < (t511.length : Int)) = false := decide_eq_false c6;clear c6;have H' := Aside0.mk H;clear H;obtain ⟨Ao21, co21, eo21⟩ := Kd.R_slice HO_4.out;subst eo21;go_wp2
    go_loopg [7] k1 (fun kq v7 w' => ∃ (x0_2 : List (List Bool)) (x7_2 : Int), v7 = .int .i64 x7_2 ∧ Aside0 (arboristref09_Go.l2 kq x0_2 a1 t511 x7_2 = some r) ∧ Aside0 (kq ≤ k1) ∧ Aside0 (Kd.S (Kd.slice 4 Kd.bool) 40 w' w0.heap.size (fun k_ => (P0_ k_ ∨ w.heap.size ≤ k_)) (.slice Ao4 x0_1.length co4) x0_2) ∧ Aside0 (Kd.R (Kd.int .i64) 3 w' w0.heap.size (fun k_ => (P0_ k_ ∨ w.heap.size ≤ k_)) (.slice Ao21 t511.length co21) t511) ∧ Aside0 (Kept w w' (fun k_ => P0_ k_)) ∧ Aside0 (Below w0.heap.size w0 w'))
    case atStart => exact ⟨(x0_1), (0), (by first | rfl | (simp; done) | (simp [*]; done)), H', ⟨Nat.le_refl _⟩, ⟨by (try simp only [hl0_1]); (with_reducible repeat (first | apply Kd.S_alloc | apply Kd.S_drewN | apply Kd.S_drew)); exact HO_0.out⟩, ⟨by (try simp only [hl0_1]); (with_reducible repeat (first | apply Kd.R_alloc | apply Kd.R_drewN | apply Kd.R_drew)); exact HO_4.out⟩, ⟨by repeat (first | (with_reducible first | exact HK.out | apply Kept.alloc | apply Kept.drewN | apply Kept.drew) | exact HK.out)⟩, ⟨by repeat (first | (with_reducible first | exact HB.out | apply below_alloc | apply pw_below_drewN | apply below_drew1) | exact HB.out)⟩⟩
    case round =>
     clear H';try clear c1
     try clear p1
     try clear q1
     try clear hx1
     try clear c2
     try clear p2
     try clear c3
     try clear c5
     try clear p5
     try clear q5
     try clear hx5
     try clear c6
     try clear c6b0
     try clear p6
     try clear c8
     try clear c8b0
     try clear c9
     try clear c9b0
     try clear c9b1
     try clear c10
     try clear c10b0
     try clear c11
     try clear c11b0
     try clear c12
     try clear c12b0
     try clear c13
     try clear c13b0
     try clear c14
     try clear c14b0
     try clear c15
     try clear c15b0
     try clear c16
     try clear c16b0
     try clear p17
     try clear q17
     try clear hx17
     try clear hf17
     try clear c19
     try clear q19
     try clear hx17_0
     try clear hx514_0
     try clear hx515_0
     try clear hx516_0
     try clear p17
     try clear p2
     try clear p514
     try clear p515
     try clear p516
     try clear q17
     try clear q514
     try clear q515
     try clear q516
     obtain ⟨x0_2, x7_2, rfl, HA, HK2, HO_0, HO_4, HK, HB⟩ := hrel;have hl0_2 := (Kd.S_reads' HO_0.out).1;rw [hl0_2] at HO_0
     (try simp only [hl0_2]);(try simp only [hl0_2] at HO_4);cases gk with
     | zero => exact absurd HA.out (by simp [arboristref09_Go.l2])
     | succ k2 =>
      have H := HA.out;clear HA;simp only [arboristref09_Go.l2] at H
      by_cases c22 : x7_2 < (t511.length : Int)
      ·rw [if_pos c22] at H
       have c22b0 : decide (x7_2 < (t511.length : Int)) = true := decide_eq_true c22;clear c22;by_cases c23 : 0 ≤ a1
       ·rw [if_pos c23] at H
        have c23b0 : decide (0 ≤ a1) = true := decide_eq_true c23;clear c23;by_cases c24 : a1 < (x0_2.length : Int)
        ·rw [if_pos c24] at H
         have c24b0 : decide (a1 < (x0_2.length : Int)) = true := decide_eq_true c24;clear c24;by_cases c25 : 0 ≤ x7_2
         ·rw [if_pos c25] at H
          have c25b0 : decide (0 ≤ x7_2) = true := decide_eq_true c25;clear c25;by_cases c26 : 0 ≤ (rd t511 x7_2)
          ·rw [if_pos c26] at H
           have c26b0 : decide (0 ≤ (rd t511 x7_2)) = true := decide_eq_true c26;clear c26;by_cases c27 : (rd t511 x7_2) < ((rd_L8 x0_2 a1).length : Int)
           ·rw [if_pos c27] at H
            have c27b0 : decide ((rd t511 x7_2) < ((rd_L8 x0_2 a1).length : Int)) = true := decide_eq_true c27;clear c27;obtain ⟨y522, hy522⟩ : ∃ y_ : List Bool, y_ = ((rd_L8 x0_2 a1).set ((rd t511 x7_2) : Int).toNat false) := ⟨_, rfl⟩;replace H : ((some (x0_2.set (a1 : Int).toNat y522 : List (List Bool))).bind fun y524 => (if (rd t511 x7_2) < (x0_2.length : Int) then (if a1 < ((rd_L8 y524 (rd t511 x7_2)).length : Int) then (arboristref09_Go.l2 k2 (y524.set ((rd t511 x7_2) : Int).toNat ((rd_L8 y524 (rd t511 x7_2)).set (a1 : Int).toNat false)) a1 t511 (wrap64 (x7_2 + 1))) else (none)) else (none))) = some r := by first | (rw [hy522]; with_reducible exact H) | (have H2_ := (Option.bind_some _ _).symm.trans H; rw [hy522]; with_reducible exact H2_) | (have H2_ := (Option.bind_some _ _).symm.trans H; with_reducible exact H2_) | with_reducible exact H | (rw [hy522]; exact H) | exact H
            have Ny522 := Aside0.mk hy522;clear hy522;obtain ⟨y524, hy524⟩ : ∃ y_ : List (List Bool), y_ = (x0_2.set (a1 : Int).toNat y522) := ⟨_, rfl⟩;replace H : (if (rd t511 x7_2) < (x0_2.length : Int) then (if a1 < ((rd_L8 y524 (rd t511 x7_2)).length : Int) then (arboristref09_Go.l2 k2 (y524.set ((rd t511 x7_2) : Int).toNat ((rd_L8 y524 (rd t511 x7_2)).set (a1 : Int).toNat false)) a1 t511 (wrap64 (x7_2 + 1))) else (none)) else (none)) = some r := by first | (rw [hy524]; with_reducible exact H) | (have H2_ := (Option.bind_some _ _).symm.trans H; rw [hy524]; with_reducible exact H2_) | (have H2_ := (Option.bind_some _ _).symm.trans H; with_reducible exact H2_) | with_reducible exact H | (rw [hy524]; exact H) | exact H
            have Ny524 := Aside0.mk hy524;clear hy524;by_cases c29 : (rd t511 x7_2) < (x0_2.length : Int)
            ·rw [if_pos c29] at H
             have c29b0 : decide ((rd t511 x7_2) < (x0_2.length : Int)) = true := decide_eq_true c29;clear c29;by_cases c30 : a1 < ((rd_L8 y524 (rd t511 x7_2)).length : Int)
             ·rw [if_pos c30] at H
              have c30b0 : decide (a1 < ((rd_L8 y524 (rd t511 x7_2)).length : Int)) = true := decide_eq_true c30;clear c30;obtain ⟨y527, hy527⟩ : ∃ y_ : List Bool, y_ = ((rd_L8 y524 (rd t511 x7_2)).set (a1 : Int).toNat false) := ⟨_, rfl⟩;replace H : (arboristref09_Go.l2 k2 (y524.set ((rd t511 x7_2) : Int).toNat y527) a1 t511 (wrap64 (x7_2 + 1))) = some r := by first | (rw [hy527]; with_reducible exact H) | (have H2_ := (Option.bind_some _ _).symm.trans H; rw [hy527]; with_reducible exact H2_) | (have H2_ := (Option.bind_some _ _).symm.trans H; with_reducible exact H2_) | with_reducible exact H | (rw [hy527]; exact H) | exact H
              have Ny527 := Aside0.mk hy527;clear hy527;obtain ⟨y529, hy529⟩ : ∃ y_ : List (List Bool), y_ = (y524.set ((rd t511 x7_2) : Int).toNat y527) := ⟨_, rfl⟩;replace H : (arboristref09_Go.l2 k2 y529 a1 t511 (wrap64 (x7_2 + 1))) = some r := by first | (rw [hy529]; with_reducible exact H) | (have H2_ := (Option.bind_some _ _).symm.trans H; rw [hy529]; with_reducible exact H2_) | (have H2_ := (Option.bind_some _ _).symm.trans H; with_reducible exact H2_) | with_reducible exact H | (rw [hy529]; exact H) | exact H
              have Ny529 := Aside0.mk hy529;clear hy529;have H' := Aside0.mk H;clear H;try go_wp2
              replace HO_0 := Aside0.mk (Kd.S_drew HO_0.out);replace HO_4 := Aside0.mk (Kd.R_drew HO_4.out);replace HK := Aside0.mk (Kept.drew HK.out);replace HB := Aside0.mk (below_drew1 HB.out);have p520 : 0 ≤ (a1 : Int) := of_decide_eq_true qA;have q520 : a1 < (x0_2.length : Int) := of_decide_eq_true qA;obtain ⟨ad520, A520_0, c520_0, e520, hx520_0, hl520_0, hi520_0⟩ := at_L8 (Kd.S_reads' HO_0.out).2.2 a1 p520 q520;cases e520
              obtain ⟨ce520, hce520, hMe520, hcc520⟩ := Kd.S_get HO_0.out [] a1 p520 (by first | exact q520 | exact of_decide_eq_true qA | (have e_ := (Kd.S_reads' HO_0.out).1; omega));obtain ⟨ve520_0, rfl, ge520_0⟩ := hMe520;have hv520_0 := hcc520 0 _ rfl;rw [Nat.add_zero, show ((Kd.slice 4 Kd.bool)).sz = 1 from rfl, Nat.mul_one] at hv520_0
              replace hv520_0 := Option.some.inj (hv520_0.symm.trans hx520_0);rw [hv520_0] at ge520_0
              have HL520_0 := Aside0.mk (show Kd.R Kd.bool 4 _ _ _ _ (rd_L8 x0_2 a1) from ge520_0);clear hv520_0 ge520_0;have HX520_0 := Aside0.mk hx520_0;clear hcc520 hce520;have HR520_0 := Aside0.mk hi520_0;have HC520_0 := Aside0.mk hl520_0;clear hi520_0 hl520_0;replace p520 := eq_true p520;replace q520 := eq_true q520;have p521 : 0 ≤ (x7_2 : Int) := of_decide_eq_true qA;have q521 : x7_2 < (t511.length : Int) := of_decide_eq_true qA;obtain ⟨ad521, e521, hx521_0⟩ := Kd.at_int (Kd.R_reads' HO_4.out).2.2 x7_2 p521 q521;cases e521
              replace p521 := eq_true p521;replace q521 := eq_true q521;have p28 : 0 ≤ ((rd t511 x7_2) : Int) := of_decide_eq_true qA;have q28 : ((rd t511 x7_2) : Int) < (((rd_L8 x0_2 a1).length : Int) : Int) := of_decide_eq_true qA;obtain ⟨go28, co28, eo28, gb28, gl28, cl28, HG28⟩ := Kd.R_form HL520_0.out (by omega);(first | cases eo28 | (injection eo28 with ea_ en_ ec_; (first | subst ea_ | (injection ea_ with ea_; subst ea_)); subst ec_; clear en_));have GB28 := Aside0.mk gb28;have GG28 := Aside0.mk HG28;clear gb28 gl28 HG28;have HMgo28 := Aside0.mk (show (P0_ go28 ∨ w.heap.size ≤ go28) from (HL520_0.out.1 _ rfl).1);obtain ⟨hx28_0, hf28_0⟩ := Kd.R_celln false HL520_0.out ((rd t511 x7_2) : Int) p28 q28;replace p28 := eq_true p28;replace q28 := eq_true q28;have hq33 : (a1 : Int) < (x0_2.length : Int) := (by have h_ : (a1 : Int) < ((x0_2.length : Int) : Int) := of_decide_eq_true qA; first | exact h_ | (have e_ := (Kd.S_reads' HO_0.out).1; omega) | simpa only [List.length_set, List.length_set] using h_);obtain ⟨oki33, ce33, hcl33, hM33, hcc33, hok33, hbk33⟩ := Kd.S_borrow HO_0.out [] (a1 : Int) (of_decide_eq_true qA) (by first | exact hq33 | (have e_ := (Kd.S_reads' HO_0.out).1; have h_ := hq33; omega));obtain ⟨ve33_0, rfl, ge33_0⟩ := hM33;have hv33 := hcc33 0 _ rfl;rw [Nat.add_zero, show ((Kd.slice 4 Kd.bool)).sz = 1 from rfl, Nat.mul_one] at hv33
              replace hv33 := Option.some.inj (hv33.symm.trans HX520_0.out);subst hv33;clear hcc33 hcl33;replace ge33_0 := (show Kd.R Kd.bool 4 _ _ _ _ (rd_L8 x0_2 a1) from ge33_0);have HP33 := Kd.R_putg ge33_0 ((rd t511 x7_2) : Int) false;rw [← Ny522.out] at HP33
              have HS33 := hbk33 HP33.2 (fun k_ e_ => by injection e_ with e_; subst e_; exact ge33_0.1 _ rfl) (x' := y522) (Kd.M_row HP33.1);rw [← Ny524.out] at HS33
              have HQ33 := Aside0.mk HS33;clear HP33 HS33 hbk33 hok33;refine start_ (n := 10) (S := fun w' => w'.cell? (ad520.add (a1).toNat) = some (.slice (some ⟨go28, 0, none⟩) (rd_L8 x0_2 a1).length c520_0) ∧ w'.cell? (ad521.add (x7_2).toNat) = some (.int .i64 (rd t511 x7_2))) (ds := [9]) (bs 10 0) (by kernel_rfl) rfl rfl ⟨hx520_0, hx521_0⟩ (fun hHeld => ?_); refine with_tabW arboristref09_Go.tab12 arboristref09_Go.bits12 (fun HT_ HW_ => ?_)
              generalize wr.drew = w32 at HO_0 HO_4 HK HB GG28 HL520_0 HQ33 HR520_0 HX520_0 hf28_0 hx28_0 hx520_0 hx521_0 hHeld ⊢
              refine qP 0 (some 44) (bs 10 1) HT_.out ?_;refine qP 1 (some 45) (bs 10 3) HT_.out ?_;refine qP 2 (some 46) (bs 10 7) HT_.out ?_;refine qP 4 (some 48) (bs 10 23) HT_.out ?_;refine qP 5 (some 49) (bs 10 55) HT_.out ?_;refine qP 6 (some 50) (bs 10 119) HT_.out ?_;refine take_ (i := 3) (N := some 47) (v := ?_) (a' := ?_) (bs 10 127) rfl rfl (take_ofW HT_.out HW_.out (by kernel_rfl)) (fun _ _ _ h => h) (Or.inl ⟨by rfl, ?_⟩) hHeld ?_ ?_;rotate_left
              ·rintro w' ⟨s0, s1⟩
               go_simp
               with_reducible rfl
              rotate_left; (simp only [Act.put, List.setIfInBounds_toArray, List.set_cons_zero, List.set_cons_succ, i64_w, i32_w]; rfl)
              refine take_ (i := 7) (N := some 51) (v := ?_) (a' := ?_) (bs 10 255) rfl rfl (take_ofW HT_.out HW_.out (by kernel_rfl)) (fun _ _ _ h => h) (Or.inl ⟨by rfl, ?_⟩) hHeld ?_ ?_;rotate_left
              ·rintro w' ⟨s0, s1⟩
               go_simp
               with_reducible rfl
              rotate_left; (simp only [Act.put, List.setIfInBounds_toArray, List.set_cons_zero, List.set_cons_succ, i64_w, i32_w]; rfl)
              refine qP 8 (some 52) (bs 10 511) HT_.out ?_;refine last_ (i := 9) (N := none) (bs 10 1023) rfl rfl (one_of HT_.out (by kernel_rfl)) (by decide) (fun K hK => ?_);refine skip_ (w1 := ?_) (by rfl) rfl ?_ ?_;rotate_left
              ·go_simp
               rfl
              refine hK.out _ _ ?_;clear hK K;refine done_ (done_of HT_.out (by kernel_rfl)) ?_;have n0_ : Aside0 (Kd.S (Kd.slice 4 Kd.bool) 40 (w32.setCell ⟨go28, ((rd t511 x7_2) : Int).toNat, none⟩ (.bool false)) w0.heap.size (fun k_ => (P0_ k_ ∨ w.heap.size ≤ k_)) (.slice (some ad520) x0_2.length co4) y524) := ⟨by (with_reducible repeat (first | apply Kd.S_alloc | apply Kd.S_drewN | apply Kd.S_drew)); exact HQ33.out⟩;have n1_ : Aside0 (Kd.R (Kd.int .i64) 3 (w32.setCell ⟨go28, ((rd t511 x7_2) : Int).toNat, none⟩ (.bool false)) w0.heap.size (fun k_ => (P0_ k_ ∨ w.heap.size ≤ k_)) (.slice (some ad521) t511.length co21) t511) := ⟨by (with_reducible repeat (first | apply Kd.R_alloc | apply Kd.R_drewN | apply Kd.R_drew)); exact Kd.R_mono (Kd.R_far (p := ⟨go28, ((rd t511 x7_2) : Int).toNat, none⟩) (Kd.R_types HO_4.out GG28.out (by decide)) (fun _ hk => hk.2) (.bool false)) (fun _ hk => hk.1)⟩;have n2_ : Aside0 (Kept w (w32.setCell ⟨go28, ((rd t511 x7_2) : Int).toNat, none⟩ (.bool false)) (fun k_ => P0_ k_)) := ⟨by repeat (first | (with_reducible first | exact HK.out | apply Kept.alloc | apply Kept.drewN | apply Kept.drew | refine Kept.setCell ?_ HMgo28.out _) | exact HK.out)⟩;have n3_ : Aside0 (Below w0.heap.size w0 (w32.setCell ⟨go28, ((rd t511 x7_2) : Int).toNat, none⟩ (.bool false))) := ⟨by repeat (first | (with_reducible first | exact HB.out | apply below_alloc | apply pw_below_drewN | apply below_drew1 | refine below_set ?_ GB28.out) | exact HB.out)⟩;(try clear HO_0);(try clear HO_4);(try clear HK);(try clear HB);generalize (w32.setCell ⟨go28, ((rd t511 x7_2) : Int).toNat, none⟩ (.bool false)) = w35 at n0_ n1_ n2_ n3_ ⊢
              have HO_0 := n0_;have HO_4 := n1_;have HK := n2_;have HB := n3_;clear n0_ n1_ n2_ n3_;have p525 : 0 ≤ (x7_2 : Int) := of_decide_eq_true qA;have q525 : x7_2 < (t511.length : Int) := of_decide_eq_true qA;obtain ⟨ad525, e525, hx525_0⟩ := Kd.at_int (Kd.R_reads' HO_4.out).2.2 x7_2 p525 q525;obtain rfl : ad521 = ad525 := (by injection e525);replace p525 := eq_true p525;replace q525 := eq_true q525;have p526 : 0 ≤ ((rd t511 x7_2) : Int) := of_decide_eq_true qA;have q526 : (rd t511 x7_2) < (y524.length : Int) := (by have h_ : ((rd t511 x7_2) : Int) < ((x0_2.length : Int) : Int) := of_decide_eq_true qA; first | (have e_ := (Kd.S_reads' HO_0.out).1; omega) | simpa only [Ny524.out, List.length_set] using h_);have ql526 : (((rd t511 x7_2) : Int) < ((x0_2.length : Int) : Int)) = True := eq_true (of_decide_eq_true qA);obtain ⟨ad526, A526_0, c526_0, e526, hx526_0, hl526_0, hi526_0⟩ := at_L8 (Kd.S_reads' HO_0.out).2.2 (rd t511 x7_2) p526 q526;obtain rfl : ad520 = ad526 := (by injection e526);obtain ⟨ce526, hce526, hMe526, hcc526⟩ := Kd.S_get HO_0.out [] (rd t511 x7_2) p526 (by first | exact q526 | exact of_decide_eq_true qA | (have e_ := (Kd.S_reads' HO_0.out).1; omega));obtain ⟨ve526_0, rfl, ge526_0⟩ := hMe526;have hv526_0 := hcc526 0 _ rfl;rw [Nat.add_zero, show ((Kd.slice 4 Kd.bool)).sz = 1 from rfl, Nat.mul_one] at hv526_0
              replace hv526_0 := Option.some.inj (hv526_0.symm.trans hx526_0);rw [hv526_0] at ge526_0
              have HL526_0 := Aside0.mk (show Kd.R Kd.bool 4 _ _ _ _ (rd_L8 y524 (rd t511 x7_2)) from ge526_0);clear hv526_0 ge526_0;have HX526_0 := Aside0.mk hx526_0;clear hcc526 hce526;have HR526_0 := Aside0.mk hi526_0;have HC526_0 := Aside0.mk hl526_0;clear hi526_0 hl526_0;replace p526 := eq_true p526;replace q526 := eq_true q526;have p31 : 0 ≤ (a1 : Int) := of_decide_eq_true qA;have q31 : (a1 : Int) < (((rd_L8 y524 (rd t511 x7_2)).length : Int) : Int) := of_decide_eq_true qA;obtain ⟨go31, co31, eo31, gb31, gl31, cl31, HG31⟩ := Kd.R_form HL526_0.out (by omega);(first | cases eo31 | (injection eo31 with ea_ en_ ec_; (first | subst ea_ | (injection ea_ with ea_; subst ea_)); subst ec_; clear en_));have GB31 := Aside0.mk gb31;have GG31 := Aside0.mk HG31;clear gb31 gl31 HG31;have HMgo31 := Aside0.mk (show (P0_ go31 ∨ w.heap.size ≤ go31) from (HL526_0.out.1 _ rfl).1);obtain ⟨hx31_0, hf31_0⟩ := Kd.R_celln false HL526_0.out (a1 : Int) p31 q31;replace p31 := eq_true p31;replace q31 := eq_true q31;have hq36 : ((rd t511 x7_2) : Int) < (y524.length : Int) := (by have h_ : ((rd t511 x7_2) : Int) < ((x0_2.length : Int) : Int) := of_decide_eq_true qA; first | exact h_ | (have e_ := (Kd.S_reads' HO_0.out).1; omega) | simpa only [Ny524.out, List.length_set] using h_);obtain ⟨oki36, ce36, hcl36, hM36, hcc36, hok36, hbk36⟩ := Kd.S_borrow HO_0.out [] ((rd t511 x7_2) : Int) (of_decide_eq_true qA) (by first | exact hq36 | (have e_ := (Kd.S_reads' HO_0.out).1; have h_ := hq36; omega));obtain ⟨ve36_0, rfl, ge36_0⟩ := hM36;have hv36 := hcc36 0 _ rfl;rw [Nat.add_zero, show ((Kd.slice 4 Kd.bool)).sz = 1 from rfl, Nat.mul_one] at hv36
              replace hv36 := Option.some.inj (hv36.symm.trans HX526_0.out);subst hv36;clear hcc36 hcl36;replace ge36_0 := (show Kd.R Kd.bool 4 _ _ _ _ (rd_L8 y524 (rd t511 x7_2)) from ge36_0);have HP36 := Kd.R_putg ge36_0 (a1 : Int) false;try go_wp2_with (first | ((with_reducible refine gate_store (t := 4) (p := 61) rfl ?_); refine store_event (t := 4) (p := 61) (v := ?vo_w37) (w1 := (w35.setCell ⟨go31, (a1 : Int).toNat, none⟩ (.bool false))) ?hg ?ho ?hn ?hr ?_; (case ho => rfl); (case hg => rfl); (case hn => rfl); (case hr => first | (go_simp; done) | (go_simp; rfl)); intro w37 hw; have hg : w35.grownBy w37 (some go31) := (by rw [hw]; exact HP36.2); have hz_ : Kd.R Kd.bool 4 w37 w0.heap.size oki36 (.slice (some ⟨go31, 0, none⟩) (rd_L8 y524 (rd t511 x7_2)).length c526_0) y527 := (by rw [hw, Ny527.out]; exact HP36.1); have hp_ : Kd.S (Kd.slice 4 Kd.bool) 40 w37 w0.heap.size (fun k_ => (P0_ k_ ∨ w.heap.size ≤ k_)) (.slice (some ad520) x0_2.length co4) y529 := (by rw [Ny529.out]; exact hbk36 hg (fun k_ e_ => by injection e_ with e_; subst e_; exact ge36_0.1 _ rfl) (Kd.M_row hz_)); have hm_ := Kd.R_mono hz_ hok36; clear HP36 hbk36; have n0_ := Aside0.mk (hp_); have n1_ := Aside0.mk (Kd.R_over' (v := (.slice (some ⟨go31, 0, none⟩) (rd_L8 y524 (rd t511 x7_2)).length c526_0)) (qR HO_4.out) (Kd.R_typed HL526_0.out) (by decide) hg); have n2_ := Aside0.mk ((by rw [hw]; exact below_set (HB.out) GB31.out : Below w0.heap.size w0 w37)); have n3_ := Aside0.mk (Kept.of_grown (S := (fun k_ => P0_ k_)) hg (by repeat (first | (with_reducible first | exact HK.out | apply Kept.alloc | apply Kept.drewN | apply Kept.drew) | exact HK.out)) (fun k_ e_ => (HL526_0.out.1 k_ e_).1)); have n4_ := Aside0.mk (hm_); have n5_ := Aside0.mk ((Kd.R_reads' hm_).2.1); clear HO_0; clear HO_4; clear HB; clear HK; clear HL526_0; have HO_0 := n0_; have HO_4 := n1_; have HB := n2_; have HK := n3_; have HL530 := n4_; have HC528 := n5_; clear n0_ n1_ n2_ n3_ n4_ n5_; clear hg hw hp_ hz_ hm_ hok36))
              (try simp only [← hl0_2]);go_roundg k2
              case measure => have := HK1.out; have := HK2.out; omega
              case rel => exact ⟨(y529), (wrap64 (x7_2 + 1)), (by first | rfl | (simp; done) | (simp [*]; done)), H', ⟨by have := HK1.out; have := HK2.out; omega⟩, ⟨by (try simp only [hl0_1]); (try simp only [hl0_2]); (with_reducible repeat (first | apply Kd.S_alloc | apply Kd.S_drewN | apply Kd.S_drew)); exact HO_0.out⟩, ⟨by (try simp only [hl0_1]); (try simp only [hl0_2]); (with_reducible repeat (first | apply Kd.R_alloc | apply Kd.R_drewN | apply Kd.R_drew)); exact HO_4.out⟩, ⟨by repeat (first | (with_reducible first | exact HK.out | apply Kept.alloc | apply Kept.drewN | apply Kept.drew) | exact HK.out)⟩, ⟨by repeat (first | (with_reducible first | exact HB.out | apply below_alloc | apply pw_below_drewN | apply below_drew1) | exact HB.out)⟩⟩
             ·rw [if_neg c30] at H
              exact absurd H (by simp)
            ·rw [if_neg c29] at H
             exact absurd H (by simp)
           ·rw [if_neg c27] at H
            exact absurd H (by simp)
          ·rw [if_neg c26] at H
           exact absurd H (by simp)
         ·rw [if_neg c25] at H
          exact absurd H (by simp)
        ·rw [if_neg c24] at H
         exact absurd H (by simp)
       ·rw [if_neg c23] at H
        exact absurd H (by simp)
      ·rw [if_neg c22] at H
       have c22b0 : decide (x7_2 < (t511.length : Int)) = false := decide_eq_false c22;clear c22;obtain rfl := Option.some.inj H;go_wp2
       first | go_end0 | ((try simp only [Exit.inBlock, Exit.then]); refine bodyPost_ret (results_none rfl _ _ _) rfl ?_)
       exact ⟨by first | rfl | (simp [errW_none, errW_some] <;> rfl) | (simp [*, errW_none, errW_some] <;> rfl), (by first | exact (qS HO_0.out) | (simp only [hl0_1, hl0_2]; exact (qS HO_0.out))), by repeat (first | (with_reducible first | exact HB.out | apply below_alloc | apply pw_below_drewN | apply below_drew1) | exact HB.out), by repeat (first | (with_reducible first | exact HK.out | apply Kept.alloc | apply Kept.drewN | apply Kept.drew) | exact HK.out)⟩
theorem arboristref09_Go.callsB (k : Nat) (P0_ : Nat → Prop) (u9000_ : Value) (l0 : List (List Bool)) (a1 : Int) (r : List (List Bool)) (w0 w : World) (hB : Below w0.heap.size w0 w) (ho0 : Kd.S (Kd.slice 4 Kd.bool) 40 w w0.heap.size P0_ u9000_ l0) (h : arboristref09_Go.f k l0 a1 = some r) :
  Calls Tryd.prog 38 #[u9000_, .int .i64 a1] w fun e w' => e = .returned (.tuple #[]) ∧ Kd.S (Kd.slice 4 Kd.bool) 40 w' w0.heap.size (fun k_ => (P0_ k_ ∨ w.heap.size ≤ k_)) u9000_ r ∧ Below w0.heap.size w0 w' ∧ Kept w w' (SB (Kd.slice 4 Kd.bool) 40 w w0.heap.size P0_) := by
 refine (arboristref09_Go.calls k (SB (Kd.slice 4 Kd.bool) 40 w w0.heap.size P0_) u9000_ l0 a1 r w0 w hB (SB_self ho0) h).mono ?_;rintro e w' ⟨h1, h2, h3, h4⟩
 exact ⟨h1, Kd.S_mono h2 (fun k_ hk_ => Or.imp_left (fun h_ => h_.1) hk_), h3, h4⟩
end Go.Proofs.YtbdlelojlnhhfaaDoor.Pr
namespace Go.Proofs.YtbdlelojlnhhfaaDoor.Pr
open Go.RowKit Go.Proofs.YtbdlelojlnhhfaaDoorW.PrintWords Go.Proofs.YtbdlelojlnhhfaaDoorW.PrintLast Go.Proofs.YtbdlelojlnhhfaaDoorW.PrintMore
attribute [local go_sem] max2_int min2_int max_two min_two max_three min_three max_four min_four
set_option linter.unusedVariables false
set_option linter.unusedSimpArgs false
/-! ### arboristref10_Bags: function 26 -/
def arboristref10_Bags.l0 : Nat → List (List Bool) → List Int → List (List Int) → Int → Option ((List (List Int)))
 | 0, _, _, _, _ => none
 | k + 1, x0, x1, x5, x6 => if x6 < (x1.length : Int) then (if 0 ≤ x6 then ((arboristref08_Neighbors.f k x0 (rd x1 x6)).bind fun t538 => ((arboristref01_Unite.f k t538 (([rd x1 x6] : List Int))).bind fun t545 => (if x5.length < 5864062014805 then ((arboristref09_Go.f k x0 (rd x1 x6)).bind fun t552 => (arboristref10_Bags.l0 k t552 x1 (x5 ++ [t545]) (wrap64 (x6 + 1)))) else (none)))) else (none)) else (some x5)
def arboristref10_Bags.f (k : Nat) (l0 : List (List Bool)) (l1 : List Int) : Option ((List (List Int))) := (arboristref09_Copy.f k l0).bind fun t531 => (arboristref10_Bags.l0 k t531 l1 (([] : List (List Int))) 0)
theorem arboristref10_Bags.mono_l : ∀ k, (∀ y0 y1 y2 y3, LeO (arboristref10_Bags.l0 k y0 y1 y2 y3) (arboristref10_Bags.l0 (k + 1) y0 y1 y2 y3))
 | 0 => fun _ _ _ _ r h => by simp [arboristref10_Bags.l0] at h
 | k + 1 => by
  have ih0 := arboristref10_Bags.mono_l k;all_goals intros
  all_goals (first | unfold arboristref10_Bags.l0)
  all_goals repeat' first
  | (with_reducible first | exact ih0 _ _ _ _ | exact arboristref01_Unite.mono _ _ _ | exact arboristref08_Neighbors.mono _ _ _ | exact arboristref09_Copy.mono _ _ | exact arboristref09_Go.mono _ _ _ | exact LeO.refl _ | exact LeO.none _ | refine LeO.ite ?_ ?_ | refine LeO.bind ?_ (fun _ => ?_))
  | exact ih0 _ _ _ _
  | exact arboristref01_Unite.mono _ _ _
  | exact arboristref08_Neighbors.mono _ _ _
  | exact arboristref09_Copy.mono _ _
  | exact arboristref09_Go.mono _ _ _
  | exact LeO.none _
  | refine LeO.ite ?_ ?_
  | refine LeO.bind ?_ (fun _ => ?_)
theorem arboristref10_Bags.mono : ∀ a0 a1 k, LeO (arboristref10_Bags.f k a0 a1) (arboristref10_Bags.f (k + 1) a0 a1) := by
 intro a0 a1 k
 have ih0 := arboristref10_Bags.mono_l k;unfold arboristref10_Bags.f
 repeat' first
   | (with_reducible first | exact ih0 _ _ _ _ | exact arboristref01_Unite.mono _ _ _ | exact arboristref08_Neighbors.mono _ _ _ | exact arboristref09_Copy.mono _ _ | exact arboristref09_Go.mono _ _ _ | exact LeO.refl _ | exact LeO.none _ | refine LeO.ite ?_ ?_ | refine LeO.bind ?_ (fun _ => ?_))
   | exact ih0 _ _ _ _
   | exact arboristref01_Unite.mono _ _ _
   | exact arboristref08_Neighbors.mono _ _ _
   | exact arboristref09_Copy.mono _ _
   | exact arboristref09_Go.mono _ _ _
   | exact LeO.none _
   | refine LeO.ite ?_ ?_
   | refine LeO.bind ?_ (fun _ => ?_)
def arboristref10_Bags.T6 : Bool × List (List Nat × List Nat) := (true, [([], []), ([], []), ([], []), ([], []), ([2, 3], [2, 3]), ([4], [4]), ([1, 5], [1, 5]), ([], []), ([], []), ([7, 8], [7, 8]), ([9], [9]), ([10], [10]), ([6, 11, 6], [6, 11]), ([12], [12]), ([0, 13, 12], [0, 13]), ([14, 14, 0, 1, 2, 3, 4, 5, 6, 7, 8, 9, 10, 11, 12, 13, 14], [0, 14])])
def arboristref10_Bags.B6 : List Nat := [0, 0, 0, 0, 12, 28, 62, 0, 0, 384, 896, 1920, 4094, 8190, 16383, 32767]
theorem arboristref10_Bags.tab6 : rtab .any (opsOf Tryd.f26 6) = arboristref10_Bags.T6 := by kernel_rfl
theorem arboristref10_Bags.bits6 : waitsOk arboristref10_Bags.T6.2 arboristref10_Bags.B6 = true := by kernel_rfl
set_option maxHeartbeats 8000000 in
set_option maxRecDepth 100000 in
theorem arboristref10_Bags.calls (k : Nat) (A0 : Option Addr) (c0 : Nat) (l0 : List (List Bool)) (A1 : Option Addr) (c1 : Nat) (l1 : List Int) (r : List (List Int)) (w : World) (hr0 : Kd.C (Kd.slice 4 Kd.bool) w A0 l0.length l0) (hc0 : l0.length ≤ c0) (hr1 : Kd.C (Kd.int .i64) w A1 l1.length l1) (hc1 : l1.length ≤ c1) (h : arboristref10_Bags.f k l0 l1 = some r) :
  Calls Tryd.prog 26 #[.slice A0 l0.length c0, .slice A1 l1.length c1] w fun e w' => ∃ v0_ : Value, e = .returned (v0_) ∧ Kd.S (Kd.slice 3 (Kd.int .i64)) 23 w' w.heap.size (fun _ => True) v0_ r ∧ Below w.heap.size w w' := by
 have HR0 := Aside0.mk hr0;have HC0 := Aside0.mk hc0;clear hr0 hc0;have HR1 := Aside0.mk hr1;have HC1 := Aside0.mk hc1;clear hr1 hc1;have HB := Aside0.mk (Below.refl w.heap.size w);have H : ((arboristref09_Copy.f k l0).bind fun t531 => (arboristref10_Bags.l0 k t531 l1 (([] : List (List Int))) 0)) = some r := h;clear h;replace H := Option.bind_eq_some_iff.mp H;obtain ⟨t531, A30, H⟩ := H;(try dsimp only at H);have A3 := Aside0.mk A30;clear A30;obtain ⟨y534, hy534⟩ : ∃ y_ : List (List Int), y_ = (([] : List (List Int))) := ⟨_, rfl⟩;replace H : (arboristref10_Bags.l0 k t531 l1 y534 0) = some r := by first | (rw [hy534]; with_reducible exact H) | (have H2_ := (Option.bind_some _ _).symm.trans H; rw [hy534]; with_reducible exact H2_) | (have H2_ := (Option.bind_some _ _).symm.trans H; with_reducible exact H2_) | with_reducible exact H | (rw [hy534]; exact H) | exact H
 have Ny534 := Aside0.mk hy534;clear hy534;have H' := Aside0.mk H;clear H;go_enter Tryd.func26, Tryd.ntmps26
 go_wp2_with (first | ((with_reducible refine gate_callee (f := 36) rfl ?_); refine goesL_ (some 8) rfl rfl Tryd.func36 (by kernel_rfl) rfl #[.slice A0 l0.length c0] rfl qM ?_; (with_reducible refine (arboristref09_Copy.calls k _ _ l0 t531 _ ?side1 ?side2 A3.out).mono ?_); (case side1 => repeat (first | exact HR0.out | (with_reducible refine Kd.C_alloc ?_ _) | (with_reducible refine Kd.C_drewN ?_ _) | (with_reducible refine Kd.C_drew ?_))); (case side2 => exact HC0.out); rintro e w4 ⟨v532, rfl, ho0, hb⟩; refine ⟨_, rfl, ?_⟩; have n0_ := Aside0.mk (Kd.S_lower ho0 (below_size (qB HB.out))); have n1_ := Aside0.mk (below_step (qB HB.out) hb); clear HB; have HO533 := n0_; have HB := n1_; clear n0_ n1_; (try clear hb); (try clear hb2); (try clear hk); (try clear hi); (try clear ho0)) | ((with_reducible refine gate_dst (N := 9) rfl ?_); refine Kd.S_lit (Kd.slice 3 (Kd.int .i64)) _ 23 ?hg (N := 9) ?hd (xs := ([] : List (List Int))) (inner := []) (ok := fun _ => True) (okp := fun _ => True) ?hr ?hp (fun _ hk => hk) trivial (Below.refl _ _) (Nat.le_refl _) (by simp) ?_; (case hd => rfl); (case hg => rfl); (case hr => first | (go_simp; done) | (go_simp; rfl)); (case hp => exact (Reps.none _ _)); intro v535 w5 ho6 hb hg_ hnew_; clear hg_ hnew_; (first | rw [← Ny534.out] at ho6 | (simp only [Int.reduceToNat] at ho6; rw [← Ny534.out] at ho6)); have n0_ := Aside0.mk (Kd.S_below (qS HO533.out) hb); have n1_ := Aside0.mk (Kd.S_lower ho6 (below_size (qB HB.out))); have n2_ := Aside0.mk (below_step (qB HB.out) hb); clear HO533; clear HB; have HO533 := n0_; have HO536 := n1_; have HB := n2_; clear n0_ n1_ n2_; clear hb ho6))
 go_loopg [5, 6] k (fun kq v5 v6 w' => ∃ (x0_1 : List (List Bool)) (x5_1 : List (List Int)) (x6_1 : Int), v6 = .int .i64 x6_1 ∧ Aside0 (arboristref10_Bags.l0 kq x0_1 l1 x5_1 x6_1 = some r) ∧ Aside0 (kq ≤ k) ∧ Aside0 (Kd.S (Kd.slice 4 Kd.bool) 40 w' w.heap.size (fun _ => True) v532 x0_1) ∧ Aside0 (Kd.S (Kd.slice 3 (Kd.int .i64)) 23 w' w.heap.size (fun _ => True) v5 x5_1) ∧ Aside0 (Below w.heap.size w w'))
 case atStart => exact ⟨(t531), (y534), (0), (by first | rfl | (simp; done) | (simp [*]; done)), H', ⟨Nat.le_refl _⟩, ⟨by (with_reducible repeat (first | apply Kd.S_alloc | apply Kd.S_drewN | apply Kd.S_drew)); exact HO533.out⟩, ⟨by (with_reducible repeat (first | apply Kd.S_alloc | apply Kd.S_drewN | apply Kd.S_drew)); exact HO536.out⟩, ⟨by repeat (first | (with_reducible first | exact HB.out | apply below_alloc | apply pw_below_drewN | apply below_drew1) | exact HB.out)⟩⟩
 case round =>
  clear H';try clear c1
  try clear c2
  try clear p2
  try clear c3
  obtain ⟨x0_1, x5_1, x6_1, rfl, HA, HK1, HO_0, HO_5, HB⟩ := hrel;cases gk with
  | zero => exact absurd HA.out (by simp [arboristref10_Bags.l0])
  | succ k1 =>
   have H := HA.out;clear HA;simp only [arboristref10_Bags.l0] at H
   by_cases c7 : x6_1 < (l1.length : Int)
   ·rw [if_pos c7] at H
    have c7b0 : decide (x6_1 < (l1.length : Int)) = true := decide_eq_true c7;clear c7;by_cases c8 : 0 ≤ x6_1
    ·rw [if_pos c8] at H
     have c8b0 : decide (0 ≤ x6_1) = true := decide_eq_true c8;clear c8;replace H := Option.bind_eq_some_iff.mp H;obtain ⟨t538, A90, H⟩ := H;(try dsimp only at H);have A9 := Aside0.mk A90;clear A90;obtain ⟨y542, hy542⟩ : ∃ y_ : List Int, y_ = (([rd l1 x6_1] : List Int)) := ⟨_, rfl⟩;replace H : ((arboristref01_Unite.f k1 t538 y542).bind fun t545 => (if x5_1.length < 5864062014805 then ((arboristref09_Go.f k1 x0_1 (rd l1 x6_1)).bind fun t552 => (arboristref10_Bags.l0 k1 t552 l1 (x5_1 ++ [t545]) (wrap64 (x6_1 + 1)))) else (none))) = some r := by first | (rw [hy542]; with_reducible exact H) | (have H2_ := (Option.bind_some _ _).symm.trans H; rw [hy542]; with_reducible exact H2_) | (have H2_ := (Option.bind_some _ _).symm.trans H; with_reducible exact H2_) | with_reducible exact H | (rw [hy542]; exact H) | exact H
     have Ny542 := Aside0.mk hy542;clear hy542;replace H := Option.bind_eq_some_iff.mp H;obtain ⟨t545, A100, H⟩ := H;(try dsimp only at H);have A10 := Aside0.mk A100;clear A100;by_cases c11 : x5_1.length < 5864062014805
     ·rw [if_pos c11] at H
      have LMc11 := Aside0.mk c11;clear c11;obtain ⟨y548, hy548⟩ : ∃ y_ : List (List Int), y_ = (x5_1 ++ [t545]) := ⟨_, rfl⟩;replace H : ((arboristref09_Go.f k1 x0_1 (rd l1 x6_1)).bind fun t552 => (arboristref10_Bags.l0 k1 t552 l1 y548 (wrap64 (x6_1 + 1)))) = some r := by first | (rw [hy548]; with_reducible exact H) | (have H2_ := (Option.bind_some _ _).symm.trans H; rw [hy548]; with_reducible exact H2_) | (have H2_ := (Option.bind_some _ _).symm.trans H; with_reducible exact H2_) | with_reducible exact H | (rw [hy548]; exact H) | exact H
      have Ny548 := Aside0.mk hy548;clear hy548;replace H := Option.bind_eq_some_iff.mp H;obtain ⟨t552, A120, H⟩ := H;(try dsimp only at H);have A12 := Aside0.mk A120;clear A120;have H' := Aside0.mk H;clear H;obtain ⟨Ao13, co13, eo13⟩ := Kd.S_slice HO_0.out;subst eo13;obtain ⟨Ao14, co14, eo14⟩ := Kd.S_slice HO_5.out;subst eo14;try go_wp2
      replace HO_0 := Aside0.mk (Kd.S_drew HO_0.out);replace HO_5 := Aside0.mk (Kd.S_drew HO_5.out);replace HB := Aside0.mk (below_drew1 HB.out);have p537 : 0 ≤ (x6_1 : Int) := of_decide_eq_true qA;have q537 : x6_1 < (l1.length : Int) := of_decide_eq_true qA;obtain ⟨ad537, e537, hx537_0⟩ := Kd.at_int HR1.out x6_1 p537 q537;have hw537_0 := hx537_0;cases e537
      replace hx537_0 := (HB.out.cell (World.block_lt_of_cell? w _ hx537_0)).trans hx537_0;replace p537 := eq_true p537;replace q537 := eq_true q537;have p541 : 0 ≤ (x6_1 : Int) := of_decide_eq_true qA;have q541 : x6_1 < (l1.length : Int) := of_decide_eq_true qA;obtain ⟨ad541, e541, hx541_0⟩ := Kd.at_int HR1.out x6_1 p541 q541;have hw541_0 := hx541_0;obtain rfl : ad537 = ad541 := (by injection e541);replace hx541_0 := (HB.out.cell (World.block_lt_of_cell? w _ hx541_0)).trans hx541_0;replace p541 := eq_true p541;replace q541 := eq_true q541;refine start_ (n := 16) (S := fun w' => w'.cell? (ad537.add (x6_1).toNat) = some (.int .i64 (rd l1 x6_1)) ∧ w'.cell? (ad537.add (x6_1).toNat) = some (.int .i64 (rd l1 x6_1))) (ds := []) (bs 16 0) (by kernel_rfl) rfl rfl ⟨((HB.out.cell (World.block_lt_of_cell? w _ hw537_0)).trans hw537_0), ((HB.out.cell (World.block_lt_of_cell? w _ hw541_0)).trans hw541_0)⟩ (fun hHeld => ?_); refine with_tabW arboristref10_Bags.tab6 arboristref10_Bags.bits6 (fun HT_ HW_ => ?_)
      generalize wr.drew = w15 at HO_0 HO_5 HB hx537_0 hx541_0 hHeld ⊢
      refine qP 0 (some 16) (bs 16 1) HT_.out ?_;refine qP 1 (some 17) (bs 16 3) HT_.out ?_;refine qP 2 (some 18) (bs 16 7) HT_.out ?_;refine qP 3 (some 19) (bs 16 15) HT_.out ?_;refine qP 4 (some 20) (bs 16 31) HT_.out ?_;refine qP 7 (some 23) (bs 16 159) HT_.out ?_;refine qP 8 (some 24) (bs 16 415) HT_.out ?_;refine qP 9 (some 25) (bs 16 927) HT_.out ?_;refine take_ (i := 5) (N := some 21) (v := ?_) (a' := ?_) (bs 16 959) rfl rfl (take_ofW HT_.out HW_.out (by kernel_rfl)) (fun _ _ _ h => h) (Or.inl ⟨by rfl, ?_⟩) hHeld ?_ ?_;rotate_left
      ·rintro w' ⟨s0, s1⟩
       go_simp
       with_reducible rfl
      rotate_left; (simp only [Act.put, List.setIfInBounds_toArray, List.set_cons_zero, List.set_cons_succ, i64_w, i32_w]; rfl)
      refine take_ (i := 10) (N := some 26) (v := ?_) (a' := ?_) (bs 16 1983) rfl rfl (take_ofW HT_.out HW_.out (by kernel_rfl)) (fun _ _ _ h => h) (Or.inl ⟨by rfl, ?_⟩) hHeld ?_ ?_;rotate_left
      ·rintro w' ⟨s0, s1⟩
       go_simp
       with_reducible rfl
      rotate_left; (simp only [Act.put, List.setIfInBounds_toArray, List.set_cons_zero, List.set_cons_succ, i64_w, i32_w]; rfl)
      refine join_ (σ := Value × Value) 4 (bs 16 4095) (fun s_ => [(22, s_.1), (27, s_.2)]) (fun s_ w' => (w'.cell? (ad537.add (x6_1).toNat) = some (.int .i64 (rd l1 x6_1)) ∧ w'.cell? (ad537.add (x6_1).toNat) = some (.int .i64 (rd l1 x6_1))) ∧ (Kd.R (Kd.int .i64) 3 w' w.heap.size (fun k_ => some k_ ≠ (s_.2 : Value).ownBlock) s_.1 t538) ∧ (Kd.R (Kd.int .i64) 3 w' w.heap.size (fun k_ => some k_ ≠ (s_.1 : Value).ownBlock) s_.2 y542) ∧ (Kd.S (Kd.slice 4 Kd.bool) 40 w' w.heap.size (fun _ => True) (.slice Ao13 x0_1.length co13) x0_1) ∧ (Kd.S (Kd.slice 3 (Kd.int .i64)) 23 w' w.heap.size (fun k_ => some k_ ≠ (s_.1 : Value).ownBlock ∧ some k_ ≠ (s_.2 : Value).ownBlock) (.slice Ao14 x5_1.length co14) x5_1) ∧ (Below w.heap.size w w')) ?_ ?_;rotate_left
      ·intro hCont
       refine two_ (i := 6) (j := 11) (Ni := some 22) (Nj := some 27) (bs 16 2047) (bs 16 4031) rfl rfl rfl rfl (two_of HT_.out (by kernel_rfl)) (by decide) (by decide) (fun K hK => ?_) (fun K hK => ?_)
       ·skip
        refine goes_ Tryd.func27 (by kernel_rfl) rfl #[.slice Ao13 x0_1.length co13, .int .i64 (rd l1 x6_1)] (by rfl) rfl rfl qM ?_;with_reducible refine (arboristref08_Neighbors.calls k1 _ _ x0_1 (rd l1 x6_1) t538 _ ?side1 ?side2 A9.out).mono ?_
        (case side1 => repeat (first | exact (Kd.S_reads' HO_0.out).2.2 | (with_reducible refine Kd.C_alloc ?_ _) | (with_reducible refine Kd.C_drewN ?_ _) | (with_reducible refine Kd.C_drew ?_)));(case side2 => exact (Kd.S_reads' HO_0.out).2.1);rintro e w16 ⟨v539, rfl, ho0, hb⟩
        refine ⟨_, rfl, ?_⟩;have HO540 := Aside0.mk (Kd.R_lower ho0 (below_size (qB HB.out)));replace HO_0 := Aside0.mk (Kd.S_below (qS HO_0.out) hb);replace HO_5 := Aside0.mk (Kd.S_elder' (qS HO_5.out) (Kd.R_base ho0) hb);replace HB := Aside0.mk (below_step (qB HB.out) hb);(try clear hb);(try clear hb2);(try clear hk);(try clear hi);(try clear ho0);refine hK.out _ _ ⟨((HB.out.cell (World.block_lt_of_cell? w _ hw537_0)).trans hw537_0), ((HB.out.cell (World.block_lt_of_cell? w _ hw541_0)).trans hw541_0)⟩ (fun hHeld => ?_);clear hK K;refine norm_ (a' := ?_) ?_ ?_;rotate_left
        ·show Act.put _ (some 22) _ = _
         simp only [Act.put, List.setIfInBounds_toArray, List.set_cons_zero, List.set_cons_succ, i64_w, i32_w]
         rfl
        refine one_ (i := 11) (N := some 27) (bs 16 4095) rfl rfl (one_of HT_.out (by kernel_rfl)) (by decide) (fun K hK => ?_);refine Kd.R_lit_step (Kd.int .i64) _ 3 ?hg (N := 27) ?hd (xs := ([rd l1 x6_1] : List Int)) (inner := [.int .i64 (rd l1 x6_1)]) (ok := fun _ => True) (okp := fun _ => True) ?hr ?hp (fun _ hk => hk) trivial (Below.refl _ _) (Nat.le_refl _) (by simp) ?_; (case hd => rfl); (case hg => rfl); (case hr => first | (go_simp; done) | (go_simp; rfl)); (case hp => exact (Reps.one (show Kd.M (Kd.int .i64) _ _ _ (rd l1 x6_1) [.int .i64 (rd l1 x6_1)] from rfl) (Reps.none _ _)))
        intro v543 w17 ho18 hb hg_ hnew_
        clear hg_ hnew_;(first | rw [← Ny542.out] at ho18 | (simp only [Int.reduceToNat] at ho18; rw [← Ny542.out] at ho18));have HO544 := Aside0.mk (Kd.R_lower (Kd.R_new' ho18 (Kd.R_lt (qR HO540.out))) (below_size (qB HB.out)));replace HO_0 := Aside0.mk (Kd.S_below (qS HO_0.out) hb);replace HO_5 := Aside0.mk (Kd.S_elder' (qS HO_5.out) (Kd.R_base ho18) hb);replace HO540 := Aside0.mk (Kd.R_elder' (qR HO540.out) (Kd.R_base ho18) hb);replace HB := Aside0.mk (below_step (qB HB.out) hb);clear hb ho18;refine hK.out _ _ ⟨((HB.out.cell (World.block_lt_of_cell? w _ hw537_0)).trans hw537_0), ((HB.out.cell (World.block_lt_of_cell? w _ hw541_0)).trans hw541_0)⟩ (fun hHeld => ?_);clear hK K;refine norm_ (a' := ?_) ?_ ?_;rotate_left
        ·show Act.put _ (some 27) _ = _
         simp only [Act.put, List.setIfInBounds_toArray, List.set_cons_zero, List.set_cons_succ, i64_w, i32_w]
         rfl
        exact norm_ (by simp only [putAll, Act.put, List.setIfInBounds_toArray, List.set_cons_zero, List.set_cons_succ]) (hCont (v539, v543) _ ⟨hHeld, (by (with_reducible repeat (first | apply Kd.R_alloc | apply Kd.R_drewN | apply Kd.R_drew)); exact Kd.R_mono HO540.out (fun _ hk => hk.2)), (by (with_reducible repeat (first | apply Kd.R_alloc | apply Kd.R_drewN | apply Kd.R_drew)); exact Kd.R_mono HO544.out (fun _ hk => hk.2)), (qS HO_0.out), (by (with_reducible repeat (first | apply Kd.S_alloc | apply Kd.S_drewN | apply Kd.S_drew)); exact Kd.S_mono HO_5.out (fun _ hk => ⟨hk.1.2, hk.2⟩)), (qB HB.out)⟩)
       ·skip
        refine Kd.R_lit_step (Kd.int .i64) _ 3 ?hg (N := 27) ?hd (xs := ([rd l1 x6_1] : List Int)) (inner := [.int .i64 (rd l1 x6_1)]) (ok := fun _ => True) (okp := fun _ => True) ?hr ?hp (fun _ hk => hk) trivial (Below.refl _ _) (Nat.le_refl _) (by simp) ?_; (case hd => rfl); (case hg => rfl); (case hr => first | (go_simp; done) | (go_simp; rfl)); (case hp => exact (Reps.one (show Kd.M (Kd.int .i64) _ _ _ (rd l1 x6_1) [.int .i64 (rd l1 x6_1)] from rfl) (Reps.none _ _)))
        intro v543 w16 ho17 hb hg_ hnew_
        clear hg_ hnew_;(first | rw [← Ny542.out] at ho17 | (simp only [Int.reduceToNat] at ho17; rw [← Ny542.out] at ho17));have HO544 := Aside0.mk (Kd.R_lower ho17 (below_size (qB HB.out)));replace HO_0 := Aside0.mk (Kd.S_below (qS HO_0.out) hb);replace HO_5 := Aside0.mk (Kd.S_elder' (qS HO_5.out) (Kd.R_base ho17) hb);replace HB := Aside0.mk (below_step (qB HB.out) hb);clear hb ho17;refine hK.out _ _ ⟨((HB.out.cell (World.block_lt_of_cell? w _ hw537_0)).trans hw537_0), ((HB.out.cell (World.block_lt_of_cell? w _ hw541_0)).trans hw541_0)⟩ (fun hHeld => ?_);clear hK K;refine norm_ (a' := ?_) ?_ ?_;rotate_left
        ·show Act.put _ (some 27) _ = _
         simp only [Act.put, List.setIfInBounds_toArray, List.set_cons_zero, List.set_cons_succ, i64_w, i32_w]
         rfl
        refine one_ (i := 6) (N := some 22) (bs 16 4095) rfl rfl (one_of HT_.out (by kernel_rfl)) (by decide) (fun K hK => ?_);refine goes_ Tryd.func27 (by kernel_rfl) rfl #[.slice Ao13 x0_1.length co13, .int .i64 (rd l1 x6_1)] (by rfl) rfl rfl qM ?_;with_reducible refine (arboristref08_Neighbors.calls k1 _ _ x0_1 (rd l1 x6_1) t538 _ ?side1 ?side2 A9.out).mono ?_
        (case side1 => repeat (first | exact (Kd.S_reads' HO_0.out).2.2 | (with_reducible refine Kd.C_alloc ?_ _) | (with_reducible refine Kd.C_drewN ?_ _) | (with_reducible refine Kd.C_drew ?_)));(case side2 => exact (Kd.S_reads' HO_0.out).2.1);rintro e w18 ⟨v539, rfl, ho0, hb⟩
        refine ⟨_, rfl, ?_⟩;have HO540 := Aside0.mk (Kd.R_lower (Kd.R_new' ho0 (Kd.R_lt (qR HO544.out))) (below_size (qB HB.out)));replace HO_0 := Aside0.mk (Kd.S_below (qS HO_0.out) hb);replace HO_5 := Aside0.mk (Kd.S_elder' (qS HO_5.out) (Kd.R_base ho0) hb);replace HO544 := Aside0.mk (Kd.R_elder' (qR HO544.out) (Kd.R_base ho0) hb);replace HB := Aside0.mk (below_step (qB HB.out) hb);(try clear hb);(try clear hb2);(try clear hk);(try clear hi);(try clear ho0);refine hK.out _ _ ⟨((HB.out.cell (World.block_lt_of_cell? w _ hw537_0)).trans hw537_0), ((HB.out.cell (World.block_lt_of_cell? w _ hw541_0)).trans hw541_0)⟩ (fun hHeld => ?_);clear hK K;refine norm_ (a' := ?_) ?_ ?_;rotate_left
        ·show Act.put _ (some 22) _ = _
         simp only [Act.put, List.setIfInBounds_toArray, List.set_cons_zero, List.set_cons_succ, i64_w, i32_w]
         rfl
        exact norm_ (by simp only [putAll, Act.put, List.setIfInBounds_toArray, List.set_cons_zero, List.set_cons_succ]) (hCont (v539, v543) _ ⟨hHeld, (by (with_reducible repeat (first | apply Kd.R_alloc | apply Kd.R_drewN | apply Kd.R_drew)); exact Kd.R_mono HO540.out (fun _ hk => hk.2)), (by (with_reducible repeat (first | apply Kd.R_alloc | apply Kd.R_drewN | apply Kd.R_drew)); exact Kd.R_mono HO544.out (fun _ hk => hk.2)), (qS HO_0.out), (by (with_reducible repeat (first | apply Kd.S_alloc | apply Kd.S_drewN | apply Kd.S_drew)); exact Kd.S_mono HO_5.out (fun _ hk => ⟨hk.2, hk.1.2⟩)), (qB HB.out)⟩)
      rintro ⟨v539, v543⟩ w19 ⟨hS_, h0_, h1_, h2_, h3_, h4_⟩
      have n0_ : Aside0 (Kd.R (Kd.int .i64) 3 w19 w.heap.size (fun k_ => some k_ ≠ (v543 : Value).ownBlock) v539 t538) := ⟨h0_⟩;have n1_ : Aside0 (Kd.R (Kd.int .i64) 3 w19 w.heap.size (fun k_ => some k_ ≠ (v539 : Value).ownBlock) v543 y542) := ⟨h1_⟩;have n2_ : Aside0 (Kd.S (Kd.slice 4 Kd.bool) 40 w19 w.heap.size (fun _ => True) (.slice Ao13 x0_1.length co13) x0_1) := ⟨h2_⟩;have n3_ : Aside0 (Kd.S (Kd.slice 3 (Kd.int .i64)) 23 w19 w.heap.size (fun k_ => some k_ ≠ (v539 : Value).ownBlock ∧ some k_ ≠ (v543 : Value).ownBlock) (.slice Ao14 x5_1.length co14) x5_1) := ⟨h3_⟩;have n4_ : Aside0 (Below w.heap.size w w19) := ⟨h4_⟩;clear HO_0;clear HO_5;clear HB;clear h0_ h1_ h2_ h3_ h4_;have HO540 := n0_;have HO544 := n1_;have HO_0 := n2_;have HO_5 := n3_;have HB := n4_;clear n0_ n1_ n2_ n3_ n4_;have hHeld : w19.cell? (ad537.add (x6_1).toNat) = some (.int .i64 (rd l1 x6_1)) ∧ w19.cell? (ad537.add (x6_1).toNat) = some (.int .i64 (rd l1 x6_1)) := hS_;obtain ⟨Ao20, co20, eo20⟩ := Kd.R_slice HO540.out;(first | subst eo20 | (injection eo20 with f1_ f2_ f3_; have f4_ := f1_.symm; have f5_ := f3_.symm; clear f1_ f2_ f3_; subst f4_; subst f5_));obtain ⟨Ao21, co21, eo21⟩ := Kd.R_slice HO544.out;(first | subst eo21 | (injection eo21 with f1_ f2_ f3_; have f4_ := f1_.symm; have f5_ := f3_.symm; clear f1_ f2_ f3_; subst f4_; subst f5_));refine norm_ (a' := ?_) ?_ ?_;rotate_left
      ·simp only [putAll, Act.put, List.setIfInBounds_toArray, List.set_cons_zero, List.set_cons_succ]
       rfl
      refine one_ (i := 12) (N := some 28) (bs 16 8191) rfl rfl (one_of HT_.out (by kernel_rfl)) (by decide) (fun K hK => ?_);refine goes_ Tryd.func37 (by kernel_rfl) rfl #[.slice Ao20 t538.length co20, .slice Ao21 y542.length co21] (by rfl) rfl rfl qM ?_;with_reducible refine (arboristref01_Unite.calls k1 _ _ t538 _ _ y542 t545 _ ?side1 ?side2 ?side3 ?side4 A10.out).mono ?_
      (case side1 => repeat (first | exact (Kd.R_reads' HO540.out).2.2 | (with_reducible refine Kd.C_alloc ?_ _) | (with_reducible refine Kd.C_drewN ?_ _) | (with_reducible refine Kd.C_drew ?_)));(case side2 => exact (Kd.R_reads' HO540.out).2.1);(case side3 => repeat (first | exact (Kd.R_reads' HO544.out).2.2 | (with_reducible refine Kd.C_alloc ?_ _) | (with_reducible refine Kd.C_drewN ?_ _) | (with_reducible refine Kd.C_drew ?_)));(case side4 => exact (Kd.R_reads' HO544.out).2.1);rintro e w22 ⟨v546, rfl, ho0, hb⟩
      refine ⟨_, rfl, ?_⟩;have HO547 := Aside0.mk (Kd.R_lower (Kd.R_new' (Kd.R_new' ho0 (Kd.R_lt (qR HO540.out))) (Kd.R_lt (qR HO544.out))) (below_size (qB HB.out)));replace HO_0 := Aside0.mk (Kd.S_below (qS HO_0.out) hb);replace HO_5 := Aside0.mk (Kd.S_elder' (qS HO_5.out) (Kd.R_base ho0) hb);replace HO540 := Aside0.mk (Kd.R_elder' (qR HO540.out) (Kd.R_base ho0) hb);replace HO544 := Aside0.mk (Kd.R_elder' (qR HO544.out) (Kd.R_base ho0) hb);replace HB := Aside0.mk (below_step (qB HB.out) hb);(try clear hb);(try clear hb2);(try clear hk);(try clear hi);(try clear ho0);obtain ⟨Ao24, co24, eo24⟩ := Kd.R_slice HO547.out;(first | subst eo24 | (injection eo24 with f1_ f2_ f3_; have f4_ := f1_.symm; have f5_ := f3_.symm; clear f1_ f2_ f3_; subst f4_; subst f5_));refine hK.out _ _ ⟨((HB.out.cell (World.block_lt_of_cell? w _ hw537_0)).trans hw537_0), ((HB.out.cell (World.block_lt_of_cell? w _ hw541_0)).trans hw541_0)⟩ (fun hHeld => ?_);clear hK K;refine norm_ (a' := ?_) ?_ ?_;rotate_left
      ·show Act.put _ (some 28) _ = _
       simp only [Act.put, List.setIfInBounds_toArray, List.set_cons_zero, List.set_cons_succ, i64_w, i32_w]
       rfl
      refine one_ (i := 13) (N := some 29) (bs 16 16383) rfl rfl (one_of HT_.out (by kernel_rfl)) (by decide) (fun K hK => ?_);refine value_ (w1 := ?_) (v := ?_) (by rfl) rfl ?_ ?_;rotate_left 2
      ·go_simp
       constructor
       ·rfl
       ·rfl
      refine hK.out _ _ ⟨(World.cell?_alloc_lt _ _ _ (World.block_lt_of_cell? _ _ (((HB.out.cell (World.block_lt_of_cell? w _ hw537_0)).trans hw537_0)))).trans (((HB.out.cell (World.block_lt_of_cell? w _ hw537_0)).trans hw537_0)), (World.cell?_alloc_lt _ _ _ (World.block_lt_of_cell? _ _ (((HB.out.cell (World.block_lt_of_cell? w _ hw541_0)).trans hw541_0)))).trans (((HB.out.cell (World.block_lt_of_cell? w _ hw541_0)).trans hw541_0))⟩ (fun hHeld => ?_);clear hK K;refine norm_ (a' := ?_) ?_ ?_;rotate_left
      ·show Act.put _ (some 29) _ = _
       simp only [Act.put, List.setIfInBounds_toArray, List.set_cons_zero, List.set_cons_succ, i64_w, i32_w]
       rfl
      refine one_ (i := 14) (N := some 30) (bs 16 32767) rfl rfl (one_of HT_.out (by kernel_rfl)) (by decide) (fun K hK => ?_);refine Kd.S_append_step (Kd.slice 3 (Kd.int .i64)) (w0 := w) w.heap.size (by rfl) (.tmp 16) (.tmp 29) 22 23 (.slice none 0 0) 24 rfl Tryd.underlying22 info23 rfl (by decide) (by omega) (.slice Ao14 x5_1.length co14) x5_1 t545 [.slice Ao24 t545.length co24] (fun k_ => some k_ ≠ (.slice Ao20 t538.length co20 : Value).ownBlock ∧ some k_ ≠ (.slice Ao21 y542.length co21 : Value).ownBlock) (fun k_ => some k_ = (.slice Ao24 t545.length co24 : Value).ownBlock) rfl rfl ?aP (fun k_ hk_ => ((Kd.R_mono (ok' := fun k_ => ((fun k_ => some k_ ≠ (.slice Ao20 t538.length co20 : Value).ownBlock ∧ some k_ ≠ (.slice Ao21 y542.length co21 : Value).ownBlock)) k_ ∧ some k_ ≠ (.slice Ao14 x5_1.length co14 : Value).ownBlock) (Kd.R_apart' (HO547.out) (Kd.S_typed HO_5.out) (by decide)) (fun k_ hk => ⟨⟨hk.1.1.2, hk.1.2⟩, hk.2⟩))).1 k_ hk_.symm) ?aF ?aO ?aB ?aS ?aL ?_;(case aP => exact Kd.M_row (Kd.R_mono (Kd.R_tight rfl (Kd.R_mono (ok' := fun k_ => ((fun k_ => some k_ ≠ (.slice Ao20 t538.length co20 : Value).ownBlock ∧ some k_ ≠ (.slice Ao21 y542.length co21 : Value).ownBlock)) k_ ∧ some k_ ≠ (.slice Ao14 x5_1.length co14 : Value).ownBlock) (Kd.R_apart' (HO547.out) (Kd.S_typed HO_5.out) (by decide)) (fun k_ hk => ⟨⟨hk.1.1.2, hk.1.2⟩, hk.2⟩))) (fun _ h_ => h_)));(case aB => exact (qB HB.out));(case aF => exact (fun k_ hk => ⟨Kd.fresh' (Kd.R_lt (qR HO540.out)) k_ hk, Kd.fresh' (Kd.R_lt (qR HO544.out)) k_ hk⟩));(case aO => exact (by (with_reducible repeat (first | apply Kd.S_alloc | apply Kd.S_drewN | apply Kd.S_drew)); exact Kd.S_mono HO_5.out (fun k_ hk => ⟨⟨hk.1.1, hk.1.2⟩, fun e_ => hk.2 e_⟩)));(case aS => exact (below_size (qB HB.out)));(case aL => have := LMc11.out; omega);intro v549 w23 ho hb hg hat
      rw [← Ny548.out] at ho
      have n0_ := Aside0.mk (Kd.S_over' (qS HO_0.out) (Kd.S_typed (qS HO_5.out)) (by decide) hg);have n1_ := Aside0.mk (Kd.R_over' (qR HO540.out) (Kd.S_typed (qS HO_5.out)) (by decide) hg);have n2_ := Aside0.mk (Kd.R_over' (qR HO544.out) (Kd.S_typed (qS HO_5.out)) (by decide) hg);have n3_ := Aside0.mk (hb);have n4_ := Aside0.mk (ho);clear HO_0;clear HO540;clear HO544;clear HB;clear HO_5;clear HO547;have HO_0 := n0_;have HO540 := n1_;have HO544 := n2_;have HB := n3_;have HO550 := n4_;clear n0_ n1_ n2_ n3_ n4_;clear ho hb hg hat;refine hK.out _ _ ⟨((HB.out.cell (World.block_lt_of_cell? w _ hw537_0)).trans hw537_0), ((HB.out.cell (World.block_lt_of_cell? w _ hw541_0)).trans hw541_0)⟩ (fun hHeld => ?_);clear hK K;refine norm_ (a' := ?_) ?_ ?_;rotate_left
      ·show Act.put _ (some 30) _ = _
       simp only [Act.put, List.setIfInBounds_toArray, List.set_cons_zero, List.set_cons_succ, i64_w, i32_w]
       rfl
      refine qP 15 (some 5) (bs 16 65535) HT_.out ?_;refine done_ (done_of HT_.out (by kernel_rfl)) ?_;have p551 : 0 ≤ (x6_1 : Int) := of_decide_eq_true qA;have q551 : x6_1 < (l1.length : Int) := of_decide_eq_true qA;obtain ⟨ad551, e551, hx551_0⟩ := Kd.at_int HR1.out x6_1 p551 q551;obtain rfl : ad537 = ad551 := (by injection e551);replace hx551_0 := (HB.out.cell (World.block_lt_of_cell? w _ hx551_0)).trans hx551_0;replace p551 := eq_true p551;replace q551 := eq_true q551;try go_wp2_with (first | ((with_reducible refine gate_callee (f := 38) rfl ?_); refine goesL_ (some 36) rfl rfl Tryd.func38 (by kernel_rfl) rfl #[.slice Ao13 x0_1.length co13, .int .i64 (rd l1 x6_1)] rfl qM ?_; (with_reducible refine (arboristref09_Go.callsB k1 (fun k_ => True) (.slice Ao13 x0_1.length co13) x0_1 (rd l1 x6_1) t552 w _ ?side1 ?side2 A12.out).mono ?_); (case side1 => repeat (first | (with_reducible first | exact HB.out | apply below_alloc | apply pw_below_drewN | apply below_drew1) | exact HB.out)); (case side2 => exact HO_0.out); rintro e w25 ⟨rfl, hy0, hb, hkp⟩; refine ⟨_, rfl, ?_⟩; have n0_ := Aside0.mk (Kd.S_mono (ok' := fun k_ => True) hy0 (fun k_ hk_ => trivial)); have n1_ := Aside0.mk (Kd.R_mono (ok' := fun k_ => some k_ ≠ (.slice Ao21 y542.length co21 : Value).ownBlock) (Kd.R_keptB ((R_sbT (d' := (Kd.slice 4 Kd.bool)) (e' := 40) HO540.out (by decide))) hkp (fun k_ hk_ hs_ => (hk_.2) hs_)) (fun k_ hk_ => hk_.1.1.1)); have n2_ := Aside0.mk (Kd.R_mono (ok' := fun k_ => some k_ ≠ (.slice Ao20 t538.length co20 : Value).ownBlock) (Kd.R_keptB ((R_sbT (d' := (Kd.slice 4 Kd.bool)) (e' := 40) HO544.out (by decide))) hkp (fun k_ hk_ hs_ => (hk_.2) hs_)) (fun k_ hk_ => hk_.1.1.1)); have n3_ := Aside0.mk (Kd.S_mono (ok' := fun k_ => some k_ ≠ (.slice Ao20 t538.length co20 : Value).ownBlock ∧ some k_ ≠ (.slice Ao21 y542.length co21 : Value).ownBlock) (Kd.S_keptB ((S_sbT (d' := (Kd.slice 4 Kd.bool)) (e' := 40) HO550.out (by decide))) hkp (fun k_ hk_ hs_ => (hk_.2) hs_)) (fun k_ hk_ => ⟨hk_.1.1.1, hk_.1.1.2⟩)); have n4_ := Aside0.mk (hb); clear HO_0; clear HO540; clear HO544; clear HO550; clear HB; have HO_0 := n0_; have HO540 := n1_; have HO544 := n2_; have HO550 := n3_; have HB := n4_; clear n0_ n1_ n2_ n3_ n4_; (try clear hb); (try clear hkp); (try clear hy0)))
      go_roundg k1
      case measure => have := HK1.out; omega
      case rel => exact ⟨(t552), (y548), (wrap64 (x6_1 + 1)), (by first | rfl | (simp; done) | (simp [*]; done)), H', ⟨by have := HK1.out; omega⟩, ⟨by (with_reducible repeat (first | apply Kd.S_alloc | apply Kd.S_drewN | apply Kd.S_drew)); exact HO_0.out⟩, ⟨by (with_reducible repeat (first | apply Kd.S_alloc | apply Kd.S_drewN | apply Kd.S_drew)); exact Kd.S_mono HO550.out (fun _ hk => trivial)⟩, ⟨by repeat (first | (with_reducible first | exact HB.out | apply below_alloc | apply pw_below_drewN | apply below_drew1) | exact HB.out)⟩⟩
     ·rw [if_neg c11] at H
      exact absurd H (by simp)
    ·rw [if_neg c8] at H
     exact absurd H (by simp)
   ·rw [if_neg c7] at H
    have c7b0 : decide (x6_1 < (l1.length : Int)) = false := decide_eq_false c7;clear c7;obtain rfl := Option.some.inj H;go_wp2
    go_ret
    exact ⟨_, by first | rfl | (simp [errW_none, errW_some] <;> rfl) | (simp [*, errW_none, errW_some] <;> rfl), by (with_reducible repeat (first | apply Kd.S_alloc | apply Kd.S_drewN | apply Kd.S_drew)); exact HO_5.out, by repeat (first | (with_reducible first | exact HB.out | apply below_alloc | apply pw_below_drewN | apply below_drew1) | exact HB.out)⟩
end Go.Proofs.YtbdlelojlnhhfaaDoor.Pr
