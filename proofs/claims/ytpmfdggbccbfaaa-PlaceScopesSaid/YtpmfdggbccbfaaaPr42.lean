-- Printed by wip/tools/pp.py over the kit's print.py, several texts in one (wip/tools/mergepr.py); Lean checks it.
import Derived.Test.YtpmfdggbccbfaaaPr0
import Derived.Test.YtpmfdggbccbfaaaPr17
namespace Go.Proofs.Ytpmfdggbccbfaaa.Pr
open Go.RowKit Go.Proofs.YtpmfdggbccbfaaaW.PrintWords Go.Proofs.YtpmfdggbccbfaaaW.PrintLast Go.Proofs.YtpmfdggbccbfaaaW.PrintMore
attribute [local go_sem] max2_int min2_int max_two min_two max_three min_three max_four min_four
set_option linter.unusedVariables false
set_option linter.unusedSimpArgs false
/-! ### arboristref01_Compare: function 30 -/
mutual
def arboristref01_Compare.l0 : Nat → List Int → List Int → Int → Option (Int)
 | 0, _, _, _ => none
 | k + 1, x0, x1, x5 => if x5 < (x0.length : Int) then (arboristref01_Compare.j1 k x0 x1 x5 (decide (x5 < (x1.length : Int)))) else (arboristref01_Compare.j1 k x0 x1 x5 false)
def arboristref01_Compare.j1 : Nat → List Int → List Int → Int → Bool → Option (Int)
 | 0, _, _, _, _ => none
 | k + 1, x0, x1, x5, x15 => if x15 = true then (if 0 ≤ x5 then (if x5 < (x0.length : Int) then (if x5 < (x1.length : Int) then (if (rd x0 x5) < (rd x1 x5) then (some (-1)) else (if (rd x0 x5) > (rd x1 x5) then (some 1) else (arboristref01_Compare.l0 k x0 x1 (wrap64 (x5 + 1))))) else (none)) else (none)) else (none)) else (if (x0.length : Int) < (x1.length : Int) then (some (-1)) else (if (x0.length : Int) > (x1.length : Int) then (some 1) else (some 0)))
end
def arboristref01_Compare.f (k : Nat) (l0 : List Int) (l1 : List Int) : Option (Int) := arboristref01_Compare.l0 k l0 l1 0
set_option maxHeartbeats 8000000 in
set_option maxRecDepth 100000 in
theorem arboristref01_Compare.calls (k : Nat) (A0 : Option Addr) (c0 : Nat) (l0 : List Int) (A1 : Option Addr) (c1 : Nat) (l1 : List Int) (r : Int) (w : World) (hr0 : Kd.C (Kd.int .i64) w A0 l0.length l0) (hc0 : l0.length ≤ c0) (hr1 : Kd.C (Kd.int .i64) w A1 l1.length l1) (hc1 : l1.length ≤ c1) (h : arboristref01_Compare.f k l0 l1 = some r) :
  Calls Try.prog 30 #[.slice A0 l0.length c0, .slice A1 l1.length c1] w fun e w' => e = .returned (.int .i64 r) ∧ Drawn0 w w' := by
 have HR0 := Aside0.mk hr0;have HC0 := Aside0.mk hc0;clear hr0 hc0;have HR1 := Aside0.mk hr1;have HC1 := Aside0.mk hc1;clear hr1 hc1;have H : (arboristref01_Compare.l0 k l0 l1 0) = some r := h;clear h;have H' := Aside0.mk H;clear H;go_enter Try.func30, Try.ntmps30
 go_wp2
 repeat (go_quiet (fail); try go_wp2)
 go_loopg [5] k (fun kq v5 w' => ∃ (x5_1 : Int), v5 = .int .i64 x5_1 ∧ Aside0 (arboristref01_Compare.l0 kq l0 l1 x5_1 = some r) ∧ Aside0 (kq ≤ k) ∧ Drawn0 w w')
 case atStart => exact ⟨(0), (by first | rfl | (simp; done) | (simp [*]; done)), H', ⟨Nat.le_refl _⟩, by repeat (first | exact Drawn0.refl _ | apply Drawn0.step)⟩
 case round =>
  clear H';try clear c1
  try clear p2
  obtain ⟨x5_1, rfl, HA, HK1, ⟨m1, rfl⟩⟩ := hrel;cases gk with
  | zero => exact absurd HA.out (by simp [arboristref01_Compare.l0])
  | succ k1 =>
   have H := HA.out;clear HA;simp only [arboristref01_Compare.l0] at H
   have HC3 := Aside0.mk H;clear H;go_upto_region 2 with (fail)
   repeat (go_quiet (fail); go_upto_region 2 with (fail))
   go_cut [15] (fun v15 wc => ∃ (kq : Nat) (x15_2 : Bool), v15 = .bool x15_2 ∧ Aside0 (arboristref01_Compare.j1 kq l0 l1 x5_1 x15_2 = some r) ∧ Aside0 (kq ≤ k1) ∧ Drawn0 w wc)
   case first =>
    have H := HC3.out;clear HC3;by_cases c4 : x5_1 < (l0.length : Int)
    ·rw [if_pos c4] at H
     have c4b0 : decide (x5_1 < (l0.length : Int)) = true := decide_eq_true c4;clear c4;(first | rw [c4b0] | (simp only [i64_w, i32_w]; rw [c4b0]) | skip);have H' := Aside0.mk H;clear H;go_wp2
     repeat (go_quiet (fail); try go_wp2)
     go_meet
     case rel => exact ⟨_, (decide (x5_1 < (l1.length : Int))), (by first | rfl | (simp; done) | (simp [*]; done)), H', ⟨by have := HK1.out; first | omega | exact Nat.le_refl _⟩, by repeat (first | exact Drawn0.refl _ | apply Drawn0.step)⟩
    ·rw [if_neg c4] at H
     have c4b0 : decide (x5_1 < (l0.length : Int)) = false := decide_eq_false c4;clear c4;(first | rw [c4b0] | (simp only [i64_w, i32_w]; rw [c4b0]) | skip);have H' := Aside0.mk H;clear H;go_wp2
     repeat (go_quiet (fail); try go_wp2)
     go_meet
     case rel => exact ⟨_, (false), (by first | rfl | (simp; done) | (simp [*]; done)), H', ⟨by have := HK1.out; first | omega | exact Nat.le_refl _⟩, by repeat (first | exact Drawn0.refl _ | apply Drawn0.step)⟩
   case rest =>
    clear HC3;try clear c1
    try clear p2
    try clear c3
    try clear c4
    try clear c4b0
    try clear p2
    obtain ⟨kq, x15_2, rfl, HA, HJ2, ⟨mc2, rfl⟩⟩ := hcut;cases kq with
    | zero => exact absurd HA.out (by simp [arboristref01_Compare.j1])
    | succ kj2 =>
     have H := HA.out;clear HA;simp only [arboristref01_Compare.j1] at H
     by_cases c5 : x15_2 = true
     ·subst c5;replace H : (if 0 ≤ x5_1 then (if x5_1 < (l0.length : Int) then (if x5_1 < (l1.length : Int) then (if (rd l0 x5_1) < (rd l1 x5_1) then (some (-1)) else (if (rd l0 x5_1) > (rd l1 x5_1) then (some 1) else (arboristref01_Compare.l0 kj2 l0 l1 (wrap64 (x5_1 + 1))))) else (none)) else (none)) else (none)) = some r := by rw [if_pos rfl] at H; exact H
      by_cases c6 : 0 ≤ x5_1
      ·rw [if_pos c6] at H
       have c6b0 : decide (0 ≤ x5_1) = true := decide_eq_true c6;clear c6;by_cases c7 : x5_1 < (l0.length : Int)
       ·rw [if_pos c7] at H
        have c7b0 : decide (x5_1 < (l0.length : Int)) = true := decide_eq_true c7;clear c7;by_cases c8 : x5_1 < (l1.length : Int)
        ·rw [if_pos c8] at H
         have c8b0 : decide (x5_1 < (l1.length : Int)) = true := decide_eq_true c8;clear c8;by_cases c9 : (rd l0 x5_1) < (rd l1 x5_1)
         ·rw [if_pos c9] at H
          have c9b0 : decide ((rd l0 x5_1) < (rd l1 x5_1)) = true := decide_eq_true c9;clear c9;obtain rfl := Option.some.inj H;have p572 : 0 ≤ (x5_1 : Int) := of_decide_eq_true qA;have q572 : x5_1 < (l0.length : Int) := of_decide_eq_true qA;obtain ⟨ad572, e572, hx572_0⟩ := Kd.at_int HR0.out x5_1 p572 q572;cases e572
          replace p572 := eq_true p572;replace q572 := eq_true q572;have p573 : 0 ≤ (x5_1 : Int) := of_decide_eq_true qA;have q573 : x5_1 < (l1.length : Int) := of_decide_eq_true qA;obtain ⟨ad573, e573, hx573_0⟩ := Kd.at_int HR1.out x5_1 p573 q573;cases e573
          replace p573 := eq_true p573;replace q573 := eq_true q573;go_wp2
          repeat (go_quiet (fail); try go_wp2)
          go_ret
          exact ⟨by first | rfl | (simp; done) | (simp [*]; done), by repeat (first | exact Drawn0.refl _ | apply Drawn0.step)⟩
         ·rw [if_neg c9] at H
          have c9b0 : decide ((rd l0 x5_1) < (rd l1 x5_1)) = false := decide_eq_false c9;clear c9;by_cases c10 : (rd l0 x5_1) > (rd l1 x5_1)
          ·rw [if_pos c10] at H
           have c10b0 : decide ((rd l1 x5_1) < (rd l0 x5_1)) = true := decide_eq_true c10;clear c10;obtain rfl := Option.some.inj H;have p572 : 0 ≤ (x5_1 : Int) := of_decide_eq_true qA;have q572 : x5_1 < (l0.length : Int) := of_decide_eq_true qA;obtain ⟨ad572, e572, hx572_0⟩ := Kd.at_int HR0.out x5_1 p572 q572;cases e572
           replace p572 := eq_true p572;replace q572 := eq_true q572;have p573 : 0 ≤ (x5_1 : Int) := of_decide_eq_true qA;have q573 : x5_1 < (l1.length : Int) := of_decide_eq_true qA;obtain ⟨ad573, e573, hx573_0⟩ := Kd.at_int HR1.out x5_1 p573 q573;cases e573
           replace p573 := eq_true p573;replace q573 := eq_true q573;have p574 : 0 ≤ (x5_1 : Int) := of_decide_eq_true qA;have q574 : x5_1 < (l0.length : Int) := of_decide_eq_true qA;obtain ⟨ad574, e574, hx574_0⟩ := Kd.at_int HR0.out x5_1 p574 q574;obtain rfl : ad572 = ad574 := (by injection e574);replace p574 := eq_true p574;replace q574 := eq_true q574;have p575 : 0 ≤ (x5_1 : Int) := of_decide_eq_true qA;have q575 : x5_1 < (l1.length : Int) := of_decide_eq_true qA;obtain ⟨ad575, e575, hx575_0⟩ := Kd.at_int HR1.out x5_1 p575 q575;obtain rfl : ad573 = ad575 := (by injection e575);replace p575 := eq_true p575;replace q575 := eq_true q575;go_wp2
           repeat (go_quiet (fail); try go_wp2)
           go_ret
           exact ⟨by first | rfl | (simp; done) | (simp [*]; done), by repeat (first | exact Drawn0.refl _ | apply Drawn0.step)⟩
          ·rw [if_neg c10] at H
           have c10b0 : decide ((rd l1 x5_1) < (rd l0 x5_1)) = false := decide_eq_false c10;clear c10;have H' := Aside0.mk H;clear H;have p572 : 0 ≤ (x5_1 : Int) := of_decide_eq_true qA;have q572 : x5_1 < (l0.length : Int) := of_decide_eq_true qA;obtain ⟨ad572, e572, hx572_0⟩ := Kd.at_int HR0.out x5_1 p572 q572;cases e572
           replace p572 := eq_true p572;replace q572 := eq_true q572;have p573 : 0 ≤ (x5_1 : Int) := of_decide_eq_true qA;have q573 : x5_1 < (l1.length : Int) := of_decide_eq_true qA;obtain ⟨ad573, e573, hx573_0⟩ := Kd.at_int HR1.out x5_1 p573 q573;cases e573
           replace p573 := eq_true p573;replace q573 := eq_true q573;have p574 : 0 ≤ (x5_1 : Int) := of_decide_eq_true qA;have q574 : x5_1 < (l0.length : Int) := of_decide_eq_true qA;obtain ⟨ad574, e574, hx574_0⟩ := Kd.at_int HR0.out x5_1 p574 q574;obtain rfl : ad572 = ad574 := (by injection e574);replace p574 := eq_true p574;replace q574 := eq_true q574;have p575 : 0 ≤ (x5_1 : Int) := of_decide_eq_true qA;have q575 : x5_1 < (l1.length : Int) := of_decide_eq_true qA;obtain ⟨ad575, e575, hx575_0⟩ := Kd.at_int HR1.out x5_1 p575 q575;obtain rfl : ad573 = ad575 := (by injection e575);replace p575 := eq_true p575;replace q575 := eq_true q575;go_wp2
           repeat (go_quiet (fail); try go_wp2)
           go_roundg kj2
           case measure => have := HK1.out; have := HJ2.out; omega
           case rel => exact ⟨(wrap64 (x5_1 + 1)), (by first | rfl | (simp; done) | (simp [*]; done)), H', ⟨by have := HK1.out; have := HJ2.out; omega⟩, by repeat (first | exact Drawn0.refl _ | apply Drawn0.step)⟩
        ·rw [if_neg c8] at H
         exact absurd H (by simp)
       ·rw [if_neg c7] at H
        exact absurd H (by simp)
      ·rw [if_neg c6] at H
       exact absurd H (by simp)
     ·replace c5 := Bool.eq_false_iff.mpr c5;subst c5;replace H : (if (l0.length : Int) < (l1.length : Int) then (some (-1)) else (if (l0.length : Int) > (l1.length : Int) then (some 1) else (some 0))) = some r := by rw [if_neg (show ¬ (false = true) by decide)] at H; exact H
      by_cases c11 : (l0.length : Int) < (l1.length : Int)
      ·rw [if_pos c11] at H
       have c11b0 : decide ((l0.length : Int) < (l1.length : Int)) = true := decide_eq_true c11;have c11b1 : decide (l0.length < l1.length) = true := decide_eq_true (Int.ofNat_lt.mp c11);clear c11;obtain rfl := Option.some.inj H;go_wp2
       repeat (go_quiet (fail); try go_wp2)
       go_ret
       exact ⟨by first | rfl | (simp; done) | (simp [*]; done), by repeat (first | exact Drawn0.refl _ | apply Drawn0.step)⟩
      ·rw [if_neg c11] at H
       have c11b0 : decide ((l0.length : Int) < (l1.length : Int)) = false := decide_eq_false c11;have c11b1 : decide (l0.length < l1.length) = false := decide_eq_false (fun h => c11 (Int.ofNat_lt.mpr h));clear c11;by_cases c12 : (l0.length : Int) > (l1.length : Int)
       ·rw [if_pos c12] at H
        have c12b0 : decide ((l1.length : Int) < (l0.length : Int)) = true := decide_eq_true c12;have c12b1 : decide (l1.length < l0.length) = true := decide_eq_true (Int.ofNat_lt.mp c12);clear c12;obtain rfl := Option.some.inj H;go_wp2
        repeat (go_quiet (fail); try go_wp2)
        go_ret
        exact ⟨by first | rfl | (simp; done) | (simp [*]; done), by repeat (first | exact Drawn0.refl _ | apply Drawn0.step)⟩
       ·rw [if_neg c12] at H
        have c12b0 : decide ((l1.length : Int) < (l0.length : Int)) = false := decide_eq_false c12;have c12b1 : decide (l1.length < l0.length) = false := decide_eq_false (fun h => c12 (Int.ofNat_lt.mpr h));clear c12;obtain rfl := Option.some.inj H;go_wp2
        repeat (go_quiet (fail); try go_wp2)
        go_ret
        exact ⟨by first | rfl | (simp; done) | (simp [*]; done), by repeat (first | exact Drawn0.refl _ | apply Drawn0.step)⟩
end Go.Proofs.Ytpmfdggbccbfaaa.Pr
namespace Go.Proofs.Ytpmfdggbccbfaaa.Pr
open Go.RowKit Go.Proofs.YtpmfdggbccbfaaaW.PrintWords Go.Proofs.YtpmfdggbccbfaaaW.PrintLast Go.Proofs.YtpmfdggbccbfaaaW.PrintMore
attribute [local go_sem] max2_int min2_int max_two min_two max_three min_three max_four min_four
set_option linter.unusedVariables false
set_option linter.unusedSimpArgs false
/-! ### arboristref01_Meet: function 56 -/
def arboristref01_Meet.l0 : Nat → List Int → List Int → List Int → Int → Option (List Int)
 | 0, _, _, _, _ => none
 | k + 1, x0, x1, x5, x6 => if x6 < (x0.length : Int) then (if 0 ≤ x6 then ((arboristref01_In.f k x1 (rd x0 x6)).bind fun t580 => (if t580 = true then (if x5.length < 17592186044416 then (arboristref01_Meet.l0 k x0 x1 (x5 ++ [rd x0 x6]) (wrap64 (x6 + 1))) else (none)) else (arboristref01_Meet.l0 k x0 x1 x5 (wrap64 (x6 + 1))))) else (none)) else (some x5)
def arboristref01_Meet.f (k : Nat) (l0 : List Int) (l1 : List Int) : Option (List Int) := arboristref01_Meet.l0 k l0 l1 (([] : List Int)) 0
set_option maxHeartbeats 8000000 in
set_option maxRecDepth 100000 in
theorem arboristref01_Meet.calls (k : Nat) (A0 : Option Addr) (c0 : Nat) (l0 : List Int) (A1 : Option Addr) (c1 : Nat) (l1 : List Int) (r : List Int) (w : World) (hr0 : Kd.C (Kd.int .i64) w A0 l0.length l0) (hc0 : l0.length ≤ c0) (hr1 : Kd.C (Kd.int .i64) w A1 l1.length l1) (hc1 : l1.length ≤ c1) (h : arboristref01_Meet.f k l0 l1 = some r) :
  Calls Try.prog 56 #[.slice A0 l0.length c0, .slice A1 l1.length c1] w fun e w' => ∃ v0_ : Value, e = .returned (v0_) ∧ Kd.R (Kd.int .i64) 3 w' w.heap.size (fun _ => True) v0_ r ∧ Below w.heap.size w w' := by
 have HR0 := Aside0.mk hr0;have HC0 := Aside0.mk hc0;clear hr0 hc0;have HR1 := Aside0.mk hr1;have HC1 := Aside0.mk hc1;clear hr1 hc1;have HB := Aside0.mk (Below.refl w.heap.size w);have H : (arboristref01_Meet.l0 k l0 l1 (([] : List Int)) 0) = some r := h;clear h;obtain ⟨y576, hy576⟩ : ∃ y_ : List Int, y_ = (([] : List Int)) := ⟨_, rfl⟩;replace H : (arboristref01_Meet.l0 k l0 l1 y576 0) = some r := by first | (rw [hy576]; with_reducible exact H) | (have H2_ := (Option.bind_some _ _).symm.trans H; rw [hy576]; with_reducible exact H2_) | (have H2_ := (Option.bind_some _ _).symm.trans H; with_reducible exact H2_) | with_reducible exact H | (rw [hy576]; exact H) | exact H
 have Ny576 := Aside0.mk hy576;clear hy576;have H' := Aside0.mk H;clear H;go_enter Try.func56, Try.ntmps56
 go_wp2_with (first | ((with_reducible refine gate_dst (N := 8) rfl ?_); refine Kd.R_lit (Kd.int .i64) _ 3 ?hg (N := 8) ?hd (xs := ([] : List Int)) (inner := []) (ok := fun _ => True) (okp := fun _ => True) ?hr ?hp (fun _ hk => hk) trivial (Below.refl _ _) (Nat.le_refl _) (by simp) ?_; (case hd => rfl); (case hg => rfl); (case hr => first | (go_simp; done) | (go_simp; rfl)); (case hp => exact (Reps.none _ _)); intro v577 w3 ho4 hb hg_ hnew_; clear hg_ hnew_; (first | rw [← Ny576.out] at ho4 | (simp only [Int.reduceToNat] at ho4; rw [← Ny576.out] at ho4)); have n0_ := Aside0.mk (Kd.R_lower ho4 (below_size (qB HB.out))); have n1_ := Aside0.mk (below_step (qB HB.out) hb); clear HB; have HO578 := n0_; have HB := n1_; clear n0_ n1_; clear hb ho4))
 go_loopg [5, 6] k (fun kq v5 v6 w' => ∃ (x5_1 : List Int) (x6_1 : Int), v6 = .int .i64 x6_1 ∧ Aside0 (arboristref01_Meet.l0 kq l0 l1 x5_1 x6_1 = some r) ∧ Aside0 (kq ≤ k) ∧ Aside0 (Kd.R (Kd.int .i64) 3 w' w.heap.size (fun _ => True) v5 x5_1) ∧ Aside0 (Below w.heap.size w w'))
 case atStart => exact ⟨(y576), (0), (by first | rfl | (simp; done) | (simp [*]; done)), H', ⟨Nat.le_refl _⟩, ⟨qR HO578.out⟩, ⟨qB HB.out⟩⟩
 case round =>
  clear H';try clear c1
  try clear p2
  obtain ⟨x5_1, x6_1, rfl, HA, HK1, HO_5, HB⟩ := hrel;cases gk with
  | zero => exact absurd HA.out (by simp [arboristref01_Meet.l0])
  | succ k1 =>
   have H := HA.out;clear HA;simp only [arboristref01_Meet.l0] at H
   by_cases c5 : x6_1 < (l0.length : Int)
   ·rw [if_pos c5] at H
    have c5b0 : decide (x6_1 < (l0.length : Int)) = true := decide_eq_true c5;clear c5;by_cases c6 : 0 ≤ x6_1
    ·rw [if_pos c6] at H
     have c6b0 : decide (0 ≤ x6_1) = true := decide_eq_true c6;clear c6;replace H := Option.bind_eq_some_iff.mp H;obtain ⟨t580, A70, H⟩ := H;(try dsimp only at H);have A7 := Aside0.mk A70;clear A70;by_cases c8 : t580 = true
     ·subst c8;replace H : (if x5_1.length < 17592186044416 then (arboristref01_Meet.l0 k1 l0 l1 (x5_1 ++ [rd l0 x6_1]) (wrap64 (x6_1 + 1))) else (none)) = some r := by rw [if_pos rfl] at H; exact H
      by_cases c9 : x5_1.length < 17592186044416
      ·rw [if_pos c9] at H
       have LMc9 := Aside0.mk c9;clear c9;obtain ⟨y582, hy582⟩ : ∃ y_ : List Int, y_ = (x5_1 ++ [rd l0 x6_1]) := ⟨_, rfl⟩;replace H : (arboristref01_Meet.l0 k1 l0 l1 y582 (wrap64 (x6_1 + 1))) = some r := by first | (rw [hy582]; with_reducible exact H) | (have H2_ := (Option.bind_some _ _).symm.trans H; rw [hy582]; with_reducible exact H2_) | (have H2_ := (Option.bind_some _ _).symm.trans H; with_reducible exact H2_) | with_reducible exact H | (rw [hy582]; exact H) | exact H
       have Ny582 := Aside0.mk hy582;clear hy582;have H' := Aside0.mk H;clear H;have p579 : 0 ≤ (x6_1 : Int) := of_decide_eq_true qA;have q579 : x6_1 < (l0.length : Int) := of_decide_eq_true qA;obtain ⟨ad579, e579, hx579_0⟩ := Kd.at_int HR0.out x6_1 p579 q579;cases e579
       replace hx579_0 := (HB.out.cell (World.block_lt_of_cell? w _ hx579_0)).trans hx579_0;replace p579 := eq_true p579;replace q579 := eq_true q579;go_wp2_with (first | ((with_reducible refine gate_callee (f := 37) rfl ?_); refine goesL_ (some 20) rfl rfl Try.func37 (by kernel_rfl) rfl #[.slice A1 l1.length c1, .int .i64 (rd l0 x6_1)] rfl qM ?_; (with_reducible refine (arboristref01_In.calls k1 _ _ l1 (rd l0 x6_1) true _ ?side1 ?side2 A7.out).mono ?_); (case side1 => exact qC (Kd.C_below HR1.out HB.out)); (case side2 => exact HC1.out); rintro e w' ⟨rfl, ⟨nd, rfl⟩⟩; refine ⟨_, rfl, ?_⟩; have p581 : 0 ≤ (x6_1 : Int) := of_decide_eq_true qA; have q581 : x6_1 < (l0.length : Int) := of_decide_eq_true qA; obtain ⟨ad581, e581, hx581_0⟩ := Kd.at_int HR0.out x6_1 p581 q581; obtain rfl : ad579 = ad581 := (by injection e581); replace hx581_0 := (HB.out.cell (World.block_lt_of_cell? w _ hx581_0)).trans hx581_0; replace p581 := eq_true p581; replace q581 := eq_true q581) | ((with_reducible refine gate_builtin (b := .append) (xs := #[.tmp 22, .tmp 27]) rfl ?_); at_builtin; refine Kd.R_append (Kd.int .i64) (w0 := w) w.heap.size rfl (.tmp 22) (.tmp 27) 23 3 (.int .i64 0) 8 rfl Try.underlying23 info3 rfl (by decide) (by omega) u5 x5_1 (rd l0 x6_1) [.int .i64 (rd l0 x6_1)] (fun _ => True) (fun _ => False) rfl rfl ?aP (fun _ hk => hk.elim) ?aF ?aO ?aB ?aS ?aL ?_; (case aP => exact rfl); (case aB => exact (qB HB.out)); (case aF => exact (fun _ _ => trivial)); (case aO => exact (qR HO_5.out)); (case aS => exact (below_size (qB HB.out))); (case aL => have := LMc9.out; omega); intro v583 w10 ho hb hg hat; rw [← Ny582.out] at ho; have n0_ := Aside0.mk (hb); have n1_ := Aside0.mk (ho); clear HB; clear HO_5; have HB := n0_; have HO584 := n1_; clear n0_ n1_; clear ho hb hg hat))
       go_roundg k1
       case measure => have := HK1.out; omega
       case rel => exact ⟨(y582), (wrap64 (x6_1 + 1)), (by first | rfl | (simp; done) | (simp [*]; done)), H', ⟨by have := HK1.out; omega⟩, ⟨qR HO584.out⟩, ⟨qB HB.out⟩⟩
      ·rw [if_neg c9] at H
       exact absurd H (by simp)
     ·replace c8 := Bool.eq_false_iff.mpr c8;subst c8;replace H : (arboristref01_Meet.l0 k1 l0 l1 x5_1 (wrap64 (x6_1 + 1))) = some r := by rw [if_neg (show ¬ (false = true) by decide)] at H; exact H
      have H' := Aside0.mk H;clear H;have p579 : 0 ≤ (x6_1 : Int) := of_decide_eq_true qA;have q579 : x6_1 < (l0.length : Int) := of_decide_eq_true qA;obtain ⟨ad579, e579, hx579_0⟩ := Kd.at_int HR0.out x6_1 p579 q579;cases e579
      replace hx579_0 := (HB.out.cell (World.block_lt_of_cell? w _ hx579_0)).trans hx579_0;replace p579 := eq_true p579;replace q579 := eq_true q579;go_wp2_with (first | ((with_reducible refine gate_callee (f := 37) rfl ?_); refine goesL_ (some 20) rfl rfl Try.func37 (by kernel_rfl) rfl #[.slice A1 l1.length c1, .int .i64 (rd l0 x6_1)] rfl qM ?_; (with_reducible refine (arboristref01_In.calls k1 _ _ l1 (rd l0 x6_1) false _ ?side1 ?side2 A7.out).mono ?_); (case side1 => exact qC (Kd.C_below HR1.out HB.out)); (case side2 => exact HC1.out); rintro e w' ⟨rfl, ⟨nd, rfl⟩⟩; refine ⟨_, rfl, ?_⟩))
      go_roundg k1
      case measure => have := HK1.out; omega
      case rel => exact ⟨(x5_1), (wrap64 (x6_1 + 1)), (by first | rfl | (simp; done) | (simp [*]; done)), H', ⟨by have := HK1.out; omega⟩, ⟨qR HO_5.out⟩, ⟨qB HB.out⟩⟩
    ·rw [if_neg c6] at H
     exact absurd H (by simp)
   ·rw [if_neg c5] at H
    have c5b0 : decide (x6_1 < (l0.length : Int)) = false := decide_eq_false c5;clear c5;obtain rfl := Option.some.inj H;go_wp2
    go_ret
    exact ⟨_, by first | rfl | (simp [errW_none, errW_some] <;> rfl) | (simp [*, errW_none, errW_some] <;> rfl), by (with_reducible repeat (first | apply Kd.R_alloc | apply Kd.R_drewN | apply Kd.R_drew)); exact HO_5.out, by repeat (first | (with_reducible first | exact HB.out | apply below_alloc | apply pw_below_drewN | apply below_drew1) | exact HB.out)⟩
end Go.Proofs.Ytpmfdggbccbfaaa.Pr
