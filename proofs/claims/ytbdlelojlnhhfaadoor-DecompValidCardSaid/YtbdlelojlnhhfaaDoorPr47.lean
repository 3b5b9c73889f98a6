-- Printed by a program of this session's own (wip/tools/pp.py) over the kit's print.py; Lean checks it.
import Derived.Test.YtbdlelojlnhhfaaDoorPr0
namespace Go.Proofs.YtbdlelojlnhhfaaDoor.Pr
open Go.RowKit Go.Proofs.YtbdlelojlnhhfaaDoorW.PrintWords Go.Proofs.YtbdlelojlnhhfaaDoorW.PrintLast Go.Proofs.YtbdlelojlnhhfaaDoorW.PrintMore
attribute [local go_sem] max2_int min2_int max_two min_two max_three min_three max_four min_four
set_option linter.unusedVariables false
set_option linter.unusedSimpArgs false
/-! ### arboristref01_Rising: function 35 -/
def arboristref01_Rising.l0 : Nat → List Int → Int → Option (Bool)
 | 0, _, _ => none
 | k + 1, x0, x3 => if x3 < (x0.length : Int) then (if 0 ≤ x3 then (if 0 ≤ (wrap64 (x3 - 1)) then (if (wrap64 (x3 - 1)) < (x0.length : Int) then (if (rd x0 x3) ≤ (rd x0 (wrap64 (x3 - 1))) then (some false) else (arboristref01_Rising.l0 k x0 (wrap64 (x3 + 1)))) else (none)) else (none)) else (none)) else (some true)
def arboristref01_Rising.f (k : Nat) (l0 : List Int) : Option (Bool) := arboristref01_Rising.l0 k l0 1
theorem arboristref01_Rising.mono_l : ∀ k, (∀ y0 y1, LeO (arboristref01_Rising.l0 k y0 y1) (arboristref01_Rising.l0 (k + 1) y0 y1))
 | 0 => fun _ _ r h => by simp [arboristref01_Rising.l0] at h
 | k + 1 => by
  have ih0 := arboristref01_Rising.mono_l k;all_goals intros
  all_goals (first | unfold arboristref01_Rising.l0)
  all_goals repeat' first
  | (with_reducible first | exact ih0 _ _ | exact LeO.refl _ | exact LeO.none _ | refine LeO.ite ?_ ?_ | refine LeO.bind ?_ (fun _ => ?_))
  | exact ih0 _ _
  | exact LeO.none _
  | refine LeO.ite ?_ ?_
  | refine LeO.bind ?_ (fun _ => ?_)
theorem arboristref01_Rising.mono : ∀ a0 k, LeO (arboristref01_Rising.f k a0) (arboristref01_Rising.f (k + 1) a0) := by
 intro a0 k
 have ih0 := arboristref01_Rising.mono_l k;unfold arboristref01_Rising.f
 repeat' first
   | (with_reducible first | exact ih0 _ _ | exact LeO.refl _ | exact LeO.none _ | refine LeO.ite ?_ ?_ | refine LeO.bind ?_ (fun _ => ?_))
   | exact ih0 _ _
   | exact LeO.none _
   | refine LeO.ite ?_ ?_
   | refine LeO.bind ?_ (fun _ => ?_)
set_option maxHeartbeats 8000000 in
set_option maxRecDepth 100000 in
theorem arboristref01_Rising.calls (k : Nat) (A0 : Option Addr) (c0 : Nat) (l0 : List Int) (r : Bool) (w : World) (hr0 : Kd.C (Kd.int .i64) w A0 l0.length l0) (hc0 : l0.length ≤ c0) (h : arboristref01_Rising.f k l0 = some r) :
  Calls Tryd.prog 35 #[.slice A0 l0.length c0] w fun e w' => e = .returned (.bool r) ∧ Drawn0 w w' := by
 have HR0 := Aside0.mk hr0;have HC0 := Aside0.mk hc0;clear hr0 hc0;have H : (arboristref01_Rising.l0 k l0 1) = some r := h;clear h;have H' := Aside0.mk H;clear H;go_enter Tryd.func35, Tryd.ntmps35
 go_wp2
 repeat (go_quiet (fail); try go_wp2)
 go_loopg [3] k (fun kq v3 w' => ∃ (x3_1 : Int), v3 = .int .i64 x3_1 ∧ Aside0 (arboristref01_Rising.l0 kq l0 x3_1 = some r) ∧ Aside0 (kq ≤ k) ∧ Drawn0 w w')
 case atStart => exact ⟨(1), (by first | rfl | (simp; done) | (simp [*]; done)), H', ⟨Nat.le_refl _⟩, by repeat (first | exact Drawn0.refl _ | apply Drawn0.step)⟩
 case round =>
  clear H';obtain ⟨x3_1, rfl, HA, HK1, ⟨m1, rfl⟩⟩ := hrel;cases gk with
  | zero => exact absurd HA.out (by simp [arboristref01_Rising.l0])
  | succ k1 =>
   have H := HA.out;clear HA;simp only [arboristref01_Rising.l0] at H
   by_cases c2 : x3_1 < (l0.length : Int)
   ·rw [if_pos c2] at H
    have c2b0 : decide (x3_1 < (l0.length : Int)) = true := decide_eq_true c2;clear c2;by_cases c3 : 0 ≤ x3_1
    ·rw [if_pos c3] at H
     have c3b0 : decide (0 ≤ x3_1) = true := decide_eq_true c3;clear c3;obtain ⟨ji4, hji4⟩ : ∃ j_ : Int, (wrap64 (x3_1 - 1)) = j_ := ⟨_, rfl⟩;replace H : (if 0 ≤ (ji4) then (if (ji4) < (l0.length : Int) then (if (rd l0 x3_1) ≤ (rd l0 (ji4)) then (some false) else (arboristref01_Rising.l0 k1 l0 (wrap64 (x3_1 + 1)))) else (none)) else (none)) = some r := by first | (rw [hji4] at H; exact H) | (simp only [hji4] at H ⊢; exact H)
     have hji4w : (IntKind.i64.wrap (x3_1 - 1)) = ji4 := (i64_w _).trans hji4;by_cases c5 : 0 ≤ (ji4)
     ·rw [if_pos c5] at H
      have c5b0 : decide (0 ≤ (ji4)) = true := decide_eq_true c5;clear c5;by_cases c6 : (ji4) < (l0.length : Int)
      ·rw [if_pos c6] at H
       have c6b0 : decide ((ji4) < (l0.length : Int)) = true := decide_eq_true c6;clear c6;by_cases c7 : (rd l0 x3_1) ≤ (rd l0 (ji4))
       ·rw [if_pos c7] at H
        have c7b0 : decide ((rd l0 x3_1) ≤ (rd l0 (ji4))) = true := decide_eq_true c7;clear c7;obtain rfl := Option.some.inj H;have p639 : 0 ≤ (x3_1 : Int) := of_decide_eq_true qA;have q639 : x3_1 < (l0.length : Int) := of_decide_eq_true qA;obtain ⟨ad639, e639, hx639_0⟩ := Kd.at_int HR0.out x3_1 p639 q639;cases e639
        replace p639 := eq_true p639;replace q639 := eq_true q639;have p640 : 0 ≤ ((ji4) : Int) := of_decide_eq_true qA;have q640 : (ji4) < (l0.length : Int) := of_decide_eq_true qA;obtain ⟨ad640, e640, hx640_0⟩ := Kd.at_int HR0.out (ji4) p640 q640;obtain rfl : ad639 = ad640 := (by injection e640);replace p640 := eq_true p640;replace q640 := eq_true q640;go_wp2
        repeat (go_quiet (fail); try go_wp2)
        go_ret
        exact ⟨by first | rfl | (simp; done) | (simp only [← hji4] <;> (first | rfl | simp)) | (simp [*]; done), by repeat (first | exact Drawn0.refl _ | apply Drawn0.step)⟩
       ·rw [if_neg c7] at H
        have c7b0 : decide ((rd l0 x3_1) ≤ (rd l0 (ji4))) = false := decide_eq_false c7;clear c7;have H' := Aside0.mk H;clear H;have p639 : 0 ≤ (x3_1 : Int) := of_decide_eq_true qA;have q639 : x3_1 < (l0.length : Int) := of_decide_eq_true qA;obtain ⟨ad639, e639, hx639_0⟩ := Kd.at_int HR0.out x3_1 p639 q639;cases e639
        replace p639 := eq_true p639;replace q639 := eq_true q639;have p640 : 0 ≤ ((ji4) : Int) := of_decide_eq_true qA;have q640 : (ji4) < (l0.length : Int) := of_decide_eq_true qA;obtain ⟨ad640, e640, hx640_0⟩ := Kd.at_int HR0.out (ji4) p640 q640;obtain rfl : ad639 = ad640 := (by injection e640);replace p640 := eq_true p640;replace q640 := eq_true q640;go_wp2
        repeat (go_quiet (fail); try go_wp2)
        first | go_roundg k1 | (simp only [← hji4]; (try simp only [← hji4] at H'); go_roundg k1)
        case measure => have := HK1.out; omega
        case rel => exact ⟨(wrap64 (x3_1 + 1)), (by first | rfl | (simp; done) | (simp [*]; done)), H', ⟨by have := HK1.out; omega⟩, by repeat (first | exact Drawn0.refl _ | apply Drawn0.step)⟩
      ·rw [if_neg c6] at H
       exact absurd H (by simp)
     ·rw [if_neg c5] at H
      exact absurd H (by simp)
    ·rw [if_neg c3] at H
     exact absurd H (by simp)
   ·rw [if_neg c2] at H
    have c2b0 : decide (x3_1 < (l0.length : Int)) = false := decide_eq_false c2;clear c2;obtain rfl := Option.some.inj H;go_wp2
    repeat (go_quiet (fail); try go_wp2)
    go_ret
    exact ⟨by first | rfl | (simp; done) | (simp [*]; done), by repeat (first | exact Drawn0.refl _ | apply Drawn0.step)⟩
end Go.Proofs.YtbdlelojlnhhfaaDoor.Pr
