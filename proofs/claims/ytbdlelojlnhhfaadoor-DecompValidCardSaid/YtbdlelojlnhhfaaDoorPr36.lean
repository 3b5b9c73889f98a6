-- Printed by a program of this session's own (wip/tools/pp.py) over the kit's print.py; Lean checks it.
import Derived.Test.YtbdlelojlnhhfaaDoorPr0
namespace Go.Proofs.YtbdlelojlnhhfaaDoor.Pr
open Go.RowKit Go.Proofs.YtbdlelojlnhhfaaDoorW.PrintWords Go.Proofs.YtbdlelojlnhhfaaDoorW.PrintLast Go.Proofs.YtbdlelojlnhhfaaDoorW.PrintMore
attribute [local go_sem] max2_int min2_int max_two min_two max_three min_three max_four min_four
set_option linter.unusedVariables false
set_option linter.unusedSimpArgs false
/-! ### arboristref01_In: function 34 -/
def arboristref01_In.l0 : Nat → List Int → Int → Int → Option (Bool)
 | 0, _, _, _ => none
 | k + 1, x0, x1, x5 => if x5 < (x0.length : Int) then (if 0 ≤ x5 then (if (rd x0 x5) = x1 then (some true) else (arboristref01_In.l0 k x0 x1 (wrap64 (x5 + 1)))) else (none)) else (some false)
def arboristref01_In.f (k : Nat) (l0 : List Int) (a1 : Int) : Option (Bool) := arboristref01_In.l0 k l0 a1 0
theorem arboristref01_In.mono_l : ∀ k, (∀ y0 y1 y2, LeO (arboristref01_In.l0 k y0 y1 y2) (arboristref01_In.l0 (k + 1) y0 y1 y2))
 | 0 => fun _ _ _ r h => by simp [arboristref01_In.l0] at h
 | k + 1 => by
  have ih0 := arboristref01_In.mono_l k;all_goals intros
  all_goals (first | unfold arboristref01_In.l0)
  all_goals repeat' first
  | (with_reducible first | exact ih0 _ _ _ | exact LeO.refl _ | exact LeO.none _ | refine LeO.ite ?_ ?_ | refine LeO.bind ?_ (fun _ => ?_))
  | exact ih0 _ _ _
  | exact LeO.none _
  | refine LeO.ite ?_ ?_
  | refine LeO.bind ?_ (fun _ => ?_)
theorem arboristref01_In.mono : ∀ a0 a1 k, LeO (arboristref01_In.f k a0 a1) (arboristref01_In.f (k + 1) a0 a1) := by
 intro a0 a1 k
 have ih0 := arboristref01_In.mono_l k;unfold arboristref01_In.f
 repeat' first
   | (with_reducible first | exact ih0 _ _ _ | exact LeO.refl _ | exact LeO.none _ | refine LeO.ite ?_ ?_ | refine LeO.bind ?_ (fun _ => ?_))
   | exact ih0 _ _ _
   | exact LeO.none _
   | refine LeO.ite ?_ ?_
   | refine LeO.bind ?_ (fun _ => ?_)
set_option maxHeartbeats 8000000 in
set_option maxRecDepth 100000 in
theorem arboristref01_In.calls (k : Nat) (A0 : Option Addr) (c0 : Nat) (l0 : List Int) (a1 : Int) (r : Bool) (w : World) (hr0 : Kd.C (Kd.int .i64) w A0 l0.length l0) (hc0 : l0.length ≤ c0) (h : arboristref01_In.f k l0 a1 = some r) :
  Calls Tryd.prog 34 #[.slice A0 l0.length c0, .int .i64 a1] w fun e w' => e = .returned (.bool r) ∧ Drawn0 w w' := by
 have HR0 := Aside0.mk hr0;have HC0 := Aside0.mk hc0;clear hr0 hc0;have H : (arboristref01_In.l0 k l0 a1 0) = some r := h;clear h;have H' := Aside0.mk H;clear H;go_enter Tryd.func34, Tryd.ntmps34
 go_wp2
 go_loopg [5] k (fun kq v5 w' => ∃ (x5_1 : Int), v5 = .int .i64 x5_1 ∧ Aside0 (arboristref01_In.l0 kq l0 a1 x5_1 = some r) ∧ Aside0 (kq ≤ k) ∧ Drawn0 w w')
 case atStart => exact ⟨(0), (by first | rfl | (simp; done) | (simp [*]; done)), H', ⟨Nat.le_refl _⟩, by repeat (first | exact Drawn0.refl _ | apply Drawn0.step)⟩
 case round =>
  clear H';try clear p2
  obtain ⟨x5_1, rfl, HA, HK1, ⟨m1, rfl⟩⟩ := hrel;cases gk with
  | zero => exact absurd HA.out (by simp [arboristref01_In.l0])
  | succ k1 =>
   have H := HA.out;clear HA;simp only [arboristref01_In.l0] at H
   by_cases c3 : x5_1 < (l0.length : Int)
   ·rw [if_pos c3] at H
    have c3b0 : decide (x5_1 < (l0.length : Int)) = true := decide_eq_true c3;clear c3;by_cases c4 : 0 ≤ x5_1
    ·rw [if_pos c4] at H
     have c4b0 : decide (0 ≤ x5_1) = true := decide_eq_true c4;clear c4;by_cases c5 : (rd l0 x5_1) = a1
     ·rw [if_pos c5] at H
      have c5b0 : ((rd l0 x5_1) == a1) = true := beq_iff_eq.mpr c5;have c5b1 : ((rd l0 x5_1) != a1) = false := bne_eq_false_iff_eq.mpr c5;clear c5;obtain rfl := Option.some.inj H;have p363 : 0 ≤ (x5_1 : Int) := of_decide_eq_true qA;have q363 : x5_1 < (l0.length : Int) := of_decide_eq_true qA;obtain ⟨ad363, e363, hx363_0⟩ := Kd.at_int HR0.out x5_1 p363 q363;cases e363
      replace p363 := eq_true p363;replace q363 := eq_true q363;go_wp2
      go_ret
      exact ⟨by first | rfl | (simp; done) | (simp [*]; done), by repeat (first | exact Drawn0.refl _ | apply Drawn0.step)⟩
     ·rw [if_neg c5] at H
      have c5b0 : ((rd l0 x5_1) == a1) = false := beq_eq_false_iff_ne.mpr c5;have c5b1 : ((rd l0 x5_1) != a1) = true := bne_iff_ne.mpr c5;have H' := Aside0.mk H;clear H;have p363 : 0 ≤ (x5_1 : Int) := of_decide_eq_true qA;have q363 : x5_1 < (l0.length : Int) := of_decide_eq_true qA;obtain ⟨ad363, e363, hx363_0⟩ := Kd.at_int HR0.out x5_1 p363 q363;cases e363
      replace p363 := eq_true p363;replace q363 := eq_true q363;go_wp2
      go_roundg k1
      case measure => have := HK1.out; omega
      case rel => exact ⟨(wrap64 (x5_1 + 1)), (by first | rfl | (simp; done) | (simp [*]; done)), H', ⟨by have := HK1.out; omega⟩, by repeat (first | exact Drawn0.refl _ | apply Drawn0.step)⟩
    ·rw [if_neg c4] at H
     exact absurd H (by simp)
   ·rw [if_neg c3] at H
    have c3b0 : decide (x5_1 < (l0.length : Int)) = false := decide_eq_false c3;clear c3;obtain rfl := Option.some.inj H;go_wp2
    go_ret
    exact ⟨by first | rfl | (simp; done) | (simp [*]; done), by repeat (first | exact Drawn0.refl _ | apply Drawn0.step)⟩
/-! ### arboristref01_Meet: function 15 -/
def arboristref01_Meet.l0 : Nat → List Int → List Int → List Int → Int → Option (List Int)
 | 0, _, _, _, _ => none
 | k + 1, x0, x1, x5, x6 => if x6 < (x0.length : Int) then (if 0 ≤ x6 then ((arboristref01_In.f k x1 (rd x0 x6)).bind fun t368 => (if t368 = true then (if x5.length < 17592186044416 then (arboristref01_Meet.l0 k x0 x1 (x5 ++ [rd x0 x6]) (wrap64 (x6 + 1))) else (none)) else (arboristref01_Meet.l0 k x0 x1 x5 (wrap64 (x6 + 1))))) else (none)) else (some x5)
def arboristref01_Meet.f (k : Nat) (l0 : List Int) (l1 : List Int) : Option (List Int) := arboristref01_Meet.l0 k l0 l1 (([] : List Int)) 0
theorem arboristref01_Meet.mono_l : ∀ k, (∀ y0 y1 y2 y3, LeO (arboristref01_Meet.l0 k y0 y1 y2 y3) (arboristref01_Meet.l0 (k + 1) y0 y1 y2 y3))
 | 0 => fun _ _ _ _ r h => by simp [arboristref01_Meet.l0] at h
 | k + 1 => by
  have ih0 := arboristref01_Meet.mono_l k;all_goals intros
  all_goals (first | unfold arboristref01_Meet.l0)
  all_goals repeat' first
  | (with_reducible first | exact ih0 _ _ _ _ | exact arboristref01_In.mono _ _ _ | exact LeO.refl _ | exact LeO.none _ | refine LeO.ite ?_ ?_ | refine LeO.bind ?_ (fun _ => ?_))
  | exact ih0 _ _ _ _
  | exact arboristref01_In.mono _ _ _
  | exact LeO.none _
  | refine LeO.ite ?_ ?_
  | refine LeO.bind ?_ (fun _ => ?_)
theorem arboristref01_Meet.mono : ∀ a0 a1 k, LeO (arboristref01_Meet.f k a0 a1) (arboristref01_Meet.f (k + 1) a0 a1) := by
 intro a0 a1 k
 have ih0 := arboristref01_Meet.mono_l k;unfold arboristref01_Meet.f
 repeat' first
   | (with_reducible first | exact ih0 _ _ _ _ | exact arboristref01_In.mono _ _ _ | exact LeO.refl _ | exact LeO.none _ | refine LeO.ite ?_ ?_ | refine LeO.bind ?_ (fun _ => ?_))
   | exact ih0 _ _ _ _
   | exact arboristref01_In.mono _ _ _
   | exact LeO.none _
   | refine LeO.ite ?_ ?_
   | refine LeO.bind ?_ (fun _ => ?_)
set_option maxHeartbeats 8000000 in
set_option maxRecDepth 100000 in
theorem arboristref01_Meet.calls (k : Nat) (A0 : Option Addr) (c0 : Nat) (l0 : List Int) (A1 : Option Addr) (c1 : Nat) (l1 : List Int) (r : List Int) (w : World) (hr0 : Kd.C (Kd.int .i64) w A0 l0.length l0) (hc0 : l0.length ≤ c0) (hr1 : Kd.C (Kd.int .i64) w A1 l1.length l1) (hc1 : l1.length ≤ c1) (h : arboristref01_Meet.f k l0 l1 = some r) :
  Calls Tryd.prog 15 #[.slice A0 l0.length c0, .slice A1 l1.length c1] w fun e w' => ∃ v0_ : Value, e = .returned (v0_) ∧ Kd.R (Kd.int .i64) 3 w' w.heap.size (fun _ => True) v0_ r ∧ Below w.heap.size w w' := by
 have HR0 := Aside0.mk hr0;have HC0 := Aside0.mk hc0;clear hr0 hc0;have HR1 := Aside0.mk hr1;have HC1 := Aside0.mk hc1;clear hr1 hc1;have HB := Aside0.mk (Below.refl w.heap.size w);have H : (arboristref01_Meet.l0 k l0 l1 (([] : List Int)) 0) = some r := h;clear h;obtain ⟨y364, hy364⟩ : ∃ y_ : List Int, y_ = (([] : List Int)) := ⟨_, rfl⟩;replace H : (arboristref01_Meet.l0 k l0 l1 y364 0) = some r := by first | (rw [hy364]; with_reducible exact H) | (have H2_ := (Option.bind_some _ _).symm.trans H; rw [hy364]; with_reducible exact H2_) | (have H2_ := (Option.bind_some _ _).symm.trans H; with_reducible exact H2_) | with_reducible exact H | (rw [hy364]; exact H) | exact H
 have Ny364 := Aside0.mk hy364;clear hy364;have H' := Aside0.mk H;clear H;go_enter Tryd.func15, Tryd.ntmps15
 go_wp2_with (first | ((with_reducible refine gate_dst (N := 8) rfl ?_); refine Kd.R_lit (Kd.int .i64) _ 3 ?hg (N := 8) ?hd (xs := ([] : List Int)) (inner := []) (ok := fun _ => True) (okp := fun _ => True) ?hr ?hp (fun _ hk => hk) trivial (Below.refl _ _) (Nat.le_refl _) (by simp) ?_; (case hd => rfl); (case hg => rfl); (case hr => first | (go_simp; done) | (go_simp; rfl)); (case hp => exact (Reps.none _ _)); intro v365 w3 ho4 hb hg_ hnew_; clear hg_ hnew_; (first | rw [← Ny364.out] at ho4 | (simp only [Int.reduceToNat] at ho4; rw [← Ny364.out] at ho4)); have n0_ := Aside0.mk (Kd.R_lower ho4 (below_size (qB HB.out))); have n1_ := Aside0.mk (below_step (qB HB.out) hb); clear HB; have HO366 := n0_; have HB := n1_; clear n0_ n1_; clear hb ho4))
 go_loopg [5, 6] k (fun kq v5 v6 w' => ∃ (x5_1 : List Int) (x6_1 : Int), v6 = .int .i64 x6_1 ∧ Aside0 (arboristref01_Meet.l0 kq l0 l1 x5_1 x6_1 = some r) ∧ Aside0 (kq ≤ k) ∧ Aside0 (Kd.R (Kd.int .i64) 3 w' w.heap.size (fun _ => True) v5 x5_1) ∧ Aside0 (Below w.heap.size w w'))
 case atStart => exact ⟨(y364), (0), (by first | rfl | (simp; done) | (simp [*]; done)), H', ⟨Nat.le_refl _⟩, ⟨by (with_reducible repeat (first | apply Kd.R_alloc | apply Kd.R_drewN | apply Kd.R_drew)); exact HO366.out⟩, ⟨by repeat (first | (with_reducible first | exact HB.out | apply below_alloc | apply pw_below_drewN | apply below_drew1) | exact HB.out)⟩⟩
 case round =>
  clear H';try clear c1
  try clear p2
  obtain ⟨x5_1, x6_1, rfl, HA, HK1, HO_5, HB⟩ := hrel;cases gk with
  | zero => exact absurd HA.out (by simp [arboristref01_Meet.l0])
  | succ k1 =>
   have H := HA.out;clear HA;simp only [arboristref01_Meet.l0] at H
   by_cases c5 : x6_1 < (l0.length : Int)
   ·rw [if_pos c5] at H
    have c5b0 : decide (x6_1 < (l0.length : Int)) = true := decide_eq_true c5;clear c5;by_cases c6 : 0 ≤ x6_1
    ·rw [if_pos c6] at H
     have c6b0 : decide (0 ≤ x6_1) = true := decide_eq_true c6;clear c6;replace H := Option.bind_eq_some_iff.mp H;obtain ⟨t368, A70, H⟩ := H;(try dsimp only at H);have A7 := Aside0.mk A70;clear A70;by_cases c8 : t368 = true
     ·subst c8;replace H : (if x5_1.length < 17592186044416 then (arboristref01_Meet.l0 k1 l0 l1 (x5_1 ++ [rd l0 x6_1]) (wrap64 (x6_1 + 1))) else (none)) = some r := by rw [if_pos rfl] at H; exact H
      by_cases c9 : x5_1.length < 17592186044416
      ·rw [if_pos c9] at H
       have LMc9 := Aside0.mk c9;clear c9;obtain ⟨y370, hy370⟩ : ∃ y_ : List Int, y_ = (x5_1 ++ [rd l0 x6_1]) := ⟨_, rfl⟩;replace H : (arboristref01_Meet.l0 k1 l0 l1 y370 (wrap64 (x6_1 + 1))) = some r := by first | (rw [hy370]; with_reducible exact H) | (have H2_ := (Option.bind_some _ _).symm.trans H; rw [hy370]; with_reducible exact H2_) | (have H2_ := (Option.bind_some _ _).symm.trans H; with_reducible exact H2_) | with_reducible exact H | (rw [hy370]; exact H) | exact H
       have Ny370 := Aside0.mk hy370;clear hy370;have H' := Aside0.mk H;clear H;have p367 : 0 ≤ (x6_1 : Int) := of_decide_eq_true qA;have q367 : x6_1 < (l0.length : Int) := of_decide_eq_true qA;obtain ⟨ad367, e367, hx367_0⟩ := Kd.at_int HR0.out x6_1 p367 q367;cases e367
       replace hx367_0 := (HB.out.cell (World.block_lt_of_cell? w _ hx367_0)).trans hx367_0;replace p367 := eq_true p367;replace q367 := eq_true q367;go_wp2_with (first | ((with_reducible refine gate_callee (f := 34) rfl ?_); refine goesL_ (some 20) rfl rfl Tryd.func34 (by kernel_rfl) rfl #[.slice A1 l1.length c1, .int .i64 (rd l0 x6_1)] rfl qM ?_; (with_reducible refine (arboristref01_In.calls k1 _ _ l1 (rd l0 x6_1) true _ ?side1 ?side2 A7.out).mono ?_); (case side1 => repeat (first | exact (Kd.C_below HR1.out HB.out) | (with_reducible refine Kd.C_alloc ?_ _) | (with_reducible refine Kd.C_drewN ?_ _) | (with_reducible refine Kd.C_drew ?_))); (case side2 => exact HC1.out); rintro e w' ⟨rfl, ⟨nd, rfl⟩⟩; refine ⟨_, rfl, ?_⟩; have p369 : 0 ≤ (x6_1 : Int) := of_decide_eq_true qA; have q369 : x6_1 < (l0.length : Int) := of_decide_eq_true qA; obtain ⟨ad369, e369, hx369_0⟩ := Kd.at_int HR0.out x6_1 p369 q369; obtain rfl : ad367 = ad369 := (by injection e369); replace hx369_0 := (HB.out.cell (World.block_lt_of_cell? w _ hx369_0)).trans hx369_0; replace p369 := eq_true p369; replace q369 := eq_true q369) | ((with_reducible refine gate_builtin (b := .append) (xs := #[.tmp 22, .tmp 27]) rfl ?_); at_builtin; refine Kd.R_append (Kd.int .i64) (w0 := w) w.heap.size rfl (.tmp 22) (.tmp 27) 23 3 (.int .i64 0) 8 rfl Tryd.underlying23 info3 rfl (by decide) (by omega) u5 x5_1 (rd l0 x6_1) [.int .i64 (rd l0 x6_1)] (fun _ => True) (fun _ => False) rfl rfl ?aP (fun _ hk => hk.elim) ?aF ?aO ?aB ?aS ?aL ?_; (case aP => exact rfl); (case aB => exact (qB HB.out)); (case aF => exact (fun _ _ => trivial)); (case aO => exact (qR HO_5.out)); (case aS => exact (below_size (qB HB.out))); (case aL => have := LMc9.out; omega); intro v371 w10 ho hb hg hat; rw [← Ny370.out] at ho; have n0_ := Aside0.mk (hb); have n1_ := Aside0.mk (ho); clear HB; clear HO_5; have HB := n0_; have HO372 := n1_; clear n0_ n1_; clear ho hb hg hat))
       go_roundg k1
       case measure => have := HK1.out; omega
       case rel => exact ⟨(y370), (wrap64 (x6_1 + 1)), (by first | rfl | (simp; done) | (simp [*]; done)), H', ⟨by have := HK1.out; omega⟩, ⟨by (with_reducible repeat (first | apply Kd.R_alloc | apply Kd.R_drewN | apply Kd.R_drew)); exact HO372.out⟩, ⟨by repeat (first | (with_reducible first | exact HB.out | apply below_alloc | apply pw_below_drewN | apply below_drew1) | exact HB.out)⟩⟩
      ·rw [if_neg c9] at H
       exact absurd H (by simp)
     ·replace c8 := Bool.eq_false_iff.mpr c8;subst c8;replace H : (arboristref01_Meet.l0 k1 l0 l1 x5_1 (wrap64 (x6_1 + 1))) = some r := by rw [if_neg (show ¬ (false = true) by decide)] at H; exact H
      have H' := Aside0.mk H;clear H;have p367 : 0 ≤ (x6_1 : Int) := of_decide_eq_true qA;have q367 : x6_1 < (l0.length : Int) := of_decide_eq_true qA;obtain ⟨ad367, e367, hx367_0⟩ := Kd.at_int HR0.out x6_1 p367 q367;cases e367
      replace hx367_0 := (HB.out.cell (World.block_lt_of_cell? w _ hx367_0)).trans hx367_0;replace p367 := eq_true p367;replace q367 := eq_true q367;go_wp2_with (first | ((with_reducible refine gate_callee (f := 34) rfl ?_); refine goesL_ (some 20) rfl rfl Tryd.func34 (by kernel_rfl) rfl #[.slice A1 l1.length c1, .int .i64 (rd l0 x6_1)] rfl qM ?_; (with_reducible refine (arboristref01_In.calls k1 _ _ l1 (rd l0 x6_1) false _ ?side1 ?side2 A7.out).mono ?_); (case side1 => repeat (first | exact (Kd.C_below HR1.out HB.out) | (with_reducible refine Kd.C_alloc ?_ _) | (with_reducible refine Kd.C_drewN ?_ _) | (with_reducible refine Kd.C_drew ?_))); (case side2 => exact HC1.out); rintro e w' ⟨rfl, ⟨nd, rfl⟩⟩; refine ⟨_, rfl, ?_⟩))
      go_roundg k1
      case measure => have := HK1.out; omega
      case rel => exact ⟨(x5_1), (wrap64 (x6_1 + 1)), (by first | rfl | (simp; done) | (simp [*]; done)), H', ⟨by have := HK1.out; omega⟩, ⟨by (with_reducible repeat (first | apply Kd.R_alloc | apply Kd.R_drewN | apply Kd.R_drew)); exact HO_5.out⟩, ⟨by repeat (first | (with_reducible first | exact HB.out | apply below_alloc | apply pw_below_drewN | apply below_drew1) | exact HB.out)⟩⟩
    ·rw [if_neg c6] at H
     exact absurd H (by simp)
   ·rw [if_neg c5] at H
    have c5b0 : decide (x6_1 < (l0.length : Int)) = false := decide_eq_false c5;clear c5;obtain rfl := Option.some.inj H;go_wp2
    go_ret
    exact ⟨_, by first | rfl | (simp [errW_none, errW_some] <;> rfl) | (simp [*, errW_none, errW_some] <;> rfl), by (with_reducible repeat (first | apply Kd.R_alloc | apply Kd.R_drewN | apply Kd.R_drew)); exact HO_5.out, by repeat (first | (with_reducible first | exact HB.out | apply below_alloc | apply pw_below_drewN | apply below_drew1) | exact HB.out)⟩
end Go.Proofs.YtbdlelojlnhhfaaDoor.Pr
