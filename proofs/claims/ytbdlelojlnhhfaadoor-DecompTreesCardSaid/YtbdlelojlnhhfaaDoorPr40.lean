-- Printed by a program of this session's own (wip/tools/pp.py) over the kit's print.py; Lean checks it.
import Derived.Test.YtbdlelojlnhhfaaDoorPr0
namespace Go.Proofs.YtbdlelojlnhhfaaDoor.Pr
open Go.RowKit Go.Proofs.YtbdlelojlnhhfaaDoorW.PrintWords Go.Proofs.YtbdlelojlnhhfaaDoorW.PrintLast Go.Proofs.YtbdlelojlnhhfaaDoorW.PrintMore
attribute [local go_sem] max2_int min2_int max_two min_two max_three min_three max_four min_four
set_option linter.unusedVariables false
set_option linter.unusedSimpArgs false
/-! ### arboristref08_Neighbors: function 27 -/
mutual
def arboristref08_Neighbors.l0 : Nat → List (List Bool) → Int → List Int → Int → Option (List Int)
 | 0, _, _, _, _ => none
 | k + 1, x0, x1, x5, x6 => if x6 < (x0.length : Int) then (if x1 ≥ 0 then (arboristref08_Neighbors.j1 k x0 x1 x5 x6 (decide (x1 < (x0.length : Int)))) else (arboristref08_Neighbors.j1 k x0 x1 x5 x6 false)) else (arboristref08_Neighbors.j1 k x0 x1 x5 x6 false)
def arboristref08_Neighbors.j1 : Nat → List (List Bool) → Int → List Int → Int → Bool → Option (List Int)
 | 0, _, _, _, _, _ => none
 | k + 1, x0, x1, x5, x6, x21 => if x21 = true then (if 0 ≤ x1 then (if x1 < (x0.length : Int) then (if 0 ≤ x6 then (if x6 < ((rd_L8 x0 x1).length : Int) then (if rdOf false (rd_L8 x0 x1) x6 = true then (if x5.length < 17592186044416 then (arboristref08_Neighbors.l0 k x0 x1 (x5 ++ [x6]) (wrap64 (x6 + 1))) else (none)) else (arboristref08_Neighbors.l0 k x0 x1 x5 (wrap64 (x6 + 1)))) else (none)) else (none)) else (none)) else (none)) else (some x5)
end
def arboristref08_Neighbors.f (k : Nat) (l0 : List (List Bool)) (a1 : Int) : Option (List Int) := arboristref08_Neighbors.l0 k l0 a1 (([] : List Int)) 0
theorem arboristref08_Neighbors.mono_l : ∀ k, (∀ y0 y1 y2 y3, LeO (arboristref08_Neighbors.l0 k y0 y1 y2 y3) (arboristref08_Neighbors.l0 (k + 1) y0 y1 y2 y3)) ∧ (∀ y0 y1 y2 y3 y4, LeO (arboristref08_Neighbors.j1 k y0 y1 y2 y3 y4) (arboristref08_Neighbors.j1 (k + 1) y0 y1 y2 y3 y4))
 | 0 => ⟨fun _ _ _ _ r h => by simp [arboristref08_Neighbors.l0] at h, fun _ _ _ _ _ r h => by simp [arboristref08_Neighbors.j1] at h⟩
 | k + 1 => by
  obtain ⟨ih0, ih1⟩ := arboristref08_Neighbors.mono_l k;refine ⟨?_, ?_⟩;all_goals intros
  all_goals (first | unfold arboristref08_Neighbors.l0 | unfold arboristref08_Neighbors.j1)
  all_goals repeat' first
  | (with_reducible first | exact ih0 _ _ _ _ | exact ih1 _ _ _ _ _ | exact LeO.refl _ | exact LeO.none _ | refine LeO.ite ?_ ?_ | refine LeO.bind ?_ (fun _ => ?_))
  | exact ih0 _ _ _ _
  | exact ih1 _ _ _ _ _
  | exact LeO.none _
  | refine LeO.ite ?_ ?_
  | refine LeO.bind ?_ (fun _ => ?_)
theorem arboristref08_Neighbors.mono : ∀ a0 a1 k, LeO (arboristref08_Neighbors.f k a0 a1) (arboristref08_Neighbors.f (k + 1) a0 a1) := by
 intro a0 a1 k
 obtain ⟨ih0, ih1⟩ := arboristref08_Neighbors.mono_l k;unfold arboristref08_Neighbors.f
 repeat' first
   | (with_reducible first | exact ih0 _ _ _ _ | exact ih1 _ _ _ _ _ | exact LeO.refl _ | exact LeO.none _ | refine LeO.ite ?_ ?_ | refine LeO.bind ?_ (fun _ => ?_))
   | exact ih0 _ _ _ _
   | exact ih1 _ _ _ _ _
   | exact LeO.none _
   | refine LeO.ite ?_ ?_
   | refine LeO.bind ?_ (fun _ => ?_)
set_option maxHeartbeats 8000000 in
set_option maxRecDepth 100000 in
theorem arboristref08_Neighbors.calls (k : Nat) (A0 : Option Addr) (c0 : Nat) (l0 : List (List Bool)) (a1 : Int) (r : List Int) (w : World) (hr0 : Kd.C (Kd.slice 4 Kd.bool) w A0 l0.length l0) (hc0 : l0.length ≤ c0) (h : arboristref08_Neighbors.f k l0 a1 = some r) :
  Calls Tryd.prog 27 #[.slice A0 l0.length c0, .int .i64 a1] w fun e w' => ∃ v0_ : Value, e = .returned (v0_) ∧ Kd.R (Kd.int .i64) 3 w' w.heap.size (fun _ => True) v0_ r ∧ Below w.heap.size w w' := by
 have HR0 := Aside0.mk hr0;have HC0 := Aside0.mk hc0;clear hr0 hc0;have HB := Aside0.mk (Below.refl w.heap.size w);have H : (arboristref08_Neighbors.l0 k l0 a1 (([] : List Int)) 0) = some r := h;clear h;obtain ⟨y466, hy466⟩ : ∃ y_ : List Int, y_ = (([] : List Int)) := ⟨_, rfl⟩;replace H : (arboristref08_Neighbors.l0 k l0 a1 y466 0) = some r := by first | (rw [hy466]; with_reducible exact H) | (have H2_ := (Option.bind_some _ _).symm.trans H; rw [hy466]; with_reducible exact H2_) | (have H2_ := (Option.bind_some _ _).symm.trans H; with_reducible exact H2_) | with_reducible exact H | (rw [hy466]; exact H) | exact H
 have Ny466 := Aside0.mk hy466;clear hy466;have H' := Aside0.mk H;clear H;go_enter Tryd.func27, Tryd.ntmps27
 go_wp2_with (first | ((with_reducible refine gate_dst (N := 7) rfl ?_); (try (refine gate_guard (by rfl) ?_; dsimp only)); refine Kd.R_lit (Kd.int .i64) _ 3 ?hg (N := 7) ?hd (xs := ([] : List Int)) (inner := []) (ok := fun _ => True) (okp := fun _ => True) ?hr ?hp (fun _ hk => hk) trivial (Below.refl _ _) (Nat.le_refl _) (by simp) ?_; (case hd => rfl); (case hg => rfl); (case hr => first | (go_simp; done) | (go_simp; rfl)); (case hp => exact (Reps.none _ _)); intro v467 w3 ho4 hb hg_ hnew_; clear hg_ hnew_; (first | rw [← Ny466.out] at ho4 | (simp only [Int.reduceToNat] at ho4; rw [← Ny466.out] at ho4)); have n0_ := Aside0.mk (Kd.R_lower ho4 (below_size (qB HB.out))); have n1_ := Aside0.mk (below_step (qB HB.out) hb); clear HB; have HO468 := n0_; have HB := n1_; clear n0_ n1_; clear hb ho4))
 go_loopg [5, 6] k (fun kq v5 v6 w' => ∃ (x5_1 : List Int) (x6_1 : Int), v6 = .int .i64 x6_1 ∧ Aside0 (arboristref08_Neighbors.l0 kq l0 a1 x5_1 x6_1 = some r) ∧ Aside0 (kq ≤ k) ∧ Aside0 (Kd.R (Kd.int .i64) 3 w' w.heap.size (fun _ => True) v5 x5_1) ∧ Aside0 (Below w.heap.size w w'))
 case atStart => exact ⟨(y466), (0), (by first | rfl | (simp; done) | (simp [*]; done)), H', ⟨Nat.le_refl _⟩, ⟨by (with_reducible repeat (first | apply Kd.R_alloc | apply Kd.R_drewN | apply Kd.R_drew)); exact HO468.out⟩, ⟨by repeat (first | (with_reducible first | exact HB.out | apply below_alloc | apply pw_below_drewN | apply below_drew1) | exact HB.out)⟩⟩
 case round =>
  clear H';try clear c2
  try clear p2
  obtain ⟨x5_1, x6_1, rfl, HA, HK1, HO_5, HB⟩ := hrel;cases gk with
  | zero => exact absurd HA.out (by simp [arboristref08_Neighbors.l0])
  | succ k1 =>
   have H := HA.out;clear HA;simp only [arboristref08_Neighbors.l0] at H
   have HC5 := Aside0.mk H;clear H;go_upto_region 3 with (fail)
   go_cut [21] (fun v21 wc => ∃ (kq : Nat) (x21_4 : Bool), v21 = .bool x21_4 ∧ Aside0 (arboristref08_Neighbors.j1 kq l0 a1 x5_1 x6_1 x21_4 = some r) ∧ Aside0 (kq ≤ k1) ∧ Aside0 (Kd.R (Kd.int .i64) 3 wc w.heap.size (fun _ => True) u5 x5_1) ∧ Aside0 (Below w.heap.size w wc))
   case first =>
    have H := HC5.out;clear HC5;by_cases c6 : x6_1 < (l0.length : Int)
    ·rw [if_pos c6] at H
     have c6b0 : decide (x6_1 < (l0.length : Int)) = true := decide_eq_true c6;clear c6;(first | rw [c6b0] | (simp only [i64_w, i32_w]; rw [c6b0]) | skip);by_cases c7 : a1 ≥ 0
     ·rw [if_pos c7] at H
      have c7b0 : decide (0 ≤ a1) = true := decide_eq_true c7;clear c7;have H' := Aside0.mk H;clear H;go_wp2
      go_meet
      case rel => exact ⟨_, (decide (a1 < (l0.length : Int))), (by first | rfl | (simp; done) | (simp [*]; done)), H', ⟨by have := HK1.out; first | omega | exact Nat.le_refl _⟩, ⟨by (with_reducible repeat (first | apply Kd.R_alloc | apply Kd.R_drewN | apply Kd.R_drew)); exact HO_5.out⟩, ⟨by repeat (first | (with_reducible first | exact HB.out | apply below_alloc | apply pw_below_drewN | apply below_drew1) | exact HB.out)⟩⟩
     ·rw [if_neg c7] at H
      have c7b0 : decide (0 ≤ a1) = false := decide_eq_false c7;clear c7;have H' := Aside0.mk H;clear H;go_wp2
      go_meet
      case rel => exact ⟨_, (false), (by first | rfl | (simp; done) | (simp [*]; done)), H', ⟨by have := HK1.out; first | omega | exact Nat.le_refl _⟩, ⟨by (with_reducible repeat (first | apply Kd.R_alloc | apply Kd.R_drewN | apply Kd.R_drew)); exact HO_5.out⟩, ⟨by repeat (first | (with_reducible first | exact HB.out | apply below_alloc | apply pw_below_drewN | apply below_drew1) | exact HB.out)⟩⟩
    ·rw [if_neg c6] at H
     have c6b0 : decide (x6_1 < (l0.length : Int)) = false := decide_eq_false c6;clear c6;(first | rw [c6b0] | (simp only [i64_w, i32_w]; rw [c6b0]) | skip);have H' := Aside0.mk H;clear H;go_wp2
     go_meet
     case rel => exact ⟨_, (false), (by first | rfl | (simp; done) | (simp [*]; done)), H', ⟨by have := HK1.out; first | omega | exact Nat.le_refl _⟩, ⟨by (with_reducible repeat (first | apply Kd.R_alloc | apply Kd.R_drewN | apply Kd.R_drew)); exact HO_5.out⟩, ⟨by repeat (first | (with_reducible first | exact HB.out | apply below_alloc | apply pw_below_drewN | apply below_drew1) | exact HB.out)⟩⟩
   case rest =>
    clear HC5;try clear c2
    try clear p2
    try clear c6
    try clear c6b0
    try clear c7
    try clear c7b0
    try clear p2
    obtain ⟨kq, x21_4, rfl, HA, HJ4, HO_5, HB⟩ := hcut;cases kq with
    | zero => exact absurd HA.out (by simp [arboristref08_Neighbors.j1])
    | succ kj4 =>
     have H := HA.out;clear HA;simp only [arboristref08_Neighbors.j1] at H
     by_cases c8 : x21_4 = true
     ·subst c8;replace H : (if 0 ≤ a1 then (if a1 < (l0.length : Int) then (if 0 ≤ x6_1 then (if x6_1 < ((rd_L8 l0 a1).length : Int) then (if rdOf false (rd_L8 l0 a1) x6_1 = true then (if x5_1.length < 17592186044416 then (arboristref08_Neighbors.l0 kj4 l0 a1 (x5_1 ++ [x6_1]) (wrap64 (x6_1 + 1))) else (none)) else (arboristref08_Neighbors.l0 kj4 l0 a1 x5_1 (wrap64 (x6_1 + 1)))) else (none)) else (none)) else (none)) else (none)) = some r := by rw [if_pos rfl] at H; exact H
      by_cases c9 : 0 ≤ a1
      ·rw [if_pos c9] at H
       have c9b0 : decide (0 ≤ a1) = true := decide_eq_true c9;clear c9;by_cases c10 : a1 < (l0.length : Int)
       ·rw [if_pos c10] at H
        have c10b0 : decide (a1 < (l0.length : Int)) = true := decide_eq_true c10;clear c10;by_cases c11 : 0 ≤ x6_1
        ·rw [if_pos c11] at H
         have c11b0 : decide (0 ≤ x6_1) = true := decide_eq_true c11;clear c11;by_cases c12 : x6_1 < ((rd_L8 l0 a1).length : Int)
         ·rw [if_pos c12] at H
          have c12b0 : decide (x6_1 < ((rd_L8 l0 a1).length : Int)) = true := decide_eq_true c12;clear c12;obtain ⟨bq13, hbq13⟩ : ∃ b_ : Bool, b_ = (rdOf false (rd_L8 l0 a1) x6_1) := ⟨_, rfl⟩;replace H : (if bq13 = true then (if x5_1.length < 17592186044416 then (arboristref08_Neighbors.l0 kj4 l0 a1 (x5_1 ++ [x6_1]) (wrap64 (x6_1 + 1))) else (none)) else (arboristref08_Neighbors.l0 kj4 l0 a1 x5_1 (wrap64 (x6_1 + 1)))) = some r := by rw [← hbq13] at H; exact H
          have Nbq13 := Aside0.mk hbq13;clear hbq13;by_cases c14 : bq13 = true
          ·subst c14;replace H : (if x5_1.length < 17592186044416 then (arboristref08_Neighbors.l0 kj4 l0 a1 (x5_1 ++ [x6_1]) (wrap64 (x6_1 + 1))) else (none)) = some r := by rw [if_pos rfl] at H; exact H
           by_cases c15 : x5_1.length < 17592186044416
           ·rw [if_pos c15] at H
            have LMc15 := Aside0.mk c15;clear c15;obtain ⟨y471, hy471⟩ : ∃ y_ : List Int, y_ = (x5_1 ++ [x6_1]) := ⟨_, rfl⟩;replace H : (arboristref08_Neighbors.l0 kj4 l0 a1 y471 (wrap64 (x6_1 + 1))) = some r := by first | (rw [hy471]; with_reducible exact H) | (have H2_ := (Option.bind_some _ _).symm.trans H; rw [hy471]; with_reducible exact H2_) | (have H2_ := (Option.bind_some _ _).symm.trans H; with_reducible exact H2_) | with_reducible exact H | (rw [hy471]; exact H) | exact H
            have Ny471 := Aside0.mk hy471;clear hy471;have H' := Aside0.mk H;clear H;have p469 : 0 ≤ (a1 : Int) := of_decide_eq_true qA;have q469 : a1 < (l0.length : Int) := of_decide_eq_true qA;obtain ⟨ad469, A469_0, c469_0, e469, hx469_0, hl469_0, hi469_0⟩ := at_L8 HR0.out a1 p469 q469;cases e469
            replace hx469_0 := (HB.out.cell (World.block_lt_of_cell? w _ hx469_0)).trans hx469_0;have HR469_0 := Aside0.mk hi469_0;have HC469_0 := Aside0.mk hl469_0;clear hi469_0 hl469_0;replace p469 := eq_true p469;replace q469 := eq_true q469;have p470 : 0 ≤ (x6_1 : Int) := of_decide_eq_true qA;have q470 : x6_1 < ((rd_L8 l0 a1).length : Int) := of_decide_eq_true qA;obtain ⟨ad470, e470, hx470_0⟩ := Kd.at_bool HR469_0.out x6_1 p470 q470;(try rw [← Nbq13.out] at hx470_0);cases e470
            replace hx470_0 := (HB.out.cell (World.block_lt_of_cell? w _ hx470_0)).trans hx470_0;replace p470 := eq_true p470;replace q470 := eq_true q470;go_wp2_with (first | ((with_reducible refine gate_builtin (b := .append) (xs := #[.tmp 31, .tmp 33]) rfl ?_); (try (refine gate_guard (by rfl) ?_; dsimp only)); at_builtin; refine Kd.R_append (Kd.int .i64) (w0 := w) w.heap.size rfl (.tmp 31) (.tmp 33) 23 3 (.int .i64 0) 8 rfl Tryd.underlying23 info3 rfl (by decide) (by omega) u5 x5_1 x6_1 [.int .i64 x6_1] (fun _ => True) (fun _ => False) rfl rfl ?aP (fun _ hk => hk.elim) ?aF ?aO ?aB ?aS ?aL ?_; (case aP => exact rfl); (case aB => exact (qB HB.out)); (case aF => exact (fun _ _ => trivial)); (case aO => exact (qR HO_5.out)); (case aS => exact (below_size (qB HB.out))); (case aL => have := LMc15.out; omega); intro v472 w16 ho hb hg hat; rw [← Ny471.out] at ho; have n0_ := Aside0.mk (hb); have n1_ := Aside0.mk (ho); clear HB; clear HO_5; have HB := n0_; have HO473 := n1_; clear n0_ n1_; clear ho hb hg hat))
            go_roundg kj4
            case measure => have := HK1.out; have := HJ4.out; omega
            case rel => exact ⟨(y471), (wrap64 (x6_1 + 1)), (by first | rfl | (simp; done) | (simp [*]; done)), H', ⟨by have := HK1.out; have := HJ4.out; omega⟩, ⟨by (with_reducible repeat (first | apply Kd.R_alloc | apply Kd.R_drewN | apply Kd.R_drew)); exact HO473.out⟩, ⟨by repeat (first | (with_reducible first | exact HB.out | apply below_alloc | apply pw_below_drewN | apply below_drew1) | exact HB.out)⟩⟩
           ·rw [if_neg c15] at H
            exact absurd H (by simp)
          ·replace c14 := Bool.eq_false_iff.mpr c14;subst c14;replace H : (arboristref08_Neighbors.l0 kj4 l0 a1 x5_1 (wrap64 (x6_1 + 1))) = some r := by rw [if_neg (show ¬ (false = true) by decide)] at H; exact H
           have H' := Aside0.mk H;clear H;have p469 : 0 ≤ (a1 : Int) := of_decide_eq_true qA;have q469 : a1 < (l0.length : Int) := of_decide_eq_true qA;obtain ⟨ad469, A469_0, c469_0, e469, hx469_0, hl469_0, hi469_0⟩ := at_L8 HR0.out a1 p469 q469;cases e469
           replace hx469_0 := (HB.out.cell (World.block_lt_of_cell? w _ hx469_0)).trans hx469_0;have HR469_0 := Aside0.mk hi469_0;have HC469_0 := Aside0.mk hl469_0;clear hi469_0 hl469_0;replace p469 := eq_true p469;replace q469 := eq_true q469;have p470 : 0 ≤ (x6_1 : Int) := of_decide_eq_true qA;have q470 : x6_1 < ((rd_L8 l0 a1).length : Int) := of_decide_eq_true qA;obtain ⟨ad470, e470, hx470_0⟩ := Kd.at_bool HR469_0.out x6_1 p470 q470;(try rw [← Nbq13.out] at hx470_0);cases e470
           replace hx470_0 := (HB.out.cell (World.block_lt_of_cell? w _ hx470_0)).trans hx470_0;replace p470 := eq_true p470;replace q470 := eq_true q470;go_wp2
           go_roundg kj4
           case measure => have := HK1.out; have := HJ4.out; omega
           case rel => exact ⟨(x5_1), (wrap64 (x6_1 + 1)), (by first | rfl | (simp; done) | (simp [*]; done)), H', ⟨by have := HK1.out; have := HJ4.out; omega⟩, ⟨by (with_reducible repeat (first | apply Kd.R_alloc | apply Kd.R_drewN | apply Kd.R_drew)); exact HO_5.out⟩, ⟨by repeat (first | (with_reducible first | exact HB.out | apply below_alloc | apply pw_below_drewN | apply below_drew1) | exact HB.out)⟩⟩
         ·rw [if_neg c12] at H
          exact absurd H (by simp)
        ·rw [if_neg c11] at H
         exact absurd H (by simp)
       ·rw [if_neg c10] at H
        exact absurd H (by simp)
      ·rw [if_neg c9] at H
       exact absurd H (by simp)
     ·replace c8 := Bool.eq_false_iff.mpr c8;subst c8;replace H : (some x5_1) = some r := by rw [if_neg (show ¬ (false = true) by decide)] at H; exact H
      obtain rfl := Option.some.inj H;go_wp2
      go_ret
      exact ⟨_, by first | rfl | (simp [errW_none, errW_some] <;> rfl) | (simp [*, errW_none, errW_some] <;> rfl), by (with_reducible repeat (first | apply Kd.R_alloc | apply Kd.R_drewN | apply Kd.R_drew)); exact HO_5.out, by repeat (first | (with_reducible first | exact HB.out | apply below_alloc | apply pw_below_drewN | apply below_drew1) | exact HB.out)⟩
/-! ### arboristref09_Copy: function 36 -/
def arboristref09_Copy.l0 : Nat → List (List Bool) → List (List Bool) → Int → Option ((List (List Bool)))
 | 0, _, _, _ => none
 | k + 1, x0, x3, x4 => if x4 < (x0.length : Int) then ((some (([] : List Bool) : List Bool)).bind fun y477 => (if 0 ≤ x4 then (if y477.length + (rd_L8 x0 x4).length < 140737488355328 then (if x3.length < 5864062014805 then (arboristref09_Copy.l0 k x0 (x3 ++ [(y477 ++ (rd_L8 x0 x4))]) (wrap64 (x4 + 1))) else (none)) else (none)) else (none))) else (some x3)
def arboristref09_Copy.f (k : Nat) (l0 : List (List Bool)) : Option ((List (List Bool))) := arboristref09_Copy.l0 k l0 (([] : List (List Bool))) 0
theorem arboristref09_Copy.mono_l : ∀ k, (∀ y0 y1 y2, LeO (arboristref09_Copy.l0 k y0 y1 y2) (arboristref09_Copy.l0 (k + 1) y0 y1 y2))
 | 0 => fun _ _ _ r h => by simp [arboristref09_Copy.l0] at h
 | k + 1 => by
  have ih0 := arboristref09_Copy.mono_l k;all_goals intros
  all_goals (first | unfold arboristref09_Copy.l0)
  all_goals repeat' first
  | (with_reducible first | exact ih0 _ _ _ | exact LeO.refl _ | exact LeO.none _ | refine LeO.ite ?_ ?_ | refine LeO.bind ?_ (fun _ => ?_))
  | exact ih0 _ _ _
  | exact LeO.none _
  | refine LeO.ite ?_ ?_
  | refine LeO.bind ?_ (fun _ => ?_)
theorem arboristref09_Copy.mono : ∀ a0 k, LeO (arboristref09_Copy.f k a0) (arboristref09_Copy.f (k + 1) a0) := by
 intro a0 k
 have ih0 := arboristref09_Copy.mono_l k;unfold arboristref09_Copy.f
 repeat' first
   | (with_reducible first | exact ih0 _ _ _ | exact LeO.refl _ | exact LeO.none _ | refine LeO.ite ?_ ?_ | refine LeO.bind ?_ (fun _ => ?_))
   | exact ih0 _ _ _
   | exact LeO.none _
   | refine LeO.ite ?_ ?_
   | refine LeO.bind ?_ (fun _ => ?_)
set_option maxHeartbeats 8000000 in
set_option maxRecDepth 100000 in
theorem arboristref09_Copy.calls (k : Nat) (A0 : Option Addr) (c0 : Nat) (l0 : List (List Bool)) (r : List (List Bool)) (w : World) (hr0 : Kd.C (Kd.slice 4 Kd.bool) w A0 l0.length l0) (hc0 : l0.length ≤ c0) (h : arboristref09_Copy.f k l0 = some r) :
  Calls Tryd.prog 36 #[.slice A0 l0.length c0] w fun e w' => ∃ v0_ : Value, e = .returned (v0_) ∧ Kd.S (Kd.slice 4 Kd.bool) 40 w' w.heap.size (fun _ => True) v0_ r ∧ Below w.heap.size w w' := by
 have HR0 := Aside0.mk hr0;have HC0 := Aside0.mk hc0;clear hr0 hc0;have HB := Aside0.mk (Below.refl w.heap.size w);have H : (arboristref09_Copy.l0 k l0 (([] : List (List Bool))) 0) = some r := h;clear h;obtain ⟨y474, hy474⟩ : ∃ y_ : List (List Bool), y_ = (([] : List (List Bool))) := ⟨_, rfl⟩;replace H : (arboristref09_Copy.l0 k l0 y474 0) = some r := by first | (rw [hy474]; with_reducible exact H) | (have H2_ := (Option.bind_some _ _).symm.trans H; rw [hy474]; with_reducible exact H2_) | (have H2_ := (Option.bind_some _ _).symm.trans H; with_reducible exact H2_) | with_reducible exact H | (rw [hy474]; exact H) | exact H
 have Ny474 := Aside0.mk hy474;clear hy474;have H' := Aside0.mk H;clear H;go_enter Tryd.func36, Tryd.ntmps36
 go_wp2_with (first | ((with_reducible refine gate_dst (N := 5) rfl ?_); refine Kd.S_lit (Kd.slice 4 Kd.bool) _ 40 ?hg (N := 5) ?hd (xs := ([] : List (List Bool))) (inner := []) (ok := fun _ => True) (okp := fun _ => True) ?hr ?hp (fun _ hk => hk) trivial (Below.refl _ _) (Nat.le_refl _) (by simp) ?_; (case hd => rfl); (case hg => rfl); (case hr => first | (go_simp; done) | (go_simp; rfl)); (case hp => exact (Reps.none _ _)); intro v475 w2 ho3 hb hg_ hnew_; clear hg_ hnew_; (first | rw [← Ny474.out] at ho3 | (simp only [Int.reduceToNat] at ho3; rw [← Ny474.out] at ho3)); have n0_ := Aside0.mk (Kd.S_lower ho3 (below_size (qB HB.out))); have n1_ := Aside0.mk (below_step (qB HB.out) hb); clear HB; have HO476 := n0_; have HB := n1_; clear n0_ n1_; clear hb ho3))
 go_loopg [3, 4] k (fun kq v3 v4 w' => ∃ (x3_1 : List (List Bool)) (x4_1 : Int), v4 = .int .i64 x4_1 ∧ Aside0 (arboristref09_Copy.l0 kq l0 x3_1 x4_1 = some r) ∧ Aside0 (kq ≤ k) ∧ Aside0 (Kd.S (Kd.slice 4 Kd.bool) 40 w' w.heap.size (fun _ => True) v3 x3_1) ∧ Aside0 (Below w.heap.size w w'))
 case atStart => exact ⟨(y474), (0), (by first | rfl | (simp; done) | (simp [*]; done)), H', ⟨Nat.le_refl _⟩, ⟨by (with_reducible repeat (first | apply Kd.S_alloc | apply Kd.S_drewN | apply Kd.S_drew)); exact HO476.out⟩, ⟨by repeat (first | (with_reducible first | exact HB.out | apply below_alloc | apply pw_below_drewN | apply below_drew1) | exact HB.out)⟩⟩
 case round =>
  clear H';try clear p2
  try clear c3
  obtain ⟨x3_1, x4_1, rfl, HA, HK1, HO_3, HB⟩ := hrel;cases gk with
  | zero => exact absurd HA.out (by simp [arboristref09_Copy.l0])
  | succ k1 =>
   have H := HA.out;clear HA;simp only [arboristref09_Copy.l0] at H
   by_cases c4 : x4_1 < (l0.length : Int)
   ·rw [if_pos c4] at H
    have c4b0 : decide (x4_1 < (l0.length : Int)) = true := decide_eq_true c4;clear c4;obtain ⟨y477, hy477⟩ : ∃ y_ : List Bool, y_ = (([] : List Bool)) := ⟨_, rfl⟩;replace H : (if 0 ≤ x4_1 then (if y477.length + (rd_L8 l0 x4_1).length < 140737488355328 then (if x3_1.length < 5864062014805 then (arboristref09_Copy.l0 k1 l0 (x3_1 ++ [(y477 ++ (rd_L8 l0 x4_1))]) (wrap64 (x4_1 + 1))) else (none)) else (none)) else (none)) = some r := by first | (rw [hy477]; with_reducible exact H) | (have H2_ := (Option.bind_some _ _).symm.trans H; rw [hy477]; with_reducible exact H2_) | (have H2_ := (Option.bind_some _ _).symm.trans H; with_reducible exact H2_) | with_reducible exact H | (rw [hy477]; exact H) | exact H
    have Ny477 := Aside0.mk hy477;clear hy477;by_cases c5 : 0 ≤ x4_1
    ·rw [if_pos c5] at H
     have c5b0 : decide (0 ≤ x4_1) = true := decide_eq_true c5;clear c5;by_cases c6 : y477.length + (rd_L8 l0 x4_1).length < 140737488355328
     ·rw [if_pos c6] at H
      have LMc6 := Aside0.mk c6;clear c6;obtain ⟨y481, hy481⟩ : ∃ y_ : List Bool, y_ = (y477 ++ (rd_L8 l0 x4_1)) := ⟨_, rfl⟩;replace H : (if x3_1.length < 5864062014805 then (arboristref09_Copy.l0 k1 l0 (x3_1 ++ [y481]) (wrap64 (x4_1 + 1))) else (none)) = some r := by first | (rw [hy481]; with_reducible exact H) | (have H2_ := (Option.bind_some _ _).symm.trans H; rw [hy481]; with_reducible exact H2_) | (have H2_ := (Option.bind_some _ _).symm.trans H; with_reducible exact H2_) | with_reducible exact H | (rw [hy481]; exact H) | exact H
      have Ny481 := Aside0.mk hy481;clear hy481;by_cases c7 : x3_1.length < 5864062014805
      ·rw [if_pos c7] at H
       have LMc7 := Aside0.mk c7;clear c7;obtain ⟨y484, hy484⟩ : ∃ y_ : List (List Bool), y_ = (x3_1 ++ [y481]) := ⟨_, rfl⟩;replace H : (arboristref09_Copy.l0 k1 l0 y484 (wrap64 (x4_1 + 1))) = some r := by first | (rw [hy484]; with_reducible exact H) | (have H2_ := (Option.bind_some _ _).symm.trans H; rw [hy484]; with_reducible exact H2_) | (have H2_ := (Option.bind_some _ _).symm.trans H; with_reducible exact H2_) | with_reducible exact H | (rw [hy484]; exact H) | exact H
       have Ny484 := Aside0.mk hy484;clear hy484;have H' := Aside0.mk H;clear H;go_wp2_with (first | ((with_reducible refine gate_dst (N := 13) rfl ?_); refine Kd.R_lit Kd.bool _ 4 ?hg (N := 13) ?hd (xs := ([] : List Bool)) (inner := []) (ok := fun _ => True) (okp := fun _ => True) ?hr ?hp (fun _ hk => hk) trivial (Below.refl _ _) (Nat.le_refl _) (by simp) ?_; (case hd => rfl); (case hg => rfl); (case hr => first | (go_simp; done) | (go_simp; rfl)); (case hp => exact (Reps.none _ _)); intro v478 w8 ho9 hb hg_ hnew_; clear hg_ hnew_; (first | rw [← Ny477.out] at ho9 | (simp only [Int.reduceToNat] at ho9; rw [← Ny477.out] at ho9)); have n0_ := Aside0.mk (Kd.S_elder' (qS HO_3.out) (Kd.R_base ho9) hb); have n1_ := Aside0.mk (Kd.R_lower ho9 (below_size (qB HB.out))); have n2_ := Aside0.mk (below_step (qB HB.out) hb); clear HO_3; clear HB; have HO_3 := n0_; have HO479 := n1_; have HB := n2_; clear n0_ n1_ n2_; clear hb ho9; have p480 : 0 ≤ (x4_1 : Int) := of_decide_eq_true qA; have q480 : x4_1 < (l0.length : Int) := of_decide_eq_true qA; obtain ⟨ad480, A480_0, c480_0, e480, hx480_0, hl480_0, hi480_0⟩ := at_L8 HR0.out x4_1 p480 q480; cases e480; replace hx480_0 := (HB.out.cell (World.block_lt_of_cell? w _ hx480_0)).trans hx480_0; have HR480_0 := Aside0.mk hi480_0; have HC480_0 := Aside0.mk hl480_0; clear hi480_0 hl480_0; replace p480 := eq_true p480; replace q480 := eq_true q480) | ((with_reducible refine gate_builtin (b := .append) (xs := #[.tmp 13, .tmp 17]) rfl ?_); at_builtin; refine Kd.R_append_rows Kd.bool (w0 := w) w.heap.size rfl (.tmp 13) (.tmp 17) 40 4 (.bool false) 1 rfl Tryd.underlying40 info4 rfl (by decide) (by omega) v478 y477 (rd_L8 l0 x4_1) _ _ _ (fun _ => True) (fun _ => False) rfl rfl ?aO ?aR (fun _ _ h => h) (fun _ h => h.elim) ?aF ?aB ?aS ?aL ?_; (case aR => repeat (first | exact (Kd.C_below HR480_0.out HB.out) | (with_reducible refine Kd.C_alloc ?_ _) | (with_reducible refine Kd.C_drewN ?_ _) | (with_reducible refine Kd.C_drew ?_))); (case aB => exact (qB HB.out)); (case aF => exact (fun _ _ => trivial)); (case aO => exact (qR HO479.out)); (case aS => exact (below_size (qB HB.out))); (case aL => have := LMc6.out; omega); intro v482 w10 ho hb hg hat; rw [← Ny481.out] at ho; have n0_ := Aside0.mk (Kd.S_after (ok := (fun _ => True)) (qS HO_3.out) hg hat); have n1_ := Aside0.mk (hb); have n2_ := Aside0.mk (ho); clear HO_3; clear HB; clear HO479; have HO_3 := n0_; have HB := n1_; have HO483 := n2_; clear n0_ n1_ n2_; clear ho hb hg hat; obtain ⟨Ao12, co12, eo12⟩ := Kd.R_slice HO483.out; subst eo12) | ((with_reducible refine gate_builtin (b := .append) (xs := #[.tmp 12, .tmp 19]) rfl ?_); at_builtin; refine Kd.S_append (Kd.slice 4 Kd.bool) (w0 := w) w.heap.size rfl (.tmp 12) (.tmp 19) 25 40 (.slice none 0 0) 24 rfl Tryd.underlying25 info40 rfl (by decide) (by omega) u3 x3_1 y481 [.slice Ao12 y481.length co12] (fun _ => True) (fun k_ => some k_ = (.slice Ao12 y481.length co12 : Value).ownBlock) rfl rfl ?aP (fun k_ hk_ => ((Kd.R_mono (ok' := fun k_ => ((fun _ => True)) k_ ∧ some k_ ≠ (u3 : Value).ownBlock) (Kd.R_apart' (HO483.out) (Kd.S_typed HO_3.out) (by decide)) (fun k_ hk => ⟨trivial, hk.2⟩))).1 k_ hk_.symm) ?aF ?aO ?aB ?aS ?aL ?_; (case aP => exact Kd.M_row (Kd.R_mono (Kd.R_tight rfl (Kd.R_mono (ok' := fun k_ => ((fun _ => True)) k_ ∧ some k_ ≠ (u3 : Value).ownBlock) (Kd.R_apart' (HO483.out) (Kd.S_typed HO_3.out) (by decide)) (fun k_ hk => ⟨trivial, hk.2⟩))) (fun _ h_ => h_))); (case aB => exact (qB HB.out)); (case aF => exact (fun _ _ => trivial)); (case aO => exact (by (with_reducible repeat (first | apply Kd.S_alloc | apply Kd.S_drewN | apply Kd.S_drew)); exact Kd.S_mono HO_3.out (fun k_ hk => ⟨trivial, fun e_ => hk.2 e_⟩))); (case aS => exact (below_size (qB HB.out))); (case aL => have := LMc7.out; omega); intro v485 w11 ho hb hg hat; rw [← Ny484.out] at ho; have n0_ := Aside0.mk (hb); have n1_ := Aside0.mk (ho); clear HB; clear HO_3; clear HO483; have HB := n0_; have HO486 := n1_; clear n0_ n1_; clear ho hb hg hat))
       go_roundg k1
       case measure => have := HK1.out; omega
       case rel => exact ⟨(y484), (wrap64 (x4_1 + 1)), (by first | rfl | (simp; done) | (simp [*]; done)), H', ⟨by have := HK1.out; omega⟩, ⟨by (with_reducible repeat (first | apply Kd.S_alloc | apply Kd.S_drewN | apply Kd.S_drew)); exact HO486.out⟩, ⟨by repeat (first | (with_reducible first | exact HB.out | apply below_alloc | apply pw_below_drewN | apply below_drew1) | exact HB.out)⟩⟩
      ·rw [if_neg c7] at H
       exact absurd H (by simp)
     ·rw [if_neg c6] at H
      exact absurd H (by simp)
    ·rw [if_neg c5] at H
     exact absurd H (by simp)
   ·rw [if_neg c4] at H
    have c4b0 : decide (x4_1 < (l0.length : Int)) = false := decide_eq_false c4;clear c4;obtain rfl := Option.some.inj H;go_wp2
    go_ret
    exact ⟨_, by first | rfl | (simp [errW_none, errW_some] <;> rfl) | (simp [*, errW_none, errW_some] <;> rfl), by (with_reducible repeat (first | apply Kd.S_alloc | apply Kd.S_drewN | apply Kd.S_drew)); exact HO_3.out, by repeat (first | (with_reducible first | exact HB.out | apply below_alloc | apply pw_below_drewN | apply below_drew1) | exact HB.out)⟩
end Go.Proofs.YtbdlelojlnhhfaaDoor.Pr
