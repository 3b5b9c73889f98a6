-- Printed by a program of this session's own (wip/tools/pp.py) over the kit's print.py; Lean checks it.
import Derived.Test.YtaodbohfhelokaaDoorPr0
namespace Go.Proofs.YtaodbohfhelokaaDoor.Pr
open Go.RowKit Go.Proofs.YtaodbohfhelokaaDoorW.PrintWords Go.Proofs.YtaodbohfhelokaaDoorW.PrintLast Go.Proofs.YtaodbohfhelokaaDoorW.PrintMore
attribute [local go_sem] max2_int min2_int max_two min_two max_three min_three max_four min_four   -- for this text's walks alone
set_option linter.unusedVariables false
set_option linter.unusedSimpArgs false

/-! ### arboristref08_Parts: function 26 -/
mutual
def arboristref08_Parts.l0 : Nat → List (List Bool) → Int → List Bool → List (List Int) → Int → Option ((List (List Int)))
  | 0, _, _, _, _, _ => none
  | k + 1, x0, x3, x4, x5, x6 => if x6 < x3 then (if 0 ≤ x6 then (if x6 < (x4.length : Int) then (if rdOf false x4 x6 = true then (arboristref08_Parts.l0 k x0 x3 x4 x5 (wrap64 (x6 + 1))) else (if 0 ≤ x3 then (if (x3 : Int).toNat ≤ 281474976710656 then ((some (List.replicate (x3 : Int).toNat false : List Bool)).bind fun y283 => (if x6 < (y283.length : Int) then (arboristref08_Parts.l1 k x0 x3 x4 x5 x6 (y283.set (x6 : Int).toNat true) 0) else (none))) else (none)) else (none))) else (none)) else (none)) else (some x5)
def arboristref08_Parts.l1 : Nat → List (List Bool) → Int → List Bool → List (List Int) → Int → List Bool → Int → Option ((List (List Int)))
  | 0, _, _, _, _, _, _, _ => none
  | k + 1, x0, x3, x4, x5, x6, x7, x8 => if x8 < x3 then (arboristref08_Parts.l2 k x0 x3 x4 x5 x6 x7 x8 0) else (arboristref08_Parts.l4 k x0 x3 x4 x5 x6 x7 (([] : List Int)) 0)
def arboristref08_Parts.l2 : Nat → List (List Bool) → Int → List Bool → List (List Int) → Int → List Bool → Int → Int → Option ((List (List Int)))
  | 0, _, _, _, _, _, _, _, _ => none
  | k + 1, x0, x3, x4, x5, x6, x7, x8, x9 => if x9 < x3 then (arboristref08_Parts.l3 k x0 x3 x4 x5 x6 x7 x8 x9 0) else (arboristref08_Parts.l1 k x0 x3 x4 x5 x6 x7 (wrap64 (x8 + 1)))
def arboristref08_Parts.l3 : Nat → List (List Bool) → Int → List Bool → List (List Int) → Int → List Bool → Int → Int → Int → Option ((List (List Int)))
  | 0, _, _, _, _, _, _, _, _, _ => none
  | k + 1, x0, x3, x4, x5, x6, x7, x8, x9, x10 => if x10 < x3 then (if 0 ≤ x10 then (if x10 < (x7.length : Int) then (if rdOf false x7 x10 = true then (arboristref08_Parts.l3 k x0 x3 x4 x5 x6 (x7.set (x10 : Int).toNat true) x8 x9 (wrap64 (x10 + 1))) else (if 0 ≤ x9 then (if x9 < (x7.length : Int) then (if rdOf false x7 x9 = true then (if x9 < (x0.length : Int) then (if x10 < ((rd_L5 x0 x9).length : Int) then (arboristref08_Parts.l3 k x0 x3 x4 x5 x6 (x7.set (x10 : Int).toNat (rdOf false (rd_L5 x0 x9) x10)) x8 x9 (wrap64 (x10 + 1))) else (none)) else (none)) else (arboristref08_Parts.l3 k x0 x3 x4 x5 x6 (x7.set (x10 : Int).toNat false) x8 x9 (wrap64 (x10 + 1)))) else (none)) else (none))) else (none)) else (none)) else (arboristref08_Parts.l2 k x0 x3 x4 x5 x6 x7 x8 (wrap64 (x9 + 1)))
def arboristref08_Parts.l4 : Nat → List (List Bool) → Int → List Bool → List (List Int) → Int → List Bool → List Int → Int → Option ((List (List Int)))
  | 0, _, _, _, _, _, _, _, _ => none
  | k + 1, x0, x3, x4, x5, x6, x7, x11, x12 => if x12 < x3 then (if 0 ≤ x12 then (if x12 < (x7.length : Int) then (if rdOf false x7 x12 = true then (if x12 < (x4.length : Int) then (if x11.length < 17592186044416 then (arboristref08_Parts.l4 k x0 x3 (x4.set (x12 : Int).toNat true) x5 x6 x7 (x11 ++ [x12]) (wrap64 (x12 + 1))) else (none)) else (none)) else (arboristref08_Parts.l4 k x0 x3 x4 x5 x6 x7 x11 (wrap64 (x12 + 1)))) else (none)) else (none)) else (if x5.length < 5864062014805 then (arboristref08_Parts.l0 k x0 x3 x4 (x5 ++ [x11]) (wrap64 (x6 + 1))) else (none))
end
def arboristref08_Parts.f (k : Nat) (l0 : List (List Bool)) : Option ((List (List Int))) := if 0 ≤ (l0.length : Int) then (if ((l0.length : Int) : Int).toNat ≤ 281474976710656 then (arboristref08_Parts.l0 k l0 (l0.length : Int) (List.replicate ((l0.length : Int) : Int).toNat false) (([] : List (List Int))) 0) else (none)) else (none)
theorem arboristref08_Parts.mono_l : ∀ k, (∀ y0 y1 y2 y3 y4, LeO (arboristref08_Parts.l0 k y0 y1 y2 y3 y4) (arboristref08_Parts.l0 (k + 1) y0 y1 y2 y3 y4)) ∧ (∀ y0 y1 y2 y3 y4 y5 y6, LeO (arboristref08_Parts.l1 k y0 y1 y2 y3 y4 y5 y6) (arboristref08_Parts.l1 (k + 1) y0 y1 y2 y3 y4 y5 y6)) ∧ (∀ y0 y1 y2 y3 y4 y5 y6 y7, LeO (arboristref08_Parts.l2 k y0 y1 y2 y3 y4 y5 y6 y7) (arboristref08_Parts.l2 (k + 1) y0 y1 y2 y3 y4 y5 y6 y7)) ∧ (∀ y0 y1 y2 y3 y4 y5 y6 y7 y8, LeO (arboristref08_Parts.l3 k y0 y1 y2 y3 y4 y5 y6 y7 y8) (arboristref08_Parts.l3 (k + 1) y0 y1 y2 y3 y4 y5 y6 y7 y8)) ∧ (∀ y0 y1 y2 y3 y4 y5 y6 y7, LeO (arboristref08_Parts.l4 k y0 y1 y2 y3 y4 y5 y6 y7) (arboristref08_Parts.l4 (k + 1) y0 y1 y2 y3 y4 y5 y6 y7))
  | 0 => ⟨fun _ _ _ _ _ r h => by simp [arboristref08_Parts.l0] at h, fun _ _ _ _ _ _ _ r h => by simp [arboristref08_Parts.l1] at h, fun _ _ _ _ _ _ _ _ r h => by simp [arboristref08_Parts.l2] at h, fun _ _ _ _ _ _ _ _ _ r h => by simp [arboristref08_Parts.l3] at h, fun _ _ _ _ _ _ _ _ r h => by simp [arboristref08_Parts.l4] at h⟩
  | k + 1 => by
    obtain ⟨ih0, ih1, ih2, ih3, ih4⟩ := arboristref08_Parts.mono_l k
    refine ⟨?_, ?_, ?_, ?_, ?_⟩
    all_goals intros
    all_goals (first | unfold arboristref08_Parts.l0 | unfold arboristref08_Parts.l1 | unfold arboristref08_Parts.l2 | unfold arboristref08_Parts.l3 | unfold arboristref08_Parts.l4)
    all_goals repeat' first
    | (with_reducible exact ih0 _ _ _ _ _)
    | (with_reducible exact ih1 _ _ _ _ _ _ _)
    | (with_reducible exact ih2 _ _ _ _ _ _ _ _)
    | (with_reducible exact ih3 _ _ _ _ _ _ _ _ _)
    | (with_reducible exact ih4 _ _ _ _ _ _ _ _)
    | (with_reducible exact LeO.refl _)
    | (with_reducible exact LeO.none _)
    | (with_reducible refine LeO.ite ?_ ?_)
    | (with_reducible refine LeO.bind ?_ (fun _ => ?_))
    | exact ih0 _ _ _ _ _
    | exact ih1 _ _ _ _ _ _ _
    | exact ih2 _ _ _ _ _ _ _ _
    | exact ih3 _ _ _ _ _ _ _ _ _
    | exact ih4 _ _ _ _ _ _ _ _
    | exact LeO.none _
    | refine LeO.ite ?_ ?_
    | refine LeO.bind ?_ (fun _ => ?_)
theorem arboristref08_Parts.mono : ∀ a0 k, LeO (arboristref08_Parts.f k a0) (arboristref08_Parts.f (k + 1) a0) := by
  intro a0 k
  obtain ⟨ih0, ih1, ih2, ih3, ih4⟩ := arboristref08_Parts.mono_l k
  unfold arboristref08_Parts.f
  repeat' first
      | (with_reducible exact ih0 _ _ _ _ _)
      | (with_reducible exact ih1 _ _ _ _ _ _ _)
      | (with_reducible exact ih2 _ _ _ _ _ _ _ _)
      | (with_reducible exact ih3 _ _ _ _ _ _ _ _ _)
      | (with_reducible exact ih4 _ _ _ _ _ _ _ _)
      | (with_reducible exact LeO.refl _)
      | (with_reducible exact LeO.none _)
      | (with_reducible refine LeO.ite ?_ ?_)
      | (with_reducible refine LeO.bind ?_ (fun _ => ?_))
      | exact ih0 _ _ _ _ _
      | exact ih1 _ _ _ _ _ _ _
      | exact ih2 _ _ _ _ _ _ _ _
      | exact ih3 _ _ _ _ _ _ _ _ _
      | exact ih4 _ _ _ _ _ _ _ _
      | exact LeO.none _
      | refine LeO.ite ?_ ?_
      | refine LeO.bind ?_ (fun _ => ?_)
set_option maxHeartbeats 8000000 in
set_option maxRecDepth 100000 in
theorem arboristref08_Parts.calls (k : Nat) (A0 : Option Addr) (c0 : Nat) (l0 : List (List Bool)) (r : List (List Int)) (w : World) (hr0 : Kd.C (Kd.slice 4 Kd.bool) w A0 l0.length l0) (hc0 : l0.length ≤ c0) (h : arboristref08_Parts.f k l0 = some r) :
    Calls Tryd.prog 26 #[.slice A0 l0.length c0] w fun e w' => ∃ v0_ : Value, e = .returned (v0_) ∧ Kd.S (Kd.slice 3 (Kd.int .i64)) 34 w' w.heap.size (fun _ => True) v0_ r ∧ Below w.heap.size w w' := by
  have HR0 := Aside0.mk hr0
  have HC0 := Aside0.mk hc0
  clear hr0 hc0
  have HB := Aside0.mk (Below.refl w.heap.size w)
  have H : (if 0 ≤ (l0.length : Int) then (if ((l0.length : Int) : Int).toNat ≤ 281474976710656 then (arboristref08_Parts.l0 k l0 (l0.length : Int) (List.replicate ((l0.length : Int) : Int).toNat false) (([] : List (List Int))) 0) else (none)) else (none)) = some r := h
  clear h
  by_cases c2 : 0 ≤ (l0.length : Int)
  · rw [if_pos c2] at H
    have c2b0 := eq_true c2
    have c2b1 : decide (0 ≤ (l0.length : Int)) = true := decide_eq_true c2
    clear c2
    by_cases c3 : ((l0.length : Int) : Int).toNat ≤ 281474976710656
    · rw [if_pos c3] at H
      have c3b0 := eq_true c3
      have c3b1 : decide (((l0.length : Int) : Int).toNat ≤ 281474976710656) = true := decide_eq_true c3
      clear c3
      obtain ⟨y276, hy276⟩ : ∃ y_ : List Bool, y_ = (List.replicate ((l0.length : Int) : Int).toNat false) := ⟨_, rfl⟩
      replace H : (arboristref08_Parts.l0 k l0 (l0.length : Int) y276 (([] : List (List Int))) 0) = some r := by first | (rw [hy276]; with_reducible exact H) | (have H2_ := (Option.bind_some _ _).symm.trans H; rw [hy276]; with_reducible exact H2_) | (have H2_ := (Option.bind_some _ _).symm.trans H; with_reducible exact H2_) | with_reducible exact H | (rw [hy276]; exact H) | exact H
      have Ny276 := Aside0.mk hy276
      clear hy276
      obtain ⟨y279, hy279⟩ : ∃ y_ : List (List Int), y_ = (([] : List (List Int))) := ⟨_, rfl⟩
      replace H : (arboristref08_Parts.l0 k l0 (l0.length : Int) y276 y279 0) = some r := by first | (rw [hy279]; with_reducible exact H) | (have H2_ := (Option.bind_some _ _).symm.trans H; rw [hy279]; with_reducible exact H2_) | (have H2_ := (Option.bind_some _ _).symm.trans H; with_reducible exact H2_) | with_reducible exact H | (rw [hy279]; exact H) | exact H
      have Ny279 := Aside0.mk hy279
      clear hy279
      have H' := Aside0.mk H
      clear H
      go_enter Tryd.func26, Tryd.ntmps26
      go_wp2_with (first | ((with_reducible refine gate_dst (N := 16) rfl ?_); refine Kd.R_make Kd.bool _ 4 rfl (N := 16) rfl 37 _ _ rfl (l0.length : Int) rfl rfl Tryd.underlying37 (.bool false) 1 info4 rfl (by decide) (by omega) false (ok := fun _ => True) (okp := fun _ => True) rfl (fun _ hk => hk) trivial (of_decide_eq_true (by first | (with_reducible assumption) | assumption)) (Nat.le_trans (Nat.mul_le_mul_right _ (of_decide_eq_true (by first | (with_reducible assumption) | assumption) : (l0.length : Int).toNat ≤ 281474976710656)) (by omega)) (Below.refl _ _) (Nat.le_refl _) ?_; intro v277 w4 ho5 hb hg_ hnew_; clear hg_ hnew_; (first | rw [← Ny276.out] at ho5 | (simp only [Int.reduceToNat] at ho5; rw [← Ny276.out] at ho5)); have n0_ := Aside0.mk (Kd.R_lower ho5 (below_size (by repeat (first | (with_reducible first | exact HB.out | apply below_alloc | apply pw_below_drewN | apply below_drew1) | exact HB.out)))); have n1_ := Aside0.mk (below_step (by repeat (first | (with_reducible first | exact HB.out | apply below_alloc | apply pw_below_drewN | apply below_drew1) | exact HB.out)) hb); clear HB; have HO278 := n0_; have HB := n1_; clear n0_ n1_; clear hb ho5) | ((with_reducible refine gate_dst (N := 17) rfl ?_); refine Kd.S_lit (Kd.slice 3 (Kd.int .i64)) _ 34 ?hg (N := 17) ?hd (xs := ([] : List (List Int))) (inner := []) (ok := fun _ => True) (okp := fun _ => True) ?hr ?hp (fun _ hk => hk) trivial (Below.refl _ _) (Nat.le_refl _) (by simp) ?_; (case hd => rfl); (case hg => rfl); (case hr => first | (go_simp; done) | (go_simp; rfl)); (case hp => exact (Reps.none _ _)); intro v280 w6 ho7 hb hg_ hnew_; clear hg_ hnew_; (first | rw [← Ny279.out] at ho7 | (simp only [Int.reduceToNat] at ho7; rw [← Ny279.out] at ho7)); have n0_ := Aside0.mk (Kd.R_below (by (with_reducible repeat (first | apply Kd.R_alloc | apply Kd.R_drewN | apply Kd.R_drew)); exact HO278.out) hb); have n1_ := Aside0.mk (Kd.S_lower ho7 (below_size (by repeat (first | (with_reducible first | exact HB.out | apply below_alloc | apply pw_below_drewN | apply below_drew1) | exact HB.out)))); have n2_ := Aside0.mk (below_step (by repeat (first | (with_reducible first | exact HB.out | apply below_alloc | apply pw_below_drewN | apply below_drew1) | exact HB.out)) hb); clear HO278; clear HB; have HO278 := n0_; have HO281 := n1_; have HB := n2_; clear n0_ n1_ n2_; clear hb ho7))
      go_loopg [5, 6] k (fun kq v5 v6 w' => ∃ (x4_1 : List Bool) (x5_1 : List (List Int)) (x6_1 : Int), v6 = .int .i64 x6_1 ∧ Aside0 (arboristref08_Parts.l0 kq l0 (l0.length : Int) x4_1 x5_1 x6_1 = some r) ∧ Aside0 (kq ≤ k) ∧ Aside0 (Kd.R Kd.bool 4 w' w.heap.size (fun _ => True) v277 x4_1) ∧ Aside0 (Kd.S (Kd.slice 3 (Kd.int .i64)) 34 w' w.heap.size (fun _ => True) v5 x5_1) ∧ Aside0 (Below w.heap.size w w'))
      case atStart => exact ⟨(y276), (y279), (0), (by first | rfl | (simp; done) | (simp [*]; done)), H', ⟨Nat.le_refl _⟩, ⟨by (with_reducible repeat (first | apply Kd.R_alloc | apply Kd.R_drewN | apply Kd.R_drew)); exact HO278.out⟩, ⟨by (with_reducible repeat (first | apply Kd.S_alloc | apply Kd.S_drewN | apply Kd.S_drew)); exact HO281.out⟩, ⟨by repeat (first | (with_reducible first | exact HB.out | apply below_alloc | apply pw_below_drewN | apply below_drew1) | exact HB.out)⟩⟩
      case round =>
        clear H'
        try clear c2
        try clear c2b0
        try clear c2b1
        try clear p2
        try clear c3
        try clear c3b0
        try clear c3b1
        obtain ⟨x4_1, x5_1, x6_1, rfl, HA, HK1, HO_4, HO_5, HB⟩ := hrel
        cases gk with
        | zero => exact absurd HA.out (by simp [arboristref08_Parts.l0])
        | succ k1 =>
          have H := HA.out
          clear HA
          simp only [arboristref08_Parts.l0] at H
          by_cases c8 : x6_1 < (l0.length : Int)
          · rw [if_pos c8] at H
            have c8b0 : decide (x6_1 < (l0.length : Int)) = true := decide_eq_true c8
            clear c8
            by_cases c9 : 0 ≤ x6_1
            · rw [if_pos c9] at H
              have c9b0 : decide (0 ≤ x6_1) = true := decide_eq_true c9
              clear c9
              by_cases c10 : x6_1 < (x4_1.length : Int)
              · rw [if_pos c10] at H
                have c10b0 : decide (x6_1 < (x4_1.length : Int)) = true := decide_eq_true c10
                clear c10
                obtain ⟨bq11, hbq11⟩ : ∃ b_ : Bool, b_ = (rdOf false x4_1 x6_1) := ⟨_, rfl⟩
                replace H : (if bq11 = true then (arboristref08_Parts.l0 k1 l0 (l0.length : Int) x4_1 x5_1 (wrap64 (x6_1 + 1))) else (if 0 ≤ (l0.length : Int) then (if ((l0.length : Int) : Int).toNat ≤ 281474976710656 then ((some (List.replicate ((l0.length : Int) : Int).toNat false : List Bool)).bind fun y283 => (if x6_1 < (y283.length : Int) then (arboristref08_Parts.l1 k1 l0 (l0.length : Int) x4_1 x5_1 x6_1 (y283.set (x6_1 : Int).toNat true) 0) else (none))) else (none)) else (none))) = some r := by rw [← hbq11] at H; exact H
                have Nbq11 := Aside0.mk hbq11
                clear hbq11
                by_cases c12 : bq11 = true
                · subst c12
                  have H1 : (arboristref08_Parts.l0 k1 l0 (l0.length : Int) x4_1 x5_1 (wrap64 (x6_1 + 1))) = some r := by rw [if_pos rfl] at H; exact H
                  clear H
                  have H := H1
                  clear H1
                  have H' := Aside0.mk H
                  clear H
                  obtain ⟨Ao13, co13, eo13⟩ := Kd.R_slice HO_4.out
                  subst eo13
                  have p282 : 0 ≤ (x6_1 : Int) := of_decide_eq_true (by first | (with_reducible assumption) | assumption)
                  have q282 : x6_1 < (x4_1.length : Int) := of_decide_eq_true (by first | (with_reducible assumption) | assumption)
                  obtain ⟨ad282, e282, hx282_0⟩ := Kd.at_bool (Kd.R_reads' HO_4.out).2.2 x6_1 p282 q282
                  (try rw [← Nbq11.out] at hx282_0)
                  cases e282
                  replace p282 := eq_true p282
                  replace q282 := eq_true q282
                  go_wp2
                  go_roundg k1
                  case measure => have := HK1.out; omega
                  case rel => exact ⟨(x4_1), (x5_1), (wrap64 (x6_1 + 1)), (by first | rfl | (simp; done) | (simp [*]; done)), H', ⟨by have := HK1.out; omega⟩, ⟨by (with_reducible repeat (first | apply Kd.R_alloc | apply Kd.R_drewN | apply Kd.R_drew)); exact HO_4.out⟩, ⟨by (with_reducible repeat (first | apply Kd.S_alloc | apply Kd.S_drewN | apply Kd.S_drew)); exact HO_5.out⟩, ⟨by repeat (first | (with_reducible first | exact HB.out | apply below_alloc | apply pw_below_drewN | apply below_drew1) | exact HB.out)⟩⟩
                · replace c12 := Bool.eq_false_iff.mpr c12
                  subst c12
                  have H1 : (if 0 ≤ (l0.length : Int) then (if ((l0.length : Int) : Int).toNat ≤ 281474976710656 then ((some (List.replicate ((l0.length : Int) : Int).toNat false : List Bool)).bind fun y283 => (if x6_1 < (y283.length : Int) then (arboristref08_Parts.l1 k1 l0 (l0.length : Int) x4_1 x5_1 x6_1 (y283.set (x6_1 : Int).toNat true) 0) else (none))) else (none)) else (none)) = some r := by rw [if_neg (show ¬ (false = true) by decide)] at H; exact H
                  clear H
                  have H := H1
                  clear H1
                  by_cases c14 : 0 ≤ (l0.length : Int)
                  · rw [if_pos c14] at H
                    have c14b0 := eq_true c14
                    have c14b1 : decide (0 ≤ (l0.length : Int)) = true := decide_eq_true c14
                    clear c14
                    by_cases c15 : ((l0.length : Int) : Int).toNat ≤ 281474976710656
                    · rw [if_pos c15] at H
                      have c15b0 := eq_true c15
                      have c15b1 : decide (((l0.length : Int) : Int).toNat ≤ 281474976710656) = true := decide_eq_true c15
                      clear c15
                      obtain ⟨y283, hy283⟩ : ∃ y_ : List Bool, y_ = (List.replicate ((l0.length : Int) : Int).toNat false) := ⟨_, rfl⟩
                      replace H : (if x6_1 < (y283.length : Int) then (arboristref08_Parts.l1 k1 l0 (l0.length : Int) x4_1 x5_1 x6_1 (y283.set (x6_1 : Int).toNat true) 0) else (none)) = some r := by first | (rw [hy283]; with_reducible exact H) | (have H2_ := (Option.bind_some _ _).symm.trans H; rw [hy283]; with_reducible exact H2_) | (have H2_ := (Option.bind_some _ _).symm.trans H; with_reducible exact H2_) | with_reducible exact H | (rw [hy283]; exact H) | exact H
                      have Ny283 := Aside0.mk hy283
                      clear hy283
                      by_cases c16 : x6_1 < (y283.length : Int)
                      · rw [if_pos c16] at H
                        have c16b0 : decide (x6_1 < (y283.length : Int)) = true := decide_eq_true c16
                        clear c16
                        obtain ⟨y286, hy286⟩ : ∃ y_ : List Bool, y_ = (y283.set (x6_1 : Int).toNat true) := ⟨_, rfl⟩
                        replace H : (arboristref08_Parts.l1 k1 l0 (l0.length : Int) x4_1 x5_1 x6_1 y286 0) = some r := by first | (rw [hy286]; with_reducible exact H) | (have H2_ := (Option.bind_some _ _).symm.trans H; rw [hy286]; with_reducible exact H2_) | (have H2_ := (Option.bind_some _ _).symm.trans H; with_reducible exact H2_) | with_reducible exact H | (rw [hy286]; exact H) | exact H
                        have Ny286 := Aside0.mk hy286
                        clear hy286
                        have H' := Aside0.mk H
                        clear H
                        obtain ⟨Ao18, co18, eo18⟩ := Kd.R_slice HO_4.out
                        subst eo18
                        have p282 : 0 ≤ (x6_1 : Int) := of_decide_eq_true (by first | (with_reducible assumption) | assumption)
                        have q282 : x6_1 < (x4_1.length : Int) := of_decide_eq_true (by first | (with_reducible assumption) | assumption)
                        obtain ⟨go53, co53, eo53, gb53, gl53, cl53, HG53⟩ := Kd.R_form HO_4.out (by omega)
                        (first | cases eo53 | (injection eo53 with ea_ en_ ec_; (first | subst ea_ | (injection ea_ with ea_; subst ea_)); subst ec_; clear en_))
                        clear gb53 gl53 cl53 HG53
                        obtain ⟨ad282, e282, hx282_0⟩ := Kd.at_bool (Kd.R_reads' HO_4.out).2.2 x6_1 p282 q282
                        (try rw [← Nbq11.out] at hx282_0)
                        cases e282
                        (first | simp only [add_plain] at hx282_0 | skip)
                        replace p282 := eq_true p282
                        replace q282 := eq_true q282
                        go_wp2_with (first | ((with_reducible refine gate_dst (N := 28) rfl ?_); refine Kd.R_make Kd.bool _ 4 rfl (N := 28) rfl 37 _ _ rfl (l0.length : Int) rfl rfl Tryd.underlying37 (.bool false) 1 info4 rfl (by decide) (by omega) false (ok := fun _ => True) (okp := fun _ => True) rfl (fun _ hk => hk) trivial (of_decide_eq_true (by first | (with_reducible assumption) | assumption)) (Nat.le_trans (Nat.mul_le_mul_right _ (of_decide_eq_true (by first | (with_reducible assumption) | assumption) : (l0.length : Int).toNat ≤ 281474976710656)) (by omega)) (Below.refl _ _) (Nat.le_refl _) ?_; intro v284 w19 ho20 hb hg_ hnew_; clear hg_ hnew_; (first | rw [← Ny283.out] at ho20 | (simp only [Int.reduceToNat] at ho20; rw [← Ny283.out] at ho20)); have n0_ := Aside0.mk (Kd.R_elder' (by (with_reducible repeat (first | apply Kd.R_alloc | apply Kd.R_drewN | apply Kd.R_drew)); exact HO_4.out) (Kd.R_base ho20) hb); have n1_ := Aside0.mk (Kd.S_below (by (with_reducible repeat (first | apply Kd.S_alloc | apply Kd.S_drewN | apply Kd.S_drew)); exact HO_5.out) hb); have n2_ := Aside0.mk (Kd.R_lower (Kd.R_new' ho20 (Kd.R_lt (by (with_reducible repeat (first | apply Kd.R_alloc | apply Kd.R_drewN | apply Kd.R_drew)); exact HO_4.out))) (below_size (by repeat (first | (with_reducible first | exact HB.out | apply below_alloc | apply pw_below_drewN | apply below_drew1) | exact HB.out)))); have n3_ := Aside0.mk (below_step (by repeat (first | (with_reducible first | exact HB.out | apply below_alloc | apply pw_below_drewN | apply below_drew1) | exact HB.out)) hb); clear HO_4; clear HO_5; clear HB; have HO_4 := n0_; have HO_5 := n1_; have HO285 := n2_; have HB := n3_; clear n0_ n1_ n2_ n3_; clear hb ho20; have p17 : 0 ≤ (x6_1 : Int) := of_decide_eq_true (by first | (with_reducible assumption) | assumption); have q17 : (x6_1 : Int) < ((y283.length : Int) : Int) := of_decide_eq_true (by first | (with_reducible assumption) | assumption); obtain ⟨go17, co17, eo17, gb17, gl17, cl17, HG17⟩ := Kd.R_form HO285.out (by omega); (first | cases eo17 | (injection eo17 with ea_ en_ ec_; (first | subst ea_ | (injection ea_ with ea_; subst ea_)); subst ec_; clear en_)); have GB17 := Aside0.mk gb17; have GG17 := Aside0.mk HG17; clear gb17 gl17 HG17; obtain ⟨hx17_0, hf17_0⟩ := Kd.R_celln false HO285.out (x6_1 : Int) p17 q17; replace p17 := eq_true p17; replace q17 := eq_true q17; have n_ := Aside0.mk (Kd.R_mono (ok' := (fun k_ => some k_ ≠ (.slice (some ⟨go53, 0, none⟩) x4_1.length co18 : Value).ownBlock)) HO285.out (fun k_ hk => hk.2)); clear HO285; have HO285 := n_; clear n_; obtain ⟨hy21_, hz21_⟩ := Kd.R_celln false HO285.out (x6_1 : Int) (of_decide_eq_true (by first | (with_reducible assumption) | assumption)) (of_decide_eq_true (by first | (with_reducible assumption) | assumption)); have HP21 := Kd.R_putg HO285.out (x6_1 : Int) true) | ((with_reducible refine gate_store (t := 4) (p := 31) rfl ?_); refine store_event (t := 4) (p := 31) (v := ?vo_w22) (w1 := (w19.setCell ⟨go17, (x6_1 : Int).toNat, none⟩ (.bool true))) ?hg ?ho ?hn ?hr ?_; (case ho => rfl); (case hg => rfl); (case hn => rfl); (case hr => first | (go_simp; done) | (go_simp; rfl)); intro w22 hw; have hg : w19.grownBy w22 (some go17) := (by rw [hw]; exact HP21.2); have hp_ : Kd.R Kd.bool 4 w22 w.heap.size (fun k_ => some k_ ≠ (.slice (some ⟨go53, 0, none⟩) x4_1.length co18 : Value).ownBlock) (.slice (some ⟨go17, 0, none⟩) y283.length co17) y286 := (by rw [hw, Ny286.out]; exact HP21.1); clear HP21; have n0_ := Aside0.mk (Kd.R_after (v := (.slice (some ⟨go17, 0, none⟩) y283.length co17)) (v1 := (.slice (some ⟨go17, 0, none⟩) y283.length co17)) (ok := (fun _ => True)) (by (with_reducible repeat (first | apply Kd.R_alloc | apply Kd.R_drewN | apply Kd.R_drew)); exact HO_4.out) hg (.inl rfl)); have n1_ := Aside0.mk (Kd.S_over' (v := (.slice (some ⟨go17, 0, none⟩) y283.length co17)) (by (with_reducible repeat (first | apply Kd.S_alloc | apply Kd.S_drewN | apply Kd.S_drew)); exact HO_5.out) (Kd.R_typed HO285.out) (by decide) hg); have n2_ := Aside0.mk (hp_); have n3_ := Aside0.mk ((by rw [hw]; exact below_set (HB.out) GB17.out : Below w.heap.size w w22)); clear HO_4; clear HO_5; clear HO285; clear HB; have HO_4 := n0_; have HO_5 := n1_; have HO285 := n2_; have HB := n3_; clear n0_ n1_ n2_ n3_; clear hg hw hp_))
                        go_loopg [8] k1 (fun kq v8 w' => ∃ (x7_2 : List Bool) (x8_2 : Int), v8 = .int .i64 x8_2 ∧ Aside0 (arboristref08_Parts.l1 kq l0 (l0.length : Int) x4_1 x5_1 x6_1 x7_2 x8_2 = some r) ∧ Aside0 (kq ≤ k1) ∧ Aside0 (Kd.R Kd.bool 4 w' w.heap.size (fun k_ => some k_ ≠ ((.slice (some ⟨go17, 0, none⟩) y283.length co17) : Value).ownBlock) (.slice (some ⟨go53, 0, none⟩) x4_1.length co18) x4_1) ∧ Aside0 (Kd.S (Kd.slice 3 (Kd.int .i64)) 34 w' w.heap.size (fun _ => True) u5 x5_1) ∧ Aside0 (Kd.R Kd.bool 4 w' w.heap.size (fun k_ => some k_ ≠ ((.slice (some ⟨go53, 0, none⟩) x4_1.length co18) : Value).ownBlock) (.slice (some ⟨go17, 0, none⟩) y283.length co17) x7_2) ∧ Aside0 (Below w.heap.size w w'))
                        case atStart => exact ⟨(y286), (0), (by first | rfl | (simp; done) | (simp [*]; done)), H', ⟨Nat.le_refl _⟩, ⟨by (with_reducible repeat (first | apply Kd.R_alloc | apply Kd.R_drewN | apply Kd.R_drew)); exact Kd.R_mono HO_4.out (fun _ hk => hk.2)⟩, ⟨by (with_reducible repeat (first | apply Kd.S_alloc | apply Kd.S_drewN | apply Kd.S_drew)); exact HO_5.out⟩, ⟨by (with_reducible repeat (first | apply Kd.R_alloc | apply Kd.R_drewN | apply Kd.R_drew)); exact HO285.out⟩, ⟨by repeat (first | (with_reducible first | exact HB.out | apply below_alloc | apply pw_below_drewN | apply below_drew1) | exact HB.out)⟩⟩
                        case round =>
                          clear H'
                          try clear c1
                          try clear p1
                          try clear q1
                          try clear hx1
                          try clear hf1
                          try clear c2
                          try clear c2b0
                          try clear c2b1
                          try clear p2
                          try clear q2
                          try clear hx2
                          try clear c3
                          try clear c3b0
                          try clear c3b1
                          try clear p6
                          try clear c8
                          try clear c8b0
                          try clear c9
                          try clear c9b0
                          try clear c10
                          try clear c10b0
                          try clear q11
                          try clear c12
                          try clear c14
                          try clear c14b0
                          try clear c14b1
                          try clear c15
                          try clear c15b0
                          try clear c15b1
                          try clear c16
                          try clear c16b0
                          try clear p17
                          try clear q17
                          try clear hx17
                          try clear hf17
                          try clear hx17_0
                          try clear hx282_0
                          try clear p17
                          try clear p2
                          try clear p282
                          try clear q17
                          try clear q282
                          obtain ⟨x7_2, x8_2, rfl, HA, HK2, HO_4, HO_5, HO_7, HB⟩ := hrel
                          have hl7_2 := (Kd.R_reads' HO_7.out).1
                          rw [hl7_2] at HO_7
                          (try simp only [hl7_2])
                          (try simp only [hl7_2] at HO_4)
                          (try simp only [hl7_2] at HO_5)
                          cases gk with
                          | zero => exact absurd HA.out (by simp [arboristref08_Parts.l1])
                          | succ k2 =>
                            have H := HA.out
                            clear HA
                            simp only [arboristref08_Parts.l1] at H
                            by_cases c23 : x8_2 < (l0.length : Int)
                            · rw [if_pos c23] at H
                              have c23b0 : decide (x8_2 < (l0.length : Int)) = true := decide_eq_true c23
                              clear c23
                              have H' := Aside0.mk H
                              clear H
                              go_wp2
                              go_loopg [9] k2 (fun kq v9 w' => ∃ (x7_3 : List Bool) (x9_3 : Int), v9 = .int .i64 x9_3 ∧ Aside0 (arboristref08_Parts.l2 kq l0 (l0.length : Int) x4_1 x5_1 x6_1 x7_3 x8_2 x9_3 = some r) ∧ Aside0 (kq ≤ k2) ∧ Aside0 (Kd.R Kd.bool 4 w' w.heap.size (fun k_ => some k_ ≠ ((.slice (some ⟨go17, 0, none⟩) x7_2.length co17) : Value).ownBlock) (.slice (some ⟨go53, 0, none⟩) x4_1.length co18) x4_1) ∧ Aside0 (Kd.S (Kd.slice 3 (Kd.int .i64)) 34 w' w.heap.size (fun _ => True) u5 x5_1) ∧ Aside0 (Kd.R Kd.bool 4 w' w.heap.size (fun k_ => some k_ ≠ ((.slice (some ⟨go53, 0, none⟩) x4_1.length co18) : Value).ownBlock) (.slice (some ⟨go17, 0, none⟩) x7_2.length co17) x7_3) ∧ Aside0 (Below w.heap.size w w'))
                              case atStart => exact ⟨(x7_2), (0), (by first | rfl | (simp; done) | (simp [*]; done)), H', ⟨Nat.le_refl _⟩, ⟨by (try simp only [hl7_2]); (with_reducible repeat (first | apply Kd.R_alloc | apply Kd.R_drewN | apply Kd.R_drew)); exact HO_4.out⟩, ⟨by (try simp only [hl7_2]); (with_reducible repeat (first | apply Kd.S_alloc | apply Kd.S_drewN | apply Kd.S_drew)); exact HO_5.out⟩, ⟨by (try simp only [hl7_2]); (with_reducible repeat (first | apply Kd.R_alloc | apply Kd.R_drewN | apply Kd.R_drew)); exact HO_7.out⟩, ⟨by repeat (first | (with_reducible first | exact HB.out | apply below_alloc | apply pw_below_drewN | apply below_drew1) | exact HB.out)⟩⟩
                              case round =>
                                clear H'
                                try clear c1
                                try clear p1
                                try clear q1
                                try clear hx1
                                try clear hf1
                                try clear c2
                                try clear c2b0
                                try clear c2b1
                                try clear p2
                                try clear q2
                                try clear hx2
                                try clear c3
                                try clear c3b0
                                try clear c3b1
                                try clear p6
                                try clear c8
                                try clear c8b0
                                try clear c9
                                try clear c9b0
                                try clear c10
                                try clear c10b0
                                try clear q11
                                try clear c12
                                try clear c14
                                try clear c14b0
                                try clear c14b1
                                try clear c15
                                try clear c15b0
                                try clear c15b1
                                try clear c16
                                try clear c16b0
                                try clear p17
                                try clear q17
                                try clear hx17
                                try clear hf17
                                try clear c23
                                try clear c23b0
                                try clear hx17_0
                                try clear hx282_0
                                try clear p1
                                try clear p17
                                try clear p2
                                try clear p282
                                try clear p6
                                try clear q1
                                try clear q11
                                try clear q17
                                try clear q2
                                try clear q282
                                obtain ⟨x7_3, x9_3, rfl, HA, HK3, HO_4, HO_5, HO_7, HB⟩ := hrel
                                have hl7_3 := (Kd.R_reads' HO_7.out).1
                                rw [hl7_3] at HO_7
                                (try simp only [hl7_3])
                                (try simp only [hl7_3] at HO_4)
                                (try simp only [hl7_3] at HO_5)
                                cases gk with
                                | zero => exact absurd HA.out (by simp [arboristref08_Parts.l2])
                                | succ k3 =>
                                  have H := HA.out
                                  clear HA
                                  simp only [arboristref08_Parts.l2] at H
                                  by_cases c24 : x9_3 < (l0.length : Int)
                                  · rw [if_pos c24] at H
                                    have c24b0 : decide (x9_3 < (l0.length : Int)) = true := decide_eq_true c24
                                    clear c24
                                    have H' := Aside0.mk H
                                    clear H
                                    go_wp2
                                    go_loopg [10] k3 (fun kq v10 w' => ∃ (x7_4 : List Bool) (x10_4 : Int), v10 = .int .i64 x10_4 ∧ Aside0 (arboristref08_Parts.l3 kq l0 (l0.length : Int) x4_1 x5_1 x6_1 x7_4 x8_2 x9_3 x10_4 = some r) ∧ Aside0 (kq ≤ k3) ∧ Aside0 (Kd.R Kd.bool 4 w' w.heap.size (fun k_ => some k_ ≠ ((.slice (some ⟨go17, 0, none⟩) x7_3.length co17) : Value).ownBlock) (.slice (some ⟨go53, 0, none⟩) x4_1.length co18) x4_1) ∧ Aside0 (Kd.S (Kd.slice 3 (Kd.int .i64)) 34 w' w.heap.size (fun _ => True) u5 x5_1) ∧ Aside0 (Kd.R Kd.bool 4 w' w.heap.size (fun k_ => some k_ ≠ ((.slice (some ⟨go53, 0, none⟩) x4_1.length co18) : Value).ownBlock) (.slice (some ⟨go17, 0, none⟩) x7_3.length co17) x7_4) ∧ Aside0 (Below w.heap.size w w'))
                                    case atStart => exact ⟨(x7_3), (0), (by first | rfl | (simp; done) | (simp [*]; done)), H', ⟨Nat.le_refl _⟩, ⟨by (try simp only [hl7_2]); (try simp only [hl7_3]); (with_reducible repeat (first | apply Kd.R_alloc | apply Kd.R_drewN | apply Kd.R_drew)); exact HO_4.out⟩, ⟨by (try simp only [hl7_2]); (try simp only [hl7_3]); (with_reducible repeat (first | apply Kd.S_alloc | apply Kd.S_drewN | apply Kd.S_drew)); exact HO_5.out⟩, ⟨by (try simp only [hl7_2]); (try simp only [hl7_3]); (with_reducible repeat (first | apply Kd.R_alloc | apply Kd.R_drewN | apply Kd.R_drew)); exact HO_7.out⟩, ⟨by repeat (first | (with_reducible first | exact HB.out | apply below_alloc | apply pw_below_drewN | apply below_drew1) | exact HB.out)⟩⟩
                                    case round =>
                                      clear H'
                                      try clear c1
                                      try clear p1
                                      try clear q1
                                      try clear hx1
                                      try clear hf1
                                      try clear c2
                                      try clear c2b0
                                      try clear c2b1
                                      try clear p2
                                      try clear q2
                                      try clear hx2
                                      try clear c3
                                      try clear c3b0
                                      try clear c3b1
                                      try clear p6
                                      try clear c8
                                      try clear c8b0
                                      try clear c9
                                      try clear c9b0
                                      try clear c10
                                      try clear c10b0
                                      try clear q11
                                      try clear c12
                                      try clear c14
                                      try clear c14b0
                                      try clear c14b1
                                      try clear c15
                                      try clear c15b0
                                      try clear c15b1
                                      try clear c16
                                      try clear c16b0
                                      try clear p17
                                      try clear q17
                                      try clear hx17
                                      try clear hf17
                                      try clear c23
                                      try clear c23b0
                                      try clear c24
                                      try clear c24b0
                                      try clear hx17_0
                                      try clear hx282_0
                                      try clear p1
                                      try clear p17
                                      try clear p2
                                      try clear p282
                                      try clear p6
                                      try clear q1
                                      try clear q11
                                      try clear q17
                                      try clear q2
                                      try clear q282
                                      obtain ⟨x7_4, x10_4, rfl, HA, HK4, HO_4, HO_5, HO_7, HB⟩ := hrel
                                      have hl7_4 := (Kd.R_reads' HO_7.out).1
                                      rw [hl7_4] at HO_7
                                      (try simp only [hl7_4])
                                      (try simp only [hl7_4] at HO_4)
                                      (try simp only [hl7_4] at HO_5)
                                      cases gk with
                                      | zero => exact absurd HA.out (by simp [arboristref08_Parts.l3])
                                      | succ k4 =>
                                        have H := HA.out
                                        clear HA
                                        simp only [arboristref08_Parts.l3] at H
                                        by_cases c25 : x10_4 < (l0.length : Int)
                                        · rw [if_pos c25] at H
                                          have c25b0 : decide (x10_4 < (l0.length : Int)) = true := decide_eq_true c25
                                          clear c25
                                          by_cases c26 : 0 ≤ x10_4
                                          · rw [if_pos c26] at H
                                            have c26b0 : decide (0 ≤ x10_4) = true := decide_eq_true c26
                                            clear c26
                                            by_cases c27 : x10_4 < (x7_4.length : Int)
                                            · rw [if_pos c27] at H
                                              have c27b0 : decide (x10_4 < (x7_4.length : Int)) = true := decide_eq_true c27
                                              clear c27
                                              obtain ⟨bq28, hbq28⟩ : ∃ b_ : Bool, b_ = (rdOf false x7_4 x10_4) := ⟨_, rfl⟩
                                              replace H : (if bq28 = true then (arboristref08_Parts.l3 k4 l0 (l0.length : Int) x4_1 x5_1 x6_1 (x7_4.set (x10_4 : Int).toNat true) x8_2 x9_3 (wrap64 (x10_4 + 1))) else (if 0 ≤ x9_3 then (if x9_3 < (x7_4.length : Int) then (if rdOf false x7_4 x9_3 = true then (if x9_3 < (l0.length : Int) then (if x10_4 < ((rd_L5 l0 x9_3).length : Int) then (arboristref08_Parts.l3 k4 l0 (l0.length : Int) x4_1 x5_1 x6_1 (x7_4.set (x10_4 : Int).toNat (rdOf false (rd_L5 l0 x9_3) x10_4)) x8_2 x9_3 (wrap64 (x10_4 + 1))) else (none)) else (none)) else (arboristref08_Parts.l3 k4 l0 (l0.length : Int) x4_1 x5_1 x6_1 (x7_4.set (x10_4 : Int).toNat false) x8_2 x9_3 (wrap64 (x10_4 + 1)))) else (none)) else (none))) = some r := by rw [← hbq28] at H; exact H
                                              have Nbq28 := Aside0.mk hbq28
                                              clear hbq28
                                              by_cases c29 : bq28 = true
                                              · subst c29
                                                have H1 : (arboristref08_Parts.l3 k4 l0 (l0.length : Int) x4_1 x5_1 x6_1 (x7_4.set (x10_4 : Int).toNat true) x8_2 x9_3 (wrap64 (x10_4 + 1))) = some r := by rw [if_pos rfl] at H; exact H
                                                clear H
                                                have H := H1
                                                clear H1
                                                obtain ⟨y288, hy288⟩ : ∃ y_ : List Bool, y_ = (x7_4.set (x10_4 : Int).toNat true) := ⟨_, rfl⟩
                                                replace H : (arboristref08_Parts.l3 k4 l0 (l0.length : Int) x4_1 x5_1 x6_1 y288 x8_2 x9_3 (wrap64 (x10_4 + 1))) = some r := by first | (rw [hy288]; with_reducible exact H) | (have H2_ := (Option.bind_some _ _).symm.trans H; rw [hy288]; with_reducible exact H2_) | (have H2_ := (Option.bind_some _ _).symm.trans H; with_reducible exact H2_) | with_reducible exact H | (rw [hy288]; exact H) | exact H
                                                have Ny288 := Aside0.mk hy288
                                                clear hy288
                                                have H' := Aside0.mk H
                                                clear H
                                                have p287 : 0 ≤ (x10_4 : Int) := of_decide_eq_true (by first | (with_reducible assumption) | assumption)
                                                have q287 : x10_4 < (x7_4.length : Int) := of_decide_eq_true (by first | (with_reducible assumption) | assumption)
                                                obtain ⟨ad287, e287, hx287_0⟩ := Kd.at_bool (Kd.R_reads' HO_7.out).2.2 x10_4 p287 q287
                                                (try rw [← Nbq11.out] at hx287_0)
                                                (try rw [← Nbq28.out] at hx287_0)
                                                obtain rfl : (⟨go17, 0, none⟩ : Addr) = ad287 := (by injection e287)
                                                (first | simp only [add_plain] at hx287_0 | simp only [add_at] at hx287_0 | simp only [Addr.add, Nat.zero_add] at hx287_0 | skip)
                                                replace p287 := eq_true p287
                                                replace q287 := eq_true q287
                                                have p30 : 0 ≤ (x10_4 : Int) := of_decide_eq_true (by first | (with_reducible assumption) | assumption)
                                                have q30 : (x10_4 : Int) < ((x7_4.length : Int) : Int) := of_decide_eq_true (by first | (with_reducible assumption) | assumption)
                                                obtain ⟨hx30_0, hf30_0⟩ := Kd.R_celln false HO_7.out (x10_4 : Int) p30 q30
                                                replace p30 := eq_true p30
                                                replace q30 := eq_true q30
                                                have HP31 := Kd.R_putg HO_7.out (x10_4 : Int) true
                                                go_wp2_with (first | ((with_reducible refine gate_store (t := 4) (p := 68) rfl ?_); refine store_event (t := 4) (p := 68) (v := ?vo_w32) (w1 := (wr.setCell ⟨go17, (x10_4 : Int).toNat, none⟩ (.bool true))) ?hg ?ho ?hn ?hr ?_; (case ho => rfl); (case hg => rfl); (case hn => rfl); (case hr => first | (go_simp; done) | (go_simp; rfl)); intro w32 hw; have hg : wr.grownBy w32 (some go17) := (by rw [hw]; exact HP31.2); have hp_ : Kd.R Kd.bool 4 w32 w.heap.size (fun k_ => some k_ ≠ (.slice (some ⟨go53, 0, none⟩) x4_1.length co18 : Value).ownBlock) (.slice (some ⟨go17, 0, none⟩) x7_4.length co17) y288 := (by rw [hw, Ny288.out]; exact HP31.1); clear HP31; have n0_ := Aside0.mk (Kd.R_after (v := (.slice (some ⟨go17, 0, none⟩) x7_4.length co17)) (v1 := (.slice (some ⟨go17, 0, none⟩) x7_4.length co17)) (ok := (fun _ => True)) (by (with_reducible repeat (first | apply Kd.R_alloc | apply Kd.R_drewN | apply Kd.R_drew)); exact Kd.R_mono HO_4.out (fun _ hk => ⟨trivial, hk⟩)) hg (.inl rfl)); have n1_ := Aside0.mk (Kd.S_over' (v := (.slice (some ⟨go17, 0, none⟩) x7_4.length co17)) (by (with_reducible repeat (first | apply Kd.S_alloc | apply Kd.S_drewN | apply Kd.S_drew)); exact HO_5.out) (Kd.R_typed HO_7.out) (by decide) hg); have n2_ := Aside0.mk (hp_); have n3_ := Aside0.mk ((by rw [hw]; exact below_set (HB.out) GB17.out : Below w.heap.size w w32)); clear HO_4; clear HO_5; clear HO_7; clear HB; have HO_4 := n0_; have HO_5 := n1_; have HO_7 := n2_; have HB := n3_; clear n0_ n1_ n2_ n3_; clear hg hw hp_))
                                                (try simp only [← hl7_4])
                                                go_roundg k4
                                                case measure => have := HK1.out; have := HK2.out; have := HK3.out; have := HK4.out; omega
                                                case rel => exact ⟨(y288), (wrap64 (x10_4 + 1)), (by first | rfl | (simp; done) | (simp [*]; done)), H', ⟨by have := HK1.out; have := HK2.out; have := HK3.out; have := HK4.out; omega⟩, ⟨by (try simp only [hl7_2]); (try simp only [hl7_3]); (try simp only [hl7_4]); (with_reducible repeat (first | apply Kd.R_alloc | apply Kd.R_drewN | apply Kd.R_drew)); exact Kd.R_mono HO_4.out (fun _ hk => hk.2)⟩, ⟨by (try simp only [hl7_2]); (try simp only [hl7_3]); (try simp only [hl7_4]); (with_reducible repeat (first | apply Kd.S_alloc | apply Kd.S_drewN | apply Kd.S_drew)); exact HO_5.out⟩, ⟨by (try simp only [hl7_2]); (try simp only [hl7_3]); (try simp only [hl7_4]); (with_reducible repeat (first | apply Kd.R_alloc | apply Kd.R_drewN | apply Kd.R_drew)); exact HO_7.out⟩, ⟨by repeat (first | (with_reducible first | exact HB.out | apply below_alloc | apply pw_below_drewN | apply below_drew1) | exact HB.out)⟩⟩
                                              · replace c29 := Bool.eq_false_iff.mpr c29
                                                subst c29
                                                have H1 : (if 0 ≤ x9_3 then (if x9_3 < (x7_4.length : Int) then (if rdOf false x7_4 x9_3 = true then (if x9_3 < (l0.length : Int) then (if x10_4 < ((rd_L5 l0 x9_3).length : Int) then (arboristref08_Parts.l3 k4 l0 (l0.length : Int) x4_1 x5_1 x6_1 (x7_4.set (x10_4 : Int).toNat (rdOf false (rd_L5 l0 x9_3) x10_4)) x8_2 x9_3 (wrap64 (x10_4 + 1))) else (none)) else (none)) else (arboristref08_Parts.l3 k4 l0 (l0.length : Int) x4_1 x5_1 x6_1 (x7_4.set (x10_4 : Int).toNat false) x8_2 x9_3 (wrap64 (x10_4 + 1)))) else (none)) else (none)) = some r := by rw [if_neg (show ¬ (false = true) by decide)] at H; exact H
                                                clear H
                                                have H := H1
                                                clear H1
                                                by_cases c33 : 0 ≤ x9_3
                                                · rw [if_pos c33] at H
                                                  have c33b0 : decide (0 ≤ x9_3) = true := decide_eq_true c33
                                                  clear c33
                                                  by_cases c34 : x9_3 < (x7_4.length : Int)
                                                  · rw [if_pos c34] at H
                                                    have c34b0 : decide (x9_3 < (x7_4.length : Int)) = true := decide_eq_true c34
                                                    clear c34
                                                    obtain ⟨bq35, hbq35⟩ : ∃ b_ : Bool, b_ = (rdOf false x7_4 x9_3) := ⟨_, rfl⟩
                                                    replace H : (if bq35 = true then (if x9_3 < (l0.length : Int) then (if x10_4 < ((rd_L5 l0 x9_3).length : Int) then (arboristref08_Parts.l3 k4 l0 (l0.length : Int) x4_1 x5_1 x6_1 (x7_4.set (x10_4 : Int).toNat (rdOf false (rd_L5 l0 x9_3) x10_4)) x8_2 x9_3 (wrap64 (x10_4 + 1))) else (none)) else (none)) else (arboristref08_Parts.l3 k4 l0 (l0.length : Int) x4_1 x5_1 x6_1 (x7_4.set (x10_4 : Int).toNat false) x8_2 x9_3 (wrap64 (x10_4 + 1)))) = some r := by rw [← hbq35] at H; exact H
                                                    have Nbq35 := Aside0.mk hbq35
                                                    clear hbq35
                                                    by_cases c36 : bq35 = true
                                                    · subst c36
                                                      have H1 : (if x9_3 < (l0.length : Int) then (if x10_4 < ((rd_L5 l0 x9_3).length : Int) then (arboristref08_Parts.l3 k4 l0 (l0.length : Int) x4_1 x5_1 x6_1 (x7_4.set (x10_4 : Int).toNat (rdOf false (rd_L5 l0 x9_3) x10_4)) x8_2 x9_3 (wrap64 (x10_4 + 1))) else (none)) else (none)) = some r := by rw [if_pos rfl] at H; exact H
                                                      clear H
                                                      have H := H1
                                                      clear H1
                                                      by_cases c37 : x9_3 < (l0.length : Int)
                                                      · rw [if_pos c37] at H
                                                        have c37b0 : decide (x9_3 < (l0.length : Int)) = true := decide_eq_true c37
                                                        clear c37
                                                        by_cases c38 : x10_4 < ((rd_L5 l0 x9_3).length : Int)
                                                        · rw [if_pos c38] at H
                                                          have c38b0 : decide (x10_4 < ((rd_L5 l0 x9_3).length : Int)) = true := decide_eq_true c38
                                                          clear c38
                                                          obtain ⟨y292, hy292⟩ : ∃ y_ : List Bool, y_ = (x7_4.set (x10_4 : Int).toNat (rdOf false (rd_L5 l0 x9_3) x10_4)) := ⟨_, rfl⟩
                                                          replace H : (arboristref08_Parts.l3 k4 l0 (l0.length : Int) x4_1 x5_1 x6_1 y292 x8_2 x9_3 (wrap64 (x10_4 + 1))) = some r := by first | (rw [hy292]; with_reducible exact H) | (have H2_ := (Option.bind_some _ _).symm.trans H; rw [hy292]; with_reducible exact H2_) | (have H2_ := (Option.bind_some _ _).symm.trans H; with_reducible exact H2_) | with_reducible exact H | (rw [hy292]; exact H) | exact H
                                                          have Ny292 := Aside0.mk hy292
                                                          clear hy292
                                                          have H' := Aside0.mk H
                                                          clear H
                                                          have p287 : 0 ≤ (x10_4 : Int) := of_decide_eq_true (by first | (with_reducible assumption) | assumption)
                                                          have q287 : x10_4 < (x7_4.length : Int) := of_decide_eq_true (by first | (with_reducible assumption) | assumption)
                                                          obtain ⟨ad287, e287, hx287_0⟩ := Kd.at_bool (Kd.R_reads' HO_7.out).2.2 x10_4 p287 q287
                                                          (try rw [← Nbq11.out] at hx287_0)
                                                          (try rw [← Nbq28.out] at hx287_0)
                                                          (try rw [← Nbq35.out] at hx287_0)
                                                          obtain rfl : (⟨go17, 0, none⟩ : Addr) = ad287 := (by injection e287)
                                                          (first | simp only [add_plain] at hx287_0 | simp only [add_at] at hx287_0 | simp only [Addr.add, Nat.zero_add] at hx287_0 | skip)
                                                          replace p287 := eq_true p287
                                                          replace q287 := eq_true q287
                                                          have p289 : 0 ≤ (x9_3 : Int) := of_decide_eq_true (by first | (with_reducible assumption) | assumption)
                                                          have q289 : x9_3 < (x7_4.length : Int) := of_decide_eq_true (by first | (with_reducible assumption) | assumption)
                                                          obtain ⟨ad289, e289, hx289_0⟩ := Kd.at_bool (Kd.R_reads' HO_7.out).2.2 x9_3 p289 q289
                                                          (try rw [← Nbq11.out] at hx289_0)
                                                          (try rw [← Nbq28.out] at hx289_0)
                                                          (try rw [← Nbq35.out] at hx289_0)
                                                          obtain rfl : (⟨go17, 0, none⟩ : Addr) = ad289 := (by injection e289)
                                                          (first | simp only [add_plain] at hx289_0 | simp only [add_at] at hx289_0 | simp only [Addr.add, Nat.zero_add] at hx289_0 | skip)
                                                          replace p289 := eq_true p289
                                                          replace q289 := eq_true q289
                                                          have p290 : 0 ≤ (x9_3 : Int) := of_decide_eq_true (by first | (with_reducible assumption) | assumption)
                                                          have q290 : x9_3 < (l0.length : Int) := of_decide_eq_true (by first | (with_reducible assumption) | assumption)
                                                          obtain ⟨ad290, A290_0, c290_0, e290, hx290_0, hl290_0, hi290_0⟩ := at_L5 HR0.out x9_3 p290 q290
                                                          cases e290
                                                          replace hx290_0 := (HB.out.cell (World.block_lt_of_cell? w _ hx290_0)).trans hx290_0
                                                          have HR290_0 := Aside0.mk hi290_0
                                                          have HC290_0 := Aside0.mk hl290_0
                                                          clear hi290_0 hl290_0
                                                          replace p290 := eq_true p290
                                                          replace q290 := eq_true q290
                                                          have p291 : 0 ≤ (x10_4 : Int) := of_decide_eq_true (by first | (with_reducible assumption) | assumption)
                                                          have q291 : x10_4 < ((rd_L5 l0 x9_3).length : Int) := of_decide_eq_true (by first | (with_reducible assumption) | assumption)
                                                          obtain ⟨ad291, e291, hx291_0⟩ := Kd.at_bool HR290_0.out x10_4 p291 q291
                                                          (try rw [← Nbq11.out] at hx291_0)
                                                          (try rw [← Nbq28.out] at hx291_0)
                                                          (try rw [← Nbq35.out] at hx291_0)
                                                          cases e291
                                                          replace hx291_0 := (HB.out.cell (World.block_lt_of_cell? w _ hx291_0)).trans hx291_0
                                                          replace p291 := eq_true p291
                                                          replace q291 := eq_true q291
                                                          have p39 : 0 ≤ (x10_4 : Int) := of_decide_eq_true (by first | (with_reducible assumption) | assumption)
                                                          have q39 : (x10_4 : Int) < ((x7_4.length : Int) : Int) := of_decide_eq_true (by first | (with_reducible assumption) | assumption)
                                                          obtain ⟨hx39_0, hf39_0⟩ := Kd.R_celln false HO_7.out (x10_4 : Int) p39 q39
                                                          replace p39 := eq_true p39
                                                          replace q39 := eq_true q39
                                                          have HP40 := Kd.R_putg HO_7.out (x10_4 : Int) (rdOf false (rd_L5 l0 x9_3) x10_4)
                                                          go_wp2_with (first | ((with_reducible refine gate_store (t := 4) (p := 68) rfl ?_); refine store_event (t := 4) (p := 68) (v := ?vo_w41) (w1 := (wr.setCell ⟨go17, (x10_4 : Int).toNat, none⟩ (.bool (rdOf false (rd_L5 l0 x9_3) x10_4)))) ?hg ?ho ?hn ?hr ?_; (case ho => rfl); (case hg => rfl); (case hn => rfl); (case hr => first | (go_simp; done) | (go_simp; rfl)); intro w41 hw; have hg : wr.grownBy w41 (some go17) := (by rw [hw]; exact HP40.2); have hp_ : Kd.R Kd.bool 4 w41 w.heap.size (fun k_ => some k_ ≠ (.slice (some ⟨go53, 0, none⟩) x4_1.length co18 : Value).ownBlock) (.slice (some ⟨go17, 0, none⟩) x7_4.length co17) y292 := (by rw [hw, Ny292.out]; exact HP40.1); clear HP40; have n0_ := Aside0.mk (Kd.R_after (v := (.slice (some ⟨go17, 0, none⟩) x7_4.length co17)) (v1 := (.slice (some ⟨go17, 0, none⟩) x7_4.length co17)) (ok := (fun _ => True)) (by (with_reducible repeat (first | apply Kd.R_alloc | apply Kd.R_drewN | apply Kd.R_drew)); exact Kd.R_mono HO_4.out (fun _ hk => ⟨trivial, hk⟩)) hg (.inl rfl)); have n1_ := Aside0.mk (Kd.S_over' (v := (.slice (some ⟨go17, 0, none⟩) x7_4.length co17)) (by (with_reducible repeat (first | apply Kd.S_alloc | apply Kd.S_drewN | apply Kd.S_drew)); exact HO_5.out) (Kd.R_typed HO_7.out) (by decide) hg); have n2_ := Aside0.mk (hp_); have n3_ := Aside0.mk ((by rw [hw]; exact below_set (HB.out) GB17.out : Below w.heap.size w w41)); clear HO_4; clear HO_5; clear HO_7; clear HB; have HO_4 := n0_; have HO_5 := n1_; have HO_7 := n2_; have HB := n3_; clear n0_ n1_ n2_ n3_; clear hg hw hp_))
                                                          (try simp only [← hl7_4])
                                                          go_roundg k4
                                                          case measure => have := HK1.out; have := HK2.out; have := HK3.out; have := HK4.out; omega
                                                          case rel => exact ⟨(y292), (wrap64 (x10_4 + 1)), (by first | rfl | (simp; done) | (simp [*]; done)), H', ⟨by have := HK1.out; have := HK2.out; have := HK3.out; have := HK4.out; omega⟩, ⟨by (try simp only [hl7_2]); (try simp only [hl7_3]); (try simp only [hl7_4]); (with_reducible repeat (first | apply Kd.R_alloc | apply Kd.R_drewN | apply Kd.R_drew)); exact Kd.R_mono HO_4.out (fun _ hk => hk.2)⟩, ⟨by (try simp only [hl7_2]); (try simp only [hl7_3]); (try simp only [hl7_4]); (with_reducible repeat (first | apply Kd.S_alloc | apply Kd.S_drewN | apply Kd.S_drew)); exact HO_5.out⟩, ⟨by (try simp only [hl7_2]); (try simp only [hl7_3]); (try simp only [hl7_4]); (with_reducible repeat (first | apply Kd.R_alloc | apply Kd.R_drewN | apply Kd.R_drew)); exact HO_7.out⟩, ⟨by repeat (first | (with_reducible first | exact HB.out | apply below_alloc | apply pw_below_drewN | apply below_drew1) | exact HB.out)⟩⟩
                                                        · rw [if_neg c38] at H
                                                          exact absurd H (by simp)
                                                      · rw [if_neg c37] at H
                                                        exact absurd H (by simp)
                                                    · replace c36 := Bool.eq_false_iff.mpr c36
                                                      subst c36
                                                      have H1 : (arboristref08_Parts.l3 k4 l0 (l0.length : Int) x4_1 x5_1 x6_1 (x7_4.set (x10_4 : Int).toNat false) x8_2 x9_3 (wrap64 (x10_4 + 1))) = some r := by rw [if_neg (show ¬ (false = true) by decide)] at H; exact H
                                                      clear H
                                                      have H := H1
                                                      clear H1
                                                      obtain ⟨y293, hy293⟩ : ∃ y_ : List Bool, y_ = (x7_4.set (x10_4 : Int).toNat false) := ⟨_, rfl⟩
                                                      replace H : (arboristref08_Parts.l3 k4 l0 (l0.length : Int) x4_1 x5_1 x6_1 y293 x8_2 x9_3 (wrap64 (x10_4 + 1))) = some r := by first | (rw [hy293]; with_reducible exact H) | (have H2_ := (Option.bind_some _ _).symm.trans H; rw [hy293]; with_reducible exact H2_) | (have H2_ := (Option.bind_some _ _).symm.trans H; with_reducible exact H2_) | with_reducible exact H | (rw [hy293]; exact H) | exact H
                                                      have Ny293 := Aside0.mk hy293
                                                      clear hy293
                                                      have H' := Aside0.mk H
                                                      clear H
                                                      have p287 : 0 ≤ (x10_4 : Int) := of_decide_eq_true (by first | (with_reducible assumption) | assumption)
                                                      have q287 : x10_4 < (x7_4.length : Int) := of_decide_eq_true (by first | (with_reducible assumption) | assumption)
                                                      obtain ⟨ad287, e287, hx287_0⟩ := Kd.at_bool (Kd.R_reads' HO_7.out).2.2 x10_4 p287 q287
                                                      (try rw [← Nbq11.out] at hx287_0)
                                                      (try rw [← Nbq28.out] at hx287_0)
                                                      (try rw [← Nbq35.out] at hx287_0)
                                                      obtain rfl : (⟨go17, 0, none⟩ : Addr) = ad287 := (by injection e287)
                                                      (first | simp only [add_plain] at hx287_0 | simp only [add_at] at hx287_0 | simp only [Addr.add, Nat.zero_add] at hx287_0 | skip)
                                                      replace p287 := eq_true p287
                                                      replace q287 := eq_true q287
                                                      have p289 : 0 ≤ (x9_3 : Int) := of_decide_eq_true (by first | (with_reducible assumption) | assumption)
                                                      have q289 : x9_3 < (x7_4.length : Int) := of_decide_eq_true (by first | (with_reducible assumption) | assumption)
                                                      obtain ⟨ad289, e289, hx289_0⟩ := Kd.at_bool (Kd.R_reads' HO_7.out).2.2 x9_3 p289 q289
                                                      (try rw [← Nbq11.out] at hx289_0)
                                                      (try rw [← Nbq28.out] at hx289_0)
                                                      (try rw [← Nbq35.out] at hx289_0)
                                                      obtain rfl : (⟨go17, 0, none⟩ : Addr) = ad289 := (by injection e289)
                                                      (first | simp only [add_plain] at hx289_0 | simp only [add_at] at hx289_0 | simp only [Addr.add, Nat.zero_add] at hx289_0 | skip)
                                                      replace p289 := eq_true p289
                                                      replace q289 := eq_true q289
                                                      have p42 : 0 ≤ (x10_4 : Int) := of_decide_eq_true (by first | (with_reducible assumption) | assumption)
                                                      have q42 : (x10_4 : Int) < ((x7_4.length : Int) : Int) := of_decide_eq_true (by first | (with_reducible assumption) | assumption)
                                                      obtain ⟨hx42_0, hf42_0⟩ := Kd.R_celln false HO_7.out (x10_4 : Int) p42 q42
                                                      replace p42 := eq_true p42
                                                      replace q42 := eq_true q42
                                                      have HP43 := Kd.R_putg HO_7.out (x10_4 : Int) false
                                                      go_wp2_with (first | ((with_reducible refine gate_store (t := 4) (p := 68) rfl ?_); refine store_event (t := 4) (p := 68) (v := ?vo_w44) (w1 := (wr.setCell ⟨go17, (x10_4 : Int).toNat, none⟩ (.bool false))) ?hg ?ho ?hn ?hr ?_; (case ho => rfl); (case hg => rfl); (case hn => rfl); (case hr => first | (go_simp; done) | (go_simp; rfl)); intro w44 hw; have hg : wr.grownBy w44 (some go17) := (by rw [hw]; exact HP43.2); have hp_ : Kd.R Kd.bool 4 w44 w.heap.size (fun k_ => some k_ ≠ (.slice (some ⟨go53, 0, none⟩) x4_1.length co18 : Value).ownBlock) (.slice (some ⟨go17, 0, none⟩) x7_4.length co17) y293 := (by rw [hw, Ny293.out]; exact HP43.1); clear HP43; have n0_ := Aside0.mk (Kd.R_after (v := (.slice (some ⟨go17, 0, none⟩) x7_4.length co17)) (v1 := (.slice (some ⟨go17, 0, none⟩) x7_4.length co17)) (ok := (fun _ => True)) (by (with_reducible repeat (first | apply Kd.R_alloc | apply Kd.R_drewN | apply Kd.R_drew)); exact Kd.R_mono HO_4.out (fun _ hk => ⟨trivial, hk⟩)) hg (.inl rfl)); have n1_ := Aside0.mk (Kd.S_over' (v := (.slice (some ⟨go17, 0, none⟩) x7_4.length co17)) (by (with_reducible repeat (first | apply Kd.S_alloc | apply Kd.S_drewN | apply Kd.S_drew)); exact HO_5.out) (Kd.R_typed HO_7.out) (by decide) hg); have n2_ := Aside0.mk (hp_); have n3_ := Aside0.mk ((by rw [hw]; exact below_set (HB.out) GB17.out : Below w.heap.size w w44)); clear HO_4; clear HO_5; clear HO_7; clear HB; have HO_4 := n0_; have HO_5 := n1_; have HO_7 := n2_; have HB := n3_; clear n0_ n1_ n2_ n3_; clear hg hw hp_))
                                                      (try simp only [← hl7_4])
                                                      go_roundg k4
                                                      case measure => have := HK1.out; have := HK2.out; have := HK3.out; have := HK4.out; omega
                                                      case rel => exact ⟨(y293), (wrap64 (x10_4 + 1)), (by first | rfl | (simp; done) | (simp [*]; done)), H', ⟨by have := HK1.out; have := HK2.out; have := HK3.out; have := HK4.out; omega⟩, ⟨by (try simp only [hl7_2]); (try simp only [hl7_3]); (try simp only [hl7_4]); (with_reducible repeat (first | apply Kd.R_alloc | apply Kd.R_drewN | apply Kd.R_drew)); exact Kd.R_mono HO_4.out (fun _ hk => hk.2)⟩, ⟨by (try simp only [hl7_2]); (try simp only [hl7_3]); (try simp only [hl7_4]); (with_reducible repeat (first | apply Kd.S_alloc | apply Kd.S_drewN | apply Kd.S_drew)); exact HO_5.out⟩, ⟨by (try simp only [hl7_2]); (try simp only [hl7_3]); (try simp only [hl7_4]); (with_reducible repeat (first | apply Kd.R_alloc | apply Kd.R_drewN | apply Kd.R_drew)); exact HO_7.out⟩, ⟨by repeat (first | (with_reducible first | exact HB.out | apply below_alloc | apply pw_below_drewN | apply below_drew1) | exact HB.out)⟩⟩
                                                  · rw [if_neg c34] at H
                                                    exact absurd H (by simp)
                                                · rw [if_neg c33] at H
                                                  exact absurd H (by simp)
                                            · rw [if_neg c27] at H
                                              exact absurd H (by simp)
                                          · rw [if_neg c26] at H
                                            exact absurd H (by simp)
                                        · rw [if_neg c25] at H
                                          have c25b0 : decide (x10_4 < (l0.length : Int)) = false := decide_eq_false c25
                                          clear c25
                                          have H' := Aside0.mk H
                                          clear H
                                          go_wp2
                                          (try simp only [← hl7_3, ← hl7_4])
                                          go_roundg k4
                                          case measure => have := HK1.out; have := HK2.out; have := HK3.out; have := HK4.out; omega
                                          case rel => exact ⟨(x7_4), (wrap64 (x9_3 + 1)), (by first | rfl | (simp; done) | (simp [*]; done)), H', ⟨by have := HK1.out; have := HK2.out; have := HK3.out; have := HK4.out; omega⟩, ⟨by (try simp only [hl7_2]); (try simp only [hl7_3]); (try simp only [hl7_4]); (with_reducible repeat (first | apply Kd.R_alloc | apply Kd.R_drewN | apply Kd.R_drew)); exact HO_4.out⟩, ⟨by (try simp only [hl7_2]); (try simp only [hl7_3]); (try simp only [hl7_4]); (with_reducible repeat (first | apply Kd.S_alloc | apply Kd.S_drewN | apply Kd.S_drew)); exact HO_5.out⟩, ⟨by (try simp only [hl7_2]); (try simp only [hl7_3]); (try simp only [hl7_4]); (with_reducible repeat (first | apply Kd.R_alloc | apply Kd.R_drewN | apply Kd.R_drew)); exact HO_7.out⟩, ⟨by repeat (first | (with_reducible first | exact HB.out | apply below_alloc | apply pw_below_drewN | apply below_drew1) | exact HB.out)⟩⟩
                                  · rw [if_neg c24] at H
                                    have c24b0 : decide (x9_3 < (l0.length : Int)) = false := decide_eq_false c24
                                    clear c24
                                    have H' := Aside0.mk H
                                    clear H
                                    go_wp2
                                    (try simp only [← hl7_2, ← hl7_3])
                                    go_roundg k3
                                    case measure => have := HK1.out; have := HK2.out; have := HK3.out; omega
                                    case rel => exact ⟨(x7_3), (wrap64 (x8_2 + 1)), (by first | rfl | (simp; done) | (simp [*]; done)), H', ⟨by have := HK1.out; have := HK2.out; have := HK3.out; omega⟩, ⟨by (try simp only [hl7_2]); (try simp only [hl7_3]); (with_reducible repeat (first | apply Kd.R_alloc | apply Kd.R_drewN | apply Kd.R_drew)); exact HO_4.out⟩, ⟨by (try simp only [hl7_2]); (try simp only [hl7_3]); (with_reducible repeat (first | apply Kd.S_alloc | apply Kd.S_drewN | apply Kd.S_drew)); exact HO_5.out⟩, ⟨by (try simp only [hl7_2]); (try simp only [hl7_3]); (with_reducible repeat (first | apply Kd.R_alloc | apply Kd.R_drewN | apply Kd.R_drew)); exact HO_7.out⟩, ⟨by repeat (first | (with_reducible first | exact HB.out | apply below_alloc | apply pw_below_drewN | apply below_drew1) | exact HB.out)⟩⟩
                            · rw [if_neg c23] at H
                              have c23b0 : decide (x8_2 < (l0.length : Int)) = false := decide_eq_false c23
                              clear c23
                              obtain ⟨y294, hy294⟩ : ∃ y_ : List Int, y_ = (([] : List Int)) := ⟨_, rfl⟩
                              replace H : (arboristref08_Parts.l4 k2 l0 (l0.length : Int) x4_1 x5_1 x6_1 x7_2 y294 0) = some r := by first | (rw [hy294]; with_reducible exact H) | (have H2_ := (Option.bind_some _ _).symm.trans H; rw [hy294]; with_reducible exact H2_) | (have H2_ := (Option.bind_some _ _).symm.trans H; with_reducible exact H2_) | with_reducible exact H | (rw [hy294]; exact H) | exact H
                              have Ny294 := Aside0.mk hy294
                              clear hy294
                              have H' := Aside0.mk H
                              clear H
                              go_wp2_with (first | ((with_reducible refine gate_dst (N := 69) rfl ?_); refine Kd.R_lit (Kd.int .i64) _ 3 ?hg (N := 69) ?hd (xs := ([] : List Int)) (inner := []) (ok := fun _ => True) (okp := fun _ => True) ?hr ?hp (fun _ hk => hk) trivial (Below.refl _ _) (Nat.le_refl _) (by simp) ?_; (case hd => rfl); (case hg => rfl); (case hr => first | (go_simp; done) | (go_simp; rfl)); (case hp => exact (Reps.none _ _)); intro v295 w45 ho46 hb hg_ hnew_; clear hg_ hnew_; (first | rw [← Ny294.out] at ho46 | (simp only [Int.reduceToNat] at ho46; rw [← Ny294.out] at ho46)); have n0_ := Aside0.mk (Kd.R_below (by (with_reducible repeat (first | apply Kd.R_alloc | apply Kd.R_drewN | apply Kd.R_drew)); exact HO_4.out) hb); have n1_ := Aside0.mk (Kd.S_elder' (by (with_reducible repeat (first | apply Kd.S_alloc | apply Kd.S_drewN | apply Kd.S_drew)); exact HO_5.out) (Kd.R_base ho46) hb); have n2_ := Aside0.mk (Kd.R_below (by (with_reducible repeat (first | apply Kd.R_alloc | apply Kd.R_drewN | apply Kd.R_drew)); exact HO_7.out) hb); have n3_ := Aside0.mk (Kd.R_lower ho46 (below_size (by repeat (first | (with_reducible first | exact HB.out | apply below_alloc | apply pw_below_drewN | apply below_drew1) | exact HB.out)))); have n4_ := Aside0.mk (below_step (by repeat (first | (with_reducible first | exact HB.out | apply below_alloc | apply pw_below_drewN | apply below_drew1) | exact HB.out)) hb); clear HO_4; clear HO_5; clear HO_7; clear HB; have HO_4 := n0_; have HO_5 := n1_; have HO_7 := n2_; have HO296 := n3_; have HB := n4_; clear n0_ n1_ n2_ n3_ n4_; clear hb ho46))
                              go_loopg [11, 12] k2 (fun kq v11 v12 w' => ∃ (x4_3 : List Bool) (x11_3 : List Int) (x12_3 : Int), v12 = .int .i64 x12_3 ∧ Aside0 (arboristref08_Parts.l4 kq l0 (l0.length : Int) x4_3 x5_1 x6_1 x7_2 x11_3 x12_3 = some r) ∧ Aside0 (kq ≤ k2) ∧ Aside0 (Kd.R Kd.bool 4 w' w.heap.size (fun k_ => some k_ ≠ ((.slice (some ⟨go17, 0, none⟩) x7_2.length co17) : Value).ownBlock) (.slice (some ⟨go53, 0, none⟩) x4_1.length co18) x4_3) ∧ Aside0 (Kd.S (Kd.slice 3 (Kd.int .i64)) 34 w' w.heap.size (fun k_ => some k_ ≠ (v11 : Value).ownBlock) u5 x5_1) ∧ Aside0 (Kd.R Kd.bool 4 w' w.heap.size (fun k_ => some k_ ≠ ((.slice (some ⟨go53, 0, none⟩) x4_1.length co18) : Value).ownBlock) (.slice (some ⟨go17, 0, none⟩) x7_2.length co17) x7_2) ∧ Aside0 (Kd.R (Kd.int .i64) 3 w' w.heap.size (fun _ => True) v11 x11_3) ∧ Aside0 (Below w.heap.size w w'))
                              case atStart => exact ⟨(x4_1), (y294), (0), (by first | rfl | (simp; done) | (simp [*]; done)), H', ⟨Nat.le_refl _⟩, ⟨by (try simp only [hl7_2]); (with_reducible repeat (first | apply Kd.R_alloc | apply Kd.R_drewN | apply Kd.R_drew)); exact HO_4.out⟩, ⟨by (try simp only [hl7_2]); (with_reducible repeat (first | apply Kd.S_alloc | apply Kd.S_drewN | apply Kd.S_drew)); exact Kd.S_mono HO_5.out (fun _ hk => hk.2)⟩, ⟨by (try simp only [hl7_2]); (with_reducible repeat (first | apply Kd.R_alloc | apply Kd.R_drewN | apply Kd.R_drew)); exact HO_7.out⟩, ⟨by (try simp only [hl7_2]); (with_reducible repeat (first | apply Kd.R_alloc | apply Kd.R_drewN | apply Kd.R_drew)); exact HO296.out⟩, ⟨by repeat (first | (with_reducible first | exact HB.out | apply below_alloc | apply pw_below_drewN | apply below_drew1) | exact HB.out)⟩⟩
                              case round =>
                                clear H'
                                try clear c1
                                try clear p1
                                try clear q1
                                try clear hx1
                                try clear hf1
                                try clear c2
                                try clear c2b0
                                try clear c2b1
                                try clear p2
                                try clear q2
                                try clear hx2
                                try clear c3
                                try clear c3b0
                                try clear c3b1
                                try clear p3
                                try clear q3
                                try clear hx3
                                try clear hf3
                                try clear p4
                                try clear q4
                                try clear hx4
                                try clear hf4
                                try clear p6
                                try clear c8
                                try clear c8b0
                                try clear c9
                                try clear c9b0
                                try clear c10
                                try clear c10b0
                                try clear q11
                                try clear c12
                                try clear c14
                                try clear c14b0
                                try clear c14b1
                                try clear c15
                                try clear c15b0
                                try clear c15b1
                                try clear c16
                                try clear c16b0
                                try clear p17
                                try clear q17
                                try clear hx17
                                try clear hf17
                                try clear c23
                                try clear c23b0
                                try clear c24
                                try clear c24b0
                                try clear c25
                                try clear c25b0
                                try clear c26
                                try clear c26b0
                                try clear c27
                                try clear c27b0
                                try clear p28
                                try clear q28
                                try clear hx28
                                try clear c29
                                try clear p29
                                try clear q29
                                try clear hx29
                                try clear p30
                                try clear q30
                                try clear hx30
                                try clear hf30
                                try clear c33
                                try clear c33b0
                                try clear c34
                                try clear c34b0
                                try clear q35
                                try clear c36
                                try clear c37
                                try clear c37b0
                                try clear c38
                                try clear c38b0
                                try clear p39
                                try clear q39
                                try clear hx39
                                try clear hf39
                                try clear p42
                                try clear q42
                                try clear hx42
                                try clear hf42
                                try clear hx17_0
                                try clear hx282_0
                                try clear hx287_0
                                try clear hx289_0
                                try clear hx290_0
                                try clear hx291_0
                                try clear hx30_0
                                try clear hx39_0
                                try clear hx42_0
                                try clear p1
                                try clear p17
                                try clear p2
                                try clear p282
                                try clear p287
                                try clear p289
                                try clear p290
                                try clear p291
                                try clear p30
                                try clear p39
                                try clear p42
                                try clear p6
                                try clear q1
                                try clear q11
                                try clear q17
                                try clear q2
                                try clear q282
                                try clear q287
                                try clear q289
                                try clear q290
                                try clear q291
                                try clear q30
                                try clear q39
                                try clear q42
                                obtain ⟨x4_3, x11_3, x12_3, rfl, HA, HK3, HO_4, HO_5, HO_7, HO_11, HB⟩ := hrel
                                have hl4_3 := (Kd.R_reads' HO_4.out).1
                                rw [hl4_3] at HO_4
                                (try simp only [hl4_3])
                                (try simp only [hl4_3] at HO_5)
                                (try simp only [hl4_3] at HO_7)
                                (try simp only [hl4_3] at HO_11)
                                cases gk with
                                | zero => exact absurd HA.out (by simp [arboristref08_Parts.l4])
                                | succ k3 =>
                                  have H := HA.out
                                  clear HA
                                  simp only [arboristref08_Parts.l4] at H
                                  by_cases c47 : x12_3 < (l0.length : Int)
                                  · rw [if_pos c47] at H
                                    have c47b0 : decide (x12_3 < (l0.length : Int)) = true := decide_eq_true c47
                                    clear c47
                                    by_cases c48 : 0 ≤ x12_3
                                    · rw [if_pos c48] at H
                                      have c48b0 : decide (0 ≤ x12_3) = true := decide_eq_true c48
                                      clear c48
                                      by_cases c49 : x12_3 < (x7_2.length : Int)
                                      · rw [if_pos c49] at H
                                        have c49b0 : decide (x12_3 < (x7_2.length : Int)) = true := decide_eq_true c49
                                        clear c49
                                        obtain ⟨bq50, hbq50⟩ : ∃ b_ : Bool, b_ = (rdOf false x7_2 x12_3) := ⟨_, rfl⟩
                                        replace H : (if bq50 = true then (if x12_3 < (x4_3.length : Int) then (if x11_3.length < 17592186044416 then (arboristref08_Parts.l4 k3 l0 (l0.length : Int) (x4_3.set (x12_3 : Int).toNat true) x5_1 x6_1 x7_2 (x11_3 ++ [x12_3]) (wrap64 (x12_3 + 1))) else (none)) else (none)) else (arboristref08_Parts.l4 k3 l0 (l0.length : Int) x4_3 x5_1 x6_1 x7_2 x11_3 (wrap64 (x12_3 + 1)))) = some r := by rw [← hbq50] at H; exact H
                                        have Nbq50 := Aside0.mk hbq50
                                        clear hbq50
                                        by_cases c51 : bq50 = true
                                        · subst c51
                                          have H1 : (if x12_3 < (x4_3.length : Int) then (if x11_3.length < 17592186044416 then (arboristref08_Parts.l4 k3 l0 (l0.length : Int) (x4_3.set (x12_3 : Int).toNat true) x5_1 x6_1 x7_2 (x11_3 ++ [x12_3]) (wrap64 (x12_3 + 1))) else (none)) else (none)) = some r := by rw [if_pos rfl] at H; exact H
                                          clear H
                                          have H := H1
                                          clear H1
                                          by_cases c52 : x12_3 < (x4_3.length : Int)
                                          · rw [if_pos c52] at H
                                            have c52b0 : decide (x12_3 < (x4_3.length : Int)) = true := decide_eq_true c52
                                            clear c52
                                            obtain ⟨y298, hy298⟩ : ∃ y_ : List Bool, y_ = (x4_3.set (x12_3 : Int).toNat true) := ⟨_, rfl⟩
                                            replace H : (if x11_3.length < 17592186044416 then (arboristref08_Parts.l4 k3 l0 (l0.length : Int) y298 x5_1 x6_1 x7_2 (x11_3 ++ [x12_3]) (wrap64 (x12_3 + 1))) else (none)) = some r := by first | (rw [hy298]; with_reducible exact H) | (have H2_ := (Option.bind_some _ _).symm.trans H; rw [hy298]; with_reducible exact H2_) | (have H2_ := (Option.bind_some _ _).symm.trans H; with_reducible exact H2_) | with_reducible exact H | (rw [hy298]; exact H) | exact H
                                            have Ny298 := Aside0.mk hy298
                                            clear hy298
                                            by_cases c54 : x11_3.length < 17592186044416
                                            · rw [if_pos c54] at H
                                              have LMc54 := Aside0.mk c54
                                              clear c54
                                              obtain ⟨y299, hy299⟩ : ∃ y_ : List Int, y_ = (x11_3 ++ [x12_3]) := ⟨_, rfl⟩
                                              replace H : (arboristref08_Parts.l4 k3 l0 (l0.length : Int) y298 x5_1 x6_1 x7_2 y299 (wrap64 (x12_3 + 1))) = some r := by first | (rw [hy299]; with_reducible exact H) | (have H2_ := (Option.bind_some _ _).symm.trans H; rw [hy299]; with_reducible exact H2_) | (have H2_ := (Option.bind_some _ _).symm.trans H; with_reducible exact H2_) | with_reducible exact H | (rw [hy299]; exact H) | exact H
                                              have Ny299 := Aside0.mk hy299
                                              clear hy299
                                              have H' := Aside0.mk H
                                              clear H
                                              have p297 : 0 ≤ (x12_3 : Int) := of_decide_eq_true (by first | (with_reducible assumption) | assumption)
                                              have q297 : x12_3 < (x7_2.length : Int) := of_decide_eq_true (by first | (with_reducible assumption) | assumption)
                                              obtain ⟨ad297, e297, hx297_0⟩ := Kd.at_bool (Kd.R_reads' HO_7.out).2.2 x12_3 p297 q297
                                              (try rw [← Nbq11.out] at hx297_0)
                                              (try rw [← Nbq50.out] at hx297_0)
                                              obtain rfl : (⟨go17, 0, none⟩ : Addr) = ad297 := (by injection e297)
                                              (first | simp only [add_plain] at hx297_0 | simp only [add_at] at hx297_0 | simp only [Addr.add, Nat.zero_add] at hx297_0 | skip)
                                              replace p297 := eq_true p297
                                              replace q297 := eq_true q297
                                              have p53 : 0 ≤ (x12_3 : Int) := of_decide_eq_true (by first | (with_reducible assumption) | assumption)
                                              have q53 : (x12_3 : Int) < ((x4_3.length : Int) : Int) := of_decide_eq_true (by first | (with_reducible assumption) | assumption)
                                              obtain ⟨gz53, cz53, eo53, gb53, gl53, cl53, HG53⟩ := Kd.R_form HO_4.out (by omega)
                                              (first | cases eo53 | (injection eo53 with ea_ en_ ec_; (first | subst ea_ | (injection ea_ with ea_; subst ea_)); subst ec_; clear en_))
                                              have GB53 := Aside0.mk gb53
                                              have GG53 := Aside0.mk HG53
                                              clear gb53 gl53 HG53
                                              (first | simp only [add_plain] at hx282_0 | skip)
                                              obtain ⟨hx53_0, hf53_0⟩ := Kd.R_celln false HO_4.out (x12_3 : Int) p53 q53
                                              replace p53 := eq_true p53
                                              replace q53 := eq_true q53
                                              have HP55 := Kd.R_putg HO_4.out (x12_3 : Int) true
                                              go_wp2_with (first | ((with_reducible refine gate_store (t := 4) (p := 81) rfl ?_); refine store_event (t := 4) (p := 81) (v := ?vo_w56) (w1 := (wr.setCell ⟨go53, (x12_3 : Int).toNat, none⟩ (.bool true))) ?hg ?ho ?hn ?hr ?_; (case ho => rfl); (case hg => rfl); (case hn => rfl); (case hr => first | (go_simp; done) | (go_simp; rfl)); intro w56 hw; have hg : wr.grownBy w56 (some go53) := (by rw [hw]; exact HP55.2); have hp_ : Kd.R Kd.bool 4 w56 w.heap.size (fun k_ => some k_ ≠ (.slice (some ⟨go17, 0, none⟩) x7_2.length co17 : Value).ownBlock) (.slice (some ⟨go53, 0, none⟩) x4_3.length co18) y298 := (by rw [hw, Ny298.out]; exact HP55.1); clear HP55; have n0_ := Aside0.mk (hp_); have n1_ := Aside0.mk (Kd.S_over' (v := (.slice (some ⟨go53, 0, none⟩) x4_3.length co18)) (by (with_reducible repeat (first | apply Kd.S_alloc | apply Kd.S_drewN | apply Kd.S_drew)); exact HO_5.out) (Kd.R_typed HO_4.out) (by decide) hg); have n2_ := Aside0.mk (Kd.R_after (v := (.slice (some ⟨go53, 0, none⟩) x4_3.length co18)) (v1 := (.slice (some ⟨go53, 0, none⟩) x4_3.length co18)) (ok := (fun _ => True)) (by (with_reducible repeat (first | apply Kd.R_alloc | apply Kd.R_drewN | apply Kd.R_drew)); exact Kd.R_mono HO_7.out (fun _ hk => ⟨trivial, hk⟩)) hg (.inl rfl)); have n3_ := Aside0.mk (Kd.R_over' (v := (.slice (some ⟨go53, 0, none⟩) x4_3.length co18)) (by (with_reducible repeat (first | apply Kd.R_alloc | apply Kd.R_drewN | apply Kd.R_drew)); exact HO_11.out) (Kd.R_typed HO_4.out) (by decide) hg); have n4_ := Aside0.mk ((by rw [hw]; exact below_set (HB.out) GB53.out : Below w.heap.size w w56)); clear HO_4; clear HO_5; clear HO_7; clear HO_11; clear HB; have HO_4 := n0_; have HO_5 := n1_; have HO_7 := n2_; have HO_11 := n3_; have HB := n4_; clear n0_ n1_ n2_ n3_ n4_; clear hg hw hp_) | ((with_reducible refine gate_builtin (b := .append) (xs := #[.tmp 82, .tmp 84]) rfl ?_); at_builtin; refine Kd.R_append (Kd.int .i64) (w0 := w) w.heap.size rfl (.tmp 82) (.tmp 84) 34 3 (.int .i64 0) 8 rfl Tryd.underlying34 info3 rfl (by decide) (by omega) u11 x11_3 x12_3 [.int .i64 x12_3] (fun _ => True) (fun _ => False) rfl rfl ?aP (fun _ hk => hk.elim) ?aF ?aO ?aB ?aS ?aL ?_; (case aP => exact rfl); (case aB => exact (by repeat (first | (with_reducible first | exact HB.out | apply below_alloc | apply pw_below_drewN | apply below_drew1) | exact HB.out))); (case aF => exact (fun _ _ => trivial)); (case aO => exact (by (with_reducible repeat (first | apply Kd.R_alloc | apply Kd.R_drewN | apply Kd.R_drew)); exact HO_11.out)); (case aS => exact (below_size (by repeat (first | (with_reducible first | exact HB.out | apply below_alloc | apply pw_below_drewN | apply below_drew1) | exact HB.out)))); (case aL => have := LMc54.out; omega); intro v300 w57 ho hb hg hat; rw [← Ny299.out] at ho; have n0_ := Aside0.mk (Kd.R_over' (by (with_reducible repeat (first | apply Kd.R_alloc | apply Kd.R_drewN | apply Kd.R_drew)); exact HO_4.out) (Kd.R_typed (by (with_reducible repeat (first | apply Kd.R_alloc | apply Kd.R_drewN | apply Kd.R_drew)); exact HO_11.out)) (by decide) hg); have n1_ := Aside0.mk (Kd.S_after (ok := (fun _ => True)) (by (with_reducible repeat (first | apply Kd.S_alloc | apply Kd.S_drewN | apply Kd.S_drew)); exact Kd.S_mono HO_5.out (fun _ hk => ⟨trivial, hk⟩)) hg hat); have n2_ := Aside0.mk (Kd.R_over' (by (with_reducible repeat (first | apply Kd.R_alloc | apply Kd.R_drewN | apply Kd.R_drew)); exact HO_7.out) (Kd.R_typed (by (with_reducible repeat (first | apply Kd.R_alloc | apply Kd.R_drewN | apply Kd.R_drew)); exact HO_11.out)) (by decide) hg); have n3_ := Aside0.mk (hb); have n4_ := Aside0.mk (ho); clear HO_4; clear HO_5; clear HO_7; clear HB; clear HO_11; have HO_4 := n0_; have HO_5 := n1_; have HO_7 := n2_; have HB := n3_; have HO301 := n4_; clear n0_ n1_ n2_ n3_ n4_; clear ho hb hg hat))
                                              (try simp only [← hl4_3])
                                              go_roundg k3
                                              case measure => have := HK1.out; have := HK2.out; have := HK3.out; omega
                                              case rel => exact ⟨(y298), (y299), (wrap64 (x12_3 + 1)), (by first | rfl | (simp; done) | (simp [*]; done)), H', ⟨by have := HK1.out; have := HK2.out; have := HK3.out; omega⟩, ⟨by (try simp only [hl7_2]); (try simp only [hl4_3]); (with_reducible repeat (first | apply Kd.R_alloc | apply Kd.R_drewN | apply Kd.R_drew)); exact HO_4.out⟩, ⟨by (try simp only [hl7_2]); (try simp only [hl4_3]); (with_reducible repeat (first | apply Kd.S_alloc | apply Kd.S_drewN | apply Kd.S_drew)); exact Kd.S_mono HO_5.out (fun _ hk => hk.2)⟩, ⟨by (try simp only [hl7_2]); (try simp only [hl4_3]); (with_reducible repeat (first | apply Kd.R_alloc | apply Kd.R_drewN | apply Kd.R_drew)); exact Kd.R_mono HO_7.out (fun _ hk => hk.2)⟩, ⟨by (try simp only [hl7_2]); (try simp only [hl4_3]); (with_reducible repeat (first | apply Kd.R_alloc | apply Kd.R_drewN | apply Kd.R_drew)); exact HO301.out⟩, ⟨by repeat (first | (with_reducible first | exact HB.out | apply below_alloc | apply pw_below_drewN | apply below_drew1) | exact HB.out)⟩⟩
                                            · rw [if_neg c54] at H
                                              exact absurd H (by simp)
                                          · rw [if_neg c52] at H
                                            exact absurd H (by simp)
                                        · replace c51 := Bool.eq_false_iff.mpr c51
                                          subst c51
                                          have H1 : (arboristref08_Parts.l4 k3 l0 (l0.length : Int) x4_3 x5_1 x6_1 x7_2 x11_3 (wrap64 (x12_3 + 1))) = some r := by rw [if_neg (show ¬ (false = true) by decide)] at H; exact H
                                          clear H
                                          have H := H1
                                          clear H1
                                          have H' := Aside0.mk H
                                          clear H
                                          have p297 : 0 ≤ (x12_3 : Int) := of_decide_eq_true (by first | (with_reducible assumption) | assumption)
                                          have q297 : x12_3 < (x7_2.length : Int) := of_decide_eq_true (by first | (with_reducible assumption) | assumption)
                                          obtain ⟨ad297, e297, hx297_0⟩ := Kd.at_bool (Kd.R_reads' HO_7.out).2.2 x12_3 p297 q297
                                          (try rw [← Nbq11.out] at hx297_0)
                                          (try rw [← Nbq50.out] at hx297_0)
                                          obtain rfl : (⟨go17, 0, none⟩ : Addr) = ad297 := (by injection e297)
                                          (first | simp only [add_plain] at hx297_0 | simp only [add_at] at hx297_0 | simp only [Addr.add, Nat.zero_add] at hx297_0 | skip)
                                          replace p297 := eq_true p297
                                          replace q297 := eq_true q297
                                          go_wp2
                                          (try simp only [← hl4_3])
                                          go_roundg k3
                                          case measure => have := HK1.out; have := HK2.out; have := HK3.out; omega
                                          case rel => exact ⟨(x4_3), (x11_3), (wrap64 (x12_3 + 1)), (by first | rfl | (simp; done) | (simp [*]; done)), H', ⟨by have := HK1.out; have := HK2.out; have := HK3.out; omega⟩, ⟨by (try simp only [hl7_2]); (try simp only [hl4_3]); (with_reducible repeat (first | apply Kd.R_alloc | apply Kd.R_drewN | apply Kd.R_drew)); exact HO_4.out⟩, ⟨by (try simp only [hl7_2]); (try simp only [hl4_3]); (with_reducible repeat (first | apply Kd.S_alloc | apply Kd.S_drewN | apply Kd.S_drew)); exact HO_5.out⟩, ⟨by (try simp only [hl7_2]); (try simp only [hl4_3]); (with_reducible repeat (first | apply Kd.R_alloc | apply Kd.R_drewN | apply Kd.R_drew)); exact HO_7.out⟩, ⟨by (try simp only [hl7_2]); (try simp only [hl4_3]); (with_reducible repeat (first | apply Kd.R_alloc | apply Kd.R_drewN | apply Kd.R_drew)); exact HO_11.out⟩, ⟨by repeat (first | (with_reducible first | exact HB.out | apply below_alloc | apply pw_below_drewN | apply below_drew1) | exact HB.out)⟩⟩
                                      · rw [if_neg c49] at H
                                        exact absurd H (by simp)
                                    · rw [if_neg c48] at H
                                      exact absurd H (by simp)
                                  · rw [if_neg c47] at H
                                    have c47b0 : decide (x12_3 < (l0.length : Int)) = false := decide_eq_false c47
                                    clear c47
                                    by_cases c58 : x5_1.length < 5864062014805
                                    · rw [if_pos c58] at H
                                      have LMc58 := Aside0.mk c58
                                      clear c58
                                      obtain ⟨y302, hy302⟩ : ∃ y_ : List (List Int), y_ = (x5_1 ++ [x11_3]) := ⟨_, rfl⟩
                                      replace H : (arboristref08_Parts.l0 k3 l0 (l0.length : Int) x4_3 y302 (wrap64 (x6_1 + 1))) = some r := by first | (rw [hy302]; with_reducible exact H) | (have H2_ := (Option.bind_some _ _).symm.trans H; rw [hy302]; with_reducible exact H2_) | (have H2_ := (Option.bind_some _ _).symm.trans H; with_reducible exact H2_) | with_reducible exact H | (rw [hy302]; exact H) | exact H
                                      have Ny302 := Aside0.mk hy302
                                      clear hy302
                                      have H' := Aside0.mk H
                                      clear H
                                      obtain ⟨Ao60, co60, eo60⟩ := Kd.R_slice HO_11.out
                                      subst eo60
                                      go_wp2_with (first | ((with_reducible refine gate_builtin (b := .append) (xs := #[.tmp 86, .tmp 88]) rfl ?_); at_builtin; refine Kd.S_append (Kd.slice 3 (Kd.int .i64)) (w0 := w) w.heap.size rfl (.tmp 86) (.tmp 88) 33 34 (.slice none 0 0) 24 rfl Tryd.underlying33 info34 rfl (by decide) (by omega) u5 x5_1 x11_3 [.slice Ao60 x11_3.length co60] (fun _ => True) (fun k_ => some k_ = (.slice Ao60 x11_3.length co60 : Value).ownBlock) rfl rfl ?aP (fun k_ hk_ => ((Kd.R_mono (ok' := fun k_ => ((fun _ => True)) k_ ∧ some k_ ≠ (u5 : Value).ownBlock) (Kd.R_apart' (HO_11.out) (Kd.S_typed HO_5.out) (by decide)) (fun k_ hk => ⟨trivial, hk.2⟩))).1 k_ hk_.symm) ?aF ?aO ?aB ?aS ?aL ?_; (case aP => exact Kd.M_row (Kd.R_mono (Kd.R_tight rfl (Kd.R_mono (ok' := fun k_ => ((fun _ => True)) k_ ∧ some k_ ≠ (u5 : Value).ownBlock) (Kd.R_apart' (HO_11.out) (Kd.S_typed HO_5.out) (by decide)) (fun k_ hk => ⟨trivial, hk.2⟩))) (fun _ h_ => h_))); (case aB => exact (by repeat (first | (with_reducible first | exact HB.out | apply below_alloc | apply pw_below_drewN | apply below_drew1) | exact HB.out))); (case aF => exact (fun _ _ => trivial)); (case aO => exact (by (with_reducible repeat (first | apply Kd.S_alloc | apply Kd.S_drewN | apply Kd.S_drew)); exact Kd.S_mono HO_5.out (fun k_ hk => ⟨trivial, fun e_ => hk e_⟩))); (case aS => exact (below_size (by repeat (first | (with_reducible first | exact HB.out | apply below_alloc | apply pw_below_drewN | apply below_drew1) | exact HB.out)))); (case aL => have := LMc58.out; omega); intro v303 w59 ho hb hg hat; rw [← Ny302.out] at ho; have n0_ := Aside0.mk (Kd.R_over' (by (with_reducible repeat (first | apply Kd.R_alloc | apply Kd.R_drewN | apply Kd.R_drew)); exact HO_4.out) (Kd.S_typed (by (with_reducible repeat (first | apply Kd.S_alloc | apply Kd.S_drewN | apply Kd.S_drew)); exact HO_5.out)) (by decide) hg); have n1_ := Aside0.mk (Kd.R_over' (by (with_reducible repeat (first | apply Kd.R_alloc | apply Kd.R_drewN | apply Kd.R_drew)); exact HO_7.out) (Kd.S_typed (by (with_reducible repeat (first | apply Kd.S_alloc | apply Kd.S_drewN | apply Kd.S_drew)); exact HO_5.out)) (by decide) hg); have n2_ := Aside0.mk (hb); have n3_ := Aside0.mk (ho); clear HO_4; clear HO_7; clear HB; clear HO_5; clear HO_11; have HO_4 := n0_; have HO_7 := n1_; have HB := n2_; have HO304 := n3_; clear n0_ n1_ n2_ n3_; clear ho hb hg hat))
                                      (try simp only [← hl7_2, ← hl4_3])
                                      go_roundg k3
                                      case measure => have := HK1.out; have := HK2.out; have := HK3.out; omega
                                      case rel => exact ⟨(x4_3), (y302), (wrap64 (x6_1 + 1)), (by first | rfl | (simp; done) | (simp [*]; done)), H', ⟨by have := HK1.out; have := HK2.out; have := HK3.out; omega⟩, ⟨by (try simp only [hl7_2]); (try simp only [hl4_3]); (with_reducible repeat (first | apply Kd.R_alloc | apply Kd.R_drewN | apply Kd.R_drew)); exact Kd.R_mono HO_4.out (fun _ hk => trivial)⟩, ⟨by (try simp only [hl7_2]); (try simp only [hl4_3]); (with_reducible repeat (first | apply Kd.S_alloc | apply Kd.S_drewN | apply Kd.S_drew)); exact HO304.out⟩, ⟨by repeat (first | (with_reducible first | exact HB.out | apply below_alloc | apply pw_below_drewN | apply below_drew1) | exact HB.out)⟩⟩
                                    · rw [if_neg c58] at H
                                      exact absurd H (by simp)
                      · rw [if_neg c16] at H
                        exact absurd H (by simp)
                    · rw [if_neg c15] at H
                      exact absurd H (by simp)
                  · rw [if_neg c14] at H
                    exact absurd H (by simp)
              · rw [if_neg c10] at H
                exact absurd H (by simp)
            · rw [if_neg c9] at H
              exact absurd H (by simp)
          · rw [if_neg c8] at H
            have c8b0 : decide (x6_1 < (l0.length : Int)) = false := decide_eq_false c8
            clear c8
            obtain rfl := Option.some.inj H
            go_wp2
            go_ret
            exact ⟨_, by first | rfl | (simp [errW_none, errW_some] <;> rfl) | (simp [*, errW_none, errW_some] <;> rfl), by (with_reducible repeat (first | apply Kd.S_alloc | apply Kd.S_drewN | apply Kd.S_drew)); exact HO_5.out, by repeat (first | (with_reducible first | exact HB.out | apply below_alloc | apply pw_below_drewN | apply below_drew1) | exact HB.out)⟩
    · rw [if_neg c3] at H
      exact absurd H (by simp)
  · rw [if_neg c2] at H
    exact absurd H (by simp)

end Go.Proofs.YtaodbohfhelokaaDoor.Pr
