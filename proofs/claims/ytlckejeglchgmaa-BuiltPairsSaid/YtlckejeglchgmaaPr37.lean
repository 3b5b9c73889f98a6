-- Printed by a program of this session's own (wip/tools/pp.py) over the kit's print.py; Lean checks it.
import Derived.Test.YtlckejeglchgmaaPr0
import Derived.Test.YtlckejeglchgmaaPr19
import Derived.Test.YtlckejeglchgmaaPr25
namespace Go.Proofs.Ytlckejeglchgmaa.Pr
open Go.RowKit Go.Proofs.YtlckejeglchgmaaW.PrintWords Go.Proofs.YtlckejeglchgmaaW.PrintLast Go.Proofs.YtlckejeglchgmaaW.PrintMore
attribute [local go_sem] max2_int min2_int max_two min_two max_three min_three max_four min_four   -- for this text's walks alone
set_option linter.unusedVariables false
set_option linter.unusedSimpArgs false

/-! ### arboristlaw07_BuiltPairs: function 6 -/
mutual
def arboristlaw07_BuiltPairs.l0 : Nat → List Int → Bool → Int → List Int → List Int → Int → Option (Bool)
  | 0, _, _, _, _, _, _ => none
  | k + 1, x0, x3, x4, x5, x6, x7 => if x7 < x4 then (if 0 ≤ x7 then (if x7 < (x0.length : Int) then (if x5.length < 17592186044416 then (if x6.length < 17592186044416 then (arboristlaw07_BuiltPairs.l0 k x0 x3 x4 (x5 ++ [Int.tmod (rd x0 x7) 1000000]) (x6 ++ [x7]) (wrap64 (x7 + 1))) else (none)) else (none)) else (none)) else (none)) else (arboristlaw07_BuiltPairs.l1 k x3 x4 x5 x6 true true true 0)
def arboristlaw07_BuiltPairs.l1 : Nat → Bool → Int → List Int → List Int → Bool → Bool → Bool → Int → Option (Bool)
  | 0, _, _, _, _, _, _, _, _ => none
  | k + 1, x3, x4, x5, x6, x8, x9, x10, x11 => if x11 < x4 then (arboristlaw07_BuiltPairs.l2 k x3 x4 x5 x6 x8 x9 x10 x11 0) else (if x3 = true then ((built_Holds.f 3 x6 ([] : List (List Int)) ([] : List Int) x5).bind fun t577 => (if (t577 == x8) = true then ((built_Holds.f 4 x6 ([] : List (List Int)) ([] : List Int) x5).bind fun t578 => (if (t578 == x9) = true then ((built_Holds.f 5 x6 ([] : List (List Int)) ([] : List Int) x5).bind fun t579 => (some (t579 == x10))) else (some false))) else (some false))) else (some false))
def arboristlaw07_BuiltPairs.l2 : Nat → Bool → Int → List Int → List Int → Bool → Bool → Bool → Int → Int → Option (Bool)
  | 0, _, _, _, _, _, _, _, _, _ => none
  | k + 1, x3, x4, x5, x6, x8, x9, x10, x11, x12 => if x12 < x11 then (if x8 = true then (if 0 ≤ x11 then (if x11 < (x5.length : Int) then (if 0 ≤ x12 then (if x12 < (x5.length : Int) then (if x9 = true then (if x10 = true then (arboristlaw07_BuiltPairs.l2 k x3 x4 x5 x6 ((rd x5 x11) != (rd x5 x12)) ((rd x5 x11) == (rd x5 x12)) (decide ((rd x5 x12) < (rd x5 x11))) x11 (wrap64 (x12 + 1))) else (arboristlaw07_BuiltPairs.l2 k x3 x4 x5 x6 ((rd x5 x11) != (rd x5 x12)) ((rd x5 x11) == (rd x5 x12)) false x11 (wrap64 (x12 + 1)))) else (if x10 = true then (arboristlaw07_BuiltPairs.l2 k x3 x4 x5 x6 ((rd x5 x11) != (rd x5 x12)) false (decide ((rd x5 x12) < (rd x5 x11))) x11 (wrap64 (x12 + 1))) else (arboristlaw07_BuiltPairs.l2 k x3 x4 x5 x6 ((rd x5 x11) != (rd x5 x12)) false false x11 (wrap64 (x12 + 1))))) else (none)) else (none)) else (none)) else (none)) else (if x9 = true then (if 0 ≤ x11 then (if x11 < (x5.length : Int) then (if 0 ≤ x12 then (if x12 < (x5.length : Int) then (if x10 = true then (arboristlaw07_BuiltPairs.l2 k x3 x4 x5 x6 false ((rd x5 x11) == (rd x5 x12)) (decide ((rd x5 x12) < (rd x5 x11))) x11 (wrap64 (x12 + 1))) else (arboristlaw07_BuiltPairs.l2 k x3 x4 x5 x6 false ((rd x5 x11) == (rd x5 x12)) false x11 (wrap64 (x12 + 1)))) else (none)) else (none)) else (none)) else (none)) else (if x10 = true then (if 0 ≤ x12 then (if x12 < (x5.length : Int) then (if 0 ≤ x11 then (if x11 < (x5.length : Int) then (arboristlaw07_BuiltPairs.l2 k x3 x4 x5 x6 false false (decide ((rd x5 x12) < (rd x5 x11))) x11 (wrap64 (x12 + 1))) else (none)) else (none)) else (none)) else (none)) else (arboristlaw07_BuiltPairs.l2 k x3 x4 x5 x6 false false false x11 (wrap64 (x12 + 1)))))) else (arboristlaw07_BuiltPairs.l1 k x3 x4 x5 x6 x8 x9 x10 (wrap64 (x11 + 1)))
end
def arboristlaw07_BuiltPairs.f (k : Nat) (l0 : List Int) : Option (Bool) := (arboristlaw07_shown.f).bind fun t569 => (if (mn (l0.length : Int) 6) = 0 then (some t569) else (arboristlaw07_BuiltPairs.l0 k l0 t569 (mn (l0.length : Int) 6) ([] : List Int) ([] : List Int) 0))
theorem arboristlaw07_BuiltPairs.mono_l : ∀ k, (∀ y0 y1 y2 y3 y4 y5, LeO (arboristlaw07_BuiltPairs.l0 k y0 y1 y2 y3 y4 y5) (arboristlaw07_BuiltPairs.l0 (k + 1) y0 y1 y2 y3 y4 y5)) ∧ (∀ y0 y1 y2 y3 y4 y5 y6 y7, LeO (arboristlaw07_BuiltPairs.l1 k y0 y1 y2 y3 y4 y5 y6 y7) (arboristlaw07_BuiltPairs.l1 (k + 1) y0 y1 y2 y3 y4 y5 y6 y7)) ∧ (∀ y0 y1 y2 y3 y4 y5 y6 y7 y8, LeO (arboristlaw07_BuiltPairs.l2 k y0 y1 y2 y3 y4 y5 y6 y7 y8) (arboristlaw07_BuiltPairs.l2 (k + 1) y0 y1 y2 y3 y4 y5 y6 y7 y8))
  | 0 => ⟨fun _ _ _ _ _ _ r h => by simp [arboristlaw07_BuiltPairs.l0] at h, fun _ _ _ _ _ _ _ _ r h => by simp [arboristlaw07_BuiltPairs.l1] at h, fun _ _ _ _ _ _ _ _ _ r h => by simp [arboristlaw07_BuiltPairs.l2] at h⟩
  | k + 1 => by
    obtain ⟨ih0, ih1, ih2⟩ := arboristlaw07_BuiltPairs.mono_l k
    refine ⟨?_, ?_, ?_⟩
    all_goals intros
    all_goals (first | unfold arboristlaw07_BuiltPairs.l0 | unfold arboristlaw07_BuiltPairs.l1 | unfold arboristlaw07_BuiltPairs.l2)
    all_goals repeat' first
    | (with_reducible exact ih0 _ _ _ _ _ _)
    | (with_reducible exact ih1 _ _ _ _ _ _ _ _)
    | (with_reducible exact ih2 _ _ _ _ _ _ _ _ _)
    | (with_reducible exact LeO.refl _)
    | (with_reducible exact LeO.none _)
    | (with_reducible refine LeO.ite ?_ ?_)
    | (with_reducible refine LeO.bind ?_ (fun _ => ?_))
    | exact ih0 _ _ _ _ _ _
    | exact ih1 _ _ _ _ _ _ _ _
    | exact ih2 _ _ _ _ _ _ _ _ _
    | exact LeO.none _
    | refine LeO.ite ?_ ?_
    | refine LeO.bind ?_ (fun _ => ?_)
theorem arboristlaw07_BuiltPairs.mono : ∀ a0 k, LeO (arboristlaw07_BuiltPairs.f k a0) (arboristlaw07_BuiltPairs.f (k + 1) a0) := by
  intro a0 k
  obtain ⟨ih0, ih1, ih2⟩ := arboristlaw07_BuiltPairs.mono_l k
  unfold arboristlaw07_BuiltPairs.f
  repeat' first
      | (with_reducible exact ih0 _ _ _ _ _ _)
      | (with_reducible exact ih1 _ _ _ _ _ _ _ _)
      | (with_reducible exact ih2 _ _ _ _ _ _ _ _ _)
      | (with_reducible exact LeO.refl _)
      | (with_reducible exact LeO.none _)
      | (with_reducible refine LeO.ite ?_ ?_)
      | (with_reducible refine LeO.bind ?_ (fun _ => ?_))
      | exact ih0 _ _ _ _ _ _
      | exact ih1 _ _ _ _ _ _ _ _
      | exact ih2 _ _ _ _ _ _ _ _ _
      | exact LeO.none _
      | refine LeO.ite ?_ ?_
      | refine LeO.bind ?_ (fun _ => ?_)
set_option maxHeartbeats 8000000 in
set_option maxRecDepth 100000 in
theorem arboristlaw07_BuiltPairs.calls (k : Nat) (A0 : Option Addr) (c0 : Nat) (l0 : List Int) (r : Bool) (w : World) (hr0 : Kd.C (Kd.int .i64) w A0 l0.length l0) (hc0 : l0.length ≤ c0) (hT : r = true) (h : arboristlaw07_BuiltPairs.f k l0 = some r) :
    Calls Try.prog 6 #[.slice A0 l0.length c0] w fun e w' => e = .returned (.bool r) ∧ Below w.heap.size w w' := by
  have HT_ := Aside0.mk (show r = true from hT)
  clear hT
  have hu40 := Try.underlying40
  have HR0 := Aside0.mk hr0
  have HC0 := Aside0.mk hc0
  clear hr0 hc0
  have HB := Aside0.mk (Below.refl w.heap.size w)
  have H : ((arboristlaw07_shown.f).bind fun t569 => (if (mn (l0.length : Int) 6) = 0 then (some t569) else (arboristlaw07_BuiltPairs.l0 k l0 t569 (mn (l0.length : Int) 6) ([] : List Int) ([] : List Int) 0))) = some r := h
  clear h
  replace H := Option.bind_eq_some_iff.mp H
  obtain ⟨t569, A20, H⟩ := H
  replace H : (if (mn (l0.length : Int) 6) = 0 then (some t569) else (arboristlaw07_BuiltPairs.l0 k l0 t569 (mn (l0.length : Int) 6) ([] : List Int) ([] : List Int) 0)) = some r := H
  have A2 := Aside0.mk A20
  clear A20
  obtain ⟨ji3, hji3⟩ : ∃ j_ : Int, (mn (l0.length : Int) 6) = j_ := ⟨_, rfl⟩
  replace H : (if (ji3) = 0 then (some t569) else (arboristlaw07_BuiltPairs.l0 k l0 t569 ji3 ([] : List Int) ([] : List Int) 0)) = some r := by first | (rw [hji3] at H; exact H) | (simp only [hji3] at H ⊢; exact H)
  (try rw [hji3] at A2)
  (try (have hji3h : ji3 ≤ 6 := by (rw [← hji3]; unfold mn; (repeat' split) <;> omega)))
  (try (have hji3g : ji3 ≤ 64 := by omega))
  (try (have hji3l : 0 ≤ ji3 := by (rw [← hji3]; unfold mn; (repeat' split) <;> omega)))
  (try (have hji3m : 0 ≤ ji3 := by omega))
  have hji3_ : (if 6 < (l0.length : Int) then 6 else (l0.length : Int)) = ji3 := hji3
  by_cases c4 : (ji3) = 0
  · rw [if_pos c4] at H
    have c4b0 : ((ji3) == 0) = true := beq_iff_eq.mpr c4
    have c4b1 : ((ji3) != 0) = false := bne_eq_false_iff_eq.mpr c4
    clear c4
    obtain rfl := Option.some.inj H
    go_enter Try.func6, Try.ntmps6
    go_wp2_with (first | (go_at_call 9; (with_reducible refine (arboristlaw07_shown.calls  t569 _ A2.out).mono ?_); rintro e w5 ⟨rfl, hb⟩; have n0_ := Aside0.mk (below_step (by repeat (first | (with_reducible first | exact HB.out | apply below_alloc | apply pw_below_drewN | apply below_drew1) | exact HB.out)) hb); clear HB; have HB := n0_; clear n0_; (try clear hb); (try clear hb2); (try clear hk); (try clear hi)))
    repeat (go_quiet (first | (go_at_call 9; (with_reducible refine (arboristlaw07_shown.calls  t569 _ A2.out).mono ?_); rintro e w5 ⟨rfl, hb⟩; have n0_ := Aside0.mk (below_step (by repeat (first | (with_reducible first | exact HB.out | apply below_alloc | apply pw_below_drewN | apply below_drew1) | exact HB.out)) hb); clear HB; have HB := n0_; clear n0_; (try clear hb); (try clear hb2); (try clear hk); (try clear hi))); try go_wp2_with (first | (go_at_call 9; (with_reducible refine (arboristlaw07_shown.calls  t569 _ A2.out).mono ?_); rintro e w5 ⟨rfl, hb⟩; have n0_ := Aside0.mk (below_step (by repeat (first | (with_reducible first | exact HB.out | apply below_alloc | apply pw_below_drewN | apply below_drew1) | exact HB.out)) hb); clear HB; have HB := n0_; clear n0_; (try clear hb); (try clear hb2); (try clear hk); (try clear hi))))
    go_ret
    exact ⟨by first | rfl | (simp [errW_none, errW_some] <;> rfl) | (simp only [← hji3]; first | rfl | (simp [errW_none, errW_some] <;> rfl)) | (simp [*, errW_none, errW_some] <;> rfl), by repeat (first | (with_reducible first | exact HB.out | apply below_alloc | apply pw_below_drewN | apply below_drew1) | exact HB.out)⟩
  · rw [if_neg c4] at H
    have c4b0 : ((ji3) == 0) = false := beq_eq_false_iff_ne.mpr c4
    have c4b1 : ((ji3) != 0) = true := bne_iff_ne.mpr c4
    have H' := Aside0.mk H
    clear H
    go_enter Try.func6, Try.ntmps6
    go_wp2_with (first | (go_at_call 9; (with_reducible refine (arboristlaw07_shown.calls  t569 _ A2.out).mono ?_); rintro e w6 ⟨rfl, hb⟩; have n0_ := Aside0.mk (below_step (by repeat (first | (with_reducible first | exact HB.out | apply below_alloc | apply pw_below_drewN | apply below_drew1) | exact HB.out)) hb); clear HB; have HB := n0_; clear n0_; (try clear hb); (try clear hb2); (try clear hk); (try clear hi)))
    repeat (go_quiet (first | (go_at_call 9; (with_reducible refine (arboristlaw07_shown.calls  t569 _ A2.out).mono ?_); rintro e w6 ⟨rfl, hb⟩; have n0_ := Aside0.mk (below_step (by repeat (first | (with_reducible first | exact HB.out | apply below_alloc | apply pw_below_drewN | apply below_drew1) | exact HB.out)) hb); clear HB; have HB := n0_; clear n0_; (try clear hb); (try clear hb2); (try clear hk); (try clear hi))); try go_wp2_with (first | (go_at_call 9; (with_reducible refine (arboristlaw07_shown.calls  t569 _ A2.out).mono ?_); rintro e w6 ⟨rfl, hb⟩; have n0_ := Aside0.mk (below_step (by repeat (first | (with_reducible first | exact HB.out | apply below_alloc | apply pw_below_drewN | apply below_drew1) | exact HB.out)) hb); clear HB; have HB := n0_; clear n0_; (try clear hb); (try clear hb2); (try clear hk); (try clear hi))))
    go_loopg [5, 6, 7] k (fun kq v5 v6 v7 w' => ∃ (x5_1 : List Int) (x6_1 : List Int) (x7_1 : Int), v7 = .int .i64 x7_1 ∧ Aside0 (arboristlaw07_BuiltPairs.l0 kq l0 t569 ji3 x5_1 x6_1 x7_1 = some r) ∧ Aside0 (kq ≤ k) ∧ Aside0 (Kd.R (Kd.int .i64) 3 w' w.heap.size (fun k_ => some k_ ≠ (v6 : Value).ownBlock) v5 x5_1) ∧ Aside0 (Kd.R (Kd.int .i64) 3 w' w.heap.size (fun k_ => some k_ ≠ (v5 : Value).ownBlock) v6 x6_1) ∧ Aside0 (Below w.heap.size w w'))
    case atStart => exact ⟨(([] : List Int)), (([] : List Int)), (0), (by first | rfl | (simp; done) | (simp [*]; done)), H', ⟨Nat.le_refl _⟩, ⟨by first | exact Kd.R_nil _ _ _ _ _ | exact Kd.N_nil _ _ _ _ _ | exact Kd.V_nil _ _ _ _ _ | exact Kd.Q_nil _ _ _ _ _ | exact Kd.S_nil _ _ _ _ _⟩, ⟨by first | exact Kd.R_nil _ _ _ _ _ | exact Kd.N_nil _ _ _ _ _ | exact Kd.V_nil _ _ _ _ _ | exact Kd.Q_nil _ _ _ _ _ | exact Kd.S_nil _ _ _ _ _⟩, ⟨by repeat (first | (with_reducible first | exact HB.out | apply below_alloc | apply pw_below_drewN | apply below_drew1) | exact HB.out)⟩⟩
    case round =>
      clear H'
      try clear p2
      try clear c4
      try clear c4b0
      try clear c4b1
      try clear c6
      obtain ⟨x5_1, x6_1, x7_1, rfl, HA, HK1, HO_5, HO_6, HB⟩ := hrel
      cases gk with
      | zero => exact absurd HA.out (by simp [arboristlaw07_BuiltPairs.l0])
      | succ k1 =>
        have H := HA.out
        clear HA
        simp only [arboristlaw07_BuiltPairs.l0] at H
        by_cases c7 : x7_1 < ji3
        · rw [if_pos c7] at H
          have c7b0 : decide (x7_1 < ji3) = true := decide_eq_true c7
          clear c7
          by_cases c8 : 0 ≤ x7_1
          · rw [if_pos c8] at H
            have c8b0 : decide (0 ≤ x7_1) = true := decide_eq_true c8
            clear c8
            by_cases c9 : x7_1 < (l0.length : Int)
            · rw [if_pos c9] at H
              have c9b0 : decide (x7_1 < (l0.length : Int)) = true := decide_eq_true c9
              clear c9
              by_cases c10 : x5_1.length < 17592186044416
              · rw [if_pos c10] at H
                have LMc10 := Aside0.mk c10
                clear c10
                obtain ⟨y571, hy571⟩ : ∃ y_ : List Int, y_ = (x5_1 ++ [Int.tmod (rd l0 x7_1) 1000000]) := ⟨_, rfl⟩
                replace H : (if x6_1.length < 17592186044416 then (arboristlaw07_BuiltPairs.l0 k1 l0 t569 ji3 y571 (x6_1 ++ [x7_1]) (wrap64 (x7_1 + 1))) else (none)) = some r := by first | (rw [hy571]; with_reducible exact H) | (have H2_ := (Option.bind_some _ _).symm.trans H; rw [hy571]; with_reducible exact H2_) | (have H2_ := (Option.bind_some _ _).symm.trans H; with_reducible exact H2_) | with_reducible exact H | (rw [hy571]; exact H) | exact H
                have Ny571 := Aside0.mk hy571
                clear hy571
                by_cases c11 : x6_1.length < 17592186044416
                · rw [if_pos c11] at H
                  have LMc11 := Aside0.mk c11
                  clear c11
                  obtain ⟨y574, hy574⟩ : ∃ y_ : List Int, y_ = (x6_1 ++ [x7_1]) := ⟨_, rfl⟩
                  replace H : (arboristlaw07_BuiltPairs.l0 k1 l0 t569 ji3 y571 y574 (wrap64 (x7_1 + 1))) = some r := by first | (rw [hy574]; with_reducible exact H) | (have H2_ := (Option.bind_some _ _).symm.trans H; rw [hy574]; with_reducible exact H2_) | (have H2_ := (Option.bind_some _ _).symm.trans H; with_reducible exact H2_) | with_reducible exact H | (rw [hy574]; exact H) | exact H
                  have Ny574 := Aside0.mk hy574
                  clear hy574
                  have H' := Aside0.mk H
                  clear H
                  have p570 : 0 ≤ (x7_1 : Int) := of_decide_eq_true (by first | (with_reducible assumption) | assumption)
                  have q570 : x7_1 < (l0.length : Int) := of_decide_eq_true (by first | (with_reducible assumption) | assumption)
                  obtain ⟨ad570, e570, hx570_0⟩ := Kd.at_int HR0.out x7_1 p570 q570
                  cases e570
                  replace hx570_0 := (HB.out.cell (World.block_lt_of_cell? w _ hx570_0)).trans hx570_0
                  replace p570 := eq_true p570
                  replace q570 := eq_true q570
                  go_wp2_with (first | ((with_reducible refine gate_builtin (b := .append) (xs := #[.tmp 25, .tmp 31]) rfl ?_); at_builtin; refine Kd.R_append (Kd.int .i64) (w0 := w) w.heap.size rfl (.tmp 25) (.tmp 31) 23 3 (.int .i64 0) 8 rfl Try.underlying23 info3 rfl (by decide) (by omega) u5 x5_1 (Int.tmod (rd l0 x7_1) 1000000) [.int .i64 (Int.tmod (rd l0 x7_1) 1000000)] (fun k_ => some k_ ≠ (u6 : Value).ownBlock) (fun _ => False) rfl rfl ?aP (fun _ hk => hk.elim) ?aF ?aO ?aB ?aS ?aL ?_; (case aP => exact rfl); (case aB => exact (by repeat (first | (with_reducible first | exact HB.out | apply below_alloc | apply pw_below_drewN | apply below_drew1) | exact HB.out))); (case aF => exact (fun k_ hk => Kd.fresh' (Kd.R_lt (by (with_reducible repeat (first | apply Kd.R_alloc | apply Kd.R_drewN | apply Kd.R_drew)); exact HO_6.out)) k_ hk)); (case aO => exact (by (with_reducible repeat (first | apply Kd.R_alloc | apply Kd.R_drewN | apply Kd.R_drew)); exact HO_5.out)); (case aS => exact (below_size (by repeat (first | (with_reducible first | exact HB.out | apply below_alloc | apply pw_below_drewN | apply below_drew1) | exact HB.out)))); (case aL => have := LMc10.out; omega); intro v572 w12 ho hb hg hat; rw [← Ny571.out] at ho; have n0_ := Aside0.mk (Kd.R_after (ok := (fun _ => True)) (by (with_reducible repeat (first | apply Kd.R_alloc | apply Kd.R_drewN | apply Kd.R_drew)); exact Kd.R_mono HO_6.out (fun _ hk => ⟨trivial, hk⟩)) hg hat); have n1_ := Aside0.mk (hb); have n2_ := Aside0.mk (ho); clear HO_6; clear HB; clear HO_5; have HO_6 := n0_; have HB := n1_; have HO573 := n2_; clear n0_ n1_ n2_; clear ho hb hg hat) | ((with_reducible refine gate_builtin (b := .append) (xs := #[.tmp 33, .tmp 35]) rfl ?_); at_builtin; refine Kd.R_append (Kd.int .i64) (w0 := w) w.heap.size rfl (.tmp 33) (.tmp 35) 23 3 (.int .i64 0) 8 rfl Try.underlying23 info3 rfl (by decide) (by omega) u6 x6_1 x7_1 [.int .i64 x7_1] (fun k_ => some k_ ≠ (v572 : Value).ownBlock) (fun _ => False) rfl rfl ?aP (fun _ hk => hk.elim) ?aF ?aO ?aB ?aS ?aL ?_; (case aP => exact rfl); (case aB => exact (by repeat (first | (with_reducible first | exact HB.out | apply below_alloc | apply pw_below_drewN | apply below_drew1) | exact HB.out))); (case aF => exact (fun k_ hk => Kd.fresh' (Kd.R_lt (by (with_reducible repeat (first | apply Kd.R_alloc | apply Kd.R_drewN | apply Kd.R_drew)); exact HO573.out)) k_ hk)); (case aO => exact (by (with_reducible repeat (first | apply Kd.R_alloc | apply Kd.R_drewN | apply Kd.R_drew)); exact Kd.R_mono HO_6.out (fun _ hk => hk.2))); (case aS => exact (below_size (by repeat (first | (with_reducible first | exact HB.out | apply below_alloc | apply pw_below_drewN | apply below_drew1) | exact HB.out)))); (case aL => have := LMc11.out; omega); intro v575 w13 ho hb hg hat; rw [← Ny574.out] at ho; have n0_ := Aside0.mk (Kd.R_after (ok := (fun _ => True)) (by (with_reducible repeat (first | apply Kd.R_alloc | apply Kd.R_drewN | apply Kd.R_drew)); exact Kd.R_mono HO573.out (fun _ hk => ⟨trivial, hk⟩)) hg hat); have n1_ := Aside0.mk (hb); have n2_ := Aside0.mk (ho); clear HO573; clear HB; clear HO_6; have HO573 := n0_; have HB := n1_; have HO576 := n2_; clear n0_ n1_ n2_; clear ho hb hg hat))
                  repeat (go_quiet (first | ((with_reducible refine gate_builtin (b := .append) (xs := #[.tmp 25, .tmp 31]) rfl ?_); at_builtin; refine Kd.R_append (Kd.int .i64) (w0 := w) w.heap.size rfl (.tmp 25) (.tmp 31) 23 3 (.int .i64 0) 8 rfl Try.underlying23 info3 rfl (by decide) (by omega) u5 x5_1 (Int.tmod (rd l0 x7_1) 1000000) [.int .i64 (Int.tmod (rd l0 x7_1) 1000000)] (fun k_ => some k_ ≠ (u6 : Value).ownBlock) (fun _ => False) rfl rfl ?aP (fun _ hk => hk.elim) ?aF ?aO ?aB ?aS ?aL ?_; (case aP => exact rfl); (case aB => exact (by repeat (first | (with_reducible first | exact HB.out | apply below_alloc | apply pw_below_drewN | apply below_drew1) | exact HB.out))); (case aF => exact (fun k_ hk => Kd.fresh' (Kd.R_lt (by (with_reducible repeat (first | apply Kd.R_alloc | apply Kd.R_drewN | apply Kd.R_drew)); exact HO_6.out)) k_ hk)); (case aO => exact (by (with_reducible repeat (first | apply Kd.R_alloc | apply Kd.R_drewN | apply Kd.R_drew)); exact HO_5.out)); (case aS => exact (below_size (by repeat (first | (with_reducible first | exact HB.out | apply below_alloc | apply pw_below_drewN | apply below_drew1) | exact HB.out)))); (case aL => have := LMc10.out; omega); intro v572 w12 ho hb hg hat; rw [← Ny571.out] at ho; have n0_ := Aside0.mk (Kd.R_after (ok := (fun _ => True)) (by (with_reducible repeat (first | apply Kd.R_alloc | apply Kd.R_drewN | apply Kd.R_drew)); exact Kd.R_mono HO_6.out (fun _ hk => ⟨trivial, hk⟩)) hg hat); have n1_ := Aside0.mk (hb); have n2_ := Aside0.mk (ho); clear HO_6; clear HB; clear HO_5; have HO_6 := n0_; have HB := n1_; have HO573 := n2_; clear n0_ n1_ n2_; clear ho hb hg hat) | ((with_reducible refine gate_builtin (b := .append) (xs := #[.tmp 33, .tmp 35]) rfl ?_); at_builtin; refine Kd.R_append (Kd.int .i64) (w0 := w) w.heap.size rfl (.tmp 33) (.tmp 35) 23 3 (.int .i64 0) 8 rfl Try.underlying23 info3 rfl (by decide) (by omega) u6 x6_1 x7_1 [.int .i64 x7_1] (fun k_ => some k_ ≠ (v572 : Value).ownBlock) (fun _ => False) rfl rfl ?aP (fun _ hk => hk.elim) ?aF ?aO ?aB ?aS ?aL ?_; (case aP => exact rfl); (case aB => exact (by repeat (first | (with_reducible first | exact HB.out | apply below_alloc | apply pw_below_drewN | apply below_drew1) | exact HB.out))); (case aF => exact (fun k_ hk => Kd.fresh' (Kd.R_lt (by (with_reducible repeat (first | apply Kd.R_alloc | apply Kd.R_drewN | apply Kd.R_drew)); exact HO573.out)) k_ hk)); (case aO => exact (by (with_reducible repeat (first | apply Kd.R_alloc | apply Kd.R_drewN | apply Kd.R_drew)); exact Kd.R_mono HO_6.out (fun _ hk => hk.2))); (case aS => exact (below_size (by repeat (first | (with_reducible first | exact HB.out | apply below_alloc | apply pw_below_drewN | apply below_drew1) | exact HB.out)))); (case aL => have := LMc11.out; omega); intro v575 w13 ho hb hg hat; rw [← Ny574.out] at ho; have n0_ := Aside0.mk (Kd.R_after (ok := (fun _ => True)) (by (with_reducible repeat (first | apply Kd.R_alloc | apply Kd.R_drewN | apply Kd.R_drew)); exact Kd.R_mono HO573.out (fun _ hk => ⟨trivial, hk⟩)) hg hat); have n1_ := Aside0.mk (hb); have n2_ := Aside0.mk (ho); clear HO573; clear HB; clear HO_6; have HO573 := n0_; have HB := n1_; have HO576 := n2_; clear n0_ n1_ n2_; clear ho hb hg hat)); try go_wp2_with (first | ((with_reducible refine gate_builtin (b := .append) (xs := #[.tmp 25, .tmp 31]) rfl ?_); at_builtin; refine Kd.R_append (Kd.int .i64) (w0 := w) w.heap.size rfl (.tmp 25) (.tmp 31) 23 3 (.int .i64 0) 8 rfl Try.underlying23 info3 rfl (by decide) (by omega) u5 x5_1 (Int.tmod (rd l0 x7_1) 1000000) [.int .i64 (Int.tmod (rd l0 x7_1) 1000000)] (fun k_ => some k_ ≠ (u6 : Value).ownBlock) (fun _ => False) rfl rfl ?aP (fun _ hk => hk.elim) ?aF ?aO ?aB ?aS ?aL ?_; (case aP => exact rfl); (case aB => exact (by repeat (first | (with_reducible first | exact HB.out | apply below_alloc | apply pw_below_drewN | apply below_drew1) | exact HB.out))); (case aF => exact (fun k_ hk => Kd.fresh' (Kd.R_lt (by (with_reducible repeat (first | apply Kd.R_alloc | apply Kd.R_drewN | apply Kd.R_drew)); exact HO_6.out)) k_ hk)); (case aO => exact (by (with_reducible repeat (first | apply Kd.R_alloc | apply Kd.R_drewN | apply Kd.R_drew)); exact HO_5.out)); (case aS => exact (below_size (by repeat (first | (with_reducible first | exact HB.out | apply below_alloc | apply pw_below_drewN | apply below_drew1) | exact HB.out)))); (case aL => have := LMc10.out; omega); intro v572 w12 ho hb hg hat; rw [← Ny571.out] at ho; have n0_ := Aside0.mk (Kd.R_after (ok := (fun _ => True)) (by (with_reducible repeat (first | apply Kd.R_alloc | apply Kd.R_drewN | apply Kd.R_drew)); exact Kd.R_mono HO_6.out (fun _ hk => ⟨trivial, hk⟩)) hg hat); have n1_ := Aside0.mk (hb); have n2_ := Aside0.mk (ho); clear HO_6; clear HB; clear HO_5; have HO_6 := n0_; have HB := n1_; have HO573 := n2_; clear n0_ n1_ n2_; clear ho hb hg hat) | ((with_reducible refine gate_builtin (b := .append) (xs := #[.tmp 33, .tmp 35]) rfl ?_); at_builtin; refine Kd.R_append (Kd.int .i64) (w0 := w) w.heap.size rfl (.tmp 33) (.tmp 35) 23 3 (.int .i64 0) 8 rfl Try.underlying23 info3 rfl (by decide) (by omega) u6 x6_1 x7_1 [.int .i64 x7_1] (fun k_ => some k_ ≠ (v572 : Value).ownBlock) (fun _ => False) rfl rfl ?aP (fun _ hk => hk.elim) ?aF ?aO ?aB ?aS ?aL ?_; (case aP => exact rfl); (case aB => exact (by repeat (first | (with_reducible first | exact HB.out | apply below_alloc | apply pw_below_drewN | apply below_drew1) | exact HB.out))); (case aF => exact (fun k_ hk => Kd.fresh' (Kd.R_lt (by (with_reducible repeat (first | apply Kd.R_alloc | apply Kd.R_drewN | apply Kd.R_drew)); exact HO573.out)) k_ hk)); (case aO => exact (by (with_reducible repeat (first | apply Kd.R_alloc | apply Kd.R_drewN | apply Kd.R_drew)); exact Kd.R_mono HO_6.out (fun _ hk => hk.2))); (case aS => exact (below_size (by repeat (first | (with_reducible first | exact HB.out | apply below_alloc | apply pw_below_drewN | apply below_drew1) | exact HB.out)))); (case aL => have := LMc11.out; omega); intro v575 w13 ho hb hg hat; rw [← Ny574.out] at ho; have n0_ := Aside0.mk (Kd.R_after (ok := (fun _ => True)) (by (with_reducible repeat (first | apply Kd.R_alloc | apply Kd.R_drewN | apply Kd.R_drew)); exact Kd.R_mono HO573.out (fun _ hk => ⟨trivial, hk⟩)) hg hat); have n1_ := Aside0.mk (hb); have n2_ := Aside0.mk (ho); clear HO573; clear HB; clear HO_6; have HO573 := n0_; have HB := n1_; have HO576 := n2_; clear n0_ n1_ n2_; clear ho hb hg hat)))
                  first | go_roundg k1 | (simp only [← hji3]; (try simp only [← hji3] at H'); go_roundg k1)
                  case measure => have := HK1.out; omega
                  case rel => exact ⟨(y571), (y574), (wrap64 (x7_1 + 1)), (by first | rfl | (simp; done) | (simp [*]; done)), H', ⟨by have := HK1.out; omega⟩, ⟨by (with_reducible repeat (first | apply Kd.R_alloc | apply Kd.R_drewN | apply Kd.R_drew)); exact Kd.R_mono HO573.out (fun _ hk => hk.2)⟩, ⟨by (with_reducible repeat (first | apply Kd.R_alloc | apply Kd.R_drewN | apply Kd.R_drew)); exact HO576.out⟩, ⟨by repeat (first | (with_reducible first | exact HB.out | apply below_alloc | apply pw_below_drewN | apply below_drew1) | exact HB.out)⟩⟩
                · rw [if_neg c11] at H
                  exact absurd H (by simp)
              · rw [if_neg c10] at H
                exact absurd H (by simp)
            · rw [if_neg c9] at H
              exact absurd H (by simp)
          · rw [if_neg c8] at H
            exact absurd H (by simp)
        · rw [if_neg c7] at H
          have c7b0 : decide (x7_1 < ji3) = false := decide_eq_false c7
          clear c7
          have H' := Aside0.mk H
          clear H
          go_wp2
          repeat (go_quiet (fail); try go_wp2)
          go_loopg [8, 9, 10, 11] k1 (fun kq v8 v9 v10 v11 w' => ∃ (x8_2 : Bool) (x9_2 : Bool) (x10_2 : Bool) (x11_2 : Int), v8 = .bool x8_2 ∧ v9 = .bool x9_2 ∧ v10 = .bool x10_2 ∧ v11 = .int .i64 x11_2 ∧ Aside0 (arboristlaw07_BuiltPairs.l1 kq t569 ji3 x5_1 x6_1 x8_2 x9_2 x10_2 x11_2 = some r) ∧ Aside0 (kq ≤ k1) ∧ Aside0 (Kd.R (Kd.int .i64) 3 w' w.heap.size (fun k_ => some k_ ≠ (u6 : Value).ownBlock) u5 x5_1) ∧ Aside0 (Kd.R (Kd.int .i64) 3 w' w.heap.size (fun k_ => some k_ ≠ (u5 : Value).ownBlock) u6 x6_1) ∧ Aside0 (Below w.heap.size w w'))
          case atStart => exact ⟨(true), (true), (true), (0), (by first | rfl | (simp; done) | (simp [*]; done)), (by first | rfl | (simp; done) | (simp [*]; done)), (by first | rfl | (simp; done) | (simp [*]; done)), (by first | rfl | (simp; done) | (simp [*]; done)), H', ⟨Nat.le_refl _⟩, ⟨by (with_reducible repeat (first | apply Kd.R_alloc | apply Kd.R_drewN | apply Kd.R_drew)); exact HO_5.out⟩, ⟨by (with_reducible repeat (first | apply Kd.R_alloc | apply Kd.R_drewN | apply Kd.R_drew)); exact HO_6.out⟩, ⟨by repeat (first | (with_reducible first | exact HB.out | apply below_alloc | apply pw_below_drewN | apply below_drew1) | exact HB.out)⟩⟩
          case round =>
            clear H'
            try clear c1
            try clear p2
            try clear c4
            try clear c4b0
            try clear c4b1
            try clear p5
            try clear q5
            try clear hx5
            try clear c6
            try clear p6
            try clear c7
            try clear c7b0
            try clear c8
            try clear c8b0
            try clear c9
            try clear c9b0
            try clear c10
            try clear c11
            try clear hx570_0
            try clear p2
            try clear p570
            try clear q570
            obtain ⟨x8_2, x9_2, x10_2, x11_2, rfl, rfl, rfl, rfl, HA, HK2, HO_5, HO_6, HB⟩ := hrel
            cases gk with
            | zero => exact absurd HA.out (by simp [arboristlaw07_BuiltPairs.l1])
            | succ k2 =>
              have H := HA.out
              clear HA
              simp only [arboristlaw07_BuiltPairs.l1] at H
              by_cases c14 : x11_2 < ji3
              · rw [if_pos c14] at H
                have c14b0 : decide (x11_2 < ji3) = true := decide_eq_true c14
                clear c14
                have H' := Aside0.mk H
                clear H
                go_wp2
                repeat (go_quiet (fail); try go_wp2)
                go_loopg [8, 9, 10, 12] k2 (fun kq v8 v9 v10 v12 w' => ∃ (x8_3 : Bool) (x9_3 : Bool) (x10_3 : Bool) (x12_3 : Int), v8 = .bool x8_3 ∧ v9 = .bool x9_3 ∧ v10 = .bool x10_3 ∧ v12 = .int .i64 x12_3 ∧ Aside0 (arboristlaw07_BuiltPairs.l2 kq t569 ji3 x5_1 x6_1 x8_3 x9_3 x10_3 x11_2 x12_3 = some r) ∧ Aside0 (kq ≤ k2) ∧ Aside0 (Kd.R (Kd.int .i64) 3 w' w.heap.size (fun k_ => some k_ ≠ (u6 : Value).ownBlock) u5 x5_1) ∧ Aside0 (Kd.R (Kd.int .i64) 3 w' w.heap.size (fun k_ => some k_ ≠ (u5 : Value).ownBlock) u6 x6_1) ∧ Aside0 (Below w.heap.size w w'))
                case atStart => exact ⟨(x8_2), (x9_2), (x10_2), (0), (by first | rfl | (simp; done) | (simp [*]; done)), (by first | rfl | (simp; done) | (simp [*]; done)), (by first | rfl | (simp; done) | (simp [*]; done)), (by first | rfl | (simp; done) | (simp [*]; done)), H', ⟨Nat.le_refl _⟩, ⟨by (with_reducible repeat (first | apply Kd.R_alloc | apply Kd.R_drewN | apply Kd.R_drew)); exact HO_5.out⟩, ⟨by (with_reducible repeat (first | apply Kd.R_alloc | apply Kd.R_drewN | apply Kd.R_drew)); exact HO_6.out⟩, ⟨by repeat (first | (with_reducible first | exact HB.out | apply below_alloc | apply pw_below_drewN | apply below_drew1) | exact HB.out)⟩⟩
                case round =>
                  clear H'
                  try clear c1
                  try clear p2
                  try clear c4
                  try clear c4b0
                  try clear c4b1
                  try clear p5
                  try clear q5
                  try clear hx5
                  try clear c6
                  try clear p6
                  try clear c7
                  try clear c7b0
                  try clear c8
                  try clear c8b0
                  try clear c9
                  try clear c9b0
                  try clear c10
                  try clear c11
                  try clear c14
                  try clear c14b0
                  try clear hx570_0
                  try clear p2
                  try clear p5
                  try clear p570
                  try clear p6
                  try clear q5
                  try clear q570
                  obtain ⟨x8_3, x9_3, x10_3, x12_3, rfl, rfl, rfl, rfl, HA, HK3, HO_5, HO_6, HB⟩ := hrel
                  cases gk with
                  | zero => exact absurd HA.out (by simp [arboristlaw07_BuiltPairs.l2])
                  | succ k3 =>
                    have H := HA.out
                    clear HA
                    simp only [arboristlaw07_BuiltPairs.l2] at H
                    by_cases c15 : x12_3 < x11_2
                    · rw [if_pos c15] at H
                      have c15b0 : decide (x12_3 < x11_2) = true := decide_eq_true c15
                      clear c15
                      by_cases c16 : x8_3 = true
                      · subst c16
                        have H1 : (if 0 ≤ x11_2 then (if x11_2 < (x5_1.length : Int) then (if 0 ≤ x12_3 then (if x12_3 < (x5_1.length : Int) then (if x9_3 = true then (if x10_3 = true then (arboristlaw07_BuiltPairs.l2 k3 t569 ji3 x5_1 x6_1 ((rd x5_1 x11_2) != (rd x5_1 x12_3)) ((rd x5_1 x11_2) == (rd x5_1 x12_3)) (decide ((rd x5_1 x12_3) < (rd x5_1 x11_2))) x11_2 (wrap64 (x12_3 + 1))) else (arboristlaw07_BuiltPairs.l2 k3 t569 ji3 x5_1 x6_1 ((rd x5_1 x11_2) != (rd x5_1 x12_3)) ((rd x5_1 x11_2) == (rd x5_1 x12_3)) false x11_2 (wrap64 (x12_3 + 1)))) else (if x10_3 = true then (arboristlaw07_BuiltPairs.l2 k3 t569 ji3 x5_1 x6_1 ((rd x5_1 x11_2) != (rd x5_1 x12_3)) false (decide ((rd x5_1 x12_3) < (rd x5_1 x11_2))) x11_2 (wrap64 (x12_3 + 1))) else (arboristlaw07_BuiltPairs.l2 k3 t569 ji3 x5_1 x6_1 ((rd x5_1 x11_2) != (rd x5_1 x12_3)) false false x11_2 (wrap64 (x12_3 + 1))))) else (none)) else (none)) else (none)) else (none)) = some r := by rw [if_pos rfl] at H; exact H
                        clear H
                        have H := H1
                        clear H1
                        by_cases c17 : 0 ≤ x11_2
                        · rw [if_pos c17] at H
                          have c17b0 : decide (0 ≤ x11_2) = true := decide_eq_true c17
                          clear c17
                          by_cases c18 : x11_2 < (x5_1.length : Int)
                          · rw [if_pos c18] at H
                            have c18b0 : decide (x11_2 < (x5_1.length : Int)) = true := decide_eq_true c18
                            clear c18
                            by_cases c19 : 0 ≤ x12_3
                            · rw [if_pos c19] at H
                              have c19b0 : decide (0 ≤ x12_3) = true := decide_eq_true c19
                              clear c19
                              by_cases c20 : x12_3 < (x5_1.length : Int)
                              · rw [if_pos c20] at H
                                have c20b0 : decide (x12_3 < (x5_1.length : Int)) = true := decide_eq_true c20
                                clear c20
                                by_cases c21 : x9_3 = true
                                · subst c21
                                  have H1 : (if x10_3 = true then (arboristlaw07_BuiltPairs.l2 k3 t569 ji3 x5_1 x6_1 ((rd x5_1 x11_2) != (rd x5_1 x12_3)) ((rd x5_1 x11_2) == (rd x5_1 x12_3)) (decide ((rd x5_1 x12_3) < (rd x5_1 x11_2))) x11_2 (wrap64 (x12_3 + 1))) else (arboristlaw07_BuiltPairs.l2 k3 t569 ji3 x5_1 x6_1 ((rd x5_1 x11_2) != (rd x5_1 x12_3)) ((rd x5_1 x11_2) == (rd x5_1 x12_3)) false x11_2 (wrap64 (x12_3 + 1)))) = some r := by rw [if_pos rfl] at H; exact H
                                  clear H
                                  have H := H1
                                  clear H1
                                  by_cases c22 : x10_3 = true
                                  · subst c22
                                    have H1 : (arboristlaw07_BuiltPairs.l2 k3 t569 ji3 x5_1 x6_1 ((rd x5_1 x11_2) != (rd x5_1 x12_3)) ((rd x5_1 x11_2) == (rd x5_1 x12_3)) (decide ((rd x5_1 x12_3) < (rd x5_1 x11_2))) x11_2 (wrap64 (x12_3 + 1))) = some r := by rw [if_pos rfl] at H; exact H
                                    clear H
                                    have H := H1
                                    clear H1
                                    have H' := Aside0.mk H
                                    clear H
                                    obtain ⟨Ao23, co23, eo23⟩ := Kd.R_slice HO_5.out
                                    subst eo23
                                    have p580 : 0 ≤ (x11_2 : Int) := of_decide_eq_true (by first | (with_reducible assumption) | assumption)
                                    have q580 : x11_2 < (x5_1.length : Int) := of_decide_eq_true (by first | (with_reducible assumption) | assumption)
                                    obtain ⟨ad580, e580, hx580_0⟩ := Kd.at_int (Kd.R_reads' HO_5.out).2.2 x11_2 p580 q580
                                    cases e580
                                    replace p580 := eq_true p580
                                    replace q580 := eq_true q580
                                    have p581 : 0 ≤ (x12_3 : Int) := of_decide_eq_true (by first | (with_reducible assumption) | assumption)
                                    have q581 : x12_3 < (x5_1.length : Int) := of_decide_eq_true (by first | (with_reducible assumption) | assumption)
                                    obtain ⟨ad581, e581, hx581_0⟩ := Kd.at_int (Kd.R_reads' HO_5.out).2.2 x12_3 p581 q581
                                    obtain rfl : ad580 = ad581 := (by injection e581)
                                    replace p581 := eq_true p581
                                    replace q581 := eq_true q581
                                    have p582 : 0 ≤ (x11_2 : Int) := of_decide_eq_true (by first | (with_reducible assumption) | assumption)
                                    have q582 : x11_2 < (x5_1.length : Int) := of_decide_eq_true (by first | (with_reducible assumption) | assumption)
                                    obtain ⟨ad582, e582, hx582_0⟩ := Kd.at_int (Kd.R_reads' HO_5.out).2.2 x11_2 p582 q582
                                    obtain rfl : ad580 = ad582 := (by injection e582)
                                    replace p582 := eq_true p582
                                    replace q582 := eq_true q582
                                    have p583 : 0 ≤ (x12_3 : Int) := of_decide_eq_true (by first | (with_reducible assumption) | assumption)
                                    have q583 : x12_3 < (x5_1.length : Int) := of_decide_eq_true (by first | (with_reducible assumption) | assumption)
                                    obtain ⟨ad583, e583, hx583_0⟩ := Kd.at_int (Kd.R_reads' HO_5.out).2.2 x12_3 p583 q583
                                    obtain rfl : ad580 = ad583 := (by injection e583)
                                    replace p583 := eq_true p583
                                    replace q583 := eq_true q583
                                    have p584 : 0 ≤ (x12_3 : Int) := of_decide_eq_true (by first | (with_reducible assumption) | assumption)
                                    have q584 : x12_3 < (x5_1.length : Int) := of_decide_eq_true (by first | (with_reducible assumption) | assumption)
                                    obtain ⟨ad584, e584, hx584_0⟩ := Kd.at_int (Kd.R_reads' HO_5.out).2.2 x12_3 p584 q584
                                    obtain rfl : ad580 = ad584 := (by injection e584)
                                    replace p584 := eq_true p584
                                    replace q584 := eq_true q584
                                    have p585 : 0 ≤ (x11_2 : Int) := of_decide_eq_true (by first | (with_reducible assumption) | assumption)
                                    have q585 : x11_2 < (x5_1.length : Int) := of_decide_eq_true (by first | (with_reducible assumption) | assumption)
                                    obtain ⟨ad585, e585, hx585_0⟩ := Kd.at_int (Kd.R_reads' HO_5.out).2.2 x11_2 p585 q585
                                    obtain rfl : ad580 = ad585 := (by injection e585)
                                    replace p585 := eq_true p585
                                    replace q585 := eq_true q585
                                    go_wp2
                                    repeat (go_quiet (fail); try go_wp2)
                                    first | go_roundg k3 | (simp only [← hji3]; (try simp only [← hji3] at H'); go_roundg k3)
                                    case measure => have := HK1.out; have := HK2.out; have := HK3.out; omega
                                    case rel => exact ⟨(((rd x5_1 x11_2) != (rd x5_1 x12_3))), (((rd x5_1 x11_2) == (rd x5_1 x12_3))), (decide ((rd x5_1 x12_3) < (rd x5_1 x11_2))), (wrap64 (x12_3 + 1)), (by first | rfl | (simp; done) | (simp [*]; done)), (by first | rfl | (simp; done) | (simp [*]; done)), (by first | rfl | (simp; done) | (simp [*]; done)), (by first | rfl | (simp; done) | (simp [*]; done)), H', ⟨by have := HK1.out; have := HK2.out; have := HK3.out; omega⟩, ⟨by (with_reducible repeat (first | apply Kd.R_alloc | apply Kd.R_drewN | apply Kd.R_drew)); exact HO_5.out⟩, ⟨by (with_reducible repeat (first | apply Kd.R_alloc | apply Kd.R_drewN | apply Kd.R_drew)); exact HO_6.out⟩, ⟨by repeat (first | (with_reducible first | exact HB.out | apply below_alloc | apply pw_below_drewN | apply below_drew1) | exact HB.out)⟩⟩
                                  · replace c22 := Bool.eq_false_iff.mpr c22
                                    subst c22
                                    have H1 : (arboristlaw07_BuiltPairs.l2 k3 t569 ji3 x5_1 x6_1 ((rd x5_1 x11_2) != (rd x5_1 x12_3)) ((rd x5_1 x11_2) == (rd x5_1 x12_3)) false x11_2 (wrap64 (x12_3 + 1))) = some r := by rw [if_neg (show ¬ (false = true) by decide)] at H; exact H
                                    clear H
                                    have H := H1
                                    clear H1
                                    have H' := Aside0.mk H
                                    clear H
                                    obtain ⟨Ao24, co24, eo24⟩ := Kd.R_slice HO_5.out
                                    subst eo24
                                    have p580 : 0 ≤ (x11_2 : Int) := of_decide_eq_true (by first | (with_reducible assumption) | assumption)
                                    have q580 : x11_2 < (x5_1.length : Int) := of_decide_eq_true (by first | (with_reducible assumption) | assumption)
                                    obtain ⟨ad580, e580, hx580_0⟩ := Kd.at_int (Kd.R_reads' HO_5.out).2.2 x11_2 p580 q580
                                    cases e580
                                    replace p580 := eq_true p580
                                    replace q580 := eq_true q580
                                    have p581 : 0 ≤ (x12_3 : Int) := of_decide_eq_true (by first | (with_reducible assumption) | assumption)
                                    have q581 : x12_3 < (x5_1.length : Int) := of_decide_eq_true (by first | (with_reducible assumption) | assumption)
                                    obtain ⟨ad581, e581, hx581_0⟩ := Kd.at_int (Kd.R_reads' HO_5.out).2.2 x12_3 p581 q581
                                    obtain rfl : ad580 = ad581 := (by injection e581)
                                    replace p581 := eq_true p581
                                    replace q581 := eq_true q581
                                    have p582 : 0 ≤ (x11_2 : Int) := of_decide_eq_true (by first | (with_reducible assumption) | assumption)
                                    have q582 : x11_2 < (x5_1.length : Int) := of_decide_eq_true (by first | (with_reducible assumption) | assumption)
                                    obtain ⟨ad582, e582, hx582_0⟩ := Kd.at_int (Kd.R_reads' HO_5.out).2.2 x11_2 p582 q582
                                    obtain rfl : ad580 = ad582 := (by injection e582)
                                    replace p582 := eq_true p582
                                    replace q582 := eq_true q582
                                    have p583 : 0 ≤ (x12_3 : Int) := of_decide_eq_true (by first | (with_reducible assumption) | assumption)
                                    have q583 : x12_3 < (x5_1.length : Int) := of_decide_eq_true (by first | (with_reducible assumption) | assumption)
                                    obtain ⟨ad583, e583, hx583_0⟩ := Kd.at_int (Kd.R_reads' HO_5.out).2.2 x12_3 p583 q583
                                    obtain rfl : ad580 = ad583 := (by injection e583)
                                    replace p583 := eq_true p583
                                    replace q583 := eq_true q583
                                    go_wp2
                                    repeat (go_quiet (fail); try go_wp2)
                                    first | go_roundg k3 | (simp only [← hji3]; (try simp only [← hji3] at H'); go_roundg k3)
                                    case measure => have := HK1.out; have := HK2.out; have := HK3.out; omega
                                    case rel => exact ⟨(((rd x5_1 x11_2) != (rd x5_1 x12_3))), (((rd x5_1 x11_2) == (rd x5_1 x12_3))), (false), (wrap64 (x12_3 + 1)), (by first | rfl | (simp; done) | (simp [*]; done)), (by first | rfl | (simp; done) | (simp [*]; done)), (by first | rfl | (simp; done) | (simp [*]; done)), (by first | rfl | (simp; done) | (simp [*]; done)), H', ⟨by have := HK1.out; have := HK2.out; have := HK3.out; omega⟩, ⟨by (with_reducible repeat (first | apply Kd.R_alloc | apply Kd.R_drewN | apply Kd.R_drew)); exact HO_5.out⟩, ⟨by (with_reducible repeat (first | apply Kd.R_alloc | apply Kd.R_drewN | apply Kd.R_drew)); exact HO_6.out⟩, ⟨by repeat (first | (with_reducible first | exact HB.out | apply below_alloc | apply pw_below_drewN | apply below_drew1) | exact HB.out)⟩⟩
                                · replace c21 := Bool.eq_false_iff.mpr c21
                                  subst c21
                                  have H1 : (if x10_3 = true then (arboristlaw07_BuiltPairs.l2 k3 t569 ji3 x5_1 x6_1 ((rd x5_1 x11_2) != (rd x5_1 x12_3)) false (decide ((rd x5_1 x12_3) < (rd x5_1 x11_2))) x11_2 (wrap64 (x12_3 + 1))) else (arboristlaw07_BuiltPairs.l2 k3 t569 ji3 x5_1 x6_1 ((rd x5_1 x11_2) != (rd x5_1 x12_3)) false false x11_2 (wrap64 (x12_3 + 1)))) = some r := by rw [if_neg (show ¬ (false = true) by decide)] at H; exact H
                                  clear H
                                  have H := H1
                                  clear H1
                                  by_cases c25 : x10_3 = true
                                  · subst c25
                                    have H1 : (arboristlaw07_BuiltPairs.l2 k3 t569 ji3 x5_1 x6_1 ((rd x5_1 x11_2) != (rd x5_1 x12_3)) false (decide ((rd x5_1 x12_3) < (rd x5_1 x11_2))) x11_2 (wrap64 (x12_3 + 1))) = some r := by rw [if_pos rfl] at H; exact H
                                    clear H
                                    have H := H1
                                    clear H1
                                    have H' := Aside0.mk H
                                    clear H
                                    obtain ⟨Ao26, co26, eo26⟩ := Kd.R_slice HO_5.out
                                    subst eo26
                                    have p580 : 0 ≤ (x11_2 : Int) := of_decide_eq_true (by first | (with_reducible assumption) | assumption)
                                    have q580 : x11_2 < (x5_1.length : Int) := of_decide_eq_true (by first | (with_reducible assumption) | assumption)
                                    obtain ⟨ad580, e580, hx580_0⟩ := Kd.at_int (Kd.R_reads' HO_5.out).2.2 x11_2 p580 q580
                                    cases e580
                                    replace p580 := eq_true p580
                                    replace q580 := eq_true q580
                                    have p581 : 0 ≤ (x12_3 : Int) := of_decide_eq_true (by first | (with_reducible assumption) | assumption)
                                    have q581 : x12_3 < (x5_1.length : Int) := of_decide_eq_true (by first | (with_reducible assumption) | assumption)
                                    obtain ⟨ad581, e581, hx581_0⟩ := Kd.at_int (Kd.R_reads' HO_5.out).2.2 x12_3 p581 q581
                                    obtain rfl : ad580 = ad581 := (by injection e581)
                                    replace p581 := eq_true p581
                                    replace q581 := eq_true q581
                                    have p586 : 0 ≤ (x12_3 : Int) := of_decide_eq_true (by first | (with_reducible assumption) | assumption)
                                    have q586 : x12_3 < (x5_1.length : Int) := of_decide_eq_true (by first | (with_reducible assumption) | assumption)
                                    obtain ⟨ad586, e586, hx586_0⟩ := Kd.at_int (Kd.R_reads' HO_5.out).2.2 x12_3 p586 q586
                                    obtain rfl : ad580 = ad586 := (by injection e586)
                                    replace p586 := eq_true p586
                                    replace q586 := eq_true q586
                                    have p587 : 0 ≤ (x11_2 : Int) := of_decide_eq_true (by first | (with_reducible assumption) | assumption)
                                    have q587 : x11_2 < (x5_1.length : Int) := of_decide_eq_true (by first | (with_reducible assumption) | assumption)
                                    obtain ⟨ad587, e587, hx587_0⟩ := Kd.at_int (Kd.R_reads' HO_5.out).2.2 x11_2 p587 q587
                                    obtain rfl : ad580 = ad587 := (by injection e587)
                                    replace p587 := eq_true p587
                                    replace q587 := eq_true q587
                                    go_wp2
                                    repeat (go_quiet (fail); try go_wp2)
                                    first | go_roundg k3 | (simp only [← hji3]; (try simp only [← hji3] at H'); go_roundg k3)
                                    case measure => have := HK1.out; have := HK2.out; have := HK3.out; omega
                                    case rel => exact ⟨(((rd x5_1 x11_2) != (rd x5_1 x12_3))), (false), (decide ((rd x5_1 x12_3) < (rd x5_1 x11_2))), (wrap64 (x12_3 + 1)), (by first | rfl | (simp; done) | (simp [*]; done)), (by first | rfl | (simp; done) | (simp [*]; done)), (by first | rfl | (simp; done) | (simp [*]; done)), (by first | rfl | (simp; done) | (simp [*]; done)), H', ⟨by have := HK1.out; have := HK2.out; have := HK3.out; omega⟩, ⟨by (with_reducible repeat (first | apply Kd.R_alloc | apply Kd.R_drewN | apply Kd.R_drew)); exact HO_5.out⟩, ⟨by (with_reducible repeat (first | apply Kd.R_alloc | apply Kd.R_drewN | apply Kd.R_drew)); exact HO_6.out⟩, ⟨by repeat (first | (with_reducible first | exact HB.out | apply below_alloc | apply pw_below_drewN | apply below_drew1) | exact HB.out)⟩⟩
                                  · replace c25 := Bool.eq_false_iff.mpr c25
                                    subst c25
                                    have H1 : (arboristlaw07_BuiltPairs.l2 k3 t569 ji3 x5_1 x6_1 ((rd x5_1 x11_2) != (rd x5_1 x12_3)) false false x11_2 (wrap64 (x12_3 + 1))) = some r := by rw [if_neg (show ¬ (false = true) by decide)] at H; exact H
                                    clear H
                                    have H := H1
                                    clear H1
                                    have H' := Aside0.mk H
                                    clear H
                                    obtain ⟨Ao27, co27, eo27⟩ := Kd.R_slice HO_5.out
                                    subst eo27
                                    have p580 : 0 ≤ (x11_2 : Int) := of_decide_eq_true (by first | (with_reducible assumption) | assumption)
                                    have q580 : x11_2 < (x5_1.length : Int) := of_decide_eq_true (by first | (with_reducible assumption) | assumption)
                                    obtain ⟨ad580, e580, hx580_0⟩ := Kd.at_int (Kd.R_reads' HO_5.out).2.2 x11_2 p580 q580
                                    cases e580
                                    replace p580 := eq_true p580
                                    replace q580 := eq_true q580
                                    have p581 : 0 ≤ (x12_3 : Int) := of_decide_eq_true (by first | (with_reducible assumption) | assumption)
                                    have q581 : x12_3 < (x5_1.length : Int) := of_decide_eq_true (by first | (with_reducible assumption) | assumption)
                                    obtain ⟨ad581, e581, hx581_0⟩ := Kd.at_int (Kd.R_reads' HO_5.out).2.2 x12_3 p581 q581
                                    obtain rfl : ad580 = ad581 := (by injection e581)
                                    replace p581 := eq_true p581
                                    replace q581 := eq_true q581
                                    go_wp2
                                    repeat (go_quiet (fail); try go_wp2)
                                    first | go_roundg k3 | (simp only [← hji3]; (try simp only [← hji3] at H'); go_roundg k3)
                                    case measure => have := HK1.out; have := HK2.out; have := HK3.out; omega
                                    case rel => exact ⟨(((rd x5_1 x11_2) != (rd x5_1 x12_3))), (false), (false), (wrap64 (x12_3 + 1)), (by first | rfl | (simp; done) | (simp [*]; done)), (by first | rfl | (simp; done) | (simp [*]; done)), (by first | rfl | (simp; done) | (simp [*]; done)), (by first | rfl | (simp; done) | (simp [*]; done)), H', ⟨by have := HK1.out; have := HK2.out; have := HK3.out; omega⟩, ⟨by (with_reducible repeat (first | apply Kd.R_alloc | apply Kd.R_drewN | apply Kd.R_drew)); exact HO_5.out⟩, ⟨by (with_reducible repeat (first | apply Kd.R_alloc | apply Kd.R_drewN | apply Kd.R_drew)); exact HO_6.out⟩, ⟨by repeat (first | (with_reducible first | exact HB.out | apply below_alloc | apply pw_below_drewN | apply below_drew1) | exact HB.out)⟩⟩
                              · rw [if_neg c20] at H
                                exact absurd H (by simp)
                            · rw [if_neg c19] at H
                              exact absurd H (by simp)
                          · rw [if_neg c18] at H
                            exact absurd H (by simp)
                        · rw [if_neg c17] at H
                          exact absurd H (by simp)
                      · replace c16 := Bool.eq_false_iff.mpr c16
                        subst c16
                        have H1 : (if x9_3 = true then (if 0 ≤ x11_2 then (if x11_2 < (x5_1.length : Int) then (if 0 ≤ x12_3 then (if x12_3 < (x5_1.length : Int) then (if x10_3 = true then (arboristlaw07_BuiltPairs.l2 k3 t569 ji3 x5_1 x6_1 false ((rd x5_1 x11_2) == (rd x5_1 x12_3)) (decide ((rd x5_1 x12_3) < (rd x5_1 x11_2))) x11_2 (wrap64 (x12_3 + 1))) else (arboristlaw07_BuiltPairs.l2 k3 t569 ji3 x5_1 x6_1 false ((rd x5_1 x11_2) == (rd x5_1 x12_3)) false x11_2 (wrap64 (x12_3 + 1)))) else (none)) else (none)) else (none)) else (none)) else (if x10_3 = true then (if 0 ≤ x12_3 then (if x12_3 < (x5_1.length : Int) then (if 0 ≤ x11_2 then (if x11_2 < (x5_1.length : Int) then (arboristlaw07_BuiltPairs.l2 k3 t569 ji3 x5_1 x6_1 false false (decide ((rd x5_1 x12_3) < (rd x5_1 x11_2))) x11_2 (wrap64 (x12_3 + 1))) else (none)) else (none)) else (none)) else (none)) else (arboristlaw07_BuiltPairs.l2 k3 t569 ji3 x5_1 x6_1 false false false x11_2 (wrap64 (x12_3 + 1))))) = some r := by rw [if_neg (show ¬ (false = true) by decide)] at H; exact H
                        clear H
                        have H := H1
                        clear H1
                        by_cases c28 : x9_3 = true
                        · subst c28
                          have H1 : (if 0 ≤ x11_2 then (if x11_2 < (x5_1.length : Int) then (if 0 ≤ x12_3 then (if x12_3 < (x5_1.length : Int) then (if x10_3 = true then (arboristlaw07_BuiltPairs.l2 k3 t569 ji3 x5_1 x6_1 false ((rd x5_1 x11_2) == (rd x5_1 x12_3)) (decide ((rd x5_1 x12_3) < (rd x5_1 x11_2))) x11_2 (wrap64 (x12_3 + 1))) else (arboristlaw07_BuiltPairs.l2 k3 t569 ji3 x5_1 x6_1 false ((rd x5_1 x11_2) == (rd x5_1 x12_3)) false x11_2 (wrap64 (x12_3 + 1)))) else (none)) else (none)) else (none)) else (none)) = some r := by rw [if_pos rfl] at H; exact H
                          clear H
                          have H := H1
                          clear H1
                          by_cases c29 : 0 ≤ x11_2
                          · rw [if_pos c29] at H
                            have c29b0 : decide (0 ≤ x11_2) = true := decide_eq_true c29
                            clear c29
                            by_cases c30 : x11_2 < (x5_1.length : Int)
                            · rw [if_pos c30] at H
                              have c30b0 : decide (x11_2 < (x5_1.length : Int)) = true := decide_eq_true c30
                              clear c30
                              by_cases c31 : 0 ≤ x12_3
                              · rw [if_pos c31] at H
                                have c31b0 : decide (0 ≤ x12_3) = true := decide_eq_true c31
                                clear c31
                                by_cases c32 : x12_3 < (x5_1.length : Int)
                                · rw [if_pos c32] at H
                                  have c32b0 : decide (x12_3 < (x5_1.length : Int)) = true := decide_eq_true c32
                                  clear c32
                                  by_cases c33 : x10_3 = true
                                  · subst c33
                                    have H1 : (arboristlaw07_BuiltPairs.l2 k3 t569 ji3 x5_1 x6_1 false ((rd x5_1 x11_2) == (rd x5_1 x12_3)) (decide ((rd x5_1 x12_3) < (rd x5_1 x11_2))) x11_2 (wrap64 (x12_3 + 1))) = some r := by rw [if_pos rfl] at H; exact H
                                    clear H
                                    have H := H1
                                    clear H1
                                    have H' := Aside0.mk H
                                    clear H
                                    obtain ⟨Ao34, co34, eo34⟩ := Kd.R_slice HO_5.out
                                    subst eo34
                                    have p588 : 0 ≤ (x11_2 : Int) := of_decide_eq_true (by first | (with_reducible assumption) | assumption)
                                    have q588 : x11_2 < (x5_1.length : Int) := of_decide_eq_true (by first | (with_reducible assumption) | assumption)
                                    obtain ⟨ad588, e588, hx588_0⟩ := Kd.at_int (Kd.R_reads' HO_5.out).2.2 x11_2 p588 q588
                                    cases e588
                                    replace p588 := eq_true p588
                                    replace q588 := eq_true q588
                                    have p589 : 0 ≤ (x12_3 : Int) := of_decide_eq_true (by first | (with_reducible assumption) | assumption)
                                    have q589 : x12_3 < (x5_1.length : Int) := of_decide_eq_true (by first | (with_reducible assumption) | assumption)
                                    obtain ⟨ad589, e589, hx589_0⟩ := Kd.at_int (Kd.R_reads' HO_5.out).2.2 x12_3 p589 q589
                                    obtain rfl : ad588 = ad589 := (by injection e589)
                                    replace p589 := eq_true p589
                                    replace q589 := eq_true q589
                                    have p590 : 0 ≤ (x12_3 : Int) := of_decide_eq_true (by first | (with_reducible assumption) | assumption)
                                    have q590 : x12_3 < (x5_1.length : Int) := of_decide_eq_true (by first | (with_reducible assumption) | assumption)
                                    obtain ⟨ad590, e590, hx590_0⟩ := Kd.at_int (Kd.R_reads' HO_5.out).2.2 x12_3 p590 q590
                                    obtain rfl : ad588 = ad590 := (by injection e590)
                                    replace p590 := eq_true p590
                                    replace q590 := eq_true q590
                                    have p591 : 0 ≤ (x11_2 : Int) := of_decide_eq_true (by first | (with_reducible assumption) | assumption)
                                    have q591 : x11_2 < (x5_1.length : Int) := of_decide_eq_true (by first | (with_reducible assumption) | assumption)
                                    obtain ⟨ad591, e591, hx591_0⟩ := Kd.at_int (Kd.R_reads' HO_5.out).2.2 x11_2 p591 q591
                                    obtain rfl : ad588 = ad591 := (by injection e591)
                                    replace p591 := eq_true p591
                                    replace q591 := eq_true q591
                                    go_wp2
                                    repeat (go_quiet (fail); try go_wp2)
                                    first | go_roundg k3 | (simp only [← hji3]; (try simp only [← hji3] at H'); go_roundg k3)
                                    case measure => have := HK1.out; have := HK2.out; have := HK3.out; omega
                                    case rel => exact ⟨(false), (((rd x5_1 x11_2) == (rd x5_1 x12_3))), (decide ((rd x5_1 x12_3) < (rd x5_1 x11_2))), (wrap64 (x12_3 + 1)), (by first | rfl | (simp; done) | (simp [*]; done)), (by first | rfl | (simp; done) | (simp [*]; done)), (by first | rfl | (simp; done) | (simp [*]; done)), (by first | rfl | (simp; done) | (simp [*]; done)), H', ⟨by have := HK1.out; have := HK2.out; have := HK3.out; omega⟩, ⟨by (with_reducible repeat (first | apply Kd.R_alloc | apply Kd.R_drewN | apply Kd.R_drew)); exact HO_5.out⟩, ⟨by (with_reducible repeat (first | apply Kd.R_alloc | apply Kd.R_drewN | apply Kd.R_drew)); exact HO_6.out⟩, ⟨by repeat (first | (with_reducible first | exact HB.out | apply below_alloc | apply pw_below_drewN | apply below_drew1) | exact HB.out)⟩⟩
                                  · replace c33 := Bool.eq_false_iff.mpr c33
                                    subst c33
                                    have H1 : (arboristlaw07_BuiltPairs.l2 k3 t569 ji3 x5_1 x6_1 false ((rd x5_1 x11_2) == (rd x5_1 x12_3)) false x11_2 (wrap64 (x12_3 + 1))) = some r := by rw [if_neg (show ¬ (false = true) by decide)] at H; exact H
                                    clear H
                                    have H := H1
                                    clear H1
                                    have H' := Aside0.mk H
                                    clear H
                                    obtain ⟨Ao35, co35, eo35⟩ := Kd.R_slice HO_5.out
                                    subst eo35
                                    have p588 : 0 ≤ (x11_2 : Int) := of_decide_eq_true (by first | (with_reducible assumption) | assumption)
                                    have q588 : x11_2 < (x5_1.length : Int) := of_decide_eq_true (by first | (with_reducible assumption) | assumption)
                                    obtain ⟨ad588, e588, hx588_0⟩ := Kd.at_int (Kd.R_reads' HO_5.out).2.2 x11_2 p588 q588
                                    cases e588
                                    replace p588 := eq_true p588
                                    replace q588 := eq_true q588
                                    have p589 : 0 ≤ (x12_3 : Int) := of_decide_eq_true (by first | (with_reducible assumption) | assumption)
                                    have q589 : x12_3 < (x5_1.length : Int) := of_decide_eq_true (by first | (with_reducible assumption) | assumption)
                                    obtain ⟨ad589, e589, hx589_0⟩ := Kd.at_int (Kd.R_reads' HO_5.out).2.2 x12_3 p589 q589
                                    obtain rfl : ad588 = ad589 := (by injection e589)
                                    replace p589 := eq_true p589
                                    replace q589 := eq_true q589
                                    go_wp2
                                    repeat (go_quiet (fail); try go_wp2)
                                    first | go_roundg k3 | (simp only [← hji3]; (try simp only [← hji3] at H'); go_roundg k3)
                                    case measure => have := HK1.out; have := HK2.out; have := HK3.out; omega
                                    case rel => exact ⟨(false), (((rd x5_1 x11_2) == (rd x5_1 x12_3))), (false), (wrap64 (x12_3 + 1)), (by first | rfl | (simp; done) | (simp [*]; done)), (by first | rfl | (simp; done) | (simp [*]; done)), (by first | rfl | (simp; done) | (simp [*]; done)), (by first | rfl | (simp; done) | (simp [*]; done)), H', ⟨by have := HK1.out; have := HK2.out; have := HK3.out; omega⟩, ⟨by (with_reducible repeat (first | apply Kd.R_alloc | apply Kd.R_drewN | apply Kd.R_drew)); exact HO_5.out⟩, ⟨by (with_reducible repeat (first | apply Kd.R_alloc | apply Kd.R_drewN | apply Kd.R_drew)); exact HO_6.out⟩, ⟨by repeat (first | (with_reducible first | exact HB.out | apply below_alloc | apply pw_below_drewN | apply below_drew1) | exact HB.out)⟩⟩
                                · rw [if_neg c32] at H
                                  exact absurd H (by simp)
                              · rw [if_neg c31] at H
                                exact absurd H (by simp)
                            · rw [if_neg c30] at H
                              exact absurd H (by simp)
                          · rw [if_neg c29] at H
                            exact absurd H (by simp)
                        · replace c28 := Bool.eq_false_iff.mpr c28
                          subst c28
                          have H1 : (if x10_3 = true then (if 0 ≤ x12_3 then (if x12_3 < (x5_1.length : Int) then (if 0 ≤ x11_2 then (if x11_2 < (x5_1.length : Int) then (arboristlaw07_BuiltPairs.l2 k3 t569 ji3 x5_1 x6_1 false false (decide ((rd x5_1 x12_3) < (rd x5_1 x11_2))) x11_2 (wrap64 (x12_3 + 1))) else (none)) else (none)) else (none)) else (none)) else (arboristlaw07_BuiltPairs.l2 k3 t569 ji3 x5_1 x6_1 false false false x11_2 (wrap64 (x12_3 + 1)))) = some r := by rw [if_neg (show ¬ (false = true) by decide)] at H; exact H
                          clear H
                          have H := H1
                          clear H1
                          by_cases c36 : x10_3 = true
                          · subst c36
                            have H1 : (if 0 ≤ x12_3 then (if x12_3 < (x5_1.length : Int) then (if 0 ≤ x11_2 then (if x11_2 < (x5_1.length : Int) then (arboristlaw07_BuiltPairs.l2 k3 t569 ji3 x5_1 x6_1 false false (decide ((rd x5_1 x12_3) < (rd x5_1 x11_2))) x11_2 (wrap64 (x12_3 + 1))) else (none)) else (none)) else (none)) else (none)) = some r := by rw [if_pos rfl] at H; exact H
                            clear H
                            have H := H1
                            clear H1
                            by_cases c37 : 0 ≤ x12_3
                            · rw [if_pos c37] at H
                              have c37b0 : decide (0 ≤ x12_3) = true := decide_eq_true c37
                              clear c37
                              by_cases c38 : x12_3 < (x5_1.length : Int)
                              · rw [if_pos c38] at H
                                have c38b0 : decide (x12_3 < (x5_1.length : Int)) = true := decide_eq_true c38
                                clear c38
                                by_cases c39 : 0 ≤ x11_2
                                · rw [if_pos c39] at H
                                  have c39b0 : decide (0 ≤ x11_2) = true := decide_eq_true c39
                                  clear c39
                                  by_cases c40 : x11_2 < (x5_1.length : Int)
                                  · rw [if_pos c40] at H
                                    have c40b0 : decide (x11_2 < (x5_1.length : Int)) = true := decide_eq_true c40
                                    clear c40
                                    have H' := Aside0.mk H
                                    clear H
                                    obtain ⟨Ao41, co41, eo41⟩ := Kd.R_slice HO_5.out
                                    subst eo41
                                    have p592 : 0 ≤ (x12_3 : Int) := of_decide_eq_true (by first | (with_reducible assumption) | assumption)
                                    have q592 : x12_3 < (x5_1.length : Int) := of_decide_eq_true (by first | (with_reducible assumption) | assumption)
                                    obtain ⟨ad592, e592, hx592_0⟩ := Kd.at_int (Kd.R_reads' HO_5.out).2.2 x12_3 p592 q592
                                    cases e592
                                    replace p592 := eq_true p592
                                    replace q592 := eq_true q592
                                    have p593 : 0 ≤ (x11_2 : Int) := of_decide_eq_true (by first | (with_reducible assumption) | assumption)
                                    have q593 : x11_2 < (x5_1.length : Int) := of_decide_eq_true (by first | (with_reducible assumption) | assumption)
                                    obtain ⟨ad593, e593, hx593_0⟩ := Kd.at_int (Kd.R_reads' HO_5.out).2.2 x11_2 p593 q593
                                    obtain rfl : ad592 = ad593 := (by injection e593)
                                    replace p593 := eq_true p593
                                    replace q593 := eq_true q593
                                    go_wp2
                                    repeat (go_quiet (fail); try go_wp2)
                                    first | go_roundg k3 | (simp only [← hji3]; (try simp only [← hji3] at H'); go_roundg k3)
                                    case measure => have := HK1.out; have := HK2.out; have := HK3.out; omega
                                    case rel => exact ⟨(false), (false), (decide ((rd x5_1 x12_3) < (rd x5_1 x11_2))), (wrap64 (x12_3 + 1)), (by first | rfl | (simp; done) | (simp [*]; done)), (by first | rfl | (simp; done) | (simp [*]; done)), (by first | rfl | (simp; done) | (simp [*]; done)), (by first | rfl | (simp; done) | (simp [*]; done)), H', ⟨by have := HK1.out; have := HK2.out; have := HK3.out; omega⟩, ⟨by (with_reducible repeat (first | apply Kd.R_alloc | apply Kd.R_drewN | apply Kd.R_drew)); exact HO_5.out⟩, ⟨by (with_reducible repeat (first | apply Kd.R_alloc | apply Kd.R_drewN | apply Kd.R_drew)); exact HO_6.out⟩, ⟨by repeat (first | (with_reducible first | exact HB.out | apply below_alloc | apply pw_below_drewN | apply below_drew1) | exact HB.out)⟩⟩
                                  · rw [if_neg c40] at H
                                    exact absurd H (by simp)
                                · rw [if_neg c39] at H
                                  exact absurd H (by simp)
                              · rw [if_neg c38] at H
                                exact absurd H (by simp)
                            · rw [if_neg c37] at H
                              exact absurd H (by simp)
                          · replace c36 := Bool.eq_false_iff.mpr c36
                            subst c36
                            have H1 : (arboristlaw07_BuiltPairs.l2 k3 t569 ji3 x5_1 x6_1 false false false x11_2 (wrap64 (x12_3 + 1))) = some r := by rw [if_neg (show ¬ (false = true) by decide)] at H; exact H
                            clear H
                            have H := H1
                            clear H1
                            have H' := Aside0.mk H
                            clear H
                            go_wp2
                            repeat (go_quiet (fail); try go_wp2)
                            first | go_roundg k3 | (simp only [← hji3]; (try simp only [← hji3] at H'); go_roundg k3)
                            case measure => have := HK1.out; have := HK2.out; have := HK3.out; omega
                            case rel => exact ⟨(false), (false), (false), (wrap64 (x12_3 + 1)), (by first | rfl | (simp; done) | (simp [*]; done)), (by first | rfl | (simp; done) | (simp [*]; done)), (by first | rfl | (simp; done) | (simp [*]; done)), (by first | rfl | (simp; done) | (simp [*]; done)), H', ⟨by have := HK1.out; have := HK2.out; have := HK3.out; omega⟩, ⟨by (with_reducible repeat (first | apply Kd.R_alloc | apply Kd.R_drewN | apply Kd.R_drew)); exact HO_5.out⟩, ⟨by (with_reducible repeat (first | apply Kd.R_alloc | apply Kd.R_drewN | apply Kd.R_drew)); exact HO_6.out⟩, ⟨by repeat (first | (with_reducible first | exact HB.out | apply below_alloc | apply pw_below_drewN | apply below_drew1) | exact HB.out)⟩⟩
                    · rw [if_neg c15] at H
                      have c15b0 : decide (x12_3 < x11_2) = false := decide_eq_false c15
                      clear c15
                      have H' := Aside0.mk H
                      clear H
                      go_wp2
                      repeat (go_quiet (fail); try go_wp2)
                      first | go_roundg k3 | (simp only [← hji3]; (try simp only [← hji3] at H'); go_roundg k3)
                      case measure => have := HK1.out; have := HK2.out; have := HK3.out; omega
                      case rel => exact ⟨(x8_3), (x9_3), (x10_3), (wrap64 (x11_2 + 1)), (by first | rfl | (simp; done) | (simp [*]; done)), (by first | rfl | (simp; done) | (simp [*]; done)), (by first | rfl | (simp; done) | (simp [*]; done)), (by first | rfl | (simp; done) | (simp [*]; done)), H', ⟨by have := HK1.out; have := HK2.out; have := HK3.out; omega⟩, ⟨by (with_reducible repeat (first | apply Kd.R_alloc | apply Kd.R_drewN | apply Kd.R_drew)); exact HO_5.out⟩, ⟨by (with_reducible repeat (first | apply Kd.R_alloc | apply Kd.R_drewN | apply Kd.R_drew)); exact HO_6.out⟩, ⟨by repeat (first | (with_reducible first | exact HB.out | apply below_alloc | apply pw_below_drewN | apply below_drew1) | exact HB.out)⟩⟩
              · rw [if_neg c14] at H
                have c14b0 : decide (x11_2 < ji3) = false := decide_eq_false c14
                clear c14
                by_cases c42 : t569 = true
                · subst c42
                  have H1 : ((built_Holds.f 3 x6_1 ([] : List (List Int)) ([] : List Int) x5_1).bind fun t577 => (if (t577 == x8_2) = true then ((built_Holds.f 4 x6_1 ([] : List (List Int)) ([] : List Int) x5_1).bind fun t578 => (if (t578 == x9_2) = true then ((built_Holds.f 5 x6_1 ([] : List (List Int)) ([] : List Int) x5_1).bind fun t579 => (some (t579 == x10_2))) else (some false))) else (some false))) = some r := by rw [if_pos rfl] at H; exact H
                  clear H
                  have H := H1
                  clear H1
                  replace H := Option.bind_eq_some_iff.mp H
                  obtain ⟨t577, A430, H⟩ := H
                  replace H : (if (t577 == x8_2) = true then ((built_Holds.f 4 x6_1 ([] : List (List Int)) ([] : List Int) x5_1).bind fun t578 => (if (t578 == x9_2) = true then ((built_Holds.f 5 x6_1 ([] : List (List Int)) ([] : List Int) x5_1).bind fun t579 => (some (t579 == x10_2))) else (some false))) else (some false)) = some r := H
                  have A43 := Aside0.mk A430
                  clear A430
                  by_cases c44 : (t577 == x8_2) = true
                  · rw [if_pos c44] at H
                    have c44b0 : (t577 == x8_2) = true := c44
                    (try (have c44b1 : decide (t577 = x8_2) = true := by simpa using c44))
                    (try (have c44b2 : (t577 == x8_2) = true := by simpa using c44))
                    clear c44
                    replace H := Option.bind_eq_some_iff.mp H
                    obtain ⟨t578, A450, H⟩ := H
                    replace H : (if (t578 == x9_2) = true then ((built_Holds.f 5 x6_1 ([] : List (List Int)) ([] : List Int) x5_1).bind fun t579 => (some (t579 == x10_2))) else (some false)) = some r := H
                    have A45 := Aside0.mk A450
                    clear A450
                    by_cases c46 : (t578 == x9_2) = true
                    · rw [if_pos c46] at H
                      have c46b0 : (t578 == x9_2) = true := c46
                      (try (have c46b1 : decide (t578 = x9_2) = true := by simpa using c46))
                      (try (have c46b2 : (t578 == x9_2) = true := by simpa using c46))
                      clear c46
                      replace H := Option.bind_eq_some_iff.mp H
                      obtain ⟨t579, A470, H⟩ := H
                      replace H : (some (t579 == x10_2)) = some r := H
                      have A47 := Aside0.mk A470
                      clear A470
                      obtain rfl := Option.some.inj H
                      obtain ⟨Ao48, co48, eo48⟩ := Kd.R_slice HO_6.out
                      subst eo48
                      obtain ⟨Ao49, co49, eo49⟩ := Kd.R_slice HO_5.out
                      subst eo49
                      go_wp2_with (first | (go_at_call 17; (with_reducible show Calls _ _ #[.agg #[.int .i64 3, _, .slice none 0 0, .slice none 0 0], _] _ _); (refine (built_Holds.calls 3 _ _ x6_1 _ _ ([] : List (List Int)) _ _ ([] : List Int) _ _ x5_1 t577 _ ?side1 ?side2 ?side3 ?side4 ?side5 ?side6 ?side7 ?side8 A43.out).mono ?_); (case side1 => repeat (first | exact (Kd.R_reads' HO_6.out).2.2 | (with_reducible refine Kd.C_alloc ?_ _) | (with_reducible refine Kd.C_drewN ?_ _) | (with_reducible refine Kd.C_drew ?_))); (case side2 => exact (Kd.R_reads' HO_6.out).2.1); (case side3 => exact Kd.C_nil _ _); (case side4 => exact Nat.le_refl _); (case side5 => exact Kd.C_nil _ _); (case side6 => exact Nat.le_refl _); (case side7 => repeat (first | exact (Kd.R_reads' HO_5.out).2.2 | (with_reducible refine Kd.C_alloc ?_ _) | (with_reducible refine Kd.C_drewN ?_ _) | (with_reducible refine Kd.C_drew ?_))); (case side8 => exact (Kd.R_reads' HO_5.out).2.1); rintro e w50 ⟨rfl, hb⟩; have n0_ := Aside0.mk (Kd.R_below (by (with_reducible repeat (first | apply Kd.R_alloc | apply Kd.R_drewN | apply Kd.R_drew)); exact HO_5.out) hb); have n1_ := Aside0.mk (Kd.R_below (by (with_reducible repeat (first | apply Kd.R_alloc | apply Kd.R_drewN | apply Kd.R_drew)); exact HO_6.out) hb); have n2_ := Aside0.mk (below_step (by repeat (first | (with_reducible first | exact HB.out | apply below_alloc | apply pw_below_drewN | apply below_drew1) | exact HB.out)) hb); clear HO_5; clear HO_6; clear HB; have HO_5 := n0_; have HO_6 := n1_; have HB := n2_; clear n0_ n1_ n2_; (try clear hb); (try clear hb2); (try clear hk); (try clear hi)) | (go_at_call 17; (with_reducible show Calls _ _ #[.agg #[.int .i64 4, _, .slice none 0 0, .slice none 0 0], _] _ _); (refine (built_Holds.calls 4 _ _ x6_1 _ _ ([] : List (List Int)) _ _ ([] : List Int) _ _ x5_1 t578 _ ?side1 ?side2 ?side3 ?side4 ?side5 ?side6 ?side7 ?side8 A45.out).mono ?_); (case side1 => repeat (first | exact (Kd.R_reads' HO_6.out).2.2 | (with_reducible refine Kd.C_alloc ?_ _) | (with_reducible refine Kd.C_drewN ?_ _) | (with_reducible refine Kd.C_drew ?_))); (case side2 => exact (Kd.R_reads' HO_6.out).2.1); (case side3 => exact Kd.C_nil _ _); (case side4 => exact Nat.le_refl _); (case side5 => exact Kd.C_nil _ _); (case side6 => exact Nat.le_refl _); (case side7 => repeat (first | exact (Kd.R_reads' HO_5.out).2.2 | (with_reducible refine Kd.C_alloc ?_ _) | (with_reducible refine Kd.C_drewN ?_ _) | (with_reducible refine Kd.C_drew ?_))); (case side8 => exact (Kd.R_reads' HO_5.out).2.1); rintro e w51 ⟨rfl, hb⟩; have n0_ := Aside0.mk (Kd.R_below (by (with_reducible repeat (first | apply Kd.R_alloc | apply Kd.R_drewN | apply Kd.R_drew)); exact HO_5.out) hb); have n1_ := Aside0.mk (Kd.R_below (by (with_reducible repeat (first | apply Kd.R_alloc | apply Kd.R_drewN | apply Kd.R_drew)); exact HO_6.out) hb); have n2_ := Aside0.mk (below_step (by repeat (first | (with_reducible first | exact HB.out | apply below_alloc | apply pw_below_drewN | apply below_drew1) | exact HB.out)) hb); clear HO_5; clear HO_6; clear HB; have HO_5 := n0_; have HO_6 := n1_; have HB := n2_; clear n0_ n1_ n2_; (try clear hb); (try clear hb2); (try clear hk); (try clear hi)) | (go_at_call 17; (with_reducible show Calls _ _ #[.agg #[.int .i64 5, _, .slice none 0 0, .slice none 0 0], _] _ _); (refine (built_Holds.calls 5 _ _ x6_1 _ _ ([] : List (List Int)) _ _ ([] : List Int) _ _ x5_1 t579 _ ?side1 ?side2 ?side3 ?side4 ?side5 ?side6 ?side7 ?side8 A47.out).mono ?_); (case side1 => repeat (first | exact (Kd.R_reads' HO_6.out).2.2 | (with_reducible refine Kd.C_alloc ?_ _) | (with_reducible refine Kd.C_drewN ?_ _) | (with_reducible refine Kd.C_drew ?_))); (case side2 => exact (Kd.R_reads' HO_6.out).2.1); (case side3 => exact Kd.C_nil _ _); (case side4 => exact Nat.le_refl _); (case side5 => exact Kd.C_nil _ _); (case side6 => exact Nat.le_refl _); (case side7 => repeat (first | exact (Kd.R_reads' HO_5.out).2.2 | (with_reducible refine Kd.C_alloc ?_ _) | (with_reducible refine Kd.C_drewN ?_ _) | (with_reducible refine Kd.C_drew ?_))); (case side8 => exact (Kd.R_reads' HO_5.out).2.1); rintro e w52 ⟨rfl, hb⟩; have n0_ := Aside0.mk (Kd.R_below (by (with_reducible repeat (first | apply Kd.R_alloc | apply Kd.R_drewN | apply Kd.R_drew)); exact HO_5.out) hb); have n1_ := Aside0.mk (Kd.R_below (by (with_reducible repeat (first | apply Kd.R_alloc | apply Kd.R_drewN | apply Kd.R_drew)); exact HO_6.out) hb); have n2_ := Aside0.mk (below_step (by repeat (first | (with_reducible first | exact HB.out | apply below_alloc | apply pw_below_drewN | apply below_drew1) | exact HB.out)) hb); clear HO_5; clear HO_6; clear HB; have HO_5 := n0_; have HO_6 := n1_; have HB := n2_; clear n0_ n1_ n2_; (try clear hb); (try clear hb2); (try clear hk); (try clear hi)))
                      repeat (go_quiet (first | (go_at_call 17; (with_reducible show Calls _ _ #[.agg #[.int .i64 3, _, .slice none 0 0, .slice none 0 0], _] _ _); (refine (built_Holds.calls 3 _ _ x6_1 _ _ ([] : List (List Int)) _ _ ([] : List Int) _ _ x5_1 t577 _ ?side1 ?side2 ?side3 ?side4 ?side5 ?side6 ?side7 ?side8 A43.out).mono ?_); (case side1 => repeat (first | exact (Kd.R_reads' HO_6.out).2.2 | (with_reducible refine Kd.C_alloc ?_ _) | (with_reducible refine Kd.C_drewN ?_ _) | (with_reducible refine Kd.C_drew ?_))); (case side2 => exact (Kd.R_reads' HO_6.out).2.1); (case side3 => exact Kd.C_nil _ _); (case side4 => exact Nat.le_refl _); (case side5 => exact Kd.C_nil _ _); (case side6 => exact Nat.le_refl _); (case side7 => repeat (first | exact (Kd.R_reads' HO_5.out).2.2 | (with_reducible refine Kd.C_alloc ?_ _) | (with_reducible refine Kd.C_drewN ?_ _) | (with_reducible refine Kd.C_drew ?_))); (case side8 => exact (Kd.R_reads' HO_5.out).2.1); rintro e w50 ⟨rfl, hb⟩; have n0_ := Aside0.mk (Kd.R_below (by (with_reducible repeat (first | apply Kd.R_alloc | apply Kd.R_drewN | apply Kd.R_drew)); exact HO_5.out) hb); have n1_ := Aside0.mk (Kd.R_below (by (with_reducible repeat (first | apply Kd.R_alloc | apply Kd.R_drewN | apply Kd.R_drew)); exact HO_6.out) hb); have n2_ := Aside0.mk (below_step (by repeat (first | (with_reducible first | exact HB.out | apply below_alloc | apply pw_below_drewN | apply below_drew1) | exact HB.out)) hb); clear HO_5; clear HO_6; clear HB; have HO_5 := n0_; have HO_6 := n1_; have HB := n2_; clear n0_ n1_ n2_; (try clear hb); (try clear hb2); (try clear hk); (try clear hi)) | (go_at_call 17; (with_reducible show Calls _ _ #[.agg #[.int .i64 4, _, .slice none 0 0, .slice none 0 0], _] _ _); (refine (built_Holds.calls 4 _ _ x6_1 _ _ ([] : List (List Int)) _ _ ([] : List Int) _ _ x5_1 t578 _ ?side1 ?side2 ?side3 ?side4 ?side5 ?side6 ?side7 ?side8 A45.out).mono ?_); (case side1 => repeat (first | exact (Kd.R_reads' HO_6.out).2.2 | (with_reducible refine Kd.C_alloc ?_ _) | (with_reducible refine Kd.C_drewN ?_ _) | (with_reducible refine Kd.C_drew ?_))); (case side2 => exact (Kd.R_reads' HO_6.out).2.1); (case side3 => exact Kd.C_nil _ _); (case side4 => exact Nat.le_refl _); (case side5 => exact Kd.C_nil _ _); (case side6 => exact Nat.le_refl _); (case side7 => repeat (first | exact (Kd.R_reads' HO_5.out).2.2 | (with_reducible refine Kd.C_alloc ?_ _) | (with_reducible refine Kd.C_drewN ?_ _) | (with_reducible refine Kd.C_drew ?_))); (case side8 => exact (Kd.R_reads' HO_5.out).2.1); rintro e w51 ⟨rfl, hb⟩; have n0_ := Aside0.mk (Kd.R_below (by (with_reducible repeat (first | apply Kd.R_alloc | apply Kd.R_drewN | apply Kd.R_drew)); exact HO_5.out) hb); have n1_ := Aside0.mk (Kd.R_below (by (with_reducible repeat (first | apply Kd.R_alloc | apply Kd.R_drewN | apply Kd.R_drew)); exact HO_6.out) hb); have n2_ := Aside0.mk (below_step (by repeat (first | (with_reducible first | exact HB.out | apply below_alloc | apply pw_below_drewN | apply below_drew1) | exact HB.out)) hb); clear HO_5; clear HO_6; clear HB; have HO_5 := n0_; have HO_6 := n1_; have HB := n2_; clear n0_ n1_ n2_; (try clear hb); (try clear hb2); (try clear hk); (try clear hi)) | (go_at_call 17; (with_reducible show Calls _ _ #[.agg #[.int .i64 5, _, .slice none 0 0, .slice none 0 0], _] _ _); (refine (built_Holds.calls 5 _ _ x6_1 _ _ ([] : List (List Int)) _ _ ([] : List Int) _ _ x5_1 t579 _ ?side1 ?side2 ?side3 ?side4 ?side5 ?side6 ?side7 ?side8 A47.out).mono ?_); (case side1 => repeat (first | exact (Kd.R_reads' HO_6.out).2.2 | (with_reducible refine Kd.C_alloc ?_ _) | (with_reducible refine Kd.C_drewN ?_ _) | (with_reducible refine Kd.C_drew ?_))); (case side2 => exact (Kd.R_reads' HO_6.out).2.1); (case side3 => exact Kd.C_nil _ _); (case side4 => exact Nat.le_refl _); (case side5 => exact Kd.C_nil _ _); (case side6 => exact Nat.le_refl _); (case side7 => repeat (first | exact (Kd.R_reads' HO_5.out).2.2 | (with_reducible refine Kd.C_alloc ?_ _) | (with_reducible refine Kd.C_drewN ?_ _) | (with_reducible refine Kd.C_drew ?_))); (case side8 => exact (Kd.R_reads' HO_5.out).2.1); rintro e w52 ⟨rfl, hb⟩; have n0_ := Aside0.mk (Kd.R_below (by (with_reducible repeat (first | apply Kd.R_alloc | apply Kd.R_drewN | apply Kd.R_drew)); exact HO_5.out) hb); have n1_ := Aside0.mk (Kd.R_below (by (with_reducible repeat (first | apply Kd.R_alloc | apply Kd.R_drewN | apply Kd.R_drew)); exact HO_6.out) hb); have n2_ := Aside0.mk (below_step (by repeat (first | (with_reducible first | exact HB.out | apply below_alloc | apply pw_below_drewN | apply below_drew1) | exact HB.out)) hb); clear HO_5; clear HO_6; clear HB; have HO_5 := n0_; have HO_6 := n1_; have HB := n2_; clear n0_ n1_ n2_; (try clear hb); (try clear hb2); (try clear hk); (try clear hi))); try go_wp2_with (first | (go_at_call 17; (with_reducible show Calls _ _ #[.agg #[.int .i64 3, _, .slice none 0 0, .slice none 0 0], _] _ _); (refine (built_Holds.calls 3 _ _ x6_1 _ _ ([] : List (List Int)) _ _ ([] : List Int) _ _ x5_1 t577 _ ?side1 ?side2 ?side3 ?side4 ?side5 ?side6 ?side7 ?side8 A43.out).mono ?_); (case side1 => repeat (first | exact (Kd.R_reads' HO_6.out).2.2 | (with_reducible refine Kd.C_alloc ?_ _) | (with_reducible refine Kd.C_drewN ?_ _) | (with_reducible refine Kd.C_drew ?_))); (case side2 => exact (Kd.R_reads' HO_6.out).2.1); (case side3 => exact Kd.C_nil _ _); (case side4 => exact Nat.le_refl _); (case side5 => exact Kd.C_nil _ _); (case side6 => exact Nat.le_refl _); (case side7 => repeat (first | exact (Kd.R_reads' HO_5.out).2.2 | (with_reducible refine Kd.C_alloc ?_ _) | (with_reducible refine Kd.C_drewN ?_ _) | (with_reducible refine Kd.C_drew ?_))); (case side8 => exact (Kd.R_reads' HO_5.out).2.1); rintro e w50 ⟨rfl, hb⟩; have n0_ := Aside0.mk (Kd.R_below (by (with_reducible repeat (first | apply Kd.R_alloc | apply Kd.R_drewN | apply Kd.R_drew)); exact HO_5.out) hb); have n1_ := Aside0.mk (Kd.R_below (by (with_reducible repeat (first | apply Kd.R_alloc | apply Kd.R_drewN | apply Kd.R_drew)); exact HO_6.out) hb); have n2_ := Aside0.mk (below_step (by repeat (first | (with_reducible first | exact HB.out | apply below_alloc | apply pw_below_drewN | apply below_drew1) | exact HB.out)) hb); clear HO_5; clear HO_6; clear HB; have HO_5 := n0_; have HO_6 := n1_; have HB := n2_; clear n0_ n1_ n2_; (try clear hb); (try clear hb2); (try clear hk); (try clear hi)) | (go_at_call 17; (with_reducible show Calls _ _ #[.agg #[.int .i64 4, _, .slice none 0 0, .slice none 0 0], _] _ _); (refine (built_Holds.calls 4 _ _ x6_1 _ _ ([] : List (List Int)) _ _ ([] : List Int) _ _ x5_1 t578 _ ?side1 ?side2 ?side3 ?side4 ?side5 ?side6 ?side7 ?side8 A45.out).mono ?_); (case side1 => repeat (first | exact (Kd.R_reads' HO_6.out).2.2 | (with_reducible refine Kd.C_alloc ?_ _) | (with_reducible refine Kd.C_drewN ?_ _) | (with_reducible refine Kd.C_drew ?_))); (case side2 => exact (Kd.R_reads' HO_6.out).2.1); (case side3 => exact Kd.C_nil _ _); (case side4 => exact Nat.le_refl _); (case side5 => exact Kd.C_nil _ _); (case side6 => exact Nat.le_refl _); (case side7 => repeat (first | exact (Kd.R_reads' HO_5.out).2.2 | (with_reducible refine Kd.C_alloc ?_ _) | (with_reducible refine Kd.C_drewN ?_ _) | (with_reducible refine Kd.C_drew ?_))); (case side8 => exact (Kd.R_reads' HO_5.out).2.1); rintro e w51 ⟨rfl, hb⟩; have n0_ := Aside0.mk (Kd.R_below (by (with_reducible repeat (first | apply Kd.R_alloc | apply Kd.R_drewN | apply Kd.R_drew)); exact HO_5.out) hb); have n1_ := Aside0.mk (Kd.R_below (by (with_reducible repeat (first | apply Kd.R_alloc | apply Kd.R_drewN | apply Kd.R_drew)); exact HO_6.out) hb); have n2_ := Aside0.mk (below_step (by repeat (first | (with_reducible first | exact HB.out | apply below_alloc | apply pw_below_drewN | apply below_drew1) | exact HB.out)) hb); clear HO_5; clear HO_6; clear HB; have HO_5 := n0_; have HO_6 := n1_; have HB := n2_; clear n0_ n1_ n2_; (try clear hb); (try clear hb2); (try clear hk); (try clear hi)) | (go_at_call 17; (with_reducible show Calls _ _ #[.agg #[.int .i64 5, _, .slice none 0 0, .slice none 0 0], _] _ _); (refine (built_Holds.calls 5 _ _ x6_1 _ _ ([] : List (List Int)) _ _ ([] : List Int) _ _ x5_1 t579 _ ?side1 ?side2 ?side3 ?side4 ?side5 ?side6 ?side7 ?side8 A47.out).mono ?_); (case side1 => repeat (first | exact (Kd.R_reads' HO_6.out).2.2 | (with_reducible refine Kd.C_alloc ?_ _) | (with_reducible refine Kd.C_drewN ?_ _) | (with_reducible refine Kd.C_drew ?_))); (case side2 => exact (Kd.R_reads' HO_6.out).2.1); (case side3 => exact Kd.C_nil _ _); (case side4 => exact Nat.le_refl _); (case side5 => exact Kd.C_nil _ _); (case side6 => exact Nat.le_refl _); (case side7 => repeat (first | exact (Kd.R_reads' HO_5.out).2.2 | (with_reducible refine Kd.C_alloc ?_ _) | (with_reducible refine Kd.C_drewN ?_ _) | (with_reducible refine Kd.C_drew ?_))); (case side8 => exact (Kd.R_reads' HO_5.out).2.1); rintro e w52 ⟨rfl, hb⟩; have n0_ := Aside0.mk (Kd.R_below (by (with_reducible repeat (first | apply Kd.R_alloc | apply Kd.R_drewN | apply Kd.R_drew)); exact HO_5.out) hb); have n1_ := Aside0.mk (Kd.R_below (by (with_reducible repeat (first | apply Kd.R_alloc | apply Kd.R_drewN | apply Kd.R_drew)); exact HO_6.out) hb); have n2_ := Aside0.mk (below_step (by repeat (first | (with_reducible first | exact HB.out | apply below_alloc | apply pw_below_drewN | apply below_drew1) | exact HB.out)) hb); clear HO_5; clear HO_6; clear HB; have HO_5 := n0_; have HO_6 := n1_; have HB := n2_; clear n0_ n1_ n2_; (try clear hb); (try clear hb2); (try clear hk); (try clear hi))))
                      go_ret
                      exact ⟨by first | rfl | (simp [errW_none, errW_some] <;> rfl) | (simp only [← hji3]; first | rfl | (simp [errW_none, errW_some] <;> rfl)) | (simp [*, errW_none, errW_some] <;> rfl), by repeat (first | (with_reducible first | exact HB.out | apply below_alloc | apply pw_below_drewN | apply below_drew1) | exact HB.out)⟩
                    · rw [if_neg c46] at H
                      have c46b0 : (t578 == x9_2) = false := by simpa using c46
                      (try (have c46b1 : decide (t578 = x9_2) = false := by simpa using c46))
                      (try (have c46b2 : (t578 == x9_2) = false := by simpa using c46))
                      (try (have c46b3 : ¬ (t578 = x9_2) := by simpa using c46))
                      clear c46
                      exact absurd ((Option.some.inj H).trans HT_.out) (by decide)
                  · rw [if_neg c44] at H
                    have c44b0 : (t577 == x8_2) = false := by simpa using c44
                    (try (have c44b1 : decide (t577 = x8_2) = false := by simpa using c44))
                    (try (have c44b2 : (t577 == x8_2) = false := by simpa using c44))
                    (try (have c44b3 : ¬ (t577 = x8_2) := by simpa using c44))
                    clear c44
                    exact absurd ((Option.some.inj H).trans HT_.out) (by decide)
                · replace c42 := Bool.eq_false_iff.mpr c42
                  subst c42
                  have H1 : (some false) = some r := by rw [if_neg (show ¬ (false = true) by decide)] at H; exact H
                  clear H
                  have H := H1
                  clear H1
                  exact absurd ((Option.some.inj H).trans HT_.out) (by decide)

/-- THE ONE PURE STATEMENT of arboristlaw07_BuiltPairs: yours. -/
def arboristlaw07_BuiltPairs.Pure : Prop := ∀ (l0 : List Int), l0.length ≤ maxLen → l0.length * 8 ≤ 140737488351232 → (∀ x ∈ l0, (Lit.int .i64 x).wf = true) → ∃ k, arboristlaw07_BuiltPairs.f k l0 = some true
theorem arboristlaw07_BuiltPairs.walk (P : arboristlaw07_BuiltPairs.Pure) (a0 : Option Addr) (len0 cap0 : Nat) (z0 : List Int) (w : World) (w0 : (a0 = none ∧ len0 = 0 ∧ cap0 = 0 ∧ z0 = []) ∨ ∃ x, a0 = some x ∧ len0 ≤ cap0 ∧ cap0 ≤ maxLen ∧ z0.length = cap0 ∧ (∀ i, i < z0.length → w.cell? (x.add i) = some (.int .i64 (z0.getD i 0))) ∧ ∀ n ∈ z0, (Lit.int .i64 n).wf = true) (y0 : len0 * 8 ≤ 140737488351232) :
    Calls Try.prog 6 #[.slice a0 len0 cap0] w fun e w' => e = .returned (.bool true) ∧ Below w.heap.size w w' := by
  obtain ⟨l0, rfl, hr0, hm0, hw0, hc0⟩ := ReadsInt.ofRowC w0
  obtain ⟨k, h⟩ := P l0 hm0 y0 hw0
  refine (arboristlaw07_BuiltPairs.calls k _ _ l0 true w (Kd.C_of_reads (d := (0 : Int)) (h1 := fun _ => rfl) hr0) hc0 rfl h).mono ?_
  rintro e w' ⟨rfl, hd⟩
  exact ⟨rfl, hd⟩

end Go.Proofs.Ytlckejeglchgmaa.Pr
