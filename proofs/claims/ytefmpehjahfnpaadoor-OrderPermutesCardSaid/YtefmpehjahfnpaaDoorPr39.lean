-- Printed by a program of this session's own (wip/tools/pp.py) over the kit's print.py; Lean checks it.
import Derived.Test.YtefmpehjahfnpaaDoorPr0
import Derived.Test.YtefmpehjahfnpaaDoorPr21
import Derived.Test.YtefmpehjahfnpaaDoorPr22
import Derived.Test.YtefmpehjahfnpaaDoorPr38
namespace Go.Proofs.YtefmpehjahfnpaaDoor.Pr
open Go.RowKit Go.Proofs.YtefmpehjahfnpaaDoorW.PrintWords Go.Proofs.YtefmpehjahfnpaaDoorW.PrintLast Go.Proofs.YtefmpehjahfnpaaDoorW.PrintMore
attribute [local go_sem] max2_int min2_int max_two min_two max_three min_three max_four min_four   -- for this text's walks alone
set_option linter.unusedVariables false
set_option linter.unusedSimpArgs false

/-! ### arboristlaw09_OrderPermutes: function 7 -/
mutual
def arboristlaw09_OrderPermutes.l0 : Nat → Int → Int → Bool → List Int → List Int → Int → Option (Bool)
  | 0, _, _, _, _, _, _ => none
  | k + 1, x0, x2, x7, x8, x9, x10 => if x10 > 0 then (if 0 ≤ (wrap64 (x10 - 1)) then (if (wrap64 (x10 - 1)) < (x8.length : Int) then (if x9.length < 17592186044416 then (arboristlaw09_OrderPermutes.l0 k x0 x2 x7 x8 (x9 ++ [rd x8 (wrap64 (x10 - 1))]) (wrap64 (x10 - 1))) else (none)) else (none)) else (none)) else ((order_Valid.f x0 x8).bind fun t534 => (if t534 = true then ((order_Valid.f x0 x9).bind fun t535 => (if t535 = true then ((order_Valid.f (wrap64 (x0 - 1)) x8).bind fun t536 => (if t536 = true then (arboristlaw09_OrderPermutes.j1 k x0 x2 x7 x8 true) else ((order_Valid.f (wrap64 (x0 + 1)) x8).bind fun t537 => (if t537 = true then (arboristlaw09_OrderPermutes.j1 k x0 x2 x7 x8 true) else (if 1 ≤ (x8.length : Int) then ((order_Valid.f x0 (x8.drop 1)).bind fun t542 => (arboristlaw09_OrderPermutes.j1 k x0 x2 x7 x8 t542)) else (none)))))) else (arboristlaw09_OrderPermutes.j1 k x0 x2 x7 x8 true))) else (arboristlaw09_OrderPermutes.j1 k x0 x2 x7 x8 true)))
def arboristlaw09_OrderPermutes.j1 : Nat → Int → Int → Bool → List Int → Bool → Option (Bool)
  | 0, _, _, _, _, _ => none
  | k + 1, x0, x2, x7, x8, x60 => if x60 = true then (some false) else (if x0 = 0 then (none) else ((some (([] : List Int) : List Int)).bind fun y543 => (if y543.length + x8.length < 17592186044416 then ((some (y543 ++ x8 : List Int)).bind fun y546 => (if 0 ≤ (Int.tmod (wrap64 ((Int.tmod (Go.bits .and .i64 x2 65535) x0) + 1)) x0) then (if (Int.tmod (wrap64 ((Int.tmod (Go.bits .and .i64 x2 65535) x0) + 1)) x0) < (x8.length : Int) then (if 0 ≤ (Int.tmod (Go.bits .and .i64 x2 65535) x0) then (if (Int.tmod (Go.bits .and .i64 x2 65535) x0) < (y546.length : Int) then (if x7 = true then ((order_Valid.f x0 (y546.set ((Int.tmod (Go.bits .and .i64 x2 65535) x0) : Int).toNat (rd x8 (Int.tmod (wrap64 ((Int.tmod (Go.bits .and .i64 x2 65535) x0) + 1)) x0)))).bind fun t551 => (if (t551 == (x0 == 1)) = true then ((order_Valid.f 0 ([] : List Int)).bind fun t552 => (if t552 = true then ((order_Valid.f 1 ([] : List Int)).bind fun t553 => (some (!t553))) else (some false))) else (some false))) else (some false)) else (none)) else (none)) else (none)) else (none))) else (none))))
end
def arboristlaw09_OrderPermutes.f (k : Nat) (a0 : Int) (l1 : List Int) (a2 : Int) : Option (Bool) := (arboristlaw09_shown.f k).bind fun t526 => ((arboristlaw09_given.f k (wrap64 (1 + (Int.tmod (Go.bits .and .i64 a0 65535) 40))) l1).bind fun t527 => (arboristlaw09_OrderPermutes.l0 k (wrap64 (1 + (Int.tmod (Go.bits .and .i64 a0 65535) 40))) a2 t526 t527 ([] : List Int) (wrap64 (1 + (Int.tmod (Go.bits .and .i64 a0 65535) 40)))))
theorem arboristlaw09_OrderPermutes.mono_l : ∀ k, (∀ y0 y1 y2 y3 y4 y5, LeO (arboristlaw09_OrderPermutes.l0 k y0 y1 y2 y3 y4 y5) (arboristlaw09_OrderPermutes.l0 (k + 1) y0 y1 y2 y3 y4 y5)) ∧ (∀ y0 y1 y2 y3 y4, LeO (arboristlaw09_OrderPermutes.j1 k y0 y1 y2 y3 y4) (arboristlaw09_OrderPermutes.j1 (k + 1) y0 y1 y2 y3 y4))
  | 0 => ⟨fun _ _ _ _ _ _ r h => by simp [arboristlaw09_OrderPermutes.l0] at h, fun _ _ _ _ _ r h => by simp [arboristlaw09_OrderPermutes.j1] at h⟩
  | k + 1 => by
    obtain ⟨ih0, ih1⟩ := arboristlaw09_OrderPermutes.mono_l k
    refine ⟨?_, ?_⟩
    all_goals intros
    all_goals (first | unfold arboristlaw09_OrderPermutes.l0 | unfold arboristlaw09_OrderPermutes.j1)
    all_goals repeat' first
    | (with_reducible exact ih0 _ _ _ _ _ _)
    | (with_reducible exact ih1 _ _ _ _ _)
    | (with_reducible exact arboristlaw09_given.mono _ _ _)
    | (with_reducible exact arboristlaw09_shown.mono _)
    | (with_reducible exact LeO.refl _)
    | (with_reducible exact LeO.none _)
    | (with_reducible refine LeO.ite ?_ ?_)
    | (with_reducible refine LeO.bind ?_ (fun _ => ?_))
    | exact ih0 _ _ _ _ _ _
    | exact ih1 _ _ _ _ _
    | exact arboristlaw09_given.mono _ _ _
    | exact arboristlaw09_shown.mono _
    | exact LeO.none _
    | refine LeO.ite ?_ ?_
    | refine LeO.bind ?_ (fun _ => ?_)
theorem arboristlaw09_OrderPermutes.mono : ∀ a0 a1 a2 k, LeO (arboristlaw09_OrderPermutes.f k a0 a1 a2) (arboristlaw09_OrderPermutes.f (k + 1) a0 a1 a2) := by
  intro a0 a1 a2 k
  obtain ⟨ih0, ih1⟩ := arboristlaw09_OrderPermutes.mono_l k
  unfold arboristlaw09_OrderPermutes.f
  repeat' first
      | (with_reducible exact ih0 _ _ _ _ _ _)
      | (with_reducible exact ih1 _ _ _ _ _)
      | (with_reducible exact arboristlaw09_given.mono _ _ _)
      | (with_reducible exact arboristlaw09_shown.mono _)
      | (with_reducible exact LeO.refl _)
      | (with_reducible exact LeO.none _)
      | (with_reducible refine LeO.ite ?_ ?_)
      | (with_reducible refine LeO.bind ?_ (fun _ => ?_))
      | exact ih0 _ _ _ _ _ _
      | exact ih1 _ _ _ _ _
      | exact arboristlaw09_given.mono _ _ _
      | exact arboristlaw09_shown.mono _
      | exact LeO.none _
      | refine LeO.ite ?_ ?_
      | refine LeO.bind ?_ (fun _ => ?_)
set_option maxHeartbeats 8000000 in
set_option maxRecDepth 100000 in
theorem arboristlaw09_OrderPermutes.calls (k : Nat) (a0 : Int) (A1 : Option Addr) (c1 : Nat) (l1 : List Int) (a2 : Int) (r : Bool) (w : World) (hTb : Tab64 w) (hr1 : Kd.C (Kd.int .i64) w A1 l1.length l1) (hc1 : l1.length ≤ c1) (hT : r = true) (h : arboristlaw09_OrderPermutes.f k a0 l1 a2 = some r) :
    Calls Tryd.prog 7 #[.int .i64 a0, .slice A1 l1.length c1, .int .i64 a2] w fun e w' => e = .returned (.bool r) ∧ Below w.heap.size w w' := by
  have HTAB := Aside0.mk hTb
  clear hTb
  have HT_ := Aside0.mk (show r = true from hT)
  clear hT
  have HR1 := Aside0.mk hr1
  have HC1 := Aside0.mk hc1
  clear hr1 hc1
  have HB := Aside0.mk (Below.refl w.heap.size w)
  have H : ((arboristlaw09_shown.f k).bind fun t526 => ((arboristlaw09_given.f k (wrap64 (1 + (Int.tmod (Go.bits .and .i64 a0 65535) 40))) l1).bind fun t527 => (arboristlaw09_OrderPermutes.l0 k (wrap64 (1 + (Int.tmod (Go.bits .and .i64 a0 65535) 40))) a2 t526 t527 ([] : List Int) (wrap64 (1 + (Int.tmod (Go.bits .and .i64 a0 65535) 40)))))) = some r := h
  clear h
  replace H := Option.bind_eq_some_iff.mp H
  obtain ⟨t526, A40, H⟩ := H
  replace H : ((arboristlaw09_given.f k (wrap64 (1 + (Int.tmod (Go.bits .and .i64 a0 65535) 40))) l1).bind fun t527 => (arboristlaw09_OrderPermutes.l0 k (wrap64 (1 + (Int.tmod (Go.bits .and .i64 a0 65535) 40))) a2 t526 t527 ([] : List Int) (wrap64 (1 + (Int.tmod (Go.bits .and .i64 a0 65535) 40))))) = some r := H
  have A4 := Aside0.mk A40
  clear A40
  replace H := Option.bind_eq_some_iff.mp H
  obtain ⟨t527, A50, H⟩ := H
  replace H : (arboristlaw09_OrderPermutes.l0 k (wrap64 (1 + (Int.tmod (Go.bits .and .i64 a0 65535) 40))) a2 t526 t527 ([] : List Int) (wrap64 (1 + (Int.tmod (Go.bits .and .i64 a0 65535) 40)))) = some r := H
  have A5 := Aside0.mk A50
  clear A50
  have H' := Aside0.mk H
  clear H
  go_enter Tryd.func7, Tryd.ntmps7
  go_wp2_with (first | ((with_reducible refine gate_callee (f := 8) rfl ?_); refine goesL_ (some 12) rfl rfl Tryd.func8 (by kernel_rfl) rfl #[] rfl (by (try simp only [List.map_toArray, List.map_cons, List.map_nil]); first | done | rfl | (simp only [List.length_drop, List.length_take]; rfl)) ?_; (with_reducible refine (arboristlaw09_shown.calls (hTb := (by first | exact HTAB.out | exact tab_drewN HTAB.out _ | exact tab_below HTAB.out (by repeat (first | (with_reducible first | exact HB.out | apply below_alloc | apply pw_below_drewN | apply below_drew1) | exact HB.out)))) k  t526 _ A4.out).mono ?_); rintro e w6 ⟨rfl, hb⟩; refine ⟨_, rfl, ?_⟩; have n0_ := Aside0.mk (below_step (by repeat (first | (with_reducible first | exact HB.out | apply below_alloc | apply pw_below_drewN | apply below_drew1) | exact HB.out)) hb); clear HB; have HB := n0_; clear n0_; (try clear hb); (try clear hb2); (try clear hk); (try clear hi)) | ((with_reducible refine gate_callee (f := 20) rfl ?_); refine goesL_ (some 19) rfl rfl Tryd.func20 (by kernel_rfl) rfl #[.int .i64 (wrap64 (1 + (Int.tmod (Go.bits .and .i64 a0 65535) 40))), .slice A1 l1.length c1] rfl (by (try simp only [List.map_toArray, List.map_cons, List.map_nil]); first | done | rfl | (simp only [List.length_drop, List.length_take]; rfl)) ?_; (with_reducible refine (arboristlaw09_given.calls k (wrap64 (1 + (Int.tmod (Go.bits .and .i64 a0 65535) 40))) _ _ l1 t527 _ ?side1 ?side2 A5.out).mono ?_); (case side1 => repeat (first | exact (Kd.C_below HR1.out HB.out) | (with_reducible refine Kd.C_alloc ?_ _) | (with_reducible refine Kd.C_drewN ?_ _) | (with_reducible refine Kd.C_drew ?_))); (case side2 => exact HC1.out); rintro e w7 ⟨v528, rfl, ho0, hb⟩; refine ⟨_, rfl, ?_⟩; have n0_ := Aside0.mk (Kd.R_lower ho0 (below_size (by repeat (first | (with_reducible first | exact HB.out | apply below_alloc | apply pw_below_drewN | apply below_drew1) | exact HB.out)))); have n1_ := Aside0.mk (below_step (by repeat (first | (with_reducible first | exact HB.out | apply below_alloc | apply pw_below_drewN | apply below_drew1) | exact HB.out)) hb); clear HB; have HO529 := n0_; have HB := n1_; clear n0_ n1_; (try clear hb); (try clear hb2); (try clear hk); (try clear hi); (try clear ho0)))
  go_loopg [9, 10] k (fun kq v9 v10 w' => ∃ (x9_1 : List Int) (x10_1 : Int), v10 = .int .i64 x10_1 ∧ Aside0 (arboristlaw09_OrderPermutes.l0 kq (wrap64 (1 + (Int.tmod (Go.bits .and .i64 a0 65535) 40))) a2 t526 t527 x9_1 x10_1 = some r) ∧ Aside0 (kq ≤ k) ∧ Aside0 (Kd.R (Kd.int .i64) 3 w' w.heap.size (fun k_ => some k_ ≠ (v9 : Value).ownBlock) v528 t527) ∧ Aside0 (Kd.R (Kd.int .i64) 3 w' w.heap.size (fun k_ => some k_ ≠ (v528 : Value).ownBlock) v9 x9_1) ∧ Aside0 (Below w.heap.size w w'))
  case atStart => exact ⟨(([] : List Int)), (wrap64 (1 + (Int.tmod (Go.bits .and .i64 a0 65535) 40))), (by first | rfl | (simp; done) | (simp [*]; done)), H', ⟨Nat.le_refl _⟩, ⟨by (with_reducible repeat (first | apply Kd.R_alloc | apply Kd.R_drewN | apply Kd.R_drew)); exact Kd.R_mono HO529.out (fun _ hk => (by simp [Value.ownBlock]))⟩, ⟨by first | exact Kd.R_nil _ _ _ _ _ | exact Kd.N_nil _ _ _ _ _ | exact Kd.V_nil _ _ _ _ _ | exact Kd.Q_nil _ _ _ _ _ | exact Kd.S_nil _ _ _ _ _⟩, ⟨by repeat (first | (with_reducible first | exact HB.out | apply below_alloc | apply pw_below_drewN | apply below_drew1) | exact HB.out)⟩⟩
  case round =>
    clear H'
    try clear c1
    try clear c2
    try clear p2
    try clear p6
    try clear c7
    obtain ⟨x9_1, x10_1, rfl, HA, HK1, HO_8, HO_9, HB⟩ := hrel
    cases gk with
    | zero => exact absurd HA.out (by simp [arboristlaw09_OrderPermutes.l0])
    | succ k1 =>
      have H := HA.out
      clear HA
      simp only [arboristlaw09_OrderPermutes.l0] at H
      by_cases c8 : x10_1 > 0
      · rw [if_pos c8] at H
        have c8b0 : decide (0 < x10_1) = true := decide_eq_true c8
        clear c8
        obtain ⟨ji9, hji9⟩ : ∃ j_ : Int, (wrap64 (x10_1 - 1)) = j_ := ⟨_, rfl⟩
        replace H : (if 0 ≤ (ji9) then (if (ji9) < (t527.length : Int) then (if x9_1.length < 17592186044416 then (arboristlaw09_OrderPermutes.l0 k1 (wrap64 (1 + (Int.tmod (Go.bits .and .i64 a0 65535) 40))) a2 t526 t527 (x9_1 ++ [rd t527 (ji9)]) ji9) else (none)) else (none)) else (none)) = some r := by first | (rw [hji9] at H; exact H) | (simp only [hji9] at H ⊢; exact H)
        have hji9w : (IntKind.i64.wrap (x10_1 - 1)) = ji9 := (i64_w _).trans hji9
        by_cases c10 : 0 ≤ (ji9)
        · rw [if_pos c10] at H
          have c10b0 : decide (0 ≤ (ji9)) = true := decide_eq_true c10
          clear c10
          by_cases c11 : (ji9) < (t527.length : Int)
          · rw [if_pos c11] at H
            have c11b0 : decide ((ji9) < (t527.length : Int)) = true := decide_eq_true c11
            clear c11
            by_cases c12 : x9_1.length < 17592186044416
            · rw [if_pos c12] at H
              have LMc12 := Aside0.mk c12
              clear c12
              obtain ⟨y531, hy531⟩ : ∃ y_ : List Int, y_ = (x9_1 ++ [rd t527 (ji9)]) := ⟨_, rfl⟩
              replace H : (arboristlaw09_OrderPermutes.l0 k1 (wrap64 (1 + (Int.tmod (Go.bits .and .i64 a0 65535) 40))) a2 t526 t527 y531 ji9) = some r := by first | (rw [hy531]; with_reducible exact H) | (have H2_ := (Option.bind_some _ _).symm.trans H; rw [hy531]; with_reducible exact H2_) | (have H2_ := (Option.bind_some _ _).symm.trans H; with_reducible exact H2_) | with_reducible exact H | (rw [hy531]; exact H) | exact H
              have Ny531 := Aside0.mk hy531
              clear hy531
              have H' := Aside0.mk H
              clear H
              obtain ⟨Ao13, co13, eo13⟩ := Kd.R_slice HO_8.out
              subst eo13
              have p530 : 0 ≤ ((ji9) : Int) := of_decide_eq_true (by first | (with_reducible assumption) | assumption)
              have q530 : (ji9) < (t527.length : Int) := of_decide_eq_true (by first | (with_reducible assumption) | assumption)
              obtain ⟨ad530, e530, hx530_0⟩ := Kd.at_int (Kd.R_reads' HO_8.out).2.2 (ji9) p530 q530
              cases e530
              replace p530 := eq_true p530
              replace q530 := eq_true q530
              go_wp2_with (first | ((with_reducible refine gate_builtin (b := .append) (xs := #[.tmp 25, .tmp 31]) rfl ?_); at_builtin; refine Kd.R_append (Kd.int .i64) (w0 := w) w.heap.size rfl (.tmp 25) (.tmp 31) 26 3 (.int .i64 0) 8 rfl Tryd.underlying26 info3 rfl (by decide) (by omega) u9 x9_1 (rd t527 (ji9)) [.int .i64 (rd t527 (ji9))] (fun k_ => some k_ ≠ (.slice (some ad530) t527.length co13 : Value).ownBlock) (fun _ => False) rfl rfl ?aP (fun _ hk => hk.elim) ?aF ?aO ?aB ?aS ?aL ?_; (case aP => exact rfl); (case aB => exact (by repeat (first | (with_reducible first | exact HB.out | apply below_alloc | apply pw_below_drewN | apply below_drew1) | exact HB.out))); (case aF => exact (fun k_ hk => Kd.fresh' (Kd.R_lt (by (with_reducible repeat (first | apply Kd.R_alloc | apply Kd.R_drewN | apply Kd.R_drew)); exact HO_8.out)) k_ hk)); (case aO => exact (by (with_reducible repeat (first | apply Kd.R_alloc | apply Kd.R_drewN | apply Kd.R_drew)); exact HO_9.out)); (case aS => exact (below_size (by repeat (first | (with_reducible first | exact HB.out | apply below_alloc | apply pw_below_drewN | apply below_drew1) | exact HB.out)))); (case aL => have := LMc12.out; omega); intro v532 w14 ho hb hg hat; rw [← Ny531.out] at ho; have n0_ := Aside0.mk (Kd.R_after (ok := (fun _ => True)) (by (with_reducible repeat (first | apply Kd.R_alloc | apply Kd.R_drewN | apply Kd.R_drew)); exact Kd.R_mono HO_8.out (fun _ hk => ⟨trivial, hk⟩)) hg hat); have n1_ := Aside0.mk (hb); have n2_ := Aside0.mk (ho); clear HO_8; clear HB; clear HO_9; have HO_8 := n0_; have HB := n1_; have HO533 := n2_; clear n0_ n1_ n2_; clear ho hb hg hat))
              go_roundg k1
              case measure => have := HK1.out; omega
              case rel => exact ⟨(y531), (ji9), (by first | rfl | (simp; done) | (simp only [← hji9] <;> (first | rfl | simp)) | (simp [*]; done)), H', ⟨by have := HK1.out; omega⟩, ⟨by (with_reducible repeat (first | apply Kd.R_alloc | apply Kd.R_drewN | apply Kd.R_drew)); exact Kd.R_mono HO_8.out (fun _ hk => hk.2)⟩, ⟨by (with_reducible repeat (first | apply Kd.R_alloc | apply Kd.R_drewN | apply Kd.R_drew)); exact HO533.out⟩, ⟨by repeat (first | (with_reducible first | exact HB.out | apply below_alloc | apply pw_below_drewN | apply below_drew1) | exact HB.out)⟩⟩
            · rw [if_neg c12] at H
              exact absurd H (by simp)
          · rw [if_neg c11] at H
            exact absurd H (by simp)
        · rw [if_neg c10] at H
          exact absurd H (by simp)
      · rw [if_neg c8] at H
        have c8b0 : decide (0 < x10_1) = false := decide_eq_false c8
        clear c8
        have HC15 := Aside0.mk H
        clear H
        go_upto_region 9 with (fail)
        go_cut [60] (fun v60 wc => ∃ (kq : Nat) (x60_14 : Bool), v60 = .bool x60_14 ∧ Aside0 (arboristlaw09_OrderPermutes.j1 kq (wrap64 (1 + (Int.tmod (Go.bits .and .i64 a0 65535) 40))) a2 t526 t527 x60_14 = some r) ∧ Aside0 (kq ≤ k1) ∧ Aside0 (Kd.R (Kd.int .i64) 3 wc w.heap.size (fun _ => True) v528 t527) ∧ Aside0 (Below w.heap.size w wc))
        case first =>
          have H := HC15.out
          clear HC15
          replace H := Option.bind_eq_some_iff.mp H
          obtain ⟨t534, A160, H⟩ := H
          replace H : (if t534 = true then ((order_Valid.f (wrap64 (1 + (Int.tmod (Go.bits .and .i64 a0 65535) 40))) x9_1).bind fun t535 => (if t535 = true then ((order_Valid.f (wrap64 ((wrap64 (1 + (Int.tmod (Go.bits .and .i64 a0 65535) 40))) - 1)) t527).bind fun t536 => (if t536 = true then (arboristlaw09_OrderPermutes.j1 k1 (wrap64 (1 + (Int.tmod (Go.bits .and .i64 a0 65535) 40))) a2 t526 t527 true) else ((order_Valid.f (wrap64 ((wrap64 (1 + (Int.tmod (Go.bits .and .i64 a0 65535) 40))) + 1)) t527).bind fun t537 => (if t537 = true then (arboristlaw09_OrderPermutes.j1 k1 (wrap64 (1 + (Int.tmod (Go.bits .and .i64 a0 65535) 40))) a2 t526 t527 true) else (if 1 ≤ (t527.length : Int) then ((order_Valid.f (wrap64 (1 + (Int.tmod (Go.bits .and .i64 a0 65535) 40))) (t527.drop 1)).bind fun t542 => (arboristlaw09_OrderPermutes.j1 k1 (wrap64 (1 + (Int.tmod (Go.bits .and .i64 a0 65535) 40))) a2 t526 t527 t542)) else (none)))))) else (arboristlaw09_OrderPermutes.j1 k1 (wrap64 (1 + (Int.tmod (Go.bits .and .i64 a0 65535) 40))) a2 t526 t527 true))) else (arboristlaw09_OrderPermutes.j1 k1 (wrap64 (1 + (Int.tmod (Go.bits .and .i64 a0 65535) 40))) a2 t526 t527 true)) = some r := H
          have A16 := Aside0.mk A160
          clear A160
          by_cases c17 : t534 = true
          · subst c17
            have H1 : ((order_Valid.f (wrap64 (1 + (Int.tmod (Go.bits .and .i64 a0 65535) 40))) x9_1).bind fun t535 => (if t535 = true then ((order_Valid.f (wrap64 ((wrap64 (1 + (Int.tmod (Go.bits .and .i64 a0 65535) 40))) - 1)) t527).bind fun t536 => (if t536 = true then (arboristlaw09_OrderPermutes.j1 k1 (wrap64 (1 + (Int.tmod (Go.bits .and .i64 a0 65535) 40))) a2 t526 t527 true) else ((order_Valid.f (wrap64 ((wrap64 (1 + (Int.tmod (Go.bits .and .i64 a0 65535) 40))) + 1)) t527).bind fun t537 => (if t537 = true then (arboristlaw09_OrderPermutes.j1 k1 (wrap64 (1 + (Int.tmod (Go.bits .and .i64 a0 65535) 40))) a2 t526 t527 true) else (if 1 ≤ (t527.length : Int) then ((order_Valid.f (wrap64 (1 + (Int.tmod (Go.bits .and .i64 a0 65535) 40))) (t527.drop 1)).bind fun t542 => (arboristlaw09_OrderPermutes.j1 k1 (wrap64 (1 + (Int.tmod (Go.bits .and .i64 a0 65535) 40))) a2 t526 t527 t542)) else (none)))))) else (arboristlaw09_OrderPermutes.j1 k1 (wrap64 (1 + (Int.tmod (Go.bits .and .i64 a0 65535) 40))) a2 t526 t527 true))) = some r := by rw [if_pos rfl] at H; exact H
            clear H
            have H := H1
            clear H1
            replace H := Option.bind_eq_some_iff.mp H
            obtain ⟨t535, A180, H⟩ := H
            replace H : (if t535 = true then ((order_Valid.f (wrap64 ((wrap64 (1 + (Int.tmod (Go.bits .and .i64 a0 65535) 40))) - 1)) t527).bind fun t536 => (if t536 = true then (arboristlaw09_OrderPermutes.j1 k1 (wrap64 (1 + (Int.tmod (Go.bits .and .i64 a0 65535) 40))) a2 t526 t527 true) else ((order_Valid.f (wrap64 ((wrap64 (1 + (Int.tmod (Go.bits .and .i64 a0 65535) 40))) + 1)) t527).bind fun t537 => (if t537 = true then (arboristlaw09_OrderPermutes.j1 k1 (wrap64 (1 + (Int.tmod (Go.bits .and .i64 a0 65535) 40))) a2 t526 t527 true) else (if 1 ≤ (t527.length : Int) then ((order_Valid.f (wrap64 (1 + (Int.tmod (Go.bits .and .i64 a0 65535) 40))) (t527.drop 1)).bind fun t542 => (arboristlaw09_OrderPermutes.j1 k1 (wrap64 (1 + (Int.tmod (Go.bits .and .i64 a0 65535) 40))) a2 t526 t527 t542)) else (none)))))) else (arboristlaw09_OrderPermutes.j1 k1 (wrap64 (1 + (Int.tmod (Go.bits .and .i64 a0 65535) 40))) a2 t526 t527 true)) = some r := H
            have A18 := Aside0.mk A180
            clear A180
            by_cases c19 : t535 = true
            · subst c19
              have H1 : ((order_Valid.f (wrap64 ((wrap64 (1 + (Int.tmod (Go.bits .and .i64 a0 65535) 40))) - 1)) t527).bind fun t536 => (if t536 = true then (arboristlaw09_OrderPermutes.j1 k1 (wrap64 (1 + (Int.tmod (Go.bits .and .i64 a0 65535) 40))) a2 t526 t527 true) else ((order_Valid.f (wrap64 ((wrap64 (1 + (Int.tmod (Go.bits .and .i64 a0 65535) 40))) + 1)) t527).bind fun t537 => (if t537 = true then (arboristlaw09_OrderPermutes.j1 k1 (wrap64 (1 + (Int.tmod (Go.bits .and .i64 a0 65535) 40))) a2 t526 t527 true) else (if 1 ≤ (t527.length : Int) then ((order_Valid.f (wrap64 (1 + (Int.tmod (Go.bits .and .i64 a0 65535) 40))) (t527.drop 1)).bind fun t542 => (arboristlaw09_OrderPermutes.j1 k1 (wrap64 (1 + (Int.tmod (Go.bits .and .i64 a0 65535) 40))) a2 t526 t527 t542)) else (none)))))) = some r := by rw [if_pos rfl] at H; exact H
              clear H
              have H := H1
              clear H1
              replace H := Option.bind_eq_some_iff.mp H
              obtain ⟨t536, A200, H⟩ := H
              replace H : (if t536 = true then (arboristlaw09_OrderPermutes.j1 k1 (wrap64 (1 + (Int.tmod (Go.bits .and .i64 a0 65535) 40))) a2 t526 t527 true) else ((order_Valid.f (wrap64 ((wrap64 (1 + (Int.tmod (Go.bits .and .i64 a0 65535) 40))) + 1)) t527).bind fun t537 => (if t537 = true then (arboristlaw09_OrderPermutes.j1 k1 (wrap64 (1 + (Int.tmod (Go.bits .and .i64 a0 65535) 40))) a2 t526 t527 true) else (if 1 ≤ (t527.length : Int) then ((order_Valid.f (wrap64 (1 + (Int.tmod (Go.bits .and .i64 a0 65535) 40))) (t527.drop 1)).bind fun t542 => (arboristlaw09_OrderPermutes.j1 k1 (wrap64 (1 + (Int.tmod (Go.bits .and .i64 a0 65535) 40))) a2 t526 t527 t542)) else (none))))) = some r := H
              have A20 := Aside0.mk A200
              clear A200
              by_cases c21 : t536 = true
              · subst c21
                have H1 : (arboristlaw09_OrderPermutes.j1 k1 (wrap64 (1 + (Int.tmod (Go.bits .and .i64 a0 65535) 40))) a2 t526 t527 true) = some r := by rw [if_pos rfl] at H; exact H
                clear H
                have H := H1
                clear H1
                have H' := Aside0.mk H
                clear H
                obtain ⟨Ao22, co22, eo22⟩ := Kd.R_slice HO_8.out
                subst eo22
                go_wp2_with (first | ((with_reducible refine gate_callee (f := 14) rfl ?_); refine goesL_ (some 35) rfl rfl Tryd.func14 (by kernel_rfl) rfl #[.int .i64 (wrap64 (1 + (Int.tmod (Go.bits .and .i64 a0 65535) 40))), .slice Ao22 t527.length co22] rfl (by (try simp only [List.map_toArray, List.map_cons, List.map_nil]); first | done | rfl | (simp only [List.length_drop, List.length_take]; rfl)) ?_; (with_reducible refine (order_Valid.calls (wrap64 (1 + (Int.tmod (Go.bits .and .i64 a0 65535) 40))) _ _ t527 true _ ?side1 ?side2 A16.out).mono ?_); (case side1 => repeat (first | exact (Kd.R_reads' HO_8.out).2.2 | (with_reducible refine Kd.C_alloc ?_ _) | (with_reducible refine Kd.C_drewN ?_ _) | (with_reducible refine Kd.C_drew ?_))); (case side2 => exact (Kd.R_reads' HO_8.out).2.1); rintro e w23 ⟨rfl, hb⟩; refine ⟨_, rfl, ?_⟩; have n0_ := Aside0.mk (Kd.R_below (by (with_reducible repeat (first | apply Kd.R_alloc | apply Kd.R_drewN | apply Kd.R_drew)); exact HO_8.out) hb); have n1_ := Aside0.mk (Kd.R_below (by (with_reducible repeat (first | apply Kd.R_alloc | apply Kd.R_drewN | apply Kd.R_drew)); exact HO_9.out) hb); have n2_ := Aside0.mk (below_step (by repeat (first | (with_reducible first | exact HB.out | apply below_alloc | apply pw_below_drewN | apply below_drew1) | exact HB.out)) hb); clear HO_8; clear HO_9; clear HB; have HO_8 := n0_; have HO_9 := n1_; have HB := n2_; clear n0_ n1_ n2_; (try clear hb); (try clear hb2); (try clear hk); (try clear hi); obtain ⟨Ao24, co24, eo24⟩ := Kd.R_slice HO_9.out; subst eo24) | (go_at_call 14; (with_reducible refine (order_Valid.calls (wrap64 (1 + (Int.tmod (Go.bits .and .i64 a0 65535) 40))) _ _ x9_1 true _ ?side1 ?side2 A18.out).mono ?_); (case side1 => repeat (first | exact (Kd.R_reads' HO_9.out).2.2 | (with_reducible refine Kd.C_alloc ?_ _) | (with_reducible refine Kd.C_drewN ?_ _) | (with_reducible refine Kd.C_drew ?_))); (case side2 => exact (Kd.R_reads' HO_9.out).2.1); rintro e w25 ⟨rfl, hb⟩; have n0_ := Aside0.mk (Kd.R_below (by (with_reducible repeat (first | apply Kd.R_alloc | apply Kd.R_drewN | apply Kd.R_drew)); exact HO_8.out) hb); have n1_ := Aside0.mk (Kd.R_below (by (with_reducible repeat (first | apply Kd.R_alloc | apply Kd.R_drewN | apply Kd.R_drew)); exact HO_9.out) hb); have n2_ := Aside0.mk (below_step (by repeat (first | (with_reducible first | exact HB.out | apply below_alloc | apply pw_below_drewN | apply below_drew1) | exact HB.out)) hb); clear HO_8; clear HO_9; clear HB; have HO_8 := n0_; have HO_9 := n1_; have HB := n2_; clear n0_ n1_ n2_; (try clear hb); (try clear hb2); (try clear hk); (try clear hi)) | (go_at_call 14; (with_reducible refine (order_Valid.calls (wrap64 ((wrap64 (1 + (Int.tmod (Go.bits .and .i64 a0 65535) 40))) - 1)) _ _ t527 true _ ?side1 ?side2 A20.out).mono ?_); (case side1 => repeat (first | exact (Kd.R_reads' HO_8.out).2.2 | (with_reducible refine Kd.C_alloc ?_ _) | (with_reducible refine Kd.C_drewN ?_ _) | (with_reducible refine Kd.C_drew ?_))); (case side2 => exact (Kd.R_reads' HO_8.out).2.1); rintro e w26 ⟨rfl, hb⟩; have n0_ := Aside0.mk (Kd.R_below (by (with_reducible repeat (first | apply Kd.R_alloc | apply Kd.R_drewN | apply Kd.R_drew)); exact HO_8.out) hb); have n1_ := Aside0.mk (Kd.R_below (by (with_reducible repeat (first | apply Kd.R_alloc | apply Kd.R_drewN | apply Kd.R_drew)); exact HO_9.out) hb); have n2_ := Aside0.mk (below_step (by repeat (first | (with_reducible first | exact HB.out | apply below_alloc | apply pw_below_drewN | apply below_drew1) | exact HB.out)) hb); clear HO_8; clear HO_9; clear HB; have HO_8 := n0_; have HO_9 := n1_; have HB := n2_; clear n0_ n1_ n2_; (try clear hb); (try clear hb2); (try clear hk); (try clear hi)))
                go_meet
                case rel => exact ⟨_, (true), (by first | rfl | (simp; done) | (simp [*]; done)), H', ⟨by have := HK1.out; first | omega | exact Nat.le_refl _⟩, ⟨by (with_reducible repeat (first | apply Kd.R_alloc | apply Kd.R_drewN | apply Kd.R_drew)); exact Kd.R_mono HO_8.out (fun _ hk => trivial)⟩, ⟨by repeat (first | (with_reducible first | exact HB.out | apply below_alloc | apply pw_below_drewN | apply below_drew1) | exact HB.out)⟩⟩
              · replace c21 := Bool.eq_false_iff.mpr c21
                subst c21
                have H1 : ((order_Valid.f (wrap64 ((wrap64 (1 + (Int.tmod (Go.bits .and .i64 a0 65535) 40))) + 1)) t527).bind fun t537 => (if t537 = true then (arboristlaw09_OrderPermutes.j1 k1 (wrap64 (1 + (Int.tmod (Go.bits .and .i64 a0 65535) 40))) a2 t526 t527 true) else (if 1 ≤ (t527.length : Int) then ((order_Valid.f (wrap64 (1 + (Int.tmod (Go.bits .and .i64 a0 65535) 40))) (t527.drop 1)).bind fun t542 => (arboristlaw09_OrderPermutes.j1 k1 (wrap64 (1 + (Int.tmod (Go.bits .and .i64 a0 65535) 40))) a2 t526 t527 t542)) else (none)))) = some r := by rw [if_neg (show ¬ (false = true) by decide)] at H; exact H
                clear H
                have H := H1
                clear H1
                replace H := Option.bind_eq_some_iff.mp H
                obtain ⟨t537, A270, H⟩ := H
                replace H : (if t537 = true then (arboristlaw09_OrderPermutes.j1 k1 (wrap64 (1 + (Int.tmod (Go.bits .and .i64 a0 65535) 40))) a2 t526 t527 true) else (if 1 ≤ (t527.length : Int) then ((order_Valid.f (wrap64 (1 + (Int.tmod (Go.bits .and .i64 a0 65535) 40))) (t527.drop 1)).bind fun t542 => (arboristlaw09_OrderPermutes.j1 k1 (wrap64 (1 + (Int.tmod (Go.bits .and .i64 a0 65535) 40))) a2 t526 t527 t542)) else (none))) = some r := H
                have A27 := Aside0.mk A270
                clear A270
                by_cases c28 : t537 = true
                · subst c28
                  have H1 : (arboristlaw09_OrderPermutes.j1 k1 (wrap64 (1 + (Int.tmod (Go.bits .and .i64 a0 65535) 40))) a2 t526 t527 true) = some r := by rw [if_pos rfl] at H; exact H
                  clear H
                  have H := H1
                  clear H1
                  have H' := Aside0.mk H
                  clear H
                  obtain ⟨Ao29, co29, eo29⟩ := Kd.R_slice HO_8.out
                  subst eo29
                  go_wp2_with (first | ((with_reducible refine gate_callee (f := 14) rfl ?_); refine goesL_ (some 35) rfl rfl Tryd.func14 (by kernel_rfl) rfl #[.int .i64 (wrap64 (1 + (Int.tmod (Go.bits .and .i64 a0 65535) 40))), .slice Ao29 t527.length co29] rfl (by (try simp only [List.map_toArray, List.map_cons, List.map_nil]); first | done | rfl | (simp only [List.length_drop, List.length_take]; rfl)) ?_; (with_reducible refine (order_Valid.calls (wrap64 (1 + (Int.tmod (Go.bits .and .i64 a0 65535) 40))) _ _ t527 true _ ?side1 ?side2 A16.out).mono ?_); (case side1 => repeat (first | exact (Kd.R_reads' HO_8.out).2.2 | (with_reducible refine Kd.C_alloc ?_ _) | (with_reducible refine Kd.C_drewN ?_ _) | (with_reducible refine Kd.C_drew ?_))); (case side2 => exact (Kd.R_reads' HO_8.out).2.1); rintro e w30 ⟨rfl, hb⟩; refine ⟨_, rfl, ?_⟩; have n0_ := Aside0.mk (Kd.R_below (by (with_reducible repeat (first | apply Kd.R_alloc | apply Kd.R_drewN | apply Kd.R_drew)); exact HO_8.out) hb); have n1_ := Aside0.mk (Kd.R_below (by (with_reducible repeat (first | apply Kd.R_alloc | apply Kd.R_drewN | apply Kd.R_drew)); exact HO_9.out) hb); have n2_ := Aside0.mk (below_step (by repeat (first | (with_reducible first | exact HB.out | apply below_alloc | apply pw_below_drewN | apply below_drew1) | exact HB.out)) hb); clear HO_8; clear HO_9; clear HB; have HO_8 := n0_; have HO_9 := n1_; have HB := n2_; clear n0_ n1_ n2_; (try clear hb); (try clear hb2); (try clear hk); (try clear hi); obtain ⟨Ao31, co31, eo31⟩ := Kd.R_slice HO_9.out; subst eo31) | (go_at_call 14; (with_reducible refine (order_Valid.calls (wrap64 (1 + (Int.tmod (Go.bits .and .i64 a0 65535) 40))) _ _ x9_1 true _ ?side1 ?side2 A18.out).mono ?_); (case side1 => repeat (first | exact (Kd.R_reads' HO_9.out).2.2 | (with_reducible refine Kd.C_alloc ?_ _) | (with_reducible refine Kd.C_drewN ?_ _) | (with_reducible refine Kd.C_drew ?_))); (case side2 => exact (Kd.R_reads' HO_9.out).2.1); rintro e w32 ⟨rfl, hb⟩; have n0_ := Aside0.mk (Kd.R_below (by (with_reducible repeat (first | apply Kd.R_alloc | apply Kd.R_drewN | apply Kd.R_drew)); exact HO_8.out) hb); have n1_ := Aside0.mk (Kd.R_below (by (with_reducible repeat (first | apply Kd.R_alloc | apply Kd.R_drewN | apply Kd.R_drew)); exact HO_9.out) hb); have n2_ := Aside0.mk (below_step (by repeat (first | (with_reducible first | exact HB.out | apply below_alloc | apply pw_below_drewN | apply below_drew1) | exact HB.out)) hb); clear HO_8; clear HO_9; clear HB; have HO_8 := n0_; have HO_9 := n1_; have HB := n2_; clear n0_ n1_ n2_; (try clear hb); (try clear hb2); (try clear hk); (try clear hi)) | (go_at_call 14; (with_reducible refine (order_Valid.calls (wrap64 ((wrap64 (1 + (Int.tmod (Go.bits .and .i64 a0 65535) 40))) - 1)) _ _ t527 false _ ?side1 ?side2 A20.out).mono ?_); (case side1 => repeat (first | exact (Kd.R_reads' HO_8.out).2.2 | (with_reducible refine Kd.C_alloc ?_ _) | (with_reducible refine Kd.C_drewN ?_ _) | (with_reducible refine Kd.C_drew ?_))); (case side2 => exact (Kd.R_reads' HO_8.out).2.1); rintro e w33 ⟨rfl, hb⟩; have n0_ := Aside0.mk (Kd.R_below (by (with_reducible repeat (first | apply Kd.R_alloc | apply Kd.R_drewN | apply Kd.R_drew)); exact HO_8.out) hb); have n1_ := Aside0.mk (Kd.R_below (by (with_reducible repeat (first | apply Kd.R_alloc | apply Kd.R_drewN | apply Kd.R_drew)); exact HO_9.out) hb); have n2_ := Aside0.mk (below_step (by repeat (first | (with_reducible first | exact HB.out | apply below_alloc | apply pw_below_drewN | apply below_drew1) | exact HB.out)) hb); clear HO_8; clear HO_9; clear HB; have HO_8 := n0_; have HO_9 := n1_; have HB := n2_; clear n0_ n1_ n2_; (try clear hb); (try clear hb2); (try clear hk); (try clear hi)) | (go_at_call 14; (with_reducible refine (order_Valid.calls (wrap64 ((wrap64 (1 + (Int.tmod (Go.bits .and .i64 a0 65535) 40))) + 1)) _ _ t527 true _ ?side1 ?side2 A27.out).mono ?_); (case side1 => repeat (first | exact (Kd.R_reads' HO_8.out).2.2 | (with_reducible refine Kd.C_alloc ?_ _) | (with_reducible refine Kd.C_drewN ?_ _) | (with_reducible refine Kd.C_drew ?_))); (case side2 => exact (Kd.R_reads' HO_8.out).2.1); rintro e w34 ⟨rfl, hb⟩; have n0_ := Aside0.mk (Kd.R_below (by (with_reducible repeat (first | apply Kd.R_alloc | apply Kd.R_drewN | apply Kd.R_drew)); exact HO_8.out) hb); have n1_ := Aside0.mk (Kd.R_below (by (with_reducible repeat (first | apply Kd.R_alloc | apply Kd.R_drewN | apply Kd.R_drew)); exact HO_9.out) hb); have n2_ := Aside0.mk (below_step (by repeat (first | (with_reducible first | exact HB.out | apply below_alloc | apply pw_below_drewN | apply below_drew1) | exact HB.out)) hb); clear HO_8; clear HO_9; clear HB; have HO_8 := n0_; have HO_9 := n1_; have HB := n2_; clear n0_ n1_ n2_; (try clear hb); (try clear hb2); (try clear hk); (try clear hi)))
                  go_meet
                  case rel => exact ⟨_, (true), (by first | rfl | (simp; done) | (simp [*]; done)), H', ⟨by have := HK1.out; first | omega | exact Nat.le_refl _⟩, ⟨by (with_reducible repeat (first | apply Kd.R_alloc | apply Kd.R_drewN | apply Kd.R_drew)); exact Kd.R_mono HO_8.out (fun _ hk => trivial)⟩, ⟨by repeat (first | (with_reducible first | exact HB.out | apply below_alloc | apply pw_below_drewN | apply below_drew1) | exact HB.out)⟩⟩
                · replace c28 := Bool.eq_false_iff.mpr c28
                  subst c28
                  have H1 : (if 1 ≤ (t527.length : Int) then ((order_Valid.f (wrap64 (1 + (Int.tmod (Go.bits .and .i64 a0 65535) 40))) (t527.drop 1)).bind fun t542 => (arboristlaw09_OrderPermutes.j1 k1 (wrap64 (1 + (Int.tmod (Go.bits .and .i64 a0 65535) 40))) a2 t526 t527 t542)) else (none)) = some r := by rw [if_neg (show ¬ (false = true) by decide)] at H; exact H
                  clear H
                  have H := H1
                  clear H1
                  by_cases c35 : 1 ≤ (t527.length : Int)
                  · rw [if_pos c35] at H
                    have c35b0 := eq_true c35
                    have c35b1 : decide (1 ≤ (t527.length : Int)) = true := decide_eq_true c35
                    clear c35
                    obtain ⟨y538, hy538⟩ : ∃ y_ : List Int, y_ = (t527.drop 1) := ⟨_, rfl⟩
                    replace H : ((order_Valid.f (wrap64 (1 + (Int.tmod (Go.bits .and .i64 a0 65535) 40))) y538).bind fun t542 => (arboristlaw09_OrderPermutes.j1 k1 (wrap64 (1 + (Int.tmod (Go.bits .and .i64 a0 65535) 40))) a2 t526 t527 t542)) = some r := by first | (rw [hy538]; with_reducible exact H) | (have H2_ := (Option.bind_some _ _).symm.trans H; rw [hy538]; with_reducible exact H2_) | (have H2_ := (Option.bind_some _ _).symm.trans H; with_reducible exact H2_) | with_reducible exact H | (rw [hy538]; exact H) | exact H
                    have Ny538 := Aside0.mk hy538
                    clear hy538
                    replace H := Option.bind_eq_some_iff.mp H
                    obtain ⟨t542, A360, H⟩ := H
                    replace H : (arboristlaw09_OrderPermutes.j1 k1 (wrap64 (1 + (Int.tmod (Go.bits .and .i64 a0 65535) 40))) a2 t526 t527 t542) = some r := H
                    have A36 := Aside0.mk A360
                    clear A360
                    have H' := Aside0.mk H
                    clear H
                    obtain ⟨Ao37, co37, eo37⟩ := Kd.R_slice HO_8.out
                    subst eo37
                    go_wp2_with (first | ((with_reducible refine gate_callee (f := 14) rfl ?_); refine goesL_ (some 35) rfl rfl Tryd.func14 (by kernel_rfl) rfl #[.int .i64 (wrap64 (1 + (Int.tmod (Go.bits .and .i64 a0 65535) 40))), .slice Ao37 t527.length co37] rfl (by (try simp only [List.map_toArray, List.map_cons, List.map_nil]); first | done | rfl | (simp only [List.length_drop, List.length_take]; rfl)) ?_; (with_reducible refine (order_Valid.calls (wrap64 (1 + (Int.tmod (Go.bits .and .i64 a0 65535) 40))) _ _ t527 true _ ?side1 ?side2 A16.out).mono ?_); (case side1 => repeat (first | exact (Kd.R_reads' HO_8.out).2.2 | (with_reducible refine Kd.C_alloc ?_ _) | (with_reducible refine Kd.C_drewN ?_ _) | (with_reducible refine Kd.C_drew ?_))); (case side2 => exact (Kd.R_reads' HO_8.out).2.1); rintro e w38 ⟨rfl, hb⟩; refine ⟨_, rfl, ?_⟩; have n0_ := Aside0.mk (Kd.R_below (by (with_reducible repeat (first | apply Kd.R_alloc | apply Kd.R_drewN | apply Kd.R_drew)); exact HO_8.out) hb); have n1_ := Aside0.mk (Kd.R_below (by (with_reducible repeat (first | apply Kd.R_alloc | apply Kd.R_drewN | apply Kd.R_drew)); exact HO_9.out) hb); have n2_ := Aside0.mk (below_step (by repeat (first | (with_reducible first | exact HB.out | apply below_alloc | apply pw_below_drewN | apply below_drew1) | exact HB.out)) hb); clear HO_8; clear HO_9; clear HB; have HO_8 := n0_; have HO_9 := n1_; have HB := n2_; clear n0_ n1_ n2_; (try clear hb); (try clear hb2); (try clear hk); (try clear hi); obtain ⟨Ao39, co39, eo39⟩ := Kd.R_slice HO_9.out; subst eo39) | (go_at_call 14; (with_reducible refine (order_Valid.calls (wrap64 (1 + (Int.tmod (Go.bits .and .i64 a0 65535) 40))) _ _ x9_1 true _ ?side1 ?side2 A18.out).mono ?_); (case side1 => repeat (first | exact (Kd.R_reads' HO_9.out).2.2 | (with_reducible refine Kd.C_alloc ?_ _) | (with_reducible refine Kd.C_drewN ?_ _) | (with_reducible refine Kd.C_drew ?_))); (case side2 => exact (Kd.R_reads' HO_9.out).2.1); rintro e w40 ⟨rfl, hb⟩; have n0_ := Aside0.mk (Kd.R_below (by (with_reducible repeat (first | apply Kd.R_alloc | apply Kd.R_drewN | apply Kd.R_drew)); exact HO_8.out) hb); have n1_ := Aside0.mk (Kd.R_below (by (with_reducible repeat (first | apply Kd.R_alloc | apply Kd.R_drewN | apply Kd.R_drew)); exact HO_9.out) hb); have n2_ := Aside0.mk (below_step (by repeat (first | (with_reducible first | exact HB.out | apply below_alloc | apply pw_below_drewN | apply below_drew1) | exact HB.out)) hb); clear HO_8; clear HO_9; clear HB; have HO_8 := n0_; have HO_9 := n1_; have HB := n2_; clear n0_ n1_ n2_; (try clear hb); (try clear hb2); (try clear hk); (try clear hi)) | (go_at_call 14; (with_reducible refine (order_Valid.calls (wrap64 ((wrap64 (1 + (Int.tmod (Go.bits .and .i64 a0 65535) 40))) - 1)) _ _ t527 false _ ?side1 ?side2 A20.out).mono ?_); (case side1 => repeat (first | exact (Kd.R_reads' HO_8.out).2.2 | (with_reducible refine Kd.C_alloc ?_ _) | (with_reducible refine Kd.C_drewN ?_ _) | (with_reducible refine Kd.C_drew ?_))); (case side2 => exact (Kd.R_reads' HO_8.out).2.1); rintro e w41 ⟨rfl, hb⟩; have n0_ := Aside0.mk (Kd.R_below (by (with_reducible repeat (first | apply Kd.R_alloc | apply Kd.R_drewN | apply Kd.R_drew)); exact HO_8.out) hb); have n1_ := Aside0.mk (Kd.R_below (by (with_reducible repeat (first | apply Kd.R_alloc | apply Kd.R_drewN | apply Kd.R_drew)); exact HO_9.out) hb); have n2_ := Aside0.mk (below_step (by repeat (first | (with_reducible first | exact HB.out | apply below_alloc | apply pw_below_drewN | apply below_drew1) | exact HB.out)) hb); clear HO_8; clear HO_9; clear HB; have HO_8 := n0_; have HO_9 := n1_; have HB := n2_; clear n0_ n1_ n2_; (try clear hb); (try clear hb2); (try clear hk); (try clear hi)) | (go_at_call 14; (with_reducible refine (order_Valid.calls (wrap64 ((wrap64 (1 + (Int.tmod (Go.bits .and .i64 a0 65535) 40))) + 1)) _ _ t527 false _ ?side1 ?side2 A27.out).mono ?_); (case side1 => repeat (first | exact (Kd.R_reads' HO_8.out).2.2 | (with_reducible refine Kd.C_alloc ?_ _) | (with_reducible refine Kd.C_drewN ?_ _) | (with_reducible refine Kd.C_drew ?_))); (case side2 => exact (Kd.R_reads' HO_8.out).2.1); rintro e w42 ⟨rfl, hb⟩; have n0_ := Aside0.mk (Kd.R_below (by (with_reducible repeat (first | apply Kd.R_alloc | apply Kd.R_drewN | apply Kd.R_drew)); exact HO_8.out) hb); have n1_ := Aside0.mk (Kd.R_below (by (with_reducible repeat (first | apply Kd.R_alloc | apply Kd.R_drewN | apply Kd.R_drew)); exact HO_9.out) hb); have n2_ := Aside0.mk (below_step (by repeat (first | (with_reducible first | exact HB.out | apply below_alloc | apply pw_below_drewN | apply below_drew1) | exact HB.out)) hb); clear HO_8; clear HO_9; clear HB; have HO_8 := n0_; have HO_9 := n1_; have HB := n2_; clear n0_ n1_ n2_; (try clear hb); (try clear hb2); (try clear hk); (try clear hi); have q43 : (1 : Int) ≤ ((t527.length : Int) : Int) := of_decide_eq_true (by first | (with_reducible assumption) | assumption); obtain ⟨i043, hi043, _, hsz43, _⟩ := info_parts info3; have hroom43 : t527.length ≤ co37 := (Kd.R_reads' HO_8.out).2.1; have hC43 : Kd.C (Kd.int .i64) _ Ao37 t527.length t527 := (Kd.R_reads' HO_8.out).2.2; have hcut43 := cut_from (P := Tryd.prog) 26 3 .i64 Tryd.underlying26 hi043 1 hsz43 Ao37 t527.length co37 1 (by omega) q43; have hr43 := Kd.C_drop (m := (1 : Int).toNat) (c := co37) hC43 (by omega) hroom43; obtain ⟨A43, hA43⟩ : ∃ A1, A1 = (if co37 = (1 : Int).toNat then Ao37 else (Ao37 : Option Addr).map (·.add ((1 : Int).toNat * 1))) := ⟨_, rfl⟩; obtain ⟨c43, hc43⟩ : ∃ c1, c1 = co37 - (1 : Int).toNat := ⟨_, rfl⟩; have hy43 : y538.length = t527.length - (1 : Int).toNat := (by rw [Ny538.out, List.length_drop] <;> omega); rw [show (t527).drop (1 : Int).toNat = y538 from Ny538.out.symm] at hr43; replace hr43 : Kd.C (Kd.int .i64) _ A43 y538.length y538 := (by rw [hA43]; exact hr43); rw [← hy43, ← hA43, ← hc43] at hcut43; have HR541 := Aside0.mk hr43; have HC541 := Aside0.mk (show y538.length ≤ c43 from by rw [hy43, hc43]; exact Nat.sub_le_sub_right hroom43 _); clear hr43 hC43 hroom43 hi043 hsz43 hc43; have KY43 := Aside0.mk hy43; have KA43 := Aside0.mk hA43; clear hy43 hA43; have KL43 := Aside0.mk (show 1 ≤ t527.length from by omega); replace q43 := eq_true q43) | (go_at_call 14; (with_reducible refine (order_Valid.calls (wrap64 (1 + (Int.tmod (Go.bits .and .i64 a0 65535) 40))) _ _ y538 t542 _ ?side1 ?side2 A36.out).mono ?_); (case side1 => repeat (first | exact (by repeat (first | (with_reducible exact HR541.out) | (with_reducible refine Kd.C_alloc ?_ _) | (with_reducible refine Kd.C_drewN ?_ _) | (with_reducible refine Kd.C_drew ?_) | exact HR541.out)) | (with_reducible refine Kd.C_alloc ?_ _) | (with_reducible refine Kd.C_drewN ?_ _) | (with_reducible refine Kd.C_drew ?_))); (case side2 => exact HC541.out); rintro e w44 ⟨rfl, hb⟩; have n0_ := Aside0.mk (Kd.R_below (by (with_reducible repeat (first | apply Kd.R_alloc | apply Kd.R_drewN | apply Kd.R_drew)); exact HO_8.out) hb); have n1_ := Aside0.mk (Kd.R_below (by (with_reducible repeat (first | apply Kd.R_alloc | apply Kd.R_drewN | apply Kd.R_drew)); exact HO_9.out) hb); have n2_ := Aside0.mk (Kd.C_below (by repeat (first | (with_reducible exact HR541.out) | (with_reducible refine Kd.C_alloc ?_ _) | (with_reducible refine Kd.C_drewN ?_ _) | (with_reducible refine Kd.C_drew ?_) | exact HR541.out)) hb); have n3_ := Aside0.mk (below_step (by repeat (first | (with_reducible first | exact HB.out | apply below_alloc | apply pw_below_drewN | apply below_drew1) | exact HB.out)) hb); clear HO_8; clear HO_9; clear HR541; clear HB; have HO_8 := n0_; have HO_9 := n1_; have HR541 := n2_; have HB := n3_; clear n0_ n1_ n2_ n3_; (try clear hb); (try clear hb2); (try clear hk); (try clear hi)))
                    go_meet
                    case rel => exact ⟨_, (t542), (by first | rfl | (simp; done) | (simp [*]; done)), H', ⟨by have := HK1.out; first | omega | exact Nat.le_refl _⟩, ⟨by (with_reducible repeat (first | apply Kd.R_alloc | apply Kd.R_drewN | apply Kd.R_drew)); exact Kd.R_mono HO_8.out (fun _ hk => trivial)⟩, ⟨by repeat (first | (with_reducible first | exact HB.out | apply below_alloc | apply pw_below_drewN | apply below_drew1) | exact HB.out)⟩⟩
                  · rw [if_neg c35] at H
                    exact absurd H (by simp)
            · replace c19 := Bool.eq_false_iff.mpr c19
              subst c19
              have H1 : (arboristlaw09_OrderPermutes.j1 k1 (wrap64 (1 + (Int.tmod (Go.bits .and .i64 a0 65535) 40))) a2 t526 t527 true) = some r := by rw [if_neg (show ¬ (false = true) by decide)] at H; exact H
              clear H
              have H := H1
              clear H1
              have H' := Aside0.mk H
              clear H
              obtain ⟨Ao45, co45, eo45⟩ := Kd.R_slice HO_8.out
              subst eo45
              go_wp2_with (first | ((with_reducible refine gate_callee (f := 14) rfl ?_); refine goesL_ (some 35) rfl rfl Tryd.func14 (by kernel_rfl) rfl #[.int .i64 (wrap64 (1 + (Int.tmod (Go.bits .and .i64 a0 65535) 40))), .slice Ao45 t527.length co45] rfl (by (try simp only [List.map_toArray, List.map_cons, List.map_nil]); first | done | rfl | (simp only [List.length_drop, List.length_take]; rfl)) ?_; (with_reducible refine (order_Valid.calls (wrap64 (1 + (Int.tmod (Go.bits .and .i64 a0 65535) 40))) _ _ t527 true _ ?side1 ?side2 A16.out).mono ?_); (case side1 => repeat (first | exact (Kd.R_reads' HO_8.out).2.2 | (with_reducible refine Kd.C_alloc ?_ _) | (with_reducible refine Kd.C_drewN ?_ _) | (with_reducible refine Kd.C_drew ?_))); (case side2 => exact (Kd.R_reads' HO_8.out).2.1); rintro e w46 ⟨rfl, hb⟩; refine ⟨_, rfl, ?_⟩; have n0_ := Aside0.mk (Kd.R_below (by (with_reducible repeat (first | apply Kd.R_alloc | apply Kd.R_drewN | apply Kd.R_drew)); exact HO_8.out) hb); have n1_ := Aside0.mk (Kd.R_below (by (with_reducible repeat (first | apply Kd.R_alloc | apply Kd.R_drewN | apply Kd.R_drew)); exact HO_9.out) hb); have n2_ := Aside0.mk (below_step (by repeat (first | (with_reducible first | exact HB.out | apply below_alloc | apply pw_below_drewN | apply below_drew1) | exact HB.out)) hb); clear HO_8; clear HO_9; clear HB; have HO_8 := n0_; have HO_9 := n1_; have HB := n2_; clear n0_ n1_ n2_; (try clear hb); (try clear hb2); (try clear hk); (try clear hi); obtain ⟨Ao47, co47, eo47⟩ := Kd.R_slice HO_9.out; subst eo47) | (go_at_call 14; (with_reducible refine (order_Valid.calls (wrap64 (1 + (Int.tmod (Go.bits .and .i64 a0 65535) 40))) _ _ x9_1 false _ ?side1 ?side2 A18.out).mono ?_); (case side1 => repeat (first | exact (Kd.R_reads' HO_9.out).2.2 | (with_reducible refine Kd.C_alloc ?_ _) | (with_reducible refine Kd.C_drewN ?_ _) | (with_reducible refine Kd.C_drew ?_))); (case side2 => exact (Kd.R_reads' HO_9.out).2.1); rintro e w48 ⟨rfl, hb⟩; have n0_ := Aside0.mk (Kd.R_below (by (with_reducible repeat (first | apply Kd.R_alloc | apply Kd.R_drewN | apply Kd.R_drew)); exact HO_8.out) hb); have n1_ := Aside0.mk (Kd.R_below (by (with_reducible repeat (first | apply Kd.R_alloc | apply Kd.R_drewN | apply Kd.R_drew)); exact HO_9.out) hb); have n2_ := Aside0.mk (below_step (by repeat (first | (with_reducible first | exact HB.out | apply below_alloc | apply pw_below_drewN | apply below_drew1) | exact HB.out)) hb); clear HO_8; clear HO_9; clear HB; have HO_8 := n0_; have HO_9 := n1_; have HB := n2_; clear n0_ n1_ n2_; (try clear hb); (try clear hb2); (try clear hk); (try clear hi)))
              go_meet
              case rel => exact ⟨_, (true), (by first | rfl | (simp; done) | (simp [*]; done)), H', ⟨by have := HK1.out; first | omega | exact Nat.le_refl _⟩, ⟨by (with_reducible repeat (first | apply Kd.R_alloc | apply Kd.R_drewN | apply Kd.R_drew)); exact Kd.R_mono HO_8.out (fun _ hk => trivial)⟩, ⟨by repeat (first | (with_reducible first | exact HB.out | apply below_alloc | apply pw_below_drewN | apply below_drew1) | exact HB.out)⟩⟩
          · replace c17 := Bool.eq_false_iff.mpr c17
            subst c17
            have H1 : (arboristlaw09_OrderPermutes.j1 k1 (wrap64 (1 + (Int.tmod (Go.bits .and .i64 a0 65535) 40))) a2 t526 t527 true) = some r := by rw [if_neg (show ¬ (false = true) by decide)] at H; exact H
            clear H
            have H := H1
            clear H1
            have H' := Aside0.mk H
            clear H
            obtain ⟨Ao49, co49, eo49⟩ := Kd.R_slice HO_8.out
            subst eo49
            go_wp2_with (first | ((with_reducible refine gate_callee (f := 14) rfl ?_); refine goesL_ (some 35) rfl rfl Tryd.func14 (by kernel_rfl) rfl #[.int .i64 (wrap64 (1 + (Int.tmod (Go.bits .and .i64 a0 65535) 40))), .slice Ao49 t527.length co49] rfl (by (try simp only [List.map_toArray, List.map_cons, List.map_nil]); first | done | rfl | (simp only [List.length_drop, List.length_take]; rfl)) ?_; (with_reducible refine (order_Valid.calls (wrap64 (1 + (Int.tmod (Go.bits .and .i64 a0 65535) 40))) _ _ t527 false _ ?side1 ?side2 A16.out).mono ?_); (case side1 => repeat (first | exact (Kd.R_reads' HO_8.out).2.2 | (with_reducible refine Kd.C_alloc ?_ _) | (with_reducible refine Kd.C_drewN ?_ _) | (with_reducible refine Kd.C_drew ?_))); (case side2 => exact (Kd.R_reads' HO_8.out).2.1); rintro e w50 ⟨rfl, hb⟩; refine ⟨_, rfl, ?_⟩; have n0_ := Aside0.mk (Kd.R_below (by (with_reducible repeat (first | apply Kd.R_alloc | apply Kd.R_drewN | apply Kd.R_drew)); exact HO_8.out) hb); have n1_ := Aside0.mk (Kd.R_below (by (with_reducible repeat (first | apply Kd.R_alloc | apply Kd.R_drewN | apply Kd.R_drew)); exact HO_9.out) hb); have n2_ := Aside0.mk (below_step (by repeat (first | (with_reducible first | exact HB.out | apply below_alloc | apply pw_below_drewN | apply below_drew1) | exact HB.out)) hb); clear HO_8; clear HO_9; clear HB; have HO_8 := n0_; have HO_9 := n1_; have HB := n2_; clear n0_ n1_ n2_; (try clear hb); (try clear hb2); (try clear hk); (try clear hi)))
            go_meet
            case rel => exact ⟨_, (true), (by first | rfl | (simp; done) | (simp [*]; done)), H', ⟨by have := HK1.out; first | omega | exact Nat.le_refl _⟩, ⟨by (with_reducible repeat (first | apply Kd.R_alloc | apply Kd.R_drewN | apply Kd.R_drew)); exact Kd.R_mono HO_8.out (fun _ hk => trivial)⟩, ⟨by repeat (first | (with_reducible first | exact HB.out | apply below_alloc | apply pw_below_drewN | apply below_drew1) | exact HB.out)⟩⟩
        case rest =>
          clear HC15
          try clear c1
          try clear c2
          try clear p2
          try clear c3
          try clear c4
          try clear q4
          try clear p5
          try clear q5
          try clear hx5
          try clear p6
          try clear c7
          try clear c8
          try clear c8b0
          try clear c10
          try clear c10b0
          try clear c11
          try clear c11b0
          try clear c12
          try clear c14
          try clear c17
          try clear c19
          try clear c20
          try clear c21
          try clear c28
          try clear c35
          try clear c35b0
          try clear c35b1
          try clear c43
          try clear q43
          try clear hx530_0
          try clear p2
          try clear p530
          try clear p6
          try clear q43
          try clear q530
          obtain ⟨kq, x60_14, rfl, HA, HJ14, HO_8, HB⟩ := hcut
          cases kq with
          | zero => exact absurd HA.out (by simp [arboristlaw09_OrderPermutes.j1])
          | succ kj14 =>
            have H := HA.out
            clear HA
            simp only [arboristlaw09_OrderPermutes.j1] at H
            by_cases c51 : x60_14 = true
            · subst c51
              have H1 : (some false) = some r := by rw [if_pos rfl] at H; exact H
              clear H
              have H := H1
              clear H1
              exact absurd ((Option.some.inj H).trans HT_.out) (by decide)
            · replace c51 := Bool.eq_false_iff.mpr c51
              subst c51
              have H1 : (if (wrap64 (1 + (Int.tmod (Go.bits .and .i64 a0 65535) 40))) = 0 then (none) else ((some (([] : List Int) : List Int)).bind fun y543 => (if y543.length + t527.length < 17592186044416 then ((some (y543 ++ t527 : List Int)).bind fun y546 => (if 0 ≤ (Int.tmod (wrap64 ((Int.tmod (Go.bits .and .i64 a2 65535) (wrap64 (1 + (Int.tmod (Go.bits .and .i64 a0 65535) 40)))) + 1)) (wrap64 (1 + (Int.tmod (Go.bits .and .i64 a0 65535) 40)))) then (if (Int.tmod (wrap64 ((Int.tmod (Go.bits .and .i64 a2 65535) (wrap64 (1 + (Int.tmod (Go.bits .and .i64 a0 65535) 40)))) + 1)) (wrap64 (1 + (Int.tmod (Go.bits .and .i64 a0 65535) 40)))) < (t527.length : Int) then (if 0 ≤ (Int.tmod (Go.bits .and .i64 a2 65535) (wrap64 (1 + (Int.tmod (Go.bits .and .i64 a0 65535) 40)))) then (if (Int.tmod (Go.bits .and .i64 a2 65535) (wrap64 (1 + (Int.tmod (Go.bits .and .i64 a0 65535) 40)))) < (y546.length : Int) then (if t526 = true then ((order_Valid.f (wrap64 (1 + (Int.tmod (Go.bits .and .i64 a0 65535) 40))) (y546.set ((Int.tmod (Go.bits .and .i64 a2 65535) (wrap64 (1 + (Int.tmod (Go.bits .and .i64 a0 65535) 40)))) : Int).toNat (rd t527 (Int.tmod (wrap64 ((Int.tmod (Go.bits .and .i64 a2 65535) (wrap64 (1 + (Int.tmod (Go.bits .and .i64 a0 65535) 40)))) + 1)) (wrap64 (1 + (Int.tmod (Go.bits .and .i64 a0 65535) 40))))))).bind fun t551 => (if (t551 == ((wrap64 (1 + (Int.tmod (Go.bits .and .i64 a0 65535) 40))) == 1)) = true then ((order_Valid.f 0 ([] : List Int)).bind fun t552 => (if t552 = true then ((order_Valid.f 1 ([] : List Int)).bind fun t553 => (some (!t553))) else (some false))) else (some false))) else (some false)) else (none)) else (none)) else (none)) else (none))) else (none)))) = some r := by rw [if_neg (show ¬ (false = true) by decide)] at H; exact H
              clear H
              have H := H1
              clear H1
              by_cases c52 : (wrap64 (1 + (Int.tmod (Go.bits .and .i64 a0 65535) 40))) = 0
              · rw [if_pos c52] at H
                exact absurd H (by simp)
              · rw [if_neg c52] at H
                have c52b0 : ((wrap64 (1 + (Int.tmod (Go.bits .and .i64 a0 65535) 40))) == 0) = false := beq_eq_false_iff_ne.mpr c52
                have c52b1 : ((wrap64 (1 + (Int.tmod (Go.bits .and .i64 a0 65535) 40))) != 0) = true := bne_iff_ne.mpr c52
                obtain ⟨y543, hy543⟩ : ∃ y_ : List Int, y_ = (([] : List Int)) := ⟨_, rfl⟩
                replace H : (if y543.length + t527.length < 17592186044416 then ((some (y543 ++ t527 : List Int)).bind fun y546 => (if 0 ≤ (Int.tmod (wrap64 ((Int.tmod (Go.bits .and .i64 a2 65535) (wrap64 (1 + (Int.tmod (Go.bits .and .i64 a0 65535) 40)))) + 1)) (wrap64 (1 + (Int.tmod (Go.bits .and .i64 a0 65535) 40)))) then (if (Int.tmod (wrap64 ((Int.tmod (Go.bits .and .i64 a2 65535) (wrap64 (1 + (Int.tmod (Go.bits .and .i64 a0 65535) 40)))) + 1)) (wrap64 (1 + (Int.tmod (Go.bits .and .i64 a0 65535) 40)))) < (t527.length : Int) then (if 0 ≤ (Int.tmod (Go.bits .and .i64 a2 65535) (wrap64 (1 + (Int.tmod (Go.bits .and .i64 a0 65535) 40)))) then (if (Int.tmod (Go.bits .and .i64 a2 65535) (wrap64 (1 + (Int.tmod (Go.bits .and .i64 a0 65535) 40)))) < (y546.length : Int) then (if t526 = true then ((order_Valid.f (wrap64 (1 + (Int.tmod (Go.bits .and .i64 a0 65535) 40))) (y546.set ((Int.tmod (Go.bits .and .i64 a2 65535) (wrap64 (1 + (Int.tmod (Go.bits .and .i64 a0 65535) 40)))) : Int).toNat (rd t527 (Int.tmod (wrap64 ((Int.tmod (Go.bits .and .i64 a2 65535) (wrap64 (1 + (Int.tmod (Go.bits .and .i64 a0 65535) 40)))) + 1)) (wrap64 (1 + (Int.tmod (Go.bits .and .i64 a0 65535) 40))))))).bind fun t551 => (if (t551 == ((wrap64 (1 + (Int.tmod (Go.bits .and .i64 a0 65535) 40))) == 1)) = true then ((order_Valid.f 0 ([] : List Int)).bind fun t552 => (if t552 = true then ((order_Valid.f 1 ([] : List Int)).bind fun t553 => (some (!t553))) else (some false))) else (some false))) else (some false)) else (none)) else (none)) else (none)) else (none))) else (none)) = some r := by first | (rw [hy543]; with_reducible exact H) | (have H2_ := (Option.bind_some _ _).symm.trans H; rw [hy543]; with_reducible exact H2_) | (have H2_ := (Option.bind_some _ _).symm.trans H; with_reducible exact H2_) | with_reducible exact H | (rw [hy543]; exact H) | exact H
                have Ny543 := Aside0.mk hy543
                clear hy543
                by_cases c53 : y543.length + t527.length < 17592186044416
                · rw [if_pos c53] at H
                  have LMc53 := Aside0.mk c53
                  clear c53
                  obtain ⟨y546, hy546⟩ : ∃ y_ : List Int, y_ = (y543 ++ t527) := ⟨_, rfl⟩
                  replace H : (if 0 ≤ (Int.tmod (wrap64 ((Int.tmod (Go.bits .and .i64 a2 65535) (wrap64 (1 + (Int.tmod (Go.bits .and .i64 a0 65535) 40)))) + 1)) (wrap64 (1 + (Int.tmod (Go.bits .and .i64 a0 65535) 40)))) then (if (Int.tmod (wrap64 ((Int.tmod (Go.bits .and .i64 a2 65535) (wrap64 (1 + (Int.tmod (Go.bits .and .i64 a0 65535) 40)))) + 1)) (wrap64 (1 + (Int.tmod (Go.bits .and .i64 a0 65535) 40)))) < (t527.length : Int) then (if 0 ≤ (Int.tmod (Go.bits .and .i64 a2 65535) (wrap64 (1 + (Int.tmod (Go.bits .and .i64 a0 65535) 40)))) then (if (Int.tmod (Go.bits .and .i64 a2 65535) (wrap64 (1 + (Int.tmod (Go.bits .and .i64 a0 65535) 40)))) < (y546.length : Int) then (if t526 = true then ((order_Valid.f (wrap64 (1 + (Int.tmod (Go.bits .and .i64 a0 65535) 40))) (y546.set ((Int.tmod (Go.bits .and .i64 a2 65535) (wrap64 (1 + (Int.tmod (Go.bits .and .i64 a0 65535) 40)))) : Int).toNat (rd t527 (Int.tmod (wrap64 ((Int.tmod (Go.bits .and .i64 a2 65535) (wrap64 (1 + (Int.tmod (Go.bits .and .i64 a0 65535) 40)))) + 1)) (wrap64 (1 + (Int.tmod (Go.bits .and .i64 a0 65535) 40))))))).bind fun t551 => (if (t551 == ((wrap64 (1 + (Int.tmod (Go.bits .and .i64 a0 65535) 40))) == 1)) = true then ((order_Valid.f 0 ([] : List Int)).bind fun t552 => (if t552 = true then ((order_Valid.f 1 ([] : List Int)).bind fun t553 => (some (!t553))) else (some false))) else (some false))) else (some false)) else (none)) else (none)) else (none)) else (none)) = some r := by first | (rw [hy546]; with_reducible exact H) | (have H2_ := (Option.bind_some _ _).symm.trans H; rw [hy546]; with_reducible exact H2_) | (have H2_ := (Option.bind_some _ _).symm.trans H; with_reducible exact H2_) | with_reducible exact H | (rw [hy546]; exact H) | exact H
                  have Ny546 := Aside0.mk hy546
                  clear hy546
                  obtain ⟨ji54, hji54⟩ : ∃ j_ : Int, (Int.tmod (wrap64 ((Int.tmod (Go.bits .and .i64 a2 65535) (wrap64 (1 + (Int.tmod (Go.bits .and .i64 a0 65535) 40)))) + 1)) (wrap64 (1 + (Int.tmod (Go.bits .and .i64 a0 65535) 40)))) = j_ := ⟨_, rfl⟩
                  replace H : (if 0 ≤ (ji54) then (if (ji54) < (t527.length : Int) then (if 0 ≤ (Int.tmod (Go.bits .and .i64 a2 65535) (wrap64 (1 + (Int.tmod (Go.bits .and .i64 a0 65535) 40)))) then (if (Int.tmod (Go.bits .and .i64 a2 65535) (wrap64 (1 + (Int.tmod (Go.bits .and .i64 a0 65535) 40)))) < (y546.length : Int) then (if t526 = true then ((order_Valid.f (wrap64 (1 + (Int.tmod (Go.bits .and .i64 a0 65535) 40))) (y546.set ((Int.tmod (Go.bits .and .i64 a2 65535) (wrap64 (1 + (Int.tmod (Go.bits .and .i64 a0 65535) 40)))) : Int).toNat (rd t527 (ji54)))).bind fun t551 => (if (t551 == ((wrap64 (1 + (Int.tmod (Go.bits .and .i64 a0 65535) 40))) == 1)) = true then ((order_Valid.f 0 ([] : List Int)).bind fun t552 => (if t552 = true then ((order_Valid.f 1 ([] : List Int)).bind fun t553 => (some (!t553))) else (some false))) else (some false))) else (some false)) else (none)) else (none)) else (none)) else (none)) = some r := by first | (rw [hji54] at H; exact H) | (simp only [hji54] at H ⊢; exact H)
                  by_cases c55 : 0 ≤ (ji54)
                  · rw [if_pos c55] at H
                    have c55b0 : decide (0 ≤ (ji54)) = true := decide_eq_true c55
                    clear c55
                    by_cases c56 : (ji54) < (t527.length : Int)
                    · rw [if_pos c56] at H
                      have c56b0 : decide ((ji54) < (t527.length : Int)) = true := decide_eq_true c56
                      clear c56
                      obtain ⟨ji57, hji57⟩ : ∃ j_ : Int, (Int.tmod (Go.bits .and .i64 a2 65535) (wrap64 (1 + (Int.tmod (Go.bits .and .i64 a0 65535) 40)))) = j_ := ⟨_, rfl⟩
                      (try rw [hji57] at hji54)
                      replace H : (if 0 ≤ (ji57) then (if (ji57) < (y546.length : Int) then (if t526 = true then ((order_Valid.f (wrap64 (1 + (Int.tmod (Go.bits .and .i64 a0 65535) 40))) (y546.set ((ji57) : Int).toNat (rd t527 (ji54)))).bind fun t551 => (if (t551 == ((wrap64 (1 + (Int.tmod (Go.bits .and .i64 a0 65535) 40))) == 1)) = true then ((order_Valid.f 0 ([] : List Int)).bind fun t552 => (if t552 = true then ((order_Valid.f 1 ([] : List Int)).bind fun t553 => (some (!t553))) else (some false))) else (some false))) else (some false)) else (none)) else (none)) = some r := by first | (rw [hji57] at H; exact H) | (simp only [hji57] at H ⊢; exact H)
                      by_cases c58 : 0 ≤ (ji57)
                      · rw [if_pos c58] at H
                        have c58b0 : decide (0 ≤ (ji57)) = true := decide_eq_true c58
                        clear c58
                        by_cases c59 : (ji57) < (y546.length : Int)
                        · rw [if_pos c59] at H
                          have c59b0 : decide ((ji57) < (y546.length : Int)) = true := decide_eq_true c59
                          clear c59
                          obtain ⟨y550, hy550⟩ : ∃ y_ : List Int, y_ = (y546.set ((ji57) : Int).toNat (rd t527 (ji54))) := ⟨_, rfl⟩
                          replace H : (if t526 = true then ((order_Valid.f (wrap64 (1 + (Int.tmod (Go.bits .and .i64 a0 65535) 40))) y550).bind fun t551 => (if (t551 == ((wrap64 (1 + (Int.tmod (Go.bits .and .i64 a0 65535) 40))) == 1)) = true then ((order_Valid.f 0 ([] : List Int)).bind fun t552 => (if t552 = true then ((order_Valid.f 1 ([] : List Int)).bind fun t553 => (some (!t553))) else (some false))) else (some false))) else (some false)) = some r := by first | (rw [hy550]; with_reducible exact H) | (have H2_ := (Option.bind_some _ _).symm.trans H; rw [hy550]; with_reducible exact H2_) | (have H2_ := (Option.bind_some _ _).symm.trans H; with_reducible exact H2_) | with_reducible exact H | (rw [hy550]; exact H) | exact H
                          have Ny550 := Aside0.mk hy550
                          clear hy550
                          by_cases c61 : t526 = true
                          · subst c61
                            have H1 : ((order_Valid.f (wrap64 (1 + (Int.tmod (Go.bits .and .i64 a0 65535) 40))) y550).bind fun t551 => (if (t551 == ((wrap64 (1 + (Int.tmod (Go.bits .and .i64 a0 65535) 40))) == 1)) = true then ((order_Valid.f 0 ([] : List Int)).bind fun t552 => (if t552 = true then ((order_Valid.f 1 ([] : List Int)).bind fun t553 => (some (!t553))) else (some false))) else (some false))) = some r := by rw [if_pos rfl] at H; exact H
                            clear H
                            have H := H1
                            clear H1
                            replace H := Option.bind_eq_some_iff.mp H
                            obtain ⟨t551, A620, H⟩ := H
                            replace H : (if (t551 == ((wrap64 (1 + (Int.tmod (Go.bits .and .i64 a0 65535) 40))) == 1)) = true then ((order_Valid.f 0 ([] : List Int)).bind fun t552 => (if t552 = true then ((order_Valid.f 1 ([] : List Int)).bind fun t553 => (some (!t553))) else (some false))) else (some false)) = some r := H
                            have A62 := Aside0.mk A620
                            clear A620
                            by_cases c63 : (t551 == ((wrap64 (1 + (Int.tmod (Go.bits .and .i64 a0 65535) 40))) == 1)) = true
                            · rw [if_pos c63] at H
                              have c63b0 : (t551 == ((wrap64 (1 + (Int.tmod (Go.bits .and .i64 a0 65535) 40))) == 1)) = true := c63
                              (try (have c63b1 : decide (t551 = ((wrap64 (1 + (Int.tmod (Go.bits .and .i64 a0 65535) 40))) == 1)) = true := by simpa using c63))
                              (try (have c63b2 : (t551 == ((wrap64 (1 + (Int.tmod (Go.bits .and .i64 a0 65535) 40))) == 1)) = true := by simpa using c63))
                              clear c63
                              replace H := Option.bind_eq_some_iff.mp H
                              obtain ⟨t552, A640, H⟩ := H
                              replace H : (if t552 = true then ((order_Valid.f 1 ([] : List Int)).bind fun t553 => (some (!t553))) else (some false)) = some r := H
                              have A64 := Aside0.mk A640
                              clear A640
                              by_cases c65 : t552 = true
                              · subst c65
                                have H1 : ((order_Valid.f 1 ([] : List Int)).bind fun t553 => (some (!t553))) = some r := by rw [if_pos rfl] at H; exact H
                                clear H
                                have H := H1
                                clear H1
                                replace H := Option.bind_eq_some_iff.mp H
                                obtain ⟨t553, A660, H⟩ := H
                                replace H : (some (!t553)) = some r := H
                                have A66 := Aside0.mk A660
                                clear A660
                                obtain rfl := Option.some.inj H
                                go_wp2_with (first | ((with_reducible refine gate_dst (N := 65) rfl ?_); refine Kd.R_lit (Kd.int .i64) _ 3 ?hg (N := 65) ?hd (xs := ([] : List Int)) (inner := []) (ok := fun _ => True) (okp := fun _ => True) ?hr ?hp (fun _ hk => hk) trivial (Below.refl _ _) (Nat.le_refl _) (by simp) ?_; (case hd => rfl); (case hg => rfl); (case hr => first | (go_simp; done) | (go_simp; rfl)); (case hp => exact (Reps.none _ _)); intro v544 w67 ho68 hb hg_ hnew_; clear hg_ hnew_; (first | rw [← Ny543.out] at ho68 | (simp only [Int.reduceToNat] at ho68; rw [← Ny543.out] at ho68)); have n0_ := Aside0.mk (Kd.R_elder' (by (with_reducible repeat (first | apply Kd.R_alloc | apply Kd.R_drewN | apply Kd.R_drew)); exact HO_8.out) (Kd.R_base ho68) hb); have n1_ := Aside0.mk (Kd.R_lower (Kd.R_new' ho68 (Kd.R_lt (by (with_reducible repeat (first | apply Kd.R_alloc | apply Kd.R_drewN | apply Kd.R_drew)); exact HO_8.out))) (below_size (by repeat (first | (with_reducible first | exact HB.out | apply below_alloc | apply pw_below_drewN | apply below_drew1) | exact HB.out)))); have n2_ := Aside0.mk (below_step (by repeat (first | (with_reducible first | exact HB.out | apply below_alloc | apply pw_below_drewN | apply below_drew1) | exact HB.out)) hb); clear HO_8; clear HB; have HO_8 := n0_; have HO545 := n1_; have HB := n2_; clear n0_ n1_ n2_; clear hb ho68; obtain ⟨Ao70, co70, eo70⟩ := Kd.R_slice HO_8.out; subst eo70) | ((with_reducible refine gate_builtin (b := .append) (xs := #[.tmp 65, .tmp 66]) rfl ?_); at_builtin; refine Kd.R_append_rows (Kd.int .i64) (w0 := w) w.heap.size rfl (.tmp 65) (.tmp 66) 26 3 (.int .i64 0) 8 rfl Tryd.underlying26 info3 rfl (by decide) (by omega) v544 y543 t527 _ _ _ (fun k_ => some k_ ≠ (.slice Ao70 t527.length co70 : Value).ownBlock) (fun _ => False) rfl rfl ?aO ?aR (fun _ _ h => h) (fun _ h => h.elim) ?aF ?aB ?aS ?aL ?_; (case aR => repeat (first | exact (Kd.R_reads' HO_8.out).2.2 | (with_reducible refine Kd.C_alloc ?_ _) | (with_reducible refine Kd.C_drewN ?_ _) | (with_reducible refine Kd.C_drew ?_))); (case aB => exact (by repeat (first | (with_reducible first | exact HB.out | apply below_alloc | apply pw_below_drewN | apply below_drew1) | exact HB.out))); (case aF => exact (fun k_ hk => Kd.fresh' (Kd.R_lt (by (with_reducible repeat (first | apply Kd.R_alloc | apply Kd.R_drewN | apply Kd.R_drew)); exact HO_8.out)) k_ hk)); (case aO => exact (by (with_reducible repeat (first | apply Kd.R_alloc | apply Kd.R_drewN | apply Kd.R_drew)); exact Kd.R_mono HO545.out (fun _ hk => hk.2))); (case aS => exact (below_size (by repeat (first | (with_reducible first | exact HB.out | apply below_alloc | apply pw_below_drewN | apply below_drew1) | exact HB.out)))); (case aL => have := LMc53.out; omega); intro v547 w69 ho hb hg hat; rw [← Ny546.out] at ho; have n0_ := Aside0.mk (Kd.R_after (ok := (fun _ => True)) (by (with_reducible repeat (first | apply Kd.R_alloc | apply Kd.R_drewN | apply Kd.R_drew)); exact HO_8.out) hg hat); have n1_ := Aside0.mk (hb); have n2_ := Aside0.mk (ho); clear HO_8; clear HB; clear HO545; have HO_8 := n0_; have HB := n1_; have HO548 := n2_; clear n0_ n1_ n2_; clear ho hb hg hat; have p549 : 0 ≤ ((ji54) : Int) := of_decide_eq_true (by first | (with_reducible assumption) | assumption); have q549 : (ji54) < (t527.length : Int) := of_decide_eq_true (by first | (with_reducible assumption) | assumption); obtain ⟨ad549, e549, hx549_0⟩ := Kd.at_int (Kd.R_reads' HO_8.out).2.2 (ji54) p549 q549; cases e549; replace p549 := eq_true p549; replace q549 := eq_true q549; have p60 : 0 ≤ ((ji57) : Int) := of_decide_eq_true (by first | (with_reducible assumption) | assumption); have q60 : ((ji57) : Int) < ((y546.length : Int) : Int) := of_decide_eq_true (by first | (with_reducible assumption) | assumption); obtain ⟨go60, co60, eo60, gb60, gl60, cl60, HG60⟩ := Kd.R_form HO548.out (by omega); (first | cases eo60 | (injection eo60 with ea_ en_ ec_; (first | subst ea_ | (injection ea_ with ea_; subst ea_)); subst ec_; clear en_)); have GB60 := Aside0.mk gb60; have GG60 := Aside0.mk HG60; clear gb60 gl60 HG60; obtain ⟨hx60_0, hf60_0⟩ := Kd.R_celln 0 HO548.out ((ji57) : Int) p60 q60; replace p60 := eq_true p60; replace q60 := eq_true q60; obtain ⟨hy71_, hz71_⟩ := Kd.R_celln 0 HO548.out ((ji57) : Int) (of_decide_eq_true (by first | (with_reducible assumption) | assumption)) (of_decide_eq_true (by first | (with_reducible assumption) | assumption)); have HP71 := Kd.R_putg HO548.out ((ji57) : Int) (rd t527 (ji54))) | ((with_reducible refine gate_store (t := 3) (p := 77) rfl ?_); refine store_event (t := 3) (p := 77) (v := ?vo_w72) (w1 := (w69.setCell ⟨go60, ((ji57) : Int).toNat, none⟩ (.int .i64 (rd t527 (ji54))))) ?hg ?ho ?hn ?hr ?_; (case ho => rfl); (case hg => rfl); (case hn => rfl); (case hr => first | (go_simp; done) | (go_simp; rfl)); intro w72 hw; have hg : w69.grownBy w72 (some go60) := (by rw [hw]; exact HP71.2); have hp_ : Kd.R (Kd.int .i64) 3 w72 w.heap.size (fun k_ => some k_ ≠ (.slice (some ad549) t527.length co70 : Value).ownBlock) (.slice (some ⟨go60, 0, none⟩) y546.length co60) y550 := (by rw [hw, Ny550.out]; exact HP71.1); clear HP71; have n0_ := Aside0.mk (Kd.R_after (v := (.slice (some ⟨go60, 0, none⟩) y546.length co60)) (v1 := (.slice (some ⟨go60, 0, none⟩) y546.length co60)) (ok := (fun _ => True)) (by (with_reducible repeat (first | apply Kd.R_alloc | apply Kd.R_drewN | apply Kd.R_drew)); exact HO_8.out) hg (.inl rfl)); have n1_ := Aside0.mk (hp_); have n2_ := Aside0.mk ((by rw [hw]; exact below_set (HB.out) GB60.out : Below w.heap.size w w72)); clear HO_8; clear HO548; clear HB; have HO_8 := n0_; have HO548 := n1_; have HB := n2_; clear n0_ n1_ n2_; clear hg hw hp_) | (go_at_call 14; refine calls_of_args (args' := #[.int .i64 (wrap64 (1 + (Int.tmod (Go.bits .and .i64 a0 65535) 40))), .slice (some ⟨go60, 0, none⟩) y550.length co60]) (by first | (rw [show y550.length = y546.length from (Kd.R_reads' HO548.out).1.symm] <;> rfl) | rfl) ?_; (with_reducible refine (order_Valid.calls (wrap64 (1 + (Int.tmod (Go.bits .and .i64 a0 65535) 40))) _ _ y550 t551 _ ?side1 ?side2 A62.out).mono ?_); (case side1 => repeat (first | exact (Kd.R_reads' HO548.out).2.2 | (with_reducible refine Kd.C_alloc ?_ _) | (with_reducible refine Kd.C_drewN ?_ _) | (with_reducible refine Kd.C_drew ?_))); (case side2 => rw [show y550.length = y546.length from (Kd.R_reads' HO548.out).1.symm]; exact (Kd.R_reads' HO548.out).2.1); rintro e w73 ⟨rfl, hb⟩; have n0_ := Aside0.mk (Kd.R_below (by (with_reducible repeat (first | apply Kd.R_alloc | apply Kd.R_drewN | apply Kd.R_drew)); exact HO_8.out) hb); have n1_ := Aside0.mk (Kd.R_below (by (with_reducible repeat (first | apply Kd.R_alloc | apply Kd.R_drewN | apply Kd.R_drew)); exact HO548.out) hb); have n2_ := Aside0.mk (below_step (by repeat (first | (with_reducible first | exact HB.out | apply below_alloc | apply pw_below_drewN | apply below_drew1) | exact HB.out)) hb); clear HO_8; clear HO548; clear HB; have HO_8 := n0_; have HO548 := n1_; have HB := n2_; clear n0_ n1_ n2_; (try clear hb); (try clear hb2); (try clear hk); (try clear hi)) | (go_at_call 14; (with_reducible show Calls _ _ #[.int .i64 0, .slice none 0 0] _ _); (refine (order_Valid.calls 0 _ _ ([] : List Int) true _ ?side1 ?side2 A64.out).mono ?_); (case side1 => exact Kd.C_nil _ _); (case side2 => exact Nat.le_refl _); rintro e w74 ⟨rfl, hb⟩; have n0_ := Aside0.mk (Kd.R_below (by (with_reducible repeat (first | apply Kd.R_alloc | apply Kd.R_drewN | apply Kd.R_drew)); exact HO_8.out) hb); have n1_ := Aside0.mk (Kd.R_below (by (with_reducible repeat (first | apply Kd.R_alloc | apply Kd.R_drewN | apply Kd.R_drew)); exact HO548.out) hb); have n2_ := Aside0.mk (below_step (by repeat (first | (with_reducible first | exact HB.out | apply below_alloc | apply pw_below_drewN | apply below_drew1) | exact HB.out)) hb); clear HO_8; clear HO548; clear HB; have HO_8 := n0_; have HO548 := n1_; have HB := n2_; clear n0_ n1_ n2_; (try clear hb); (try clear hb2); (try clear hk); (try clear hi)) | (go_at_call 14; (with_reducible show Calls _ _ #[.int .i64 1, .slice none 0 0] _ _); (refine (order_Valid.calls 1 _ _ ([] : List Int) t553 _ ?side1 ?side2 A66.out).mono ?_); (case side1 => exact Kd.C_nil _ _); (case side2 => exact Nat.le_refl _); rintro e w75 ⟨rfl, hb⟩; have n0_ := Aside0.mk (Kd.R_below (by (with_reducible repeat (first | apply Kd.R_alloc | apply Kd.R_drewN | apply Kd.R_drew)); exact HO_8.out) hb); have n1_ := Aside0.mk (Kd.R_below (by (with_reducible repeat (first | apply Kd.R_alloc | apply Kd.R_drewN | apply Kd.R_drew)); exact HO548.out) hb); have n2_ := Aside0.mk (below_step (by repeat (first | (with_reducible first | exact HB.out | apply below_alloc | apply pw_below_drewN | apply below_drew1) | exact HB.out)) hb); clear HO_8; clear HO548; clear HB; have HO_8 := n0_; have HO548 := n1_; have HB := n2_; clear n0_ n1_ n2_; (try clear hb); (try clear hb2); (try clear hk); (try clear hi)))
                                go_ret
                                exact ⟨by first | rfl | (simp [errW_none, errW_some] <;> rfl) | (simp only [← hji54, ← hji57]; first | rfl | (simp [errW_none, errW_some] <;> rfl)) | (simp [*, errW_none, errW_some] <;> rfl), by repeat (first | (with_reducible first | exact HB.out | apply below_alloc | apply pw_below_drewN | apply below_drew1) | exact HB.out)⟩
                              · replace c65 := Bool.eq_false_iff.mpr c65
                                subst c65
                                have H1 : (some false) = some r := by rw [if_neg (show ¬ (false = true) by decide)] at H; exact H
                                clear H
                                have H := H1
                                clear H1
                                exact absurd ((Option.some.inj H).trans HT_.out) (by decide)
                            · rw [if_neg c63] at H
                              have c63b0 : (t551 == ((wrap64 (1 + (Int.tmod (Go.bits .and .i64 a0 65535) 40))) == 1)) = false := by simpa using c63
                              (try (have c63b1 : decide (t551 = ((wrap64 (1 + (Int.tmod (Go.bits .and .i64 a0 65535) 40))) == 1)) = false := by simpa using c63))
                              (try (have c63b2 : (t551 == ((wrap64 (1 + (Int.tmod (Go.bits .and .i64 a0 65535) 40))) == 1)) = false := by simpa using c63))
                              (try (have c63b3 : ¬ (t551 = ((wrap64 (1 + (Int.tmod (Go.bits .and .i64 a0 65535) 40))) == 1)) := by simpa using c63))
                              clear c63
                              exact absurd ((Option.some.inj H).trans HT_.out) (by decide)
                          · replace c61 := Bool.eq_false_iff.mpr c61
                            subst c61
                            have H1 : (some false) = some r := by rw [if_neg (show ¬ (false = true) by decide)] at H; exact H
                            clear H
                            have H := H1
                            clear H1
                            exact absurd ((Option.some.inj H).trans HT_.out) (by decide)
                        · rw [if_neg c59] at H
                          exact absurd H (by simp)
                      · rw [if_neg c58] at H
                        exact absurd H (by simp)
                    · rw [if_neg c56] at H
                      exact absurd H (by simp)
                  · rw [if_neg c55] at H
                    exact absurd H (by simp)
                · rw [if_neg c53] at H
                  exact absurd H (by simp)

/-- THE ONE PURE STATEMENT of arboristlaw09_OrderPermutes. -/
def arboristlaw09_OrderPermutes.Pure : Prop := ∀ (a0 : Int) (l1 : List Int) (a2 : Int), (Lit.int .i64 a0).wf = true → (l1.length ≤ maxLen ∧ ∀ z0 ∈ l1, (Lit.int .i64 z0).wf = true) → (Lit.int .i64 a2).wf = true → ∃ k, arboristlaw09_OrderPermutes.f k a0 l1 a2 = some true

end Go.Proofs.YtefmpehjahfnpaaDoor.Pr
