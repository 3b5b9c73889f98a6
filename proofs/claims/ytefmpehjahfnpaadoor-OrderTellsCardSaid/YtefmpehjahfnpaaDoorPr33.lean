-- Printed by a program of this session's own (wip/tools/pp.py) over the kit's print.py; Lean checks it.
import Derived.Test.YtefmpehjahfnpaaDoorPr0
import Derived.Test.YtefmpehjahfnpaaDoorPr9
import Derived.Test.YtefmpehjahfnpaaDoorPr21
import Derived.Test.YtefmpehjahfnpaaDoorPr22
import Derived.Test.YtefmpehjahfnpaaDoorPr23
import Derived.Test.YtefmpehjahfnpaaDoorPr24
import Derived.Test.YtefmpehjahfnpaaDoorPr25
import Derived.Test.YtefmpehjahfnpaaDoorPr32
namespace Go.Proofs.YtefmpehjahfnpaaDoor.Pr
open Go.RowKit Go.Proofs.YtefmpehjahfnpaaDoorW.PrintWords Go.Proofs.YtefmpehjahfnpaaDoorW.PrintLast Go.Proofs.YtefmpehjahfnpaaDoorW.PrintMore
attribute [local go_sem] max2_int min2_int max_two min_two max_three min_three max_four min_four   -- for this text's walks alone
set_option linter.unusedVariables false
set_option linter.unusedSimpArgs false

/-! ### arboristlaw09_OrderTells: function 3 -/
def arboristlaw09_OrderTells.j0 : Nat → Int → Bool → List (List Bool) → List Int → Int → Bool → Option (Bool)
  | 0, _, _, _, _, _, _ => none
  | k + 1, x2, x7, x8, x9, x10, x27 => if x27 = true then (if x7 = true then (if x10 = 1 then (some ((x9.length : Int) == 0)) else (some false)) else (some false)) else (if x7 = true then (if x10 = 0 then ((arboristref09_Of.f k x8 x2).bind fun t400 => ((arboristref01_Compare.f k x9 t400).bind fun t403 => (if t403 = 0 then ((order_Valid.f (x8.length : Int) x9).bind fun t404 => (some t404)) else (some false)))) else (some false)) else (some false))
def arboristlaw09_OrderTells.f (k : Nat) (a0 : Int) (l1 : List (List Int)) (a2 : Int) : Option (Bool) := (arboristlaw09_shown.f k).bind fun t389 => ((arboristlaw09_made.f k a0 l1).bind fun t390 => ((arboristref08_Graph.f k t390).bind fun t393 => ((order_Of.f k t393 a2).bind fun bt396 => (if a2 < 1 then (arboristlaw09_OrderTells.j0 k a2 t389 t390 bt396.1 bt396.2 true) else (arboristlaw09_OrderTells.j0 k a2 t389 t390 bt396.1 bt396.2 (decide (a2 > 3)))))))
theorem arboristlaw09_OrderTells.mono_l : ∀ k, (∀ y0 y1 y2 y3 y4 y5, LeO (arboristlaw09_OrderTells.j0 k y0 y1 y2 y3 y4 y5) (arboristlaw09_OrderTells.j0 (k + 1) y0 y1 y2 y3 y4 y5))
  | 0 => fun _ _ _ _ _ _ r h => by simp [arboristlaw09_OrderTells.j0] at h
  | k + 1 => by
    have ih0 := arboristlaw09_OrderTells.mono_l k
    all_goals intros
    all_goals (first | unfold arboristlaw09_OrderTells.j0)
    all_goals repeat' first
    | (with_reducible exact ih0 _ _ _ _ _ _)
    | (with_reducible exact arboristlaw09_made.mono _ _ _)
    | (with_reducible exact arboristlaw09_shown.mono _)
    | (with_reducible exact arboristref01_Compare.mono _ _ _)
    | (with_reducible exact arboristref08_Graph.mono _ _)
    | (with_reducible exact arboristref09_Of.mono _ _ _)
    | (with_reducible exact order_Of.mono _ _ _)
    | (with_reducible exact LeO.refl _)
    | (with_reducible exact LeO.none _)
    | (with_reducible refine LeO.ite ?_ ?_)
    | (with_reducible refine LeO.bind ?_ (fun _ => ?_))
    | exact ih0 _ _ _ _ _ _
    | exact arboristlaw09_made.mono _ _ _
    | exact arboristlaw09_shown.mono _
    | exact arboristref01_Compare.mono _ _ _
    | exact arboristref08_Graph.mono _ _
    | exact arboristref09_Of.mono _ _ _
    | exact order_Of.mono _ _ _
    | exact LeO.none _
    | refine LeO.ite ?_ ?_
    | refine LeO.bind ?_ (fun _ => ?_)
theorem arboristlaw09_OrderTells.mono : ∀ a0 a1 a2 k, LeO (arboristlaw09_OrderTells.f k a0 a1 a2) (arboristlaw09_OrderTells.f (k + 1) a0 a1 a2) := by
  intro a0 a1 a2 k
  have ih0 := arboristlaw09_OrderTells.mono_l k
  unfold arboristlaw09_OrderTells.f
  repeat' first
      | (with_reducible exact ih0 _ _ _ _ _ _)
      | (with_reducible exact arboristlaw09_made.mono _ _ _)
      | (with_reducible exact arboristlaw09_shown.mono _)
      | (with_reducible exact arboristref01_Compare.mono _ _ _)
      | (with_reducible exact arboristref08_Graph.mono _ _)
      | (with_reducible exact arboristref09_Of.mono _ _ _)
      | (with_reducible exact order_Of.mono _ _ _)
      | (with_reducible exact LeO.refl _)
      | (with_reducible exact LeO.none _)
      | (with_reducible refine LeO.ite ?_ ?_)
      | (with_reducible refine LeO.bind ?_ (fun _ => ?_))
      | exact ih0 _ _ _ _ _ _
      | exact arboristlaw09_made.mono _ _ _
      | exact arboristlaw09_shown.mono _
      | exact arboristref01_Compare.mono _ _ _
      | exact arboristref08_Graph.mono _ _
      | exact arboristref09_Of.mono _ _ _
      | exact order_Of.mono _ _ _
      | exact LeO.none _
      | refine LeO.ite ?_ ?_
      | refine LeO.bind ?_ (fun _ => ?_)
set_option maxHeartbeats 8000000 in
set_option maxRecDepth 100000 in
theorem arboristlaw09_OrderTells.calls (k : Nat) (a0 : Int) (A1 : Option Addr) (c1 : Nat) (l1 : List (List Int)) (a2 : Int) (r : Bool) (w : World) (hTb : Tab64 w) (hr1 : Kd.C (Kd.slice 3 (Kd.int .i64)) w A1 l1.length l1) (hc1 : l1.length ≤ c1) (hT : r = true) (h : arboristlaw09_OrderTells.f k a0 l1 a2 = some r) :
    Calls Tryd.prog 3 #[.int .i64 a0, .slice A1 l1.length c1, .int .i64 a2] w fun e w' => e = .returned (.bool r) ∧ Below w.heap.size w w' := by
  have HTAB := Aside0.mk hTb
  clear hTb
  have HT_ := Aside0.mk (show r = true from hT)
  clear hT
  have HR1 := Aside0.mk hr1
  have HC1 := Aside0.mk hc1
  clear hr1 hc1
  have HB := Aside0.mk (Below.refl w.heap.size w)
  have H : ((arboristlaw09_shown.f k).bind fun t389 => ((arboristlaw09_made.f k a0 l1).bind fun t390 => ((arboristref08_Graph.f k t390).bind fun t393 => ((order_Of.f k t393 a2).bind fun bt396 => (if a2 < 1 then (arboristlaw09_OrderTells.j0 k a2 t389 t390 bt396.1 bt396.2 true) else (arboristlaw09_OrderTells.j0 k a2 t389 t390 bt396.1 bt396.2 (decide (a2 > 3)))))))) = some r := h
  clear h
  replace H := Option.bind_eq_some_iff.mp H
  obtain ⟨t389, A40, H⟩ := H
  replace H : ((arboristlaw09_made.f k a0 l1).bind fun t390 => ((arboristref08_Graph.f k t390).bind fun t393 => ((order_Of.f k t393 a2).bind fun bt396 => (if a2 < 1 then (arboristlaw09_OrderTells.j0 k a2 t389 t390 bt396.1 bt396.2 true) else (arboristlaw09_OrderTells.j0 k a2 t389 t390 bt396.1 bt396.2 (decide (a2 > 3))))))) = some r := H
  have A4 := Aside0.mk A40
  clear A40
  replace H := Option.bind_eq_some_iff.mp H
  obtain ⟨t390, A50, H⟩ := H
  replace H : ((arboristref08_Graph.f k t390).bind fun t393 => ((order_Of.f k t393 a2).bind fun bt396 => (if a2 < 1 then (arboristlaw09_OrderTells.j0 k a2 t389 t390 bt396.1 bt396.2 true) else (arboristlaw09_OrderTells.j0 k a2 t389 t390 bt396.1 bt396.2 (decide (a2 > 3)))))) = some r := H
  have A5 := Aside0.mk A50
  clear A50
  replace H := Option.bind_eq_some_iff.mp H
  obtain ⟨t393, A60, H⟩ := H
  replace H : ((order_Of.f k t393 a2).bind fun bt396 => (if a2 < 1 then (arboristlaw09_OrderTells.j0 k a2 t389 t390 bt396.1 bt396.2 true) else (arboristlaw09_OrderTells.j0 k a2 t389 t390 bt396.1 bt396.2 (decide (a2 > 3))))) = some r := H
  have A6 := Aside0.mk A60
  clear A60
  replace H := Option.bind_eq_some_iff.mp H
  obtain ⟨⟨t396, t399⟩, A70, H⟩ := H
  replace H : (if a2 < 1 then (arboristlaw09_OrderTells.j0 k a2 t389 t390 t396 t399 true) else (arboristlaw09_OrderTells.j0 k a2 t389 t390 t396 t399 (decide (a2 > 3)))) = some r := H
  have A7 := Aside0.mk A70
  clear A70
  have HC8 := Aside0.mk H
  clear H
  go_enter Tryd.func3, Tryd.ntmps3
  go_upto_region 4 with (first | ((with_reducible refine gate_callee (f := 8) rfl ?_); refine goesL_ (some 11) rfl rfl Tryd.func8 (by kernel_rfl) rfl #[] rfl (by (try simp only [List.map_toArray, List.map_cons, List.map_nil]); first | done | rfl | (simp only [List.length_drop, List.length_take]; rfl)) ?_; (with_reducible refine (arboristlaw09_shown.calls (hTb := (by first | exact HTAB.out | exact tab_drewN HTAB.out _ | exact tab_below HTAB.out (by repeat (first | (with_reducible first | exact HB.out | apply below_alloc | apply pw_below_drewN | apply below_drew1) | exact HB.out)))) k  t389 _ A4.out).mono ?_); rintro e w9 ⟨rfl, hb⟩; refine ⟨_, rfl, ?_⟩; have n0_ := Aside0.mk (below_step (by repeat (first | (with_reducible first | exact HB.out | apply below_alloc | apply pw_below_drewN | apply below_drew1) | exact HB.out)) hb); clear HB; have HB := n0_; clear n0_; (try clear hb); (try clear hb2); (try clear hk); (try clear hi)) | ((with_reducible refine gate_callee (f := 9) rfl ?_); refine goesL_ (some 14) rfl rfl Tryd.func9 (by kernel_rfl) rfl #[.int .i64 a0, .slice A1 l1.length c1] rfl (by (try simp only [List.map_toArray, List.map_cons, List.map_nil]); first | done | rfl | (simp only [List.length_drop, List.length_take]; rfl)) ?_; (with_reducible refine (arboristlaw09_made.calls k a0 _ _ l1 t390 _ ?side1 ?side2 A5.out).mono ?_); (case side1 => repeat (first | exact (Kd.C_below HR1.out HB.out) | (with_reducible refine Kd.C_alloc ?_ _) | (with_reducible refine Kd.C_drewN ?_ _) | (with_reducible refine Kd.C_drew ?_))); (case side2 => exact HC1.out); rintro e w10 ⟨v391, rfl, ho0, hb⟩; refine ⟨_, rfl, ?_⟩; have n0_ := Aside0.mk (Kd.S_lower ho0 (below_size (by repeat (first | (with_reducible first | exact HB.out | apply below_alloc | apply pw_below_drewN | apply below_drew1) | exact HB.out)))); have n1_ := Aside0.mk (below_step (by repeat (first | (with_reducible first | exact HB.out | apply below_alloc | apply pw_below_drewN | apply below_drew1) | exact HB.out)) hb); clear HB; have HO392 := n0_; have HB := n1_; clear n0_ n1_; (try clear hb); (try clear hb2); (try clear hk); (try clear hi); (try clear ho0); obtain ⟨Ao11, co11, eo11⟩ := Kd.S_slice HO392.out; subst eo11) | ((with_reducible refine gate_callee (f := 11) rfl ?_); refine goesL_ (some 17) rfl rfl Tryd.func11 (by kernel_rfl) rfl #[.slice Ao11 t390.length co11] rfl (by (try simp only [List.map_toArray, List.map_cons, List.map_nil]); first | done | rfl | (simp only [List.length_drop, List.length_take]; rfl)) ?_; (with_reducible refine (arboristref08_Graph.calls k _ _ t390 t393 _ ?side1 ?side2 A6.out).mono ?_); (case side1 => repeat (first | exact (Kd.S_reads' HO392.out).2.2 | (with_reducible refine Kd.C_alloc ?_ _) | (with_reducible refine Kd.C_drewN ?_ _) | (with_reducible refine Kd.C_drew ?_))); (case side2 => exact (Kd.S_reads' HO392.out).2.1); rintro e w12 ⟨v394, rfl, ho0, hb⟩; refine ⟨_, rfl, ?_⟩; have n0_ := Aside0.mk (Kd.S_below (by (with_reducible repeat (first | apply Kd.S_alloc | apply Kd.S_drewN | apply Kd.S_drew)); exact HO392.out) hb); have n1_ := Aside0.mk (Kd.R_lower ho0 (below_size (by repeat (first | (with_reducible first | exact HB.out | apply below_alloc | apply pw_below_drewN | apply below_drew1) | exact HB.out)))); have n2_ := Aside0.mk (below_step (by repeat (first | (with_reducible first | exact HB.out | apply below_alloc | apply pw_below_drewN | apply below_drew1) | exact HB.out)) hb); clear HO392; clear HB; have HO392 := n0_; have HO395 := n1_; have HB := n2_; clear n0_ n1_ n2_; (try clear hb); (try clear hb2); (try clear hk); (try clear hi); (try clear ho0); obtain ⟨Ao13, co13, eo13⟩ := Kd.R_slice HO395.out; subst eo13) | ((with_reducible refine gate_callee (f := 10) rfl ?_); refine goesL_ (some 19) rfl rfl Tryd.func10 (by kernel_rfl) rfl #[.agg #[.slice Ao13 t393.length co13], .int .i64 a2] rfl (by (try simp only [List.map_toArray, List.map_cons, List.map_nil]); first | done | rfl | (simp only [List.length_drop, List.length_take]; rfl)) ?_; (with_reducible refine (order_Of.calls (hTb := (by first | exact HTAB.out | exact tab_drewN HTAB.out _ | exact tab_below HTAB.out (by repeat (first | (with_reducible first | exact HB.out | apply below_alloc | apply pw_below_drewN | apply below_drew1) | exact HB.out)))) k _ _ t393 a2 t396 t399 _ ?side1 ?side2 A7.out).mono ?_); (case side1 => repeat (first | exact (Kd.R_reads' HO395.out).2.2 | (with_reducible refine Kd.C_alloc ?_ _) | (with_reducible refine Kd.C_drewN ?_ _) | (with_reducible refine Kd.C_drew ?_))); (case side2 => exact (Kd.R_reads' HO395.out).2.1); rintro e w14 ⟨v397, rfl, ho0, hb⟩; refine ⟨_, rfl, ?_⟩; have n0_ := Aside0.mk (Kd.S_below (by (with_reducible repeat (first | apply Kd.S_alloc | apply Kd.S_drewN | apply Kd.S_drew)); exact HO392.out) hb); have n1_ := Aside0.mk (Kd.R_below (by (with_reducible repeat (first | apply Kd.R_alloc | apply Kd.R_drewN | apply Kd.R_drew)); exact HO395.out) hb); have n2_ := Aside0.mk (Kd.R_lower ho0 (below_size (by repeat (first | (with_reducible first | exact HB.out | apply below_alloc | apply pw_below_drewN | apply below_drew1) | exact HB.out)))); have n3_ := Aside0.mk (below_step (by repeat (first | (with_reducible first | exact HB.out | apply below_alloc | apply pw_below_drewN | apply below_drew1) | exact HB.out)) hb); clear HO392; clear HO395; clear HB; have HO392 := n0_; have HO395 := n1_; have HO398 := n2_; have HB := n3_; clear n0_ n1_ n2_ n3_; (try clear hb); (try clear hb2); (try clear hk); (try clear hi); (try clear ho0)))
  (try simp only [Act.put, List.setIfInBounds_toArray, List.set_cons_zero, List.set_cons_succ])
  go_cut [27] (fun v27 wc => ∃ (kq : Nat) (x27_7 : Bool), v27 = .bool x27_7 ∧ Aside0 (arboristlaw09_OrderTells.j0 kq a2 t389 t390 t396 t399 x27_7 = some r) ∧ Aside0 (kq ≤ k) ∧ Aside0 (Kd.S (Kd.slice 4 Kd.bool) 42 wc w.heap.size (fun _ => True) (.slice Ao11 t390.length co11) t390) ∧ Aside0 (Kd.R (Kd.int .i64) 3 wc w.heap.size (fun _ => True) v397 t396) ∧ Aside0 (Below w.heap.size w wc))
  case first =>
    have H := HC8.out
    clear HC8
    by_cases c15 : a2 < 1
    · rw [if_pos c15] at H
      have c15b0 : decide (a2 < 1) = true := decide_eq_true c15
      clear c15
      (first | rw [c15b0] | (simp only [i64_w, i32_w]; rw [c15b0]) | skip)
      have H' := Aside0.mk H
      clear H
      go_wp2
      go_meet
      case rel => exact ⟨_, (true), (by first | rfl | (simp; done) | (simp [*]; done)), H', ⟨by first | omega | exact Nat.le_refl _⟩, ⟨by (with_reducible repeat (first | apply Kd.S_alloc | apply Kd.S_drewN | apply Kd.S_drew)); exact HO392.out⟩, ⟨by (with_reducible repeat (first | apply Kd.R_alloc | apply Kd.R_drewN | apply Kd.R_drew)); exact HO398.out⟩, ⟨by repeat (first | (with_reducible first | exact HB.out | apply below_alloc | apply pw_below_drewN | apply below_drew1) | exact HB.out)⟩⟩
    · rw [if_neg c15] at H
      have c15b0 : decide (a2 < 1) = false := decide_eq_false c15
      clear c15
      (first | rw [c15b0] | (simp only [i64_w, i32_w]; rw [c15b0]) | skip)
      have H' := Aside0.mk H
      clear H
      go_wp2
      go_meet
      case rel => exact ⟨_, (decide (a2 > 3)), (by first | rfl | (simp; done) | (simp [*]; done)), H', ⟨by first | omega | exact Nat.le_refl _⟩, ⟨by (with_reducible repeat (first | apply Kd.S_alloc | apply Kd.S_drewN | apply Kd.S_drew)); exact HO392.out⟩, ⟨by (with_reducible repeat (first | apply Kd.R_alloc | apply Kd.R_drewN | apply Kd.R_drew)); exact HO398.out⟩, ⟨by repeat (first | (with_reducible first | exact HB.out | apply below_alloc | apply pw_below_drewN | apply below_drew1) | exact HB.out)⟩⟩
  case rest =>
    clear HC8
    try clear c1
    try clear p2
    try clear c3
    try clear c8
    try clear c9
    try clear c10
    try clear c11
    try clear c15
    try clear c15b0
    obtain ⟨kq, x27_7, rfl, HA, HJ7, HO_8, HO_9, HB⟩ := hcut
    cases kq with
    | zero => exact absurd HA.out (by simp [arboristlaw09_OrderTells.j0])
    | succ kj7 =>
      have H := HA.out
      clear HA
      simp only [arboristlaw09_OrderTells.j0] at H
      by_cases c16 : x27_7 = true
      · subst c16
        have H1 : (if t389 = true then (if t399 = 1 then (some ((t396.length : Int) == 0)) else (some false)) else (some false)) = some r := by rw [if_pos rfl] at H; exact H
        clear H
        have H := H1
        clear H1
        by_cases c17 : t389 = true
        · subst c17
          have H1 : (if t399 = 1 then (some ((t396.length : Int) == 0)) else (some false)) = some r := by rw [if_pos rfl] at H; exact H
          clear H
          have H := H1
          clear H1
          by_cases c18 : t399 = 1
          · rw [if_pos c18] at H
            have c18b0 : (t399 == 1) = true := beq_iff_eq.mpr c18
            have c18b1 : (t399 != 1) = false := bne_eq_false_iff_eq.mpr c18
            clear c18
            obtain rfl := Option.some.inj H
            obtain ⟨Ao19, co19, eo19⟩ := Kd.R_slice HO_9.out
            subst eo19
            go_wp2
            go_ret
            exact ⟨by first | rfl | (simp [errW_none, errW_some] <;> rfl) | (simp [*, errW_none, errW_some] <;> rfl), by repeat (first | (with_reducible first | exact HB.out | apply below_alloc | apply pw_below_drewN | apply below_drew1) | exact HB.out)⟩
          · rw [if_neg c18] at H
            have c18b0 : (t399 == 1) = false := beq_eq_false_iff_ne.mpr c18
            have c18b1 : (t399 != 1) = true := bne_iff_ne.mpr c18
            exact absurd ((Option.some.inj H).trans HT_.out) (by decide)
        · replace c17 := Bool.eq_false_iff.mpr c17
          subst c17
          have H1 : (some false) = some r := by rw [if_neg (show ¬ (false = true) by decide)] at H; exact H
          clear H
          have H := H1
          clear H1
          exact absurd ((Option.some.inj H).trans HT_.out) (by decide)
      · replace c16 := Bool.eq_false_iff.mpr c16
        subst c16
        have H1 : (if t389 = true then (if t399 = 0 then ((arboristref09_Of.f kj7 t390 a2).bind fun t400 => ((arboristref01_Compare.f kj7 t396 t400).bind fun t403 => (if t403 = 0 then ((order_Valid.f (t390.length : Int) t396).bind fun t404 => (some t404)) else (some false)))) else (some false)) else (some false)) = some r := by rw [if_neg (show ¬ (false = true) by decide)] at H; exact H
        clear H
        have H := H1
        clear H1
        by_cases c20 : t389 = true
        · subst c20
          have H1 : (if t399 = 0 then ((arboristref09_Of.f kj7 t390 a2).bind fun t400 => ((arboristref01_Compare.f kj7 t396 t400).bind fun t403 => (if t403 = 0 then ((order_Valid.f (t390.length : Int) t396).bind fun t404 => (some t404)) else (some false)))) else (some false)) = some r := by rw [if_pos rfl] at H; exact H
          clear H
          have H := H1
          clear H1
          by_cases c21 : t399 = 0
          · rw [if_pos c21] at H
            have c21b0 : (t399 == 0) = true := beq_iff_eq.mpr c21
            have c21b1 : (t399 != 0) = false := bne_eq_false_iff_eq.mpr c21
            clear c21
            replace H := Option.bind_eq_some_iff.mp H
            obtain ⟨t400, A220, H⟩ := H
            replace H : ((arboristref01_Compare.f kj7 t396 t400).bind fun t403 => (if t403 = 0 then ((order_Valid.f (t390.length : Int) t396).bind fun t404 => (some t404)) else (some false))) = some r := H
            have A22 := Aside0.mk A220
            clear A220
            replace H := Option.bind_eq_some_iff.mp H
            obtain ⟨t403, A230, H⟩ := H
            replace H : (if t403 = 0 then ((order_Valid.f (t390.length : Int) t396).bind fun t404 => (some t404)) else (some false)) = some r := H
            have A23 := Aside0.mk A230
            clear A230
            by_cases c24 : t403 = 0
            · rw [if_pos c24] at H
              have c24b0 : (t403 == 0) = true := beq_iff_eq.mpr c24
              have c24b1 : (t403 != 0) = false := bne_eq_false_iff_eq.mpr c24
              clear c24
              replace H := Option.bind_eq_some_iff.mp H
              obtain ⟨t404, A250, H⟩ := H
              replace H : (some t404) = some r := H
              have A25 := Aside0.mk A250
              clear A250
              obtain rfl := Option.some.inj H
              go_wp2_with (first | (go_at_call 13; (with_reducible refine (arboristref09_Of.calls kj7 _ _ t390 a2 t400 _ ?side1 ?side2 A22.out).mono ?_); (case side1 => repeat (first | exact (Kd.S_reads' HO_8.out).2.2 | (with_reducible refine Kd.C_alloc ?_ _) | (with_reducible refine Kd.C_drewN ?_ _) | (with_reducible refine Kd.C_drew ?_))); (case side2 => exact (Kd.S_reads' HO_8.out).2.1); rintro e w26 ⟨v401, rfl, ho0, hb⟩; have n0_ := Aside0.mk (Kd.S_below (by (with_reducible repeat (first | apply Kd.S_alloc | apply Kd.S_drewN | apply Kd.S_drew)); exact HO_8.out) hb); have n1_ := Aside0.mk (Kd.R_elder' (by (with_reducible repeat (first | apply Kd.R_alloc | apply Kd.R_drewN | apply Kd.R_drew)); exact HO_9.out) (Kd.R_base ho0) hb); have n2_ := Aside0.mk (Kd.R_lower (Kd.R_new' ho0 (Kd.R_lt (by (with_reducible repeat (first | apply Kd.R_alloc | apply Kd.R_drewN | apply Kd.R_drew)); exact HO_9.out))) (below_size (by repeat (first | (with_reducible first | exact HB.out | apply below_alloc | apply pw_below_drewN | apply below_drew1) | exact HB.out)))); have n3_ := Aside0.mk (below_step (by repeat (first | (with_reducible first | exact HB.out | apply below_alloc | apply pw_below_drewN | apply below_drew1) | exact HB.out)) hb); clear HO_8; clear HO_9; clear HB; have HO_8 := n0_; have HO_9 := n1_; have HO402 := n2_; have HB := n3_; clear n0_ n1_ n2_ n3_; (try clear hb); (try clear hb2); (try clear hk); (try clear hi); (try clear ho0); obtain ⟨Ao27, co27, eo27⟩ := Kd.R_slice HO_9.out; subst eo27; obtain ⟨Ao28, co28, eo28⟩ := Kd.R_slice HO402.out; subst eo28) | (go_at_call 12; (with_reducible refine (arboristref01_Compare.calls kj7 _ _ t396 _ _ t400 t403 _ ?side1 ?side2 ?side3 ?side4 A23.out).mono ?_); (case side1 => repeat (first | exact (Kd.R_reads' HO_9.out).2.2 | (with_reducible refine Kd.C_alloc ?_ _) | (with_reducible refine Kd.C_drewN ?_ _) | (with_reducible refine Kd.C_drew ?_))); (case side2 => exact (Kd.R_reads' HO_9.out).2.1); (case side3 => repeat (first | exact (Kd.R_reads' HO402.out).2.2 | (with_reducible refine Kd.C_alloc ?_ _) | (with_reducible refine Kd.C_drewN ?_ _) | (with_reducible refine Kd.C_drew ?_))); (case side4 => exact (Kd.R_reads' HO402.out).2.1); rintro e w' ⟨rfl, ⟨nd, rfl⟩⟩) | (go_at_call 14; (with_reducible refine (order_Valid.calls (t390.length : Int) _ _ t396 t404 _ ?side1 ?side2 A25.out).mono ?_); (case side1 => repeat (first | exact (Kd.R_reads' HO_9.out).2.2 | (with_reducible refine Kd.C_alloc ?_ _) | (with_reducible refine Kd.C_drewN ?_ _) | (with_reducible refine Kd.C_drew ?_))); (case side2 => exact (Kd.R_reads' HO_9.out).2.1); rintro e w29 ⟨rfl, hb⟩; have n0_ := Aside0.mk (Kd.S_below (by (with_reducible repeat (first | apply Kd.S_alloc | apply Kd.S_drewN | apply Kd.S_drew)); exact HO_8.out) hb); have n1_ := Aside0.mk (Kd.R_below (by (with_reducible repeat (first | apply Kd.R_alloc | apply Kd.R_drewN | apply Kd.R_drew)); exact HO_9.out) hb); have n2_ := Aside0.mk (Kd.R_below (by (with_reducible repeat (first | apply Kd.R_alloc | apply Kd.R_drewN | apply Kd.R_drew)); exact HO402.out) hb); have n3_ := Aside0.mk (below_step (by repeat (first | (with_reducible first | exact HB.out | apply below_alloc | apply pw_below_drewN | apply below_drew1) | exact HB.out)) hb); clear HO_8; clear HO_9; clear HO402; clear HB; have HO_8 := n0_; have HO_9 := n1_; have HO402 := n2_; have HB := n3_; clear n0_ n1_ n2_ n3_; (try clear hb); (try clear hb2); (try clear hk); (try clear hi)))
              go_ret
              exact ⟨by first | rfl | (simp [errW_none, errW_some] <;> rfl) | (simp [*, errW_none, errW_some] <;> rfl), by repeat (first | (with_reducible first | exact HB.out | apply below_alloc | apply pw_below_drewN | apply below_drew1) | exact HB.out)⟩
            · rw [if_neg c24] at H
              have c24b0 : (t403 == 0) = false := beq_eq_false_iff_ne.mpr c24
              have c24b1 : (t403 != 0) = true := bne_iff_ne.mpr c24
              exact absurd ((Option.some.inj H).trans HT_.out) (by decide)
          · rw [if_neg c21] at H
            have c21b0 : (t399 == 0) = false := beq_eq_false_iff_ne.mpr c21
            have c21b1 : (t399 != 0) = true := bne_iff_ne.mpr c21
            exact absurd ((Option.some.inj H).trans HT_.out) (by decide)
        · replace c20 := Bool.eq_false_iff.mpr c20
          subst c20
          have H1 : (some false) = some r := by rw [if_neg (show ¬ (false = true) by decide)] at H; exact H
          clear H
          have H := H1
          clear H1
          exact absurd ((Option.some.inj H).trans HT_.out) (by decide)

/-- THE ONE PURE STATEMENT of arboristlaw09_OrderTells. -/
def arboristlaw09_OrderTells.Pure : Prop := ∀ (a0 : Int) (l1 : List (List Int)) (a2 : Int), (Lit.int .i64 a0).wf = true → (l1.length ≤ maxLen ∧ ∀ z0 ∈ l1, (z0.length ≤ maxLen ∧ ∀ z1 ∈ z0, (Lit.int .i64 z1).wf = true)) → (Lit.int .i64 a2).wf = true → ∃ k, arboristlaw09_OrderTells.f k a0 l1 a2 = some true

end Go.Proofs.YtefmpehjahfnpaaDoor.Pr
