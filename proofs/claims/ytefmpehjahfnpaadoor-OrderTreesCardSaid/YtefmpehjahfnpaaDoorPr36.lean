-- Printed by a program of this session's own (wip/tools/pp.py) over the kit's print.py; Lean checks it.
import Derived.Test.YtefmpehjahfnpaaDoorPr0
import Derived.Test.YtefmpehjahfnpaaDoorPr1
import Derived.Test.YtefmpehjahfnpaaDoorPr9
import Derived.Test.YtefmpehjahfnpaaDoorPr22
import Derived.Test.YtefmpehjahfnpaaDoorPr24
import Derived.Test.YtefmpehjahfnpaaDoorPr27
import Derived.Test.YtefmpehjahfnpaaDoorPr29
import Derived.Test.YtefmpehjahfnpaaDoorPr34
namespace Go.Proofs.YtefmpehjahfnpaaDoor.Pr
open Go.RowKit Go.Proofs.YtefmpehjahfnpaaDoorW.PrintWords Go.Proofs.YtefmpehjahfnpaaDoorW.PrintLast Go.Proofs.YtefmpehjahfnpaaDoorW.PrintMore
attribute [local go_sem] max2_int min2_int max_two min_two max_three min_three max_four min_four   -- for this text's walks alone
set_option linter.unusedVariables false
set_option linter.unusedSimpArgs false

/-! ### arboristlaw09_OrderTrees: function 5 -/
mutual
def arboristlaw09_OrderTrees.l0 : Nat → List Int → Int → Bool → Int → List (List Bool) → Int → Option (Bool)
  | 0, _, _, _, _, _, _ => none
  | k + 1, x0, x1, x5, x6, x7, x8 => if x8 < x6 then (if 0 ≤ (wrap64 (x8 - 1)) then (if (wrap64 (x8 - 1)) < (x0.length : Int) then (if (wrap64 (x8 + 1)) = 0 then (none) else (if (Int.tmod (Go.bits .and .i64 (rd x0 (wrap64 (x8 - 1))) 65535) (wrap64 (x8 + 1))) < x8 then (if 0 ≤ x8 then (if x8 < (x7.length : Int) then (if 0 ≤ (Int.tmod (Go.bits .and .i64 (rd x0 (wrap64 (x8 - 1))) 65535) (wrap64 (x8 + 1))) then (if (Int.tmod (Go.bits .and .i64 (rd x0 (wrap64 (x8 - 1))) 65535) (wrap64 (x8 + 1))) < ((rd_L6 x7 x8).length : Int) then ((some (x7.set (x8 : Int).toNat ((rd_L6 x7 x8).set ((Int.tmod (Go.bits .and .i64 (rd x0 (wrap64 (x8 - 1))) 65535) (wrap64 (x8 + 1))) : Int).toNat true) : List (List Bool))).bind fun y444 => (if (Int.tmod (Go.bits .and .i64 (rd x0 (wrap64 (x8 - 1))) 65535) (wrap64 (x8 + 1))) < (x7.length : Int) then (if x8 < ((rd_L6 y444 (Int.tmod (Go.bits .and .i64 (rd x0 (wrap64 (x8 - 1))) 65535) (wrap64 (x8 + 1)))).length : Int) then (arboristlaw09_OrderTrees.l0 k x0 x1 x5 x6 (y444.set ((Int.tmod (Go.bits .and .i64 (rd x0 (wrap64 (x8 - 1))) 65535) (wrap64 (x8 + 1))) : Int).toNat ((rd_L6 y444 (Int.tmod (Go.bits .and .i64 (rd x0 (wrap64 (x8 - 1))) 65535) (wrap64 (x8 + 1)))).set (x8 : Int).toNat true)) (wrap64 (x8 + 1))) else (none)) else (none))) else (none)) else (none)) else (none)) else (none)) else (arboristlaw09_OrderTrees.l0 k x0 x1 x5 x6 x7 (wrap64 (x8 + 1))))) else (none)) else (none)) else ((arboristref08_Graph.f k x7).bind fun t449 => ((order_Of.f k t449 (wrap64 (1 + (Int.tmod (Go.bits .and .i64 x1 65535) 3)))).bind fun bt452 => (if bt452.2 = 0 then ((arboristref09_Valid.f k x6 bt452.1).bind fun t456 => (arboristlaw09_OrderTrees.j1 k x5 x6 x7 bt452.1 (!t456))) else (arboristlaw09_OrderTrees.j1 k x5 x6 x7 bt452.1 true))))
def arboristlaw09_OrderTrees.j1 : Nat → Bool → Int → List (List Bool) → List Int → Bool → Option (Bool)
  | 0, _, _, _, _, _ => none
  | k + 1, x5, x6, x7, x10, x66 => if x66 = true then (some false) else (arboristlaw09_OrderTrees.l1 k x5 x6 x7 x10 0)
def arboristlaw09_OrderTrees.l1 : Nat → Bool → Int → List (List Bool) → List Int → Int → Option (Bool)
  | 0, _, _, _, _, _ => none
  | k + 1, x5, x6, x7, x10, x12 => if x12 < x6 then (if 0 ≤ x12 then (if x12 < (x10.length : Int) then ((arboristref08_Neighbors.f k x7 (rd x10 x12)).bind fun t458 => (if (t458.length : Int) > 1 then (some false) else ((arboristref09_Go.f k x7 (rd x10 x12)).bind fun t462 => (arboristlaw09_OrderTrees.l1 k x5 x6 t462 x10 (wrap64 (x12 + 1)))))) else (none)) else (none)) else (some x5)
end
def arboristlaw09_OrderTrees.f (k : Nat) (l0 : List Int) (a1 : Int) : Option (Bool) := (arboristlaw09_shown.f k).bind fun t436 => ((arboristref08_Empty.f k ((mn (l0.length : Int) 11) + 1)).bind fun t437 => (arboristlaw09_OrderTrees.l0 k l0 a1 t436 ((mn (l0.length : Int) 11) + 1) t437 1))
theorem arboristlaw09_OrderTrees.mono_l : ∀ k, (∀ y0 y1 y2 y3 y4 y5, LeO (arboristlaw09_OrderTrees.l0 k y0 y1 y2 y3 y4 y5) (arboristlaw09_OrderTrees.l0 (k + 1) y0 y1 y2 y3 y4 y5)) ∧ (∀ y0 y1 y2 y3 y4, LeO (arboristlaw09_OrderTrees.j1 k y0 y1 y2 y3 y4) (arboristlaw09_OrderTrees.j1 (k + 1) y0 y1 y2 y3 y4)) ∧ (∀ y0 y1 y2 y3 y4, LeO (arboristlaw09_OrderTrees.l1 k y0 y1 y2 y3 y4) (arboristlaw09_OrderTrees.l1 (k + 1) y0 y1 y2 y3 y4))
  | 0 => ⟨fun _ _ _ _ _ _ r h => by simp [arboristlaw09_OrderTrees.l0] at h, fun _ _ _ _ _ r h => by simp [arboristlaw09_OrderTrees.j1] at h, fun _ _ _ _ _ r h => by simp [arboristlaw09_OrderTrees.l1] at h⟩
  | k + 1 => by
    obtain ⟨ih0, ih1, ih2⟩ := arboristlaw09_OrderTrees.mono_l k
    refine ⟨?_, ?_, ?_⟩
    all_goals intros
    all_goals (first | unfold arboristlaw09_OrderTrees.l0 | unfold arboristlaw09_OrderTrees.j1 | unfold arboristlaw09_OrderTrees.l1)
    all_goals repeat' first
    | (with_reducible exact ih0 _ _ _ _ _ _)
    | (with_reducible exact ih1 _ _ _ _ _)
    | (with_reducible exact ih2 _ _ _ _ _)
    | (with_reducible exact arboristlaw09_shown.mono _)
    | (with_reducible exact arboristref08_Empty.mono _ _)
    | (with_reducible exact arboristref08_Graph.mono _ _)
    | (with_reducible exact arboristref08_Neighbors.mono _ _ _)
    | (with_reducible exact arboristref09_Go.mono _ _ _)
    | (with_reducible exact arboristref09_Valid.mono _ _ _)
    | (with_reducible exact order_Of.mono _ _ _)
    | (with_reducible exact LeO.refl _)
    | (with_reducible exact LeO.none _)
    | (with_reducible refine LeO.ite ?_ ?_)
    | (with_reducible refine LeO.bind ?_ (fun _ => ?_))
    | exact ih0 _ _ _ _ _ _
    | exact ih1 _ _ _ _ _
    | exact ih2 _ _ _ _ _
    | exact arboristlaw09_shown.mono _
    | exact arboristref08_Empty.mono _ _
    | exact arboristref08_Graph.mono _ _
    | exact arboristref08_Neighbors.mono _ _ _
    | exact arboristref09_Go.mono _ _ _
    | exact arboristref09_Valid.mono _ _ _
    | exact order_Of.mono _ _ _
    | exact LeO.none _
    | refine LeO.ite ?_ ?_
    | refine LeO.bind ?_ (fun _ => ?_)
theorem arboristlaw09_OrderTrees.mono : ∀ a0 a1 k, LeO (arboristlaw09_OrderTrees.f k a0 a1) (arboristlaw09_OrderTrees.f (k + 1) a0 a1) := by
  intro a0 a1 k
  obtain ⟨ih0, ih1, ih2⟩ := arboristlaw09_OrderTrees.mono_l k
  unfold arboristlaw09_OrderTrees.f
  repeat' first
      | (with_reducible exact ih0 _ _ _ _ _ _)
      | (with_reducible exact ih1 _ _ _ _ _)
      | (with_reducible exact ih2 _ _ _ _ _)
      | (with_reducible exact arboristlaw09_shown.mono _)
      | (with_reducible exact arboristref08_Empty.mono _ _)
      | (with_reducible exact arboristref08_Graph.mono _ _)
      | (with_reducible exact arboristref08_Neighbors.mono _ _ _)
      | (with_reducible exact arboristref09_Go.mono _ _ _)
      | (with_reducible exact arboristref09_Valid.mono _ _ _)
      | (with_reducible exact order_Of.mono _ _ _)
      | (with_reducible exact LeO.refl _)
      | (with_reducible exact LeO.none _)
      | (with_reducible refine LeO.ite ?_ ?_)
      | (with_reducible refine LeO.bind ?_ (fun _ => ?_))
      | exact ih0 _ _ _ _ _ _
      | exact ih1 _ _ _ _ _
      | exact ih2 _ _ _ _ _
      | exact arboristlaw09_shown.mono _
      | exact arboristref08_Empty.mono _ _
      | exact arboristref08_Graph.mono _ _
      | exact arboristref08_Neighbors.mono _ _ _
      | exact arboristref09_Go.mono _ _ _
      | exact arboristref09_Valid.mono _ _ _
      | exact order_Of.mono _ _ _
      | exact LeO.none _
      | refine LeO.ite ?_ ?_
      | refine LeO.bind ?_ (fun _ => ?_)
set_option maxHeartbeats 8000000 in
set_option maxRecDepth 100000 in
theorem arboristlaw09_OrderTrees.calls (k : Nat) (A0 : Option Addr) (c0 : Nat) (l0 : List Int) (a1 : Int) (r : Bool) (w : World) (hTb : Tab64 w) (hr0 : Kd.C (Kd.int .i64) w A0 l0.length l0) (hc0 : l0.length ≤ c0) (hT : r = true) (h : arboristlaw09_OrderTrees.f k l0 a1 = some r) :
    Calls Tryd.prog 5 #[.slice A0 l0.length c0, .int .i64 a1] w fun e w' => e = .returned (.bool r) ∧ Below w.heap.size w w' := by
  have HTAB := Aside0.mk hTb
  clear hTb
  have HT_ := Aside0.mk (show r = true from hT)
  clear hT
  have HR0 := Aside0.mk hr0
  have HC0 := Aside0.mk hc0
  clear hr0 hc0
  have HB := Aside0.mk (Below.refl w.heap.size w)
  have H : ((arboristlaw09_shown.f k).bind fun t436 => ((arboristref08_Empty.f k ((mn (l0.length : Int) 11) + 1)).bind fun t437 => (arboristlaw09_OrderTrees.l0 k l0 a1 t436 ((mn (l0.length : Int) 11) + 1) t437 1))) = some r := h
  clear h
  replace H := Option.bind_eq_some_iff.mp H
  obtain ⟨t436, A30, H⟩ := H
  replace H : ((arboristref08_Empty.f k ((mn (l0.length : Int) 11) + 1)).bind fun t437 => (arboristlaw09_OrderTrees.l0 k l0 a1 t436 ((mn (l0.length : Int) 11) + 1) t437 1)) = some r := H
  have A3 := Aside0.mk A30
  clear A30
  obtain ⟨ji4, hji4⟩ : ∃ j_ : Int, (mn (l0.length : Int) 11) = j_ := ⟨_, rfl⟩
  replace H : ((arboristref08_Empty.f k ((ji4) + 1)).bind fun t437 => (arboristlaw09_OrderTrees.l0 k l0 a1 t436 ((ji4) + 1) t437 1)) = some r := by first | (rw [hji4] at H; exact H) | (simp only [hji4] at H ⊢; exact H)
  (try rw [hji4] at A3)
  (try (have hji4h : ji4 ≤ 11 := by (rw [← hji4]; unfold mn; (repeat' split) <;> omega)))
  (try (have hji4g : ji4 ≤ 64 := by omega))
  (try (have hji4l : 0 ≤ ji4 := by (rw [← hji4]; unfold mn; (repeat' split) <;> omega)))
  (try (have hji4m : 0 ≤ ji4 := by omega))
  have hji4_ : (if 11 < (l0.length : Int) then 11 else (l0.length : Int)) = ji4 := hji4
  replace H := Option.bind_eq_some_iff.mp H
  obtain ⟨t437, A50, H⟩ := H
  replace H : (arboristlaw09_OrderTrees.l0 k l0 a1 t436 ((ji4) + 1) t437 1) = some r := H
  have A5 := Aside0.mk A50
  clear A50
  have H' := Aside0.mk H
  clear H
  go_enter Tryd.func5, Tryd.ntmps5
  go_wp2_with (first | ((with_reducible refine gate_callee (f := 8) rfl ?_); refine goesL_ (some 13) rfl rfl Tryd.func8 (by kernel_rfl) rfl #[] rfl (by (try simp only [List.map_toArray, List.map_cons, List.map_nil]); first | done | rfl | (simp only [List.length_drop, List.length_take]; rfl)) ?_; (with_reducible refine (arboristlaw09_shown.calls (hTb := (by first | exact HTAB.out | exact tab_drewN HTAB.out _ | exact tab_below HTAB.out (by repeat (first | (with_reducible first | exact HB.out | apply below_alloc | apply pw_below_drewN | apply below_drew1) | exact HB.out)))) k  t436 _ A3.out).mono ?_); rintro e w6 ⟨rfl, hb⟩; refine ⟨_, rfl, ?_⟩; have n0_ := Aside0.mk (below_step (by repeat (first | (with_reducible first | exact HB.out | apply below_alloc | apply pw_below_drewN | apply below_drew1) | exact HB.out)) hb); clear HB; have HB := n0_; clear n0_; (try clear hb); (try clear hb2); (try clear hk); (try clear hi)) | ((with_reducible refine gate_callee (f := 19) rfl ?_); refine goesL_ (some 19) rfl rfl Tryd.func19 (by kernel_rfl) rfl #[.int .i64 ((ji4) + 1)] rfl (by (try simp only [List.map_toArray, List.map_cons, List.map_nil]); first | done | (simp only [hji4]; rfl) | rfl | (simp only [List.length_drop, List.length_take]; rfl)) ?_; (with_reducible refine (arboristref08_Empty.calls k ((ji4) + 1) t437 _ A5.out).mono ?_); rintro e w7 ⟨v438, rfl, ho0, hb⟩; refine ⟨_, rfl, ?_⟩; have n0_ := Aside0.mk (Kd.S_lower ho0 (below_size (by repeat (first | (with_reducible first | exact HB.out | apply below_alloc | apply pw_below_drewN | apply below_drew1) | exact HB.out)))); have n1_ := Aside0.mk (below_step (by repeat (first | (with_reducible first | exact HB.out | apply below_alloc | apply pw_below_drewN | apply below_drew1) | exact HB.out)) hb); clear HB; have HO439 := n0_; have HB := n1_; clear n0_ n1_; (try clear hb); (try clear hb2); (try clear hk); (try clear hi); (try clear ho0)))
  go_loopg [8] k (fun kq v8 w' => ∃ (x7_1 : List (List Bool)) (x8_1 : Int), v8 = .int .i64 x8_1 ∧ Aside0 (arboristlaw09_OrderTrees.l0 kq l0 a1 t436 ((ji4) + 1) x7_1 x8_1 = some r) ∧ Aside0 (kq ≤ k) ∧ Aside0 (Kd.S (Kd.slice 4 Kd.bool) 42 w' w.heap.size (fun _ => True) v438 x7_1) ∧ Aside0 (Below w.heap.size w w'))
  case atStart => exact ⟨(t437), (1), (by first | rfl | (simp; done) | (simp [*]; done)), H', ⟨Nat.le_refl _⟩, ⟨by (with_reducible repeat (first | apply Kd.S_alloc | apply Kd.S_drewN | apply Kd.S_drew)); exact HO439.out⟩, ⟨by repeat (first | (with_reducible first | exact HB.out | apply below_alloc | apply pw_below_drewN | apply below_drew1) | exact HB.out)⟩⟩
  case round =>
    clear H'
    try clear c1
    try clear p2
    try clear c5
    obtain ⟨x7_1, x8_1, rfl, HA, HK1, HO_7, HB⟩ := hrel
    cases gk with
    | zero => exact absurd HA.out (by simp [arboristlaw09_OrderTrees.l0])
    | succ k1 =>
      have H := HA.out
      clear HA
      simp only [arboristlaw09_OrderTrees.l0] at H
      by_cases c8 : x8_1 < ((ji4) + 1)
      · rw [if_pos c8] at H
        have c8b0 : decide (x8_1 < ((ji4) + 1)) = true := decide_eq_true c8
        clear c8
        obtain ⟨ji9, hji9⟩ : ∃ j_ : Int, (wrap64 (x8_1 - 1)) = j_ := ⟨_, rfl⟩
        replace H : (if 0 ≤ (ji9) then (if (ji9) < (l0.length : Int) then (if (wrap64 (x8_1 + 1)) = 0 then (none) else (if (Int.tmod (Go.bits .and .i64 (rd l0 (ji9)) 65535) (wrap64 (x8_1 + 1))) < x8_1 then (if 0 ≤ x8_1 then (if x8_1 < (x7_1.length : Int) then (if 0 ≤ (Int.tmod (Go.bits .and .i64 (rd l0 (ji9)) 65535) (wrap64 (x8_1 + 1))) then (if (Int.tmod (Go.bits .and .i64 (rd l0 (ji9)) 65535) (wrap64 (x8_1 + 1))) < ((rd_L6 x7_1 x8_1).length : Int) then ((some (x7_1.set (x8_1 : Int).toNat ((rd_L6 x7_1 x8_1).set ((Int.tmod (Go.bits .and .i64 (rd l0 (ji9)) 65535) (wrap64 (x8_1 + 1))) : Int).toNat true) : List (List Bool))).bind fun y444 => (if (Int.tmod (Go.bits .and .i64 (rd l0 (ji9)) 65535) (wrap64 (x8_1 + 1))) < (x7_1.length : Int) then (if x8_1 < ((rd_L6 y444 (Int.tmod (Go.bits .and .i64 (rd l0 (ji9)) 65535) (wrap64 (x8_1 + 1)))).length : Int) then (arboristlaw09_OrderTrees.l0 k1 l0 a1 t436 ((ji4) + 1) (y444.set ((Int.tmod (Go.bits .and .i64 (rd l0 (ji9)) 65535) (wrap64 (x8_1 + 1))) : Int).toNat ((rd_L6 y444 (Int.tmod (Go.bits .and .i64 (rd l0 (ji9)) 65535) (wrap64 (x8_1 + 1)))).set (x8_1 : Int).toNat true)) (wrap64 (x8_1 + 1))) else (none)) else (none))) else (none)) else (none)) else (none)) else (none)) else (arboristlaw09_OrderTrees.l0 k1 l0 a1 t436 ((ji4) + 1) x7_1 (wrap64 (x8_1 + 1))))) else (none)) else (none)) = some r := by first | (rw [hji9] at H; exact H) | (simp only [hji9] at H ⊢; exact H)
        have hji9w : (IntKind.i64.wrap (x8_1 - 1)) = ji9 := (i64_w _).trans hji9
        by_cases c10 : 0 ≤ (ji9)
        · rw [if_pos c10] at H
          have c10b0 : decide (0 ≤ (ji9)) = true := decide_eq_true c10
          clear c10
          by_cases c11 : (ji9) < (l0.length : Int)
          · rw [if_pos c11] at H
            have c11b0 : decide ((ji9) < (l0.length : Int)) = true := decide_eq_true c11
            clear c11
            by_cases c12 : (wrap64 (x8_1 + 1)) = 0
            · rw [if_pos c12] at H
              exact absurd H (by simp)
            · rw [if_neg c12] at H
              have c12b0 : ((wrap64 (x8_1 + 1)) == 0) = false := beq_eq_false_iff_ne.mpr c12
              have c12b1 : ((wrap64 (x8_1 + 1)) != 0) = true := bne_iff_ne.mpr c12
              by_cases c13 : (Int.tmod (Go.bits .and .i64 (rd l0 (ji9)) 65535) (wrap64 (x8_1 + 1))) < x8_1
              · rw [if_pos c13] at H
                have c13b0 : decide ((Int.tmod (Go.bits .and .i64 (rd l0 (ji9)) 65535) (wrap64 (x8_1 + 1))) < x8_1) = true := decide_eq_true c13
                clear c13
                by_cases c14 : 0 ≤ x8_1
                · rw [if_pos c14] at H
                  have c14b0 : decide (0 ≤ x8_1) = true := decide_eq_true c14
                  clear c14
                  by_cases c15 : x8_1 < (x7_1.length : Int)
                  · rw [if_pos c15] at H
                    have c15b0 : decide (x8_1 < (x7_1.length : Int)) = true := decide_eq_true c15
                    clear c15
                    obtain ⟨ji16, hji16⟩ : ∃ j_ : Int, (Int.tmod (Go.bits .and .i64 (rd l0 (ji9)) 65535) (wrap64 (x8_1 + 1))) = j_ := ⟨_, rfl⟩
                    (try (have hji16z := hji16; rw [show wrap64 (x8_1 + 1) = (x8_1 + 1) from (by unfold wrap64; omega)] at hji16z))
                    replace H : (if 0 ≤ (ji16) then (if (ji16) < ((rd_L6 x7_1 x8_1).length : Int) then ((some (x7_1.set (x8_1 : Int).toNat ((rd_L6 x7_1 x8_1).set ((ji16) : Int).toNat true) : List (List Bool))).bind fun y444 => (if (ji16) < (x7_1.length : Int) then (if x8_1 < ((rd_L6 y444 (ji16)).length : Int) then (arboristlaw09_OrderTrees.l0 k1 l0 a1 t436 ((ji4) + 1) (y444.set ((ji16) : Int).toNat ((rd_L6 y444 (ji16)).set (x8_1 : Int).toNat true)) (wrap64 (x8_1 + 1))) else (none)) else (none))) else (none)) else (none)) = some r := by first | (rw [hji16] at H; exact H) | (simp only [hji16] at H ⊢; exact H)
                    (try rw [hji16] at c13b0)
                    by_cases c17 : 0 ≤ (ji16)
                    · rw [if_pos c17] at H
                      have c17b0 : decide (0 ≤ (ji16)) = true := decide_eq_true c17
                      clear c17
                      by_cases c18 : (ji16) < ((rd_L6 x7_1 x8_1).length : Int)
                      · rw [if_pos c18] at H
                        have c18b0 : decide ((ji16) < ((rd_L6 x7_1 x8_1).length : Int)) = true := decide_eq_true c18
                        clear c18
                        obtain ⟨y442, hy442⟩ : ∃ y_ : List Bool, y_ = ((rd_L6 x7_1 x8_1).set ((ji16) : Int).toNat true) := ⟨_, rfl⟩
                        replace H : ((some (x7_1.set (x8_1 : Int).toNat y442 : List (List Bool))).bind fun y444 => (if (ji16) < (x7_1.length : Int) then (if x8_1 < ((rd_L6 y444 (ji16)).length : Int) then (arboristlaw09_OrderTrees.l0 k1 l0 a1 t436 ((ji4) + 1) (y444.set ((ji16) : Int).toNat ((rd_L6 y444 (ji16)).set (x8_1 : Int).toNat true)) (wrap64 (x8_1 + 1))) else (none)) else (none))) = some r := by first | (rw [hy442]; with_reducible exact H) | (have H2_ := (Option.bind_some _ _).symm.trans H; rw [hy442]; with_reducible exact H2_) | (have H2_ := (Option.bind_some _ _).symm.trans H; with_reducible exact H2_) | with_reducible exact H | (rw [hy442]; exact H) | exact H
                        have Ny442 := Aside0.mk hy442
                        clear hy442
                        obtain ⟨y444, hy444⟩ : ∃ y_ : List (List Bool), y_ = (x7_1.set (x8_1 : Int).toNat y442) := ⟨_, rfl⟩
                        replace H : (if (ji16) < (x7_1.length : Int) then (if x8_1 < ((rd_L6 y444 (ji16)).length : Int) then (arboristlaw09_OrderTrees.l0 k1 l0 a1 t436 ((ji4) + 1) (y444.set ((ji16) : Int).toNat ((rd_L6 y444 (ji16)).set (x8_1 : Int).toNat true)) (wrap64 (x8_1 + 1))) else (none)) else (none)) = some r := by first | (rw [hy444]; with_reducible exact H) | (have H2_ := (Option.bind_some _ _).symm.trans H; rw [hy444]; with_reducible exact H2_) | (have H2_ := (Option.bind_some _ _).symm.trans H; with_reducible exact H2_) | with_reducible exact H | (rw [hy444]; exact H) | exact H
                        have Ny444 := Aside0.mk hy444
                        clear hy444
                        by_cases c20 : (ji16) < (x7_1.length : Int)
                        · rw [if_pos c20] at H
                          have c20b0 : decide ((ji16) < (x7_1.length : Int)) = true := decide_eq_true c20
                          clear c20
                          by_cases c21 : x8_1 < ((rd_L6 y444 (ji16)).length : Int)
                          · rw [if_pos c21] at H
                            have c21b0 : decide (x8_1 < ((rd_L6 y444 (ji16)).length : Int)) = true := decide_eq_true c21
                            clear c21
                            obtain ⟨y446, hy446⟩ : ∃ y_ : List Bool, y_ = ((rd_L6 y444 (ji16)).set (x8_1 : Int).toNat true) := ⟨_, rfl⟩
                            replace H : (arboristlaw09_OrderTrees.l0 k1 l0 a1 t436 ((ji4) + 1) (y444.set ((ji16) : Int).toNat y446) (wrap64 (x8_1 + 1))) = some r := by first | (rw [hy446]; with_reducible exact H) | (have H2_ := (Option.bind_some _ _).symm.trans H; rw [hy446]; with_reducible exact H2_) | (have H2_ := (Option.bind_some _ _).symm.trans H; with_reducible exact H2_) | with_reducible exact H | (rw [hy446]; exact H) | exact H
                            have Ny446 := Aside0.mk hy446
                            clear hy446
                            obtain ⟨y448, hy448⟩ : ∃ y_ : List (List Bool), y_ = (y444.set ((ji16) : Int).toNat y446) := ⟨_, rfl⟩
                            replace H : (arboristlaw09_OrderTrees.l0 k1 l0 a1 t436 ((ji4) + 1) y448 (wrap64 (x8_1 + 1))) = some r := by first | (rw [hy448]; with_reducible exact H) | (have H2_ := (Option.bind_some _ _).symm.trans H; rw [hy448]; with_reducible exact H2_) | (have H2_ := (Option.bind_some _ _).symm.trans H; with_reducible exact H2_) | with_reducible exact H | (rw [hy448]; exact H) | exact H
                            have Ny448 := Aside0.mk hy448
                            clear hy448
                            have H' := Aside0.mk H
                            clear H
                            have p440 : 0 ≤ ((ji9) : Int) := of_decide_eq_true (by first | (with_reducible assumption) | assumption)
                            have q440 : (ji9) < (l0.length : Int) := of_decide_eq_true (by first | (with_reducible assumption) | assumption)
                            obtain ⟨ad440, e440, hx440_0⟩ := Kd.at_int HR0.out (ji9) p440 q440
                            cases e440
                            replace hx440_0 := (HB.out.cell (World.block_lt_of_cell? w _ hx440_0)).trans hx440_0
                            replace p440 := eq_true p440
                            replace q440 := eq_true q440
                            obtain ⟨Ao23, co23, eo23⟩ := Kd.S_slice HO_7.out
                            subst eo23
                            have p441 : 0 ≤ (x8_1 : Int) := of_decide_eq_true (by first | (with_reducible assumption) | assumption)
                            have q441 : x8_1 < (x7_1.length : Int) := of_decide_eq_true (by first | (with_reducible assumption) | assumption)
                            obtain ⟨ad441, A441_0, c441_0, e441, hx441_0, hl441_0, hi441_0⟩ := at_L6 (Kd.S_reads' HO_7.out).2.2 x8_1 p441 q441
                            cases e441
                            obtain ⟨ce441, hce441, hMe441, hcc441⟩ := Kd.S_get HO_7.out [] x8_1 p441 (by first | exact q441 | exact of_decide_eq_true (by first | (with_reducible assumption) | assumption) | (have e_ := (Kd.S_reads' HO_7.out).1; omega))
                            obtain ⟨ve441_0, rfl, ge441_0⟩ := hMe441
                            have hv441_0 := hcc441 0 _ rfl
                            rw [Nat.add_zero, show ((Kd.slice 4 Kd.bool)).sz = 1 from rfl, Nat.mul_one] at hv441_0
                            replace hv441_0 := Option.some.inj (hv441_0.symm.trans hx441_0)
                            rw [hv441_0] at ge441_0
                            have HL441_0 := Aside0.mk (show Kd.R Kd.bool 4 _ _ _ _ (rd_L6 x7_1 x8_1) from ge441_0)
                            clear hv441_0 ge441_0
                            have HX441_0 := Aside0.mk hx441_0
                            clear hcc441 hce441
                            have HR441_0 := Aside0.mk hi441_0
                            have HC441_0 := Aside0.mk hl441_0
                            clear hi441_0 hl441_0
                            replace p441 := eq_true p441
                            replace q441 := eq_true q441
                            have p19 : 0 ≤ ((ji16) : Int) := of_decide_eq_true (by first | (with_reducible assumption) | assumption)
                            have q19 : ((ji16) : Int) < (((rd_L6 x7_1 x8_1).length : Int) : Int) := of_decide_eq_true (by first | (with_reducible assumption) | assumption)
                            obtain ⟨go19, co19, eo19, gb19, gl19, cl19, HG19⟩ := Kd.R_form HL441_0.out (by omega)
                            (first | cases eo19 | (injection eo19 with ea_ en_ ec_; (first | subst ea_ | (injection ea_ with ea_; subst ea_)); subst ec_; clear en_))
                            have GB19 := Aside0.mk gb19
                            have GG19 := Aside0.mk HG19
                            clear gb19 gl19 HG19
                            obtain ⟨hx19_0, hf19_0⟩ := Kd.R_celln false HL441_0.out ((ji16) : Int) p19 q19
                            replace p19 := eq_true p19
                            replace q19 := eq_true q19
                            have hq24 : (x8_1 : Int) < (x7_1.length : Int) := (by have h_ : (x8_1 : Int) < ((x7_1.length : Int) : Int) := of_decide_eq_true (by first | (with_reducible assumption) | assumption); first | exact h_ | (have e_ := (Kd.S_reads' HO_7.out).1; omega) | simpa only [List.length_set, List.length_set] using h_)
                            obtain ⟨oki24, ce24, hcl24, hM24, hcc24, hok24, hbk24⟩ := Kd.S_borrow HO_7.out [] (x8_1 : Int) (of_decide_eq_true (by first | (with_reducible assumption) | assumption)) (by first | exact hq24 | (have e_ := (Kd.S_reads' HO_7.out).1; have h_ := hq24; omega))
                            obtain ⟨ve24_0, rfl, ge24_0⟩ := hM24
                            have hv24 := hcc24 0 _ rfl
                            rw [Nat.add_zero, show ((Kd.slice 4 Kd.bool)).sz = 1 from rfl, Nat.mul_one] at hv24
                            replace hv24 := Option.some.inj (hv24.symm.trans HX441_0.out)
                            subst hv24
                            clear hcc24 hcl24
                            replace ge24_0 := (show Kd.R Kd.bool 4 _ _ _ _ (rd_L6 x7_1 x8_1) from ge24_0)
                            have HP24 := Kd.R_putg ge24_0 ((ji16) : Int) true
                            go_wp2_with (first | ((with_reducible refine gate_store (t := 4) (p := 42) rfl ?_); refine store_event (t := 4) (p := 42) (v := ?vo_w25) (w1 := (wr.setCell ⟨go19, ((ji16) : Int).toNat, none⟩ (.bool true))) ?hg ?ho ?hn ?hr ?_; (case ho => rfl); (case hg => rfl); (case hn => rfl); (case hr => first | (go_simp; done) | (go_simp; rfl)); intro w25 hw; have hg : wr.grownBy w25 (some go19) := (by rw [hw]; exact HP24.2); have hz_ : Kd.R Kd.bool 4 w25 w.heap.size oki24 (.slice (some ⟨go19, 0, none⟩) (rd_L6 x7_1 x8_1).length c441_0) y442 := (by rw [hw, Ny442.out]; exact HP24.1); have hp_ : Kd.S (Kd.slice 4 Kd.bool) 42 w25 w.heap.size (fun _ => True) (.slice (some ad441) x7_1.length co23) y444 := (by rw [Ny444.out]; exact hbk24 hg (fun k_ e_ => by injection e_ with e_; subst e_; exact ge24_0.1 _ rfl) (Kd.M_row hz_)); have hm_ := Kd.R_mono hz_ hok24; clear HP24 hbk24; have n0_ := Aside0.mk (hp_); have n1_ := Aside0.mk ((by rw [hw]; exact below_set (HB.out) GB19.out : Below w.heap.size w w25)); have n2_ := Aside0.mk (hm_); have n3_ := Aside0.mk ((Kd.R_reads' hm_).2.1); clear HO_7; clear HB; clear HL441_0; have HO_7 := n0_; have HB := n1_; have HL463 := n2_; have HC443 := n3_; clear n0_ n1_ n2_ n3_; clear hg hw hp_ hz_ hm_ hok24; have p445 : 0 ≤ ((ji16) : Int) := of_decide_eq_true (by first | (with_reducible assumption) | assumption); have q445 : (ji16) < (y444.length : Int) := (by have h_ : ((ji16) : Int) < ((x7_1.length : Int) : Int) := of_decide_eq_true (by first | (with_reducible assumption) | assumption); first | (have e_ := (Kd.S_reads' HO_7.out).1; omega) | simpa only [Ny444.out, List.length_set] using h_); have ql445 : (((ji16) : Int) < ((x7_1.length : Int) : Int)) = True := eq_true (of_decide_eq_true (by first | (with_reducible assumption) | assumption)); obtain ⟨ad445, A445_0, c445_0, e445, hx445_0, hl445_0, hi445_0⟩ := at_L6 (Kd.S_reads' HO_7.out).2.2 (ji16) p445 q445; obtain rfl : ad441 = ad445 := (by injection e445); obtain ⟨ce445, hce445, hMe445, hcc445⟩ := Kd.S_get HO_7.out [] (ji16) p445 (by first | exact q445 | exact of_decide_eq_true (by first | (with_reducible assumption) | assumption) | (have e_ := (Kd.S_reads' HO_7.out).1; omega)); obtain ⟨ve445_0, rfl, ge445_0⟩ := hMe445; have hv445_0 := hcc445 0 _ rfl; rw [Nat.add_zero, show ((Kd.slice 4 Kd.bool)).sz = 1 from rfl, Nat.mul_one] at hv445_0; replace hv445_0 := Option.some.inj (hv445_0.symm.trans hx445_0); rw [hv445_0] at ge445_0; have HL445_0 := Aside0.mk (show Kd.R Kd.bool 4 _ _ _ _ (rd_L6 y444 (ji16)) from ge445_0); clear hv445_0 ge445_0; have HX445_0 := Aside0.mk hx445_0; clear hcc445 hce445; have HR445_0 := Aside0.mk hi445_0; have HC445_0 := Aside0.mk hl445_0; clear hi445_0 hl445_0; replace p445 := eq_true p445; replace q445 := eq_true q445; have p22 : 0 ≤ (x8_1 : Int) := of_decide_eq_true (by first | (with_reducible assumption) | assumption); have q22 : (x8_1 : Int) < (((rd_L6 y444 (ji16)).length : Int) : Int) := of_decide_eq_true (by first | (with_reducible assumption) | assumption); obtain ⟨go22, co22, eo22, gb22, gl22, cl22, HG22⟩ := Kd.R_form HL445_0.out (by omega); (first | cases eo22 | (injection eo22 with ea_ en_ ec_; (first | subst ea_ | (injection ea_ with ea_; subst ea_)); subst ec_; clear en_)); have GB22 := Aside0.mk gb22; have GG22 := Aside0.mk HG22; clear gb22 gl22 HG22; obtain ⟨hx22_0, hf22_0⟩ := Kd.R_celln false HL445_0.out (x8_1 : Int) p22 q22; replace p22 := eq_true p22; replace q22 := eq_true q22; have hq26 : ((ji16) : Int) < (y444.length : Int) := (by have h_ : ((ji16) : Int) < ((x7_1.length : Int) : Int) := of_decide_eq_true (by first | (with_reducible assumption) | assumption); first | exact h_ | (have e_ := (Kd.S_reads' HO_7.out).1; omega) | simpa only [Ny444.out, List.length_set] using h_); obtain ⟨oki26, ce26, hcl26, hM26, hcc26, hok26, hbk26⟩ := Kd.S_borrow HO_7.out [] ((ji16) : Int) (of_decide_eq_true (by first | (with_reducible assumption) | assumption)) (by first | exact hq26 | (have e_ := (Kd.S_reads' HO_7.out).1; have h_ := hq26; omega)); obtain ⟨ve26_0, rfl, ge26_0⟩ := hM26; have hv26 := hcc26 0 _ rfl; rw [Nat.add_zero, show ((Kd.slice 4 Kd.bool)).sz = 1 from rfl, Nat.mul_one] at hv26; replace hv26 := Option.some.inj (hv26.symm.trans HX445_0.out); subst hv26; clear hcc26 hcl26; replace ge26_0 := (show Kd.R Kd.bool 4 _ _ _ _ (rd_L6 y444 (ji16)) from ge26_0); have HP26 := Kd.R_putg ge26_0 (x8_1 : Int) true) | ((with_reducible refine gate_store (t := 4) (p := 48) rfl ?_); refine store_event (t := 4) (p := 48) (v := ?vo_w27) (w1 := (w25.setCell ⟨go22, (x8_1 : Int).toNat, none⟩ (.bool true))) ?hg ?ho ?hn ?hr ?_; (case ho => rfl); (case hg => rfl); (case hn => rfl); (case hr => first | (go_simp; done) | (go_simp; rfl)); intro w27 hw; have hg : w25.grownBy w27 (some go22) := (by rw [hw]; exact HP26.2); have hz_ : Kd.R Kd.bool 4 w27 w.heap.size oki26 (.slice (some ⟨go22, 0, none⟩) (rd_L6 y444 (ji16)).length c445_0) y446 := (by rw [hw, Ny446.out]; exact HP26.1); have hp_ : Kd.S (Kd.slice 4 Kd.bool) 42 w27 w.heap.size (fun _ => True) (.slice (some ad441) x7_1.length co23) y448 := (by rw [Ny448.out]; exact hbk26 hg (fun k_ e_ => by injection e_ with e_; subst e_; exact ge26_0.1 _ rfl) (Kd.M_row hz_)); have hm_ := Kd.R_mono hz_ hok26; clear HP26 hbk26; have n0_ := Aside0.mk (hp_); have n1_ := Aside0.mk ((by rw [hw]; exact below_set (HB.out) GB22.out : Below w.heap.size w w27)); have n2_ := Aside0.mk (hm_); have n3_ := Aside0.mk ((Kd.R_reads' hm_).2.1); clear HO_7; clear HB; clear HL463; clear HL445_0; have HO_7 := n0_; have HB := n1_; have HL464 := n2_; have HC447 := n3_; clear n0_ n1_ n2_ n3_; clear hg hw hp_ hz_ hm_ hok26))
                            go_roundg k1
                            case measure => have := HK1.out; omega
                            case rel => exact ⟨(y448), (wrap64 (x8_1 + 1)), (by first | rfl | (simp; done) | (simp [*]; done)), H', ⟨by have := HK1.out; omega⟩, ⟨by (with_reducible repeat (first | apply Kd.S_alloc | apply Kd.S_drewN | apply Kd.S_drew)); exact HO_7.out⟩, ⟨by repeat (first | (with_reducible first | exact HB.out | apply below_alloc | apply pw_below_drewN | apply below_drew1) | exact HB.out)⟩⟩
                          · rw [if_neg c21] at H
                            exact absurd H (by simp)
                        · rw [if_neg c20] at H
                          exact absurd H (by simp)
                      · rw [if_neg c18] at H
                        exact absurd H (by simp)
                    · rw [if_neg c17] at H
                      exact absurd H (by simp)
                  · rw [if_neg c15] at H
                    exact absurd H (by simp)
                · rw [if_neg c14] at H
                  exact absurd H (by simp)
              · rw [if_neg c13] at H
                have c13b0 : decide ((Int.tmod (Go.bits .and .i64 (rd l0 (ji9)) 65535) (wrap64 (x8_1 + 1))) < x8_1) = false := decide_eq_false c13
                clear c13
                have H' := Aside0.mk H
                clear H
                have p440 : 0 ≤ ((ji9) : Int) := of_decide_eq_true (by first | (with_reducible assumption) | assumption)
                have q440 : (ji9) < (l0.length : Int) := of_decide_eq_true (by first | (with_reducible assumption) | assumption)
                obtain ⟨ad440, e440, hx440_0⟩ := Kd.at_int HR0.out (ji9) p440 q440
                cases e440
                replace hx440_0 := (HB.out.cell (World.block_lt_of_cell? w _ hx440_0)).trans hx440_0
                replace p440 := eq_true p440
                replace q440 := eq_true q440
                go_wp2
                go_roundg k1
                case measure => have := HK1.out; omega
                case rel => exact ⟨(x7_1), (wrap64 (x8_1 + 1)), (by first | rfl | (simp; done) | (simp [*]; done)), H', ⟨by have := HK1.out; omega⟩, ⟨by (with_reducible repeat (first | apply Kd.S_alloc | apply Kd.S_drewN | apply Kd.S_drew)); exact HO_7.out⟩, ⟨by repeat (first | (with_reducible first | exact HB.out | apply below_alloc | apply pw_below_drewN | apply below_drew1) | exact HB.out)⟩⟩
          · rw [if_neg c11] at H
            exact absurd H (by simp)
        · rw [if_neg c10] at H
          exact absurd H (by simp)
      · rw [if_neg c8] at H
        have c8b0 : decide (x8_1 < ((ji4) + 1)) = false := decide_eq_false c8
        clear c8
        replace H := Option.bind_eq_some_iff.mp H
        obtain ⟨t449, A280, H⟩ := H
        replace H : ((order_Of.f k1 t449 (wrap64 (1 + (Int.tmod (Go.bits .and .i64 a1 65535) 3)))).bind fun bt452 => (if bt452.2 = 0 then ((arboristref09_Valid.f k1 ((ji4) + 1) bt452.1).bind fun t456 => (arboristlaw09_OrderTrees.j1 k1 t436 ((ji4) + 1) x7_1 bt452.1 (!t456))) else (arboristlaw09_OrderTrees.j1 k1 t436 ((ji4) + 1) x7_1 bt452.1 true))) = some r := H
        have A28 := Aside0.mk A280
        clear A280
        replace H := Option.bind_eq_some_iff.mp H
        obtain ⟨⟨t452, t455⟩, A290, H⟩ := H
        replace H : (if t455 = 0 then ((arboristref09_Valid.f k1 ((ji4) + 1) t452).bind fun t456 => (arboristlaw09_OrderTrees.j1 k1 t436 ((ji4) + 1) x7_1 t452 (!t456))) else (arboristlaw09_OrderTrees.j1 k1 t436 ((ji4) + 1) x7_1 t452 true)) = some r := H
        have A29 := Aside0.mk A290
        clear A290
        have HC30 := Aside0.mk H
        clear H
        obtain ⟨Ao31, co31, eo31⟩ := Kd.S_slice HO_7.out
        subst eo31
        go_upto_region 12 with (first | ((with_reducible refine gate_callee (f := 11) rfl ?_); refine goesL_ (some 51) rfl rfl Tryd.func11 (by kernel_rfl) rfl #[.slice Ao31 x7_1.length co31] rfl (by (try simp only [List.map_toArray, List.map_cons, List.map_nil]); first | done | rfl | (simp only [List.length_drop, List.length_take]; rfl)) ?_; (with_reducible refine (arboristref08_Graph.calls k1 _ _ x7_1 t449 _ ?side1 ?side2 A28.out).mono ?_); (case side1 => repeat (first | exact (Kd.S_reads' HO_7.out).2.2 | (with_reducible refine Kd.C_alloc ?_ _) | (with_reducible refine Kd.C_drewN ?_ _) | (with_reducible refine Kd.C_drew ?_))); (case side2 => exact (Kd.S_reads' HO_7.out).2.1); rintro e w32 ⟨v450, rfl, ho0, hb⟩; refine ⟨_, rfl, ?_⟩; have n0_ := Aside0.mk (Kd.S_below (by (with_reducible repeat (first | apply Kd.S_alloc | apply Kd.S_drewN | apply Kd.S_drew)); exact HO_7.out) hb); have n1_ := Aside0.mk (Kd.R_lower ho0 (below_size (by repeat (first | (with_reducible first | exact HB.out | apply below_alloc | apply pw_below_drewN | apply below_drew1) | exact HB.out)))); have n2_ := Aside0.mk (below_step (by repeat (first | (with_reducible first | exact HB.out | apply below_alloc | apply pw_below_drewN | apply below_drew1) | exact HB.out)) hb); clear HO_7; clear HB; have HO_7 := n0_; have HO451 := n1_; have HB := n2_; clear n0_ n1_ n2_; (try clear hb); (try clear hb2); (try clear hk); (try clear hi); (try clear ho0); obtain ⟨Ao33, co33, eo33⟩ := Kd.R_slice HO451.out; subst eo33) | ((with_reducible refine gate_callee (f := 10) rfl ?_); refine goesL_ (some 56) rfl rfl Tryd.func10 (by kernel_rfl) rfl #[.agg #[.slice Ao33 t449.length co33], .int .i64 (wrap64 (1 + (Int.tmod (Go.bits .and .i64 a1 65535) 3)))] rfl (by (try simp only [List.map_toArray, List.map_cons, List.map_nil]); first | done | rfl | (simp only [List.length_drop, List.length_take]; rfl)) ?_; (with_reducible refine (order_Of.calls (hTb := (by first | exact HTAB.out | exact tab_drewN HTAB.out _ | exact tab_below HTAB.out (by repeat (first | (with_reducible first | exact HB.out | apply below_alloc | apply pw_below_drewN | apply below_drew1) | exact HB.out)))) k1 _ _ t449 (wrap64 (1 + (Int.tmod (Go.bits .and .i64 a1 65535) 3))) t452 t455 _ ?side1 ?side2 A29.out).mono ?_); (case side1 => repeat (first | exact (Kd.R_reads' HO451.out).2.2 | (with_reducible refine Kd.C_alloc ?_ _) | (with_reducible refine Kd.C_drewN ?_ _) | (with_reducible refine Kd.C_drew ?_))); (case side2 => exact (Kd.R_reads' HO451.out).2.1); rintro e w34 ⟨v453, rfl, ho0, hb⟩; refine ⟨_, rfl, ?_⟩; have n0_ := Aside0.mk (Kd.S_below (by (with_reducible repeat (first | apply Kd.S_alloc | apply Kd.S_drewN | apply Kd.S_drew)); exact HO_7.out) hb); have n1_ := Aside0.mk (Kd.R_below (by (with_reducible repeat (first | apply Kd.R_alloc | apply Kd.R_drewN | apply Kd.R_drew)); exact HO451.out) hb); have n2_ := Aside0.mk (Kd.R_lower ho0 (below_size (by repeat (first | (with_reducible first | exact HB.out | apply below_alloc | apply pw_below_drewN | apply below_drew1) | exact HB.out)))); have n3_ := Aside0.mk (below_step (by repeat (first | (with_reducible first | exact HB.out | apply below_alloc | apply pw_below_drewN | apply below_drew1) | exact HB.out)) hb); clear HO_7; clear HO451; clear HB; have HO_7 := n0_; have HO451 := n1_; have HO454 := n2_; have HB := n3_; clear n0_ n1_ n2_ n3_; (try clear hb); (try clear hb2); (try clear hk); (try clear hi); (try clear ho0)))
        (try simp only [Act.put, List.setIfInBounds_toArray, List.set_cons_zero, List.set_cons_succ])
        go_cut [66] (fun v66 wc => ∃ (kq : Nat) (x66_29 : Bool), v66 = .bool x66_29 ∧ Aside0 (arboristlaw09_OrderTrees.j1 kq t436 ((ji4) + 1) x7_1 t452 x66_29 = some r) ∧ Aside0 (kq ≤ k1) ∧ Aside0 (Kd.S (Kd.slice 4 Kd.bool) 42 wc w.heap.size (fun _ => True) (.slice Ao31 x7_1.length co31) x7_1) ∧ Aside0 (Kd.R (Kd.int .i64) 3 wc w.heap.size (fun _ => True) v453 t452) ∧ Aside0 (Below w.heap.size w wc))
        case first =>
          have H := HC30.out
          clear HC30
          by_cases c35 : t455 = 0
          · rw [if_pos c35] at H
            have c35b0 : (t455 == 0) = true := beq_iff_eq.mpr c35
            have c35b1 : (t455 != 0) = false := bne_eq_false_iff_eq.mpr c35
            clear c35
            (first | rw [c35b0] | (simp only [i64_w, i32_w]; rw [c35b0]) | skip)
            replace H := Option.bind_eq_some_iff.mp H
            obtain ⟨t456, A360, H⟩ := H
            replace H : (arboristlaw09_OrderTrees.j1 k1 t436 ((ji4) + 1) x7_1 t452 (!t456)) = some r := H
            have A36 := Aside0.mk A360
            clear A360
            have H' := Aside0.mk H
            clear H
            obtain ⟨Ao37, co37, eo37⟩ := Kd.R_slice HO454.out
            subst eo37
            go_wp2_with (first | (go_at_call 15; (with_reducible refine (arboristref09_Valid.calls k1 ((ji4) + 1) _ _ t452 t456 _ ?side1 ?side2 A36.out).mono ?_); (case side1 => repeat (first | exact (Kd.R_reads' HO454.out).2.2 | (with_reducible refine Kd.C_alloc ?_ _) | (with_reducible refine Kd.C_drewN ?_ _) | (with_reducible refine Kd.C_drew ?_))); (case side2 => exact (Kd.R_reads' HO454.out).2.1); rintro e w' ⟨rfl, ⟨nd, rfl⟩⟩))
            go_meet
            case rel => exact ⟨_, (!t456), (by first | rfl | (simp; done) | (simp [*]; done)), H', ⟨by have := HK1.out; first | omega | exact Nat.le_refl _⟩, ⟨by (with_reducible repeat (first | apply Kd.S_alloc | apply Kd.S_drewN | apply Kd.S_drew)); exact HO_7.out⟩, ⟨by (with_reducible repeat (first | apply Kd.R_alloc | apply Kd.R_drewN | apply Kd.R_drew)); exact HO454.out⟩, ⟨by repeat (first | (with_reducible first | exact HB.out | apply below_alloc | apply pw_below_drewN | apply below_drew1) | exact HB.out)⟩⟩
          · rw [if_neg c35] at H
            have c35b0 : (t455 == 0) = false := beq_eq_false_iff_ne.mpr c35
            have c35b1 : (t455 != 0) = true := bne_iff_ne.mpr c35
            (first | rw [c35b0] | (simp only [i64_w, i32_w]; rw [c35b0]) | skip)
            have H' := Aside0.mk H
            clear H
            go_wp2
            go_meet
            case rel => exact ⟨_, (true), (by first | rfl | (simp; done) | (simp [*]; done)), H', ⟨by have := HK1.out; first | omega | exact Nat.le_refl _⟩, ⟨by (with_reducible repeat (first | apply Kd.S_alloc | apply Kd.S_drewN | apply Kd.S_drew)); exact HO_7.out⟩, ⟨by (with_reducible repeat (first | apply Kd.R_alloc | apply Kd.R_drewN | apply Kd.R_drew)); exact HO454.out⟩, ⟨by repeat (first | (with_reducible first | exact HB.out | apply below_alloc | apply pw_below_drewN | apply below_drew1) | exact HB.out)⟩⟩
        case rest =>
          clear HC30
          try clear c1
          try clear p1
          try clear q1
          try clear hx1
          try clear c2
          try clear p2
          try clear q2
          try clear hx2
          try clear hf2
          try clear c3
          try clear c4
          try clear p4
          try clear q4
          try clear hx4
          try clear c5
          try clear p6
          try clear c8
          try clear c8b0
          try clear c10
          try clear c10b0
          try clear c11
          try clear c11b0
          try clear c12
          try clear c12b0
          try clear c12b1
          try clear c13
          try clear c13b0
          try clear c14
          try clear c14b0
          try clear c15
          try clear c15b0
          try clear c17
          try clear c17b0
          try clear c18
          try clear c18b0
          try clear c19
          try clear p19
          try clear q19
          try clear hx19
          try clear hf19
          try clear c20
          try clear c20b0
          try clear c21
          try clear c21b0
          try clear p22
          try clear q22
          try clear hx22
          try clear hf22
          try clear c24
          try clear q24
          try clear c26
          try clear q26
          try clear c35
          try clear c35b0
          try clear c35b1
          try clear hx19_0
          try clear hx22_0
          try clear hx440_0
          try clear hx441_0
          try clear hx445_0
          try clear p19
          try clear p2
          try clear p22
          try clear p440
          try clear p441
          try clear p445
          try clear q19
          try clear q22
          try clear q440
          try clear q441
          try clear q445
          obtain ⟨kq, x66_29, rfl, HA, HJ29, HO_7, HO_10, HB⟩ := hcut
          cases kq with
          | zero => exact absurd HA.out (by simp [arboristlaw09_OrderTrees.j1])
          | succ kj29 =>
            have H := HA.out
            clear HA
            simp only [arboristlaw09_OrderTrees.j1] at H
            by_cases c38 : x66_29 = true
            · subst c38
              have H1 : (some false) = some r := by rw [if_pos rfl] at H; exact H
              clear H
              have H := H1
              clear H1
              exact absurd ((Option.some.inj H).trans HT_.out) (by decide)
            · replace c38 := Bool.eq_false_iff.mpr c38
              subst c38
              have H1 : (arboristlaw09_OrderTrees.l1 kj29 t436 ((ji4) + 1) x7_1 t452 0) = some r := by rw [if_neg (show ¬ (false = true) by decide)] at H; exact H
              clear H
              have H := H1
              clear H1
              have H' := Aside0.mk H
              clear H
              go_wp2
              go_loopg [12] kj29 (fun kq v12 w' => ∃ (x7_3 : List (List Bool)) (x12_3 : Int), v12 = .int .i64 x12_3 ∧ Aside0 (arboristlaw09_OrderTrees.l1 kq t436 ((ji4) + 1) x7_3 t452 x12_3 = some r) ∧ Aside0 (kq ≤ kj29) ∧ Aside0 (Kd.S (Kd.slice 4 Kd.bool) 42 w' w.heap.size (fun _ => True) (.slice Ao31 x7_1.length co31) x7_3) ∧ Aside0 (Kd.R (Kd.int .i64) 3 w' w.heap.size (fun _ => True) v453 t452) ∧ Aside0 (Below w.heap.size w w'))
              case atStart => exact ⟨(x7_1), (0), (by first | rfl | (simp; done) | (simp [*]; done)), H', ⟨Nat.le_refl _⟩, ⟨by (with_reducible repeat (first | apply Kd.S_alloc | apply Kd.S_drewN | apply Kd.S_drew)); exact HO_7.out⟩, ⟨by (with_reducible repeat (first | apply Kd.R_alloc | apply Kd.R_drewN | apply Kd.R_drew)); exact HO_10.out⟩, ⟨by repeat (first | (with_reducible first | exact HB.out | apply below_alloc | apply pw_below_drewN | apply below_drew1) | exact HB.out)⟩⟩
              case round =>
                clear H'
                try clear c1
                try clear p1
                try clear q1
                try clear hx1
                try clear c2
                try clear p2
                try clear q2
                try clear hx2
                try clear hf2
                try clear c3
                try clear c4
                try clear p4
                try clear q4
                try clear hx4
                try clear c5
                try clear p6
                try clear c8
                try clear c8b0
                try clear c10
                try clear c10b0
                try clear c11
                try clear c11b0
                try clear c12
                try clear c12b0
                try clear c12b1
                try clear c13
                try clear c13b0
                try clear c14
                try clear c14b0
                try clear c15
                try clear c15b0
                try clear c17
                try clear c17b0
                try clear c18
                try clear c18b0
                try clear c19
                try clear p19
                try clear q19
                try clear hx19
                try clear hf19
                try clear c20
                try clear c20b0
                try clear c21
                try clear c21b0
                try clear p22
                try clear q22
                try clear hx22
                try clear hf22
                try clear c24
                try clear q24
                try clear c26
                try clear q26
                try clear c35
                try clear c35b0
                try clear c35b1
                try clear c38
                try clear hx19_0
                try clear hx22_0
                try clear hx440_0
                try clear hx441_0
                try clear hx445_0
                try clear p1
                try clear p19
                try clear p2
                try clear p22
                try clear p4
                try clear p440
                try clear p441
                try clear p445
                try clear p6
                try clear q1
                try clear q19
                try clear q2
                try clear q22
                try clear q24
                try clear q26
                try clear q4
                try clear q440
                try clear q441
                try clear q445
                obtain ⟨x7_3, x12_3, rfl, HA, HK3, HO_7, HO_10, HB⟩ := hrel
                have hl7_3 := (Kd.S_reads' HO_7.out).1
                rw [hl7_3] at HO_7
                (try simp only [hl7_3])
                (try simp only [hl7_3] at HO_10)
                cases gk with
                | zero => exact absurd HA.out (by simp [arboristlaw09_OrderTrees.l1])
                | succ k3 =>
                  have H := HA.out
                  clear HA
                  simp only [arboristlaw09_OrderTrees.l1] at H
                  by_cases c39 : x12_3 < ((ji4) + 1)
                  · rw [if_pos c39] at H
                    have c39b0 : decide (x12_3 < ((ji4) + 1)) = true := decide_eq_true c39
                    clear c39
                    by_cases c40 : 0 ≤ x12_3
                    · rw [if_pos c40] at H
                      have c40b0 : decide (0 ≤ x12_3) = true := decide_eq_true c40
                      clear c40
                      by_cases c41 : x12_3 < (t452.length : Int)
                      · rw [if_pos c41] at H
                        have c41b0 : decide (x12_3 < (t452.length : Int)) = true := decide_eq_true c41
                        clear c41
                        replace H := Option.bind_eq_some_iff.mp H
                        obtain ⟨t458, A420, H⟩ := H
                        replace H : (if (t458.length : Int) > 1 then (some false) else ((arboristref09_Go.f k3 x7_3 (rd t452 x12_3)).bind fun t462 => (arboristlaw09_OrderTrees.l1 k3 t436 ((ji4) + 1) t462 t452 (wrap64 (x12_3 + 1))))) = some r := H
                        have A42 := Aside0.mk A420
                        clear A420
                        by_cases c43 : (t458.length : Int) > 1
                        · rw [if_pos c43] at H
                          have c43b0 : decide (1 < (t458.length : Int)) = true := decide_eq_true c43
                          have c43b1 : decide (1 < t458.length) = true := decide_eq_true (by omega)
                          clear c43
                          exact absurd ((Option.some.inj H).trans HT_.out) (by decide)
                        · rw [if_neg c43] at H
                          have c43b0 : decide (1 < (t458.length : Int)) = false := decide_eq_false c43
                          have c43b1 : decide (1 < t458.length) = false := decide_eq_false (by omega)
                          clear c43
                          replace H := Option.bind_eq_some_iff.mp H
                          obtain ⟨t462, A440, H⟩ := H
                          replace H : (arboristlaw09_OrderTrees.l1 k3 t436 ((ji4) + 1) t462 t452 (wrap64 (x12_3 + 1))) = some r := H
                          have A44 := Aside0.mk A440
                          clear A440
                          have H' := Aside0.mk H
                          clear H
                          obtain ⟨Ao45, co45, eo45⟩ := Kd.R_slice HO_10.out
                          subst eo45
                          have p457 : 0 ≤ (x12_3 : Int) := of_decide_eq_true (by first | (with_reducible assumption) | assumption)
                          have q457 : x12_3 < (t452.length : Int) := of_decide_eq_true (by first | (with_reducible assumption) | assumption)
                          obtain ⟨ad457, e457, hx457_0⟩ := Kd.at_int (Kd.R_reads' HO_10.out).2.2 x12_3 p457 q457
                          cases e457
                          replace p457 := eq_true p457
                          replace q457 := eq_true q457
                          go_wp2_with (first | ((with_reducible refine gate_callee (f := 16) rfl ?_); refine goesL_ (some 77) rfl rfl Tryd.func16 (by kernel_rfl) rfl #[.slice Ao31 x7_3.length co31, .int .i64 (rd t452 x12_3)] rfl (by (try simp only [List.map_toArray, List.map_cons, List.map_nil]); first | done | rfl | (simp only [List.length_drop, List.length_take]; rfl)) ?_; (with_reducible refine (arboristref08_Neighbors.calls k3 _ _ x7_3 (rd t452 x12_3) t458 _ ?side1 ?side2 A42.out).mono ?_); (case side1 => repeat (first | exact (Kd.S_reads' HO_7.out).2.2 | (with_reducible refine Kd.C_alloc ?_ _) | (with_reducible refine Kd.C_drewN ?_ _) | (with_reducible refine Kd.C_drew ?_))); (case side2 => exact (Kd.S_reads' HO_7.out).2.1); rintro e w46 ⟨v459, rfl, ho0, hb⟩; refine ⟨_, rfl, ?_⟩; have n0_ := Aside0.mk (Kd.S_below (by (with_reducible repeat (first | apply Kd.S_alloc | apply Kd.S_drewN | apply Kd.S_drew)); exact HO_7.out) hb); have n1_ := Aside0.mk (Kd.R_elder' (by (with_reducible repeat (first | apply Kd.R_alloc | apply Kd.R_drewN | apply Kd.R_drew)); exact HO_10.out) (Kd.R_base ho0) hb); have n2_ := Aside0.mk (Kd.R_lower (Kd.R_new' ho0 (Kd.R_lt (by (with_reducible repeat (first | apply Kd.R_alloc | apply Kd.R_drewN | apply Kd.R_drew)); exact HO_10.out))) (below_size (by repeat (first | (with_reducible first | exact HB.out | apply below_alloc | apply pw_below_drewN | apply below_drew1) | exact HB.out)))); have n3_ := Aside0.mk (below_step (by repeat (first | (with_reducible first | exact HB.out | apply below_alloc | apply pw_below_drewN | apply below_drew1) | exact HB.out)) hb); clear HO_7; clear HO_10; clear HB; have HO_7 := n0_; have HO_10 := n1_; have HO460 := n2_; have HB := n3_; clear n0_ n1_ n2_ n3_; (try clear hb); (try clear hb2); (try clear hk); (try clear hi); (try clear ho0); obtain ⟨Ao47, co47, eo47⟩ := Kd.R_slice HO460.out; subst eo47; have p461 : 0 ≤ (x12_3 : Int) := of_decide_eq_true (by first | (with_reducible assumption) | assumption); have q461 : x12_3 < (t452.length : Int) := of_decide_eq_true (by first | (with_reducible assumption) | assumption); obtain ⟨ad461, e461, hx461_0⟩ := Kd.at_int (Kd.R_reads' HO_10.out).2.2 x12_3 p461 q461; obtain rfl : ad457 = ad461 := (by injection e461); replace p461 := eq_true p461; replace q461 := eq_true q461) | ((with_reducible refine gate_callee (f := 18) rfl ?_); refine goesL_ (some 85) rfl rfl Tryd.func18 (by kernel_rfl) rfl #[.slice Ao31 x7_3.length co31, .int .i64 (rd t452 x12_3)] rfl (by (try simp only [List.map_toArray, List.map_cons, List.map_nil]); first | done | rfl | (simp only [List.length_drop, List.length_take]; rfl)) ?_; (with_reducible refine (arboristref09_Go.callsB k3 (fun k_ => True) (.slice Ao31 x7_3.length co31) x7_3 (rd t452 x12_3) t462 w _ ?side1 ?side2 A44.out).mono ?_); (case side1 => repeat (first | (with_reducible first | exact HB.out | apply below_alloc | apply pw_below_drewN | apply below_drew1) | exact HB.out)); (case side2 => exact HO_7.out); rintro e w48 ⟨rfl, hy0, hb, hkp⟩; refine ⟨_, rfl, ?_⟩; have n0_ := Aside0.mk (Kd.S_mono (ok' := fun k_ => True) hy0 (fun k_ hk_ => trivial)); have n1_ := Aside0.mk (Kd.R_mono (ok' := fun k_ => some k_ ≠ (.slice Ao47 t458.length co47 : Value).ownBlock) (Kd.R_keptB ((R_sbT (d' := (Kd.slice 4 Kd.bool)) (e' := 42) HO_10.out (by decide))) hkp (fun k_ hk_ hs_ => (hk_.2) hs_)) (fun k_ hk_ => hk_.1.1.2)); have n2_ := Aside0.mk (Kd.R_mono (ok' := fun k_ => some k_ ≠ (.slice (some ad457) t452.length co45 : Value).ownBlock) (Kd.R_keptB ((R_sbT (d' := (Kd.slice 4 Kd.bool)) (e' := 42) HO460.out (by decide))) hkp (fun k_ hk_ hs_ => (hk_.2) hs_)) (fun k_ hk_ => hk_.1.1.2)); have n3_ := Aside0.mk (hb); clear HO_7; clear HO_10; clear HO460; clear HB; have HO_7 := n0_; have HO_10 := n1_; have HO460 := n2_; have HB := n3_; clear n0_ n1_ n2_ n3_; (try clear hb); (try clear hkp); (try clear hy0)))
                          (try simp only [← hl7_3])
                          go_roundg k3
                          case measure => have := HK1.out; have := HJ29.out; have := HK3.out; omega
                          case rel => exact ⟨(t462), (wrap64 (x12_3 + 1)), (by first | rfl | (simp; done) | (simp [*]; done)), H', ⟨by have := HK1.out; have := HJ29.out; have := HK3.out; omega⟩, ⟨by (try simp only [hl7_3]); (with_reducible repeat (first | apply Kd.S_alloc | apply Kd.S_drewN | apply Kd.S_drew)); exact HO_7.out⟩, ⟨by (try simp only [hl7_3]); (with_reducible repeat (first | apply Kd.R_alloc | apply Kd.R_drewN | apply Kd.R_drew)); exact Kd.R_mono HO_10.out (fun _ hk => trivial)⟩, ⟨by repeat (first | (with_reducible first | exact HB.out | apply below_alloc | apply pw_below_drewN | apply below_drew1) | exact HB.out)⟩⟩
                      · rw [if_neg c41] at H
                        exact absurd H (by simp)
                    · rw [if_neg c40] at H
                      exact absurd H (by simp)
                  · rw [if_neg c39] at H
                    have c39b0 : decide (x12_3 < ((ji4) + 1)) = false := decide_eq_false c39
                    clear c39
                    obtain rfl := Option.some.inj H
                    go_wp2
                    go_ret
                    exact ⟨by first | rfl | (simp [errW_none, errW_some] <;> rfl) | (simp only [← hji4]; first | rfl | (simp [errW_none, errW_some] <;> rfl)) | (simp [*, errW_none, errW_some] <;> rfl), by repeat (first | (with_reducible first | exact HB.out | apply below_alloc | apply pw_below_drewN | apply below_drew1) | exact HB.out)⟩

/-- THE ONE PURE STATEMENT of arboristlaw09_OrderTrees. -/
def arboristlaw09_OrderTrees.Pure : Prop := ∀ (l0 : List Int) (a1 : Int), (l0.length ≤ maxLen ∧ ∀ z0 ∈ l0, (Lit.int .i64 z0).wf = true) → (Lit.int .i64 a1).wf = true → ∃ k, arboristlaw09_OrderTrees.f k l0 a1 = some true

end Go.Proofs.YtefmpehjahfnpaaDoor.Pr
