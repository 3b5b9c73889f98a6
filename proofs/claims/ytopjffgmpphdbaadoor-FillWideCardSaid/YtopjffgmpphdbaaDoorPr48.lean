-- Printed by a program of this session's own (wip/tools/pp.py) over the kit's print.py; Lean checks it.
import Derived.Test.YtopjffgmpphdbaaDoorPr0
namespace Go.Proofs.YtopjffgmpphdbaaDoor.Pr
open Go.RowKit Go.Proofs.YtopjffgmpphdbaaDoorW.PrintWords Go.Proofs.YtopjffgmpphdbaaDoorW.PrintLast Go.Proofs.YtopjffgmpphdbaaDoorW.PrintMore
attribute [local go_sem] max2_int min2_int max_two min_two max_three min_three max_four min_four   -- for this text's walks alone
set_option linter.unusedVariables false
set_option linter.unusedSimpArgs false

/-! ### arboristref08_Clique: function 26 -/
mutual
def arboristref08_Clique.l0 : Nat → List (List Bool) → List Int → Int → Option (Bool)
  | 0, _, _, _ => none
  | k + 1, x0, x1, x5 => if x5 < (x1.length : Int) then (if 0 ≤ x5 then (if (rd x1 x5) < 0 then (some false) else (if (rd x1 x5) ≥ (x0.length : Int) then (some false) else (arboristref08_Clique.l0 k x0 x1 (wrap64 (x5 + 1))))) else (none)) else (arboristref08_Clique.l1 k x0 x1 0)
def arboristref08_Clique.l1 : Nat → List (List Bool) → List Int → Int → Option (Bool)
  | 0, _, _, _ => none
  | k + 1, x0, x1, x6 => if x6 < (x1.length : Int) then (arboristref08_Clique.l2 k x0 x1 x6 0) else (some true)
def arboristref08_Clique.l2 : Nat → List (List Bool) → List Int → Int → Int → Option (Bool)
  | 0, _, _, _, _ => none
  | k + 1, x0, x1, x6, x7 => if x7 < (x1.length : Int) then (if 0 ≤ x6 then (if x6 < (x1.length : Int) then (if 0 ≤ x7 then (if (rd x1 x6) = (rd x1 x7) then (arboristref08_Clique.l2 k x0 x1 x6 (wrap64 (x7 + 1))) else (if 0 ≤ (rd x1 x6) then (if (rd x1 x6) < (x0.length : Int) then (if 0 ≤ (rd x1 x7) then (if (rd x1 x7) < ((rd_L7 x0 (rd x1 x6)).length : Int) then (if (rdOf false (rd_L7 x0 (rd x1 x6)) (rd x1 x7) = true) then (arboristref08_Clique.l2 k x0 x1 x6 (wrap64 (x7 + 1))) else (some false)) else (none)) else (none)) else (none)) else (none))) else (none)) else (none)) else (none)) else (arboristref08_Clique.l1 k x0 x1 (wrap64 (x6 + 1)))
end
def arboristref08_Clique.f (k : Nat) (l0 : List (List Bool)) (l1 : List Int) : Option (Bool) := arboristref08_Clique.l0 k l0 l1 0
theorem arboristref08_Clique.mono_l : ∀ k, (∀ y0 y1 y2, LeO (arboristref08_Clique.l0 k y0 y1 y2) (arboristref08_Clique.l0 (k + 1) y0 y1 y2)) ∧ (∀ y0 y1 y2, LeO (arboristref08_Clique.l1 k y0 y1 y2) (arboristref08_Clique.l1 (k + 1) y0 y1 y2)) ∧ (∀ y0 y1 y2 y3, LeO (arboristref08_Clique.l2 k y0 y1 y2 y3) (arboristref08_Clique.l2 (k + 1) y0 y1 y2 y3))
  | 0 => ⟨fun _ _ _ r h => by simp [arboristref08_Clique.l0] at h, fun _ _ _ r h => by simp [arboristref08_Clique.l1] at h, fun _ _ _ _ r h => by simp [arboristref08_Clique.l2] at h⟩
  | k + 1 => by
    obtain ⟨ih0, ih1, ih2⟩ := arboristref08_Clique.mono_l k
    refine ⟨?_, ?_, ?_⟩
    all_goals intros
    all_goals (first | unfold arboristref08_Clique.l0 | unfold arboristref08_Clique.l1 | unfold arboristref08_Clique.l2)
    all_goals repeat' first
    | (with_reducible exact ih0 _ _ _)
    | (with_reducible exact ih1 _ _ _)
    | (with_reducible exact ih2 _ _ _ _)
    | (with_reducible exact LeO.refl _)
    | (with_reducible exact LeO.none _)
    | (with_reducible refine LeO.ite ?_ ?_)
    | (with_reducible refine LeO.bind ?_ (fun _ => ?_))
    | exact ih0 _ _ _
    | exact ih1 _ _ _
    | exact ih2 _ _ _ _
    | exact LeO.none _
    | refine LeO.ite ?_ ?_
    | refine LeO.bind ?_ (fun _ => ?_)
theorem arboristref08_Clique.mono : ∀ a0 a1 k, LeO (arboristref08_Clique.f k a0 a1) (arboristref08_Clique.f (k + 1) a0 a1) := by
  intro a0 a1 k
  obtain ⟨ih0, ih1, ih2⟩ := arboristref08_Clique.mono_l k
  unfold arboristref08_Clique.f
  repeat' first
      | (with_reducible exact ih0 _ _ _)
      | (with_reducible exact ih1 _ _ _)
      | (with_reducible exact ih2 _ _ _ _)
      | (with_reducible exact LeO.refl _)
      | (with_reducible exact LeO.none _)
      | (with_reducible refine LeO.ite ?_ ?_)
      | (with_reducible refine LeO.bind ?_ (fun _ => ?_))
      | exact ih0 _ _ _
      | exact ih1 _ _ _
      | exact ih2 _ _ _ _
      | exact LeO.none _
      | refine LeO.ite ?_ ?_
      | refine LeO.bind ?_ (fun _ => ?_)
set_option maxHeartbeats 8000000 in
set_option maxRecDepth 100000 in
theorem arboristref08_Clique.calls (k : Nat) (A0 : Option Addr) (c0 : Nat) (l0 : List (List Bool)) (A1 : Option Addr) (c1 : Nat) (l1 : List Int) (r : Bool) (w : World) (hr0 : Kd.C (Kd.slice 4 Kd.bool) w A0 l0.length l0) (hc0 : l0.length ≤ c0) (hr1 : Kd.C (Kd.int .i64) w A1 l1.length l1) (hc1 : l1.length ≤ c1) (h : arboristref08_Clique.f k l0 l1 = some r) :
    Calls Tryd.prog 26 #[.slice A0 l0.length c0, .slice A1 l1.length c1] w fun e w' => e = .returned (.bool r) ∧ Drawn0 w w' := by
  have HR0 := Aside0.mk hr0
  have HC0 := Aside0.mk hc0
  clear hr0 hc0
  have HR1 := Aside0.mk hr1
  have HC1 := Aside0.mk hc1
  clear hr1 hc1
  have H : (arboristref08_Clique.l0 k l0 l1 0) = some r := h
  clear h
  have H' := Aside0.mk H
  clear H
  go_enter Tryd.func26, Tryd.ntmps26
  go_wp2
  repeat (go_quiet (fail); try go_wp2)
  go_loopg [5] k (fun kq v5 w' => ∃ (x5_1 : Int), v5 = .int .i64 x5_1 ∧ Aside0 (arboristref08_Clique.l0 kq l0 l1 x5_1 = some r) ∧ Aside0 (kq ≤ k) ∧ Drawn0 w w')
  case atStart => exact ⟨(0), (by first | rfl | (simp; done) | (simp [*]; done)), H', ⟨Nat.le_refl _⟩, by repeat (first | exact Drawn0.refl _ | apply Drawn0.step)⟩
  case round =>
    clear H'
    try clear c1
    try clear c2
    try clear p2
    obtain ⟨x5_1, rfl, HA, HK1, ⟨m1, rfl⟩⟩ := hrel
    cases gk with
    | zero => exact absurd HA.out (by simp [arboristref08_Clique.l0])
    | succ k1 =>
      have H := HA.out
      clear HA
      simp only [arboristref08_Clique.l0] at H
      by_cases c3 : x5_1 < (l1.length : Int)
      · rw [if_pos c3] at H
        have c3b0 : decide (x5_1 < (l1.length : Int)) = true := decide_eq_true c3
        clear c3
        by_cases c4 : 0 ≤ x5_1
        · rw [if_pos c4] at H
          have c4b0 : decide (0 ≤ x5_1) = true := decide_eq_true c4
          clear c4
          by_cases c5 : (rd l1 x5_1) < 0
          · rw [if_pos c5] at H
            have c5b0 : decide ((rd l1 x5_1) < 0) = true := decide_eq_true c5
            clear c5
            obtain rfl := Option.some.inj H
            have p607 : 0 ≤ (x5_1 : Int) := of_decide_eq_true (by first | (with_reducible assumption) | assumption)
            have q607 : x5_1 < (l1.length : Int) := of_decide_eq_true (by first | (with_reducible assumption) | assumption)
            obtain ⟨ad607, e607, hx607_0⟩ := Kd.at_int HR1.out x5_1 p607 q607
            cases e607
            replace p607 := eq_true p607
            replace q607 := eq_true q607
            go_wp2
            repeat (go_quiet (fail); try go_wp2)
            go_ret
            exact ⟨by first | rfl | (simp; done) | (simp [*]; done), by repeat (first | exact Drawn0.refl _ | apply Drawn0.step)⟩
          · rw [if_neg c5] at H
            have c5b0 : decide ((rd l1 x5_1) < 0) = false := decide_eq_false c5
            clear c5
            by_cases c6 : (rd l1 x5_1) ≥ (l0.length : Int)
            · rw [if_pos c6] at H
              have c6b0 : decide ((l0.length : Int) ≤ (rd l1 x5_1)) = true := decide_eq_true c6
              clear c6
              obtain rfl := Option.some.inj H
              have p607 : 0 ≤ (x5_1 : Int) := of_decide_eq_true (by first | (with_reducible assumption) | assumption)
              have q607 : x5_1 < (l1.length : Int) := of_decide_eq_true (by first | (with_reducible assumption) | assumption)
              obtain ⟨ad607, e607, hx607_0⟩ := Kd.at_int HR1.out x5_1 p607 q607
              cases e607
              replace p607 := eq_true p607
              replace q607 := eq_true q607
              have p608 : 0 ≤ (x5_1 : Int) := of_decide_eq_true (by first | (with_reducible assumption) | assumption)
              have q608 : x5_1 < (l1.length : Int) := of_decide_eq_true (by first | (with_reducible assumption) | assumption)
              obtain ⟨ad608, e608, hx608_0⟩ := Kd.at_int HR1.out x5_1 p608 q608
              obtain rfl : ad607 = ad608 := (by injection e608)
              replace p608 := eq_true p608
              replace q608 := eq_true q608
              go_wp2
              repeat (go_quiet (fail); try go_wp2)
              go_ret
              exact ⟨by first | rfl | (simp; done) | (simp [*]; done), by repeat (first | exact Drawn0.refl _ | apply Drawn0.step)⟩
            · rw [if_neg c6] at H
              have c6b0 : decide ((l0.length : Int) ≤ (rd l1 x5_1)) = false := decide_eq_false c6
              clear c6
              have H' := Aside0.mk H
              clear H
              have p607 : 0 ≤ (x5_1 : Int) := of_decide_eq_true (by first | (with_reducible assumption) | assumption)
              have q607 : x5_1 < (l1.length : Int) := of_decide_eq_true (by first | (with_reducible assumption) | assumption)
              obtain ⟨ad607, e607, hx607_0⟩ := Kd.at_int HR1.out x5_1 p607 q607
              cases e607
              replace p607 := eq_true p607
              replace q607 := eq_true q607
              have p608 : 0 ≤ (x5_1 : Int) := of_decide_eq_true (by first | (with_reducible assumption) | assumption)
              have q608 : x5_1 < (l1.length : Int) := of_decide_eq_true (by first | (with_reducible assumption) | assumption)
              obtain ⟨ad608, e608, hx608_0⟩ := Kd.at_int HR1.out x5_1 p608 q608
              obtain rfl : ad607 = ad608 := (by injection e608)
              replace p608 := eq_true p608
              replace q608 := eq_true q608
              go_wp2
              repeat (go_quiet (fail); try go_wp2)
              go_roundg k1
              case measure => have := HK1.out; omega
              case rel => exact ⟨(wrap64 (x5_1 + 1)), (by first | rfl | (simp; done) | (simp [*]; done)), H', ⟨by have := HK1.out; omega⟩, by repeat (first | exact Drawn0.refl _ | apply Drawn0.step)⟩
        · rw [if_neg c4] at H
          exact absurd H (by simp)
      · rw [if_neg c3] at H
        have c3b0 : decide (x5_1 < (l1.length : Int)) = false := decide_eq_false c3
        clear c3
        have H' := Aside0.mk H
        clear H
        go_wp2
        repeat (go_quiet (fail); try go_wp2)
        go_loopg [6] k1 (fun kq v6 w' => ∃ (x6_2 : Int), v6 = .int .i64 x6_2 ∧ Aside0 (arboristref08_Clique.l1 kq l0 l1 x6_2 = some r) ∧ Aside0 (kq ≤ k1) ∧ Drawn0 w w')
        case atStart => exact ⟨(0), (by first | rfl | (simp; done) | (simp [*]; done)), H', ⟨Nat.le_refl _⟩, by repeat (first | exact Drawn0.refl _ | apply Drawn0.step)⟩
        case round =>
          clear H'
          try clear c1
          try clear c2
          try clear p2
          try clear c3
          try clear c3b0
          try clear c4
          try clear c4b0
          try clear c5
          try clear c5b0
          try clear c6
          try clear c6b0
          try clear p6
          try clear q6
          try clear hx6
          try clear hx607_0
          try clear hx608_0
          try clear p2
          try clear p607
          try clear p608
          try clear q607
          try clear q608
          obtain ⟨x6_2, rfl, HA, HK2, ⟨m2, rfl⟩⟩ := hrel
          cases gk with
          | zero => exact absurd HA.out (by simp [arboristref08_Clique.l1])
          | succ k2 =>
            have H := HA.out
            clear HA
            simp only [arboristref08_Clique.l1] at H
            by_cases c7 : x6_2 < (l1.length : Int)
            · rw [if_pos c7] at H
              have c7b0 : decide (x6_2 < (l1.length : Int)) = true := decide_eq_true c7
              clear c7
              have H' := Aside0.mk H
              clear H
              go_wp2
              repeat (go_quiet (fail); try go_wp2)
              go_loopg [7] k2 (fun kq v7 w' => ∃ (x7_3 : Int), v7 = .int .i64 x7_3 ∧ Aside0 (arboristref08_Clique.l2 kq l0 l1 x6_2 x7_3 = some r) ∧ Aside0 (kq ≤ k2) ∧ Drawn0 w w')
              case atStart => exact ⟨(0), (by first | rfl | (simp; done) | (simp [*]; done)), H', ⟨Nat.le_refl _⟩, by repeat (first | exact Drawn0.refl _ | apply Drawn0.step)⟩
              case round =>
                clear H'
                try clear c1
                try clear c2
                try clear p2
                try clear c3
                try clear c3b0
                try clear c4
                try clear c4b0
                try clear c5
                try clear c5b0
                try clear c6
                try clear c6b0
                try clear p6
                try clear q6
                try clear hx6
                try clear c7
                try clear c7b0
                try clear hx607_0
                try clear hx608_0
                try clear p2
                try clear p6
                try clear p607
                try clear p608
                try clear q6
                try clear q607
                try clear q608
                obtain ⟨x7_3, rfl, HA, HK3, ⟨m3, rfl⟩⟩ := hrel
                cases gk with
                | zero => exact absurd HA.out (by simp [arboristref08_Clique.l2])
                | succ k3 =>
                  have H := HA.out
                  clear HA
                  simp only [arboristref08_Clique.l2] at H
                  by_cases c8 : x7_3 < (l1.length : Int)
                  · rw [if_pos c8] at H
                    have c8b0 : decide (x7_3 < (l1.length : Int)) = true := decide_eq_true c8
                    clear c8
                    by_cases c9 : 0 ≤ x6_2
                    · rw [if_pos c9] at H
                      have c9b0 : decide (0 ≤ x6_2) = true := decide_eq_true c9
                      clear c9
                      by_cases c10 : x6_2 < (l1.length : Int)
                      · rw [if_pos c10] at H
                        have c10b0 : decide (x6_2 < (l1.length : Int)) = true := decide_eq_true c10
                        clear c10
                        by_cases c11 : 0 ≤ x7_3
                        · rw [if_pos c11] at H
                          have c11b0 : decide (0 ≤ x7_3) = true := decide_eq_true c11
                          clear c11
                          by_cases c12 : (rd l1 x6_2) = (rd l1 x7_3)
                          · rw [if_pos c12] at H
                            have c12b0 : ((rd l1 x6_2) == (rd l1 x7_3)) = true := beq_iff_eq.mpr c12
                            have c12b1 : ((rd l1 x6_2) != (rd l1 x7_3)) = false := bne_eq_false_iff_eq.mpr c12
                            clear c12
                            have H' := Aside0.mk H
                            clear H
                            have p609 : 0 ≤ (x6_2 : Int) := of_decide_eq_true (by first | (with_reducible assumption) | assumption)
                            have q609 : x6_2 < (l1.length : Int) := of_decide_eq_true (by first | (with_reducible assumption) | assumption)
                            obtain ⟨ad609, e609, hx609_0⟩ := Kd.at_int HR1.out x6_2 p609 q609
                            cases e609
                            replace p609 := eq_true p609
                            replace q609 := eq_true q609
                            have p610 : 0 ≤ (x7_3 : Int) := of_decide_eq_true (by first | (with_reducible assumption) | assumption)
                            have q610 : x7_3 < (l1.length : Int) := of_decide_eq_true (by first | (with_reducible assumption) | assumption)
                            obtain ⟨ad610, e610, hx610_0⟩ := Kd.at_int HR1.out x7_3 p610 q610
                            obtain rfl : ad609 = ad610 := (by injection e610)
                            replace p610 := eq_true p610
                            replace q610 := eq_true q610
                            go_wp2
                            repeat (go_quiet (fail); try go_wp2)
                            go_roundg k3
                            case measure => have := HK1.out; have := HK2.out; have := HK3.out; omega
                            case rel => exact ⟨(wrap64 (x7_3 + 1)), (by first | rfl | (simp; done) | (simp [*]; done)), H', ⟨by have := HK1.out; have := HK2.out; have := HK3.out; omega⟩, by repeat (first | exact Drawn0.refl _ | apply Drawn0.step)⟩
                          · rw [if_neg c12] at H
                            have c12b0 : ((rd l1 x6_2) == (rd l1 x7_3)) = false := beq_eq_false_iff_ne.mpr c12
                            have c12b1 : ((rd l1 x6_2) != (rd l1 x7_3)) = true := bne_iff_ne.mpr c12
                            by_cases c13 : 0 ≤ (rd l1 x6_2)
                            · rw [if_pos c13] at H
                              have c13b0 : decide (0 ≤ (rd l1 x6_2)) = true := decide_eq_true c13
                              clear c13
                              by_cases c14 : (rd l1 x6_2) < (l0.length : Int)
                              · rw [if_pos c14] at H
                                have c14b0 : decide ((rd l1 x6_2) < (l0.length : Int)) = true := decide_eq_true c14
                                clear c14
                                by_cases c15 : 0 ≤ (rd l1 x7_3)
                                · rw [if_pos c15] at H
                                  have c15b0 : decide (0 ≤ (rd l1 x7_3)) = true := decide_eq_true c15
                                  clear c15
                                  by_cases c16 : (rd l1 x7_3) < ((rd_L7 l0 (rd l1 x6_2)).length : Int)
                                  · rw [if_pos c16] at H
                                    have c16b0 : decide ((rd l1 x7_3) < ((rd_L7 l0 (rd l1 x6_2)).length : Int)) = true := decide_eq_true c16
                                    clear c16
                                    obtain ⟨bq17, hbq17⟩ : ∃ b_ : Bool, b_ = (rdOf false (rd_L7 l0 (rd l1 x6_2)) (rd l1 x7_3)) := ⟨_, rfl⟩
                                    replace H : (if (bq17 = true) then (arboristref08_Clique.l2 k3 l0 l1 x6_2 (wrap64 (x7_3 + 1))) else (some false)) = some r := by rw [← hbq17] at H; exact H
                                    have Nbq17 := Aside0.mk hbq17
                                    clear hbq17
                                    by_cases c18 : (bq17 = true)
                                    · subst c18
                                      have H1 : (arboristref08_Clique.l2 k3 l0 l1 x6_2 (wrap64 (x7_3 + 1))) = some r := by rw [if_pos rfl] at H; exact H
                                      clear H
                                      have H := H1
                                      clear H1
                                      have H' := Aside0.mk H
                                      clear H
                                      have p609 : 0 ≤ (x6_2 : Int) := of_decide_eq_true (by first | (with_reducible assumption) | assumption)
                                      have q609 : x6_2 < (l1.length : Int) := of_decide_eq_true (by first | (with_reducible assumption) | assumption)
                                      obtain ⟨ad609, e609, hx609_0⟩ := Kd.at_int HR1.out x6_2 p609 q609
                                      cases e609
                                      replace p609 := eq_true p609
                                      replace q609 := eq_true q609
                                      have p610 : 0 ≤ (x7_3 : Int) := of_decide_eq_true (by first | (with_reducible assumption) | assumption)
                                      have q610 : x7_3 < (l1.length : Int) := of_decide_eq_true (by first | (with_reducible assumption) | assumption)
                                      obtain ⟨ad610, e610, hx610_0⟩ := Kd.at_int HR1.out x7_3 p610 q610
                                      obtain rfl : ad609 = ad610 := (by injection e610)
                                      replace p610 := eq_true p610
                                      replace q610 := eq_true q610
                                      have p611 : 0 ≤ (x6_2 : Int) := of_decide_eq_true (by first | (with_reducible assumption) | assumption)
                                      have q611 : x6_2 < (l1.length : Int) := of_decide_eq_true (by first | (with_reducible assumption) | assumption)
                                      obtain ⟨ad611, e611, hx611_0⟩ := Kd.at_int HR1.out x6_2 p611 q611
                                      obtain rfl : ad609 = ad611 := (by injection e611)
                                      replace p611 := eq_true p611
                                      replace q611 := eq_true q611
                                      have p612 : 0 ≤ ((rd l1 x6_2) : Int) := of_decide_eq_true (by first | (with_reducible assumption) | assumption)
                                      have q612 : (rd l1 x6_2) < (l0.length : Int) := of_decide_eq_true (by first | (with_reducible assumption) | assumption)
                                      obtain ⟨ad612, A612_0, c612_0, e612, hx612_0, hl612_0, hi612_0⟩ := at_L7 HR0.out (rd l1 x6_2) p612 q612
                                      cases e612
                                      have HR612_0 := Aside0.mk hi612_0
                                      have HC612_0 := Aside0.mk hl612_0
                                      clear hi612_0 hl612_0
                                      replace p612 := eq_true p612
                                      replace q612 := eq_true q612
                                      have p613 : 0 ≤ (x7_3 : Int) := of_decide_eq_true (by first | (with_reducible assumption) | assumption)
                                      have q613 : x7_3 < (l1.length : Int) := of_decide_eq_true (by first | (with_reducible assumption) | assumption)
                                      obtain ⟨ad613, e613, hx613_0⟩ := Kd.at_int HR1.out x7_3 p613 q613
                                      obtain rfl : ad609 = ad613 := (by injection e613)
                                      replace p613 := eq_true p613
                                      replace q613 := eq_true q613
                                      have p614 : 0 ≤ ((rd l1 x7_3) : Int) := of_decide_eq_true (by first | (with_reducible assumption) | assumption)
                                      have q614 : (rd l1 x7_3) < ((rd_L7 l0 (rd l1 x6_2)).length : Int) := of_decide_eq_true (by first | (with_reducible assumption) | assumption)
                                      obtain ⟨ad614, e614, hx614_0⟩ := Kd.at_bool HR612_0.out (rd l1 x7_3) p614 q614
                                      (try rw [← Nbq17.out] at hx614_0)
                                      cases e614
                                      replace p614 := eq_true p614
                                      replace q614 := eq_true q614
                                      go_wp2
                                      repeat (go_quiet (fail); try go_wp2)
                                      go_roundg k3
                                      case measure => have := HK1.out; have := HK2.out; have := HK3.out; omega
                                      case rel => exact ⟨(wrap64 (x7_3 + 1)), (by first | rfl | (simp; done) | (simp [*]; done)), H', ⟨by have := HK1.out; have := HK2.out; have := HK3.out; omega⟩, by repeat (first | exact Drawn0.refl _ | apply Drawn0.step)⟩
                                    · replace c18 := Bool.eq_false_iff.mpr c18
                                      subst c18
                                      have H1 : (some false) = some r := by rw [if_neg (show ¬ (false = true) by decide)] at H; exact H
                                      clear H
                                      have H := H1
                                      clear H1
                                      obtain rfl := Option.some.inj H
                                      have p609 : 0 ≤ (x6_2 : Int) := of_decide_eq_true (by first | (with_reducible assumption) | assumption)
                                      have q609 : x6_2 < (l1.length : Int) := of_decide_eq_true (by first | (with_reducible assumption) | assumption)
                                      obtain ⟨ad609, e609, hx609_0⟩ := Kd.at_int HR1.out x6_2 p609 q609
                                      cases e609
                                      replace p609 := eq_true p609
                                      replace q609 := eq_true q609
                                      have p610 : 0 ≤ (x7_3 : Int) := of_decide_eq_true (by first | (with_reducible assumption) | assumption)
                                      have q610 : x7_3 < (l1.length : Int) := of_decide_eq_true (by first | (with_reducible assumption) | assumption)
                                      obtain ⟨ad610, e610, hx610_0⟩ := Kd.at_int HR1.out x7_3 p610 q610
                                      obtain rfl : ad609 = ad610 := (by injection e610)
                                      replace p610 := eq_true p610
                                      replace q610 := eq_true q610
                                      have p611 : 0 ≤ (x6_2 : Int) := of_decide_eq_true (by first | (with_reducible assumption) | assumption)
                                      have q611 : x6_2 < (l1.length : Int) := of_decide_eq_true (by first | (with_reducible assumption) | assumption)
                                      obtain ⟨ad611, e611, hx611_0⟩ := Kd.at_int HR1.out x6_2 p611 q611
                                      obtain rfl : ad609 = ad611 := (by injection e611)
                                      replace p611 := eq_true p611
                                      replace q611 := eq_true q611
                                      have p612 : 0 ≤ ((rd l1 x6_2) : Int) := of_decide_eq_true (by first | (with_reducible assumption) | assumption)
                                      have q612 : (rd l1 x6_2) < (l0.length : Int) := of_decide_eq_true (by first | (with_reducible assumption) | assumption)
                                      obtain ⟨ad612, A612_0, c612_0, e612, hx612_0, hl612_0, hi612_0⟩ := at_L7 HR0.out (rd l1 x6_2) p612 q612
                                      cases e612
                                      have HR612_0 := Aside0.mk hi612_0
                                      have HC612_0 := Aside0.mk hl612_0
                                      clear hi612_0 hl612_0
                                      replace p612 := eq_true p612
                                      replace q612 := eq_true q612
                                      have p613 : 0 ≤ (x7_3 : Int) := of_decide_eq_true (by first | (with_reducible assumption) | assumption)
                                      have q613 : x7_3 < (l1.length : Int) := of_decide_eq_true (by first | (with_reducible assumption) | assumption)
                                      obtain ⟨ad613, e613, hx613_0⟩ := Kd.at_int HR1.out x7_3 p613 q613
                                      obtain rfl : ad609 = ad613 := (by injection e613)
                                      replace p613 := eq_true p613
                                      replace q613 := eq_true q613
                                      have p614 : 0 ≤ ((rd l1 x7_3) : Int) := of_decide_eq_true (by first | (with_reducible assumption) | assumption)
                                      have q614 : (rd l1 x7_3) < ((rd_L7 l0 (rd l1 x6_2)).length : Int) := of_decide_eq_true (by first | (with_reducible assumption) | assumption)
                                      obtain ⟨ad614, e614, hx614_0⟩ := Kd.at_bool HR612_0.out (rd l1 x7_3) p614 q614
                                      (try rw [← Nbq17.out] at hx614_0)
                                      cases e614
                                      replace p614 := eq_true p614
                                      replace q614 := eq_true q614
                                      go_wp2
                                      repeat (go_quiet (fail); try go_wp2)
                                      go_ret
                                      exact ⟨by first | rfl | (simp; done) | (simp [*]; done), by repeat (first | exact Drawn0.refl _ | apply Drawn0.step)⟩
                                  · rw [if_neg c16] at H
                                    exact absurd H (by simp)
                                · rw [if_neg c15] at H
                                  exact absurd H (by simp)
                              · rw [if_neg c14] at H
                                exact absurd H (by simp)
                            · rw [if_neg c13] at H
                              exact absurd H (by simp)
                        · rw [if_neg c11] at H
                          exact absurd H (by simp)
                      · rw [if_neg c10] at H
                        exact absurd H (by simp)
                    · rw [if_neg c9] at H
                      exact absurd H (by simp)
                  · rw [if_neg c8] at H
                    have c8b0 : decide (x7_3 < (l1.length : Int)) = false := decide_eq_false c8
                    clear c8
                    have H' := Aside0.mk H
                    clear H
                    go_wp2
                    repeat (go_quiet (fail); try go_wp2)
                    go_roundg k3
                    case measure => have := HK1.out; have := HK2.out; have := HK3.out; omega
                    case rel => exact ⟨(wrap64 (x6_2 + 1)), (by first | rfl | (simp; done) | (simp [*]; done)), H', ⟨by have := HK1.out; have := HK2.out; have := HK3.out; omega⟩, by repeat (first | exact Drawn0.refl _ | apply Drawn0.step)⟩
            · rw [if_neg c7] at H
              have c7b0 : decide (x6_2 < (l1.length : Int)) = false := decide_eq_false c7
              clear c7
              obtain rfl := Option.some.inj H
              go_wp2
              repeat (go_quiet (fail); try go_wp2)
              go_ret
              exact ⟨by first | rfl | (simp; done) | (simp [*]; done), by repeat (first | exact Drawn0.refl _ | apply Drawn0.step)⟩

end Go.Proofs.YtopjffgmpphdbaaDoor.Pr
