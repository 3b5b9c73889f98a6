-- Printed by a program of this session's own (wip/tools/pp.py) over the kit's print.py; Lean checks it.
import Derived.Test.YtbdlelojlnhhfaaDoorPr0
namespace Go.Proofs.YtbdlelojlnhhfaaDoor.Pr
open Go.RowKit Go.Proofs.YtbdlelojlnhhfaaDoorW.PrintWords Go.Proofs.YtbdlelojlnhhfaaDoorW.PrintLast Go.Proofs.YtbdlelojlnhhfaaDoorW.PrintMore
attribute [local go_sem] max2_int min2_int max_two min_two max_three min_three max_four min_four   -- for this text's walks alone
set_option linter.unusedVariables false
set_option linter.unusedSimpArgs false

/-! ### arboristref08_Clique: function 23 -/
mutual
def arboristref08_Clique.l0 : Nat → List (List Bool) → List Int → Int → Option (Bool)
  | 0, _, _, _ => none
  | k + 1, x0, x1, x5 => if x5 < (x1.length : Int) then (if 0 ≤ x5 then (if (rd x1 x5) < 0 then (some false) else (if (rd x1 x5) ≥ (x0.length : Int) then (some false) else (arboristref08_Clique.l0 k x0 x1 (wrap64 (x5 + 1))))) else (none)) else (arboristref08_Clique.l1 k x0 x1 0)
def arboristref08_Clique.l1 : Nat → List (List Bool) → List Int → Int → Option (Bool)
  | 0, _, _, _ => none
  | k + 1, x0, x1, x6 => if x6 < (x1.length : Int) then (arboristref08_Clique.l2 k x0 x1 x6 0) else (some true)
def arboristref08_Clique.l2 : Nat → List (List Bool) → List Int → Int → Int → Option (Bool)
  | 0, _, _, _, _ => none
  | k + 1, x0, x1, x6, x7 => if x7 < (x1.length : Int) then (if 0 ≤ x6 then (if x6 < (x1.length : Int) then (if 0 ≤ x7 then (if (rd x1 x6) = (rd x1 x7) then (arboristref08_Clique.l2 k x0 x1 x6 (wrap64 (x7 + 1))) else (if 0 ≤ (rd x1 x6) then (if (rd x1 x6) < (x0.length : Int) then (if 0 ≤ (rd x1 x7) then (if (rd x1 x7) < ((rd_L8 x0 (rd x1 x6)).length : Int) then (if (rdOf false (rd_L8 x0 (rd x1 x6)) (rd x1 x7) = true) then (arboristref08_Clique.l2 k x0 x1 x6 (wrap64 (x7 + 1))) else (some false)) else (none)) else (none)) else (none)) else (none))) else (none)) else (none)) else (none)) else (arboristref08_Clique.l1 k x0 x1 (wrap64 (x6 + 1)))
end
def arboristref08_Clique.f (k : Nat) (l0 : List (List Bool)) (l1 : List Int) : Option (Bool) := arboristref08_Clique.l0 k l0 l1 0
theorem arboristref08_Clique.mono_l : ∀ k, (∀ y0 y1 y2, LeO (arboristref08_Clique.l0 k y0 y1 y2) (arboristref08_Clique.l0 (k + 1) y0 y1 y2)) ∧ (∀ y0 y1 y2, LeO (arboristref08_Clique.l1 k y0 y1 y2) (arboristref08_Clique.l1 (k + 1) y0 y1 y2)) ∧ (∀ y0 y1 y2 y3, LeO (arboristref08_Clique.l2 k y0 y1 y2 y3) (arboristref08_Clique.l2 (k + 1) y0 y1 y2 y3))
  | 0 => ⟨fun _ _ _ r h => by simp [arboristref08_Clique.l0] at h, fun _ _ _ r h => by simp [arboristref08_Clique.l1] at h, fun _ _ _ _ r h => by simp [arboristref08_Clique.l2] at h⟩
  | k + 1 => by
    obtain ⟨ih0, ih1, ih2⟩ := arboristref08_Clique.mono_l k
    refine ⟨?_, ?_, ?_⟩
    all_goals intros
    all_goals (first | unfold arboristref08_Clique.l0 | unfold arboristref08_Clique.l1 | unfold arboristref08_Clique.l2)
    all_goals repeat' first
    | (with_reducible exact ih0 _ _ _)
    | (with_reducible exact ih1 _ _ _)
    | (with_reducible exact ih2 _ _ _ _)
    | (with_reducible exact LeO.refl _)
    | (with_reducible exact LeO.none _)
    | (with_reducible refine LeO.ite ?_ ?_)
    | (with_reducible refine LeO.bind ?_ (fun _ => ?_))
    | exact ih0 _ _ _
    | exact ih1 _ _ _
    | exact ih2 _ _ _ _
    | exact LeO.none _
    | refine LeO.ite ?_ ?_
    | refine LeO.bind ?_ (fun _ => ?_)
theorem arboristref08_Clique.mono : ∀ a0 a1 k, LeO (arboristref08_Clique.f k a0 a1) (arboristref08_Clique.f (k + 1) a0 a1) := by
  intro a0 a1 k
  obtain ⟨ih0, ih1, ih2⟩ := arboristref08_Clique.mono_l k
  unfold arboristref08_Clique.f
  repeat' first
      | (with_reducible exact ih0 _ _ _)
      | (with_reducible exact ih1 _ _ _)
      | (with_reducible exact ih2 _ _ _ _)
      | (with_reducible exact LeO.refl _)
      | (with_reducible exact LeO.none _)
      | (with_reducible refine LeO.ite ?_ ?_)
      | (with_reducible refine LeO.bind ?_ (fun _ => ?_))
      | exact ih0 _ _ _
      | exact ih1 _ _ _
      | exact ih2 _ _ _ _
      | exact LeO.none _
      | refine LeO.ite ?_ ?_
      | refine LeO.bind ?_ (fun _ => ?_)
set_option maxHeartbeats 8000000 in
set_option maxRecDepth 100000 in
theorem arboristref08_Clique.calls (k : Nat) (A0 : Option Addr) (c0 : Nat) (l0 : List (List Bool)) (A1 : Option Addr) (c1 : Nat) (l1 : List Int) (r : Bool) (w : World) (hr0 : Kd.C (Kd.slice 4 Kd.bool) w A0 l0.length l0) (hc0 : l0.length ≤ c0) (hr1 : Kd.C (Kd.int .i64) w A1 l1.length l1) (hc1 : l1.length ≤ c1) (h : arboristref08_Clique.f k l0 l1 = some r) :
    Calls Tryd.prog 23 #[.slice A0 l0.length c0, .slice A1 l1.length c1] w fun e w' => e = .returned (.bool r) ∧ Drawn0 w w' := by
  have HR0 := Aside0.mk hr0
  have HC0 := Aside0.mk hc0
  clear hr0 hc0
  have HR1 := Aside0.mk hr1
  have HC1 := Aside0.mk hc1
  clear hr1 hc1
  have H : (arboristref08_Clique.l0 k l0 l1 0) = some r := h
  clear h
  have H' := Aside0.mk H
  clear H
  go_enter Tryd.func23, Tryd.ntmps23
  go_wp2
  repeat (go_quiet (fail); try go_wp2)
  go_loopg [5] k (fun kq v5 w' => ∃ (x5_1 : Int), v5 = .int .i64 x5_1 ∧ Aside0 (arboristref08_Clique.l0 kq l0 l1 x5_1 = some r) ∧ Aside0 (kq ≤ k) ∧ Drawn0 w w')
  case atStart => exact ⟨(0), (by first | rfl | (simp; done) | (simp [*]; done)), H', ⟨Nat.le_refl _⟩, by repeat (first | exact Drawn0.refl _ | apply Drawn0.step)⟩
  case round =>
    clear H'
    try clear c1
    try clear c2
    try clear p2
    obtain ⟨x5_1, rfl, HA, HK1, ⟨m1, rfl⟩⟩ := hrel
    cases gk with
    | zero => exact absurd HA.out (by simp [arboristref08_Clique.l0])
    | succ k1 =>
      have H := HA.out
      clear HA
      simp only [arboristref08_Clique.l0] at H
      by_cases c3 : x5_1 < (l1.length : Int)
      · rw [if_pos c3] at H
        have c3b0 : decide (x5_1 < (l1.length : Int)) = true := decide_eq_true c3
        clear c3
        by_cases c4 : 0 ≤ x5_1
        · rw [if_pos c4] at H
          have c4b0 : decide (0 ≤ x5_1) = true := decide_eq_true c4
          clear c4
          by_cases c5 : (rd l1 x5_1) < 0
          · rw [if_pos c5] at H
            have c5b0 : decide ((rd l1 x5_1) < 0) = true := decide_eq_true c5
            clear c5
            obtain rfl := Option.some.inj H
            have p697 : 0 ≤ (x5_1 : Int) := of_decide_eq_true (by first | (with_reducible assumption) | assumption)
            have q697 : x5_1 < (l1.length : Int) := of_decide_eq_true (by first | (with_reducible assumption) | assumption)
            obtain ⟨ad697, e697, hx697_0⟩ := Kd.at_int HR1.out x5_1 p697 q697
            cases e697
            replace p697 := eq_true p697
            replace q697 := eq_true q697
            go_wp2
            repeat (go_quiet (fail); try go_wp2)
            go_ret
            exact ⟨by first | rfl | (simp; done) | (simp [*]; done), by repeat (first | exact Drawn0.refl _ | apply Drawn0.step)⟩
          · rw [if_neg c5] at H
            have c5b0 : decide ((rd l1 x5_1) < 0) = false := decide_eq_false c5
            clear c5
            by_cases c6 : (rd l1 x5_1) ≥ (l0.length : Int)
            · rw [if_pos c6] at H
              have c6b0 : decide ((l0.length : Int) ≤ (rd l1 x5_1)) = true := decide_eq_true c6
              clear c6
              obtain rfl := Option.some.inj H
              have p697 : 0 ≤ (x5_1 : Int) := of_decide_eq_true (by first | (with_reducible assumption) | assumption)
              have q697 : x5_1 < (l1.length : Int) := of_decide_eq_true (by first | (with_reducible assumption) | assumption)
              obtain ⟨ad697, e697, hx697_0⟩ := Kd.at_int HR1.out x5_1 p697 q697
              cases e697
              replace p697 := eq_true p697
              replace q697 := eq_true q697
              have p698 : 0 ≤ (x5_1 : Int) := of_decide_eq_true (by first | (with_reducible assumption) | assumption)
              have q698 : x5_1 < (l1.length : Int) := of_decide_eq_true (by first | (with_reducible assumption) | assumption)
              obtain ⟨ad698, e698, hx698_0⟩ := Kd.at_int HR1.out x5_1 p698 q698
              obtain rfl : ad697 = ad698 := (by injection e698)
              replace p698 := eq_true p698
              replace q698 := eq_true q698
              go_wp2
              repeat (go_quiet (fail); try go_wp2)
              go_ret
              exact ⟨by first | rfl | (simp; done) | (simp [*]; done), by repeat (first | exact Drawn0.refl _ | apply Drawn0.step)⟩
            · rw [if_neg c6] at H
              have c6b0 : decide ((l0.length : Int) ≤ (rd l1 x5_1)) = false := decide_eq_false c6
              clear c6
              have H' := Aside0.mk H
              clear H
              have p697 : 0 ≤ (x5_1 : Int) := of_decide_eq_true (by first | (with_reducible assumption) | assumption)
              have q697 : x5_1 < (l1.length : Int) := of_decide_eq_true (by first | (with_reducible assumption) | assumption)
              obtain ⟨ad697, e697, hx697_0⟩ := Kd.at_int HR1.out x5_1 p697 q697
              cases e697
              replace p697 := eq_true p697
              replace q697 := eq_true q697
              have p698 : 0 ≤ (x5_1 : Int) := of_decide_eq_true (by first | (with_reducible assumption) | assumption)
              have q698 : x5_1 < (l1.length : Int) := of_decide_eq_true (by first | (with_reducible assumption) | assumption)
              obtain ⟨ad698, e698, hx698_0⟩ := Kd.at_int HR1.out x5_1 p698 q698
              obtain rfl : ad697 = ad698 := (by injection e698)
              replace p698 := eq_true p698
              replace q698 := eq_true q698
              go_wp2
              repeat (go_quiet (fail); try go_wp2)
              go_roundg k1
              case measure => have := HK1.out; omega
              case rel => exact ⟨(wrap64 (x5_1 + 1)), (by first | rfl | (simp; done) | (simp [*]; done)), H', ⟨by have := HK1.out; omega⟩, by repeat (first | exact Drawn0.refl _ | apply Drawn0.step)⟩
        · rw [if_neg c4] at H
          exact absurd H (by simp)
      · rw [if_neg c3] at H
        have c3b0 : decide (x5_1 < (l1.length : Int)) = false := decide_eq_false c3
        clear c3
        have H' := Aside0.mk H
        clear H
        go_wp2
        repeat (go_quiet (fail); try go_wp2)
        go_loopg [6] k1 (fun kq v6 w' => ∃ (x6_2 : Int), v6 = .int .i64 x6_2 ∧ Aside0 (arboristref08_Clique.l1 kq l0 l1 x6_2 = some r) ∧ Aside0 (kq ≤ k1) ∧ Drawn0 w w')
        case atStart => exact ⟨(0), (by first | rfl | (simp; done) | (simp [*]; done)), H', ⟨Nat.le_refl _⟩, by repeat (first | exact Drawn0.refl _ | apply Drawn0.step)⟩
        case round =>
          clear H'
          try clear c1
          try clear c2
          try clear p2
          try clear c3
          try clear c3b0
          try clear c4
          try clear c4b0
          try clear c5
          try clear c5b0
          try clear c6
          try clear c6b0
          try clear p6
          try clear q6
          try clear hx6
          try clear hx697_0
          try clear hx698_0
          try clear p2
          try clear p697
          try clear p698
          try clear q697
          try clear q698
          obtain ⟨x6_2, rfl, HA, HK2, ⟨m2, rfl⟩⟩ := hrel
          cases gk with
          | zero => exact absurd HA.out (by simp [arboristref08_Clique.l1])
          | succ k2 =>
            have H := HA.out
            clear HA
            simp only [arboristref08_Clique.l1] at H
            by_cases c7 : x6_2 < (l1.length : Int)
            · rw [if_pos c7] at H
              have c7b0 : decide (x6_2 < (l1.length : Int)) = true := decide_eq_true c7
              clear c7
              have H' := Aside0.mk H
              clear H
              go_wp2
              repeat (go_quiet (fail); try go_wp2)
              go_loopg [7] k2 (fun kq v7 w' => ∃ (x7_3 : Int), v7 = .int .i64 x7_3 ∧ Aside0 (arboristref08_Clique.l2 kq l0 l1 x6_2 x7_3 = some r) ∧ Aside0 (kq ≤ k2) ∧ Drawn0 w w')
              case atStart => exact ⟨(0), (by first | rfl | (simp; done) | (simp [*]; done)), H', ⟨Nat.le_refl _⟩, by repeat (first | exact Drawn0.refl _ | apply Drawn0.step)⟩
              case round =>
                clear H'
                try clear c1
                try clear c2
                try clear p2
                try clear c3
                try clear c3b0
                try clear c4
                try clear c4b0
                try clear c5
                try clear c5b0
                try clear c6
                try clear c6b0
                try clear p6
                try clear q6
                try clear hx6
                try clear c7
                try clear c7b0
                try clear hx697_0
                try clear hx698_0
                try clear p2
                try clear p6
                try clear p697
                try clear p698
                try clear q6
                try clear q697
                try clear q698
                obtain ⟨x7_3, rfl, HA, HK3, ⟨m3, rfl⟩⟩ := hrel
                cases gk with
                | zero => exact absurd HA.out (by simp [arboristref08_Clique.l2])
                | succ k3 =>
                  have H := HA.out
                  clear HA
                  simp only [arboristref08_Clique.l2] at H
                  by_cases c8 : x7_3 < (l1.length : Int)
                  · rw [if_pos c8] at H
                    have c8b0 : decide (x7_3 < (l1.length : Int)) = true := decide_eq_true c8
                    clear c8
                    by_cases c9 : 0 ≤ x6_2
                    · rw [if_pos c9] at H
                      have c9b0 : decide (0 ≤ x6_2) = true := decide_eq_true c9
                      clear c9
                      by_cases c10 : x6_2 < (l1.length : Int)
                      · rw [if_pos c10] at H
                        have c10b0 : decide (x6_2 < (l1.length : Int)) = true := decide_eq_true c10
                        clear c10
                        by_cases c11 : 0 ≤ x7_3
                        · rw [if_pos c11] at H
                          have c11b0 : decide (0 ≤ x7_3) = true := decide_eq_true c11
                          clear c11
                          by_cases c12 : (rd l1 x6_2) = (rd l1 x7_3)
                          · rw [if_pos c12] at H
                            have c12b0 : ((rd l1 x6_2) == (rd l1 x7_3)) = true := beq_iff_eq.mpr c12
                            have c12b1 : ((rd l1 x6_2) != (rd l1 x7_3)) = false := bne_eq_false_iff_eq.mpr c12
                            clear c12
                            have H' := Aside0.mk H
                            clear H
                            have p699 : 0 ≤ (x6_2 : Int) := of_decide_eq_true (by first | (with_reducible assumption) | assumption)
                            have q699 : x6_2 < (l1.length : Int) := of_decide_eq_true (by first | (with_reducible assumption) | assumption)
                            obtain ⟨ad699, e699, hx699_0⟩ := Kd.at_int HR1.out x6_2 p699 q699
                            cases e699
                            replace p699 := eq_true p699
                            replace q699 := eq_true q699
                            have p700 : 0 ≤ (x7_3 : Int) := of_decide_eq_true (by first | (with_reducible assumption) | assumption)
                            have q700 : x7_3 < (l1.length : Int) := of_decide_eq_true (by first | (with_reducible assumption) | assumption)
                            obtain ⟨ad700, e700, hx700_0⟩ := Kd.at_int HR1.out x7_3 p700 q700
                            obtain rfl : ad699 = ad700 := (by injection e700)
                            replace p700 := eq_true p700
                            replace q700 := eq_true q700
                            go_wp2
                            repeat (go_quiet (fail); try go_wp2)
                            go_roundg k3
                            case measure => have := HK1.out; have := HK2.out; have := HK3.out; omega
                            case rel => exact ⟨(wrap64 (x7_3 + 1)), (by first | rfl | (simp; done) | (simp [*]; done)), H', ⟨by have := HK1.out; have := HK2.out; have := HK3.out; omega⟩, by repeat (first | exact Drawn0.refl _ | apply Drawn0.step)⟩
                          · rw [if_neg c12] at H
                            have c12b0 : ((rd l1 x6_2) == (rd l1 x7_3)) = false := beq_eq_false_iff_ne.mpr c12
                            have c12b1 : ((rd l1 x6_2) != (rd l1 x7_3)) = true := bne_iff_ne.mpr c12
                            by_cases c13 : 0 ≤ (rd l1 x6_2)
                            · rw [if_pos c13] at H
                              have c13b0 : decide (0 ≤ (rd l1 x6_2)) = true := decide_eq_true c13
                              clear c13
                              by_cases c14 : (rd l1 x6_2) < (l0.length : Int)
                              · rw [if_pos c14] at H
                                have c14b0 : decide ((rd l1 x6_2) < (l0.length : Int)) = true := decide_eq_true c14
                                clear c14
                                by_cases c15 : 0 ≤ (rd l1 x7_3)
                                · rw [if_pos c15] at H
                                  have c15b0 : decide (0 ≤ (rd l1 x7_3)) = true := decide_eq_true c15
                                  clear c15
                                  by_cases c16 : (rd l1 x7_3) < ((rd_L8 l0 (rd l1 x6_2)).length : Int)
                                  · rw [if_pos c16] at H
                                    have c16b0 : decide ((rd l1 x7_3) < ((rd_L8 l0 (rd l1 x6_2)).length : Int)) = true := decide_eq_true c16
                                    clear c16
                                    obtain ⟨bq17, hbq17⟩ : ∃ b_ : Bool, b_ = (rdOf false (rd_L8 l0 (rd l1 x6_2)) (rd l1 x7_3)) := ⟨_, rfl⟩
                                    replace H : (if (bq17 = true) then (arboristref08_Clique.l2 k3 l0 l1 x6_2 (wrap64 (x7_3 + 1))) else (some false)) = some r := by rw [← hbq17] at H; exact H
                                    have Nbq17 := Aside0.mk hbq17
                                    clear hbq17
                                    by_cases c18 : (bq17 = true)
                                    · subst c18
                                      have H1 : (arboristref08_Clique.l2 k3 l0 l1 x6_2 (wrap64 (x7_3 + 1))) = some r := by rw [if_pos rfl] at H; exact H
                                      clear H
                                      have H := H1
                                      clear H1
                                      have H' := Aside0.mk H
                                      clear H
                                      have p699 : 0 ≤ (x6_2 : Int) := of_decide_eq_true (by first | (with_reducible assumption) | assumption)
                                      have q699 : x6_2 < (l1.length : Int) := of_decide_eq_true (by first | (with_reducible assumption) | assumption)
                                      obtain ⟨ad699, e699, hx699_0⟩ := Kd.at_int HR1.out x6_2 p699 q699
                                      cases e699
                                      replace p699 := eq_true p699
                                      replace q699 := eq_true q699
                                      have p700 : 0 ≤ (x7_3 : Int) := of_decide_eq_true (by first | (with_reducible assumption) | assumption)
                                      have q700 : x7_3 < (l1.length : Int) := of_decide_eq_true (by first | (with_reducible assumption) | assumption)
                                      obtain ⟨ad700, e700, hx700_0⟩ := Kd.at_int HR1.out x7_3 p700 q700
                                      obtain rfl : ad699 = ad700 := (by injection e700)
                                      replace p700 := eq_true p700
                                      replace q700 := eq_true q700
                                      have p701 : 0 ≤ (x6_2 : Int) := of_decide_eq_true (by first | (with_reducible assumption) | assumption)
                                      have q701 : x6_2 < (l1.length : Int) := of_decide_eq_true (by first | (with_reducible assumption) | assumption)
                                      obtain ⟨ad701, e701, hx701_0⟩ := Kd.at_int HR1.out x6_2 p701 q701
                                      obtain rfl : ad699 = ad701 := (by injection e701)
                                      replace p701 := eq_true p701
                                      replace q701 := eq_true q701
                                      have p702 : 0 ≤ ((rd l1 x6_2) : Int) := of_decide_eq_true (by first | (with_reducible assumption) | assumption)
                                      have q702 : (rd l1 x6_2) < (l0.length : Int) := of_decide_eq_true (by first | (with_reducible assumption) | assumption)
                                      obtain ⟨ad702, A702_0, c702_0, e702, hx702_0, hl702_0, hi702_0⟩ := at_L8 HR0.out (rd l1 x6_2) p702 q702
                                      cases e702
                                      have HR702_0 := Aside0.mk hi702_0
                                      have HC702_0 := Aside0.mk hl702_0
                                      clear hi702_0 hl702_0
                                      replace p702 := eq_true p702
                                      replace q702 := eq_true q702
                                      have p703 : 0 ≤ (x7_3 : Int) := of_decide_eq_true (by first | (with_reducible assumption) | assumption)
                                      have q703 : x7_3 < (l1.length : Int) := of_decide_eq_true (by first | (with_reducible assumption) | assumption)
                                      obtain ⟨ad703, e703, hx703_0⟩ := Kd.at_int HR1.out x7_3 p703 q703
                                      obtain rfl : ad699 = ad703 := (by injection e703)
                                      replace p703 := eq_true p703
                                      replace q703 := eq_true q703
                                      have p704 : 0 ≤ ((rd l1 x7_3) : Int) := of_decide_eq_true (by first | (with_reducible assumption) | assumption)
                                      have q704 : (rd l1 x7_3) < ((rd_L8 l0 (rd l1 x6_2)).length : Int) := of_decide_eq_true (by first | (with_reducible assumption) | assumption)
                                      obtain ⟨ad704, e704, hx704_0⟩ := Kd.at_bool HR702_0.out (rd l1 x7_3) p704 q704
                                      (try rw [← Nbq17.out] at hx704_0)
                                      cases e704
                                      replace p704 := eq_true p704
                                      replace q704 := eq_true q704
                                      go_wp2
                                      repeat (go_quiet (fail); try go_wp2)
                                      go_roundg k3
                                      case measure => have := HK1.out; have := HK2.out; have := HK3.out; omega
                                      case rel => exact ⟨(wrap64 (x7_3 + 1)), (by first | rfl | (simp; done) | (simp [*]; done)), H', ⟨by have := HK1.out; have := HK2.out; have := HK3.out; omega⟩, by repeat (first | exact Drawn0.refl _ | apply Drawn0.step)⟩
                                    · replace c18 := Bool.eq_false_iff.mpr c18
                                      subst c18
                                      have H1 : (some false) = some r := by rw [if_neg (show ¬ (false = true) by decide)] at H; exact H
                                      clear H
                                      have H := H1
                                      clear H1
                                      obtain rfl := Option.some.inj H
                                      have p699 : 0 ≤ (x6_2 : Int) := of_decide_eq_true (by first | (with_reducible assumption) | assumption)
                                      have q699 : x6_2 < (l1.length : Int) := of_decide_eq_true (by first | (with_reducible assumption) | assumption)
                                      obtain ⟨ad699, e699, hx699_0⟩ := Kd.at_int HR1.out x6_2 p699 q699
                                      cases e699
                                      replace p699 := eq_true p699
                                      replace q699 := eq_true q699
                                      have p700 : 0 ≤ (x7_3 : Int) := of_decide_eq_true (by first | (with_reducible assumption) | assumption)
                                      have q700 : x7_3 < (l1.length : Int) := of_decide_eq_true (by first | (with_reducible assumption) | assumption)
                                      obtain ⟨ad700, e700, hx700_0⟩ := Kd.at_int HR1.out x7_3 p700 q700
                                      obtain rfl : ad699 = ad700 := (by injection e700)
                                      replace p700 := eq_true p700
                                      replace q700 := eq_true q700
                                      have p701 : 0 ≤ (x6_2 : Int) := of_decide_eq_true (by first | (with_reducible assumption) | assumption)
                                      have q701 : x6_2 < (l1.length : Int) := of_decide_eq_true (by first | (with_reducible assumption) | assumption)
                                      obtain ⟨ad701, e701, hx701_0⟩ := Kd.at_int HR1.out x6_2 p701 q701
                                      obtain rfl : ad699 = ad701 := (by injection e701)
                                      replace p701 := eq_true p701
                                      replace q701 := eq_true q701
                                      have p702 : 0 ≤ ((rd l1 x6_2) : Int) := of_decide_eq_true (by first | (with_reducible assumption) | assumption)
                                      have q702 : (rd l1 x6_2) < (l0.length : Int) := of_decide_eq_true (by first | (with_reducible assumption) | assumption)
                                      obtain ⟨ad702, A702_0, c702_0, e702, hx702_0, hl702_0, hi702_0⟩ := at_L8 HR0.out (rd l1 x6_2) p702 q702
                                      cases e702
                                      have HR702_0 := Aside0.mk hi702_0
                                      have HC702_0 := Aside0.mk hl702_0
                                      clear hi702_0 hl702_0
                                      replace p702 := eq_true p702
                                      replace q702 := eq_true q702
                                      have p703 : 0 ≤ (x7_3 : Int) := of_decide_eq_true (by first | (with_reducible assumption) | assumption)
                                      have q703 : x7_3 < (l1.length : Int) := of_decide_eq_true (by first | (with_reducible assumption) | assumption)
                                      obtain ⟨ad703, e703, hx703_0⟩ := Kd.at_int HR1.out x7_3 p703 q703
                                      obtain rfl : ad699 = ad703 := (by injection e703)
                                      replace p703 := eq_true p703
                                      replace q703 := eq_true q703
                                      have p704 : 0 ≤ ((rd l1 x7_3) : Int) := of_decide_eq_true (by first | (with_reducible assumption) | assumption)
                                      have q704 : (rd l1 x7_3) < ((rd_L8 l0 (rd l1 x6_2)).length : Int) := of_decide_eq_true (by first | (with_reducible assumption) | assumption)
                                      obtain ⟨ad704, e704, hx704_0⟩ := Kd.at_bool HR702_0.out (rd l1 x7_3) p704 q704
                                      (try rw [← Nbq17.out] at hx704_0)
                                      cases e704
                                      replace p704 := eq_true p704
                                      replace q704 := eq_true q704
                                      go_wp2
                                      repeat (go_quiet (fail); try go_wp2)
                                      go_ret
                                      exact ⟨by first | rfl | (simp; done) | (simp [*]; done), by repeat (first | exact Drawn0.refl _ | apply Drawn0.step)⟩
                                  · rw [if_neg c16] at H
                                    exact absurd H (by simp)
                                · rw [if_neg c15] at H
                                  exact absurd H (by simp)
                              · rw [if_neg c14] at H
                                exact absurd H (by simp)
                            · rw [if_neg c13] at H
                              exact absurd H (by simp)
                        · rw [if_neg c11] at H
                          exact absurd H (by simp)
                      · rw [if_neg c10] at H
                        exact absurd H (by simp)
                    · rw [if_neg c9] at H
                      exact absurd H (by simp)
                  · rw [if_neg c8] at H
                    have c8b0 : decide (x7_3 < (l1.length : Int)) = false := decide_eq_false c8
                    clear c8
                    have H' := Aside0.mk H
                    clear H
                    go_wp2
                    repeat (go_quiet (fail); try go_wp2)
                    go_roundg k3
                    case measure => have := HK1.out; have := HK2.out; have := HK3.out; omega
                    case rel => exact ⟨(wrap64 (x6_2 + 1)), (by first | rfl | (simp; done) | (simp [*]; done)), H', ⟨by have := HK1.out; have := HK2.out; have := HK3.out; omega⟩, by repeat (first | exact Drawn0.refl _ | apply Drawn0.step)⟩
            · rw [if_neg c7] at H
              have c7b0 : decide (x6_2 < (l1.length : Int)) = false := decide_eq_false c7
              clear c7
              obtain rfl := Option.some.inj H
              go_wp2
              repeat (go_quiet (fail); try go_wp2)
              go_ret
              exact ⟨by first | rfl | (simp; done) | (simp [*]; done), by repeat (first | exact Drawn0.refl _ | apply Drawn0.step)⟩

end Go.Proofs.YtbdlelojlnhhfaaDoor.Pr
