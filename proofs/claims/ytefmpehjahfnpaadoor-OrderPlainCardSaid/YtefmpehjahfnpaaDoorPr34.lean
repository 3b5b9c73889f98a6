-- Printed by a program of this session's own (wip/tools/pp.py) over the kit's print.py; Lean checks it.
import Derived.Test.YtefmpehjahfnpaaDoorPr0
namespace Go.Proofs.YtefmpehjahfnpaaDoor.Pr
open Go.RowKit Go.Proofs.YtefmpehjahfnpaaDoorW.PrintWords Go.Proofs.YtefmpehjahfnpaaDoorW.PrintLast Go.Proofs.YtefmpehjahfnpaaDoorW.PrintMore
attribute [local go_sem] max2_int min2_int max_two min_two max_three min_three max_four min_four   -- for this text's walks alone
set_option linter.unusedVariables false
set_option linter.unusedSimpArgs false

/-! ### arboristref09_Valid: function 15 -/
mutual
def arboristref09_Valid.l0 : Nat → Int → List Int → Int → Option (Bool)
  | 0, _, _, _ => none
  | k + 1, x0, x1, x5 => if x5 < x0 then (arboristref09_Valid.l1 k x0 x1 x5 0 0) else (some true)
def arboristref09_Valid.l1 : Nat → Int → List Int → Int → Int → Int → Option (Bool)
  | 0, _, _, _, _, _ => none
  | k + 1, x0, x1, x5, x6, x7 => if x7 < x0 then (if 0 ≤ x7 then (if x7 < (x1.length : Int) then (if (rd x1 x7) = x5 then (arboristref09_Valid.l1 k x0 x1 x5 (wrap64 (x6 + 1)) (wrap64 (x7 + 1))) else (arboristref09_Valid.l1 k x0 x1 x5 x6 (wrap64 (x7 + 1)))) else (none)) else (none)) else (if x6 = 1 then (arboristref09_Valid.l0 k x0 x1 (wrap64 (x5 + 1))) else (some false))
end
def arboristref09_Valid.f (k : Nat) (a0 : Int) (l1 : List Int) : Option (Bool) := if (l1.length : Int) = a0 then (arboristref09_Valid.l0 k a0 l1 0) else (some false)
theorem arboristref09_Valid.mono_l : ∀ k, (∀ y0 y1 y2, LeO (arboristref09_Valid.l0 k y0 y1 y2) (arboristref09_Valid.l0 (k + 1) y0 y1 y2)) ∧ (∀ y0 y1 y2 y3 y4, LeO (arboristref09_Valid.l1 k y0 y1 y2 y3 y4) (arboristref09_Valid.l1 (k + 1) y0 y1 y2 y3 y4))
  | 0 => ⟨fun _ _ _ r h => by simp [arboristref09_Valid.l0] at h, fun _ _ _ _ _ r h => by simp [arboristref09_Valid.l1] at h⟩
  | k + 1 => by
    obtain ⟨ih0, ih1⟩ := arboristref09_Valid.mono_l k
    refine ⟨?_, ?_⟩
    all_goals intros
    all_goals (first | unfold arboristref09_Valid.l0 | unfold arboristref09_Valid.l1)
    all_goals repeat' first
    | (with_reducible exact ih0 _ _ _)
    | (with_reducible exact ih1 _ _ _ _ _)
    | (with_reducible exact LeO.refl _)
    | (with_reducible exact LeO.none _)
    | (with_reducible refine LeO.ite ?_ ?_)
    | (with_reducible refine LeO.bind ?_ (fun _ => ?_))
    | exact ih0 _ _ _
    | exact ih1 _ _ _ _ _
    | exact LeO.none _
    | refine LeO.ite ?_ ?_
    | refine LeO.bind ?_ (fun _ => ?_)
theorem arboristref09_Valid.mono : ∀ a0 a1 k, LeO (arboristref09_Valid.f k a0 a1) (arboristref09_Valid.f (k + 1) a0 a1) := by
  intro a0 a1 k
  obtain ⟨ih0, ih1⟩ := arboristref09_Valid.mono_l k
  unfold arboristref09_Valid.f
  repeat' first
      | (with_reducible exact ih0 _ _ _)
      | (with_reducible exact ih1 _ _ _ _ _)
      | (with_reducible exact LeO.refl _)
      | (with_reducible exact LeO.none _)
      | (with_reducible refine LeO.ite ?_ ?_)
      | (with_reducible refine LeO.bind ?_ (fun _ => ?_))
      | exact ih0 _ _ _
      | exact ih1 _ _ _ _ _
      | exact LeO.none _
      | refine LeO.ite ?_ ?_
      | refine LeO.bind ?_ (fun _ => ?_)
set_option maxHeartbeats 8000000 in
set_option maxRecDepth 100000 in
theorem arboristref09_Valid.calls (k : Nat) (a0 : Int) (A1 : Option Addr) (c1 : Nat) (l1 : List Int) (r : Bool) (w : World) (hr1 : Kd.C (Kd.int .i64) w A1 l1.length l1) (hc1 : l1.length ≤ c1) (h : arboristref09_Valid.f k a0 l1 = some r) :
    Calls Tryd.prog 15 #[.int .i64 a0, .slice A1 l1.length c1] w fun e w' => e = .returned (.bool r) ∧ Drawn0 w w' := by
  have HR1 := Aside0.mk hr1
  have HC1 := Aside0.mk hc1
  clear hr1 hc1
  have H : (if (l1.length : Int) = a0 then (arboristref09_Valid.l0 k a0 l1 0) else (some false)) = some r := h
  clear h
  by_cases c3 : (l1.length : Int) = a0
  · rw [if_pos c3] at H
    have c3b0 : ((l1.length : Int) == a0) = true := beq_iff_eq.mpr c3
    have c3b1 : ((l1.length : Int) != a0) = false := bne_eq_false_iff_eq.mpr c3
    clear c3
    have H' := Aside0.mk H
    clear H
    go_enter Tryd.func15, Tryd.ntmps15
    go_wp2
    go_loopg [5] k (fun kq v5 w' => ∃ (x5_1 : Int), v5 = .int .i64 x5_1 ∧ Aside0 (arboristref09_Valid.l0 kq a0 l1 x5_1 = some r) ∧ Aside0 (kq ≤ k) ∧ Drawn0 w w')
    case atStart => exact ⟨(0), (by first | rfl | (simp; done) | (simp [*]; done)), H', ⟨Nat.le_refl _⟩, by repeat (first | exact Drawn0.refl _ | apply Drawn0.step)⟩
    case round =>
      clear H'
      try clear c1
      try clear p2
      try clear c3
      try clear c3b0
      try clear c3b1
      obtain ⟨x5_1, rfl, HA, HK1, ⟨m1, rfl⟩⟩ := hrel
      cases gk with
      | zero => exact absurd HA.out (by simp [arboristref09_Valid.l0])
      | succ k1 =>
        have H := HA.out
        clear HA
        simp only [arboristref09_Valid.l0] at H
        by_cases c4 : x5_1 < a0
        · rw [if_pos c4] at H
          have c4b0 : decide (x5_1 < a0) = true := decide_eq_true c4
          clear c4
          have H' := Aside0.mk H
          clear H
          go_wp2
          go_loopg [6, 7] k1 (fun kq v6 v7 w' => ∃ (x6_2 : Int) (x7_2 : Int), v6 = .int .i64 x6_2 ∧ v7 = .int .i64 x7_2 ∧ Aside0 (arboristref09_Valid.l1 kq a0 l1 x5_1 x6_2 x7_2 = some r) ∧ Aside0 (kq ≤ k1) ∧ Drawn0 w w')
          case atStart => exact ⟨(0), (0), (by first | rfl | (simp; done) | (simp [*]; done)), (by first | rfl | (simp; done) | (simp [*]; done)), H', ⟨Nat.le_refl _⟩, by repeat (first | exact Drawn0.refl _ | apply Drawn0.step)⟩
          case round =>
            clear H'
            try clear c1
            try clear p2
            try clear c3
            try clear c3b0
            try clear c3b1
            try clear c4
            try clear c4b0
            try clear p2
            obtain ⟨x6_2, x7_2, rfl, rfl, HA, HK2, ⟨m2, rfl⟩⟩ := hrel
            cases gk with
            | zero => exact absurd HA.out (by simp [arboristref09_Valid.l1])
            | succ k2 =>
              have H := HA.out
              clear HA
              simp only [arboristref09_Valid.l1] at H
              by_cases c5 : x7_2 < a0
              · rw [if_pos c5] at H
                have c5b0 : decide (x7_2 < a0) = true := decide_eq_true c5
                clear c5
                by_cases c6 : 0 ≤ x7_2
                · rw [if_pos c6] at H
                  have c6b0 : decide (0 ≤ x7_2) = true := decide_eq_true c6
                  clear c6
                  by_cases c7 : x7_2 < (l1.length : Int)
                  · rw [if_pos c7] at H
                    have c7b0 : decide (x7_2 < (l1.length : Int)) = true := decide_eq_true c7
                    clear c7
                    by_cases c8 : (rd l1 x7_2) = x5_1
                    · rw [if_pos c8] at H
                      have c8b0 : ((rd l1 x7_2) == x5_1) = true := beq_iff_eq.mpr c8
                      have c8b1 : ((rd l1 x7_2) != x5_1) = false := bne_eq_false_iff_eq.mpr c8
                      clear c8
                      have H' := Aside0.mk H
                      clear H
                      have p405 : 0 ≤ (x7_2 : Int) := of_decide_eq_true (by first | (with_reducible assumption) | assumption)
                      have q405 : x7_2 < (l1.length : Int) := of_decide_eq_true (by first | (with_reducible assumption) | assumption)
                      obtain ⟨ad405, e405, hx405_0⟩ := Kd.at_int HR1.out x7_2 p405 q405
                      cases e405
                      replace p405 := eq_true p405
                      replace q405 := eq_true q405
                      go_wp2
                      go_roundg k2
                      case measure => have := HK1.out; have := HK2.out; omega
                      case rel => exact ⟨(wrap64 (x6_2 + 1)), (wrap64 (x7_2 + 1)), (by first | rfl | (simp; done) | (simp [*]; done)), (by first | rfl | (simp; done) | (simp [*]; done)), H', ⟨by have := HK1.out; have := HK2.out; omega⟩, by repeat (first | exact Drawn0.refl _ | apply Drawn0.step)⟩
                    · rw [if_neg c8] at H
                      have c8b0 : ((rd l1 x7_2) == x5_1) = false := beq_eq_false_iff_ne.mpr c8
                      have c8b1 : ((rd l1 x7_2) != x5_1) = true := bne_iff_ne.mpr c8
                      have H' := Aside0.mk H
                      clear H
                      have p405 : 0 ≤ (x7_2 : Int) := of_decide_eq_true (by first | (with_reducible assumption) | assumption)
                      have q405 : x7_2 < (l1.length : Int) := of_decide_eq_true (by first | (with_reducible assumption) | assumption)
                      obtain ⟨ad405, e405, hx405_0⟩ := Kd.at_int HR1.out x7_2 p405 q405
                      cases e405
                      replace p405 := eq_true p405
                      replace q405 := eq_true q405
                      go_wp2
                      go_roundg k2
                      case measure => have := HK1.out; have := HK2.out; omega
                      case rel => exact ⟨(x6_2), (wrap64 (x7_2 + 1)), (by first | rfl | (simp; done) | (simp [*]; done)), (by first | rfl | (simp; done) | (simp [*]; done)), H', ⟨by have := HK1.out; have := HK2.out; omega⟩, by repeat (first | exact Drawn0.refl _ | apply Drawn0.step)⟩
                  · rw [if_neg c7] at H
                    exact absurd H (by simp)
                · rw [if_neg c6] at H
                  exact absurd H (by simp)
              · rw [if_neg c5] at H
                have c5b0 : decide (x7_2 < a0) = false := decide_eq_false c5
                clear c5
                by_cases c9 : x6_2 = 1
                · rw [if_pos c9] at H
                  have c9b0 : (x6_2 == 1) = true := beq_iff_eq.mpr c9
                  have c9b1 : (x6_2 != 1) = false := bne_eq_false_iff_eq.mpr c9
                  clear c9
                  have H' := Aside0.mk H
                  clear H
                  go_wp2
                  go_roundg k2
                  case measure => have := HK1.out; have := HK2.out; omega
                  case rel => exact ⟨(wrap64 (x5_1 + 1)), (by first | rfl | (simp; done) | (simp [*]; done)), H', ⟨by have := HK1.out; have := HK2.out; omega⟩, by repeat (first | exact Drawn0.refl _ | apply Drawn0.step)⟩
                · rw [if_neg c9] at H
                  have c9b0 : (x6_2 == 1) = false := beq_eq_false_iff_ne.mpr c9
                  have c9b1 : (x6_2 != 1) = true := bne_iff_ne.mpr c9
                  obtain rfl := Option.some.inj H
                  go_wp2
                  go_ret
                  exact ⟨by first | rfl | (simp; done) | (simp [*]; done), by repeat (first | exact Drawn0.refl _ | apply Drawn0.step)⟩
        · rw [if_neg c4] at H
          have c4b0 : decide (x5_1 < a0) = false := decide_eq_false c4
          clear c4
          obtain rfl := Option.some.inj H
          go_wp2
          go_ret
          exact ⟨by first | rfl | (simp; done) | (simp [*]; done), by repeat (first | exact Drawn0.refl _ | apply Drawn0.step)⟩
  · rw [if_neg c3] at H
    have c3b0 : ((l1.length : Int) == a0) = false := beq_eq_false_iff_ne.mpr c3
    have c3b1 : ((l1.length : Int) != a0) = true := bne_iff_ne.mpr c3
    obtain rfl := Option.some.inj H
    go_enter Tryd.func15, Tryd.ntmps15
    go_wp2
    go_ret
    exact ⟨by first | rfl | (simp; done) | (simp [*]; done), by repeat (first | exact Drawn0.refl _ | apply Drawn0.step)⟩

end Go.Proofs.YtefmpehjahfnpaaDoor.Pr
