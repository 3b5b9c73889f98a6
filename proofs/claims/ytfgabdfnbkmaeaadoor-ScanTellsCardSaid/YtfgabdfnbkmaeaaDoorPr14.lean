-- Printed by a program of this session's own (wip/tools/pp.py) over the kit's print.py; Lean checks it.
import Derived.Test.YtfgabdfnbkmaeaaDoorPr0
import Derived.Test.YtfgabdfnbkmaeaaDoorPr13
namespace Go.Proofs.YtfgabdfnbkmaeaaDoor.Pr
open Go.RowKit Go.Proofs.YtfgabdfnbkmaeaaDoorW.PrintWords Go.Proofs.YtfgabdfnbkmaeaaDoorW.PrintLast Go.Proofs.YtfgabdfnbkmaeaaDoorW.PrintMore
attribute [local go_sem] max2_int min2_int max_two min_two max_three min_three max_four min_four   -- for this text's walks alone
set_option linter.unusedVariables false
set_option linter.unusedSimpArgs false

/-! ### arboristref05_number: function 18 -/
mutual
def arboristref05_number.j0 : Nat → ByteArray → Int → Bool → Option (Int × Int × Int)
  | 0, _, _, _ => none
  | k + 1, x0, x7, x8 => arboristref05_number.l0 k x0 x7 x8 x7 0 false
def arboristref05_number.l0 : Nat → ByteArray → Int → Bool → Int → Int → Bool → Option (Int × Int × Int)
  | 0, _, _, _, _, _, _ => none
  | k + 1, x0, x7, x8, x9, x10, x11 => (arboristref05_digit.f x0 x7).bind fun t157 => (if t157 = true then (if x10 ≤ 1000000000000 then (if 0 ≤ x7 then (if x7 < (x0.size : Int) then (if x11 = true then (arboristref05_number.l0 k x0 (wrap64 (x7 + 1)) x8 x9 (wrap64 ((wrap64 (x10 * 10)) + (((bt x0 x7) - 48) % 256))) true) else (arboristref05_number.l0 k x0 (wrap64 (x7 + 1)) x8 x9 (wrap64 ((wrap64 (x10 * 10)) + (((bt x0 x7) - 48) % 256))) (decide ((wrap64 ((wrap64 (x10 * 10)) + (((bt x0 x7) - 48) % 256))) > 1000000000000)))) else (none)) else (none)) else (if x11 = true then (arboristref05_number.l0 k x0 (wrap64 (x7 + 1)) x8 x9 x10 true) else (arboristref05_number.l0 k x0 (wrap64 (x7 + 1)) x8 x9 x10 (decide (x10 > 1000000000000))))) else (if x7 = x9 then (arboristref05_number.j2 k x7 x8 x10 x11 true) else (if 0 ≤ x9 then (if x9 < (x0.size : Int) then (if (bt x0 x9) = 48 then (if x7 > (wrap64 (x9 + 1)) then (arboristref05_number.j2 k x7 x8 x10 x11 true) else (arboristref05_number.j2 k x7 x8 x10 x11 x8)) else (arboristref05_number.j2 k x7 x8 x10 x11 false)) else (none)) else (none))))
def arboristref05_number.j2 : Nat → Int → Bool → Int → Bool → Bool → Option (Int × Int × Int)
  | 0, _, _, _, _, _ => none
  | k + 1, x7, x8, x10, x11, x61 => if x61 = true then (some (0, x7, 2)) else (if x11 = true then (some (0, x7, 4)) else (if x8 = true then (some (wrap64 (-x10), x7, 0)) else (some (x10, x7, 0))))
end
def arboristref05_number.f (k : Nat) (a0 : ByteArray) (a1 : Int) : Option (Int × Int × Int) := if 0 ≤ a1 then (if a1 < (a0.size : Int) then (if (bt a0 a1) = 45 then (arboristref05_number.j0 k a0 (wrap64 (a1 + 1)) ((bt a0 a1) == 45)) else (arboristref05_number.j0 k a0 a1 ((bt a0 a1) == 45))) else (none)) else (none)
theorem arboristref05_number.mono_l : ∀ k, (∀ y0 y1 y2, LeO (arboristref05_number.j0 k y0 y1 y2) (arboristref05_number.j0 (k + 1) y0 y1 y2)) ∧ (∀ y0 y1 y2 y3 y4 y5, LeO (arboristref05_number.l0 k y0 y1 y2 y3 y4 y5) (arboristref05_number.l0 (k + 1) y0 y1 y2 y3 y4 y5)) ∧ (∀ y0 y1 y2 y3 y4, LeO (arboristref05_number.j2 k y0 y1 y2 y3 y4) (arboristref05_number.j2 (k + 1) y0 y1 y2 y3 y4))
  | 0 => ⟨fun _ _ _ r h => by simp [arboristref05_number.j0] at h, fun _ _ _ _ _ _ r h => by simp [arboristref05_number.l0] at h, fun _ _ _ _ _ r h => by simp [arboristref05_number.j2] at h⟩
  | k + 1 => by
    obtain ⟨ih0, ih1, ih2⟩ := arboristref05_number.mono_l k
    refine ⟨?_, ?_, ?_⟩
    all_goals intros
    all_goals (first | unfold arboristref05_number.j0 | unfold arboristref05_number.l0 | unfold arboristref05_number.j2)
    all_goals repeat' first
    | (with_reducible exact ih0 _ _ _)
    | (with_reducible exact ih1 _ _ _ _ _ _)
    | (with_reducible exact ih2 _ _ _ _ _)
    | (with_reducible exact LeO.refl _)
    | (with_reducible exact LeO.none _)
    | (with_reducible refine LeO.ite ?_ ?_)
    | (with_reducible refine LeO.bind ?_ (fun _ => ?_))
    | exact ih0 _ _ _
    | exact ih1 _ _ _ _ _ _
    | exact ih2 _ _ _ _ _
    | exact LeO.none _
    | refine LeO.ite ?_ ?_
    | refine LeO.bind ?_ (fun _ => ?_)
theorem arboristref05_number.mono : ∀ a0 a1 k, LeO (arboristref05_number.f k a0 a1) (arboristref05_number.f (k + 1) a0 a1) := by
  intro a0 a1 k
  obtain ⟨ih0, ih1, ih2⟩ := arboristref05_number.mono_l k
  unfold arboristref05_number.f
  repeat' first
      | (with_reducible exact ih0 _ _ _)
      | (with_reducible exact ih1 _ _ _ _ _ _)
      | (with_reducible exact ih2 _ _ _ _ _)
      | (with_reducible exact LeO.refl _)
      | (with_reducible exact LeO.none _)
      | (with_reducible refine LeO.ite ?_ ?_)
      | (with_reducible refine LeO.bind ?_ (fun _ => ?_))
      | exact ih0 _ _ _
      | exact ih1 _ _ _ _ _ _
      | exact ih2 _ _ _ _ _
      | exact LeO.none _
      | refine LeO.ite ?_ ?_
      | refine LeO.bind ?_ (fun _ => ?_)
set_option maxHeartbeats 8000000 in
set_option maxRecDepth 100000 in
theorem arboristref05_number.calls (k : Nat) (a0 : ByteArray) (a1 : Int) (r1 : Int) (r2 : Int) (r3 : Int) (w : World) (h : arboristref05_number.f k a0 a1 = some (r1, r2, r3)) :
    Calls Tryd.prog 18 #[.string a0, .int .i64 a1] w fun e w' => e = .returned (.tuple #[.int .i64 r1, .int .i64 r2, .int .i64 r3]) ∧ Drawn0 w w' := by
  have H : (if 0 ≤ a1 then (if a1 < (a0.size : Int) then (if (bt a0 a1) = 45 then (arboristref05_number.j0 k a0 (wrap64 (a1 + 1)) ((bt a0 a1) == 45)) else (arboristref05_number.j0 k a0 a1 ((bt a0 a1) == 45))) else (none)) else (none)) = some (r1, r2, r3) := h
  clear h
  by_cases c3 : 0 ≤ a1
  · rw [if_pos c3] at H
    have c3b0 : decide (0 ≤ a1) = true := decide_eq_true c3
    clear c3
    by_cases c4 : a1 < (a0.size : Int)
    · rw [if_pos c4] at H
      have c4b0 : decide (a1 < (a0.size : Int)) = true := decide_eq_true c4
      clear c4
      have HC6 := Aside0.mk H
      clear H
      have p5 : 0 ≤ (a1 : Int) := of_decide_eq_true (by first | (with_reducible assumption) | assumption)
      have q5 : a1 < (a0.size : Int) := of_decide_eq_true (by first | (with_reducible assumption) | assumption)
      have hx5 := bt_at a0 a1
      replace p5 := eq_true p5
      replace q5 := eq_true q5
      go_enter Tryd.func18, Tryd.ntmps18
      go_upto_if 18 with (fail)
      go_cut [7, 8] (fun v7 v8 wc => ∃ (kq : Nat) (x7_5 : Int), v7 = .int .i64 x7_5 ∧ v8 = .bool ((bt a0 a1) == 45) ∧ Aside0 (arboristref05_number.j0 kq a0 x7_5 ((bt a0 a1) == 45) = some (r1, r2, r3)) ∧ Aside0 (kq ≤ k) ∧ Drawn0 w wc)
      case first =>
        have H := HC6.out
        clear HC6
        by_cases c7 : (bt a0 a1) = 45
        · rw [if_pos c7] at H
          have c7b0 : ((bt a0 a1) == 45) = true := beq_iff_eq.mpr c7
          have c7b1 : ((bt a0 a1) != 45) = false := bne_eq_false_iff_eq.mpr c7
          clear c7
          (first | rw [c7b0] | (simp only [i64_w, i32_w]; rw [c7b0]) | skip)
          have H' := Aside0.mk H
          clear H
          go_wp2
          go_meet
          case rel => exact ⟨_, (wrap64 (a1 + 1)), (by first | rfl | (simp; done) | (simp [*]; done)), (by first | rfl | rw [c7b0]), H', ⟨by first | omega | exact Nat.le_refl _⟩, by repeat (first | exact Drawn0.refl _ | apply Drawn0.step)⟩
        · rw [if_neg c7] at H
          have c7b0 : ((bt a0 a1) == 45) = false := beq_eq_false_iff_ne.mpr c7
          have c7b1 : ((bt a0 a1) != 45) = true := bne_iff_ne.mpr c7
          (first | rw [c7b0] | (simp only [i64_w, i32_w]; rw [c7b0]) | skip)
          have H' := Aside0.mk H
          clear H
          go_wp2
          go_meet
          case rel => exact ⟨_, (a1), (by first | rfl | (simp; done) | (simp [*]; done)), (by first | rfl | rw [c7b0]), H', ⟨by first | omega | exact Nat.le_refl _⟩, by repeat (first | exact Drawn0.refl _ | apply Drawn0.step)⟩
      case rest =>
        clear HC6
        try clear c1
        try clear p2
        try clear c3
        try clear c3b0
        try clear c4
        try clear c4b0
        try clear p5
        try clear q5
        try clear hx5
        try clear p6
        try clear c7
        try clear c7b0
        try clear c7b1
        try clear p5
        try clear q5
        obtain ⟨kq, x7_5, rfl, rfl, HA, HJ5, ⟨mc5, rfl⟩⟩ := hcut
        cases kq with
        | zero => exact absurd HA.out (by simp [arboristref05_number.j0])
        | succ kj5 =>
          have H := HA.out
          clear HA
          simp only [arboristref05_number.j0] at H
          have H' := Aside0.mk H
          clear H
          go_wp2
          go_loopg [7, 10, 11] kj5 (fun kq v7 v10 v11 w' => ∃ (x7_2 : Int) (x10_2 : Int) (x11_2 : Bool), v7 = .int .i64 x7_2 ∧ v10 = .int .i64 x10_2 ∧ v11 = .bool x11_2 ∧ Aside0 (arboristref05_number.l0 kq a0 x7_2 ((bt a0 a1) == 45) x7_5 x10_2 x11_2 = some (r1, r2, r3)) ∧ Aside0 (kq ≤ kj5) ∧ Drawn0 w w')
          case atStart => exact ⟨(x7_5), (0), (false), (by first | rfl | (simp; done) | (simp [*]; done)), (by first | rfl | (simp; done) | (simp [*]; done)), (by first | rfl | (simp; done) | (simp [*]; done)), H', ⟨Nat.le_refl _⟩, by repeat (first | exact Drawn0.refl _ | apply Drawn0.step)⟩
          case round =>
            clear H'
            try clear c1
            try clear p2
            try clear c3
            try clear c3b0
            try clear c4
            try clear c4b0
            try clear c5
            try clear p5
            try clear q5
            try clear hx5
            try clear p6
            try clear c7
            try clear c7b0
            try clear c7b1
            try clear p2
            try clear p5
            try clear p6
            try clear q5
            obtain ⟨x7_2, x10_2, x11_2, rfl, rfl, rfl, HA, HK2, ⟨m2, rfl⟩⟩ := hrel
            cases gk with
            | zero => exact absurd HA.out (by simp [arboristref05_number.l0])
            | succ k2 =>
              have H := HA.out
              clear HA
              simp only [arboristref05_number.l0] at H
              replace H := Option.bind_eq_some_iff.mp H
              obtain ⟨t157, A80, H⟩ := H
              replace H : (if t157 = true then (if x10_2 ≤ 1000000000000 then (if 0 ≤ x7_2 then (if x7_2 < (a0.size : Int) then (if x11_2 = true then (arboristref05_number.l0 k2 a0 (wrap64 (x7_2 + 1)) ((bt a0 a1) == 45) x7_5 (wrap64 ((wrap64 (x10_2 * 10)) + (((bt a0 x7_2) - 48) % 256))) true) else (arboristref05_number.l0 k2 a0 (wrap64 (x7_2 + 1)) ((bt a0 a1) == 45) x7_5 (wrap64 ((wrap64 (x10_2 * 10)) + (((bt a0 x7_2) - 48) % 256))) (decide ((wrap64 ((wrap64 (x10_2 * 10)) + (((bt a0 x7_2) - 48) % 256))) > 1000000000000)))) else (none)) else (none)) else (if x11_2 = true then (arboristref05_number.l0 k2 a0 (wrap64 (x7_2 + 1)) ((bt a0 a1) == 45) x7_5 x10_2 true) else (arboristref05_number.l0 k2 a0 (wrap64 (x7_2 + 1)) ((bt a0 a1) == 45) x7_5 x10_2 (decide (x10_2 > 1000000000000))))) else (if x7_2 = x7_5 then (arboristref05_number.j2 k2 x7_2 ((bt a0 a1) == 45) x10_2 x11_2 true) else (if 0 ≤ x7_5 then (if x7_5 < (a0.size : Int) then (if (bt a0 x7_5) = 48 then (if x7_2 > (wrap64 (x7_5 + 1)) then (arboristref05_number.j2 k2 x7_2 ((bt a0 a1) == 45) x10_2 x11_2 true) else (arboristref05_number.j2 k2 x7_2 ((bt a0 a1) == 45) x10_2 x11_2 ((bt a0 a1) == 45))) else (arboristref05_number.j2 k2 x7_2 ((bt a0 a1) == 45) x10_2 x11_2 false)) else (none)) else (none)))) = some (r1, r2, r3) := H
              have A8 := Aside0.mk A80
              clear A80
              by_cases c9 : t157 = true
              · subst c9
                have H1 : (if x10_2 ≤ 1000000000000 then (if 0 ≤ x7_2 then (if x7_2 < (a0.size : Int) then (if x11_2 = true then (arboristref05_number.l0 k2 a0 (wrap64 (x7_2 + 1)) ((bt a0 a1) == 45) x7_5 (wrap64 ((wrap64 (x10_2 * 10)) + (((bt a0 x7_2) - 48) % 256))) true) else (arboristref05_number.l0 k2 a0 (wrap64 (x7_2 + 1)) ((bt a0 a1) == 45) x7_5 (wrap64 ((wrap64 (x10_2 * 10)) + (((bt a0 x7_2) - 48) % 256))) (decide ((wrap64 ((wrap64 (x10_2 * 10)) + (((bt a0 x7_2) - 48) % 256))) > 1000000000000)))) else (none)) else (none)) else (if x11_2 = true then (arboristref05_number.l0 k2 a0 (wrap64 (x7_2 + 1)) ((bt a0 a1) == 45) x7_5 x10_2 true) else (arboristref05_number.l0 k2 a0 (wrap64 (x7_2 + 1)) ((bt a0 a1) == 45) x7_5 x10_2 (decide (x10_2 > 1000000000000))))) = some (r1, r2, r3) := by rw [if_pos rfl] at H; exact H
                clear H
                have H := H1
                clear H1
                by_cases c10 : x10_2 ≤ 1000000000000
                · rw [if_pos c10] at H
                  have c10b0 : decide (x10_2 ≤ 1000000000000) = true := decide_eq_true c10
                  clear c10
                  by_cases c11 : 0 ≤ x7_2
                  · rw [if_pos c11] at H
                    have c11b0 : decide (0 ≤ x7_2) = true := decide_eq_true c11
                    clear c11
                    by_cases c12 : x7_2 < (a0.size : Int)
                    · rw [if_pos c12] at H
                      have c12b0 : decide (x7_2 < (a0.size : Int)) = true := decide_eq_true c12
                      clear c12
                      by_cases c14 : x11_2 = true
                      · subst c14
                        have H1 : (arboristref05_number.l0 k2 a0 (wrap64 (x7_2 + 1)) ((bt a0 a1) == 45) x7_5 (wrap64 ((wrap64 (x10_2 * 10)) + (((bt a0 x7_2) - 48) % 256))) true) = some (r1, r2, r3) := by rw [if_pos rfl] at H; exact H
                        clear H
                        have H := H1
                        clear H1
                        have H' := Aside0.mk H
                        clear H
                        go_wp2_with (first | ((with_reducible refine gate_callee (f := 17) rfl ?_); refine goesL_ (some 24) rfl rfl Tryd.func17 (by kernel_rfl) rfl #[.string a0, .int .i64 x7_2] rfl (by (try simp only [List.map_toArray, List.map_cons, List.map_nil]); first | done | rfl | (simp only [List.length_drop, List.length_take]; rfl)) ?_; (with_reducible refine (arboristref05_digit.calls a0 x7_2 true _ A8.out).mono ?_); rintro e w' ⟨rfl, ⟨nd, rfl⟩⟩; refine ⟨_, rfl, ?_⟩; have p13 : 0 ≤ (x7_2 : Int) := of_decide_eq_true (by first | (with_reducible assumption) | assumption); have q13 : x7_2 < (a0.size : Int) := of_decide_eq_true (by first | (with_reducible assumption) | assumption); have hx13 := bt_at a0 x7_2; replace p13 := eq_true p13; replace q13 := eq_true q13))
                        go_roundg k2
                        case measure => have := HJ5.out; have := HK2.out; omega
                        case rel => exact ⟨(wrap64 (x7_2 + 1)), (wrap64 ((wrap64 (x10_2 * 10)) + (((bt a0 x7_2) - 48) % 256))), (true), (by first | rfl | (simp; done) | (simp [*]; done)), (by first | rfl | (simp; done) | (simp [*]; done)), (by first | rfl | (simp; done) | (simp [*]; done)), H', ⟨by have := HJ5.out; have := HK2.out; omega⟩, by repeat (first | exact Drawn0.refl _ | apply Drawn0.step)⟩
                      · replace c14 := Bool.eq_false_iff.mpr c14
                        subst c14
                        have H1 : (arboristref05_number.l0 k2 a0 (wrap64 (x7_2 + 1)) ((bt a0 a1) == 45) x7_5 (wrap64 ((wrap64 (x10_2 * 10)) + (((bt a0 x7_2) - 48) % 256))) (decide ((wrap64 ((wrap64 (x10_2 * 10)) + (((bt a0 x7_2) - 48) % 256))) > 1000000000000))) = some (r1, r2, r3) := by rw [if_neg (show ¬ (false = true) by decide)] at H; exact H
                        clear H
                        have H := H1
                        clear H1
                        have H' := Aside0.mk H
                        clear H
                        go_wp2_with (first | ((with_reducible refine gate_callee (f := 17) rfl ?_); refine goesL_ (some 24) rfl rfl Tryd.func17 (by kernel_rfl) rfl #[.string a0, .int .i64 x7_2] rfl (by (try simp only [List.map_toArray, List.map_cons, List.map_nil]); first | done | rfl | (simp only [List.length_drop, List.length_take]; rfl)) ?_; (with_reducible refine (arboristref05_digit.calls a0 x7_2 true _ A8.out).mono ?_); rintro e w' ⟨rfl, ⟨nd, rfl⟩⟩; refine ⟨_, rfl, ?_⟩; have p13 : 0 ≤ (x7_2 : Int) := of_decide_eq_true (by first | (with_reducible assumption) | assumption); have q13 : x7_2 < (a0.size : Int) := of_decide_eq_true (by first | (with_reducible assumption) | assumption); have hx13 := bt_at a0 x7_2; replace p13 := eq_true p13; replace q13 := eq_true q13))
                        go_roundg k2
                        case measure => have := HJ5.out; have := HK2.out; omega
                        case rel => exact ⟨(wrap64 (x7_2 + 1)), (wrap64 ((wrap64 (x10_2 * 10)) + (((bt a0 x7_2) - 48) % 256))), (decide ((wrap64 ((wrap64 (x10_2 * 10)) + (((bt a0 x7_2) - 48) % 256))) > 1000000000000)), (by first | rfl | (simp; done) | (simp [*]; done)), (by first | rfl | (simp; done) | (simp [*]; done)), (by first | rfl | (simp; done) | (simp [*]; done)), H', ⟨by have := HJ5.out; have := HK2.out; omega⟩, by repeat (first | exact Drawn0.refl _ | apply Drawn0.step)⟩
                    · rw [if_neg c12] at H
                      exact absurd H (by simp)
                  · rw [if_neg c11] at H
                    exact absurd H (by simp)
                · rw [if_neg c10] at H
                  have c10b0 : decide (x10_2 ≤ 1000000000000) = false := decide_eq_false c10
                  clear c10
                  by_cases c15 : x11_2 = true
                  · subst c15
                    have H1 : (arboristref05_number.l0 k2 a0 (wrap64 (x7_2 + 1)) ((bt a0 a1) == 45) x7_5 x10_2 true) = some (r1, r2, r3) := by rw [if_pos rfl] at H; exact H
                    clear H
                    have H := H1
                    clear H1
                    have H' := Aside0.mk H
                    clear H
                    go_wp2_with (first | ((with_reducible refine gate_callee (f := 17) rfl ?_); refine goesL_ (some 24) rfl rfl Tryd.func17 (by kernel_rfl) rfl #[.string a0, .int .i64 x7_2] rfl (by (try simp only [List.map_toArray, List.map_cons, List.map_nil]); first | done | rfl | (simp only [List.length_drop, List.length_take]; rfl)) ?_; (with_reducible refine (arboristref05_digit.calls a0 x7_2 true _ A8.out).mono ?_); rintro e w' ⟨rfl, ⟨nd, rfl⟩⟩; refine ⟨_, rfl, ?_⟩))
                    go_roundg k2
                    case measure => have := HJ5.out; have := HK2.out; omega
                    case rel => exact ⟨(wrap64 (x7_2 + 1)), (x10_2), (true), (by first | rfl | (simp; done) | (simp [*]; done)), (by first | rfl | (simp; done) | (simp [*]; done)), (by first | rfl | (simp; done) | (simp [*]; done)), H', ⟨by have := HJ5.out; have := HK2.out; omega⟩, by repeat (first | exact Drawn0.refl _ | apply Drawn0.step)⟩
                  · replace c15 := Bool.eq_false_iff.mpr c15
                    subst c15
                    have H1 : (arboristref05_number.l0 k2 a0 (wrap64 (x7_2 + 1)) ((bt a0 a1) == 45) x7_5 x10_2 (decide (x10_2 > 1000000000000))) = some (r1, r2, r3) := by rw [if_neg (show ¬ (false = true) by decide)] at H; exact H
                    clear H
                    have H := H1
                    clear H1
                    have H' := Aside0.mk H
                    clear H
                    go_wp2_with (first | ((with_reducible refine gate_callee (f := 17) rfl ?_); refine goesL_ (some 24) rfl rfl Tryd.func17 (by kernel_rfl) rfl #[.string a0, .int .i64 x7_2] rfl (by (try simp only [List.map_toArray, List.map_cons, List.map_nil]); first | done | rfl | (simp only [List.length_drop, List.length_take]; rfl)) ?_; (with_reducible refine (arboristref05_digit.calls a0 x7_2 true _ A8.out).mono ?_); rintro e w' ⟨rfl, ⟨nd, rfl⟩⟩; refine ⟨_, rfl, ?_⟩))
                    go_roundg k2
                    case measure => have := HJ5.out; have := HK2.out; omega
                    case rel => exact ⟨(wrap64 (x7_2 + 1)), (x10_2), (decide (x10_2 > 1000000000000)), (by first | rfl | (simp; done) | (simp [*]; done)), (by first | rfl | (simp; done) | (simp [*]; done)), (by first | rfl | (simp; done) | (simp [*]; done)), H', ⟨by have := HJ5.out; have := HK2.out; omega⟩, by repeat (first | exact Drawn0.refl _ | apply Drawn0.step)⟩
              · replace c9 := Bool.eq_false_iff.mpr c9
                subst c9
                have H1 : (if x7_2 = x7_5 then (arboristref05_number.j2 k2 x7_2 ((bt a0 a1) == 45) x10_2 x11_2 true) else (if 0 ≤ x7_5 then (if x7_5 < (a0.size : Int) then (if (bt a0 x7_5) = 48 then (if x7_2 > (wrap64 (x7_5 + 1)) then (arboristref05_number.j2 k2 x7_2 ((bt a0 a1) == 45) x10_2 x11_2 true) else (arboristref05_number.j2 k2 x7_2 ((bt a0 a1) == 45) x10_2 x11_2 ((bt a0 a1) == 45))) else (arboristref05_number.j2 k2 x7_2 ((bt a0 a1) == 45) x10_2 x11_2 false)) else (none)) else (none))) = some (r1, r2, r3) := by rw [if_neg (show ¬ (false = true) by decide)] at H; exact H
                clear H
                have H := H1
                clear H1
                have HC16 := Aside0.mk H
                clear H
                go_upto_region 14 with (first | ((with_reducible refine gate_callee (f := 17) rfl ?_); refine goesL_ (some 24) rfl rfl Tryd.func17 (by kernel_rfl) rfl #[.string a0, .int .i64 x7_2] rfl (by (try simp only [List.map_toArray, List.map_cons, List.map_nil]); first | done | rfl | (simp only [List.length_drop, List.length_take]; rfl)) ?_; (with_reducible refine (arboristref05_digit.calls a0 x7_2 false _ A8.out).mono ?_); rintro e w' ⟨rfl, ⟨nd, rfl⟩⟩; refine ⟨_, rfl, ?_⟩))
                (try simp only [Act.put, List.setIfInBounds_toArray, List.set_cons_zero, List.set_cons_succ])
                go_cut [61] (fun v61 wc => ∃ (kq : Nat) (x61_15 : Bool), v61 = .bool x61_15 ∧ Aside0 (arboristref05_number.j2 kq x7_2 ((bt a0 a1) == 45) x10_2 x11_2 x61_15 = some (r1, r2, r3)) ∧ Aside0 (kq ≤ k2) ∧ Drawn0 w wc)
                case first =>
                  have H := HC16.out
                  clear HC16
                  by_cases c17 : x7_2 = x7_5
                  · rw [if_pos c17] at H
                    have c17b0 : (x7_2 == x7_5) = true := beq_iff_eq.mpr c17
                    have c17b1 : (x7_2 != x7_5) = false := bne_eq_false_iff_eq.mpr c17
                    clear c17
                    (first | rw [c17b0] | (simp only [i64_w, i32_w]; rw [c17b0]) | skip)
                    have H' := Aside0.mk H
                    clear H
                    go_wp2
                    go_meet
                    case rel => exact ⟨_, (true), (by first | rfl | (simp; done) | (simp [*]; done)), H', ⟨by have := HJ5.out; have := HK2.out; first | omega | exact Nat.le_refl _⟩, by repeat (first | exact Drawn0.refl _ | apply Drawn0.step)⟩
                  · rw [if_neg c17] at H
                    have c17b0 : (x7_2 == x7_5) = false := beq_eq_false_iff_ne.mpr c17
                    have c17b1 : (x7_2 != x7_5) = true := bne_iff_ne.mpr c17
                    (first | rw [c17b0] | (simp only [i64_w, i32_w]; rw [c17b0]) | skip)
                    by_cases c18 : 0 ≤ x7_5
                    · rw [if_pos c18] at H
                      have c18b0 : decide (0 ≤ x7_5) = true := decide_eq_true c18
                      clear c18
                      by_cases c19 : x7_5 < (a0.size : Int)
                      · rw [if_pos c19] at H
                        have c19b0 : decide (x7_5 < (a0.size : Int)) = true := decide_eq_true c19
                        clear c19
                        by_cases c21 : (bt a0 x7_5) = 48
                        · rw [if_pos c21] at H
                          have c21b0 : ((bt a0 x7_5) == 48) = true := beq_iff_eq.mpr c21
                          have c21b1 : ((bt a0 x7_5) != 48) = false := bne_eq_false_iff_eq.mpr c21
                          clear c21
                          by_cases c22 : x7_2 > (wrap64 (x7_5 + 1))
                          · rw [if_pos c22] at H
                            have c22b0 : decide ((wrap64 (x7_5 + 1)) < x7_2) = true := decide_eq_true c22
                            clear c22
                            have H' := Aside0.mk H
                            clear H
                            have p20 : 0 ≤ (x7_5 : Int) := of_decide_eq_true (by first | (with_reducible assumption) | assumption)
                            have q20 : x7_5 < (a0.size : Int) := of_decide_eq_true (by first | (with_reducible assumption) | assumption)
                            have hx20 := bt_at a0 x7_5
                            replace p20 := eq_true p20
                            replace q20 := eq_true q20
                            go_wp2
                            go_meet
                            case rel => exact ⟨_, (true), (by first | rfl | (simp; done) | (simp [*]; done)), H', ⟨by have := HJ5.out; have := HK2.out; first | omega | exact Nat.le_refl _⟩, by repeat (first | exact Drawn0.refl _ | apply Drawn0.step)⟩
                          · rw [if_neg c22] at H
                            have c22b0 : decide ((wrap64 (x7_5 + 1)) < x7_2) = false := decide_eq_false c22
                            clear c22
                            have H' := Aside0.mk H
                            clear H
                            have p20 : 0 ≤ (x7_5 : Int) := of_decide_eq_true (by first | (with_reducible assumption) | assumption)
                            have q20 : x7_5 < (a0.size : Int) := of_decide_eq_true (by first | (with_reducible assumption) | assumption)
                            have hx20 := bt_at a0 x7_5
                            replace p20 := eq_true p20
                            replace q20 := eq_true q20
                            go_wp2
                            go_meet
                            case rel => exact ⟨_, (((bt a0 a1) == 45)), (by first | rfl | (simp; done) | (simp [*]; done)), H', ⟨by have := HJ5.out; have := HK2.out; first | omega | exact Nat.le_refl _⟩, by repeat (first | exact Drawn0.refl _ | apply Drawn0.step)⟩
                        · rw [if_neg c21] at H
                          have c21b0 : ((bt a0 x7_5) == 48) = false := beq_eq_false_iff_ne.mpr c21
                          have c21b1 : ((bt a0 x7_5) != 48) = true := bne_iff_ne.mpr c21
                          have H' := Aside0.mk H
                          clear H
                          have p20 : 0 ≤ (x7_5 : Int) := of_decide_eq_true (by first | (with_reducible assumption) | assumption)
                          have q20 : x7_5 < (a0.size : Int) := of_decide_eq_true (by first | (with_reducible assumption) | assumption)
                          have hx20 := bt_at a0 x7_5
                          replace p20 := eq_true p20
                          replace q20 := eq_true q20
                          go_wp2
                          go_meet
                          case rel => exact ⟨_, (false), (by first | rfl | (simp; done) | (simp [*]; done)), H', ⟨by have := HJ5.out; have := HK2.out; first | omega | exact Nat.le_refl _⟩, by repeat (first | exact Drawn0.refl _ | apply Drawn0.step)⟩
                      · rw [if_neg c19] at H
                        exact absurd H (by simp)
                    · rw [if_neg c18] at H
                      exact absurd H (by simp)
                case rest =>
                  clear HC16
                  try clear c1
                  try clear p1
                  try clear q1
                  try clear hx1
                  try clear c2
                  try clear p2
                  try clear q2
                  try clear hx2
                  try clear c3
                  try clear c3b0
                  try clear c4
                  try clear c4b0
                  try clear c5
                  try clear p5
                  try clear q5
                  try clear hx5
                  try clear p6
                  try clear c7
                  try clear c7b0
                  try clear c7b1
                  try clear c9
                  try clear c10
                  try clear c10b0
                  try clear c11
                  try clear c11b0
                  try clear c12
                  try clear c12b0
                  try clear p13
                  try clear q13
                  try clear hx13
                  try clear c14
                  try clear c15
                  try clear c17
                  try clear c17b0
                  try clear c17b1
                  try clear c18
                  try clear c18b0
                  try clear c19
                  try clear c19b0
                  try clear p20
                  try clear q20
                  try clear hx20
                  try clear c21
                  try clear c21b0
                  try clear c21b1
                  try clear c22
                  try clear c22b0
                  try clear p13
                  try clear p2
                  try clear p20
                  try clear p5
                  try clear p6
                  try clear q13
                  try clear q20
                  try clear q5
                  obtain ⟨kq, x61_15, rfl, HA, HJ15, ⟨mc15, rfl⟩⟩ := hcut
                  cases kq with
                  | zero => exact absurd HA.out (by simp [arboristref05_number.j2])
                  | succ kj15 =>
                    have H := HA.out
                    clear HA
                    simp only [arboristref05_number.j2] at H
                    by_cases c23 : x61_15 = true
                    · subst c23
                      have H1 : (some (0, x7_2, 2)) = some (r1, r2, r3) := by rw [if_pos rfl] at H; exact H
                      clear H
                      have H := H1
                      clear H1
                      simp only [Option.some.injEq, Prod.mk.injEq] at H
                      obtain ⟨rfl, rfl, rfl⟩ := H
                      go_wp2
                      go_ret3
                      exact ⟨by first | rfl | (simp; done) | (simp [*]; done), by repeat (first | exact Drawn0.refl _ | apply Drawn0.step)⟩
                    · replace c23 := Bool.eq_false_iff.mpr c23
                      subst c23
                      have H1 : (if x11_2 = true then (some (0, x7_2, 4)) else (if ((bt a0 a1) == 45) = true then (some (wrap64 (-x10_2), x7_2, 0)) else (some (x10_2, x7_2, 0)))) = some (r1, r2, r3) := by rw [if_neg (show ¬ (false = true) by decide)] at H; exact H
                      clear H
                      have H := H1
                      clear H1
                      by_cases c24 : x11_2 = true
                      · subst c24
                        have H1 : (some (0, x7_2, 4)) = some (r1, r2, r3) := by rw [if_pos rfl] at H; exact H
                        clear H
                        have H := H1
                        clear H1
                        simp only [Option.some.injEq, Prod.mk.injEq] at H
                        obtain ⟨rfl, rfl, rfl⟩ := H
                        go_wp2
                        go_ret3
                        exact ⟨by first | rfl | (simp; done) | (simp [*]; done), by repeat (first | exact Drawn0.refl _ | apply Drawn0.step)⟩
                      · replace c24 := Bool.eq_false_iff.mpr c24
                        subst c24
                        have H1 : (if ((bt a0 a1) == 45) = true then (some (wrap64 (-x10_2), x7_2, 0)) else (some (x10_2, x7_2, 0))) = some (r1, r2, r3) := by rw [if_neg (show ¬ (false = true) by decide)] at H; exact H
                        clear H
                        have H := H1
                        clear H1
                        by_cases c25 : ((bt a0 a1) == 45) = true
                        · rw [if_pos c25] at H
                          have c25b0 : ((bt a0 a1) == 45) = true := c25
                          (try (have c25b1 : decide ((bt a0 a1) = 45) = true := by simpa using c25))
                          (try (have c25b2 : ((bt a0 a1) == 45) = true := by simpa using c25))
                          clear c25
                          simp only [Option.some.injEq, Prod.mk.injEq] at H
                          obtain ⟨rfl, rfl, rfl⟩ := H
                          go_wp2
                          go_ret3
                          exact ⟨by first | rfl | (simp; done) | (simp [*]; done), by repeat (first | exact Drawn0.refl _ | apply Drawn0.step)⟩
                        · rw [if_neg c25] at H
                          have c25b0 : ((bt a0 a1) == 45) = false := by simpa using c25
                          (try (have c25b1 : decide ((bt a0 a1) = 45) = false := by simpa using c25))
                          (try (have c25b2 : ((bt a0 a1) == 45) = false := by simpa using c25))
                          (try (have c25b3 : ¬ ((bt a0 a1) = 45) := by simpa using c25))
                          clear c25
                          simp only [Option.some.injEq, Prod.mk.injEq] at H
                          obtain ⟨rfl, rfl, rfl⟩ := H
                          go_wp2
                          go_ret3
                          exact ⟨by first | rfl | (simp; done) | (simp [*]; done), by repeat (first | exact Drawn0.refl _ | apply Drawn0.step)⟩
    · rw [if_neg c4] at H
      exact absurd H (by simp)
  · rw [if_neg c3] at H
    exact absurd H (by simp)

end Go.Proofs.YtfgabdfnbkmaeaaDoor.Pr
