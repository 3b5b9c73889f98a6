-- Printed by a program of this session's own (wip/tools/pp.py) over the kit's print.py; Lean checks it.
import Derived.Test.YtbdlelojlnhhfaaDoorPr1
import Derived.Test.YtbdlelojlnhhfaaDoorPr0
import Derived.Test.YtbdlelojlnhhfaaDoorPr40
namespace Go.Proofs.YtbdlelojlnhhfaaDoor.Pr
open Go.RowKit Go.Proofs.YtbdlelojlnhhfaaDoorW.PrintWords Go.Proofs.YtbdlelojlnhhfaaDoorW.PrintLast Go.Proofs.YtbdlelojlnhhfaaDoorW.PrintMore
attribute [local go_sem] max2_int min2_int max_two min_two max_three min_three max_four min_four   -- for this text's walks alone
set_option linter.unusedVariables false
set_option linter.unusedSimpArgs false

/-! ### arboristref10_Joined: function 25 -/
mutual
def arboristref10_Joined.l0 : Nat → List (List Bool) → List (List Int) → Int → Option ((List (List Bool)))
  | 0, _, _, _ => none
  | k + 1, x0, x1, x5 => if x5 < (x1.length : Int) then (arboristref10_Joined.l1 k x0 x1 x5 0) else (some x0)
def arboristref10_Joined.l1 : Nat → List (List Bool) → List (List Int) → Int → Int → Option ((List (List Bool)))
  | 0, _, _, _, _ => none
  | k + 1, x0, x1, x5, x6 => if 0 ≤ x5 then (if x5 < (x1.length : Int) then (if x6 < ((rd_L1 x1 x5).length : Int) then (arboristref10_Joined.l2 k x0 x1 x5 x6 0) else (arboristref10_Joined.l0 k x0 x1 (wrap64 (x5 + 1)))) else (none)) else (none)
def arboristref10_Joined.l2 : Nat → List (List Bool) → List (List Int) → Int → Int → Int → Option ((List (List Bool)))
  | 0, _, _, _, _, _ => none
  | k + 1, x0, x1, x5, x6, x7 => if 0 ≤ x5 then (if x5 < (x1.length : Int) then (if x7 < ((rd_L1 x1 x5).length : Int) then (if x6 = x7 then (arboristref10_Joined.l2 k x0 x1 x5 x6 (wrap64 (x7 + 1))) else (if 0 ≤ x6 then (if x6 < ((rd_L1 x1 x5).length : Int) then (if 0 ≤ (rd (rd_L1 x1 x5) x6) then (if (rd (rd_L1 x1 x5) x6) < (x0.length : Int) then (if 0 ≤ x7 then (if 0 ≤ (rd (rd_L1 x1 x5) x7) then (if (rd (rd_L1 x1 x5) x7) < ((rd_L8 x0 (rd (rd_L1 x1 x5) x6)).length : Int) then (arboristref10_Joined.l2 k (x0.set ((rd (rd_L1 x1 x5) x6) : Int).toNat ((rd_L8 x0 (rd (rd_L1 x1 x5) x6)).set ((rd (rd_L1 x1 x5) x7) : Int).toNat true)) x1 x5 x6 (wrap64 (x7 + 1))) else (none)) else (none)) else (none)) else (none)) else (none)) else (none)) else (none))) else (arboristref10_Joined.l1 k x0 x1 x5 (wrap64 (x6 + 1)))) else (none)) else (none)
end
def arboristref10_Joined.f (k : Nat) (l0 : List (List Bool)) (l1 : List (List Int)) : Option ((List (List Bool))) := (arboristref09_Copy.f k l0).bind fun t729 => (arboristref10_Joined.l0 k t729 l1 0)
theorem arboristref10_Joined.mono_l : ∀ k, (∀ y0 y1 y2, LeO (arboristref10_Joined.l0 k y0 y1 y2) (arboristref10_Joined.l0 (k + 1) y0 y1 y2)) ∧ (∀ y0 y1 y2 y3, LeO (arboristref10_Joined.l1 k y0 y1 y2 y3) (arboristref10_Joined.l1 (k + 1) y0 y1 y2 y3)) ∧ (∀ y0 y1 y2 y3 y4, LeO (arboristref10_Joined.l2 k y0 y1 y2 y3 y4) (arboristref10_Joined.l2 (k + 1) y0 y1 y2 y3 y4))
  | 0 => ⟨fun _ _ _ r h => by simp [arboristref10_Joined.l0] at h, fun _ _ _ _ r h => by simp [arboristref10_Joined.l1] at h, fun _ _ _ _ _ r h => by simp [arboristref10_Joined.l2] at h⟩
  | k + 1 => by
    obtain ⟨ih0, ih1, ih2⟩ := arboristref10_Joined.mono_l k
    refine ⟨?_, ?_, ?_⟩
    all_goals intros
    all_goals (first | unfold arboristref10_Joined.l0 | unfold arboristref10_Joined.l1 | unfold arboristref10_Joined.l2)
    all_goals repeat' first
    | (with_reducible exact ih0 _ _ _)
    | (with_reducible exact ih1 _ _ _ _)
    | (with_reducible exact ih2 _ _ _ _ _)
    | (with_reducible exact arboristref09_Copy.mono _ _)
    | (with_reducible exact LeO.refl _)
    | (with_reducible exact LeO.none _)
    | (with_reducible refine LeO.ite ?_ ?_)
    | (with_reducible refine LeO.bind ?_ (fun _ => ?_))
    | exact ih0 _ _ _
    | exact ih1 _ _ _ _
    | exact ih2 _ _ _ _ _
    | exact arboristref09_Copy.mono _ _
    | exact LeO.none _
    | refine LeO.ite ?_ ?_
    | refine LeO.bind ?_ (fun _ => ?_)
theorem arboristref10_Joined.mono : ∀ a0 a1 k, LeO (arboristref10_Joined.f k a0 a1) (arboristref10_Joined.f (k + 1) a0 a1) := by
  intro a0 a1 k
  obtain ⟨ih0, ih1, ih2⟩ := arboristref10_Joined.mono_l k
  unfold arboristref10_Joined.f
  repeat' first
      | (with_reducible exact ih0 _ _ _)
      | (with_reducible exact ih1 _ _ _ _)
      | (with_reducible exact ih2 _ _ _ _ _)
      | (with_reducible exact arboristref09_Copy.mono _ _)
      | (with_reducible exact LeO.refl _)
      | (with_reducible exact LeO.none _)
      | (with_reducible refine LeO.ite ?_ ?_)
      | (with_reducible refine LeO.bind ?_ (fun _ => ?_))
      | exact ih0 _ _ _
      | exact ih1 _ _ _ _
      | exact ih2 _ _ _ _ _
      | exact arboristref09_Copy.mono _ _
      | exact LeO.none _
      | refine LeO.ite ?_ ?_
      | refine LeO.bind ?_ (fun _ => ?_)
def arboristref10_Joined.T12 : Bool × List (List Nat × List Nat) := (true, [([], []), ([], []), ([], []), ([1, 2], [1, 2]), ([3], [3]), ([], []), ([4, 5], [4, 5]), ([6], [6]), ([0, 7], [0, 7]), ([8], [8]), ([], []), ([], []), ([10, 11], [10, 11]), ([12], [12]), ([], []), ([13, 14], [13, 14]), ([15], [15]), ([9, 16, 0, 1, 2, 3, 4, 5, 6, 7, 8, 9, 10, 11, 12, 13, 14, 15, 16], [9, 16]), ([17, 0, 1, 2, 3, 4, 5, 6, 7, 8, 9, 10, 11, 12, 13, 14, 15, 16], [17])])
def arboristref10_Joined.B12 : List Nat := [0, 0, 0, 6, 14, 0, 62, 126, 255, 511, 0, 0, 3072, 7168, 0, 31744, 64512, 131071, 262143]
theorem arboristref10_Joined.tab12 : rtab .any (opsOf Tryd.f25 12) = arboristref10_Joined.T12 := by kernel_rfl
theorem arboristref10_Joined.bits12 : waitsOk arboristref10_Joined.T12.2 arboristref10_Joined.B12 = true := by kernel_rfl
set_option maxHeartbeats 8000000 in
set_option maxRecDepth 100000 in
theorem arboristref10_Joined.calls (k : Nat) (A0 : Option Addr) (c0 : Nat) (l0 : List (List Bool)) (A1 : Option Addr) (c1 : Nat) (l1 : List (List Int)) (r : List (List Bool)) (w : World) (hr0 : Kd.C (Kd.slice 4 Kd.bool) w A0 l0.length l0) (hc0 : l0.length ≤ c0) (hr1 : Kd.C (Kd.slice 3 (Kd.int .i64)) w A1 l1.length l1) (hc1 : l1.length ≤ c1) (h : arboristref10_Joined.f k l0 l1 = some r) :
    Calls Tryd.prog 25 #[.slice A0 l0.length c0, .slice A1 l1.length c1] w fun e w' => ∃ v0_ : Value, e = .returned (v0_) ∧ Kd.S (Kd.slice 4 Kd.bool) 40 w' w.heap.size (fun _ => True) v0_ r ∧ Below w.heap.size w w' := by
  have HR0 := Aside0.mk hr0
  have HC0 := Aside0.mk hc0
  clear hr0 hc0
  have HR1 := Aside0.mk hr1
  have HC1 := Aside0.mk hc1
  clear hr1 hc1
  have HB := Aside0.mk (Below.refl w.heap.size w)
  have H : ((arboristref09_Copy.f k l0).bind fun t729 => (arboristref10_Joined.l0 k t729 l1 0)) = some r := h
  clear h
  replace H := Option.bind_eq_some_iff.mp H
  obtain ⟨t729, A30, H⟩ := H
  replace H : (arboristref10_Joined.l0 k t729 l1 0) = some r := H
  have A3 := Aside0.mk A30
  clear A30
  have H' := Aside0.mk H
  clear H
  go_enter Tryd.func25, Tryd.ntmps25
  go_wp2_with (first | ((with_reducible refine gate_callee (f := 36) rfl ?_); refine goesL_ (some 9) rfl rfl Tryd.func36 (by kernel_rfl) rfl #[.slice A0 l0.length c0] rfl (by (try simp only [List.map_toArray, List.map_cons, List.map_nil]); first | done | rfl | (simp only [List.length_drop, List.length_take]; rfl)) ?_; (with_reducible refine (arboristref09_Copy.calls k _ _ l0 t729 _ ?side1 ?side2 A3.out).mono ?_); (case side1 => repeat (first | exact HR0.out | (with_reducible refine Kd.C_alloc ?_ _) | (with_reducible refine Kd.C_drewN ?_ _) | (with_reducible refine Kd.C_drew ?_))); (case side2 => exact HC0.out); rintro e w4 ⟨v730, rfl, ho0, hb⟩; refine ⟨_, rfl, ?_⟩; have n0_ := Aside0.mk (Kd.S_lower ho0 (below_size (by repeat (first | (with_reducible first | exact HB.out | apply below_alloc | apply pw_below_drewN | apply below_drew1) | exact HB.out)))); have n1_ := Aside0.mk (below_step (by repeat (first | (with_reducible first | exact HB.out | apply below_alloc | apply pw_below_drewN | apply below_drew1) | exact HB.out)) hb); clear HB; have HO731 := n0_; have HB := n1_; clear n0_ n1_; (try clear hb); (try clear hb2); (try clear hk); (try clear hi); (try clear ho0)))
  go_loopg [5] k (fun kq v5 w' => ∃ (x0_1 : List (List Bool)) (x5_1 : Int), v5 = .int .i64 x5_1 ∧ Aside0 (arboristref10_Joined.l0 kq x0_1 l1 x5_1 = some r) ∧ Aside0 (kq ≤ k) ∧ Aside0 (Kd.S (Kd.slice 4 Kd.bool) 40 w' w.heap.size (fun _ => True) v730 x0_1) ∧ Aside0 (Below w.heap.size w w'))
  case atStart => exact ⟨(t729), (0), (by first | rfl | (simp; done) | (simp [*]; done)), H', ⟨Nat.le_refl _⟩, ⟨by (with_reducible repeat (first | apply Kd.S_alloc | apply Kd.S_drewN | apply Kd.S_drew)); exact HO731.out⟩, ⟨by repeat (first | (with_reducible first | exact HB.out | apply below_alloc | apply pw_below_drewN | apply below_drew1) | exact HB.out)⟩⟩
  case round =>
    clear H'
    try clear c1
    try clear c2
    try clear p2
    try clear c3
    obtain ⟨x0_1, x5_1, rfl, HA, HK1, HO_0, HB⟩ := hrel
    cases gk with
    | zero => exact absurd HA.out (by simp [arboristref10_Joined.l0])
    | succ k1 =>
      have H := HA.out
      clear HA
      simp only [arboristref10_Joined.l0] at H
      by_cases c5 : x5_1 < (l1.length : Int)
      · rw [if_pos c5] at H
        have c5b0 : decide (x5_1 < (l1.length : Int)) = true := decide_eq_true c5
        clear c5
        have H' := Aside0.mk H
        clear H
        go_wp2
        go_loopg [6] k1 (fun kq v6 w' => ∃ (x0_2 : List (List Bool)) (x6_2 : Int), v6 = .int .i64 x6_2 ∧ Aside0 (arboristref10_Joined.l1 kq x0_2 l1 x5_1 x6_2 = some r) ∧ Aside0 (kq ≤ k1) ∧ Aside0 (Kd.S (Kd.slice 4 Kd.bool) 40 w' w.heap.size (fun _ => True) v730 x0_2) ∧ Aside0 (Below w.heap.size w w'))
        case atStart => exact ⟨(x0_1), (0), (by first | rfl | (simp; done) | (simp [*]; done)), H', ⟨Nat.le_refl _⟩, ⟨by (with_reducible repeat (first | apply Kd.S_alloc | apply Kd.S_drewN | apply Kd.S_drew)); exact HO_0.out⟩, ⟨by repeat (first | (with_reducible first | exact HB.out | apply below_alloc | apply pw_below_drewN | apply below_drew1) | exact HB.out)⟩⟩
        case round =>
          clear H'
          try clear c1
          try clear c2
          try clear p2
          try clear c3
          try clear c5
          try clear c5b0
          try clear p2
          obtain ⟨x0_2, x6_2, rfl, HA, HK2, HO_0, HB⟩ := hrel
          cases gk with
          | zero => exact absurd HA.out (by simp [arboristref10_Joined.l1])
          | succ k2 =>
            have H := HA.out
            clear HA
            simp only [arboristref10_Joined.l1] at H
            by_cases c6 : 0 ≤ x5_1
            · rw [if_pos c6] at H
              have c6b0 : decide (0 ≤ x5_1) = true := decide_eq_true c6
              clear c6
              by_cases c7 : x5_1 < (l1.length : Int)
              · rw [if_pos c7] at H
                have c7b0 : decide (x5_1 < (l1.length : Int)) = true := decide_eq_true c7
                clear c7
                by_cases c8 : x6_2 < ((rd_L1 l1 x5_1).length : Int)
                · rw [if_pos c8] at H
                  have c8b0 : decide (x6_2 < ((rd_L1 l1 x5_1).length : Int)) = true := decide_eq_true c8
                  clear c8
                  have H' := Aside0.mk H
                  clear H
                  have p732 : 0 ≤ (x5_1 : Int) := of_decide_eq_true (by first | (with_reducible assumption) | assumption)
                  have q732 : x5_1 < (l1.length : Int) := of_decide_eq_true (by first | (with_reducible assumption) | assumption)
                  obtain ⟨ad732, A732_0, c732_0, e732, hx732_0, hl732_0, hi732_0⟩ := at_L1 HR1.out x5_1 p732 q732
                  cases e732
                  replace hx732_0 := (HB.out.cell (World.block_lt_of_cell? w _ hx732_0)).trans hx732_0
                  have HR732_0 := Aside0.mk hi732_0
                  have HC732_0 := Aside0.mk hl732_0
                  clear hi732_0 hl732_0
                  replace p732 := eq_true p732
                  replace q732 := eq_true q732
                  go_wp2
                  go_loopg [7] k2 (fun kq v7 w' => ∃ (x0_3 : List (List Bool)) (x7_3 : Int), v7 = .int .i64 x7_3 ∧ Aside0 (arboristref10_Joined.l2 kq x0_3 l1 x5_1 x6_2 x7_3 = some r) ∧ Aside0 (kq ≤ k2) ∧ Aside0 (Kd.S (Kd.slice 4 Kd.bool) 40 w' w.heap.size (fun _ => True) v730 x0_3) ∧ Aside0 (Below w.heap.size w w'))
                  case atStart => exact ⟨(x0_2), (0), (by first | rfl | (simp; done) | (simp [*]; done)), H', ⟨Nat.le_refl _⟩, ⟨by (with_reducible repeat (first | apply Kd.S_alloc | apply Kd.S_drewN | apply Kd.S_drew)); exact HO_0.out⟩, ⟨by repeat (first | (with_reducible first | exact HB.out | apply below_alloc | apply pw_below_drewN | apply below_drew1) | exact HB.out)⟩⟩
                  case round =>
                    clear H'
                    try clear c1
                    try clear c2
                    try clear p2
                    try clear c3
                    try clear c5
                    try clear c5b0
                    try clear c6
                    try clear c6b0
                    try clear c7
                    try clear c7b0
                    try clear p7
                    try clear q7
                    try clear hx7
                    try clear c8
                    try clear c8b0
                    try clear hx732_0
                    try clear p2
                    try clear p732
                    try clear q732
                    obtain ⟨x0_3, x7_3, rfl, HA, HK3, HO_0, HB⟩ := hrel
                    cases gk with
                    | zero => exact absurd HA.out (by simp [arboristref10_Joined.l2])
                    | succ k3 =>
                      have H := HA.out
                      clear HA
                      simp only [arboristref10_Joined.l2] at H
                      by_cases c9 : 0 ≤ x5_1
                      · rw [if_pos c9] at H
                        have c9b0 : decide (0 ≤ x5_1) = true := decide_eq_true c9
                        clear c9
                        by_cases c10 : x5_1 < (l1.length : Int)
                        · rw [if_pos c10] at H
                          have c10b0 : decide (x5_1 < (l1.length : Int)) = true := decide_eq_true c10
                          clear c10
                          by_cases c11 : x7_3 < ((rd_L1 l1 x5_1).length : Int)
                          · rw [if_pos c11] at H
                            have c11b0 : decide (x7_3 < ((rd_L1 l1 x5_1).length : Int)) = true := decide_eq_true c11
                            clear c11
                            by_cases c12 : x6_2 = x7_3
                            · rw [if_pos c12] at H
                              have c12b0 : (x6_2 == x7_3) = true := beq_iff_eq.mpr c12
                              have c12b1 : (x6_2 != x7_3) = false := bne_eq_false_iff_eq.mpr c12
                              clear c12
                              have H' := Aside0.mk H
                              clear H
                              have p733 : 0 ≤ (x5_1 : Int) := of_decide_eq_true (by first | (with_reducible assumption) | assumption)
                              have q733 : x5_1 < (l1.length : Int) := of_decide_eq_true (by first | (with_reducible assumption) | assumption)
                              obtain ⟨ad733, A733_0, c733_0, e733, hx733_0, hl733_0, hi733_0⟩ := at_L1 HR1.out x5_1 p733 q733
                              obtain rfl : ad732 = ad733 := (by injection e733)
                              replace hx733_0 := (HB.out.cell (World.block_lt_of_cell? w _ hx733_0)).trans hx733_0
                              have HR733_0 := Aside0.mk hi733_0
                              have HC733_0 := Aside0.mk hl733_0
                              clear hi733_0 hl733_0
                              replace p733 := eq_true p733
                              replace q733 := eq_true q733
                              go_wp2
                              go_roundg k3
                              case measure => have := HK1.out; have := HK2.out; have := HK3.out; omega
                              case rel => exact ⟨(x0_3), (wrap64 (x7_3 + 1)), (by first | rfl | (simp; done) | (simp [*]; done)), H', ⟨by have := HK1.out; have := HK2.out; have := HK3.out; omega⟩, ⟨by (with_reducible repeat (first | apply Kd.S_alloc | apply Kd.S_drewN | apply Kd.S_drew)); exact HO_0.out⟩, ⟨by repeat (first | (with_reducible first | exact HB.out | apply below_alloc | apply pw_below_drewN | apply below_drew1) | exact HB.out)⟩⟩
                            · rw [if_neg c12] at H
                              have c12b0 : (x6_2 == x7_3) = false := beq_eq_false_iff_ne.mpr c12
                              have c12b1 : (x6_2 != x7_3) = true := bne_iff_ne.mpr c12
                              by_cases c13 : 0 ≤ x6_2
                              · rw [if_pos c13] at H
                                have c13b0 : decide (0 ≤ x6_2) = true := decide_eq_true c13
                                clear c13
                                by_cases c14 : x6_2 < ((rd_L1 l1 x5_1).length : Int)
                                · rw [if_pos c14] at H
                                  have c14b0 : decide (x6_2 < ((rd_L1 l1 x5_1).length : Int)) = true := decide_eq_true c14
                                  clear c14
                                  by_cases c15 : 0 ≤ (rd (rd_L1 l1 x5_1) x6_2)
                                  · rw [if_pos c15] at H
                                    have c15b0 : decide (0 ≤ (rd (rd_L1 l1 x5_1) x6_2)) = true := decide_eq_true c15
                                    clear c15
                                    by_cases c16 : (rd (rd_L1 l1 x5_1) x6_2) < (x0_3.length : Int)
                                    · rw [if_pos c16] at H
                                      have c16b0 : decide ((rd (rd_L1 l1 x5_1) x6_2) < (x0_3.length : Int)) = true := decide_eq_true c16
                                      clear c16
                                      by_cases c17 : 0 ≤ x7_3
                                      · rw [if_pos c17] at H
                                        have c17b0 : decide (0 ≤ x7_3) = true := decide_eq_true c17
                                        clear c17
                                        by_cases c18 : 0 ≤ (rd (rd_L1 l1 x5_1) x7_3)
                                        · rw [if_pos c18] at H
                                          have c18b0 : decide (0 ≤ (rd (rd_L1 l1 x5_1) x7_3)) = true := decide_eq_true c18
                                          clear c18
                                          by_cases c19 : (rd (rd_L1 l1 x5_1) x7_3) < ((rd_L8 x0_3 (rd (rd_L1 l1 x5_1) x6_2)).length : Int)
                                          · rw [if_pos c19] at H
                                            have c19b0 : decide ((rd (rd_L1 l1 x5_1) x7_3) < ((rd_L8 x0_3 (rd (rd_L1 l1 x5_1) x6_2)).length : Int)) = true := decide_eq_true c19
                                            clear c19
                                            obtain ⟨y739, hy739⟩ : ∃ y_ : List Bool, y_ = ((rd_L8 x0_3 (rd (rd_L1 l1 x5_1) x6_2)).set ((rd (rd_L1 l1 x5_1) x7_3) : Int).toNat true) := ⟨_, rfl⟩
                                            replace H : (arboristref10_Joined.l2 k3 (x0_3.set ((rd (rd_L1 l1 x5_1) x6_2) : Int).toNat y739) l1 x5_1 x6_2 (wrap64 (x7_3 + 1))) = some r := by first | (rw [hy739]; with_reducible exact H) | (have H2_ := (Option.bind_some _ _).symm.trans H; rw [hy739]; with_reducible exact H2_) | (have H2_ := (Option.bind_some _ _).symm.trans H; with_reducible exact H2_) | with_reducible exact H | (rw [hy739]; exact H) | exact H
                                            have Ny739 := Aside0.mk hy739
                                            clear hy739
                                            obtain ⟨y741, hy741⟩ : ∃ y_ : List (List Bool), y_ = (x0_3.set ((rd (rd_L1 l1 x5_1) x6_2) : Int).toNat y739) := ⟨_, rfl⟩
                                            replace H : (arboristref10_Joined.l2 k3 y741 l1 x5_1 x6_2 (wrap64 (x7_3 + 1))) = some r := by first | (rw [hy741]; with_reducible exact H) | (have H2_ := (Option.bind_some _ _).symm.trans H; rw [hy741]; with_reducible exact H2_) | (have H2_ := (Option.bind_some _ _).symm.trans H; with_reducible exact H2_) | with_reducible exact H | (rw [hy741]; exact H) | exact H
                                            have Ny741 := Aside0.mk hy741
                                            clear hy741
                                            have H' := Aside0.mk H
                                            clear H
                                            have p733 : 0 ≤ (x5_1 : Int) := of_decide_eq_true (by first | (with_reducible assumption) | assumption)
                                            have q733 : x5_1 < (l1.length : Int) := of_decide_eq_true (by first | (with_reducible assumption) | assumption)
                                            obtain ⟨ad733, A733_0, c733_0, e733, hx733_0, hl733_0, hi733_0⟩ := at_L1 HR1.out x5_1 p733 q733
                                            obtain rfl : ad732 = ad733 := (by injection e733)
                                            replace hx733_0 := (HB.out.cell (World.block_lt_of_cell? w _ hx733_0)).trans hx733_0
                                            have HR733_0 := Aside0.mk hi733_0
                                            have HC733_0 := Aside0.mk hl733_0
                                            clear hi733_0 hl733_0
                                            replace p733 := eq_true p733
                                            replace q733 := eq_true q733
                                            try go_wp2
                                            (try (rw [drewN_self wr]; generalize hq_ : World.drewN wr _ = wr; have n0_ := Aside0.mk (Kd.S_at hq_ HO_0.out); have n1_ := Aside0.mk (below_at hq_ HB.out); clear hq_ HO_0 HB; have HO_0 := n0_; have HB := n1_; clear n0_ n1_))
                                            have n0_ := Aside0.mk (Kd.S_drew HO_0.out)
                                            have n1_ := Aside0.mk (below_drew1 HB.out)
                                            clear HO_0
                                            clear HB
                                            have HO_0 := n0_
                                            have HB := n1_
                                            clear n0_ n1_
                                            have p734 : 0 ≤ (x5_1 : Int) := of_decide_eq_true (by first | (with_reducible assumption) | assumption)
                                            have q734 : x5_1 < (l1.length : Int) := of_decide_eq_true (by first | (with_reducible assumption) | assumption)
                                            obtain ⟨ad734, A734_0, c734_0, e734, hx734_0, hl734_0, hi734_0⟩ := at_L1 HR1.out x5_1 p734 q734
                                            have hw734_0 := hx734_0
                                            obtain rfl : ad732 = ad734 := (by injection e734)
                                            replace hx734_0 := (HB.out.cell (World.block_lt_of_cell? w _ hx734_0)).trans hx734_0
                                            have HR734_0 := Aside0.mk hi734_0
                                            have HC734_0 := Aside0.mk hl734_0
                                            clear hi734_0 hl734_0
                                            replace p734 := eq_true p734
                                            replace q734 := eq_true q734
                                            have p735 : 0 ≤ (x6_2 : Int) := of_decide_eq_true (by first | (with_reducible assumption) | assumption)
                                            have q735 : x6_2 < ((rd_L1 l1 x5_1).length : Int) := of_decide_eq_true (by first | (with_reducible assumption) | assumption)
                                            obtain ⟨ad735, e735, hx735_0⟩ := Kd.at_int HR734_0.out x6_2 p735 q735
                                            have hw735_0 := hx735_0
                                            cases e735
                                            replace hx735_0 := (HB.out.cell (World.block_lt_of_cell? w _ hx735_0)).trans hx735_0
                                            replace p735 := eq_true p735
                                            replace q735 := eq_true q735
                                            obtain ⟨Ao22, co22, eo22⟩ := Kd.S_slice HO_0.out
                                            (first | subst eo22 | (injection eo22 with f1_ f2_ f3_; have f4_ := f1_.symm; have f5_ := f3_.symm; clear f1_ f2_ f3_; subst f4_; subst f5_))
                                            have p736 : 0 ≤ ((rd (rd_L1 l1 x5_1) x6_2) : Int) := of_decide_eq_true (by first | (with_reducible assumption) | assumption)
                                            have q736 : (rd (rd_L1 l1 x5_1) x6_2) < (x0_3.length : Int) := of_decide_eq_true (by first | (with_reducible assumption) | assumption)
                                            obtain ⟨ad736, A736_0, c736_0, e736, hx736_0, hl736_0, hi736_0⟩ := at_L8 (Kd.S_reads' HO_0.out).2.2 (rd (rd_L1 l1 x5_1) x6_2) p736 q736
                                            cases e736
                                            obtain ⟨ce736, hce736, hMe736, hcc736⟩ := Kd.S_get HO_0.out [] (rd (rd_L1 l1 x5_1) x6_2) p736 (by first | exact q736 | exact of_decide_eq_true (by first | (with_reducible assumption) | assumption) | (have e_ := (Kd.S_reads' HO_0.out).1; omega))
                                            obtain ⟨ve736_0, rfl, ge736_0⟩ := hMe736
                                            have hv736_0 := hcc736 0 _ rfl
                                            rw [Nat.add_zero, show ((Kd.slice 4 Kd.bool)).sz = 1 from rfl, Nat.mul_one] at hv736_0
                                            replace hv736_0 := Option.some.inj (hv736_0.symm.trans hx736_0)
                                            rw [hv736_0] at ge736_0
                                            have HL736_0 := Aside0.mk (show Kd.R Kd.bool 4 _ _ _ _ (rd_L8 x0_3 (rd (rd_L1 l1 x5_1) x6_2)) from ge736_0)
                                            clear hv736_0 ge736_0
                                            have HX736_0 := Aside0.mk hx736_0
                                            clear hcc736 hce736
                                            have HR736_0 := Aside0.mk hi736_0
                                            have HC736_0 := Aside0.mk hl736_0
                                            clear hi736_0 hl736_0
                                            replace p736 := eq_true p736
                                            replace q736 := eq_true q736
                                            have p737 : 0 ≤ (x5_1 : Int) := of_decide_eq_true (by first | (with_reducible assumption) | assumption)
                                            have q737 : x5_1 < (l1.length : Int) := of_decide_eq_true (by first | (with_reducible assumption) | assumption)
                                            obtain ⟨ad737, A737_0, c737_0, e737, hx737_0, hl737_0, hi737_0⟩ := at_L1 HR1.out x5_1 p737 q737
                                            have hw737_0 := hx737_0
                                            obtain rfl : ad732 = ad737 := (by injection e737)
                                            replace hx737_0 := (HB.out.cell (World.block_lt_of_cell? w _ hx737_0)).trans hx737_0
                                            have HR737_0 := Aside0.mk hi737_0
                                            have HC737_0 := Aside0.mk hl737_0
                                            clear hi737_0 hl737_0
                                            replace p737 := eq_true p737
                                            replace q737 := eq_true q737
                                            have ea_ := Option.some.inj (hx734_0.symm.trans hx737_0)
                                            injection ea_ with ea_ en_ ec_
                                            subst ea_
                                            subst ec_
                                            clear en_
                                            have p738 : 0 ≤ (x7_3 : Int) := of_decide_eq_true (by first | (with_reducible assumption) | assumption)
                                            have q738 : x7_3 < ((rd_L1 l1 x5_1).length : Int) := of_decide_eq_true (by first | (with_reducible assumption) | assumption)
                                            obtain ⟨ad738, e738, hx738_0⟩ := Kd.at_int HR737_0.out x7_3 p738 q738
                                            have hw738_0 := hx738_0
                                            cases e738
                                            replace hx738_0 := (HB.out.cell (World.block_lt_of_cell? w _ hx738_0)).trans hx738_0
                                            replace p738 := eq_true p738
                                            replace q738 := eq_true q738
                                            have p20 : 0 ≤ ((rd (rd_L1 l1 x5_1) x7_3) : Int) := of_decide_eq_true (by first | (with_reducible assumption) | assumption)
                                            have q20 : ((rd (rd_L1 l1 x5_1) x7_3) : Int) < (((rd_L8 x0_3 (rd (rd_L1 l1 x5_1) x6_2)).length : Int) : Int) := of_decide_eq_true (by first | (with_reducible assumption) | assumption)
                                            obtain ⟨go20, co20, eo20, gb20, gl20, cl20, HG20⟩ := Kd.R_form HL736_0.out (by omega)
                                            (first | cases eo20 | (injection eo20 with ea_ en_ ec_; (first | subst ea_ | (injection ea_ with ea_; subst ea_)); subst ec_; clear en_))
                                            have GB20 := Aside0.mk gb20
                                            have GG20 := Aside0.mk HG20
                                            clear gb20 gl20 HG20
                                            obtain ⟨hx20_0, hf20_0⟩ := Kd.R_celln false HL736_0.out ((rd (rd_L1 l1 x5_1) x7_3) : Int) p20 q20
                                            replace p20 := eq_true p20
                                            replace q20 := eq_true q20
                                            have hq23 : ((rd (rd_L1 l1 x5_1) x6_2) : Int) < (x0_3.length : Int) := (by have h_ : ((rd (rd_L1 l1 x5_1) x6_2) : Int) < ((x0_3.length : Int) : Int) := of_decide_eq_true (by first | (with_reducible assumption) | assumption); first | exact h_ | (have e_ := (Kd.S_reads' HO_0.out).1; omega) | simpa only [List.length_set, List.length_set] using h_)
                                            obtain ⟨oki23, ce23, hcl23, hM23, hcc23, hok23, hbk23⟩ := Kd.S_borrow HO_0.out [] ((rd (rd_L1 l1 x5_1) x6_2) : Int) (of_decide_eq_true (by first | (with_reducible assumption) | assumption)) (by first | exact hq23 | (have e_ := (Kd.S_reads' HO_0.out).1; have h_ := hq23; omega))
                                            obtain ⟨ve23_0, rfl, ge23_0⟩ := hM23
                                            have hv23 := hcc23 0 _ rfl
                                            rw [Nat.add_zero, show ((Kd.slice 4 Kd.bool)).sz = 1 from rfl, Nat.mul_one] at hv23
                                            replace hv23 := Option.some.inj (hv23.symm.trans HX736_0.out)
                                            subst hv23
                                            clear hcc23 hcl23
                                            replace ge23_0 := (show Kd.R Kd.bool 4 _ _ _ _ (rd_L8 x0_3 (rd (rd_L1 l1 x5_1) x6_2)) from ge23_0)
                                            have HP23 := Kd.R_putg ge23_0 ((rd (rd_L1 l1 x5_1) x7_3) : Int) true
                                            rw [← Ny739.out] at HP23
                                            have HS23 := hbk23 HP23.2 (fun k_ e_ => by injection e_ with e_; subst e_; exact ge23_0.1 _ rfl) (x' := y739) (Kd.M_row HP23.1)
                                            rw [← Ny741.out] at HS23
                                            have HQ23 := Aside0.mk HS23
                                            clear HP23 HS23 hbk23 hok23
                                            refine start_ (n := 19) (S := fun w' => w'.cell? (ad732.add (x5_1).toNat) = some (.slice (some ad735) (rd_L1 l1 x5_1).length c734_0) ∧ w'.cell? (ad735.add (x6_2).toNat) = some (.int .i64 (rd (rd_L1 l1 x5_1) x6_2)) ∧ w'.cell? (ad736.add ((rd (rd_L1 l1 x5_1) x6_2)).toNat) = some (.slice (some ⟨go20, 0, none⟩) (rd_L8 x0_3 (rd (rd_L1 l1 x5_1) x6_2)).length c736_0) ∧ w'.cell? (ad732.add (x5_1).toNat) = some (.slice (some ad735) (rd_L1 l1 x5_1).length c734_0) ∧ w'.cell? (ad735.add (x7_3).toNat) = some (.int .i64 (rd (rd_L1 l1 x5_1) x7_3))) (ds := [18]) (bs 19 0) (by kernel_rfl) rfl rfl ⟨((HB.out.cell (World.block_lt_of_cell? w _ hw734_0)).trans hw734_0), ((HB.out.cell (World.block_lt_of_cell? w _ hw735_0)).trans hw735_0), hx736_0, ((HB.out.cell (World.block_lt_of_cell? w _ hw737_0)).trans hw737_0), ((HB.out.cell (World.block_lt_of_cell? w _ hw738_0)).trans hw738_0)⟩ (fun hHeld => ?_); refine with_tabW arboristref10_Joined.tab12 arboristref10_Joined.bits12 (fun HT_ HW_ => ?_)
                                            generalize wr.drew = w21 at HO_0 HB GG20 HL736_0 HQ23 HR734_0 HR736_0 HR737_0 HX736_0 hf20_0 hx20_0 hx734_0 hx735_0 hx736_0 hx737_0 hx738_0 hHeld ⊢
                                            refine pure_ (i := 0) (N := some 37) (v := ?_) (a' := ?_) (bs 19 1) rfl rfl (any_of HT_.out (by kernel_rfl)) (fun _ _ _ h => h) (Or.inl ⟨by rfl, ?_⟩) ?_ ?_
                                            rotate_left; (intro w'; go_simp; with_reducible rfl); rotate_left; (simp only [Act.put, List.setIfInBounds_toArray, List.set_cons_zero, List.set_cons_succ, i64_w, i32_w]; rfl)
                                            refine pure_ (i := 1) (N := some 38) (v := ?_) (a' := ?_) (bs 19 3) rfl rfl (any_of HT_.out (by kernel_rfl)) (fun _ _ _ h => h) (Or.inl ⟨by rfl, ?_⟩) ?_ ?_
                                            rotate_left; (intro w'; go_simp; with_reducible rfl); rotate_left; (simp only [Act.put, List.setIfInBounds_toArray, List.set_cons_zero, List.set_cons_succ, i64_w, i32_w]; rfl)
                                            refine pure_ (i := 2) (N := some 39) (v := ?_) (a' := ?_) (bs 19 7) rfl rfl (any_of HT_.out (by kernel_rfl)) (fun _ _ _ h => h) (Or.inl ⟨by rfl, ?_⟩) ?_ ?_
                                            rotate_left; (intro w'; go_simp; with_reducible rfl); rotate_left; (simp only [Act.put, List.setIfInBounds_toArray, List.set_cons_zero, List.set_cons_succ, i64_w, i32_w]; rfl)
                                            refine pure_ (i := 3) (N := some 40) (v := ?_) (a' := ?_) (bs 19 15) rfl rfl (any_of HT_.out (by kernel_rfl)) (fun _ _ _ h => h) (Or.inl ⟨by rfl, ?_⟩) ?_ ?_
                                            rotate_left; (intro w'; go_simp; with_reducible rfl); rotate_left; (simp only [Act.put, List.setIfInBounds_toArray, List.set_cons_zero, List.set_cons_succ, i64_w, i32_w]; rfl)
                                            refine pure_ (i := 5) (N := some 42) (v := ?_) (a' := ?_) (bs 19 47) rfl rfl (any_of HT_.out (by kernel_rfl)) (fun _ _ _ h => h) (Or.inl ⟨by rfl, ?_⟩) ?_ ?_
                                            rotate_left; (intro w'; go_simp; with_reducible rfl); rotate_left; (simp only [Act.put, List.setIfInBounds_toArray, List.set_cons_zero, List.set_cons_succ, i64_w, i32_w]; rfl)
                                            refine pure_ (i := 10) (N := some 47) (v := ?_) (a' := ?_) (bs 19 1071) rfl rfl (any_of HT_.out (by kernel_rfl)) (fun _ _ _ h => h) (Or.inl ⟨by rfl, ?_⟩) ?_ ?_
                                            rotate_left; (intro w'; go_simp; with_reducible rfl); rotate_left; (simp only [Act.put, List.setIfInBounds_toArray, List.set_cons_zero, List.set_cons_succ, i64_w, i32_w]; rfl)
                                            refine pure_ (i := 11) (N := some 48) (v := ?_) (a' := ?_) (bs 19 3119) rfl rfl (any_of HT_.out (by kernel_rfl)) (fun _ _ _ h => h) (Or.inl ⟨by rfl, ?_⟩) ?_ ?_
                                            rotate_left; (intro w'; go_simp; with_reducible rfl); rotate_left; (simp only [Act.put, List.setIfInBounds_toArray, List.set_cons_zero, List.set_cons_succ, i64_w, i32_w]; rfl)
                                            refine pure_ (i := 12) (N := some 49) (v := ?_) (a' := ?_) (bs 19 7215) rfl rfl (any_of HT_.out (by kernel_rfl)) (fun _ _ _ h => h) (Or.inl ⟨by rfl, ?_⟩) ?_ ?_
                                            rotate_left; (intro w'; go_simp; with_reducible rfl); rotate_left; (simp only [Act.put, List.setIfInBounds_toArray, List.set_cons_zero, List.set_cons_succ, i64_w, i32_w]; rfl)
                                            refine pure_ (i := 14) (N := some 51) (v := ?_) (a' := ?_) (bs 19 23599) rfl rfl (any_of HT_.out (by kernel_rfl)) (fun _ _ _ h => h) (Or.inl ⟨by rfl, ?_⟩) ?_ ?_
                                            rotate_left; (intro w'; go_simp; with_reducible rfl); rotate_left; (simp only [Act.put, List.setIfInBounds_toArray, List.set_cons_zero, List.set_cons_succ, i64_w, i32_w]; rfl)
                                            refine take_ (i := 4) (N := some 41) (v := ?_) (a' := ?_) (bs 19 23615) rfl rfl (take_ofW HT_.out HW_.out (by kernel_rfl)) (fun _ _ _ h => h) (Or.inl ⟨by rfl, ?_⟩) hHeld ?_ ?_
                                            rotate_left
                                            · rintro w' ⟨s0, s1, s2, s3, s4⟩
                                              go_simp
                                              with_reducible rfl
                                            rotate_left; (simp only [Act.put, List.setIfInBounds_toArray, List.set_cons_zero, List.set_cons_succ, i64_w, i32_w]; rfl)
                                            refine pure_ (i := 6) (N := some 43) (v := ?_) (a' := ?_) (bs 19 23679) rfl rfl (any_of HT_.out (by kernel_rfl)) (fun _ _ _ h => h) (Or.inl ⟨by rfl, ?_⟩) ?_ ?_
                                            rotate_left; (intro w'; go_simp; with_reducible rfl); rotate_left; (simp only [Act.put, List.setIfInBounds_toArray, List.set_cons_zero, List.set_cons_succ, i64_w, i32_w]; rfl)
                                            refine take_ (i := 7) (N := some 44) (v := ?_) (a' := ?_) (bs 19 23807) rfl rfl (take_ofW HT_.out HW_.out (by kernel_rfl)) (fun _ _ _ h => h) (Or.inl ⟨by rfl, ?_⟩) hHeld ?_ ?_
                                            rotate_left
                                            · rintro w' ⟨s0, s1, s2, s3, s4⟩
                                              go_simp
                                              with_reducible rfl
                                            rotate_left; (simp only [Act.put, List.setIfInBounds_toArray, List.set_cons_zero, List.set_cons_succ, i64_w, i32_w]; rfl)
                                            refine pure_ (i := 8) (N := some 45) (v := ?_) (a' := ?_) (bs 19 24063) rfl rfl (any_of HT_.out (by kernel_rfl)) (fun _ _ _ h => h) (Or.inl ⟨by rfl, ?_⟩) ?_ ?_
                                            rotate_left; (intro w'; go_simp; with_reducible rfl); rotate_left; (simp only [Act.put, List.setIfInBounds_toArray, List.set_cons_zero, List.set_cons_succ, i64_w, i32_w]; rfl)
                                            refine take_ (i := 9) (N := some 46) (v := ?_) (a' := ?_) (bs 19 24575) rfl rfl (take_ofW HT_.out HW_.out (by kernel_rfl)) (fun _ _ _ h => h) (Or.inl ⟨by rfl, ?_⟩) hHeld ?_ ?_
                                            rotate_left
                                            · rintro w' ⟨s0, s1, s2, s3, s4⟩
                                              go_simp
                                              with_reducible rfl
                                            rotate_left; (simp only [Act.put, List.setIfInBounds_toArray, List.set_cons_zero, List.set_cons_succ, i64_w, i32_w]; rfl)
                                            refine take_ (i := 13) (N := some 50) (v := ?_) (a' := ?_) (bs 19 32767) rfl rfl (take_ofW HT_.out HW_.out (by kernel_rfl)) (fun _ _ _ h => h) (Or.inl ⟨by rfl, ?_⟩) hHeld ?_ ?_
                                            rotate_left
                                            · rintro w' ⟨s0, s1, s2, s3, s4⟩
                                              go_simp
                                              with_reducible rfl
                                            rotate_left; (simp only [Act.put, List.setIfInBounds_toArray, List.set_cons_zero, List.set_cons_succ, i64_w, i32_w]; rfl)
                                            refine pure_ (i := 15) (N := some 52) (v := ?_) (a' := ?_) (bs 19 65535) rfl rfl (any_of HT_.out (by kernel_rfl)) (fun _ _ _ h => h) (Or.inl ⟨by rfl, ?_⟩) ?_ ?_
                                            rotate_left; (intro w'; go_simp; with_reducible rfl); rotate_left; (simp only [Act.put, List.setIfInBounds_toArray, List.set_cons_zero, List.set_cons_succ, i64_w, i32_w]; rfl)
                                            refine take_ (i := 16) (N := some 53) (v := ?_) (a' := ?_) (bs 19 131071) rfl rfl (take_ofW HT_.out HW_.out (by kernel_rfl)) (fun _ _ _ h => h) (Or.inl ⟨by rfl, ?_⟩) hHeld ?_ ?_
                                            rotate_left
                                            · rintro w' ⟨s0, s1, s2, s3, s4⟩
                                              go_simp
                                              with_reducible rfl
                                            rotate_left; (simp only [Act.put, List.setIfInBounds_toArray, List.set_cons_zero, List.set_cons_succ, i64_w, i32_w]; rfl)
                                            refine pure_ (i := 17) (N := some 54) (v := ?_) (a' := ?_) (bs 19 262143) rfl rfl (any_of HT_.out (by kernel_rfl)) (fun _ _ _ h => h) (Or.inl ⟨by rfl, ?_⟩) ?_ ?_
                                            rotate_left; (intro w'; go_simp; with_reducible rfl); rotate_left; (simp only [Act.put, List.setIfInBounds_toArray, List.set_cons_zero, List.set_cons_succ, i64_w, i32_w]; rfl)
                                            refine last_ (i := 18) (N := none) (bs 19 524287) rfl rfl (one_of HT_.out (by kernel_rfl)) (by decide) (fun K hK => ?_)
                                            refine skip_ (w1 := ?_) (by rfl) rfl ?_ ?_
                                            rotate_left
                                            · go_simp
                                              rfl
                                            refine hK.out _ _ ?_
                                            clear hK K
                                            refine done_ (done_of HT_.out (by kernel_rfl)) ?_
                                            try go_wp2
                                            go_roundg k3
                                            case measure => have := HK1.out; have := HK2.out; have := HK3.out; omega
                                            case rel => exact ⟨(y741), (wrap64 (x7_3 + 1)), (by first | rfl | (simp; done) | (simp [*]; done)), H', ⟨by have := HK1.out; have := HK2.out; have := HK3.out; omega⟩, ⟨by (with_reducible repeat (first | apply Kd.S_alloc | apply Kd.S_drewN | apply Kd.S_drew)); exact HQ23.out⟩, ⟨by repeat (first | (with_reducible first | exact HB.out | apply below_alloc | apply pw_below_drewN | apply below_drew1 | refine below_set ?_ GB20.out) | exact HB.out)⟩⟩
                                          · rw [if_neg c19] at H
                                            exact absurd H (by simp)
                                        · rw [if_neg c18] at H
                                          exact absurd H (by simp)
                                      · rw [if_neg c17] at H
                                        exact absurd H (by simp)
                                    · rw [if_neg c16] at H
                                      exact absurd H (by simp)
                                  · rw [if_neg c15] at H
                                    exact absurd H (by simp)
                                · rw [if_neg c14] at H
                                  exact absurd H (by simp)
                              · rw [if_neg c13] at H
                                exact absurd H (by simp)
                          · rw [if_neg c11] at H
                            have c11b0 : decide (x7_3 < ((rd_L1 l1 x5_1).length : Int)) = false := decide_eq_false c11
                            clear c11
                            have H' := Aside0.mk H
                            clear H
                            have p733 : 0 ≤ (x5_1 : Int) := of_decide_eq_true (by first | (with_reducible assumption) | assumption)
                            have q733 : x5_1 < (l1.length : Int) := of_decide_eq_true (by first | (with_reducible assumption) | assumption)
                            obtain ⟨ad733, A733_0, c733_0, e733, hx733_0, hl733_0, hi733_0⟩ := at_L1 HR1.out x5_1 p733 q733
                            obtain rfl : ad732 = ad733 := (by injection e733)
                            replace hx733_0 := (HB.out.cell (World.block_lt_of_cell? w _ hx733_0)).trans hx733_0
                            have HR733_0 := Aside0.mk hi733_0
                            have HC733_0 := Aside0.mk hl733_0
                            clear hi733_0 hl733_0
                            replace p733 := eq_true p733
                            replace q733 := eq_true q733
                            go_wp2
                            go_roundg k3
                            case measure => have := HK1.out; have := HK2.out; have := HK3.out; omega
                            case rel => exact ⟨(x0_3), (wrap64 (x6_2 + 1)), (by first | rfl | (simp; done) | (simp [*]; done)), H', ⟨by have := HK1.out; have := HK2.out; have := HK3.out; omega⟩, ⟨by (with_reducible repeat (first | apply Kd.S_alloc | apply Kd.S_drewN | apply Kd.S_drew)); exact HO_0.out⟩, ⟨by repeat (first | (with_reducible first | exact HB.out | apply below_alloc | apply pw_below_drewN | apply below_drew1) | exact HB.out)⟩⟩
                        · rw [if_neg c10] at H
                          exact absurd H (by simp)
                      · rw [if_neg c9] at H
                        exact absurd H (by simp)
                · rw [if_neg c8] at H
                  have c8b0 : decide (x6_2 < ((rd_L1 l1 x5_1).length : Int)) = false := decide_eq_false c8
                  clear c8
                  have H' := Aside0.mk H
                  clear H
                  have p732 : 0 ≤ (x5_1 : Int) := of_decide_eq_true (by first | (with_reducible assumption) | assumption)
                  have q732 : x5_1 < (l1.length : Int) := of_decide_eq_true (by first | (with_reducible assumption) | assumption)
                  obtain ⟨ad732, A732_0, c732_0, e732, hx732_0, hl732_0, hi732_0⟩ := at_L1 HR1.out x5_1 p732 q732
                  cases e732
                  replace hx732_0 := (HB.out.cell (World.block_lt_of_cell? w _ hx732_0)).trans hx732_0
                  have HR732_0 := Aside0.mk hi732_0
                  have HC732_0 := Aside0.mk hl732_0
                  clear hi732_0 hl732_0
                  replace p732 := eq_true p732
                  replace q732 := eq_true q732
                  go_wp2
                  go_roundg k2
                  case measure => have := HK1.out; have := HK2.out; omega
                  case rel => exact ⟨(x0_2), (wrap64 (x5_1 + 1)), (by first | rfl | (simp; done) | (simp [*]; done)), H', ⟨by have := HK1.out; have := HK2.out; omega⟩, ⟨by (with_reducible repeat (first | apply Kd.S_alloc | apply Kd.S_drewN | apply Kd.S_drew)); exact HO_0.out⟩, ⟨by repeat (first | (with_reducible first | exact HB.out | apply below_alloc | apply pw_below_drewN | apply below_drew1) | exact HB.out)⟩⟩
              · rw [if_neg c7] at H
                exact absurd H (by simp)
            · rw [if_neg c6] at H
              exact absurd H (by simp)
      · rw [if_neg c5] at H
        have c5b0 : decide (x5_1 < (l1.length : Int)) = false := decide_eq_false c5
        clear c5
        obtain rfl := Option.some.inj H
        go_wp2
        go_ret
        exact ⟨_, by first | rfl | (simp [errW_none, errW_some] <;> rfl) | (simp [*, errW_none, errW_some] <;> rfl), by (with_reducible repeat (first | apply Kd.S_alloc | apply Kd.S_drewN | apply Kd.S_drew)); exact HO_0.out, by repeat (first | (with_reducible first | exact HB.out | apply below_alloc | apply pw_below_drewN | apply below_drew1) | exact HB.out)⟩

end Go.Proofs.YtbdlelojlnhhfaaDoor.Pr
