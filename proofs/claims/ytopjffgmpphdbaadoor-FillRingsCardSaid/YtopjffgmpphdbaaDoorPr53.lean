-- Printed by a program of this session's own (wip/tools/pp.py) over the kit's print.py; Lean checks it.
import Derived.Test.YtopjffgmpphdbaaDoorPr0
import Derived.Test.YtopjffgmpphdbaaDoorPr29
import Derived.Test.YtopjffgmpphdbaaDoorPr30
namespace Go.Proofs.YtopjffgmpphdbaaDoor.Pr
open Go.RowKit Go.Proofs.YtopjffgmpphdbaaDoorW.PrintWords Go.Proofs.YtopjffgmpphdbaaDoorW.PrintLast Go.Proofs.YtopjffgmpphdbaaDoorW.PrintMore
attribute [local go_sem] max2_int min2_int max_two min_two max_three min_three max_four min_four   -- for this text's walks alone
set_option linter.unusedVariables false
set_option linter.unusedSimpArgs false

/-! ### arboristlaw10_FillRings: function 8 -/
mutual
def arboristlaw10_FillRings.l0 : Nat → Int → Int → Bool → List (List Bool) → Int → Option (Bool)
  | 0, _, _, _, _, _ => none
  | k + 1, x0, x1, x5, x6, x7 => if x7 < x0 then (if x0 = 0 then (none) else (if 0 ≤ x7 then (if x7 < (x6.length : Int) then (if 0 ≤ (Int.tmod (wrap64 (x7 + 1)) x0) then (if (Int.tmod (wrap64 (x7 + 1)) x0) < ((rd_L7 x6 x7).length : Int) then ((some (x6.set (x7 : Int).toNat ((rd_L7 x6 x7).set ((Int.tmod (wrap64 (x7 + 1)) x0) : Int).toNat true) : List (List Bool))).bind fun y725 => (if (Int.tmod (wrap64 (x7 + 1)) x0) < (x6.length : Int) then (if x7 < ((rd_L7 y725 (Int.tmod (wrap64 (x7 + 1)) x0)).length : Int) then (arboristlaw10_FillRings.l0 k x0 x1 x5 (y725.set ((Int.tmod (wrap64 (x7 + 1)) x0) : Int).toNat ((rd_L7 y725 (Int.tmod (wrap64 (x7 + 1)) x0)).set (x7 : Int).toNat true)) (wrap64 (x7 + 1))) else (none)) else (none))) else (none)) else (none)) else (none)) else (none))) else ((arboristref08_Graph.f k x6).bind fun t730 => ((fill_Chordal.f k t730).bind fun t733 => (if x0 = 0 then (none) else (arboristlaw10_FillRings.l1 k x0 (Int.tmod (Go.bits .and .i64 x1 65535) x0) x5 x6 t733 0))))
def arboristlaw10_FillRings.l1 : Nat → Int → Int → Bool → List (List Bool) → Bool → Int → Option (Bool)
  | 0, _, _, _, _, _, _ => none
  | k + 1, x0, x1, x5, x6, x9, x10 => if x10 < x0 then (if x10 = x1 then (arboristlaw10_FillRings.l1 k x0 x1 x5 x6 x9 (wrap64 (x10 + 1))) else (if 0 ≤ x1 then (if x1 < (x6.length : Int) then (if 0 ≤ x10 then (if x10 < ((rd_L7 x6 x1).length : Int) then ((some (x6.set (x1 : Int).toNat ((rd_L7 x6 x1).set (x10 : Int).toNat true) : List (List Bool))).bind fun y737 => (if x10 < (x6.length : Int) then (if x1 < ((rd_L7 y737 x10).length : Int) then (arboristlaw10_FillRings.l1 k x0 x1 x5 (y737.set (x10 : Int).toNat ((rd_L7 y737 x10).set (x1 : Int).toNat true)) x9 (wrap64 (x10 + 1))) else (none)) else (none))) else (none)) else (none)) else (none)) else (none))) else (if x5 = true then (if x9 = true then (some false) else ((arboristref08_Graph.f k x6).bind fun t742 => ((fill_Chordal.f k t742).bind fun t745 => (some t745)))) else (some false))
end
def arboristlaw10_FillRings.f (k : Nat) (a0 : Int) (a1 : Int) : Option (Bool) := (arboristlaw10_shown.f k).bind fun t718 => ((arboristref08_Empty.f k (wrap64 (4 + (Int.tmod (Go.bits .and .i64 a0 65535) 6)))).bind fun t719 => (arboristlaw10_FillRings.l0 k (wrap64 (4 + (Int.tmod (Go.bits .and .i64 a0 65535) 6))) a1 t718 t719 0))
theorem arboristlaw10_FillRings.mono_l : ∀ k, (∀ y0 y1 y2 y3 y4, LeO (arboristlaw10_FillRings.l0 k y0 y1 y2 y3 y4) (arboristlaw10_FillRings.l0 (k + 1) y0 y1 y2 y3 y4)) ∧ (∀ y0 y1 y2 y3 y4 y5, LeO (arboristlaw10_FillRings.l1 k y0 y1 y2 y3 y4 y5) (arboristlaw10_FillRings.l1 (k + 1) y0 y1 y2 y3 y4 y5))
  | 0 => ⟨fun _ _ _ _ _ r h => by simp [arboristlaw10_FillRings.l0] at h, fun _ _ _ _ _ _ r h => by simp [arboristlaw10_FillRings.l1] at h⟩
  | k + 1 => by
    obtain ⟨ih0, ih1⟩ := arboristlaw10_FillRings.mono_l k
    refine ⟨?_, ?_⟩
    all_goals intros
    all_goals (first | unfold arboristlaw10_FillRings.l0 | unfold arboristlaw10_FillRings.l1)
    all_goals repeat' first
    | (with_reducible exact ih0 _ _ _ _ _)
    | (with_reducible exact ih1 _ _ _ _ _ _)
    | (with_reducible exact arboristlaw10_shown.mono _)
    | (with_reducible exact arboristref08_Empty.mono _ _)
    | (with_reducible exact arboristref08_Graph.mono _ _)
    | (with_reducible exact fill_Chordal.mono _ _)
    | (with_reducible exact LeO.refl _)
    | (with_reducible exact LeO.none _)
    | (with_reducible refine LeO.ite ?_ ?_)
    | (with_reducible refine LeO.bind ?_ (fun _ => ?_))
    | exact ih0 _ _ _ _ _
    | exact ih1 _ _ _ _ _ _
    | exact arboristlaw10_shown.mono _
    | exact arboristref08_Empty.mono _ _
    | exact arboristref08_Graph.mono _ _
    | exact fill_Chordal.mono _ _
    | exact LeO.none _
    | refine LeO.ite ?_ ?_
    | refine LeO.bind ?_ (fun _ => ?_)
theorem arboristlaw10_FillRings.mono : ∀ a0 a1 k, LeO (arboristlaw10_FillRings.f k a0 a1) (arboristlaw10_FillRings.f (k + 1) a0 a1) := by
  intro a0 a1 k
  obtain ⟨ih0, ih1⟩ := arboristlaw10_FillRings.mono_l k
  unfold arboristlaw10_FillRings.f
  repeat' first
      | (with_reducible exact ih0 _ _ _ _ _)
      | (with_reducible exact ih1 _ _ _ _ _ _)
      | (with_reducible exact arboristlaw10_shown.mono _)
      | (with_reducible exact arboristref08_Empty.mono _ _)
      | (with_reducible exact arboristref08_Graph.mono _ _)
      | (with_reducible exact fill_Chordal.mono _ _)
      | (with_reducible exact LeO.refl _)
      | (with_reducible exact LeO.none _)
      | (with_reducible refine LeO.ite ?_ ?_)
      | (with_reducible refine LeO.bind ?_ (fun _ => ?_))
      | exact ih0 _ _ _ _ _
      | exact ih1 _ _ _ _ _ _
      | exact arboristlaw10_shown.mono _
      | exact arboristref08_Empty.mono _ _
      | exact arboristref08_Graph.mono _ _
      | exact fill_Chordal.mono _ _
      | exact LeO.none _
      | refine LeO.ite ?_ ?_
      | refine LeO.bind ?_ (fun _ => ?_)
set_option maxHeartbeats 8000000 in
set_option maxRecDepth 100000 in
theorem arboristlaw10_FillRings.calls (k : Nat) (a0 : Int) (a1 : Int) (r : Bool) (w : World) (hTb : Tab64 w) (hT : r = true) (h : arboristlaw10_FillRings.f k a0 a1 = some r) :
    Calls Tryd.prog 8 #[.int .i64 a0, .int .i64 a1] w fun e w' => e = .returned (.bool r) ∧ Below w.heap.size w w' := by
  have HTAB := Aside0.mk hTb
  clear hTb
  have HT_ := Aside0.mk (show r = true from hT)
  clear hT
  have HB := Aside0.mk (Below.refl w.heap.size w)
  have H : ((arboristlaw10_shown.f k).bind fun t718 => ((arboristref08_Empty.f k (wrap64 (4 + (Int.tmod (Go.bits .and .i64 a0 65535) 6)))).bind fun t719 => (arboristlaw10_FillRings.l0 k (wrap64 (4 + (Int.tmod (Go.bits .and .i64 a0 65535) 6))) a1 t718 t719 0))) = some r := h
  clear h
  replace H := Option.bind_eq_some_iff.mp H
  obtain ⟨t718, A30, H⟩ := H
  replace H : ((arboristref08_Empty.f k (wrap64 (4 + (Int.tmod (Go.bits .and .i64 a0 65535) 6)))).bind fun t719 => (arboristlaw10_FillRings.l0 k (wrap64 (4 + (Int.tmod (Go.bits .and .i64 a0 65535) 6))) a1 t718 t719 0)) = some r := H
  have A3 := Aside0.mk A30
  clear A30
  replace H := Option.bind_eq_some_iff.mp H
  obtain ⟨t719, A40, H⟩ := H
  replace H : (arboristlaw10_FillRings.l0 k (wrap64 (4 + (Int.tmod (Go.bits .and .i64 a0 65535) 6))) a1 t718 t719 0) = some r := H
  have A4 := Aside0.mk A40
  clear A40
  have H' := Aside0.mk H
  clear H
  go_enter Tryd.func8, Tryd.ntmps8
  go_wp2_with (first | ((with_reducible refine gate_callee (f := 10) rfl ?_); refine goesL_ (some 11) rfl rfl Tryd.func10 (by kernel_rfl) rfl #[] rfl (by (try simp only [List.map_toArray, List.map_cons, List.map_nil]); first | done | rfl | (simp only [List.length_drop, List.length_take]; rfl)) ?_; (with_reducible refine (arboristlaw10_shown.calls (hTb := (by first | exact HTAB.out | exact tab_drewN HTAB.out _ | exact tab_below HTAB.out (by repeat (first | (with_reducible first | exact HB.out | apply below_alloc | apply pw_below_drewN | apply below_drew1) | exact HB.out)))) k  t718 _ A3.out).mono ?_); rintro e w5 ⟨rfl, hb⟩; refine ⟨_, rfl, ?_⟩; have n0_ := Aside0.mk (below_step (by repeat (first | (with_reducible first | exact HB.out | apply below_alloc | apply pw_below_drewN | apply below_drew1) | exact HB.out)) hb); clear HB; have HB := n0_; clear n0_; (try clear hb); (try clear hb2); (try clear hk); (try clear hi)) | ((with_reducible refine gate_callee (f := 31) rfl ?_); refine goesL_ (some 17) rfl rfl Tryd.func31 (by kernel_rfl) rfl #[.int .i64 (wrap64 (4 + (Int.tmod (Go.bits .and .i64 a0 65535) 6)))] rfl (by (try simp only [List.map_toArray, List.map_cons, List.map_nil]); first | done | rfl | (simp only [List.length_drop, List.length_take]; rfl)) ?_; (with_reducible refine (arboristref08_Empty.calls k (wrap64 (4 + (Int.tmod (Go.bits .and .i64 a0 65535) 6))) t719 _ A4.out).mono ?_); rintro e w6 ⟨v720, rfl, ho0, hb⟩; refine ⟨_, rfl, ?_⟩; have n0_ := Aside0.mk (Kd.S_lower ho0 (below_size (by repeat (first | (with_reducible first | exact HB.out | apply below_alloc | apply pw_below_drewN | apply below_drew1) | exact HB.out)))); have n1_ := Aside0.mk (below_step (by repeat (first | (with_reducible first | exact HB.out | apply below_alloc | apply pw_below_drewN | apply below_drew1) | exact HB.out)) hb); clear HB; have HO721 := n0_; have HB := n1_; clear n0_ n1_; (try clear hb); (try clear hb2); (try clear hk); (try clear hi); (try clear ho0)))
  go_loopg [7] k (fun kq v7 w' => ∃ (x6_1 : List (List Bool)) (x7_1 : Int), v7 = .int .i64 x7_1 ∧ Aside0 (arboristlaw10_FillRings.l0 kq (wrap64 (4 + (Int.tmod (Go.bits .and .i64 a0 65535) 6))) a1 t718 x6_1 x7_1 = some r) ∧ Aside0 (kq ≤ k) ∧ Aside0 (Kd.S (Kd.slice 4 Kd.bool) 55 w' w.heap.size (fun _ => True) v720 x6_1) ∧ Aside0 (Below w.heap.size w w'))
  case atStart => exact ⟨(t719), (0), (by first | rfl | (simp; done) | (simp [*]; done)), H', ⟨Nat.le_refl _⟩, ⟨by (with_reducible repeat (first | apply Kd.S_alloc | apply Kd.S_drewN | apply Kd.S_drew)); exact HO721.out⟩, ⟨by repeat (first | (with_reducible first | exact HB.out | apply below_alloc | apply pw_below_drewN | apply below_drew1) | exact HB.out)⟩⟩
  case round =>
    clear H'
    try clear c1
    try clear p2
    try clear c3
    try clear p6
    obtain ⟨x6_1, x7_1, rfl, HA, HK1, HO_6, HB⟩ := hrel
    cases gk with
    | zero => exact absurd HA.out (by simp [arboristlaw10_FillRings.l0])
    | succ k1 =>
      have H := HA.out
      clear HA
      simp only [arboristlaw10_FillRings.l0] at H
      by_cases c7 : x7_1 < (wrap64 (4 + (Int.tmod (Go.bits .and .i64 a0 65535) 6)))
      · rw [if_pos c7] at H
        have c7b0 : decide (x7_1 < (wrap64 (4 + (Int.tmod (Go.bits .and .i64 a0 65535) 6)))) = true := decide_eq_true c7
        clear c7
        by_cases c8 : (wrap64 (4 + (Int.tmod (Go.bits .and .i64 a0 65535) 6))) = 0
        · rw [if_pos c8] at H
          exact absurd H (by simp)
        · rw [if_neg c8] at H
          have c8b0 : ((wrap64 (4 + (Int.tmod (Go.bits .and .i64 a0 65535) 6))) == 0) = false := beq_eq_false_iff_ne.mpr c8
          have c8b1 : ((wrap64 (4 + (Int.tmod (Go.bits .and .i64 a0 65535) 6))) != 0) = true := bne_iff_ne.mpr c8
          by_cases c9 : 0 ≤ x7_1
          · rw [if_pos c9] at H
            have c9b0 : decide (0 ≤ x7_1) = true := decide_eq_true c9
            clear c9
            by_cases c10 : x7_1 < (x6_1.length : Int)
            · rw [if_pos c10] at H
              have c10b0 : decide (x7_1 < (x6_1.length : Int)) = true := decide_eq_true c10
              clear c10
              obtain ⟨ji11, hji11⟩ : ∃ j_ : Int, (Int.tmod (wrap64 (x7_1 + 1)) (wrap64 (4 + (Int.tmod (Go.bits .and .i64 a0 65535) 6)))) = j_ := ⟨_, rfl⟩
              (try (have hji11z := hji11; rw [show wrap64 (x7_1 + 1) = (x7_1 + 1) from (by unfold wrap64; omega)] at hji11z))
              replace H : (if 0 ≤ (ji11) then (if (ji11) < ((rd_L7 x6_1 x7_1).length : Int) then ((some (x6_1.set (x7_1 : Int).toNat ((rd_L7 x6_1 x7_1).set ((ji11) : Int).toNat true) : List (List Bool))).bind fun y725 => (if (ji11) < (x6_1.length : Int) then (if x7_1 < ((rd_L7 y725 (ji11)).length : Int) then (arboristlaw10_FillRings.l0 k1 (wrap64 (4 + (Int.tmod (Go.bits .and .i64 a0 65535) 6))) a1 t718 (y725.set ((ji11) : Int).toNat ((rd_L7 y725 (ji11)).set (x7_1 : Int).toNat true)) (wrap64 (x7_1 + 1))) else (none)) else (none))) else (none)) else (none)) = some r := by first | (rw [hji11] at H; exact H) | (simp only [hji11] at H ⊢; exact H)
              by_cases c12 : 0 ≤ (ji11)
              · rw [if_pos c12] at H
                have c12b0 : decide (0 ≤ (ji11)) = true := decide_eq_true c12
                clear c12
                by_cases c13 : (ji11) < ((rd_L7 x6_1 x7_1).length : Int)
                · rw [if_pos c13] at H
                  have c13b0 : decide ((ji11) < ((rd_L7 x6_1 x7_1).length : Int)) = true := decide_eq_true c13
                  clear c13
                  obtain ⟨y723, hy723⟩ : ∃ y_ : List Bool, y_ = ((rd_L7 x6_1 x7_1).set ((ji11) : Int).toNat true) := ⟨_, rfl⟩
                  replace H : ((some (x6_1.set (x7_1 : Int).toNat y723 : List (List Bool))).bind fun y725 => (if (ji11) < (x6_1.length : Int) then (if x7_1 < ((rd_L7 y725 (ji11)).length : Int) then (arboristlaw10_FillRings.l0 k1 (wrap64 (4 + (Int.tmod (Go.bits .and .i64 a0 65535) 6))) a1 t718 (y725.set ((ji11) : Int).toNat ((rd_L7 y725 (ji11)).set (x7_1 : Int).toNat true)) (wrap64 (x7_1 + 1))) else (none)) else (none))) = some r := by first | (rw [hy723]; with_reducible exact H) | (have H2_ := (Option.bind_some _ _).symm.trans H; rw [hy723]; with_reducible exact H2_) | (have H2_ := (Option.bind_some _ _).symm.trans H; with_reducible exact H2_) | with_reducible exact H | (rw [hy723]; exact H) | exact H
                  have Ny723 := Aside0.mk hy723
                  clear hy723
                  obtain ⟨y725, hy725⟩ : ∃ y_ : List (List Bool), y_ = (x6_1.set (x7_1 : Int).toNat y723) := ⟨_, rfl⟩
                  replace H : (if (ji11) < (x6_1.length : Int) then (if x7_1 < ((rd_L7 y725 (ji11)).length : Int) then (arboristlaw10_FillRings.l0 k1 (wrap64 (4 + (Int.tmod (Go.bits .and .i64 a0 65535) 6))) a1 t718 (y725.set ((ji11) : Int).toNat ((rd_L7 y725 (ji11)).set (x7_1 : Int).toNat true)) (wrap64 (x7_1 + 1))) else (none)) else (none)) = some r := by first | (rw [hy725]; with_reducible exact H) | (have H2_ := (Option.bind_some _ _).symm.trans H; rw [hy725]; with_reducible exact H2_) | (have H2_ := (Option.bind_some _ _).symm.trans H; with_reducible exact H2_) | with_reducible exact H | (rw [hy725]; exact H) | exact H
                  have Ny725 := Aside0.mk hy725
                  clear hy725
                  by_cases c15 : (ji11) < (x6_1.length : Int)
                  · rw [if_pos c15] at H
                    have c15b0 : decide ((ji11) < (x6_1.length : Int)) = true := decide_eq_true c15
                    clear c15
                    by_cases c16 : x7_1 < ((rd_L7 y725 (ji11)).length : Int)
                    · rw [if_pos c16] at H
                      have c16b0 : decide (x7_1 < ((rd_L7 y725 (ji11)).length : Int)) = true := decide_eq_true c16
                      clear c16
                      obtain ⟨y727, hy727⟩ : ∃ y_ : List Bool, y_ = ((rd_L7 y725 (ji11)).set (x7_1 : Int).toNat true) := ⟨_, rfl⟩
                      replace H : (arboristlaw10_FillRings.l0 k1 (wrap64 (4 + (Int.tmod (Go.bits .and .i64 a0 65535) 6))) a1 t718 (y725.set ((ji11) : Int).toNat y727) (wrap64 (x7_1 + 1))) = some r := by first | (rw [hy727]; with_reducible exact H) | (have H2_ := (Option.bind_some _ _).symm.trans H; rw [hy727]; with_reducible exact H2_) | (have H2_ := (Option.bind_some _ _).symm.trans H; with_reducible exact H2_) | with_reducible exact H | (rw [hy727]; exact H) | exact H
                      have Ny727 := Aside0.mk hy727
                      clear hy727
                      obtain ⟨y729, hy729⟩ : ∃ y_ : List (List Bool), y_ = (y725.set ((ji11) : Int).toNat y727) := ⟨_, rfl⟩
                      replace H : (arboristlaw10_FillRings.l0 k1 (wrap64 (4 + (Int.tmod (Go.bits .and .i64 a0 65535) 6))) a1 t718 y729 (wrap64 (x7_1 + 1))) = some r := by first | (rw [hy729]; with_reducible exact H) | (have H2_ := (Option.bind_some _ _).symm.trans H; rw [hy729]; with_reducible exact H2_) | (have H2_ := (Option.bind_some _ _).symm.trans H; with_reducible exact H2_) | with_reducible exact H | (rw [hy729]; exact H) | exact H
                      have Ny729 := Aside0.mk hy729
                      clear hy729
                      have H' := Aside0.mk H
                      clear H
                      obtain ⟨Ao18, co18, eo18⟩ := Kd.S_slice HO_6.out
                      subst eo18
                      have p722 : 0 ≤ (x7_1 : Int) := of_decide_eq_true (by first | (with_reducible assumption) | assumption)
                      have q722 : x7_1 < (x6_1.length : Int) := of_decide_eq_true (by first | (with_reducible assumption) | assumption)
                      obtain ⟨ad722, A722_0, c722_0, e722, hx722_0, hl722_0, hi722_0⟩ := at_L7 (Kd.S_reads' HO_6.out).2.2 x7_1 p722 q722
                      cases e722
                      obtain ⟨ce722, hce722, hMe722, hcc722⟩ := Kd.S_get HO_6.out [] x7_1 p722 (by first | exact q722 | exact of_decide_eq_true (by first | (with_reducible assumption) | assumption) | (have e_ := (Kd.S_reads' HO_6.out).1; omega))
                      obtain ⟨ve722_0, rfl, ge722_0⟩ := hMe722
                      have hv722_0 := hcc722 0 _ rfl
                      rw [Nat.add_zero, show ((Kd.slice 4 Kd.bool)).sz = 1 from rfl, Nat.mul_one] at hv722_0
                      replace hv722_0 := Option.some.inj (hv722_0.symm.trans hx722_0)
                      rw [hv722_0] at ge722_0
                      have HL722_0 := Aside0.mk (show Kd.R Kd.bool 4 _ _ _ _ (rd_L7 x6_1 x7_1) from ge722_0)
                      clear hv722_0 ge722_0
                      have HX722_0 := Aside0.mk hx722_0
                      clear hcc722 hce722
                      have HR722_0 := Aside0.mk hi722_0
                      have HC722_0 := Aside0.mk hl722_0
                      clear hi722_0 hl722_0
                      replace p722 := eq_true p722
                      replace q722 := eq_true q722
                      have p14 : 0 ≤ ((ji11) : Int) := of_decide_eq_true (by first | (with_reducible assumption) | assumption)
                      have q14 : ((ji11) : Int) < (((rd_L7 x6_1 x7_1).length : Int) : Int) := of_decide_eq_true (by first | (with_reducible assumption) | assumption)
                      obtain ⟨go14, co14, eo14, gb14, gl14, cl14, HG14⟩ := Kd.R_form HL722_0.out (by omega)
                      (first | cases eo14 | (injection eo14 with ea_ en_ ec_; (first | subst ea_ | (injection ea_ with ea_; subst ea_)); subst ec_; clear en_))
                      have GB14 := Aside0.mk gb14
                      have GG14 := Aside0.mk HG14
                      clear gb14 gl14 HG14
                      obtain ⟨hx14_0, hf14_0⟩ := Kd.R_celln false HL722_0.out ((ji11) : Int) p14 q14
                      replace p14 := eq_true p14
                      replace q14 := eq_true q14
                      have hq19 : (x7_1 : Int) < (x6_1.length : Int) := (by have h_ : (x7_1 : Int) < ((x6_1.length : Int) : Int) := of_decide_eq_true (by first | (with_reducible assumption) | assumption); first | exact h_ | (have e_ := (Kd.S_reads' HO_6.out).1; omega) | simpa only [List.length_set, List.length_set] using h_)
                      obtain ⟨oki19, ce19, hcl19, hM19, hcc19, hok19, hbk19⟩ := Kd.S_borrow HO_6.out [] (x7_1 : Int) (of_decide_eq_true (by first | (with_reducible assumption) | assumption)) (by first | exact hq19 | (have e_ := (Kd.S_reads' HO_6.out).1; have h_ := hq19; omega))
                      obtain ⟨ve19_0, rfl, ge19_0⟩ := hM19
                      have hv19 := hcc19 0 _ rfl
                      rw [Nat.add_zero, show ((Kd.slice 4 Kd.bool)).sz = 1 from rfl, Nat.mul_one] at hv19
                      replace hv19 := Option.some.inj (hv19.symm.trans HX722_0.out)
                      subst hv19
                      clear hcc19 hcl19
                      replace ge19_0 := (show Kd.R Kd.bool 4 _ _ _ _ (rd_L7 x6_1 x7_1) from ge19_0)
                      have HP19 := Kd.R_putg ge19_0 ((ji11) : Int) true
                      go_wp2_with (first | ((with_reducible refine gate_store (t := 4) (p := 32) rfl ?_); refine store_event (t := 4) (p := 32) (v := ?vo_w20) (w1 := (wr.setCell ⟨go14, ((ji11) : Int).toNat, none⟩ (.bool true))) ?hg ?ho ?hn ?hr ?_; (case ho => rfl); (case hg => rfl); (case hn => rfl); (case hr => first | (go_simp; done) | (go_simp; rfl)); intro w20 hw; have hg : wr.grownBy w20 (some go14) := (by rw [hw]; exact HP19.2); have hz_ : Kd.R Kd.bool 4 w20 w.heap.size oki19 (.slice (some ⟨go14, 0, none⟩) (rd_L7 x6_1 x7_1).length c722_0) y723 := (by rw [hw, Ny723.out]; exact HP19.1); have hp_ : Kd.S (Kd.slice 4 Kd.bool) 55 w20 w.heap.size (fun _ => True) (.slice (some ad722) x6_1.length co18) y725 := (by rw [Ny725.out]; exact hbk19 hg (fun k_ e_ => by injection e_ with e_; subst e_; exact ge19_0.1 _ rfl) (Kd.M_row hz_)); have hm_ := Kd.R_mono hz_ hok19; clear HP19 hbk19; have n0_ := Aside0.mk (hp_); have n1_ := Aside0.mk ((by rw [hw]; exact below_set (HB.out) GB14.out : Below w.heap.size w w20)); have n2_ := Aside0.mk (hm_); have n3_ := Aside0.mk ((Kd.R_reads' hm_).2.1); clear HO_6; clear HB; clear HL722_0; have HO_6 := n0_; have HB := n1_; have HL746 := n2_; have HC724 := n3_; clear n0_ n1_ n2_ n3_; clear hg hw hp_ hz_ hm_ hok19; have p726 : 0 ≤ ((ji11) : Int) := of_decide_eq_true (by first | (with_reducible assumption) | assumption); have q726 : (ji11) < (y725.length : Int) := (by have h_ : ((ji11) : Int) < ((x6_1.length : Int) : Int) := of_decide_eq_true (by first | (with_reducible assumption) | assumption); first | (have e_ := (Kd.S_reads' HO_6.out).1; omega) | simpa only [Ny725.out, List.length_set] using h_); have ql726 : (((ji11) : Int) < ((x6_1.length : Int) : Int)) = True := eq_true (of_decide_eq_true (by first | (with_reducible assumption) | assumption)); obtain ⟨ad726, A726_0, c726_0, e726, hx726_0, hl726_0, hi726_0⟩ := at_L7 (Kd.S_reads' HO_6.out).2.2 (ji11) p726 q726; obtain rfl : ad722 = ad726 := (by injection e726); obtain ⟨ce726, hce726, hMe726, hcc726⟩ := Kd.S_get HO_6.out [] (ji11) p726 (by first | exact q726 | exact of_decide_eq_true (by first | (with_reducible assumption) | assumption) | (have e_ := (Kd.S_reads' HO_6.out).1; omega)); obtain ⟨ve726_0, rfl, ge726_0⟩ := hMe726; have hv726_0 := hcc726 0 _ rfl; rw [Nat.add_zero, show ((Kd.slice 4 Kd.bool)).sz = 1 from rfl, Nat.mul_one] at hv726_0; replace hv726_0 := Option.some.inj (hv726_0.symm.trans hx726_0); rw [hv726_0] at ge726_0; have HL726_0 := Aside0.mk (show Kd.R Kd.bool 4 _ _ _ _ (rd_L7 y725 (ji11)) from ge726_0); clear hv726_0 ge726_0; have HX726_0 := Aside0.mk hx726_0; clear hcc726 hce726; have HR726_0 := Aside0.mk hi726_0; have HC726_0 := Aside0.mk hl726_0; clear hi726_0 hl726_0; replace p726 := eq_true p726; replace q726 := eq_true q726; have p17 : 0 ≤ (x7_1 : Int) := of_decide_eq_true (by first | (with_reducible assumption) | assumption); have q17 : (x7_1 : Int) < (((rd_L7 y725 (ji11)).length : Int) : Int) := of_decide_eq_true (by first | (with_reducible assumption) | assumption); obtain ⟨go17, co17, eo17, gb17, gl17, cl17, HG17⟩ := Kd.R_form HL726_0.out (by omega); (first | cases eo17 | (injection eo17 with ea_ en_ ec_; (first | subst ea_ | (injection ea_ with ea_; subst ea_)); subst ec_; clear en_)); have GB17 := Aside0.mk gb17; have GG17 := Aside0.mk HG17; clear gb17 gl17 HG17; obtain ⟨hx17_0, hf17_0⟩ := Kd.R_celln false HL726_0.out (x7_1 : Int) p17 q17; replace p17 := eq_true p17; replace q17 := eq_true q17; have hq21 : ((ji11) : Int) < (y725.length : Int) := (by have h_ : ((ji11) : Int) < ((x6_1.length : Int) : Int) := of_decide_eq_true (by first | (with_reducible assumption) | assumption); first | exact h_ | (have e_ := (Kd.S_reads' HO_6.out).1; omega) | simpa only [Ny725.out, List.length_set] using h_); obtain ⟨oki21, ce21, hcl21, hM21, hcc21, hok21, hbk21⟩ := Kd.S_borrow HO_6.out [] ((ji11) : Int) (of_decide_eq_true (by first | (with_reducible assumption) | assumption)) (by first | exact hq21 | (have e_ := (Kd.S_reads' HO_6.out).1; have h_ := hq21; omega)); obtain ⟨ve21_0, rfl, ge21_0⟩ := hM21; have hv21 := hcc21 0 _ rfl; rw [Nat.add_zero, show ((Kd.slice 4 Kd.bool)).sz = 1 from rfl, Nat.mul_one] at hv21; replace hv21 := Option.some.inj (hv21.symm.trans HX726_0.out); subst hv21; clear hcc21 hcl21; replace ge21_0 := (show Kd.R Kd.bool 4 _ _ _ _ (rd_L7 y725 (ji11)) from ge21_0); have HP21 := Kd.R_putg ge21_0 (x7_1 : Int) true) | ((with_reducible refine gate_store (t := 4) (p := 38) rfl ?_); refine store_event (t := 4) (p := 38) (v := ?vo_w22) (w1 := (w20.setCell ⟨go17, (x7_1 : Int).toNat, none⟩ (.bool true))) ?hg ?ho ?hn ?hr ?_; (case ho => rfl); (case hg => rfl); (case hn => rfl); (case hr => first | (go_simp; done) | (go_simp; rfl)); intro w22 hw; have hg : w20.grownBy w22 (some go17) := (by rw [hw]; exact HP21.2); have hz_ : Kd.R Kd.bool 4 w22 w.heap.size oki21 (.slice (some ⟨go17, 0, none⟩) (rd_L7 y725 (ji11)).length c726_0) y727 := (by rw [hw, Ny727.out]; exact HP21.1); have hp_ : Kd.S (Kd.slice 4 Kd.bool) 55 w22 w.heap.size (fun _ => True) (.slice (some ad722) x6_1.length co18) y729 := (by rw [Ny729.out]; exact hbk21 hg (fun k_ e_ => by injection e_ with e_; subst e_; exact ge21_0.1 _ rfl) (Kd.M_row hz_)); have hm_ := Kd.R_mono hz_ hok21; clear HP21 hbk21; have n0_ := Aside0.mk (hp_); have n1_ := Aside0.mk ((by rw [hw]; exact below_set (HB.out) GB17.out : Below w.heap.size w w22)); have n2_ := Aside0.mk (hm_); have n3_ := Aside0.mk ((Kd.R_reads' hm_).2.1); clear HO_6; clear HB; clear HL746; clear HL726_0; have HO_6 := n0_; have HB := n1_; have HL747 := n2_; have HC728 := n3_; clear n0_ n1_ n2_ n3_; clear hg hw hp_ hz_ hm_ hok21))
                      first | go_roundg k1 | (simp only [← hji11]; (try simp only [← hji11] at H'); go_roundg k1)
                      case measure => have := HK1.out; omega
                      case rel => exact ⟨(y729), (wrap64 (x7_1 + 1)), (by first | rfl | (simp; done) | (simp [*]; done)), H', ⟨by have := HK1.out; omega⟩, ⟨by (with_reducible repeat (first | apply Kd.S_alloc | apply Kd.S_drewN | apply Kd.S_drew)); exact HO_6.out⟩, ⟨by repeat (first | (with_reducible first | exact HB.out | apply below_alloc | apply pw_below_drewN | apply below_drew1) | exact HB.out)⟩⟩
                    · rw [if_neg c16] at H
                      exact absurd H (by simp)
                  · rw [if_neg c15] at H
                    exact absurd H (by simp)
                · rw [if_neg c13] at H
                  exact absurd H (by simp)
              · rw [if_neg c12] at H
                exact absurd H (by simp)
            · rw [if_neg c10] at H
              exact absurd H (by simp)
          · rw [if_neg c9] at H
            exact absurd H (by simp)
      · rw [if_neg c7] at H
        have c7b0 : decide (x7_1 < (wrap64 (4 + (Int.tmod (Go.bits .and .i64 a0 65535) 6)))) = false := decide_eq_false c7
        clear c7
        replace H := Option.bind_eq_some_iff.mp H
        obtain ⟨t730, A230, H⟩ := H
        replace H : ((fill_Chordal.f k1 t730).bind fun t733 => (if (wrap64 (4 + (Int.tmod (Go.bits .and .i64 a0 65535) 6))) = 0 then (none) else (arboristlaw10_FillRings.l1 k1 (wrap64 (4 + (Int.tmod (Go.bits .and .i64 a0 65535) 6))) (Int.tmod (Go.bits .and .i64 a1 65535) (wrap64 (4 + (Int.tmod (Go.bits .and .i64 a0 65535) 6)))) t718 x6_1 t733 0))) = some r := H
        have A23 := Aside0.mk A230
        clear A230
        replace H := Option.bind_eq_some_iff.mp H
        obtain ⟨t733, A240, H⟩ := H
        replace H : (if (wrap64 (4 + (Int.tmod (Go.bits .and .i64 a0 65535) 6))) = 0 then (none) else (arboristlaw10_FillRings.l1 k1 (wrap64 (4 + (Int.tmod (Go.bits .and .i64 a0 65535) 6))) (Int.tmod (Go.bits .and .i64 a1 65535) (wrap64 (4 + (Int.tmod (Go.bits .and .i64 a0 65535) 6)))) t718 x6_1 t733 0)) = some r := H
        have A24 := Aside0.mk A240
        clear A240
        by_cases c25 : (wrap64 (4 + (Int.tmod (Go.bits .and .i64 a0 65535) 6))) = 0
        · rw [if_pos c25] at H
          exact absurd H (by simp)
        · rw [if_neg c25] at H
          have c25b0 : ((wrap64 (4 + (Int.tmod (Go.bits .and .i64 a0 65535) 6))) == 0) = false := beq_eq_false_iff_ne.mpr c25
          have c25b1 : ((wrap64 (4 + (Int.tmod (Go.bits .and .i64 a0 65535) 6))) != 0) = true := bne_iff_ne.mpr c25
          have H' := Aside0.mk H
          clear H
          obtain ⟨Ao26, co26, eo26⟩ := Kd.S_slice HO_6.out
          subst eo26
          go_wp2_with (first | ((with_reducible refine gate_callee (f := 12) rfl ?_); refine goesL_ (some 40) rfl rfl Tryd.func12 (by kernel_rfl) rfl #[.slice Ao26 x6_1.length co26] rfl (by (try simp only [List.map_toArray, List.map_cons, List.map_nil]); first | done | rfl | (simp only [List.length_drop, List.length_take]; rfl)) ?_; (with_reducible refine (arboristref08_Graph.calls k1 _ _ x6_1 t730 _ ?side1 ?side2 A23.out).mono ?_); (case side1 => repeat (first | exact (Kd.S_reads' HO_6.out).2.2 | (with_reducible refine Kd.C_alloc ?_ _) | (with_reducible refine Kd.C_drewN ?_ _) | (with_reducible refine Kd.C_drew ?_))); (case side2 => exact (Kd.S_reads' HO_6.out).2.1); rintro e w27 ⟨v731, rfl, ho0, hb⟩; refine ⟨_, rfl, ?_⟩; have n0_ := Aside0.mk (Kd.S_below (by (with_reducible repeat (first | apply Kd.S_alloc | apply Kd.S_drewN | apply Kd.S_drew)); exact HO_6.out) hb); have n1_ := Aside0.mk (Kd.R_lower ho0 (below_size (by repeat (first | (with_reducible first | exact HB.out | apply below_alloc | apply pw_below_drewN | apply below_drew1) | exact HB.out)))); have n2_ := Aside0.mk (below_step (by repeat (first | (with_reducible first | exact HB.out | apply below_alloc | apply pw_below_drewN | apply below_drew1) | exact HB.out)) hb); clear HO_6; clear HB; have HO_6 := n0_; have HO732 := n1_; have HB := n2_; clear n0_ n1_ n2_; (try clear hb); (try clear hb2); (try clear hk); (try clear hi); (try clear ho0); obtain ⟨Ao28, co28, eo28⟩ := Kd.R_slice HO732.out; subst eo28) | ((with_reducible refine gate_callee (f := 18) rfl ?_); refine goesL_ (some 41) rfl rfl Tryd.func18 (by kernel_rfl) rfl #[.agg #[.slice Ao28 t730.length co28]] rfl (by (try simp only [List.map_toArray, List.map_cons, List.map_nil]); first | done | rfl | (simp only [List.length_drop, List.length_take]; rfl)) ?_; (with_reducible refine (fill_Chordal.calls (hTb := (by first | exact HTAB.out | exact tab_drewN HTAB.out _ | exact tab_below HTAB.out (by repeat (first | (with_reducible first | exact HB.out | apply below_alloc | apply pw_below_drewN | apply below_drew1) | exact HB.out)))) k1 _ _ t730 t733 _ ?side1 ?side2 A24.out).mono ?_); (case side1 => repeat (first | exact (Kd.R_reads' HO732.out).2.2 | (with_reducible refine Kd.C_alloc ?_ _) | (with_reducible refine Kd.C_drewN ?_ _) | (with_reducible refine Kd.C_drew ?_))); (case side2 => exact (Kd.R_reads' HO732.out).2.1); rintro e w29 ⟨rfl, hb⟩; refine ⟨_, rfl, ?_⟩; have n0_ := Aside0.mk (Kd.S_below (by (with_reducible repeat (first | apply Kd.S_alloc | apply Kd.S_drewN | apply Kd.S_drew)); exact HO_6.out) hb); have n1_ := Aside0.mk (Kd.R_below (by (with_reducible repeat (first | apply Kd.R_alloc | apply Kd.R_drewN | apply Kd.R_drew)); exact HO732.out) hb); have n2_ := Aside0.mk (below_step (by repeat (first | (with_reducible first | exact HB.out | apply below_alloc | apply pw_below_drewN | apply below_drew1) | exact HB.out)) hb); clear HO_6; clear HO732; clear HB; have HO_6 := n0_; have HO732 := n1_; have HB := n2_; clear n0_ n1_ n2_; (try clear hb); (try clear hb2); (try clear hk); (try clear hi)))
          go_loopg [10] k1 (fun kq v10 w' => ∃ (x6_2 : List (List Bool)) (x10_2 : Int), v10 = .int .i64 x10_2 ∧ Aside0 (arboristlaw10_FillRings.l1 kq (wrap64 (4 + (Int.tmod (Go.bits .and .i64 a0 65535) 6))) (Int.tmod (Go.bits .and .i64 a1 65535) (wrap64 (4 + (Int.tmod (Go.bits .and .i64 a0 65535) 6)))) t718 x6_2 t733 x10_2 = some r) ∧ Aside0 (kq ≤ k1) ∧ Aside0 (Kd.S (Kd.slice 4 Kd.bool) 55 w' w.heap.size (fun _ => True) (.slice Ao26 x6_1.length co26) x6_2) ∧ Aside0 (Below w.heap.size w w'))
          case atStart => exact ⟨(x6_1), (0), (by first | rfl | (simp; done) | (simp [*]; done)), H', ⟨Nat.le_refl _⟩, ⟨by (with_reducible repeat (first | apply Kd.S_alloc | apply Kd.S_drewN | apply Kd.S_drew)); exact HO_6.out⟩, ⟨by repeat (first | (with_reducible first | exact HB.out | apply below_alloc | apply pw_below_drewN | apply below_drew1) | exact HB.out)⟩⟩
          case round =>
            clear H'
            try clear c1
            try clear p1
            try clear q1
            try clear hx1
            try clear c2
            try clear p2
            try clear q2
            try clear c3
            try clear p6
            try clear c7
            try clear c7b0
            try clear p7
            try clear q7
            try clear hx7
            try clear c8
            try clear c8b0
            try clear c8b1
            try clear c9
            try clear c9b0
            try clear c10
            try clear c10b0
            try clear c12
            try clear c12b0
            try clear c13
            try clear c13b0
            try clear p14
            try clear q14
            try clear hx14
            try clear hf14
            try clear c15
            try clear c15b0
            try clear c16
            try clear c16b0
            try clear p17
            try clear q17
            try clear hx17
            try clear hf17
            try clear c18
            try clear c19
            try clear q19
            try clear c21
            try clear q21
            try clear c25
            try clear c25b0
            try clear c25b1
            try clear hx14_0
            try clear hx17_0
            try clear hx722_0
            try clear hx726_0
            try clear p14
            try clear p17
            try clear p2
            try clear p6
            try clear p722
            try clear p726
            try clear q14
            try clear q17
            try clear q722
            try clear q726
            obtain ⟨x6_2, x10_2, rfl, HA, HK2, HO_6, HB⟩ := hrel
            have hl6_2 := (Kd.S_reads' HO_6.out).1
            rw [hl6_2] at HO_6
            (try simp only [hl6_2])
            cases gk with
            | zero => exact absurd HA.out (by simp [arboristlaw10_FillRings.l1])
            | succ k2 =>
              have H := HA.out
              clear HA
              simp only [arboristlaw10_FillRings.l1] at H
              by_cases c30 : x10_2 < (wrap64 (4 + (Int.tmod (Go.bits .and .i64 a0 65535) 6)))
              · rw [if_pos c30] at H
                have c30b0 : decide (x10_2 < (wrap64 (4 + (Int.tmod (Go.bits .and .i64 a0 65535) 6)))) = true := decide_eq_true c30
                clear c30
                by_cases c31 : x10_2 = (Int.tmod (Go.bits .and .i64 a1 65535) (wrap64 (4 + (Int.tmod (Go.bits .and .i64 a0 65535) 6))))
                · rw [if_pos c31] at H
                  have c31b0 : (x10_2 == (Int.tmod (Go.bits .and .i64 a1 65535) (wrap64 (4 + (Int.tmod (Go.bits .and .i64 a0 65535) 6))))) = true := beq_iff_eq.mpr c31
                  have c31b1 : (x10_2 != (Int.tmod (Go.bits .and .i64 a1 65535) (wrap64 (4 + (Int.tmod (Go.bits .and .i64 a0 65535) 6))))) = false := bne_eq_false_iff_eq.mpr c31
                  clear c31
                  have H' := Aside0.mk H
                  clear H
                  go_wp2
                  (try simp only [← hl6_2])
                  go_roundg k2
                  case measure => have := HK1.out; have := HK2.out; omega
                  case rel => exact ⟨(x6_2), (wrap64 (x10_2 + 1)), (by first | rfl | (simp; done) | (simp [*]; done)), H', ⟨by have := HK1.out; have := HK2.out; omega⟩, ⟨by (try simp only [hl6_2]); (with_reducible repeat (first | apply Kd.S_alloc | apply Kd.S_drewN | apply Kd.S_drew)); exact HO_6.out⟩, ⟨by repeat (first | (with_reducible first | exact HB.out | apply below_alloc | apply pw_below_drewN | apply below_drew1) | exact HB.out)⟩⟩
                · rw [if_neg c31] at H
                  have c31b0 : (x10_2 == (Int.tmod (Go.bits .and .i64 a1 65535) (wrap64 (4 + (Int.tmod (Go.bits .and .i64 a0 65535) 6))))) = false := beq_eq_false_iff_ne.mpr c31
                  have c31b1 : (x10_2 != (Int.tmod (Go.bits .and .i64 a1 65535) (wrap64 (4 + (Int.tmod (Go.bits .and .i64 a0 65535) 6))))) = true := bne_iff_ne.mpr c31
                  obtain ⟨ji32, hji32⟩ : ∃ j_ : Int, (Int.tmod (Go.bits .and .i64 a1 65535) (wrap64 (4 + (Int.tmod (Go.bits .and .i64 a0 65535) 6)))) = j_ := ⟨_, rfl⟩
                  replace H : (if 0 ≤ (ji32) then (if (ji32) < (x6_2.length : Int) then (if 0 ≤ x10_2 then (if x10_2 < ((rd_L7 x6_2 (ji32)).length : Int) then ((some (x6_2.set ((ji32) : Int).toNat ((rd_L7 x6_2 (ji32)).set (x10_2 : Int).toNat true) : List (List Bool))).bind fun y737 => (if x10_2 < (x6_2.length : Int) then (if (ji32) < ((rd_L7 y737 x10_2).length : Int) then (arboristlaw10_FillRings.l1 k2 (wrap64 (4 + (Int.tmod (Go.bits .and .i64 a0 65535) 6))) (ji32) t718 (y737.set (x10_2 : Int).toNat ((rd_L7 y737 x10_2).set ((ji32) : Int).toNat true)) t733 (wrap64 (x10_2 + 1))) else (none)) else (none))) else (none)) else (none)) else (none)) else (none)) = some r := by first | (rw [hji32] at H; exact H) | (simp only [hji32] at H ⊢; exact H)
                  (try rw [hji32] at c31b0)
                  (try rw [hji32] at c31b1)
                  by_cases c33 : 0 ≤ (ji32)
                  · rw [if_pos c33] at H
                    have c33b0 : decide (0 ≤ (ji32)) = true := decide_eq_true c33
                    clear c33
                    by_cases c34 : (ji32) < (x6_2.length : Int)
                    · rw [if_pos c34] at H
                      have c34b0 : decide ((ji32) < (x6_2.length : Int)) = true := decide_eq_true c34
                      clear c34
                      by_cases c35 : 0 ≤ x10_2
                      · rw [if_pos c35] at H
                        have c35b0 : decide (0 ≤ x10_2) = true := decide_eq_true c35
                        clear c35
                        by_cases c36 : x10_2 < ((rd_L7 x6_2 (ji32)).length : Int)
                        · rw [if_pos c36] at H
                          have c36b0 : decide (x10_2 < ((rd_L7 x6_2 (ji32)).length : Int)) = true := decide_eq_true c36
                          clear c36
                          obtain ⟨y735, hy735⟩ : ∃ y_ : List Bool, y_ = ((rd_L7 x6_2 (ji32)).set (x10_2 : Int).toNat true) := ⟨_, rfl⟩
                          replace H : ((some (x6_2.set ((ji32) : Int).toNat y735 : List (List Bool))).bind fun y737 => (if x10_2 < (x6_2.length : Int) then (if (ji32) < ((rd_L7 y737 x10_2).length : Int) then (arboristlaw10_FillRings.l1 k2 (wrap64 (4 + (Int.tmod (Go.bits .and .i64 a0 65535) 6))) (ji32) t718 (y737.set (x10_2 : Int).toNat ((rd_L7 y737 x10_2).set ((ji32) : Int).toNat true)) t733 (wrap64 (x10_2 + 1))) else (none)) else (none))) = some r := by first | (rw [hy735]; with_reducible exact H) | (have H2_ := (Option.bind_some _ _).symm.trans H; rw [hy735]; with_reducible exact H2_) | (have H2_ := (Option.bind_some _ _).symm.trans H; with_reducible exact H2_) | with_reducible exact H | (rw [hy735]; exact H) | exact H
                          have Ny735 := Aside0.mk hy735
                          clear hy735
                          obtain ⟨y737, hy737⟩ : ∃ y_ : List (List Bool), y_ = (x6_2.set ((ji32) : Int).toNat y735) := ⟨_, rfl⟩
                          replace H : (if x10_2 < (x6_2.length : Int) then (if (ji32) < ((rd_L7 y737 x10_2).length : Int) then (arboristlaw10_FillRings.l1 k2 (wrap64 (4 + (Int.tmod (Go.bits .and .i64 a0 65535) 6))) (ji32) t718 (y737.set (x10_2 : Int).toNat ((rd_L7 y737 x10_2).set ((ji32) : Int).toNat true)) t733 (wrap64 (x10_2 + 1))) else (none)) else (none)) = some r := by first | (rw [hy737]; with_reducible exact H) | (have H2_ := (Option.bind_some _ _).symm.trans H; rw [hy737]; with_reducible exact H2_) | (have H2_ := (Option.bind_some _ _).symm.trans H; with_reducible exact H2_) | with_reducible exact H | (rw [hy737]; exact H) | exact H
                          have Ny737 := Aside0.mk hy737
                          clear hy737
                          by_cases c38 : x10_2 < (x6_2.length : Int)
                          · rw [if_pos c38] at H
                            have c38b0 : decide (x10_2 < (x6_2.length : Int)) = true := decide_eq_true c38
                            clear c38
                            by_cases c39 : (ji32) < ((rd_L7 y737 x10_2).length : Int)
                            · rw [if_pos c39] at H
                              have c39b0 : decide ((ji32) < ((rd_L7 y737 x10_2).length : Int)) = true := decide_eq_true c39
                              clear c39
                              obtain ⟨y739, hy739⟩ : ∃ y_ : List Bool, y_ = ((rd_L7 y737 x10_2).set ((ji32) : Int).toNat true) := ⟨_, rfl⟩
                              replace H : (arboristlaw10_FillRings.l1 k2 (wrap64 (4 + (Int.tmod (Go.bits .and .i64 a0 65535) 6))) (ji32) t718 (y737.set (x10_2 : Int).toNat y739) t733 (wrap64 (x10_2 + 1))) = some r := by first | (rw [hy739]; with_reducible exact H) | (have H2_ := (Option.bind_some _ _).symm.trans H; rw [hy739]; with_reducible exact H2_) | (have H2_ := (Option.bind_some _ _).symm.trans H; with_reducible exact H2_) | with_reducible exact H | (rw [hy739]; exact H) | exact H
                              have Ny739 := Aside0.mk hy739
                              clear hy739
                              obtain ⟨y741, hy741⟩ : ∃ y_ : List (List Bool), y_ = (y737.set (x10_2 : Int).toNat y739) := ⟨_, rfl⟩
                              replace H : (arboristlaw10_FillRings.l1 k2 (wrap64 (4 + (Int.tmod (Go.bits .and .i64 a0 65535) 6))) (ji32) t718 y741 t733 (wrap64 (x10_2 + 1))) = some r := by first | (rw [hy741]; with_reducible exact H) | (have H2_ := (Option.bind_some _ _).symm.trans H; rw [hy741]; with_reducible exact H2_) | (have H2_ := (Option.bind_some _ _).symm.trans H; with_reducible exact H2_) | with_reducible exact H | (rw [hy741]; exact H) | exact H
                              have Ny741 := Aside0.mk hy741
                              clear hy741
                              have H' := Aside0.mk H
                              clear H
                              have p734 : 0 ≤ ((ji32) : Int) := of_decide_eq_true (by first | (with_reducible assumption) | assumption)
                              have q734 : (ji32) < (x6_2.length : Int) := of_decide_eq_true (by first | (with_reducible assumption) | assumption)
                              obtain ⟨ad734, A734_0, c734_0, e734, hx734_0, hl734_0, hi734_0⟩ := at_L7 (Kd.S_reads' HO_6.out).2.2 (ji32) p734 q734
                              cases e734
                              obtain ⟨ce734, hce734, hMe734, hcc734⟩ := Kd.S_get HO_6.out [] (ji32) p734 (by first | exact q734 | exact of_decide_eq_true (by first | (with_reducible assumption) | assumption) | (have e_ := (Kd.S_reads' HO_6.out).1; omega))
                              obtain ⟨ve734_0, rfl, ge734_0⟩ := hMe734
                              have hv734_0 := hcc734 0 _ rfl
                              rw [Nat.add_zero, show ((Kd.slice 4 Kd.bool)).sz = 1 from rfl, Nat.mul_one] at hv734_0
                              replace hv734_0 := Option.some.inj (hv734_0.symm.trans hx734_0)
                              rw [hv734_0] at ge734_0
                              have HL734_0 := Aside0.mk (show Kd.R Kd.bool 4 _ _ _ _ (rd_L7 x6_2 (ji32)) from ge734_0)
                              clear hv734_0 ge734_0
                              have HX734_0 := Aside0.mk hx734_0
                              clear hcc734 hce734
                              have HR734_0 := Aside0.mk hi734_0
                              have HC734_0 := Aside0.mk hl734_0
                              clear hi734_0 hl734_0
                              replace p734 := eq_true p734
                              replace q734 := eq_true q734
                              have p37 : 0 ≤ (x10_2 : Int) := of_decide_eq_true (by first | (with_reducible assumption) | assumption)
                              have q37 : (x10_2 : Int) < (((rd_L7 x6_2 (ji32)).length : Int) : Int) := of_decide_eq_true (by first | (with_reducible assumption) | assumption)
                              obtain ⟨go37, co37, eo37, gb37, gl37, cl37, HG37⟩ := Kd.R_form HL734_0.out (by omega)
                              (first | cases eo37 | (injection eo37 with ea_ en_ ec_; (first | subst ea_ | (injection ea_ with ea_; subst ea_)); subst ec_; clear en_))
                              have GB37 := Aside0.mk gb37
                              have GG37 := Aside0.mk HG37
                              clear gb37 gl37 HG37
                              obtain ⟨hx37_0, hf37_0⟩ := Kd.R_celln false HL734_0.out (x10_2 : Int) p37 q37
                              replace p37 := eq_true p37
                              replace q37 := eq_true q37
                              have hq41 : ((ji32) : Int) < (x6_2.length : Int) := (by have h_ : ((ji32) : Int) < ((x6_2.length : Int) : Int) := of_decide_eq_true (by first | (with_reducible assumption) | assumption); first | exact h_ | (have e_ := (Kd.S_reads' HO_6.out).1; omega) | simpa only [List.length_set, List.length_set] using h_)
                              obtain ⟨oki41, ce41, hcl41, hM41, hcc41, hok41, hbk41⟩ := Kd.S_borrow HO_6.out [] ((ji32) : Int) (of_decide_eq_true (by first | (with_reducible assumption) | assumption)) (by first | exact hq41 | (have e_ := (Kd.S_reads' HO_6.out).1; have h_ := hq41; omega))
                              obtain ⟨ve41_0, rfl, ge41_0⟩ := hM41
                              have hv41 := hcc41 0 _ rfl
                              rw [Nat.add_zero, show ((Kd.slice 4 Kd.bool)).sz = 1 from rfl, Nat.mul_one] at hv41
                              replace hv41 := Option.some.inj (hv41.symm.trans HX734_0.out)
                              subst hv41
                              clear hcc41 hcl41
                              replace ge41_0 := (show Kd.R Kd.bool 4 _ _ _ _ (rd_L7 x6_2 (ji32)) from ge41_0)
                              have HP41 := Kd.R_putg ge41_0 (x10_2 : Int) true
                              go_wp2_with (first | ((with_reducible refine gate_store (t := 4) (p := 59) rfl ?_); refine store_event (t := 4) (p := 59) (v := ?vo_w42) (w1 := (wr.setCell ⟨go37, (x10_2 : Int).toNat, none⟩ (.bool true))) ?hg ?ho ?hn ?hr ?_; (case ho => rfl); (case hg => rfl); (case hn => rfl); (case hr => first | (go_simp; done) | (go_simp; rfl)); intro w42 hw; have hg : wr.grownBy w42 (some go37) := (by rw [hw]; exact HP41.2); have hz_ : Kd.R Kd.bool 4 w42 w.heap.size oki41 (.slice (some ⟨go37, 0, none⟩) (rd_L7 x6_2 (ji32)).length c734_0) y735 := (by rw [hw, Ny735.out]; exact HP41.1); have hp_ : Kd.S (Kd.slice 4 Kd.bool) 55 w42 w.heap.size (fun _ => True) (.slice (some ad734) x6_2.length co26) y737 := (by rw [Ny737.out]; exact hbk41 hg (fun k_ e_ => by injection e_ with e_; subst e_; exact ge41_0.1 _ rfl) (Kd.M_row hz_)); have hm_ := Kd.R_mono hz_ hok41; clear HP41 hbk41; have n0_ := Aside0.mk (hp_); have n1_ := Aside0.mk ((by rw [hw]; exact below_set (HB.out) GB37.out : Below w.heap.size w w42)); have n2_ := Aside0.mk (hm_); have n3_ := Aside0.mk ((Kd.R_reads' hm_).2.1); clear HO_6; clear HB; clear HL734_0; have HO_6 := n0_; have HB := n1_; have HL748 := n2_; have HC736 := n3_; clear n0_ n1_ n2_ n3_; clear hg hw hp_ hz_ hm_ hok41; have p738 : 0 ≤ (x10_2 : Int) := of_decide_eq_true (by first | (with_reducible assumption) | assumption); have q738 : x10_2 < (y737.length : Int) := (by have h_ : (x10_2 : Int) < ((x6_2.length : Int) : Int) := of_decide_eq_true (by first | (with_reducible assumption) | assumption); first | (have e_ := (Kd.S_reads' HO_6.out).1; omega) | simpa only [Ny737.out, List.length_set] using h_); have ql738 : ((x10_2 : Int) < ((x6_2.length : Int) : Int)) = True := eq_true (of_decide_eq_true (by first | (with_reducible assumption) | assumption)); obtain ⟨ad738, A738_0, c738_0, e738, hx738_0, hl738_0, hi738_0⟩ := at_L7 (Kd.S_reads' HO_6.out).2.2 x10_2 p738 q738; obtain rfl : ad734 = ad738 := (by injection e738); obtain ⟨ce738, hce738, hMe738, hcc738⟩ := Kd.S_get HO_6.out [] x10_2 p738 (by first | exact q738 | exact of_decide_eq_true (by first | (with_reducible assumption) | assumption) | (have e_ := (Kd.S_reads' HO_6.out).1; omega)); obtain ⟨ve738_0, rfl, ge738_0⟩ := hMe738; have hv738_0 := hcc738 0 _ rfl; rw [Nat.add_zero, show ((Kd.slice 4 Kd.bool)).sz = 1 from rfl, Nat.mul_one] at hv738_0; replace hv738_0 := Option.some.inj (hv738_0.symm.trans hx738_0); rw [hv738_0] at ge738_0; have HL738_0 := Aside0.mk (show Kd.R Kd.bool 4 _ _ _ _ (rd_L7 y737 x10_2) from ge738_0); clear hv738_0 ge738_0; have HX738_0 := Aside0.mk hx738_0; clear hcc738 hce738; have HR738_0 := Aside0.mk hi738_0; have HC738_0 := Aside0.mk hl738_0; clear hi738_0 hl738_0; replace p738 := eq_true p738; replace q738 := eq_true q738; have p40 : 0 ≤ ((ji32) : Int) := of_decide_eq_true (by first | (with_reducible assumption) | assumption); have q40 : ((ji32) : Int) < (((rd_L7 y737 x10_2).length : Int) : Int) := of_decide_eq_true (by first | (with_reducible assumption) | assumption); obtain ⟨go40, co40, eo40, gb40, gl40, cl40, HG40⟩ := Kd.R_form HL738_0.out (by omega); (first | cases eo40 | (injection eo40 with ea_ en_ ec_; (first | subst ea_ | (injection ea_ with ea_; subst ea_)); subst ec_; clear en_)); have GB40 := Aside0.mk gb40; have GG40 := Aside0.mk HG40; clear gb40 gl40 HG40; obtain ⟨hx40_0, hf40_0⟩ := Kd.R_celln false HL738_0.out ((ji32) : Int) p40 q40; replace p40 := eq_true p40; replace q40 := eq_true q40; have hq43 : (x10_2 : Int) < (y737.length : Int) := (by have h_ : (x10_2 : Int) < ((x6_2.length : Int) : Int) := of_decide_eq_true (by first | (with_reducible assumption) | assumption); first | exact h_ | (have e_ := (Kd.S_reads' HO_6.out).1; omega) | simpa only [Ny737.out, List.length_set] using h_); obtain ⟨oki43, ce43, hcl43, hM43, hcc43, hok43, hbk43⟩ := Kd.S_borrow HO_6.out [] (x10_2 : Int) (of_decide_eq_true (by first | (with_reducible assumption) | assumption)) (by first | exact hq43 | (have e_ := (Kd.S_reads' HO_6.out).1; have h_ := hq43; omega)); obtain ⟨ve43_0, rfl, ge43_0⟩ := hM43; have hv43 := hcc43 0 _ rfl; rw [Nat.add_zero, show ((Kd.slice 4 Kd.bool)).sz = 1 from rfl, Nat.mul_one] at hv43; replace hv43 := Option.some.inj (hv43.symm.trans HX738_0.out); subst hv43; clear hcc43 hcl43; replace ge43_0 := (show Kd.R Kd.bool 4 _ _ _ _ (rd_L7 y737 x10_2) from ge43_0); have HP43 := Kd.R_putg ge43_0 ((ji32) : Int) true) | ((with_reducible refine gate_store (t := 4) (p := 65) rfl ?_); refine store_event (t := 4) (p := 65) (v := ?vo_w44) (w1 := (w42.setCell ⟨go40, ((ji32) : Int).toNat, none⟩ (.bool true))) ?hg ?ho ?hn ?hr ?_; (case ho => rfl); (case hg => rfl); (case hn => rfl); (case hr => first | (go_simp; done) | (go_simp; rfl)); intro w44 hw; have hg : w42.grownBy w44 (some go40) := (by rw [hw]; exact HP43.2); have hz_ : Kd.R Kd.bool 4 w44 w.heap.size oki43 (.slice (some ⟨go40, 0, none⟩) (rd_L7 y737 x10_2).length c738_0) y739 := (by rw [hw, Ny739.out]; exact HP43.1); have hp_ : Kd.S (Kd.slice 4 Kd.bool) 55 w44 w.heap.size (fun _ => True) (.slice (some ad734) x6_2.length co26) y741 := (by rw [Ny741.out]; exact hbk43 hg (fun k_ e_ => by injection e_ with e_; subst e_; exact ge43_0.1 _ rfl) (Kd.M_row hz_)); have hm_ := Kd.R_mono hz_ hok43; clear HP43 hbk43; have n0_ := Aside0.mk (hp_); have n1_ := Aside0.mk ((by rw [hw]; exact below_set (HB.out) GB40.out : Below w.heap.size w w44)); have n2_ := Aside0.mk (hm_); have n3_ := Aside0.mk ((Kd.R_reads' hm_).2.1); clear HO_6; clear HB; clear HL748; clear HL738_0; have HO_6 := n0_; have HB := n1_; have HL749 := n2_; have HC740 := n3_; clear n0_ n1_ n2_ n3_; clear hg hw hp_ hz_ hm_ hok43))
                              (try simp only [← hl6_2])
                              first | go_roundg k2 | (simp only [← hji32]; (try simp only [← hji32] at H'); go_roundg k2)
                              case measure => have := HK1.out; have := HK2.out; omega
                              case rel => exact ⟨(y741), (wrap64 (x10_2 + 1)), (by first | rfl | (simp; done) | (simp [*]; done)), H', ⟨by have := HK1.out; have := HK2.out; omega⟩, ⟨by (try simp only [hl6_2]); (with_reducible repeat (first | apply Kd.S_alloc | apply Kd.S_drewN | apply Kd.S_drew)); exact HO_6.out⟩, ⟨by repeat (first | (with_reducible first | exact HB.out | apply below_alloc | apply pw_below_drewN | apply below_drew1) | exact HB.out)⟩⟩
                            · rw [if_neg c39] at H
                              exact absurd H (by simp)
                          · rw [if_neg c38] at H
                            exact absurd H (by simp)
                        · rw [if_neg c36] at H
                          exact absurd H (by simp)
                      · rw [if_neg c35] at H
                        exact absurd H (by simp)
                    · rw [if_neg c34] at H
                      exact absurd H (by simp)
                  · rw [if_neg c33] at H
                    exact absurd H (by simp)
              · rw [if_neg c30] at H
                have c30b0 : decide (x10_2 < (wrap64 (4 + (Int.tmod (Go.bits .and .i64 a0 65535) 6)))) = false := decide_eq_false c30
                clear c30
                by_cases c45 : t718 = true
                · subst c45
                  have H1 : (if t733 = true then (some false) else ((arboristref08_Graph.f k2 x6_2).bind fun t742 => ((fill_Chordal.f k2 t742).bind fun t745 => (some t745)))) = some r := by rw [if_pos rfl] at H; exact H
                  clear H
                  have H := H1
                  clear H1
                  by_cases c46 : t733 = true
                  · subst c46
                    have H1 : (some false) = some r := by rw [if_pos rfl] at H; exact H
                    clear H
                    have H := H1
                    clear H1
                    exact absurd ((Option.some.inj H).trans HT_.out) (by decide)
                  · replace c46 := Bool.eq_false_iff.mpr c46
                    subst c46
                    have H1 : ((arboristref08_Graph.f k2 x6_2).bind fun t742 => ((fill_Chordal.f k2 t742).bind fun t745 => (some t745))) = some r := by rw [if_neg (show ¬ (false = true) by decide)] at H; exact H
                    clear H
                    have H := H1
                    clear H1
                    replace H := Option.bind_eq_some_iff.mp H
                    obtain ⟨t742, A470, H⟩ := H
                    replace H : ((fill_Chordal.f k2 t742).bind fun t745 => (some t745)) = some r := H
                    have A47 := Aside0.mk A470
                    clear A470
                    replace H := Option.bind_eq_some_iff.mp H
                    obtain ⟨t745, A480, H⟩ := H
                    replace H : (some t745) = some r := H
                    have A48 := Aside0.mk A480
                    clear A480
                    obtain rfl := Option.some.inj H
                    go_wp2_with (first | (go_at_call 12; (with_reducible refine (arboristref08_Graph.calls k2 _ _ x6_2 t742 _ ?side1 ?side2 A47.out).mono ?_); (case side1 => repeat (first | exact (Kd.S_reads' HO_6.out).2.2 | (with_reducible refine Kd.C_alloc ?_ _) | (with_reducible refine Kd.C_drewN ?_ _) | (with_reducible refine Kd.C_drew ?_))); (case side2 => exact (Kd.S_reads' HO_6.out).2.1); rintro e w49 ⟨v743, rfl, ho0, hb⟩; have n0_ := Aside0.mk (Kd.S_below (by (with_reducible repeat (first | apply Kd.S_alloc | apply Kd.S_drewN | apply Kd.S_drew)); exact HO_6.out) hb); have n1_ := Aside0.mk (Kd.R_lower ho0 (below_size (by repeat (first | (with_reducible first | exact HB.out | apply below_alloc | apply pw_below_drewN | apply below_drew1) | exact HB.out)))); have n2_ := Aside0.mk (below_step (by repeat (first | (with_reducible first | exact HB.out | apply below_alloc | apply pw_below_drewN | apply below_drew1) | exact HB.out)) hb); clear HO_6; clear HB; have HO_6 := n0_; have HO744 := n1_; have HB := n2_; clear n0_ n1_ n2_; (try clear hb); (try clear hb2); (try clear hk); (try clear hi); (try clear ho0); obtain ⟨Ao50, co50, eo50⟩ := Kd.R_slice HO744.out; subst eo50) | (go_at_call 18; (with_reducible refine (fill_Chordal.calls (hTb := (by first | exact HTAB.out | exact tab_drewN HTAB.out _ | exact tab_below HTAB.out (by repeat (first | (with_reducible first | exact HB.out | apply below_alloc | apply pw_below_drewN | apply below_drew1) | exact HB.out)))) k2 _ _ t742 t745 _ ?side1 ?side2 A48.out).mono ?_); (case side1 => repeat (first | exact (Kd.R_reads' HO744.out).2.2 | (with_reducible refine Kd.C_alloc ?_ _) | (with_reducible refine Kd.C_drewN ?_ _) | (with_reducible refine Kd.C_drew ?_))); (case side2 => exact (Kd.R_reads' HO744.out).2.1); rintro e w51 ⟨rfl, hb⟩; have n0_ := Aside0.mk (Kd.S_below (by (with_reducible repeat (first | apply Kd.S_alloc | apply Kd.S_drewN | apply Kd.S_drew)); exact HO_6.out) hb); have n1_ := Aside0.mk (Kd.R_below (by (with_reducible repeat (first | apply Kd.R_alloc | apply Kd.R_drewN | apply Kd.R_drew)); exact HO744.out) hb); have n2_ := Aside0.mk (below_step (by repeat (first | (with_reducible first | exact HB.out | apply below_alloc | apply pw_below_drewN | apply below_drew1) | exact HB.out)) hb); clear HO_6; clear HO744; clear HB; have HO_6 := n0_; have HO744 := n1_; have HB := n2_; clear n0_ n1_ n2_; (try clear hb); (try clear hb2); (try clear hk); (try clear hi)))
                    go_ret
                    exact ⟨by first | rfl | (simp [errW_none, errW_some] <;> rfl) | (simp [*, errW_none, errW_some] <;> rfl), by repeat (first | (with_reducible first | exact HB.out | apply below_alloc | apply pw_below_drewN | apply below_drew1) | exact HB.out)⟩
                · replace c45 := Bool.eq_false_iff.mpr c45
                  subst c45
                  have H1 : (some false) = some r := by rw [if_neg (show ¬ (false = true) by decide)] at H; exact H
                  clear H
                  have H := H1
                  clear H1
                  exact absurd ((Option.some.inj H).trans HT_.out) (by decide)

/-- THE ONE PURE STATEMENT of arboristlaw10_FillRings. -/
def arboristlaw10_FillRings.Pure : Prop := ∀ (a0 : Int) (a1 : Int), (Lit.int .i64 a0).wf = true → (Lit.int .i64 a1).wf = true → ∃ k, arboristlaw10_FillRings.f k a0 a1 = some true

end Go.Proofs.YtopjffgmpphdbaaDoor.Pr
