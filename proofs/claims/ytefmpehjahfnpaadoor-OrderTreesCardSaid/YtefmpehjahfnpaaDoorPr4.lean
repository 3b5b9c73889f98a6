-- Printed by a program of this session's own (wip/tools/pp.py) over the kit's print.py; Lean checks it.
import Derived.Test.YtefmpehjahfnpaaDoorPr0
import Derived.Test.YtefmpehjahfnpaaDoorPr3
namespace Go.Proofs.YtefmpehjahfnpaaDoor.Pr
open Go.RowKit Go.Proofs.YtefmpehjahfnpaaDoorW.PrintWords Go.Proofs.YtefmpehjahfnpaaDoorW.PrintLast Go.Proofs.YtefmpehjahfnpaaDoorW.PrintMore
attribute [local go_sem] max2_int min2_int max_two min_two max_three min_three max_four min_four   -- for this text's walks alone
set_option linter.unusedVariables false
set_option linter.unusedSimpArgs false

/-! ### graph_Right: function 21 -/
mutual
def graph_Right.l0 : Nat → List Int → Int → Int → List Int → Option (Bool)
  | 0, _, _, _, _ => none
  | k + 1, x12, x13, x14, x102000 => if x14 < x13 then (if 0 ≤ x14 then (if x14 < (x12.length : Int) then (if (shr .u64 (rd x12 x14) (x102000.length : Int)) = 0 then ((graph_list.f (rd x12 x14)).bind fun t103 => (graph_Right.l1 k x14 x12 x13 x14 t103 (t103.length : Int) 0 x102000)) else (some false)) else (none)) else (none)) else (some true)
def graph_Right.l1 : Nat → Int → List Int → Int → Int → List Int → Int → Int → List Int → Option (Bool)
  | 0, _, _, _, _, _, _, _, _ => none
  | k + 1, x3, x12, x13, x14, x26, x27, x28, x102000 => if x28 < x27 then (if 0 ≤ x28 then (if x28 < (x26.length : Int) then (if (rd x26 x28) = x3 then (some false) else (if 0 ≤ (rd x26 x28) then (if (rd x26 x28) < (x102000.length : Int) then (if 0 ≤ x3 then (if (Go.bits .and .u64 (shr .u64 (rd x102000 (rd x26 x28)) x3) 1) = 0 then (some false) else (graph_Right.l1 k x3 x12 x13 x14 x26 x27 (wrap64 (x28 + 1)) x102000)) else (none)) else (none)) else (none))) else (none)) else (none)) else (graph_Right.l0 k x12 x13 (wrap64 (x14 + 1)) x102000)
end
def graph_Right.f (k : Nat) (l0_0 : List Int) : Option (Bool) := if (l0_0.length : Int) > 40 then (some false) else (graph_Right.l0 k l0_0 (l0_0.length : Int) 0 l0_0)
theorem graph_Right.mono_l : ∀ k, (∀ y0 y1 y2 y3, LeO (graph_Right.l0 k y0 y1 y2 y3) (graph_Right.l0 (k + 1) y0 y1 y2 y3)) ∧ (∀ y0 y1 y2 y3 y4 y5 y6 y7, LeO (graph_Right.l1 k y0 y1 y2 y3 y4 y5 y6 y7) (graph_Right.l1 (k + 1) y0 y1 y2 y3 y4 y5 y6 y7))
  | 0 => ⟨fun _ _ _ _ r h => by simp [graph_Right.l0] at h, fun _ _ _ _ _ _ _ _ r h => by simp [graph_Right.l1] at h⟩
  | k + 1 => by
    obtain ⟨ih0, ih1⟩ := graph_Right.mono_l k
    refine ⟨?_, ?_⟩
    all_goals intros
    all_goals (first | unfold graph_Right.l0 | unfold graph_Right.l1)
    all_goals repeat' first
    | (with_reducible exact ih0 _ _ _ _)
    | (with_reducible exact ih1 _ _ _ _ _ _ _ _)
    | (with_reducible exact LeO.refl _)
    | (with_reducible exact LeO.none _)
    | (with_reducible refine LeO.ite ?_ ?_)
    | (with_reducible refine LeO.bind ?_ (fun _ => ?_))
    | exact ih0 _ _ _ _
    | exact ih1 _ _ _ _ _ _ _ _
    | exact LeO.none _
    | refine LeO.ite ?_ ?_
    | refine LeO.bind ?_ (fun _ => ?_)
theorem graph_Right.mono : ∀ a0 k, LeO (graph_Right.f k a0) (graph_Right.f (k + 1) a0) := by
  intro a0 k
  obtain ⟨ih0, ih1⟩ := graph_Right.mono_l k
  unfold graph_Right.f
  repeat' first
      | (with_reducible exact ih0 _ _ _ _)
      | (with_reducible exact ih1 _ _ _ _ _ _ _ _)
      | (with_reducible exact LeO.refl _)
      | (with_reducible exact LeO.none _)
      | (with_reducible refine LeO.ite ?_ ?_)
      | (with_reducible refine LeO.bind ?_ (fun _ => ?_))
      | exact ih0 _ _ _ _
      | exact ih1 _ _ _ _ _ _ _ _
      | exact LeO.none _
      | refine LeO.ite ?_ ?_
      | refine LeO.bind ?_ (fun _ => ?_)
set_option maxHeartbeats 8000000 in
set_option maxRecDepth 100000 in
theorem graph_Right.calls (k : Nat) (A0_0 : Option Addr) (c0_0 : Nat) (l0_0 : List Int) (r : Bool) (w : World) (hTb : Tab64 w) (hr0_0 : Kd.C (Kd.int .u64) w A0_0 l0_0.length l0_0) (hc0_0 : l0_0.length ≤ c0_0) (h : graph_Right.f k l0_0 = some r) :
    Calls Tryd.prog 21 #[.agg #[.slice A0_0 l0_0.length c0_0]] w fun e w' => e = .returned (.bool r) ∧ Below w.heap.size w w' := by
  have HTAB := Aside0.mk hTb
  clear hTb
  have hu32 := Tryd.underlying32
  have HR0_0 := Aside0.mk hr0_0
  have HC0_0 := Aside0.mk hc0_0
  clear hr0_0 hc0_0
  have HB := Aside0.mk (Below.refl w.heap.size w)
  have H : (if (l0_0.length : Int) > 40 then (some false) else (graph_Right.l0 k l0_0 (l0_0.length : Int) 0 l0_0)) = some r := h
  clear h
  by_cases c2 : (l0_0.length : Int) > 40
  · rw [if_pos c2] at H
    have c2b0 : decide (40 < (l0_0.length : Int)) = true := decide_eq_true c2
    have c2b1 : decide (40 < l0_0.length) = true := decide_eq_true (by omega)
    clear c2
    obtain rfl := Option.some.inj H
    go_enter Tryd.func21, Tryd.ntmps21
    go_wp2_with (first | ((with_reducible refine gate_dst (N := 1) rfl ?_); refine box_event ?hg (N := 1) ?hd (cs := #[.slice A0_0 l0_0.length c0_0]) (t := 32) ?hr ?_; (case hd => rfl); (case hg => rfl); (case hr => first | (go_simp; done) | (go_simp; rfl)); intro gb101 hg w3 hbox hb; have n0_ := Aside0.mk (below_step (by repeat (first | (with_reducible first | exact HB.out | apply below_alloc | apply pw_below_drewN | apply below_drew1) | exact HB.out)) hb); have n1_ := Aside0.mk (hbox); have n2_ := Aside0.mk ((by rw [hg]; exact (below_size (by repeat (first | (with_reducible first | exact HB.out | apply below_alloc | apply pw_below_drewN | apply below_drew1) | exact HB.out))) : w.heap.size ≤ gb101)); have n3_ := Aside0.mk ((by rw [hg]; exact (below_size (by repeat (first | (with_reducible first | exact HB.out | apply below_alloc | apply pw_below_drewN | apply below_drew1) | exact HB.out))) : w.heap.size ≤ gb101)); clear HB; have HB := n0_; have BK101 := n1_; have GW101 := n2_; have GE101 := n3_; clear n0_ n1_ n2_ n3_; clear hb hbox hg; have hcz4_0 : w3.cell? ⟨gb101, 0, none⟩ = some (.slice A0_0 l0_0.length c0_0) := (blk_cell BK101.out 0).trans rfl; have hfz4_0 := blk_frozen BK101.out 0))
    go_ret
    exact ⟨by first | rfl | (simp [errW_none, errW_some] <;> rfl) | (simp [*, errW_none, errW_some] <;> rfl), by repeat (first | (with_reducible first | exact HB.out | apply below_alloc | apply pw_below_drewN | apply below_drew1 | refine below_set ?_ GE101.out) | exact HB.out)⟩
  · rw [if_neg c2] at H
    have c2b0 : decide (40 < (l0_0.length : Int)) = false := decide_eq_false c2
    have c2b1 : decide (40 < l0_0.length) = false := decide_eq_false (by omega)
    clear c2
    have H' := Aside0.mk H
    clear H
    go_enter Tryd.func21, Tryd.ntmps21
    go_wp2_with (first | ((with_reducible refine gate_dst (N := 1) rfl ?_); refine box_event ?hg (N := 1) ?hd (cs := #[.slice A0_0 l0_0.length c0_0]) (t := 32) ?hr ?_; (case hd => rfl); (case hg => rfl); (case hr => first | (go_simp; done) | (go_simp; rfl)); intro gb101 hg w5 hbox hb; have n0_ := Aside0.mk (below_step (by repeat (first | (with_reducible first | exact HB.out | apply below_alloc | apply pw_below_drewN | apply below_drew1) | exact HB.out)) hb); have n1_ := Aside0.mk (hbox); have n2_ := Aside0.mk ((by rw [hg]; exact (below_size (by repeat (first | (with_reducible first | exact HB.out | apply below_alloc | apply pw_below_drewN | apply below_drew1) | exact HB.out))) : w.heap.size ≤ gb101)); have n3_ := Aside0.mk ((by rw [hg]; exact (below_size (by repeat (first | (with_reducible first | exact HB.out | apply below_alloc | apply pw_below_drewN | apply below_drew1) | exact HB.out))) : w.heap.size ≤ gb101)); clear HB; have HB := n0_; have BK101 := n1_; have GW101 := n2_; have GE101 := n3_; clear n0_ n1_ n2_ n3_; clear hb hbox hg; have hcz6_0 : w5.cell? ⟨gb101, 0, none⟩ = some (.slice A0_0 l0_0.length c0_0) := (blk_cell BK101.out 0).trans rfl; have hfz6_0 := blk_frozen BK101.out 0))
    go_loopg [14] k (fun kq v14 w' => ∃ (x14_1 : Int), v14 = .int .i64 x14_1 ∧ Aside0 (graph_Right.l0 kq l0_0 (l0_0.length : Int) x14_1 l0_0 = some r) ∧ Aside0 (kq ≤ k) ∧ Aside0 (w'.heap[gb101]? = some (.cells #[(.slice A0_0 l0_0.length c0_0)] 32 (0, 0))) ∧ Aside0 (Below w.heap.size w w'))
    case atStart => exact ⟨(0), (by first | rfl | (simp; done) | (simp [*]; done)), H', ⟨Nat.le_refl _⟩, ⟨by (with_reducible repeat (first | refine blk_drewN ?_ _ | refine blk_drew ?_ | refine blk_alloc ?_ _)); exact BK101.out⟩, ⟨by repeat (first | (with_reducible first | exact HB.out | apply below_alloc | apply pw_below_drewN | apply below_drew1 | refine below_set ?_ GE101.out) | exact HB.out)⟩⟩
    case round =>
      clear H'
      try clear c2
      try clear c2b0
      try clear c2b1
      try clear p2
      try clear hcz4_0
      try clear hcz6_0
      try clear hfz4_0
      try clear hfz6_0
      obtain ⟨x14_1, rfl, HA, HK1, BK101, HB⟩ := hrel
      cases gk with
      | zero => exact absurd HA.out (by simp [graph_Right.l0])
      | succ k1 =>
        have H := HA.out
        clear HA
        simp only [graph_Right.l0] at H
        by_cases c7 : x14_1 < (l0_0.length : Int)
        · rw [if_pos c7] at H
          have c7b0 : decide (x14_1 < (l0_0.length : Int)) = true := decide_eq_true c7
          clear c7
          by_cases c8 : 0 ≤ x14_1
          · rw [if_pos c8] at H
            have c8b0 : decide (0 ≤ x14_1) = true := decide_eq_true c8
            clear c8
            by_cases c9 : x14_1 < (l0_0.length : Int)
            · rw [if_pos c9] at H
              have c9b0 : decide (x14_1 < (l0_0.length : Int)) = true := decide_eq_true c9
              clear c9
              obtain ⟨ji10, hji10⟩ : ∃ j_ : Int, (shr .u64 (rd l0_0 x14_1) (l0_0.length : Int)) = j_ := ⟨_, rfl⟩
              replace H : (if (ji10) = 0 then ((graph_list.f (rd l0_0 x14_1)).bind fun t103 => (graph_Right.l1 k1 x14_1 l0_0 (l0_0.length : Int) x14_1 t103 (t103.length : Int) 0 l0_0)) else (some false)) = some r := by first | (rw [hji10] at H; exact H) | (simp only [hji10] at H ⊢; exact H)
              have hji10_ : ((rd l0_0 x14_1) / 2 ^ min (l0_0.length : Int).toNat 64) = ji10 := hji10
              have hji10z : (l0_0.length : Int) ≤ 64 → ((rd l0_0 x14_1) / 2 ^ (l0_0.length : Int).toNat) = ji10 := shr_small hji10
              have hji10p : ((rd l0_0 x14_1) / 2 ^ min l0_0.length 64) = ji10 := hji10_
              have hji10q : (l0_0.length : Int) ≤ 64 → ((rd l0_0 x14_1) / 2 ^ l0_0.length) = ji10 := hji10z
              by_cases c11 : (ji10) = 0
              · rw [if_pos c11] at H
                have c11b0 : ((ji10) == 0) = true := beq_iff_eq.mpr c11
                have c11b1 : ((ji10) != 0) = false := bne_eq_false_iff_eq.mpr c11
                clear c11
                replace H := Option.bind_eq_some_iff.mp H
                obtain ⟨t103, A120, H⟩ := H
                replace H : (graph_Right.l1 k1 x14_1 l0_0 (l0_0.length : Int) x14_1 t103 (t103.length : Int) 0 l0_0) = some r := H
                have A12 := Aside0.mk A120
                clear A120
                have H' := Aside0.mk H
                clear H
                have p102 : 0 ≤ (x14_1 : Int) := of_decide_eq_true (by first | (with_reducible assumption) | assumption)
                have q102 : x14_1 < (l0_0.length : Int) := of_decide_eq_true (by first | (with_reducible assumption) | assumption)
                obtain ⟨ad102, e102, hx102_0⟩ := Kd.at_int HR0_0.out x14_1 p102 q102
                cases e102
                replace hx102_0 := (HB.out.cell (World.block_lt_of_cell? w _ hx102_0)).trans hx102_0
                replace p102 := eq_true p102
                replace q102 := eq_true q102
                have hcz13_0 : wr.cell? ⟨gb101, 0, none⟩ = some (.slice (some ad102) l0_0.length c0_0) := (blk_cell BK101.out 0).trans rfl
                have hfz13_0 := blk_frozen BK101.out 0
                go_wp2_with (first | ((with_reducible refine gate_callee (f := 34) rfl ?_); refine goesL_ (some 26) rfl rfl Tryd.func34 (by kernel_rfl) rfl #[.int .u64 (rd l0_0 x14_1)] rfl (by (try simp only [List.map_toArray, List.map_cons, List.map_nil]); first | done | rfl | (simp only [List.length_drop, List.length_take]; rfl)) ?_; (with_reducible refine (graph_list.calls (hTb := (by first | exact HTAB.out | exact tab_drewN HTAB.out _ | exact tab_below HTAB.out (by repeat (first | (with_reducible first | exact HB.out | apply below_alloc | apply pw_below_drewN | apply below_drew1 | refine below_set ?_ GE101.out) | exact HB.out)))) (rd l0_0 x14_1) t103 _ A12.out).mono ?_); rintro e w14 ⟨v104, rfl, ho0, hb⟩; refine ⟨_, rfl, ?_⟩; have n0_ := Aside0.mk (Kd.R_lower ho0 (below_size (by repeat (first | (with_reducible first | exact HB.out | apply below_alloc | apply pw_below_drewN | apply below_drew1 | refine below_set ?_ GE101.out) | exact HB.out)))); have n1_ := Aside0.mk (blk_below (g := gb101) (o := .cells #[.slice (some ad102) l0_0.length c0_0] 32 (0, 0)) (by (with_reducible repeat (first | refine blk_drewN ?_ _ | refine blk_drew ?_ | refine blk_alloc ?_ _)); exact BK101.out) hb); have n2_ := Aside0.mk (below_step (by repeat (first | (with_reducible first | exact HB.out | apply below_alloc | apply pw_below_drewN | apply below_drew1 | refine below_set ?_ GE101.out) | exact HB.out)) hb); clear BK101; clear HB; have HO105 := n0_; have BK101 := n1_; have HB := n2_; clear n0_ n1_ n2_; (try clear hb); (try clear hb2); (try clear hk); (try clear hi); (try clear ho0); obtain ⟨Ao15, co15, eo15⟩ := Kd.R_slice HO105.out; subst eo15))
                go_loopg [28] k1 (fun kq v28 w' => ∃ (x28_2 : Int), v28 = .int .i64 x28_2 ∧ Aside0 (graph_Right.l1 kq x14_1 l0_0 (l0_0.length : Int) x14_1 t103 (t103.length : Int) x28_2 l0_0 = some r) ∧ Aside0 (kq ≤ k1) ∧ Aside0 (Kd.R (Kd.int .i64) 3 w' w.heap.size (fun _ => True) (.slice Ao15 t103.length co15) t103) ∧ Aside0 (w'.heap[gb101]? = some (.cells #[(.slice (some ad102) l0_0.length c0_0)] 32 (0, 0))) ∧ Aside0 (Below w.heap.size w w'))
                case atStart => exact ⟨(0), (by first | rfl | (simp; done) | (simp [*]; done)), H', ⟨Nat.le_refl _⟩, ⟨by (with_reducible repeat (first | apply Kd.R_alloc | apply Kd.R_drewN | apply Kd.R_drew)); exact HO105.out⟩, ⟨by (with_reducible repeat (first | refine blk_drewN ?_ _ | refine blk_drew ?_ | refine blk_alloc ?_ _)); exact BK101.out⟩, ⟨by repeat (first | (with_reducible first | exact HB.out | apply below_alloc | apply pw_below_drewN | apply below_drew1 | refine below_set ?_ GE101.out) | exact HB.out)⟩⟩
                case round =>
                  clear H'
                  try clear c1
                  try clear p1
                  try clear q1
                  try clear hx1
                  try clear c2
                  try clear c2b0
                  try clear c2b1
                  try clear p2
                  try clear c3
                  try clear c7
                  try clear c7b0
                  try clear c8
                  try clear c8b0
                  try clear c9
                  try clear c9b0
                  try clear p10
                  try clear q10
                  try clear hx10
                  try clear c11
                  try clear c11b0
                  try clear c11b1
                  try clear hcz13_0
                  try clear hcz4_0
                  try clear hcz6_0
                  try clear hfz13_0
                  try clear hfz4_0
                  try clear hfz6_0
                  try clear hx102_0
                  try clear p102
                  try clear p2
                  try clear q102
                  obtain ⟨x28_2, rfl, HA, HK2, HO_26, BK101, HB⟩ := hrel
                  cases gk with
                  | zero => exact absurd HA.out (by simp [graph_Right.l1])
                  | succ k2 =>
                    have H := HA.out
                    clear HA
                    simp only [graph_Right.l1] at H
                    by_cases c16 : x28_2 < (t103.length : Int)
                    · rw [if_pos c16] at H
                      have c16b0 : decide (x28_2 < (t103.length : Int)) = true := decide_eq_true c16
                      clear c16
                      by_cases c17 : 0 ≤ x28_2
                      · rw [if_pos c17] at H
                        have c17b0 : decide (0 ≤ x28_2) = true := decide_eq_true c17
                        clear c17
                        by_cases c18 : x28_2 < (t103.length : Int)
                        · rw [if_pos c18] at H
                          have c18b0 : decide (x28_2 < (t103.length : Int)) = true := decide_eq_true c18
                          clear c18
                          by_cases c19 : (rd t103 x28_2) = x14_1
                          · rw [if_pos c19] at H
                            have c19b0 : ((rd t103 x28_2) == x14_1) = true := beq_iff_eq.mpr c19
                            have c19b1 : ((rd t103 x28_2) != x14_1) = false := bne_eq_false_iff_eq.mpr c19
                            clear c19
                            obtain rfl := Option.some.inj H
                            have p106 : 0 ≤ (x28_2 : Int) := of_decide_eq_true (by first | (with_reducible assumption) | assumption)
                            have q106 : x28_2 < (t103.length : Int) := of_decide_eq_true (by first | (with_reducible assumption) | assumption)
                            obtain ⟨ad106, e106, hx106_0⟩ := Kd.at_int (Kd.R_reads' HO_26.out).2.2 x28_2 p106 q106
                            cases e106
                            replace p106 := eq_true p106
                            replace q106 := eq_true q106
                            go_wp2
                            go_ret
                            exact ⟨by first | rfl | (simp [errW_none, errW_some] <;> rfl) | (simp only [← hji10]; first | rfl | (simp [errW_none, errW_some] <;> rfl)) | (simp [*, errW_none, errW_some] <;> rfl), by repeat (first | (with_reducible first | exact HB.out | apply below_alloc | apply pw_below_drewN | apply below_drew1 | refine below_set ?_ GE101.out) | exact HB.out)⟩
                          · rw [if_neg c19] at H
                            have c19b0 : ((rd t103 x28_2) == x14_1) = false := beq_eq_false_iff_ne.mpr c19
                            have c19b1 : ((rd t103 x28_2) != x14_1) = true := bne_iff_ne.mpr c19
                            by_cases c20 : 0 ≤ (rd t103 x28_2)
                            · rw [if_pos c20] at H
                              have c20b0 : decide (0 ≤ (rd t103 x28_2)) = true := decide_eq_true c20
                              clear c20
                              by_cases c21 : (rd t103 x28_2) < (l0_0.length : Int)
                              · rw [if_pos c21] at H
                                have c21b0 : decide ((rd t103 x28_2) < (l0_0.length : Int)) = true := decide_eq_true c21
                                clear c21
                                by_cases c22 : 0 ≤ x14_1
                                · rw [if_pos c22] at H
                                  have c22b0 := eq_true c22
                                  have c22b1 : decide (0 ≤ x14_1) = true := decide_eq_true c22
                                  clear c22
                                  obtain ⟨ji23, hji23⟩ : ∃ j_ : Int, (shr .u64 (rd l0_0 (rd t103 x28_2)) x14_1) = j_ := ⟨_, rfl⟩
                                  replace H : (if (Go.bits .and .u64 (ji23) 1) = 0 then (some false) else (graph_Right.l1 k2 x14_1 l0_0 (l0_0.length : Int) x14_1 t103 (t103.length : Int) (wrap64 (x28_2 + 1)) l0_0)) = some r := by first | (rw [hji23] at H; exact H) | (simp only [hji23] at H ⊢; exact H)
                                  have hji23_ : ((rd l0_0 (rd t103 x28_2)) / 2 ^ min x14_1.toNat 64) = ji23 := hji23
                                  have hji23z : x14_1 ≤ 64 → ((rd l0_0 (rd t103 x28_2)) / 2 ^ x14_1.toNat) = ji23 := shr_small hji23
                                  by_cases c24 : (Go.bits .and .u64 (ji23) 1) = 0
                                  · rw [if_pos c24] at H
                                    have c24b0 : ((Go.bits .and .u64 (ji23) 1) == 0) = true := beq_iff_eq.mpr c24
                                    have c24b1 : ((Go.bits .and .u64 (ji23) 1) != 0) = false := bne_eq_false_iff_eq.mpr c24
                                    clear c24
                                    obtain rfl := Option.some.inj H
                                    have p106 : 0 ≤ (x28_2 : Int) := of_decide_eq_true (by first | (with_reducible assumption) | assumption)
                                    have q106 : x28_2 < (t103.length : Int) := of_decide_eq_true (by first | (with_reducible assumption) | assumption)
                                    obtain ⟨ad106, e106, hx106_0⟩ := Kd.at_int (Kd.R_reads' HO_26.out).2.2 x28_2 p106 q106
                                    cases e106
                                    replace p106 := eq_true p106
                                    replace q106 := eq_true q106
                                    have hcz25_0 : wr.cell? ⟨gb101, 0, none⟩ = some (.slice (some ad102) l0_0.length c0_0) := (blk_cell BK101.out 0).trans rfl
                                    have hfz25_0 := blk_frozen BK101.out 0
                                    have p107 : 0 ≤ ((rd t103 x28_2) : Int) := of_decide_eq_true (by first | (with_reducible assumption) | assumption)
                                    have q107 : (rd t103 x28_2) < (l0_0.length : Int) := of_decide_eq_true (by first | (with_reducible assumption) | assumption)
                                    obtain ⟨ad107, e107, hx107_0⟩ := Kd.at_int HR0_0.out (rd t103 x28_2) p107 q107
                                    obtain rfl : ad102 = ad107 := (by injection e107)
                                    replace hx107_0 := (HB.out.cell (World.block_lt_of_cell? w _ hx107_0)).trans hx107_0
                                    replace p107 := eq_true p107
                                    replace q107 := eq_true q107
                                    go_wp2
                                    go_ret
                                    exact ⟨by first | rfl | (simp [errW_none, errW_some] <;> rfl) | (simp only [← hji10, ← hji23]; first | rfl | (simp [errW_none, errW_some] <;> rfl)) | (simp [*, errW_none, errW_some] <;> rfl), by repeat (first | (with_reducible first | exact HB.out | apply below_alloc | apply pw_below_drewN | apply below_drew1 | refine below_set ?_ GE101.out) | exact HB.out)⟩
                                  · rw [if_neg c24] at H
                                    have c24b0 : ((Go.bits .and .u64 (ji23) 1) == 0) = false := beq_eq_false_iff_ne.mpr c24
                                    have c24b1 : ((Go.bits .and .u64 (ji23) 1) != 0) = true := bne_iff_ne.mpr c24
                                    have H' := Aside0.mk H
                                    clear H
                                    have p106 : 0 ≤ (x28_2 : Int) := of_decide_eq_true (by first | (with_reducible assumption) | assumption)
                                    have q106 : x28_2 < (t103.length : Int) := of_decide_eq_true (by first | (with_reducible assumption) | assumption)
                                    obtain ⟨ad106, e106, hx106_0⟩ := Kd.at_int (Kd.R_reads' HO_26.out).2.2 x28_2 p106 q106
                                    cases e106
                                    replace p106 := eq_true p106
                                    replace q106 := eq_true q106
                                    have hcz26_0 : wr.cell? ⟨gb101, 0, none⟩ = some (.slice (some ad102) l0_0.length c0_0) := (blk_cell BK101.out 0).trans rfl
                                    have hfz26_0 := blk_frozen BK101.out 0
                                    have p107 : 0 ≤ ((rd t103 x28_2) : Int) := of_decide_eq_true (by first | (with_reducible assumption) | assumption)
                                    have q107 : (rd t103 x28_2) < (l0_0.length : Int) := of_decide_eq_true (by first | (with_reducible assumption) | assumption)
                                    obtain ⟨ad107, e107, hx107_0⟩ := Kd.at_int HR0_0.out (rd t103 x28_2) p107 q107
                                    obtain rfl : ad102 = ad107 := (by injection e107)
                                    replace hx107_0 := (HB.out.cell (World.block_lt_of_cell? w _ hx107_0)).trans hx107_0
                                    replace p107 := eq_true p107
                                    replace q107 := eq_true q107
                                    go_wp2
                                    go_roundg k2
                                    case measure => have := HK1.out; have := HK2.out; omega
                                    case rel => exact ⟨(wrap64 (x28_2 + 1)), (by first | rfl | (simp; done) | (simp [*]; done)), H', ⟨by have := HK1.out; have := HK2.out; omega⟩, ⟨by (with_reducible repeat (first | apply Kd.R_alloc | apply Kd.R_drewN | apply Kd.R_drew)); exact HO_26.out⟩, ⟨by (with_reducible repeat (first | refine blk_drewN ?_ _ | refine blk_drew ?_ | refine blk_alloc ?_ _)); exact BK101.out⟩, ⟨by repeat (first | (with_reducible first | exact HB.out | apply below_alloc | apply pw_below_drewN | apply below_drew1 | refine below_set ?_ GE101.out) | exact HB.out)⟩⟩
                                · rw [if_neg c22] at H
                                  exact absurd H (by simp)
                              · rw [if_neg c21] at H
                                exact absurd H (by simp)
                            · rw [if_neg c20] at H
                              exact absurd H (by simp)
                        · rw [if_neg c18] at H
                          exact absurd H (by simp)
                      · rw [if_neg c17] at H
                        exact absurd H (by simp)
                    · rw [if_neg c16] at H
                      have c16b0 : decide (x28_2 < (t103.length : Int)) = false := decide_eq_false c16
                      clear c16
                      have H' := Aside0.mk H
                      clear H
                      go_wp2
                      go_roundg k2
                      case measure => have := HK1.out; have := HK2.out; omega
                      case rel => exact ⟨(wrap64 (x14_1 + 1)), (by first | rfl | (simp; done) | (simp [*]; done)), H', ⟨by have := HK1.out; have := HK2.out; omega⟩, ⟨by (with_reducible repeat (first | refine blk_drewN ?_ _ | refine blk_drew ?_ | refine blk_alloc ?_ _)); exact BK101.out⟩, ⟨by repeat (first | (with_reducible first | exact HB.out | apply below_alloc | apply pw_below_drewN | apply below_drew1 | refine below_set ?_ GE101.out) | exact HB.out)⟩⟩
              · rw [if_neg c11] at H
                have c11b0 : ((ji10) == 0) = false := beq_eq_false_iff_ne.mpr c11
                have c11b1 : ((ji10) != 0) = true := bne_iff_ne.mpr c11
                obtain rfl := Option.some.inj H
                have p102 : 0 ≤ (x14_1 : Int) := of_decide_eq_true (by first | (with_reducible assumption) | assumption)
                have q102 : x14_1 < (l0_0.length : Int) := of_decide_eq_true (by first | (with_reducible assumption) | assumption)
                obtain ⟨ad102, e102, hx102_0⟩ := Kd.at_int HR0_0.out x14_1 p102 q102
                cases e102
                replace hx102_0 := (HB.out.cell (World.block_lt_of_cell? w _ hx102_0)).trans hx102_0
                replace p102 := eq_true p102
                replace q102 := eq_true q102
                have hcz27_0 : wr.cell? ⟨gb101, 0, none⟩ = some (.slice (some ad102) l0_0.length c0_0) := (blk_cell BK101.out 0).trans rfl
                have hfz27_0 := blk_frozen BK101.out 0
                go_wp2
                go_ret
                exact ⟨by first | rfl | (simp [errW_none, errW_some] <;> rfl) | (simp only [← hji10]; first | rfl | (simp [errW_none, errW_some] <;> rfl)) | (simp [*, errW_none, errW_some] <;> rfl), by repeat (first | (with_reducible first | exact HB.out | apply below_alloc | apply pw_below_drewN | apply below_drew1 | refine below_set ?_ GE101.out) | exact HB.out)⟩
            · rw [if_neg c9] at H
              exact absurd H (by simp)
          · rw [if_neg c8] at H
            exact absurd H (by simp)
        · rw [if_neg c7] at H
          have c7b0 : decide (x14_1 < (l0_0.length : Int)) = false := decide_eq_false c7
          clear c7
          obtain rfl := Option.some.inj H
          go_wp2
          go_ret
          exact ⟨by first | rfl | (simp [errW_none, errW_some] <;> rfl) | (simp [*, errW_none, errW_some] <;> rfl), by repeat (first | (with_reducible first | exact HB.out | apply below_alloc | apply pw_below_drewN | apply below_drew1 | refine below_set ?_ GE101.out) | exact HB.out)⟩

end Go.Proofs.YtefmpehjahfnpaaDoor.Pr
