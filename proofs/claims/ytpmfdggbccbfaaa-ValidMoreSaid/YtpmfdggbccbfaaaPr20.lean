-- Printed by a program of this session's own (wip/tools/pp.py) over the kit's print.py; Lean checks it.
import Derived.Test.YtpmfdggbccbfaaaPr0
import Derived.Test.YtpmfdggbccbfaaaPr16
import Derived.Test.YtpmfdggbccbfaaaPr17
namespace Go.Proofs.Ytpmfdggbccbfaaa.Pr
open Go.RowKit Go.Proofs.YtpmfdggbccbfaaaW.PrintWords Go.Proofs.YtpmfdggbccbfaaaW.PrintLast Go.Proofs.YtpmfdggbccbfaaaW.PrintMore
attribute [local go_sem] max2_int min2_int max_two min_two max_three min_three max_four min_four   -- for this text's walks alone
set_option linter.unusedVariables false
set_option linter.unusedSimpArgs false

/-! ### arboristref12_Connected: function 23 -/
mutual
def arboristref12_Connected.l0 : Nat → Int → Int → List (List Int) → List Int → Option (Bool)
  | 0, _, _, _, _ => none
  | k + 1, x0, x6, x223000, x223001 => if x6 < x0 then (arboristref12_Connected.l1 k x0 x6 0 0 x223000 x223001) else (some true)
def arboristref12_Connected.l1 : Nat → Int → Int → Int → Int → List (List Int) → List Int → Option (Bool)
  | 0, _, _, _, _, _, _ => none
  | k + 1, x0, x6, x7, x8, x223000, x223001 => if x8 < (x223000.length : Int) then (if 0 ≤ x8 then ((arboristref01_In.f k (rd_L1 x223000 x8) x6).bind fun t225 => (if t225 = true then (if x8 < (x223001.length : Int) then (if (rd x223001 x8) ≥ 0 then (if 0 ≤ (rd x223001 x8) then (if (rd x223001 x8) < (x223000.length : Int) then ((arboristref01_In.f k (rd_L1 x223000 (rd x223001 x8)) x6).bind fun t229 => (if t229 = true then (arboristref12_Connected.l1 k x0 x6 x7 (wrap64 (x8 + 1)) x223000 x223001) else (arboristref12_Connected.l1 k x0 x6 (wrap64 (x7 + 1)) (wrap64 (x8 + 1)) x223000 x223001))) else (none)) else (none)) else (arboristref12_Connected.l1 k x0 x6 (wrap64 (x7 + 1)) (wrap64 (x8 + 1)) x223000 x223001)) else (none)) else (arboristref12_Connected.l1 k x0 x6 x7 (wrap64 (x8 + 1)) x223000 x223001))) else (none)) else (if x7 > 1 then (some false) else (arboristref12_Connected.l0 k x0 (wrap64 (x6 + 1)) x223000 x223001))
end
def arboristref12_Connected.f (k : Nat) (a0 : Int) (l1_0 : List (List Int)) (l1_1 : List Int) : Option (Bool) := (arboristref12_Tree.f k l1_0 l1_1).bind fun t223 => (if t223 = true then (arboristref12_Connected.l0 k a0 0 l1_0 l1_1) else (some false))
theorem arboristref12_Connected.mono_l : ∀ k, (∀ y0 y1 y2 y3, LeO (arboristref12_Connected.l0 k y0 y1 y2 y3) (arboristref12_Connected.l0 (k + 1) y0 y1 y2 y3)) ∧ (∀ y0 y1 y2 y3 y4 y5, LeO (arboristref12_Connected.l1 k y0 y1 y2 y3 y4 y5) (arboristref12_Connected.l1 (k + 1) y0 y1 y2 y3 y4 y5))
  | 0 => ⟨fun _ _ _ _ r h => by simp [arboristref12_Connected.l0] at h, fun _ _ _ _ _ _ r h => by simp [arboristref12_Connected.l1] at h⟩
  | k + 1 => by
    obtain ⟨ih0, ih1⟩ := arboristref12_Connected.mono_l k
    refine ⟨?_, ?_⟩
    all_goals intros
    all_goals (first | unfold arboristref12_Connected.l0 | unfold arboristref12_Connected.l1)
    all_goals repeat' first
    | (with_reducible exact ih0 _ _ _ _)
    | (with_reducible exact ih1 _ _ _ _ _ _)
    | (with_reducible exact arboristref01_In.mono _ _ _)
    | (with_reducible exact arboristref12_Tree.mono _ _ _)
    | (with_reducible exact LeO.refl _)
    | (with_reducible exact LeO.none _)
    | (with_reducible refine LeO.ite ?_ ?_)
    | (with_reducible refine LeO.bind ?_ (fun _ => ?_))
    | exact ih0 _ _ _ _
    | exact ih1 _ _ _ _ _ _
    | exact arboristref01_In.mono _ _ _
    | exact arboristref12_Tree.mono _ _ _
    | exact LeO.none _
    | refine LeO.ite ?_ ?_
    | refine LeO.bind ?_ (fun _ => ?_)
theorem arboristref12_Connected.mono : ∀ a0 a1 a2 k, LeO (arboristref12_Connected.f k a0 a1 a2) (arboristref12_Connected.f (k + 1) a0 a1 a2) := by
  intro a0 a1 a2 k
  obtain ⟨ih0, ih1⟩ := arboristref12_Connected.mono_l k
  unfold arboristref12_Connected.f
  repeat' first
      | (with_reducible exact ih0 _ _ _ _)
      | (with_reducible exact ih1 _ _ _ _ _ _)
      | (with_reducible exact arboristref01_In.mono _ _ _)
      | (with_reducible exact arboristref12_Tree.mono _ _ _)
      | (with_reducible exact LeO.refl _)
      | (with_reducible exact LeO.none _)
      | (with_reducible refine LeO.ite ?_ ?_)
      | (with_reducible refine LeO.bind ?_ (fun _ => ?_))
      | exact ih0 _ _ _ _
      | exact ih1 _ _ _ _ _ _
      | exact arboristref01_In.mono _ _ _
      | exact arboristref12_Tree.mono _ _ _
      | exact LeO.none _
      | refine LeO.ite ?_ ?_
      | refine LeO.bind ?_ (fun _ => ?_)
set_option maxHeartbeats 8000000 in
set_option maxRecDepth 100000 in
theorem arboristref12_Connected.calls (k : Nat) (a0 : Int) (A1_0 : Option Addr) (c1_0 : Nat) (l1_0 : List (List Int)) (A1_1 : Option Addr) (c1_1 : Nat) (l1_1 : List Int) (r : Bool) (w : World) (hr1_0 : Kd.C (Kd.slice 3 (Kd.int .i64)) w A1_0 l1_0.length l1_0) (hc1_0 : l1_0.length ≤ c1_0) (hr1_1 : Kd.C (Kd.int .i64) w A1_1 l1_1.length l1_1) (hc1_1 : l1_1.length ≤ c1_1) (h : arboristref12_Connected.f k a0 l1_0 l1_1 = some r) :
    Calls Try.prog 23 #[.int .i64 a0, .agg #[.slice A1_0 l1_0.length c1_0, .slice A1_1 l1_1.length c1_1]] w fun e w' => e = .returned (.bool r) ∧ Below w.heap.size w w' := by
  have hu25 := Try.underlying25
  have HR1_0 := Aside0.mk hr1_0
  have HC1_0 := Aside0.mk hc1_0
  clear hr1_0 hc1_0
  have HR1_1 := Aside0.mk hr1_1
  have HC1_1 := Aside0.mk hc1_1
  clear hr1_1 hc1_1
  have HB := Aside0.mk (Below.refl w.heap.size w)
  have H : ((arboristref12_Tree.f k l1_0 l1_1).bind fun t223 => (if t223 = true then (arboristref12_Connected.l0 k a0 0 l1_0 l1_1) else (some false))) = some r := h
  clear h
  replace H := Option.bind_eq_some_iff.mp H
  obtain ⟨t223, A30, H⟩ := H
  replace H : (if t223 = true then (arboristref12_Connected.l0 k a0 0 l1_0 l1_1) else (some false)) = some r := H
  have A3 := Aside0.mk A30
  clear A30
  by_cases c4 : t223 = true
  · subst c4
    have H1 : (arboristref12_Connected.l0 k a0 0 l1_0 l1_1) = some r := by rw [if_pos rfl] at H; exact H
    clear H
    have H := H1
    clear H1
    have H' := Aside0.mk H
    clear H
    go_enter Try.func23, Try.ntmps23
    go_wp2_with (first | ((with_reducible refine gate_dst (N := 3) rfl ?_); refine box_event ?hg (N := 3) ?hd (cs := #[.slice A1_0 l1_0.length c1_0, .slice A1_1 l1_1.length c1_1]) (t := 25) ?hr ?_; (case hd => rfl); (case hg => rfl); (case hr => first | (go_simp; done) | (go_simp; rfl)); intro gb222 hg w5 hbox hb; have n0_ := Aside0.mk (below_step (by repeat (first | (with_reducible first | exact HB.out | apply below_alloc | apply pw_below_drewN | apply below_drew1) | exact HB.out)) hb); have n1_ := Aside0.mk (hbox); have n2_ := Aside0.mk ((by rw [hg]; exact (below_size (by repeat (first | (with_reducible first | exact HB.out | apply below_alloc | apply pw_below_drewN | apply below_drew1) | exact HB.out))) : w.heap.size ≤ gb222)); have n3_ := Aside0.mk ((by rw [hg]; exact (below_size (by repeat (first | (with_reducible first | exact HB.out | apply below_alloc | apply pw_below_drewN | apply below_drew1) | exact HB.out))) : w.heap.size ≤ gb222)); clear HB; have HB := n0_; have BK222 := n1_; have GW222 := n2_; have GE222 := n3_; clear n0_ n1_ n2_ n3_; clear hb hbox hg; have hcz6_0 : w5.cell? ⟨gb222, 0, none⟩ = some (.slice A1_0 l1_0.length c1_0) := (blk_cell BK222.out 0).trans rfl; have hcz6_1 : w5.cell? ⟨gb222, 1, none⟩ = some (.slice A1_1 l1_1.length c1_1) := (blk_cell BK222.out 1).trans rfl; have hfz6_0 := blk_frozen BK222.out 0; have hfz6_1 := blk_frozen BK222.out 1) | (go_at_call 19; (with_reducible refine (arboristref12_Tree.calls k _ _ l1_0 _ _ l1_1 true _ ?side1 ?side2 ?side3 ?side4 A3.out).mono ?_); (case side1 => repeat (first | exact (Kd.C_below HR1_0.out HB.out) | (with_reducible refine Kd.C_alloc ?_ _) | (with_reducible refine Kd.C_drewN ?_ _) | (with_reducible refine Kd.C_drew ?_))); (case side2 => exact HC1_0.out); (case side3 => repeat (first | exact (Kd.C_below HR1_1.out HB.out) | (with_reducible refine Kd.C_alloc ?_ _) | (with_reducible refine Kd.C_drewN ?_ _) | (with_reducible refine Kd.C_drew ?_))); (case side4 => exact HC1_1.out); rintro e w7 ⟨rfl, hb⟩; have n0_ := Aside0.mk (blk_below (g := gb222) (o := .cells #[.slice A1_0 l1_0.length c1_0, .slice A1_1 l1_1.length c1_1] 25 (0, 0)) (by (with_reducible repeat (first | refine blk_drewN ?_ _ | refine blk_drew ?_ | refine blk_alloc ?_ _)); exact BK222.out) hb); have n1_ := Aside0.mk (below_step (by repeat (first | (with_reducible first | exact HB.out | apply below_alloc | apply pw_below_drewN | apply below_drew1 | refine below_set ?_ GE222.out) | exact HB.out)) hb); clear BK222; clear HB; have BK222 := n0_; have HB := n1_; clear n0_ n1_; (try clear hb); (try clear hb2); (try clear hk); (try clear hi)))
    repeat (go_quiet (first | ((with_reducible refine gate_dst (N := 3) rfl ?_); refine box_event ?hg (N := 3) ?hd (cs := #[.slice A1_0 l1_0.length c1_0, .slice A1_1 l1_1.length c1_1]) (t := 25) ?hr ?_; (case hd => rfl); (case hg => rfl); (case hr => first | (go_simp; done) | (go_simp; rfl)); intro gb222 hg w5 hbox hb; have n0_ := Aside0.mk (below_step (by repeat (first | (with_reducible first | exact HB.out | apply below_alloc | apply pw_below_drewN | apply below_drew1) | exact HB.out)) hb); have n1_ := Aside0.mk (hbox); have n2_ := Aside0.mk ((by rw [hg]; exact (below_size (by repeat (first | (with_reducible first | exact HB.out | apply below_alloc | apply pw_below_drewN | apply below_drew1) | exact HB.out))) : w.heap.size ≤ gb222)); have n3_ := Aside0.mk ((by rw [hg]; exact (below_size (by repeat (first | (with_reducible first | exact HB.out | apply below_alloc | apply pw_below_drewN | apply below_drew1) | exact HB.out))) : w.heap.size ≤ gb222)); clear HB; have HB := n0_; have BK222 := n1_; have GW222 := n2_; have GE222 := n3_; clear n0_ n1_ n2_ n3_; clear hb hbox hg; have hcz6_0 : w5.cell? ⟨gb222, 0, none⟩ = some (.slice A1_0 l1_0.length c1_0) := (blk_cell BK222.out 0).trans rfl; have hcz6_1 : w5.cell? ⟨gb222, 1, none⟩ = some (.slice A1_1 l1_1.length c1_1) := (blk_cell BK222.out 1).trans rfl; have hfz6_0 := blk_frozen BK222.out 0; have hfz6_1 := blk_frozen BK222.out 1) | (go_at_call 19; (with_reducible refine (arboristref12_Tree.calls k _ _ l1_0 _ _ l1_1 true _ ?side1 ?side2 ?side3 ?side4 A3.out).mono ?_); (case side1 => repeat (first | exact (Kd.C_below HR1_0.out HB.out) | (with_reducible refine Kd.C_alloc ?_ _) | (with_reducible refine Kd.C_drewN ?_ _) | (with_reducible refine Kd.C_drew ?_))); (case side2 => exact HC1_0.out); (case side3 => repeat (first | exact (Kd.C_below HR1_1.out HB.out) | (with_reducible refine Kd.C_alloc ?_ _) | (with_reducible refine Kd.C_drewN ?_ _) | (with_reducible refine Kd.C_drew ?_))); (case side4 => exact HC1_1.out); rintro e w7 ⟨rfl, hb⟩; have n0_ := Aside0.mk (blk_below (g := gb222) (o := .cells #[.slice A1_0 l1_0.length c1_0, .slice A1_1 l1_1.length c1_1] 25 (0, 0)) (by (with_reducible repeat (first | refine blk_drewN ?_ _ | refine blk_drew ?_ | refine blk_alloc ?_ _)); exact BK222.out) hb); have n1_ := Aside0.mk (below_step (by repeat (first | (with_reducible first | exact HB.out | apply below_alloc | apply pw_below_drewN | apply below_drew1 | refine below_set ?_ GE222.out) | exact HB.out)) hb); clear BK222; clear HB; have BK222 := n0_; have HB := n1_; clear n0_ n1_; (try clear hb); (try clear hb2); (try clear hk); (try clear hi))); try go_wp2_with (first | ((with_reducible refine gate_dst (N := 3) rfl ?_); refine box_event ?hg (N := 3) ?hd (cs := #[.slice A1_0 l1_0.length c1_0, .slice A1_1 l1_1.length c1_1]) (t := 25) ?hr ?_; (case hd => rfl); (case hg => rfl); (case hr => first | (go_simp; done) | (go_simp; rfl)); intro gb222 hg w5 hbox hb; have n0_ := Aside0.mk (below_step (by repeat (first | (with_reducible first | exact HB.out | apply below_alloc | apply pw_below_drewN | apply below_drew1) | exact HB.out)) hb); have n1_ := Aside0.mk (hbox); have n2_ := Aside0.mk ((by rw [hg]; exact (below_size (by repeat (first | (with_reducible first | exact HB.out | apply below_alloc | apply pw_below_drewN | apply below_drew1) | exact HB.out))) : w.heap.size ≤ gb222)); have n3_ := Aside0.mk ((by rw [hg]; exact (below_size (by repeat (first | (with_reducible first | exact HB.out | apply below_alloc | apply pw_below_drewN | apply below_drew1) | exact HB.out))) : w.heap.size ≤ gb222)); clear HB; have HB := n0_; have BK222 := n1_; have GW222 := n2_; have GE222 := n3_; clear n0_ n1_ n2_ n3_; clear hb hbox hg; have hcz6_0 : w5.cell? ⟨gb222, 0, none⟩ = some (.slice A1_0 l1_0.length c1_0) := (blk_cell BK222.out 0).trans rfl; have hcz6_1 : w5.cell? ⟨gb222, 1, none⟩ = some (.slice A1_1 l1_1.length c1_1) := (blk_cell BK222.out 1).trans rfl; have hfz6_0 := blk_frozen BK222.out 0; have hfz6_1 := blk_frozen BK222.out 1) | (go_at_call 19; (with_reducible refine (arboristref12_Tree.calls k _ _ l1_0 _ _ l1_1 true _ ?side1 ?side2 ?side3 ?side4 A3.out).mono ?_); (case side1 => repeat (first | exact (Kd.C_below HR1_0.out HB.out) | (with_reducible refine Kd.C_alloc ?_ _) | (with_reducible refine Kd.C_drewN ?_ _) | (with_reducible refine Kd.C_drew ?_))); (case side2 => exact HC1_0.out); (case side3 => repeat (first | exact (Kd.C_below HR1_1.out HB.out) | (with_reducible refine Kd.C_alloc ?_ _) | (with_reducible refine Kd.C_drewN ?_ _) | (with_reducible refine Kd.C_drew ?_))); (case side4 => exact HC1_1.out); rintro e w7 ⟨rfl, hb⟩; have n0_ := Aside0.mk (blk_below (g := gb222) (o := .cells #[.slice A1_0 l1_0.length c1_0, .slice A1_1 l1_1.length c1_1] 25 (0, 0)) (by (with_reducible repeat (first | refine blk_drewN ?_ _ | refine blk_drew ?_ | refine blk_alloc ?_ _)); exact BK222.out) hb); have n1_ := Aside0.mk (below_step (by repeat (first | (with_reducible first | exact HB.out | apply below_alloc | apply pw_below_drewN | apply below_drew1 | refine below_set ?_ GE222.out) | exact HB.out)) hb); clear BK222; clear HB; have BK222 := n0_; have HB := n1_; clear n0_ n1_; (try clear hb); (try clear hb2); (try clear hk); (try clear hi))))
    go_loopg [6] k (fun kq v6 w' => ∃ (x6_1 : Int), v6 = .int .i64 x6_1 ∧ Aside0 (arboristref12_Connected.l0 kq a0 x6_1 l1_0 l1_1 = some r) ∧ Aside0 (kq ≤ k) ∧ Aside0 (w'.heap[gb222]? = some (.cells #[(.slice A1_0 l1_0.length c1_0), (.slice A1_1 l1_1.length c1_1)] 25 (0, 0))) ∧ Aside0 (Below w.heap.size w w'))
    case atStart => exact ⟨(0), (by first | rfl | (simp; done) | (simp [*]; done)), H', ⟨Nat.le_refl _⟩, ⟨by (with_reducible repeat (first | refine blk_drewN ?_ _ | refine blk_drew ?_ | refine blk_alloc ?_ _)); exact BK222.out⟩, ⟨by repeat (first | (with_reducible first | exact HB.out | apply below_alloc | apply pw_below_drewN | apply below_drew1 | refine below_set ?_ GE222.out) | exact HB.out)⟩⟩
    case round =>
      clear H'
      try clear c1
      try clear c2
      try clear p2
      try clear c4
      try clear hcz6_0
      try clear hcz6_1
      try clear hfz6_0
      try clear hfz6_1
      obtain ⟨x6_1, rfl, HA, HK1, BK222, HB⟩ := hrel
      cases gk with
      | zero => exact absurd HA.out (by simp [arboristref12_Connected.l0])
      | succ k1 =>
        have H := HA.out
        clear HA
        simp only [arboristref12_Connected.l0] at H
        by_cases c8 : x6_1 < a0
        · rw [if_pos c8] at H
          have c8b0 : decide (x6_1 < a0) = true := decide_eq_true c8
          clear c8
          have H' := Aside0.mk H
          clear H
          go_wp2
          repeat (go_quiet (fail); try go_wp2)
          go_loopg [7, 8] k1 (fun kq v7 v8 w' => ∃ (x7_2 : Int) (x8_2 : Int), v7 = .int .i64 x7_2 ∧ v8 = .int .i64 x8_2 ∧ Aside0 (arboristref12_Connected.l1 kq a0 x6_1 x7_2 x8_2 l1_0 l1_1 = some r) ∧ Aside0 (kq ≤ k1) ∧ Aside0 (w'.heap[gb222]? = some (.cells #[(.slice A1_0 l1_0.length c1_0), (.slice A1_1 l1_1.length c1_1)] 25 (0, 0))) ∧ Aside0 (Below w.heap.size w w'))
          case atStart => exact ⟨(0), (0), (by first | rfl | (simp; done) | (simp [*]; done)), (by first | rfl | (simp; done) | (simp [*]; done)), H', ⟨Nat.le_refl _⟩, ⟨by (with_reducible repeat (first | refine blk_drewN ?_ _ | refine blk_drew ?_ | refine blk_alloc ?_ _)); exact BK222.out⟩, ⟨by repeat (first | (with_reducible first | exact HB.out | apply below_alloc | apply pw_below_drewN | apply below_drew1 | refine below_set ?_ GE222.out) | exact HB.out)⟩⟩
          case round =>
            clear H'
            try clear c1
            try clear c2
            try clear p2
            try clear c4
            try clear c8
            try clear c8b0
            try clear hcz6_0
            try clear hcz6_1
            try clear hfz6_0
            try clear hfz6_1
            try clear p2
            obtain ⟨x7_2, x8_2, rfl, rfl, HA, HK2, BK222, HB⟩ := hrel
            cases gk with
            | zero => exact absurd HA.out (by simp [arboristref12_Connected.l1])
            | succ k2 =>
              have H := HA.out
              clear HA
              simp only [arboristref12_Connected.l1] at H
              by_cases c9 : x8_2 < (l1_0.length : Int)
              · rw [if_pos c9] at H
                have c9b0 : decide (x8_2 < (l1_0.length : Int)) = true := decide_eq_true c9
                clear c9
                by_cases c10 : 0 ≤ x8_2
                · rw [if_pos c10] at H
                  have c10b0 : decide (0 ≤ x8_2) = true := decide_eq_true c10
                  clear c10
                  replace H := Option.bind_eq_some_iff.mp H
                  obtain ⟨t225, A110, H⟩ := H
                  replace H : (if t225 = true then (if x8_2 < (l1_1.length : Int) then (if (rd l1_1 x8_2) ≥ 0 then (if 0 ≤ (rd l1_1 x8_2) then (if (rd l1_1 x8_2) < (l1_0.length : Int) then ((arboristref01_In.f k2 (rd_L1 l1_0 (rd l1_1 x8_2)) x6_1).bind fun t229 => (if t229 = true then (arboristref12_Connected.l1 k2 a0 x6_1 x7_2 (wrap64 (x8_2 + 1)) l1_0 l1_1) else (arboristref12_Connected.l1 k2 a0 x6_1 (wrap64 (x7_2 + 1)) (wrap64 (x8_2 + 1)) l1_0 l1_1))) else (none)) else (none)) else (arboristref12_Connected.l1 k2 a0 x6_1 (wrap64 (x7_2 + 1)) (wrap64 (x8_2 + 1)) l1_0 l1_1)) else (none)) else (arboristref12_Connected.l1 k2 a0 x6_1 x7_2 (wrap64 (x8_2 + 1)) l1_0 l1_1)) = some r := H
                  have A11 := Aside0.mk A110
                  clear A110
                  by_cases c12 : t225 = true
                  · subst c12
                    have H1 : (if x8_2 < (l1_1.length : Int) then (if (rd l1_1 x8_2) ≥ 0 then (if 0 ≤ (rd l1_1 x8_2) then (if (rd l1_1 x8_2) < (l1_0.length : Int) then ((arboristref01_In.f k2 (rd_L1 l1_0 (rd l1_1 x8_2)) x6_1).bind fun t229 => (if t229 = true then (arboristref12_Connected.l1 k2 a0 x6_1 x7_2 (wrap64 (x8_2 + 1)) l1_0 l1_1) else (arboristref12_Connected.l1 k2 a0 x6_1 (wrap64 (x7_2 + 1)) (wrap64 (x8_2 + 1)) l1_0 l1_1))) else (none)) else (none)) else (arboristref12_Connected.l1 k2 a0 x6_1 (wrap64 (x7_2 + 1)) (wrap64 (x8_2 + 1)) l1_0 l1_1)) else (none)) = some r := by rw [if_pos rfl] at H; exact H
                    clear H
                    have H := H1
                    clear H1
                    by_cases c13 : x8_2 < (l1_1.length : Int)
                    · rw [if_pos c13] at H
                      have c13b0 : decide (x8_2 < (l1_1.length : Int)) = true := decide_eq_true c13
                      clear c13
                      by_cases c14 : (rd l1_1 x8_2) ≥ 0
                      · rw [if_pos c14] at H
                        have c14b0 : decide (0 ≤ (rd l1_1 x8_2)) = true := decide_eq_true c14
                        clear c14
                        by_cases c15 : 0 ≤ (rd l1_1 x8_2)
                        · rw [if_pos c15] at H
                          have c15b0 : decide (0 ≤ (rd l1_1 x8_2)) = true := decide_eq_true c15
                          clear c15
                          by_cases c16 : (rd l1_1 x8_2) < (l1_0.length : Int)
                          · rw [if_pos c16] at H
                            have c16b0 : decide ((rd l1_1 x8_2) < (l1_0.length : Int)) = true := decide_eq_true c16
                            clear c16
                            replace H := Option.bind_eq_some_iff.mp H
                            obtain ⟨t229, A170, H⟩ := H
                            replace H : (if t229 = true then (arboristref12_Connected.l1 k2 a0 x6_1 x7_2 (wrap64 (x8_2 + 1)) l1_0 l1_1) else (arboristref12_Connected.l1 k2 a0 x6_1 (wrap64 (x7_2 + 1)) (wrap64 (x8_2 + 1)) l1_0 l1_1)) = some r := H
                            have A17 := Aside0.mk A170
                            clear A170
                            by_cases c18 : t229 = true
                            · subst c18
                              have H1 : (arboristref12_Connected.l1 k2 a0 x6_1 x7_2 (wrap64 (x8_2 + 1)) l1_0 l1_1) = some r := by rw [if_pos rfl] at H; exact H
                              clear H
                              have H := H1
                              clear H1
                              have H' := Aside0.mk H
                              clear H
                              have hcz19_0 : wr.cell? ⟨gb222, 0, none⟩ = some (.slice A1_0 l1_0.length c1_0) := (blk_cell BK222.out 0).trans rfl
                              have hcz19_1 : wr.cell? ⟨gb222, 1, none⟩ = some (.slice A1_1 l1_1.length c1_1) := (blk_cell BK222.out 1).trans rfl
                              have hfz19_0 := blk_frozen BK222.out 0
                              have hfz19_1 := blk_frozen BK222.out 1
                              have p224 : 0 ≤ (x8_2 : Int) := of_decide_eq_true (by first | (with_reducible assumption) | assumption)
                              have q224 : x8_2 < (l1_0.length : Int) := of_decide_eq_true (by first | (with_reducible assumption) | assumption)
                              obtain ⟨ad224, A224_0, c224_0, e224, hx224_0, hl224_0, hi224_0⟩ := at_L1 HR1_0.out x8_2 p224 q224
                              cases e224
                              replace hx224_0 := (HB.out.cell (World.block_lt_of_cell? w _ hx224_0)).trans hx224_0
                              have HR224_0 := Aside0.mk hi224_0
                              have HC224_0 := Aside0.mk hl224_0
                              clear hi224_0 hl224_0
                              replace p224 := eq_true p224
                              replace q224 := eq_true q224
                              go_wp2_with (first | (go_at_call 37; (with_reducible refine (arboristref01_In.calls k2 _ _ (rd_L1 l1_0 x8_2) x6_1 true _ ?side1 ?side2 A11.out).mono ?_); (case side1 => repeat (first | exact (Kd.C_below HR224_0.out HB.out) | (with_reducible refine Kd.C_alloc ?_ _) | (with_reducible refine Kd.C_drewN ?_ _) | (with_reducible refine Kd.C_drew ?_))); (case side2 => exact HC224_0.out); rintro e w' ⟨rfl, ⟨nd, rfl⟩⟩; (try first | exact ⟨rfl, _, World.drewN_drewN _ _ _⟩ | exact ⟨rfl, _, Eq.trans (World.drewN_drewN _ _ _) (congrArg (World.drewN _) (Nat.add_assoc _ _ _))⟩); all_goals (have p226 : 0 ≤ (x8_2 : Int) := of_decide_eq_true (by first | (with_reducible assumption) | assumption); have q226 : x8_2 < (l1_1.length : Int) := of_decide_eq_true (by first | (with_reducible assumption) | assumption); obtain ⟨ad226, e226, hx226_0⟩ := Kd.at_int HR1_1.out x8_2 p226 q226; cases e226; replace hx226_0 := (HB.out.cell (World.block_lt_of_cell? w _ hx226_0)).trans hx226_0; replace p226 := eq_true p226; replace q226 := eq_true q226; have p227 : 0 ≤ (x8_2 : Int) := of_decide_eq_true (by first | (with_reducible assumption) | assumption); have q227 : x8_2 < (l1_1.length : Int) := of_decide_eq_true (by first | (with_reducible assumption) | assumption); obtain ⟨ad227, e227, hx227_0⟩ := Kd.at_int HR1_1.out x8_2 p227 q227; obtain rfl : ad226 = ad227 := (by injection e227); replace hx227_0 := (HB.out.cell (World.block_lt_of_cell? w _ hx227_0)).trans hx227_0; replace p227 := eq_true p227; replace q227 := eq_true q227; have p228 : 0 ≤ ((rd l1_1 x8_2) : Int) := of_decide_eq_true (by first | (with_reducible assumption) | assumption); have q228 : (rd l1_1 x8_2) < (l1_0.length : Int) := of_decide_eq_true (by first | (with_reducible assumption) | assumption); obtain ⟨ad228, A228_0, c228_0, e228, hx228_0, hl228_0, hi228_0⟩ := at_L1 HR1_0.out (rd l1_1 x8_2) p228 q228; obtain rfl : ad224 = ad228 := (by injection e228); replace hx228_0 := (HB.out.cell (World.block_lt_of_cell? w _ hx228_0)).trans hx228_0; have HR228_0 := Aside0.mk hi228_0; have HC228_0 := Aside0.mk hl228_0; clear hi228_0 hl228_0; replace p228 := eq_true p228; replace q228 := eq_true q228)) | (go_at_call 37; (with_reducible refine (arboristref01_In.calls k2 _ _ (rd_L1 l1_0 (rd l1_1 x8_2)) x6_1 true _ ?side1 ?side2 A17.out).mono ?_); (case side1 => repeat (first | exact (Kd.C_below HR228_0.out (by repeat (first | (with_reducible first | exact HB.out | apply below_alloc | apply pw_below_drewN | apply below_drew1 | refine below_set ?_ GE222.out) | exact HB.out))) | (with_reducible refine Kd.C_alloc ?_ _) | (with_reducible refine Kd.C_drewN ?_ _) | (with_reducible refine Kd.C_drew ?_))); (case side2 => exact HC228_0.out); rintro e w' ⟨rfl, ⟨nd, rfl⟩⟩; (try first | exact ⟨rfl, _, World.drewN_drewN _ _ _⟩ | exact ⟨rfl, _, Eq.trans (World.drewN_drewN _ _ _) (congrArg (World.drewN _) (Nat.add_assoc _ _ _))⟩)))
                              repeat (go_quiet (first | (go_at_call 37; (with_reducible refine (arboristref01_In.calls k2 _ _ (rd_L1 l1_0 x8_2) x6_1 true _ ?side1 ?side2 A11.out).mono ?_); (case side1 => repeat (first | exact (Kd.C_below HR224_0.out HB.out) | (with_reducible refine Kd.C_alloc ?_ _) | (with_reducible refine Kd.C_drewN ?_ _) | (with_reducible refine Kd.C_drew ?_))); (case side2 => exact HC224_0.out); rintro e w' ⟨rfl, ⟨nd, rfl⟩⟩; (try first | exact ⟨rfl, _, World.drewN_drewN _ _ _⟩ | exact ⟨rfl, _, Eq.trans (World.drewN_drewN _ _ _) (congrArg (World.drewN _) (Nat.add_assoc _ _ _))⟩); all_goals (have p226 : 0 ≤ (x8_2 : Int) := of_decide_eq_true (by first | (with_reducible assumption) | assumption); have q226 : x8_2 < (l1_1.length : Int) := of_decide_eq_true (by first | (with_reducible assumption) | assumption); obtain ⟨ad226, e226, hx226_0⟩ := Kd.at_int HR1_1.out x8_2 p226 q226; cases e226; replace hx226_0 := (HB.out.cell (World.block_lt_of_cell? w _ hx226_0)).trans hx226_0; replace p226 := eq_true p226; replace q226 := eq_true q226; have p227 : 0 ≤ (x8_2 : Int) := of_decide_eq_true (by first | (with_reducible assumption) | assumption); have q227 : x8_2 < (l1_1.length : Int) := of_decide_eq_true (by first | (with_reducible assumption) | assumption); obtain ⟨ad227, e227, hx227_0⟩ := Kd.at_int HR1_1.out x8_2 p227 q227; obtain rfl : ad226 = ad227 := (by injection e227); replace hx227_0 := (HB.out.cell (World.block_lt_of_cell? w _ hx227_0)).trans hx227_0; replace p227 := eq_true p227; replace q227 := eq_true q227; have p228 : 0 ≤ ((rd l1_1 x8_2) : Int) := of_decide_eq_true (by first | (with_reducible assumption) | assumption); have q228 : (rd l1_1 x8_2) < (l1_0.length : Int) := of_decide_eq_true (by first | (with_reducible assumption) | assumption); obtain ⟨ad228, A228_0, c228_0, e228, hx228_0, hl228_0, hi228_0⟩ := at_L1 HR1_0.out (rd l1_1 x8_2) p228 q228; obtain rfl : ad224 = ad228 := (by injection e228); replace hx228_0 := (HB.out.cell (World.block_lt_of_cell? w _ hx228_0)).trans hx228_0; have HR228_0 := Aside0.mk hi228_0; have HC228_0 := Aside0.mk hl228_0; clear hi228_0 hl228_0; replace p228 := eq_true p228; replace q228 := eq_true q228)) | (go_at_call 37; (with_reducible refine (arboristref01_In.calls k2 _ _ (rd_L1 l1_0 (rd l1_1 x8_2)) x6_1 true _ ?side1 ?side2 A17.out).mono ?_); (case side1 => repeat (first | exact (Kd.C_below HR228_0.out (by repeat (first | (with_reducible first | exact HB.out | apply below_alloc | apply pw_below_drewN | apply below_drew1 | refine below_set ?_ GE222.out) | exact HB.out))) | (with_reducible refine Kd.C_alloc ?_ _) | (with_reducible refine Kd.C_drewN ?_ _) | (with_reducible refine Kd.C_drew ?_))); (case side2 => exact HC228_0.out); rintro e w' ⟨rfl, ⟨nd, rfl⟩⟩; (try first | exact ⟨rfl, _, World.drewN_drewN _ _ _⟩ | exact ⟨rfl, _, Eq.trans (World.drewN_drewN _ _ _) (congrArg (World.drewN _) (Nat.add_assoc _ _ _))⟩))); try go_wp2_with (first | (go_at_call 37; (with_reducible refine (arboristref01_In.calls k2 _ _ (rd_L1 l1_0 x8_2) x6_1 true _ ?side1 ?side2 A11.out).mono ?_); (case side1 => repeat (first | exact (Kd.C_below HR224_0.out HB.out) | (with_reducible refine Kd.C_alloc ?_ _) | (with_reducible refine Kd.C_drewN ?_ _) | (with_reducible refine Kd.C_drew ?_))); (case side2 => exact HC224_0.out); rintro e w' ⟨rfl, ⟨nd, rfl⟩⟩; (try first | exact ⟨rfl, _, World.drewN_drewN _ _ _⟩ | exact ⟨rfl, _, Eq.trans (World.drewN_drewN _ _ _) (congrArg (World.drewN _) (Nat.add_assoc _ _ _))⟩); all_goals (have p226 : 0 ≤ (x8_2 : Int) := of_decide_eq_true (by first | (with_reducible assumption) | assumption); have q226 : x8_2 < (l1_1.length : Int) := of_decide_eq_true (by first | (with_reducible assumption) | assumption); obtain ⟨ad226, e226, hx226_0⟩ := Kd.at_int HR1_1.out x8_2 p226 q226; cases e226; replace hx226_0 := (HB.out.cell (World.block_lt_of_cell? w _ hx226_0)).trans hx226_0; replace p226 := eq_true p226; replace q226 := eq_true q226; have p227 : 0 ≤ (x8_2 : Int) := of_decide_eq_true (by first | (with_reducible assumption) | assumption); have q227 : x8_2 < (l1_1.length : Int) := of_decide_eq_true (by first | (with_reducible assumption) | assumption); obtain ⟨ad227, e227, hx227_0⟩ := Kd.at_int HR1_1.out x8_2 p227 q227; obtain rfl : ad226 = ad227 := (by injection e227); replace hx227_0 := (HB.out.cell (World.block_lt_of_cell? w _ hx227_0)).trans hx227_0; replace p227 := eq_true p227; replace q227 := eq_true q227; have p228 : 0 ≤ ((rd l1_1 x8_2) : Int) := of_decide_eq_true (by first | (with_reducible assumption) | assumption); have q228 : (rd l1_1 x8_2) < (l1_0.length : Int) := of_decide_eq_true (by first | (with_reducible assumption) | assumption); obtain ⟨ad228, A228_0, c228_0, e228, hx228_0, hl228_0, hi228_0⟩ := at_L1 HR1_0.out (rd l1_1 x8_2) p228 q228; obtain rfl : ad224 = ad228 := (by injection e228); replace hx228_0 := (HB.out.cell (World.block_lt_of_cell? w _ hx228_0)).trans hx228_0; have HR228_0 := Aside0.mk hi228_0; have HC228_0 := Aside0.mk hl228_0; clear hi228_0 hl228_0; replace p228 := eq_true p228; replace q228 := eq_true q228)) | (go_at_call 37; (with_reducible refine (arboristref01_In.calls k2 _ _ (rd_L1 l1_0 (rd l1_1 x8_2)) x6_1 true _ ?side1 ?side2 A17.out).mono ?_); (case side1 => repeat (first | exact (Kd.C_below HR228_0.out (by repeat (first | (with_reducible first | exact HB.out | apply below_alloc | apply pw_below_drewN | apply below_drew1 | refine below_set ?_ GE222.out) | exact HB.out))) | (with_reducible refine Kd.C_alloc ?_ _) | (with_reducible refine Kd.C_drewN ?_ _) | (with_reducible refine Kd.C_drew ?_))); (case side2 => exact HC228_0.out); rintro e w' ⟨rfl, ⟨nd, rfl⟩⟩; (try first | exact ⟨rfl, _, World.drewN_drewN _ _ _⟩ | exact ⟨rfl, _, Eq.trans (World.drewN_drewN _ _ _) (congrArg (World.drewN _) (Nat.add_assoc _ _ _))⟩))))
                              go_roundg k2
                              case measure => have := HK1.out; have := HK2.out; omega
                              case rel => exact ⟨(x7_2), (wrap64 (x8_2 + 1)), (by first | rfl | (simp; done) | (simp [*]; done)), (by first | rfl | (simp; done) | (simp [*]; done)), H', ⟨by have := HK1.out; have := HK2.out; omega⟩, ⟨by (with_reducible repeat (first | refine blk_drewN ?_ _ | refine blk_drew ?_ | refine blk_alloc ?_ _)); exact BK222.out⟩, ⟨by repeat (first | (with_reducible first | exact HB.out | apply below_alloc | apply pw_below_drewN | apply below_drew1 | refine below_set ?_ GE222.out) | exact HB.out)⟩⟩
                            · replace c18 := Bool.eq_false_iff.mpr c18
                              subst c18
                              have H1 : (arboristref12_Connected.l1 k2 a0 x6_1 (wrap64 (x7_2 + 1)) (wrap64 (x8_2 + 1)) l1_0 l1_1) = some r := by rw [if_neg (show ¬ (false = true) by decide)] at H; exact H
                              clear H
                              have H := H1
                              clear H1
                              have H' := Aside0.mk H
                              clear H
                              have hcz20_0 : wr.cell? ⟨gb222, 0, none⟩ = some (.slice A1_0 l1_0.length c1_0) := (blk_cell BK222.out 0).trans rfl
                              have hcz20_1 : wr.cell? ⟨gb222, 1, none⟩ = some (.slice A1_1 l1_1.length c1_1) := (blk_cell BK222.out 1).trans rfl
                              have hfz20_0 := blk_frozen BK222.out 0
                              have hfz20_1 := blk_frozen BK222.out 1
                              have p224 : 0 ≤ (x8_2 : Int) := of_decide_eq_true (by first | (with_reducible assumption) | assumption)
                              have q224 : x8_2 < (l1_0.length : Int) := of_decide_eq_true (by first | (with_reducible assumption) | assumption)
                              obtain ⟨ad224, A224_0, c224_0, e224, hx224_0, hl224_0, hi224_0⟩ := at_L1 HR1_0.out x8_2 p224 q224
                              cases e224
                              replace hx224_0 := (HB.out.cell (World.block_lt_of_cell? w _ hx224_0)).trans hx224_0
                              have HR224_0 := Aside0.mk hi224_0
                              have HC224_0 := Aside0.mk hl224_0
                              clear hi224_0 hl224_0
                              replace p224 := eq_true p224
                              replace q224 := eq_true q224
                              go_wp2_with (first | (go_at_call 37; (with_reducible refine (arboristref01_In.calls k2 _ _ (rd_L1 l1_0 x8_2) x6_1 true _ ?side1 ?side2 A11.out).mono ?_); (case side1 => repeat (first | exact (Kd.C_below HR224_0.out HB.out) | (with_reducible refine Kd.C_alloc ?_ _) | (with_reducible refine Kd.C_drewN ?_ _) | (with_reducible refine Kd.C_drew ?_))); (case side2 => exact HC224_0.out); rintro e w' ⟨rfl, ⟨nd, rfl⟩⟩; (try first | exact ⟨rfl, _, World.drewN_drewN _ _ _⟩ | exact ⟨rfl, _, Eq.trans (World.drewN_drewN _ _ _) (congrArg (World.drewN _) (Nat.add_assoc _ _ _))⟩); all_goals (have p226 : 0 ≤ (x8_2 : Int) := of_decide_eq_true (by first | (with_reducible assumption) | assumption); have q226 : x8_2 < (l1_1.length : Int) := of_decide_eq_true (by first | (with_reducible assumption) | assumption); obtain ⟨ad226, e226, hx226_0⟩ := Kd.at_int HR1_1.out x8_2 p226 q226; cases e226; replace hx226_0 := (HB.out.cell (World.block_lt_of_cell? w _ hx226_0)).trans hx226_0; replace p226 := eq_true p226; replace q226 := eq_true q226; have p227 : 0 ≤ (x8_2 : Int) := of_decide_eq_true (by first | (with_reducible assumption) | assumption); have q227 : x8_2 < (l1_1.length : Int) := of_decide_eq_true (by first | (with_reducible assumption) | assumption); obtain ⟨ad227, e227, hx227_0⟩ := Kd.at_int HR1_1.out x8_2 p227 q227; obtain rfl : ad226 = ad227 := (by injection e227); replace hx227_0 := (HB.out.cell (World.block_lt_of_cell? w _ hx227_0)).trans hx227_0; replace p227 := eq_true p227; replace q227 := eq_true q227; have p228 : 0 ≤ ((rd l1_1 x8_2) : Int) := of_decide_eq_true (by first | (with_reducible assumption) | assumption); have q228 : (rd l1_1 x8_2) < (l1_0.length : Int) := of_decide_eq_true (by first | (with_reducible assumption) | assumption); obtain ⟨ad228, A228_0, c228_0, e228, hx228_0, hl228_0, hi228_0⟩ := at_L1 HR1_0.out (rd l1_1 x8_2) p228 q228; obtain rfl : ad224 = ad228 := (by injection e228); replace hx228_0 := (HB.out.cell (World.block_lt_of_cell? w _ hx228_0)).trans hx228_0; have HR228_0 := Aside0.mk hi228_0; have HC228_0 := Aside0.mk hl228_0; clear hi228_0 hl228_0; replace p228 := eq_true p228; replace q228 := eq_true q228)) | (go_at_call 37; (with_reducible refine (arboristref01_In.calls k2 _ _ (rd_L1 l1_0 (rd l1_1 x8_2)) x6_1 false _ ?side1 ?side2 A17.out).mono ?_); (case side1 => repeat (first | exact (Kd.C_below HR228_0.out (by repeat (first | (with_reducible first | exact HB.out | apply below_alloc | apply pw_below_drewN | apply below_drew1 | refine below_set ?_ GE222.out) | exact HB.out))) | (with_reducible refine Kd.C_alloc ?_ _) | (with_reducible refine Kd.C_drewN ?_ _) | (with_reducible refine Kd.C_drew ?_))); (case side2 => exact HC228_0.out); rintro e w' ⟨rfl, ⟨nd, rfl⟩⟩; (try first | exact ⟨rfl, _, World.drewN_drewN _ _ _⟩ | exact ⟨rfl, _, Eq.trans (World.drewN_drewN _ _ _) (congrArg (World.drewN _) (Nat.add_assoc _ _ _))⟩)))
                              repeat (go_quiet (first | (go_at_call 37; (with_reducible refine (arboristref01_In.calls k2 _ _ (rd_L1 l1_0 x8_2) x6_1 true _ ?side1 ?side2 A11.out).mono ?_); (case side1 => repeat (first | exact (Kd.C_below HR224_0.out HB.out) | (with_reducible refine Kd.C_alloc ?_ _) | (with_reducible refine Kd.C_drewN ?_ _) | (with_reducible refine Kd.C_drew ?_))); (case side2 => exact HC224_0.out); rintro e w' ⟨rfl, ⟨nd, rfl⟩⟩; (try first | exact ⟨rfl, _, World.drewN_drewN _ _ _⟩ | exact ⟨rfl, _, Eq.trans (World.drewN_drewN _ _ _) (congrArg (World.drewN _) (Nat.add_assoc _ _ _))⟩); all_goals (have p226 : 0 ≤ (x8_2 : Int) := of_decide_eq_true (by first | (with_reducible assumption) | assumption); have q226 : x8_2 < (l1_1.length : Int) := of_decide_eq_true (by first | (with_reducible assumption) | assumption); obtain ⟨ad226, e226, hx226_0⟩ := Kd.at_int HR1_1.out x8_2 p226 q226; cases e226; replace hx226_0 := (HB.out.cell (World.block_lt_of_cell? w _ hx226_0)).trans hx226_0; replace p226 := eq_true p226; replace q226 := eq_true q226; have p227 : 0 ≤ (x8_2 : Int) := of_decide_eq_true (by first | (with_reducible assumption) | assumption); have q227 : x8_2 < (l1_1.length : Int) := of_decide_eq_true (by first | (with_reducible assumption) | assumption); obtain ⟨ad227, e227, hx227_0⟩ := Kd.at_int HR1_1.out x8_2 p227 q227; obtain rfl : ad226 = ad227 := (by injection e227); replace hx227_0 := (HB.out.cell (World.block_lt_of_cell? w _ hx227_0)).trans hx227_0; replace p227 := eq_true p227; replace q227 := eq_true q227; have p228 : 0 ≤ ((rd l1_1 x8_2) : Int) := of_decide_eq_true (by first | (with_reducible assumption) | assumption); have q228 : (rd l1_1 x8_2) < (l1_0.length : Int) := of_decide_eq_true (by first | (with_reducible assumption) | assumption); obtain ⟨ad228, A228_0, c228_0, e228, hx228_0, hl228_0, hi228_0⟩ := at_L1 HR1_0.out (rd l1_1 x8_2) p228 q228; obtain rfl : ad224 = ad228 := (by injection e228); replace hx228_0 := (HB.out.cell (World.block_lt_of_cell? w _ hx228_0)).trans hx228_0; have HR228_0 := Aside0.mk hi228_0; have HC228_0 := Aside0.mk hl228_0; clear hi228_0 hl228_0; replace p228 := eq_true p228; replace q228 := eq_true q228)) | (go_at_call 37; (with_reducible refine (arboristref01_In.calls k2 _ _ (rd_L1 l1_0 (rd l1_1 x8_2)) x6_1 false _ ?side1 ?side2 A17.out).mono ?_); (case side1 => repeat (first | exact (Kd.C_below HR228_0.out (by repeat (first | (with_reducible first | exact HB.out | apply below_alloc | apply pw_below_drewN | apply below_drew1 | refine below_set ?_ GE222.out) | exact HB.out))) | (with_reducible refine Kd.C_alloc ?_ _) | (with_reducible refine Kd.C_drewN ?_ _) | (with_reducible refine Kd.C_drew ?_))); (case side2 => exact HC228_0.out); rintro e w' ⟨rfl, ⟨nd, rfl⟩⟩; (try first | exact ⟨rfl, _, World.drewN_drewN _ _ _⟩ | exact ⟨rfl, _, Eq.trans (World.drewN_drewN _ _ _) (congrArg (World.drewN _) (Nat.add_assoc _ _ _))⟩))); try go_wp2_with (first | (go_at_call 37; (with_reducible refine (arboristref01_In.calls k2 _ _ (rd_L1 l1_0 x8_2) x6_1 true _ ?side1 ?side2 A11.out).mono ?_); (case side1 => repeat (first | exact (Kd.C_below HR224_0.out HB.out) | (with_reducible refine Kd.C_alloc ?_ _) | (with_reducible refine Kd.C_drewN ?_ _) | (with_reducible refine Kd.C_drew ?_))); (case side2 => exact HC224_0.out); rintro e w' ⟨rfl, ⟨nd, rfl⟩⟩; (try first | exact ⟨rfl, _, World.drewN_drewN _ _ _⟩ | exact ⟨rfl, _, Eq.trans (World.drewN_drewN _ _ _) (congrArg (World.drewN _) (Nat.add_assoc _ _ _))⟩); all_goals (have p226 : 0 ≤ (x8_2 : Int) := of_decide_eq_true (by first | (with_reducible assumption) | assumption); have q226 : x8_2 < (l1_1.length : Int) := of_decide_eq_true (by first | (with_reducible assumption) | assumption); obtain ⟨ad226, e226, hx226_0⟩ := Kd.at_int HR1_1.out x8_2 p226 q226; cases e226; replace hx226_0 := (HB.out.cell (World.block_lt_of_cell? w _ hx226_0)).trans hx226_0; replace p226 := eq_true p226; replace q226 := eq_true q226; have p227 : 0 ≤ (x8_2 : Int) := of_decide_eq_true (by first | (with_reducible assumption) | assumption); have q227 : x8_2 < (l1_1.length : Int) := of_decide_eq_true (by first | (with_reducible assumption) | assumption); obtain ⟨ad227, e227, hx227_0⟩ := Kd.at_int HR1_1.out x8_2 p227 q227; obtain rfl : ad226 = ad227 := (by injection e227); replace hx227_0 := (HB.out.cell (World.block_lt_of_cell? w _ hx227_0)).trans hx227_0; replace p227 := eq_true p227; replace q227 := eq_true q227; have p228 : 0 ≤ ((rd l1_1 x8_2) : Int) := of_decide_eq_true (by first | (with_reducible assumption) | assumption); have q228 : (rd l1_1 x8_2) < (l1_0.length : Int) := of_decide_eq_true (by first | (with_reducible assumption) | assumption); obtain ⟨ad228, A228_0, c228_0, e228, hx228_0, hl228_0, hi228_0⟩ := at_L1 HR1_0.out (rd l1_1 x8_2) p228 q228; obtain rfl : ad224 = ad228 := (by injection e228); replace hx228_0 := (HB.out.cell (World.block_lt_of_cell? w _ hx228_0)).trans hx228_0; have HR228_0 := Aside0.mk hi228_0; have HC228_0 := Aside0.mk hl228_0; clear hi228_0 hl228_0; replace p228 := eq_true p228; replace q228 := eq_true q228)) | (go_at_call 37; (with_reducible refine (arboristref01_In.calls k2 _ _ (rd_L1 l1_0 (rd l1_1 x8_2)) x6_1 false _ ?side1 ?side2 A17.out).mono ?_); (case side1 => repeat (first | exact (Kd.C_below HR228_0.out (by repeat (first | (with_reducible first | exact HB.out | apply below_alloc | apply pw_below_drewN | apply below_drew1 | refine below_set ?_ GE222.out) | exact HB.out))) | (with_reducible refine Kd.C_alloc ?_ _) | (with_reducible refine Kd.C_drewN ?_ _) | (with_reducible refine Kd.C_drew ?_))); (case side2 => exact HC228_0.out); rintro e w' ⟨rfl, ⟨nd, rfl⟩⟩; (try first | exact ⟨rfl, _, World.drewN_drewN _ _ _⟩ | exact ⟨rfl, _, Eq.trans (World.drewN_drewN _ _ _) (congrArg (World.drewN _) (Nat.add_assoc _ _ _))⟩))))
                              go_roundg k2
                              case measure => have := HK1.out; have := HK2.out; omega
                              case rel => exact ⟨(wrap64 (x7_2 + 1)), (wrap64 (x8_2 + 1)), (by first | rfl | (simp; done) | (simp [*]; done)), (by first | rfl | (simp; done) | (simp [*]; done)), H', ⟨by have := HK1.out; have := HK2.out; omega⟩, ⟨by (with_reducible repeat (first | refine blk_drewN ?_ _ | refine blk_drew ?_ | refine blk_alloc ?_ _)); exact BK222.out⟩, ⟨by repeat (first | (with_reducible first | exact HB.out | apply below_alloc | apply pw_below_drewN | apply below_drew1 | refine below_set ?_ GE222.out) | exact HB.out)⟩⟩
                          · rw [if_neg c16] at H
                            exact absurd H (by simp)
                        · rw [if_neg c15] at H
                          exact absurd H (by simp)
                      · rw [if_neg c14] at H
                        have c14b0 : decide (0 ≤ (rd l1_1 x8_2)) = false := decide_eq_false c14
                        clear c14
                        have H' := Aside0.mk H
                        clear H
                        have hcz21_0 : wr.cell? ⟨gb222, 0, none⟩ = some (.slice A1_0 l1_0.length c1_0) := (blk_cell BK222.out 0).trans rfl
                        have hcz21_1 : wr.cell? ⟨gb222, 1, none⟩ = some (.slice A1_1 l1_1.length c1_1) := (blk_cell BK222.out 1).trans rfl
                        have hfz21_0 := blk_frozen BK222.out 0
                        have hfz21_1 := blk_frozen BK222.out 1
                        have p224 : 0 ≤ (x8_2 : Int) := of_decide_eq_true (by first | (with_reducible assumption) | assumption)
                        have q224 : x8_2 < (l1_0.length : Int) := of_decide_eq_true (by first | (with_reducible assumption) | assumption)
                        obtain ⟨ad224, A224_0, c224_0, e224, hx224_0, hl224_0, hi224_0⟩ := at_L1 HR1_0.out x8_2 p224 q224
                        cases e224
                        replace hx224_0 := (HB.out.cell (World.block_lt_of_cell? w _ hx224_0)).trans hx224_0
                        have HR224_0 := Aside0.mk hi224_0
                        have HC224_0 := Aside0.mk hl224_0
                        clear hi224_0 hl224_0
                        replace p224 := eq_true p224
                        replace q224 := eq_true q224
                        go_wp2_with (first | (go_at_call 37; (with_reducible refine (arboristref01_In.calls k2 _ _ (rd_L1 l1_0 x8_2) x6_1 true _ ?side1 ?side2 A11.out).mono ?_); (case side1 => repeat (first | exact (Kd.C_below HR224_0.out HB.out) | (with_reducible refine Kd.C_alloc ?_ _) | (with_reducible refine Kd.C_drewN ?_ _) | (with_reducible refine Kd.C_drew ?_))); (case side2 => exact HC224_0.out); rintro e w' ⟨rfl, ⟨nd, rfl⟩⟩; (try first | exact ⟨rfl, _, World.drewN_drewN _ _ _⟩ | exact ⟨rfl, _, Eq.trans (World.drewN_drewN _ _ _) (congrArg (World.drewN _) (Nat.add_assoc _ _ _))⟩); all_goals (have p226 : 0 ≤ (x8_2 : Int) := of_decide_eq_true (by first | (with_reducible assumption) | assumption); have q226 : x8_2 < (l1_1.length : Int) := of_decide_eq_true (by first | (with_reducible assumption) | assumption); obtain ⟨ad226, e226, hx226_0⟩ := Kd.at_int HR1_1.out x8_2 p226 q226; cases e226; replace hx226_0 := (HB.out.cell (World.block_lt_of_cell? w _ hx226_0)).trans hx226_0; replace p226 := eq_true p226; replace q226 := eq_true q226)))
                        repeat (go_quiet (first | (go_at_call 37; (with_reducible refine (arboristref01_In.calls k2 _ _ (rd_L1 l1_0 x8_2) x6_1 true _ ?side1 ?side2 A11.out).mono ?_); (case side1 => repeat (first | exact (Kd.C_below HR224_0.out HB.out) | (with_reducible refine Kd.C_alloc ?_ _) | (with_reducible refine Kd.C_drewN ?_ _) | (with_reducible refine Kd.C_drew ?_))); (case side2 => exact HC224_0.out); rintro e w' ⟨rfl, ⟨nd, rfl⟩⟩; (try first | exact ⟨rfl, _, World.drewN_drewN _ _ _⟩ | exact ⟨rfl, _, Eq.trans (World.drewN_drewN _ _ _) (congrArg (World.drewN _) (Nat.add_assoc _ _ _))⟩); all_goals (have p226 : 0 ≤ (x8_2 : Int) := of_decide_eq_true (by first | (with_reducible assumption) | assumption); have q226 : x8_2 < (l1_1.length : Int) := of_decide_eq_true (by first | (with_reducible assumption) | assumption); obtain ⟨ad226, e226, hx226_0⟩ := Kd.at_int HR1_1.out x8_2 p226 q226; cases e226; replace hx226_0 := (HB.out.cell (World.block_lt_of_cell? w _ hx226_0)).trans hx226_0; replace p226 := eq_true p226; replace q226 := eq_true q226))); try go_wp2_with (first | (go_at_call 37; (with_reducible refine (arboristref01_In.calls k2 _ _ (rd_L1 l1_0 x8_2) x6_1 true _ ?side1 ?side2 A11.out).mono ?_); (case side1 => repeat (first | exact (Kd.C_below HR224_0.out HB.out) | (with_reducible refine Kd.C_alloc ?_ _) | (with_reducible refine Kd.C_drewN ?_ _) | (with_reducible refine Kd.C_drew ?_))); (case side2 => exact HC224_0.out); rintro e w' ⟨rfl, ⟨nd, rfl⟩⟩; (try first | exact ⟨rfl, _, World.drewN_drewN _ _ _⟩ | exact ⟨rfl, _, Eq.trans (World.drewN_drewN _ _ _) (congrArg (World.drewN _) (Nat.add_assoc _ _ _))⟩); all_goals (have p226 : 0 ≤ (x8_2 : Int) := of_decide_eq_true (by first | (with_reducible assumption) | assumption); have q226 : x8_2 < (l1_1.length : Int) := of_decide_eq_true (by first | (with_reducible assumption) | assumption); obtain ⟨ad226, e226, hx226_0⟩ := Kd.at_int HR1_1.out x8_2 p226 q226; cases e226; replace hx226_0 := (HB.out.cell (World.block_lt_of_cell? w _ hx226_0)).trans hx226_0; replace p226 := eq_true p226; replace q226 := eq_true q226))))
                        go_roundg k2
                        case measure => have := HK1.out; have := HK2.out; omega
                        case rel => exact ⟨(wrap64 (x7_2 + 1)), (wrap64 (x8_2 + 1)), (by first | rfl | (simp; done) | (simp [*]; done)), (by first | rfl | (simp; done) | (simp [*]; done)), H', ⟨by have := HK1.out; have := HK2.out; omega⟩, ⟨by (with_reducible repeat (first | refine blk_drewN ?_ _ | refine blk_drew ?_ | refine blk_alloc ?_ _)); exact BK222.out⟩, ⟨by repeat (first | (with_reducible first | exact HB.out | apply below_alloc | apply pw_below_drewN | apply below_drew1 | refine below_set ?_ GE222.out) | exact HB.out)⟩⟩
                    · rw [if_neg c13] at H
                      exact absurd H (by simp)
                  · replace c12 := Bool.eq_false_iff.mpr c12
                    subst c12
                    have H1 : (arboristref12_Connected.l1 k2 a0 x6_1 x7_2 (wrap64 (x8_2 + 1)) l1_0 l1_1) = some r := by rw [if_neg (show ¬ (false = true) by decide)] at H; exact H
                    clear H
                    have H := H1
                    clear H1
                    have H' := Aside0.mk H
                    clear H
                    have hcz22_0 : wr.cell? ⟨gb222, 0, none⟩ = some (.slice A1_0 l1_0.length c1_0) := (blk_cell BK222.out 0).trans rfl
                    have hcz22_1 : wr.cell? ⟨gb222, 1, none⟩ = some (.slice A1_1 l1_1.length c1_1) := (blk_cell BK222.out 1).trans rfl
                    have hfz22_0 := blk_frozen BK222.out 0
                    have hfz22_1 := blk_frozen BK222.out 1
                    have p224 : 0 ≤ (x8_2 : Int) := of_decide_eq_true (by first | (with_reducible assumption) | assumption)
                    have q224 : x8_2 < (l1_0.length : Int) := of_decide_eq_true (by first | (with_reducible assumption) | assumption)
                    obtain ⟨ad224, A224_0, c224_0, e224, hx224_0, hl224_0, hi224_0⟩ := at_L1 HR1_0.out x8_2 p224 q224
                    cases e224
                    replace hx224_0 := (HB.out.cell (World.block_lt_of_cell? w _ hx224_0)).trans hx224_0
                    have HR224_0 := Aside0.mk hi224_0
                    have HC224_0 := Aside0.mk hl224_0
                    clear hi224_0 hl224_0
                    replace p224 := eq_true p224
                    replace q224 := eq_true q224
                    go_wp2_with (first | (go_at_call 37; (with_reducible refine (arboristref01_In.calls k2 _ _ (rd_L1 l1_0 x8_2) x6_1 false _ ?side1 ?side2 A11.out).mono ?_); (case side1 => repeat (first | exact (Kd.C_below HR224_0.out HB.out) | (with_reducible refine Kd.C_alloc ?_ _) | (with_reducible refine Kd.C_drewN ?_ _) | (with_reducible refine Kd.C_drew ?_))); (case side2 => exact HC224_0.out); rintro e w' ⟨rfl, ⟨nd, rfl⟩⟩; (try first | exact ⟨rfl, _, World.drewN_drewN _ _ _⟩ | exact ⟨rfl, _, Eq.trans (World.drewN_drewN _ _ _) (congrArg (World.drewN _) (Nat.add_assoc _ _ _))⟩)))
                    repeat (go_quiet (first | (go_at_call 37; (with_reducible refine (arboristref01_In.calls k2 _ _ (rd_L1 l1_0 x8_2) x6_1 false _ ?side1 ?side2 A11.out).mono ?_); (case side1 => repeat (first | exact (Kd.C_below HR224_0.out HB.out) | (with_reducible refine Kd.C_alloc ?_ _) | (with_reducible refine Kd.C_drewN ?_ _) | (with_reducible refine Kd.C_drew ?_))); (case side2 => exact HC224_0.out); rintro e w' ⟨rfl, ⟨nd, rfl⟩⟩; (try first | exact ⟨rfl, _, World.drewN_drewN _ _ _⟩ | exact ⟨rfl, _, Eq.trans (World.drewN_drewN _ _ _) (congrArg (World.drewN _) (Nat.add_assoc _ _ _))⟩))); try go_wp2_with (first | (go_at_call 37; (with_reducible refine (arboristref01_In.calls k2 _ _ (rd_L1 l1_0 x8_2) x6_1 false _ ?side1 ?side2 A11.out).mono ?_); (case side1 => repeat (first | exact (Kd.C_below HR224_0.out HB.out) | (with_reducible refine Kd.C_alloc ?_ _) | (with_reducible refine Kd.C_drewN ?_ _) | (with_reducible refine Kd.C_drew ?_))); (case side2 => exact HC224_0.out); rintro e w' ⟨rfl, ⟨nd, rfl⟩⟩; (try first | exact ⟨rfl, _, World.drewN_drewN _ _ _⟩ | exact ⟨rfl, _, Eq.trans (World.drewN_drewN _ _ _) (congrArg (World.drewN _) (Nat.add_assoc _ _ _))⟩))))
                    go_roundg k2
                    case measure => have := HK1.out; have := HK2.out; omega
                    case rel => exact ⟨(x7_2), (wrap64 (x8_2 + 1)), (by first | rfl | (simp; done) | (simp [*]; done)), (by first | rfl | (simp; done) | (simp [*]; done)), H', ⟨by have := HK1.out; have := HK2.out; omega⟩, ⟨by (with_reducible repeat (first | refine blk_drewN ?_ _ | refine blk_drew ?_ | refine blk_alloc ?_ _)); exact BK222.out⟩, ⟨by repeat (first | (with_reducible first | exact HB.out | apply below_alloc | apply pw_below_drewN | apply below_drew1 | refine below_set ?_ GE222.out) | exact HB.out)⟩⟩
                · rw [if_neg c10] at H
                  exact absurd H (by simp)
              · rw [if_neg c9] at H
                have c9b0 : decide (x8_2 < (l1_0.length : Int)) = false := decide_eq_false c9
                clear c9
                by_cases c23 : x7_2 > 1
                · rw [if_pos c23] at H
                  have c23b0 : decide (1 < x7_2) = true := decide_eq_true c23
                  clear c23
                  obtain rfl := Option.some.inj H
                  have hcz24_0 : wr.cell? ⟨gb222, 0, none⟩ = some (.slice A1_0 l1_0.length c1_0) := (blk_cell BK222.out 0).trans rfl
                  have hcz24_1 : wr.cell? ⟨gb222, 1, none⟩ = some (.slice A1_1 l1_1.length c1_1) := (blk_cell BK222.out 1).trans rfl
                  have hfz24_0 := blk_frozen BK222.out 0
                  have hfz24_1 := blk_frozen BK222.out 1
                  go_wp2
                  repeat (go_quiet (fail); try go_wp2)
                  go_ret
                  exact ⟨by first | rfl | (simp [errW_none, errW_some] <;> rfl) | (simp [*, errW_none, errW_some] <;> rfl), by repeat (first | (with_reducible first | exact HB.out | apply below_alloc | apply pw_below_drewN | apply below_drew1 | refine below_set ?_ GE222.out) | exact HB.out)⟩
                · rw [if_neg c23] at H
                  have c23b0 : decide (1 < x7_2) = false := decide_eq_false c23
                  clear c23
                  have H' := Aside0.mk H
                  clear H
                  have hcz25_0 : wr.cell? ⟨gb222, 0, none⟩ = some (.slice A1_0 l1_0.length c1_0) := (blk_cell BK222.out 0).trans rfl
                  have hcz25_1 : wr.cell? ⟨gb222, 1, none⟩ = some (.slice A1_1 l1_1.length c1_1) := (blk_cell BK222.out 1).trans rfl
                  have hfz25_0 := blk_frozen BK222.out 0
                  have hfz25_1 := blk_frozen BK222.out 1
                  go_wp2
                  repeat (go_quiet (fail); try go_wp2)
                  go_roundg k2
                  case measure => have := HK1.out; have := HK2.out; omega
                  case rel => exact ⟨(wrap64 (x6_1 + 1)), (by first | rfl | (simp; done) | (simp [*]; done)), H', ⟨by have := HK1.out; have := HK2.out; omega⟩, ⟨by (with_reducible repeat (first | refine blk_drewN ?_ _ | refine blk_drew ?_ | refine blk_alloc ?_ _)); exact BK222.out⟩, ⟨by repeat (first | (with_reducible first | exact HB.out | apply below_alloc | apply pw_below_drewN | apply below_drew1 | refine below_set ?_ GE222.out) | exact HB.out)⟩⟩
        · rw [if_neg c8] at H
          have c8b0 : decide (x6_1 < a0) = false := decide_eq_false c8
          clear c8
          obtain rfl := Option.some.inj H
          go_wp2
          repeat (go_quiet (fail); try go_wp2)
          go_ret
          exact ⟨by first | rfl | (simp [errW_none, errW_some] <;> rfl) | (simp [*, errW_none, errW_some] <;> rfl), by repeat (first | (with_reducible first | exact HB.out | apply below_alloc | apply pw_below_drewN | apply below_drew1 | refine below_set ?_ GE222.out) | exact HB.out)⟩
  · replace c4 := Bool.eq_false_iff.mpr c4
    subst c4
    have H1 : (some false) = some r := by rw [if_neg (show ¬ (false = true) by decide)] at H; exact H
    clear H
    have H := H1
    clear H1
    obtain rfl := Option.some.inj H
    go_enter Try.func23, Try.ntmps23
    go_wp2_with (first | ((with_reducible refine gate_dst (N := 3) rfl ?_); refine box_event ?hg (N := 3) ?hd (cs := #[.slice A1_0 l1_0.length c1_0, .slice A1_1 l1_1.length c1_1]) (t := 25) ?hr ?_; (case hd => rfl); (case hg => rfl); (case hr => first | (go_simp; done) | (go_simp; rfl)); intro gb222 hg w26 hbox hb; have n0_ := Aside0.mk (below_step (by repeat (first | (with_reducible first | exact HB.out | apply below_alloc | apply pw_below_drewN | apply below_drew1) | exact HB.out)) hb); have n1_ := Aside0.mk (hbox); have n2_ := Aside0.mk ((by rw [hg]; exact (below_size (by repeat (first | (with_reducible first | exact HB.out | apply below_alloc | apply pw_below_drewN | apply below_drew1) | exact HB.out))) : w.heap.size ≤ gb222)); have n3_ := Aside0.mk ((by rw [hg]; exact (below_size (by repeat (first | (with_reducible first | exact HB.out | apply below_alloc | apply pw_below_drewN | apply below_drew1) | exact HB.out))) : w.heap.size ≤ gb222)); clear HB; have HB := n0_; have BK222 := n1_; have GW222 := n2_; have GE222 := n3_; clear n0_ n1_ n2_ n3_; clear hb hbox hg; have hcz27_0 : w26.cell? ⟨gb222, 0, none⟩ = some (.slice A1_0 l1_0.length c1_0) := (blk_cell BK222.out 0).trans rfl; have hcz27_1 : w26.cell? ⟨gb222, 1, none⟩ = some (.slice A1_1 l1_1.length c1_1) := (blk_cell BK222.out 1).trans rfl; have hfz27_0 := blk_frozen BK222.out 0; have hfz27_1 := blk_frozen BK222.out 1) | (go_at_call 19; (with_reducible refine (arboristref12_Tree.calls k _ _ l1_0 _ _ l1_1 false _ ?side1 ?side2 ?side3 ?side4 A3.out).mono ?_); (case side1 => repeat (first | exact (Kd.C_below HR1_0.out HB.out) | (with_reducible refine Kd.C_alloc ?_ _) | (with_reducible refine Kd.C_drewN ?_ _) | (with_reducible refine Kd.C_drew ?_))); (case side2 => exact HC1_0.out); (case side3 => repeat (first | exact (Kd.C_below HR1_1.out HB.out) | (with_reducible refine Kd.C_alloc ?_ _) | (with_reducible refine Kd.C_drewN ?_ _) | (with_reducible refine Kd.C_drew ?_))); (case side4 => exact HC1_1.out); rintro e w28 ⟨rfl, hb⟩; have n0_ := Aside0.mk (blk_below (g := gb222) (o := .cells #[.slice A1_0 l1_0.length c1_0, .slice A1_1 l1_1.length c1_1] 25 (0, 0)) (by (with_reducible repeat (first | refine blk_drewN ?_ _ | refine blk_drew ?_ | refine blk_alloc ?_ _)); exact BK222.out) hb); have n1_ := Aside0.mk (below_step (by repeat (first | (with_reducible first | exact HB.out | apply below_alloc | apply pw_below_drewN | apply below_drew1 | refine below_set ?_ GE222.out) | exact HB.out)) hb); clear BK222; clear HB; have BK222 := n0_; have HB := n1_; clear n0_ n1_; (try clear hb); (try clear hb2); (try clear hk); (try clear hi)))
    repeat (go_quiet (first | ((with_reducible refine gate_dst (N := 3) rfl ?_); refine box_event ?hg (N := 3) ?hd (cs := #[.slice A1_0 l1_0.length c1_0, .slice A1_1 l1_1.length c1_1]) (t := 25) ?hr ?_; (case hd => rfl); (case hg => rfl); (case hr => first | (go_simp; done) | (go_simp; rfl)); intro gb222 hg w26 hbox hb; have n0_ := Aside0.mk (below_step (by repeat (first | (with_reducible first | exact HB.out | apply below_alloc | apply pw_below_drewN | apply below_drew1) | exact HB.out)) hb); have n1_ := Aside0.mk (hbox); have n2_ := Aside0.mk ((by rw [hg]; exact (below_size (by repeat (first | (with_reducible first | exact HB.out | apply below_alloc | apply pw_below_drewN | apply below_drew1) | exact HB.out))) : w.heap.size ≤ gb222)); have n3_ := Aside0.mk ((by rw [hg]; exact (below_size (by repeat (first | (with_reducible first | exact HB.out | apply below_alloc | apply pw_below_drewN | apply below_drew1) | exact HB.out))) : w.heap.size ≤ gb222)); clear HB; have HB := n0_; have BK222 := n1_; have GW222 := n2_; have GE222 := n3_; clear n0_ n1_ n2_ n3_; clear hb hbox hg; have hcz27_0 : w26.cell? ⟨gb222, 0, none⟩ = some (.slice A1_0 l1_0.length c1_0) := (blk_cell BK222.out 0).trans rfl; have hcz27_1 : w26.cell? ⟨gb222, 1, none⟩ = some (.slice A1_1 l1_1.length c1_1) := (blk_cell BK222.out 1).trans rfl; have hfz27_0 := blk_frozen BK222.out 0; have hfz27_1 := blk_frozen BK222.out 1) | (go_at_call 19; (with_reducible refine (arboristref12_Tree.calls k _ _ l1_0 _ _ l1_1 false _ ?side1 ?side2 ?side3 ?side4 A3.out).mono ?_); (case side1 => repeat (first | exact (Kd.C_below HR1_0.out HB.out) | (with_reducible refine Kd.C_alloc ?_ _) | (with_reducible refine Kd.C_drewN ?_ _) | (with_reducible refine Kd.C_drew ?_))); (case side2 => exact HC1_0.out); (case side3 => repeat (first | exact (Kd.C_below HR1_1.out HB.out) | (with_reducible refine Kd.C_alloc ?_ _) | (with_reducible refine Kd.C_drewN ?_ _) | (with_reducible refine Kd.C_drew ?_))); (case side4 => exact HC1_1.out); rintro e w28 ⟨rfl, hb⟩; have n0_ := Aside0.mk (blk_below (g := gb222) (o := .cells #[.slice A1_0 l1_0.length c1_0, .slice A1_1 l1_1.length c1_1] 25 (0, 0)) (by (with_reducible repeat (first | refine blk_drewN ?_ _ | refine blk_drew ?_ | refine blk_alloc ?_ _)); exact BK222.out) hb); have n1_ := Aside0.mk (below_step (by repeat (first | (with_reducible first | exact HB.out | apply below_alloc | apply pw_below_drewN | apply below_drew1 | refine below_set ?_ GE222.out) | exact HB.out)) hb); clear BK222; clear HB; have BK222 := n0_; have HB := n1_; clear n0_ n1_; (try clear hb); (try clear hb2); (try clear hk); (try clear hi))); try go_wp2_with (first | ((with_reducible refine gate_dst (N := 3) rfl ?_); refine box_event ?hg (N := 3) ?hd (cs := #[.slice A1_0 l1_0.length c1_0, .slice A1_1 l1_1.length c1_1]) (t := 25) ?hr ?_; (case hd => rfl); (case hg => rfl); (case hr => first | (go_simp; done) | (go_simp; rfl)); intro gb222 hg w26 hbox hb; have n0_ := Aside0.mk (below_step (by repeat (first | (with_reducible first | exact HB.out | apply below_alloc | apply pw_below_drewN | apply below_drew1) | exact HB.out)) hb); have n1_ := Aside0.mk (hbox); have n2_ := Aside0.mk ((by rw [hg]; exact (below_size (by repeat (first | (with_reducible first | exact HB.out | apply below_alloc | apply pw_below_drewN | apply below_drew1) | exact HB.out))) : w.heap.size ≤ gb222)); have n3_ := Aside0.mk ((by rw [hg]; exact (below_size (by repeat (first | (with_reducible first | exact HB.out | apply below_alloc | apply pw_below_drewN | apply below_drew1) | exact HB.out))) : w.heap.size ≤ gb222)); clear HB; have HB := n0_; have BK222 := n1_; have GW222 := n2_; have GE222 := n3_; clear n0_ n1_ n2_ n3_; clear hb hbox hg; have hcz27_0 : w26.cell? ⟨gb222, 0, none⟩ = some (.slice A1_0 l1_0.length c1_0) := (blk_cell BK222.out 0).trans rfl; have hcz27_1 : w26.cell? ⟨gb222, 1, none⟩ = some (.slice A1_1 l1_1.length c1_1) := (blk_cell BK222.out 1).trans rfl; have hfz27_0 := blk_frozen BK222.out 0; have hfz27_1 := blk_frozen BK222.out 1) | (go_at_call 19; (with_reducible refine (arboristref12_Tree.calls k _ _ l1_0 _ _ l1_1 false _ ?side1 ?side2 ?side3 ?side4 A3.out).mono ?_); (case side1 => repeat (first | exact (Kd.C_below HR1_0.out HB.out) | (with_reducible refine Kd.C_alloc ?_ _) | (with_reducible refine Kd.C_drewN ?_ _) | (with_reducible refine Kd.C_drew ?_))); (case side2 => exact HC1_0.out); (case side3 => repeat (first | exact (Kd.C_below HR1_1.out HB.out) | (with_reducible refine Kd.C_alloc ?_ _) | (with_reducible refine Kd.C_drewN ?_ _) | (with_reducible refine Kd.C_drew ?_))); (case side4 => exact HC1_1.out); rintro e w28 ⟨rfl, hb⟩; have n0_ := Aside0.mk (blk_below (g := gb222) (o := .cells #[.slice A1_0 l1_0.length c1_0, .slice A1_1 l1_1.length c1_1] 25 (0, 0)) (by (with_reducible repeat (first | refine blk_drewN ?_ _ | refine blk_drew ?_ | refine blk_alloc ?_ _)); exact BK222.out) hb); have n1_ := Aside0.mk (below_step (by repeat (first | (with_reducible first | exact HB.out | apply below_alloc | apply pw_below_drewN | apply below_drew1 | refine below_set ?_ GE222.out) | exact HB.out)) hb); clear BK222; clear HB; have BK222 := n0_; have HB := n1_; clear n0_ n1_; (try clear hb); (try clear hb2); (try clear hk); (try clear hi))))
    go_ret
    exact ⟨by first | rfl | (simp [errW_none, errW_some] <;> rfl) | (simp [*, errW_none, errW_some] <;> rfl), by repeat (first | (with_reducible first | exact HB.out | apply below_alloc | apply pw_below_drewN | apply below_drew1 | refine below_set ?_ GE222.out) | exact HB.out)⟩

end Go.Proofs.Ytpmfdggbccbfaaa.Pr
