-- Printed by a program of this session's own (wip/tools/pp.py) over the kit's print.py; Lean checks it.
import Derived.Test.YtpmfdggbccbfaaaPr0
import Derived.Test.YtpmfdggbccbfaaaPr32
namespace Go.Proofs.Ytpmfdggbccbfaaa.Pr
open Go.RowKit Go.Proofs.YtpmfdggbccbfaaaW.PrintWords Go.Proofs.YtpmfdggbccbfaaaW.PrintLast Go.Proofs.YtpmfdggbccbfaaaW.PrintMore
attribute [local go_sem] max2_int min2_int max_two min_two max_three min_three max_four min_four   -- for this text's walks alone
set_option linter.unusedVariables false
set_option linter.unusedSimpArgs false

/-! ### arboristlaw13_shape: function 27 -/
mutual
def arboristlaw13_shape.l0 : Nat → List Int → List (List Int) → Int → List (List Int) → List Int → Option ((List (List Int)) × List Int)
  | 0, _, _, _, _, _ => none
  | k + 1, x0, x1, x6, x370000, x370001 => if x6 < (x1.length : Int) then (arboristlaw13_shape.j1 k x0 x1 x6 (decide (x6 < 10)) x370000 x370001) else (arboristlaw13_shape.j1 k x0 x1 x6 false x370000 x370001)
def arboristlaw13_shape.j1 : Nat → List Int → List (List Int) → Int → Bool → List (List Int) → List Int → Option ((List (List Int)) × List Int)
  | 0, _, _, _, _, _, _ => none
  | k + 1, x0, x1, x6, x18, x370000, x370001 => if x18 = true then (arboristlaw13_shape.l1 k x0 x1 x6 (([] : List Int)) 0 x370000 x370001) else (some (x370000, x370001))
def arboristlaw13_shape.j3 : Nat → List Int → List (List Int) → Int → List Int → List (List Int) → List Int → Option ((List (List Int)) × List Int)
  | 0, _, _, _, _, _, _ => none
  | k + 1, x0, x1, x6, x7, x370000, x370001 => if x6 > 0 then (if x6 < (x0.length : Int) then (if 0 ≤ x6 then (if x6 = 0 then (none) else (if x370000.length < 5864062014805 then (if x370001.length < 17592186044416 then (arboristlaw13_shape.l0 k x0 x1 (wrap64 (x6 + 1)) (x370000 ++ [x7]) (x370001 ++ [Int.tmod (Go.bits .and .i64 (rd x0 x6) 65535) x6])) else (none)) else (none))) else (none)) else (if x370000.length < 5864062014805 then (if x370001.length < 17592186044416 then (arboristlaw13_shape.l0 k x0 x1 (wrap64 (x6 + 1)) (x370000 ++ [x7]) (x370001 ++ [0])) else (none)) else (none))) else (if x370000.length < 5864062014805 then (if x370001.length < 17592186044416 then (arboristlaw13_shape.l0 k x0 x1 (wrap64 (x6 + 1)) (x370000 ++ [x7]) (x370001 ++ [(-1)])) else (none)) else (none))
def arboristlaw13_shape.l1 : Nat → List Int → List (List Int) → Int → List Int → Int → List (List Int) → List Int → Option ((List (List Int)) × List Int)
  | 0, _, _, _, _, _, _, _ => none
  | k + 1, x0, x1, x6, x7, x8, x370000, x370001 => if 0 ≤ x6 then (if x6 < (x1.length : Int) then (if x8 < ((rd_L1 x1 x6).length : Int) then (if x8 < 6 then (if 0 ≤ x8 then ((arboristref01_Unite.f k x7 (([Go.bits .and .i64 (rd (rd_L1 x1 x6) x8) 15] : List Int))).bind fun t379 => (arboristlaw13_shape.l1 k x0 x1 x6 t379 (wrap64 (x8 + 1)) x370000 x370001)) else (none)) else (arboristlaw13_shape.j3 k x0 x1 x6 x7 x370000 x370001)) else (arboristlaw13_shape.j3 k x0 x1 x6 x7 x370000 x370001)) else (none)) else (none)
end
def arboristlaw13_shape.f (k : Nat) (l0 : List Int) (l1 : List (List Int)) : Option ((List (List Int)) × List Int) := arboristlaw13_shape.l0 k l0 l1 0 ([] : List (List Int)) ([] : List Int)
theorem arboristlaw13_shape.mono_l : ∀ k, (∀ y0 y1 y2 y3 y4, LeO (arboristlaw13_shape.l0 k y0 y1 y2 y3 y4) (arboristlaw13_shape.l0 (k + 1) y0 y1 y2 y3 y4)) ∧ (∀ y0 y1 y2 y3 y4 y5, LeO (arboristlaw13_shape.j1 k y0 y1 y2 y3 y4 y5) (arboristlaw13_shape.j1 (k + 1) y0 y1 y2 y3 y4 y5)) ∧ (∀ y0 y1 y2 y3 y4 y5, LeO (arboristlaw13_shape.j3 k y0 y1 y2 y3 y4 y5) (arboristlaw13_shape.j3 (k + 1) y0 y1 y2 y3 y4 y5)) ∧ (∀ y0 y1 y2 y3 y4 y5 y6, LeO (arboristlaw13_shape.l1 k y0 y1 y2 y3 y4 y5 y6) (arboristlaw13_shape.l1 (k + 1) y0 y1 y2 y3 y4 y5 y6))
  | 0 => ⟨fun _ _ _ _ _ r h => by simp [arboristlaw13_shape.l0] at h, fun _ _ _ _ _ _ r h => by simp [arboristlaw13_shape.j1] at h, fun _ _ _ _ _ _ r h => by simp [arboristlaw13_shape.j3] at h, fun _ _ _ _ _ _ _ r h => by simp [arboristlaw13_shape.l1] at h⟩
  | k + 1 => by
    obtain ⟨ih0, ih1, ih2, ih3⟩ := arboristlaw13_shape.mono_l k
    refine ⟨?_, ?_, ?_, ?_⟩
    all_goals intros
    all_goals (first | unfold arboristlaw13_shape.l0 | unfold arboristlaw13_shape.j1 | unfold arboristlaw13_shape.j3 | unfold arboristlaw13_shape.l1)
    all_goals repeat' first
    | (with_reducible exact ih0 _ _ _ _ _)
    | (with_reducible exact ih1 _ _ _ _ _ _)
    | (with_reducible exact ih2 _ _ _ _ _ _)
    | (with_reducible exact ih3 _ _ _ _ _ _ _)
    | (with_reducible exact arboristref01_Unite.mono _ _ _)
    | (with_reducible exact LeO.refl _)
    | (with_reducible exact LeO.none _)
    | (with_reducible refine LeO.ite ?_ ?_)
    | (with_reducible refine LeO.bind ?_ (fun _ => ?_))
    | exact ih0 _ _ _ _ _
    | exact ih1 _ _ _ _ _ _
    | exact ih2 _ _ _ _ _ _
    | exact ih3 _ _ _ _ _ _ _
    | exact arboristref01_Unite.mono _ _ _
    | exact LeO.none _
    | refine LeO.ite ?_ ?_
    | refine LeO.bind ?_ (fun _ => ?_)
theorem arboristlaw13_shape.mono : ∀ a0 a1 k, LeO (arboristlaw13_shape.f k a0 a1) (arboristlaw13_shape.f (k + 1) a0 a1) := by
  intro a0 a1 k
  obtain ⟨ih0, ih1, ih2, ih3⟩ := arboristlaw13_shape.mono_l k
  unfold arboristlaw13_shape.f
  repeat' first
      | (with_reducible exact ih0 _ _ _ _ _)
      | (with_reducible exact ih1 _ _ _ _ _ _)
      | (with_reducible exact ih2 _ _ _ _ _ _)
      | (with_reducible exact ih3 _ _ _ _ _ _ _)
      | (with_reducible exact arboristref01_Unite.mono _ _ _)
      | (with_reducible exact LeO.refl _)
      | (with_reducible exact LeO.none _)
      | (with_reducible refine LeO.ite ?_ ?_)
      | (with_reducible refine LeO.bind ?_ (fun _ => ?_))
      | exact ih0 _ _ _ _ _
      | exact ih1 _ _ _ _ _ _
      | exact ih2 _ _ _ _ _ _
      | exact ih3 _ _ _ _ _ _ _
      | exact arboristref01_Unite.mono _ _ _
      | exact LeO.none _
      | refine LeO.ite ?_ ?_
      | refine LeO.bind ?_ (fun _ => ?_)
set_option maxHeartbeats 8000000 in
set_option maxRecDepth 100000 in
theorem arboristlaw13_shape.calls (k : Nat) (A0 : Option Addr) (c0 : Nat) (l0 : List Int) (A1 : Option Addr) (c1 : Nat) (l1 : List (List Int)) (r1 : List (List Int)) (r2 : List Int) (w : World) (hr0 : Kd.C (Kd.int .i64) w A0 l0.length l0) (hc0 : l0.length ≤ c0) (hr1 : Kd.C (Kd.slice 3 (Kd.int .i64)) w A1 l1.length l1) (hc1 : l1.length ≤ c1) (h : arboristlaw13_shape.f k l0 l1 = some (r1, r2)) :
    Calls Try.prog 27 #[.slice A0 l0.length c0, .slice A1 l1.length c1] w fun e w' => ∃ v0_ v1_ : Value, e = .returned (.agg #[v0_, v1_]) ∧ Kd.S (Kd.slice 3 (Kd.int .i64)) 23 w' w.heap.size (fun k_ => some k_ ≠ (v1_ : Value).ownBlock) v0_ r1 ∧ Kd.R (Kd.int .i64) 3 w' w.heap.size (fun _ => True) v1_ r2 ∧ Below w.heap.size w w' := by
  have hu25 := Try.underlying25
  have HR0 := Aside0.mk hr0
  have HC0 := Aside0.mk hc0
  clear hr0 hc0
  have HR1 := Aside0.mk hr1
  have HC1 := Aside0.mk hc1
  clear hr1 hc1
  have HB := Aside0.mk (Below.refl w.heap.size w)
  have H : (arboristlaw13_shape.l0 k l0 l1 0 ([] : List (List Int)) ([] : List Int)) = some (r1, r2) := h
  clear h
  have H' := Aside0.mk H
  clear H
  go_enter Try.func27, Try.ntmps27
  go_wp2_with (first | ((with_reducible refine gate_dst (N := 4) rfl ?_); refine box_event ?hg (N := 4) ?hd (cs := #[.slice none 0 0, .slice none 0 0]) (t := 25) ?hr ?_; (case hd => rfl); (case hg => rfl); (case hr => first | (go_simp; done) | (go_simp; rfl)); intro gb368 hg w3 hbox hb; have n0_ := Aside0.mk (below_step (by repeat (first | (with_reducible first | exact HB.out | apply below_alloc | apply pw_below_drewN | apply below_drew1) | exact HB.out)) hb); have n1_ := Aside0.mk (hbox); have n2_ := Aside0.mk ((by rw [hg]; exact (below_size (by repeat (first | (with_reducible first | exact HB.out | apply below_alloc | apply pw_below_drewN | apply below_drew1) | exact HB.out))) : w.heap.size ≤ gb368)); have n3_ := Aside0.mk ((by rw [hg]; exact (below_size (by repeat (first | (with_reducible first | exact HB.out | apply below_alloc | apply pw_below_drewN | apply below_drew1) | exact HB.out))) : w.heap.size ≤ gb368)); clear HB; have HB := n0_; have BK368 := n1_; have GW368 := n2_; have GE368 := n3_; clear n0_ n1_ n2_ n3_; clear hb hbox hg) | ((with_reducible refine gate_dst (N := 5) rfl ?_); refine box_event ?hg (N := 5) ?hd (cs := #[.slice none 0 0, .slice none 0 0]) (t := 25) ?hr ?_; (case hd => rfl); (case hg => rfl); (case hr => first | (go_simp; done) | (go_simp; rfl)); intro gb369 hg w4 hbox hb; have n0_ := Aside0.mk (blk_below (g := gb368) (o := .cells #[.slice none 0 0, .slice none 0 0] 25 (0, 0)) (by (with_reducible repeat (first | refine blk_drewN ?_ _ | refine blk_drew ?_ | refine blk_alloc ?_ _)); exact BK368.out) hb); have n1_ := Aside0.mk (below_step (by repeat (first | (with_reducible first | exact HB.out | apply below_alloc | apply pw_below_drewN | apply below_drew1 | refine below_set ?_ GE368.out) | exact HB.out)) hb); have n2_ := Aside0.mk (hbox); have n3_ := Aside0.mk ((by rw [hg]; exact (below_size (by repeat (first | (with_reducible first | exact HB.out | apply below_alloc | apply pw_below_drewN | apply below_drew1 | refine below_set ?_ GE368.out) | exact HB.out))) : w.heap.size ≤ gb369)); have n4_ := Aside0.mk ((by rw [hg]; exact (below_size (by repeat (first | (with_reducible first | exact HB.out | apply below_alloc | apply pw_below_drewN | apply below_drew1 | refine below_set ?_ GE368.out) | exact HB.out))) : w.heap.size ≤ gb369)); have n5_ := Aside0.mk ((by rw [hg]; exact Nat.ne_of_lt (blk_lt (g := gb368) (o := .cells #[.slice none 0 0, .slice none 0 0] 25 (0, 0)) (by (with_reducible repeat (first | refine blk_drewN ?_ _ | refine blk_drew ?_ | refine blk_alloc ?_ _)); exact BK368.out)) : gb368 ≠ gb369)); have n6_ := Aside0.mk ((by rw [hg]; exact Nat.ne_of_gt (blk_lt (g := gb368) (o := .cells #[.slice none 0 0, .slice none 0 0] 25 (0, 0)) (by (with_reducible repeat (first | refine blk_drewN ?_ _ | refine blk_drew ?_ | refine blk_alloc ?_ _)); exact BK368.out)) : gb369 ≠ gb368)); clear BK368; clear HB; have BK368 := n0_; have HB := n1_; have BK369 := n2_; have GW369 := n3_; have GE369 := n4_; have NB368_369 := n5_; have NB369_368 := n6_; clear n0_ n1_ n2_ n3_ n4_ n5_ n6_; clear hb hbox hg; have hnb5 := NB369_368.out; have hnc5 := NB368_369.out; have hcz6_0 : w4.cell? ⟨gb369, 0, none⟩ = some (.slice none 0 0) := (blk_cell BK369.out 0).trans rfl; have hcz6_1 : w4.cell? ⟨gb369, 1, none⟩ = some (.slice none 0 0) := (blk_cell BK369.out 1).trans rfl; have hfz6_0 := blk_frozen BK369.out 0; have hfz6_1 := blk_frozen BK369.out 1))
  go_loopg [6] k (fun kq v6 w' => ∃ (x6_1 : Int) (x370000_1 : List (List Int)) (x370001_1 : List Int) (u370000 : Value) (u370001 : Value), v6 = .int .i64 x6_1 ∧ Aside0 (arboristlaw13_shape.l0 kq l0 l1 x6_1 x370000_1 x370001_1 = some (r1, r2)) ∧ Aside0 (kq ≤ k) ∧ Aside0 (Kd.S (Kd.slice 3 (Kd.int .i64)) 23 w' w.heap.size (fun k_ => some k_ ≠ (u370001 : Value).ownBlock) u370000 x370000_1) ∧ Aside0 (Kd.R (Kd.int .i64) 3 w' w.heap.size (fun _ => True) u370001 x370001_1) ∧ Aside0 (w'.heap[gb368]? = some (.cells #[(.slice none 0 0), (.slice none 0 0)] 25 (0, 0))) ∧ Aside0 (w'.heap[gb369]? = some (.cells #[u370000, u370001] 25 (0, 0))) ∧ Aside0 (Below w.heap.size w w'))
  case atStart => exact ⟨(0), (([] : List (List Int))), (([] : List Int)), (.slice none 0 0), (.slice none 0 0), (by first | rfl | (simp; done) | (simp [*]; done)), H', ⟨Nat.le_refl _⟩, ⟨by first | exact Kd.S_nil _ _ _ _ _ | exact Kd.N_nil _ _ _ _ _ | exact Kd.V_nil _ _ _ _ _ | exact Kd.Q_nil _ _ _ _ _ | exact Kd.R_nil _ _ _ _ _⟩, ⟨by first | exact Kd.R_nil _ _ _ _ _ | exact Kd.N_nil _ _ _ _ _ | exact Kd.V_nil _ _ _ _ _ | exact Kd.Q_nil _ _ _ _ _ | exact Kd.S_nil _ _ _ _ _⟩, ⟨by (with_reducible repeat (first | refine blk_drewN ?_ _ | refine blk_drew ?_ | refine blk_alloc ?_ _)); refine blk_far ?_ NB368_369.out _; (with_reducible repeat (first | refine blk_drewN ?_ _ | refine blk_drew ?_ | refine blk_alloc ?_ _)); refine blk_far ?_ NB368_369.out _; (with_reducible repeat (first | refine blk_drewN ?_ _ | refine blk_drew ?_ | refine blk_alloc ?_ _)); exact BK368.out⟩, ⟨by (with_reducible repeat (first | refine blk_drewN ?_ _ | refine blk_drew ?_ | refine blk_alloc ?_ _)); refine blk_put (cs := #[.slice none 0 0, .slice none 0 0]) ?_ 1 _ rfl; (with_reducible repeat (first | refine blk_drewN ?_ _ | refine blk_drew ?_ | refine blk_alloc ?_ _)); refine blk_put (cs := #[.slice none 0 0, .slice none 0 0]) ?_ 0 _ rfl; (with_reducible repeat (first | refine blk_drewN ?_ _ | refine blk_drew ?_ | refine blk_alloc ?_ _)); exact BK369.out⟩, ⟨by repeat (first | (with_reducible first | exact HB.out | apply below_alloc | apply pw_below_drewN | apply below_drew1 | refine below_set ?_ GE368.out | refine below_set ?_ GE369.out) | exact HB.out)⟩⟩
  case round =>
    clear H'
    try clear c1
    try clear c2
    try clear p2
    try clear c5
    try clear hcz6_0
    try clear hcz6_1
    try clear hfz6_0
    try clear hfz6_1
    obtain ⟨x6_1, x370000_1, x370001_1, u370000, u370001, rfl, HA, HK1, HO_370000, HO_370001, BK368, BK369, HB⟩ := hrel
    cases gk with
    | zero => exact absurd HA.out (by simp [arboristlaw13_shape.l0])
    | succ k1 =>
      have H := HA.out
      clear HA
      simp only [arboristlaw13_shape.l0] at H
      have HC7 := Aside0.mk H
      clear H
      go_upto_region 3 with (fail)
      go_cut [18] (fun v18 wc => ∃ (kq : Nat) (x18_6 : Bool), v18 = .bool x18_6 ∧ Aside0 (arboristlaw13_shape.j1 kq l0 l1 x6_1 x18_6 x370000_1 x370001_1 = some (r1, r2)) ∧ Aside0 (kq ≤ k1) ∧ Aside0 (Kd.S (Kd.slice 3 (Kd.int .i64)) 23 wc w.heap.size (fun k_ => some k_ ≠ (u370001 : Value).ownBlock) u370000 x370000_1) ∧ Aside0 (Kd.R (Kd.int .i64) 3 wc w.heap.size (fun _ => True) u370001 x370001_1) ∧ Aside0 (wc.heap[gb368]? = some (.cells #[(.slice none 0 0), (.slice none 0 0)] 25 (0, 0))) ∧ Aside0 (wc.heap[gb369]? = some (.cells #[u370000, u370001] 25 (0, 0))) ∧ Aside0 (Below w.heap.size w wc))
      case first =>
        have H := HC7.out
        clear HC7
        by_cases c8 : x6_1 < (l1.length : Int)
        · rw [if_pos c8] at H
          have c8b0 : decide (x6_1 < (l1.length : Int)) = true := decide_eq_true c8
          clear c8
          (first | rw [c8b0] | (simp only [i64_w, i32_w]; rw [c8b0]) | skip)
          have H' := Aside0.mk H
          clear H
          go_wp2
          go_meet
          case rel => exact ⟨_, (decide (x6_1 < 10)), (by first | rfl | (simp; done) | (simp [*]; done)), H', ⟨by have := HK1.out; first | omega | exact Nat.le_refl _⟩, ⟨by (with_reducible repeat (first | apply Kd.S_alloc | apply Kd.S_drewN | apply Kd.S_drew)); exact HO_370000.out⟩, ⟨by (with_reducible repeat (first | apply Kd.R_alloc | apply Kd.R_drewN | apply Kd.R_drew)); exact HO_370001.out⟩, ⟨by (with_reducible repeat (first | refine blk_drewN ?_ _ | refine blk_drew ?_ | refine blk_alloc ?_ _)); exact BK368.out⟩, ⟨by (with_reducible repeat (first | refine blk_drewN ?_ _ | refine blk_drew ?_ | refine blk_alloc ?_ _)); exact BK369.out⟩, ⟨by repeat (first | (with_reducible first | exact HB.out | apply below_alloc | apply pw_below_drewN | apply below_drew1 | refine below_set ?_ GE368.out | refine below_set ?_ GE369.out) | exact HB.out)⟩⟩
        · rw [if_neg c8] at H
          have c8b0 : decide (x6_1 < (l1.length : Int)) = false := decide_eq_false c8
          clear c8
          (first | rw [c8b0] | (simp only [i64_w, i32_w]; rw [c8b0]) | skip)
          have H' := Aside0.mk H
          clear H
          go_wp2
          go_meet
          case rel => exact ⟨_, (false), (by first | rfl | (simp; done) | (simp [*]; done)), H', ⟨by have := HK1.out; first | omega | exact Nat.le_refl _⟩, ⟨by (with_reducible repeat (first | apply Kd.S_alloc | apply Kd.S_drewN | apply Kd.S_drew)); exact HO_370000.out⟩, ⟨by (with_reducible repeat (first | apply Kd.R_alloc | apply Kd.R_drewN | apply Kd.R_drew)); exact HO_370001.out⟩, ⟨by (with_reducible repeat (first | refine blk_drewN ?_ _ | refine blk_drew ?_ | refine blk_alloc ?_ _)); exact BK368.out⟩, ⟨by (with_reducible repeat (first | refine blk_drewN ?_ _ | refine blk_drew ?_ | refine blk_alloc ?_ _)); exact BK369.out⟩, ⟨by repeat (first | (with_reducible first | exact HB.out | apply below_alloc | apply pw_below_drewN | apply below_drew1 | refine below_set ?_ GE368.out | refine below_set ?_ GE369.out) | exact HB.out)⟩⟩
      case rest =>
        clear HC7
        try clear c1
        try clear c2
        try clear p2
        try clear c5
        try clear c8
        try clear c8b0
        try clear hcz6_0
        try clear hcz6_1
        try clear hfz6_0
        try clear hfz6_1
        try clear p2
        obtain ⟨kq, x18_6, rfl, HA, HJ6, HO_370000, HO_370001, BK368, BK369, HB⟩ := hcut
        cases kq with
        | zero => exact absurd HA.out (by simp [arboristlaw13_shape.j1])
        | succ kj6 =>
          have H := HA.out
          clear HA
          simp only [arboristlaw13_shape.j1] at H
          by_cases c9 : x18_6 = true
          · subst c9
            have H1 : (arboristlaw13_shape.l1 kj6 l0 l1 x6_1 (([] : List Int)) 0 x370000_1 x370001_1) = some (r1, r2) := by rw [if_pos rfl] at H; exact H
            clear H
            have H := H1
            clear H1
            obtain ⟨y370, hy370⟩ : ∃ y_ : List Int, y_ = (([] : List Int)) := ⟨_, rfl⟩
            replace H : (arboristlaw13_shape.l1 kj6 l0 l1 x6_1 y370 0 x370000_1 x370001_1) = some (r1, r2) := by first | (rw [hy370]; with_reducible exact H) | (have H2_ := (Option.bind_some _ _).symm.trans H; rw [hy370]; with_reducible exact H2_) | (have H2_ := (Option.bind_some _ _).symm.trans H; with_reducible exact H2_) | with_reducible exact H | (rw [hy370]; exact H) | exact H
            have Ny370 := Aside0.mk hy370
            clear hy370
            have HC10 := Aside0.mk H
            clear H
            go_upto_block 2 with (first | ((with_reducible refine gate_dst (N := 21) rfl ?_); refine Kd.R_lit (Kd.int .i64) _ 3 ?hg (N := 21) ?hd (xs := ([] : List Int)) (inner := []) (ok := fun _ => True) (okp := fun _ => True) ?hr ?hp (fun _ hk => hk) trivial (Below.refl _ _) (Nat.le_refl _) (by simp) ?_; (case hd => rfl); (case hg => rfl); (case hr => first | (go_simp; done) | (go_simp; rfl)); (case hp => exact (Reps.none _ _)); intro v371 w11 ho12 hb hg_ hnew_; clear hg_ hnew_; (first | rw [← Ny370.out] at ho12 | (simp only [Int.reduceToNat] at ho12; rw [← Ny370.out] at ho12)); have n0_ := Aside0.mk (Kd.S_elder' (by (with_reducible repeat (first | apply Kd.S_alloc | apply Kd.S_drewN | apply Kd.S_drew)); exact HO_370000.out) (Kd.R_base ho12) hb); have n1_ := Aside0.mk (Kd.R_elder' (by (with_reducible repeat (first | apply Kd.R_alloc | apply Kd.R_drewN | apply Kd.R_drew)); exact HO_370001.out) (Kd.R_base ho12) hb); have n2_ := Aside0.mk (Kd.R_lower (Kd.R_new' ho12 (Kd.R_lt (by (with_reducible repeat (first | apply Kd.R_alloc | apply Kd.R_drewN | apply Kd.R_drew)); exact HO_370001.out))) (below_size (by repeat (first | (with_reducible first | exact HB.out | apply below_alloc | apply pw_below_drewN | apply below_drew1 | refine below_set ?_ GE368.out | refine below_set ?_ GE369.out) | exact HB.out)))); have n3_ := Aside0.mk (blk_below (g := gb368) (o := .cells #[.slice none 0 0, .slice none 0 0] 25 (0, 0)) (by (with_reducible repeat (first | refine blk_drewN ?_ _ | refine blk_drew ?_ | refine blk_alloc ?_ _)); exact BK368.out) hb); have n4_ := Aside0.mk (blk_below (g := gb369) (o := .cells #[u370000, u370001] 25 (0, 0)) (by (with_reducible repeat (first | refine blk_drewN ?_ _ | refine blk_drew ?_ | refine blk_alloc ?_ _)); exact BK369.out) hb); have n5_ := Aside0.mk (below_step (by repeat (first | (with_reducible first | exact HB.out | apply below_alloc | apply pw_below_drewN | apply below_drew1 | refine below_set ?_ GE368.out | refine below_set ?_ GE369.out) | exact HB.out)) hb); clear HO_370000; clear HO_370001; clear BK368; clear BK369; clear HB; have HO_370000 := n0_; have HO_370001 := n1_; have HO372 := n2_; have BK368 := n3_; have BK369 := n4_; have HB := n5_; clear n0_ n1_ n2_ n3_ n4_ n5_; clear hb ho12))
            (try simp only [Act.put, List.setIfInBounds_toArray, List.set_cons_zero, List.set_cons_succ])
            go_cut [7] (fun v7 wc => ∃ (kq : Nat) (x7_9 : List Int), Aside0 (arboristlaw13_shape.j3 kq l0 l1 x6_1 x7_9 x370000_1 x370001_1 = some (r1, r2)) ∧ Aside0 (kq ≤ kj6) ∧ Aside0 (Kd.R (Kd.int .i64) 3 wc w.heap.size (fun k_ => some k_ ≠ (u370001 : Value).ownBlock) v7 x7_9) ∧ Aside0 (Kd.S (Kd.slice 3 (Kd.int .i64)) 23 wc w.heap.size (fun k_ => some k_ ≠ (v7 : Value).ownBlock ∧ some k_ ≠ (u370001 : Value).ownBlock) u370000 x370000_1) ∧ Aside0 (Kd.R (Kd.int .i64) 3 wc w.heap.size (fun k_ => some k_ ≠ (v7 : Value).ownBlock) u370001 x370001_1) ∧ Aside0 (wc.heap[gb368]? = some (.cells #[(.slice none 0 0), (.slice none 0 0)] 25 (0, 0))) ∧ Aside0 (wc.heap[gb369]? = some (.cells #[u370000, u370001] 25 (0, 0))) ∧ Aside0 (Below w.heap.size w wc))
            case first =>
              have H := HC10.out
              clear HC10
              have H' := Aside0.mk H
              clear H
              go_wp2
              go_loopg [7, 8] kj6 (fun kq v7 v8 w' => ∃ (x7_3 : List Int) (x8_3 : Int), v8 = .int .i64 x8_3 ∧ Aside0 (arboristlaw13_shape.l1 kq l0 l1 x6_1 x7_3 x8_3 x370000_1 x370001_1 = some (r1, r2)) ∧ Aside0 (kq ≤ kj6) ∧ Aside0 (Kd.R (Kd.int .i64) 3 w' w.heap.size (fun k_ => some k_ ≠ (u370001 : Value).ownBlock) v7 x7_3) ∧ Aside0 (Kd.S (Kd.slice 3 (Kd.int .i64)) 23 w' w.heap.size (fun k_ => some k_ ≠ (v7 : Value).ownBlock ∧ some k_ ≠ (u370001 : Value).ownBlock) u370000 x370000_1) ∧ Aside0 (Kd.R (Kd.int .i64) 3 w' w.heap.size (fun k_ => some k_ ≠ (v7 : Value).ownBlock) u370001 x370001_1) ∧ Aside0 (w'.heap[gb368]? = some (.cells #[(.slice none 0 0), (.slice none 0 0)] 25 (0, 0))) ∧ Aside0 (w'.heap[gb369]? = some (.cells #[u370000, u370001] 25 (0, 0))) ∧ Aside0 (Below w.heap.size w w'))
              case atStart => exact ⟨(y370), (0), (by first | rfl | (simp; done) | (simp [*]; done)), H', ⟨Nat.le_refl _⟩, ⟨by (with_reducible repeat (first | apply Kd.R_alloc | apply Kd.R_drewN | apply Kd.R_drew)); exact Kd.R_mono HO372.out (fun _ hk => hk.2)⟩, ⟨by (with_reducible repeat (first | apply Kd.S_alloc | apply Kd.S_drewN | apply Kd.S_drew)); exact Kd.S_mono HO_370000.out (fun _ hk => ⟨hk.2, hk.1⟩)⟩, ⟨by (with_reducible repeat (first | apply Kd.R_alloc | apply Kd.R_drewN | apply Kd.R_drew)); exact Kd.R_mono HO_370001.out (fun _ hk => hk.2)⟩, ⟨by (with_reducible repeat (first | refine blk_drewN ?_ _ | refine blk_drew ?_ | refine blk_alloc ?_ _)); exact BK368.out⟩, ⟨by (with_reducible repeat (first | refine blk_drewN ?_ _ | refine blk_drew ?_ | refine blk_alloc ?_ _)); exact BK369.out⟩, ⟨by repeat (first | (with_reducible first | exact HB.out | apply below_alloc | apply pw_below_drewN | apply below_drew1 | refine below_set ?_ GE368.out | refine below_set ?_ GE369.out) | exact HB.out)⟩⟩
              case round =>
                clear H'
                try clear c1
                try clear c2
                try clear p2
                try clear c5
                try clear c8
                try clear c8b0
                try clear c9
                try clear hcz6_0
                try clear hcz6_1
                try clear hfz6_0
                try clear hfz6_1
                try clear p2
                obtain ⟨x7_3, x8_3, rfl, HA, HK3, HO_7, HO_370000, HO_370001, BK368, BK369, HB⟩ := hrel
                cases gk with
                | zero => exact absurd HA.out (by simp [arboristlaw13_shape.l1])
                | succ k3 =>
                  have H := HA.out
                  clear HA
                  simp only [arboristlaw13_shape.l1] at H
                  by_cases c13 : 0 ≤ x6_1
                  · rw [if_pos c13] at H
                    have c13b0 : decide (0 ≤ x6_1) = true := decide_eq_true c13
                    clear c13
                    (first | rw [c13b0] | (simp only [i64_w, i32_w]; rw [c13b0]) | skip)
                    by_cases c14 : x6_1 < (l1.length : Int)
                    · rw [if_pos c14] at H
                      have c14b0 : decide (x6_1 < (l1.length : Int)) = true := decide_eq_true c14
                      clear c14
                      by_cases c15 : x8_3 < ((rd_L1 l1 x6_1).length : Int)
                      · rw [if_pos c15] at H
                        have c15b0 : decide (x8_3 < ((rd_L1 l1 x6_1).length : Int)) = true := decide_eq_true c15
                        clear c15
                        by_cases c16 : x8_3 < 6
                        · rw [if_pos c16] at H
                          have c16b0 : decide (x8_3 < 6) = true := decide_eq_true c16
                          clear c16
                          by_cases c17 : 0 ≤ x8_3
                          · rw [if_pos c17] at H
                            have c17b0 : decide (0 ≤ x8_3) = true := decide_eq_true c17
                            clear c17
                            obtain ⟨y376, hy376⟩ : ∃ y_ : List Int, y_ = (([Go.bits .and .i64 (rd (rd_L1 l1 x6_1) x8_3) 15] : List Int)) := ⟨_, rfl⟩
                            replace H : ((arboristref01_Unite.f k3 x7_3 y376).bind fun t379 => (arboristlaw13_shape.l1 k3 l0 l1 x6_1 t379 (wrap64 (x8_3 + 1)) x370000_1 x370001_1)) = some (r1, r2) := by first | (rw [hy376]; with_reducible exact H) | (have H2_ := (Option.bind_some _ _).symm.trans H; rw [hy376]; with_reducible exact H2_) | (have H2_ := (Option.bind_some _ _).symm.trans H; with_reducible exact H2_) | with_reducible exact H | (rw [hy376]; exact H) | exact H
                            have Ny376 := Aside0.mk hy376
                            clear hy376
                            replace H := Option.bind_eq_some_iff.mp H
                            obtain ⟨t379, A180, H⟩ := H
                            replace H : (arboristlaw13_shape.l1 k3 l0 l1 x6_1 t379 (wrap64 (x8_3 + 1)) x370000_1 x370001_1) = some (r1, r2) := H
                            have A18 := Aside0.mk A180
                            clear A180
                            have H' := Aside0.mk H
                            clear H
                            have p373 : 0 ≤ (x6_1 : Int) := of_decide_eq_true (by first | (with_reducible assumption) | assumption)
                            have q373 : x6_1 < (l1.length : Int) := of_decide_eq_true (by first | (with_reducible assumption) | assumption)
                            obtain ⟨ad373, A373_0, c373_0, e373, hx373_0, hl373_0, hi373_0⟩ := at_L1 HR1.out x6_1 p373 q373
                            cases e373
                            replace hx373_0 := (HB.out.cell (World.block_lt_of_cell? w _ hx373_0)).trans hx373_0
                            have HR373_0 := Aside0.mk hi373_0
                            have HC373_0 := Aside0.mk hl373_0
                            clear hi373_0 hl373_0
                            replace p373 := eq_true p373
                            replace q373 := eq_true q373
                            have p374 : 0 ≤ (x6_1 : Int) := of_decide_eq_true (by first | (with_reducible assumption) | assumption)
                            have q374 : x6_1 < (l1.length : Int) := of_decide_eq_true (by first | (with_reducible assumption) | assumption)
                            obtain ⟨ad374, A374_0, c374_0, e374, hx374_0, hl374_0, hi374_0⟩ := at_L1 HR1.out x6_1 p374 q374
                            obtain rfl : ad373 = ad374 := (by injection e374)
                            replace hx374_0 := (HB.out.cell (World.block_lt_of_cell? w _ hx374_0)).trans hx374_0
                            have HR374_0 := Aside0.mk hi374_0
                            have HC374_0 := Aside0.mk hl374_0
                            clear hi374_0 hl374_0
                            replace p374 := eq_true p374
                            replace q374 := eq_true q374
                            have ea_ := Option.some.inj (hx373_0.symm.trans hx374_0)
                            injection ea_ with ea_ en_ ec_
                            subst ea_
                            subst ec_
                            clear en_
                            have p375 : 0 ≤ (x8_3 : Int) := of_decide_eq_true (by first | (with_reducible assumption) | assumption)
                            have q375 : x8_3 < ((rd_L1 l1 x6_1).length : Int) := of_decide_eq_true (by first | (with_reducible assumption) | assumption)
                            obtain ⟨ad375, e375, hx375_0⟩ := Kd.at_int HR374_0.out x8_3 p375 q375
                            cases e375
                            replace hx375_0 := (HB.out.cell (World.block_lt_of_cell? w _ hx375_0)).trans hx375_0
                            replace p375 := eq_true p375
                            replace q375 := eq_true q375
                            go_wp2_with (first | ((with_reducible refine gate_dst (N := 44) rfl ?_); refine Kd.R_lit (Kd.int .i64) _ 3 ?hg (N := 44) ?hd (xs := ([Go.bits .and .i64 (rd (rd_L1 l1 x6_1) x8_3) 15] : List Int)) (inner := [.int .i64 (Go.bits .and .i64 (rd (rd_L1 l1 x6_1) x8_3) 15)]) (ok := fun _ => True) (okp := fun _ => True) ?hr ?hp (fun _ hk => hk) trivial (Below.refl _ _) (Nat.le_refl _) (by simp) ?_; (case hd => rfl); (case hg => rfl); (case hr => first | (go_simp; done) | (go_simp; rfl)); (case hp => exact (Reps.one (show Kd.M (Kd.int .i64) _ _ _ (Go.bits .and .i64 (rd (rd_L1 l1 x6_1) x8_3) 15) [.int .i64 (Go.bits .and .i64 (rd (rd_L1 l1 x6_1) x8_3) 15)] from rfl) (Reps.none _ _))); intro v377 w19 ho20 hb hg_ hnew_; clear hg_ hnew_; (first | rw [← Ny376.out] at ho20 | (simp only [Int.reduceToNat] at ho20; rw [← Ny376.out] at ho20)); have n0_ := Aside0.mk (Kd.R_elder' (by (with_reducible repeat (first | apply Kd.R_alloc | apply Kd.R_drewN | apply Kd.R_drew)); exact HO_7.out) (Kd.R_base ho20) hb); have n1_ := Aside0.mk (Kd.S_elder' (by (with_reducible repeat (first | apply Kd.S_alloc | apply Kd.S_drewN | apply Kd.S_drew)); exact HO_370000.out) (Kd.R_base ho20) hb); have n2_ := Aside0.mk (Kd.R_elder' (by (with_reducible repeat (first | apply Kd.R_alloc | apply Kd.R_drewN | apply Kd.R_drew)); exact HO_370001.out) (Kd.R_base ho20) hb); have n3_ := Aside0.mk (Kd.R_lower (Kd.R_new' (Kd.R_new' ho20 (Kd.R_lt (by (with_reducible repeat (first | apply Kd.R_alloc | apply Kd.R_drewN | apply Kd.R_drew)); exact HO_7.out))) (Kd.R_lt (by (with_reducible repeat (first | apply Kd.R_alloc | apply Kd.R_drewN | apply Kd.R_drew)); exact HO_370001.out))) (below_size (by repeat (first | (with_reducible first | exact HB.out | apply below_alloc | apply pw_below_drewN | apply below_drew1 | refine below_set ?_ GE368.out | refine below_set ?_ GE369.out) | exact HB.out)))); have n4_ := Aside0.mk (blk_below (g := gb368) (o := .cells #[.slice none 0 0, .slice none 0 0] 25 (0, 0)) (by (with_reducible repeat (first | refine blk_drewN ?_ _ | refine blk_drew ?_ | refine blk_alloc ?_ _)); exact BK368.out) hb); have n5_ := Aside0.mk (blk_below (g := gb369) (o := .cells #[u370000, u370001] 25 (0, 0)) (by (with_reducible repeat (first | refine blk_drewN ?_ _ | refine blk_drew ?_ | refine blk_alloc ?_ _)); exact BK369.out) hb); have n6_ := Aside0.mk (below_step (by repeat (first | (with_reducible first | exact HB.out | apply below_alloc | apply pw_below_drewN | apply below_drew1 | refine below_set ?_ GE368.out | refine below_set ?_ GE369.out) | exact HB.out)) hb); clear HO_7; clear HO_370000; clear HO_370001; clear BK368; clear BK369; clear HB; have HO_7 := n0_; have HO_370000 := n1_; have HO_370001 := n2_; have HO378 := n3_; have BK368 := n4_; have BK369 := n5_; have HB := n6_; clear n0_ n1_ n2_ n3_ n4_ n5_ n6_; clear hb ho20; obtain ⟨Ao21, co21, eo21⟩ := Kd.R_slice HO_7.out; subst eo21; obtain ⟨Ao22, co22, eo22⟩ := Kd.R_slice HO378.out; subst eo22) | ((with_reducible refine gate_callee (f := 51) rfl ?_); refine goesL_ (some 45) rfl rfl Try.func51 (by kernel_rfl) rfl #[.slice Ao21 x7_3.length co21, .slice Ao22 y376.length co22] rfl (by (try simp only [List.map_toArray, List.map_cons, List.map_nil]); first | done | rfl | (simp only [List.length_drop, List.length_take]; rfl)) ?_; (with_reducible refine (arboristref01_Unite.calls k3 _ _ x7_3 _ _ y376 t379 _ ?side1 ?side2 ?side3 ?side4 A18.out).mono ?_); (case side1 => repeat (first | exact (Kd.R_reads' HO_7.out).2.2 | (with_reducible refine Kd.C_alloc ?_ _) | (with_reducible refine Kd.C_drewN ?_ _) | (with_reducible refine Kd.C_drew ?_))); (case side2 => exact (Kd.R_reads' HO_7.out).2.1); (case side3 => repeat (first | exact (Kd.R_reads' HO378.out).2.2 | (with_reducible refine Kd.C_alloc ?_ _) | (with_reducible refine Kd.C_drewN ?_ _) | (with_reducible refine Kd.C_drew ?_))); (case side4 => exact (Kd.R_reads' HO378.out).2.1); rintro e w23 ⟨v380, rfl, ho0, hb⟩; refine ⟨_, rfl, ?_⟩; have n0_ := Aside0.mk (Kd.R_elder' (by (with_reducible repeat (first | apply Kd.R_alloc | apply Kd.R_drewN | apply Kd.R_drew)); exact HO_7.out) (Kd.R_base ho0) hb); have n1_ := Aside0.mk (Kd.S_elder' (by (with_reducible repeat (first | apply Kd.S_alloc | apply Kd.S_drewN | apply Kd.S_drew)); exact HO_370000.out) (Kd.R_base ho0) hb); have n2_ := Aside0.mk (Kd.R_elder' (by (with_reducible repeat (first | apply Kd.R_alloc | apply Kd.R_drewN | apply Kd.R_drew)); exact HO_370001.out) (Kd.R_base ho0) hb); have n3_ := Aside0.mk (Kd.R_elder' (by (with_reducible repeat (first | apply Kd.R_alloc | apply Kd.R_drewN | apply Kd.R_drew)); exact HO378.out) (Kd.R_base ho0) hb); have n4_ := Aside0.mk (Kd.R_lower (Kd.R_new' (Kd.R_new' (Kd.R_new' ho0 (Kd.R_lt (by (with_reducible repeat (first | apply Kd.R_alloc | apply Kd.R_drewN | apply Kd.R_drew)); exact HO_7.out))) (Kd.R_lt (by (with_reducible repeat (first | apply Kd.R_alloc | apply Kd.R_drewN | apply Kd.R_drew)); exact HO_370001.out))) (Kd.R_lt (by (with_reducible repeat (first | apply Kd.R_alloc | apply Kd.R_drewN | apply Kd.R_drew)); exact HO378.out))) (below_size (by repeat (first | (with_reducible first | exact HB.out | apply below_alloc | apply pw_below_drewN | apply below_drew1 | refine below_set ?_ GE368.out | refine below_set ?_ GE369.out) | exact HB.out)))); have n5_ := Aside0.mk (blk_below (g := gb368) (o := .cells #[.slice none 0 0, .slice none 0 0] 25 (0, 0)) (by (with_reducible repeat (first | refine blk_drewN ?_ _ | refine blk_drew ?_ | refine blk_alloc ?_ _)); exact BK368.out) hb); have n6_ := Aside0.mk (blk_below (g := gb369) (o := .cells #[u370000, u370001] 25 (0, 0)) (by (with_reducible repeat (first | refine blk_drewN ?_ _ | refine blk_drew ?_ | refine blk_alloc ?_ _)); exact BK369.out) hb); have n7_ := Aside0.mk (below_step (by repeat (first | (with_reducible first | exact HB.out | apply below_alloc | apply pw_below_drewN | apply below_drew1 | refine below_set ?_ GE368.out | refine below_set ?_ GE369.out) | exact HB.out)) hb); clear HO_7; clear HO_370000; clear HO_370001; clear HO378; clear BK368; clear BK369; clear HB; have HO_7 := n0_; have HO_370000 := n1_; have HO_370001 := n2_; have HO378 := n3_; have HO381 := n4_; have BK368 := n5_; have BK369 := n6_; have HB := n7_; clear n0_ n1_ n2_ n3_ n4_ n5_ n6_ n7_; (try clear hb); (try clear hb2); (try clear hk); (try clear hi); (try clear ho0)))
                            go_roundg k3
                            case measure => have := HK1.out; have := HJ6.out; have := HK3.out; omega
                            case rel => exact ⟨(t379), (wrap64 (x8_3 + 1)), (by first | rfl | (simp; done) | (simp [*]; done)), H', ⟨by have := HK1.out; have := HJ6.out; have := HK3.out; omega⟩, ⟨by (with_reducible repeat (first | apply Kd.R_alloc | apply Kd.R_drewN | apply Kd.R_drew)); exact Kd.R_mono HO381.out (fun _ hk => hk.1.2)⟩, ⟨by (with_reducible repeat (first | apply Kd.S_alloc | apply Kd.S_drewN | apply Kd.S_drew)); exact Kd.S_mono HO_370000.out (fun _ hk => ⟨hk.2, hk.1.1.2⟩)⟩, ⟨by (with_reducible repeat (first | apply Kd.R_alloc | apply Kd.R_drewN | apply Kd.R_drew)); exact Kd.R_mono HO_370001.out (fun _ hk => hk.2)⟩, ⟨by (with_reducible repeat (first | refine blk_drewN ?_ _ | refine blk_drew ?_ | refine blk_alloc ?_ _)); exact BK368.out⟩, ⟨by (with_reducible repeat (first | refine blk_drewN ?_ _ | refine blk_drew ?_ | refine blk_alloc ?_ _)); exact BK369.out⟩, ⟨by repeat (first | (with_reducible first | exact HB.out | apply below_alloc | apply pw_below_drewN | apply below_drew1 | refine below_set ?_ GE368.out | refine below_set ?_ GE369.out) | exact HB.out)⟩⟩
                          · rw [if_neg c17] at H
                            exact absurd H (by simp)
                        · rw [if_neg c16] at H
                          have c16b0 : decide (x8_3 < 6) = false := decide_eq_false c16
                          clear c16
                          have H' := Aside0.mk H
                          clear H
                          have p373 : 0 ≤ (x6_1 : Int) := of_decide_eq_true (by first | (with_reducible assumption) | assumption)
                          have q373 : x6_1 < (l1.length : Int) := of_decide_eq_true (by first | (with_reducible assumption) | assumption)
                          obtain ⟨ad373, A373_0, c373_0, e373, hx373_0, hl373_0, hi373_0⟩ := at_L1 HR1.out x6_1 p373 q373
                          cases e373
                          replace hx373_0 := (HB.out.cell (World.block_lt_of_cell? w _ hx373_0)).trans hx373_0
                          have HR373_0 := Aside0.mk hi373_0
                          have HC373_0 := Aside0.mk hl373_0
                          clear hi373_0 hl373_0
                          replace p373 := eq_true p373
                          replace q373 := eq_true q373
                          go_wp2
                          go_meet
                          case rel => exact ⟨_, (x7_3), H', ⟨by have := HK1.out; have := HJ6.out; have := HK3.out; first | omega | exact Nat.le_refl _⟩, ⟨by (with_reducible repeat (first | apply Kd.R_alloc | apply Kd.R_drewN | apply Kd.R_drew)); exact HO_7.out⟩, ⟨by (with_reducible repeat (first | apply Kd.S_alloc | apply Kd.S_drewN | apply Kd.S_drew)); exact HO_370000.out⟩, ⟨by (with_reducible repeat (first | apply Kd.R_alloc | apply Kd.R_drewN | apply Kd.R_drew)); exact HO_370001.out⟩, ⟨by (with_reducible repeat (first | refine blk_drewN ?_ _ | refine blk_drew ?_ | refine blk_alloc ?_ _)); exact BK368.out⟩, ⟨by (with_reducible repeat (first | refine blk_drewN ?_ _ | refine blk_drew ?_ | refine blk_alloc ?_ _)); exact BK369.out⟩, ⟨by repeat (first | (with_reducible first | exact HB.out | apply below_alloc | apply pw_below_drewN | apply below_drew1 | refine below_set ?_ GE368.out | refine below_set ?_ GE369.out) | exact HB.out)⟩⟩
                      · rw [if_neg c15] at H
                        have c15b0 : decide (x8_3 < ((rd_L1 l1 x6_1).length : Int)) = false := decide_eq_false c15
                        clear c15
                        have H' := Aside0.mk H
                        clear H
                        have p373 : 0 ≤ (x6_1 : Int) := of_decide_eq_true (by first | (with_reducible assumption) | assumption)
                        have q373 : x6_1 < (l1.length : Int) := of_decide_eq_true (by first | (with_reducible assumption) | assumption)
                        obtain ⟨ad373, A373_0, c373_0, e373, hx373_0, hl373_0, hi373_0⟩ := at_L1 HR1.out x6_1 p373 q373
                        cases e373
                        replace hx373_0 := (HB.out.cell (World.block_lt_of_cell? w _ hx373_0)).trans hx373_0
                        have HR373_0 := Aside0.mk hi373_0
                        have HC373_0 := Aside0.mk hl373_0
                        clear hi373_0 hl373_0
                        replace p373 := eq_true p373
                        replace q373 := eq_true q373
                        go_wp2
                        go_meet
                        case rel => exact ⟨_, (x7_3), H', ⟨by have := HK1.out; have := HJ6.out; have := HK3.out; first | omega | exact Nat.le_refl _⟩, ⟨by (with_reducible repeat (first | apply Kd.R_alloc | apply Kd.R_drewN | apply Kd.R_drew)); exact HO_7.out⟩, ⟨by (with_reducible repeat (first | apply Kd.S_alloc | apply Kd.S_drewN | apply Kd.S_drew)); exact HO_370000.out⟩, ⟨by (with_reducible repeat (first | apply Kd.R_alloc | apply Kd.R_drewN | apply Kd.R_drew)); exact HO_370001.out⟩, ⟨by (with_reducible repeat (first | refine blk_drewN ?_ _ | refine blk_drew ?_ | refine blk_alloc ?_ _)); exact BK368.out⟩, ⟨by (with_reducible repeat (first | refine blk_drewN ?_ _ | refine blk_drew ?_ | refine blk_alloc ?_ _)); exact BK369.out⟩, ⟨by repeat (first | (with_reducible first | exact HB.out | apply below_alloc | apply pw_below_drewN | apply below_drew1 | refine below_set ?_ GE368.out | refine below_set ?_ GE369.out) | exact HB.out)⟩⟩
                    · rw [if_neg c14] at H
                      exact absurd H (by simp)
                  · rw [if_neg c13] at H
                    exact absurd H (by simp)
            case rest =>
              clear HC10
              try clear c1
              try clear c2
              try clear p2
              try clear c3
              try clear p3
              try clear q3
              try clear hx3
              try clear c5
              try clear p6
              try clear c8
              try clear c8b0
              try clear c9
              try clear c13
              try clear c13b0
              try clear c14
              try clear c14b0
              try clear c15
              try clear c15b0
              try clear c16
              try clear c16b0
              try clear c17
              try clear c17b0
              try clear hcz6_0
              try clear hcz6_1
              try clear hfz6_0
              try clear hfz6_1
              try clear hx373_0
              try clear hx374_0
              try clear hx375_0
              try clear p2
              try clear p373
              try clear p374
              try clear p375
              try clear q373
              try clear q374
              try clear q375
              obtain ⟨kq, x7_9, HA, HJ9, HO_7, HO_370000, HO_370001, BK368, BK369, HB⟩ := hcut
              cases kq with
              | zero => exact absurd HA.out (by simp [arboristlaw13_shape.j3])
              | succ kj9 =>
                have H := HA.out
                clear HA
                simp only [arboristlaw13_shape.j3] at H
                by_cases c24 : x6_1 > 0
                · rw [if_pos c24] at H
                  have c24b0 : decide (0 < x6_1) = true := decide_eq_true c24
                  clear c24
                  by_cases c25 : x6_1 < (l0.length : Int)
                  · rw [if_pos c25] at H
                    have c25b0 : decide (x6_1 < (l0.length : Int)) = true := decide_eq_true c25
                    clear c25
                    by_cases c26 : 0 ≤ x6_1
                    · rw [if_pos c26] at H
                      have c26b0 : decide (0 ≤ x6_1) = true := decide_eq_true c26
                      clear c26
                      by_cases c27 : x6_1 = 0
                      · rw [if_pos c27] at H
                        exact absurd H (by simp)
                      · rw [if_neg c27] at H
                        have c27b0 : (x6_1 == 0) = false := beq_eq_false_iff_ne.mpr c27
                        have c27b1 : (x6_1 != 0) = true := bne_iff_ne.mpr c27
                        by_cases c28 : x370000_1.length < 5864062014805
                        · rw [if_pos c28] at H
                          have LMc28 := Aside0.mk c28
                          clear c28
                          obtain ⟨y383, hy383⟩ : ∃ y_ : List (List Int), y_ = (x370000_1 ++ [x7_9]) := ⟨_, rfl⟩
                          replace H : (if x370001_1.length < 17592186044416 then (arboristlaw13_shape.l0 kj9 l0 l1 (wrap64 (x6_1 + 1)) y383 (x370001_1 ++ [Int.tmod (Go.bits .and .i64 (rd l0 x6_1) 65535) x6_1])) else (none)) = some (r1, r2) := by first | (rw [hy383]; with_reducible exact H) | (have H2_ := (Option.bind_some _ _).symm.trans H; rw [hy383]; with_reducible exact H2_) | (have H2_ := (Option.bind_some _ _).symm.trans H; with_reducible exact H2_) | with_reducible exact H | (rw [hy383]; exact H) | exact H
                          have Ny383 := Aside0.mk hy383
                          clear hy383
                          by_cases c29 : x370001_1.length < 17592186044416
                          · rw [if_pos c29] at H
                            have LMc29 := Aside0.mk c29
                            clear c29
                            obtain ⟨y386, hy386⟩ : ∃ y_ : List Int, y_ = (x370001_1 ++ [Int.tmod (Go.bits .and .i64 (rd l0 x6_1) 65535) x6_1]) := ⟨_, rfl⟩
                            replace H : (arboristlaw13_shape.l0 kj9 l0 l1 (wrap64 (x6_1 + 1)) y383 y386) = some (r1, r2) := by first | (rw [hy386]; with_reducible exact H) | (have H2_ := (Option.bind_some _ _).symm.trans H; rw [hy386]; with_reducible exact H2_) | (have H2_ := (Option.bind_some _ _).symm.trans H; with_reducible exact H2_) | with_reducible exact H | (rw [hy386]; exact H) | exact H
                            have Ny386 := Aside0.mk hy386
                            clear hy386
                            have H' := Aside0.mk H
                            clear H
                            have p382 : 0 ≤ (x6_1 : Int) := of_decide_eq_true (by first | (with_reducible assumption) | assumption)
                            have q382 : x6_1 < (l0.length : Int) := of_decide_eq_true (by first | (with_reducible assumption) | assumption)
                            obtain ⟨ad382, e382, hx382_0⟩ := Kd.at_int HR0.out x6_1 p382 q382
                            cases e382
                            replace hx382_0 := (HB.out.cell (World.block_lt_of_cell? w _ hx382_0)).trans hx382_0
                            replace p382 := eq_true p382
                            replace q382 := eq_true q382
                            have hnb30 := NB369_368.out
                            have hnc30 := NB368_369.out
                            have hcz31_0 : wc.cell? ⟨gb369, 0, none⟩ = some (u370000) := (blk_cell BK369.out 0).trans rfl
                            have hcz31_1 : wc.cell? ⟨gb369, 1, none⟩ = some (u370001) := (blk_cell BK369.out 1).trans rfl
                            have hfz31_0 := blk_frozen BK369.out 0
                            have hfz31_1 := blk_frozen BK369.out 1
                            obtain ⟨Ao33, co33, eo33⟩ := Kd.R_slice HO_7.out
                            subst eo33
                            go_wp2_with (first | ((with_reducible refine gate_builtin (b := .append) (xs := #[.tmp 60, .tmp 62]) rfl ?_); at_builtin; refine Kd.S_append (Kd.slice 3 (Kd.int .i64)) (w0 := w) w.heap.size rfl (.tmp 60) (.tmp 62) 22 23 (.slice none 0 0) 24 rfl Try.underlying22 info23 rfl (by decide) (by omega) u370000 x370000_1 x7_9 [.slice Ao33 x7_9.length co33] (fun k_ => some k_ ≠ (u370001 : Value).ownBlock) (fun k_ => some k_ = (.slice Ao33 x7_9.length co33 : Value).ownBlock) rfl rfl ?aP (fun k_ hk_ => ((Kd.R_mono (ok' := fun k_ => ((fun k_ => some k_ ≠ (u370001 : Value).ownBlock)) k_ ∧ some k_ ≠ (u370000 : Value).ownBlock) (Kd.R_apart' (HO_7.out) (Kd.S_typed HO_370000.out) (by decide)) (fun k_ hk => ⟨hk.1, hk.2⟩))).1 k_ hk_.symm) ?aF ?aO ?aB ?aS ?aL ?_; (case aP => exact Kd.M_row (Kd.R_mono (Kd.R_tight rfl (Kd.R_mono (ok' := fun k_ => ((fun k_ => some k_ ≠ (u370001 : Value).ownBlock)) k_ ∧ some k_ ≠ (u370000 : Value).ownBlock) (Kd.R_apart' (HO_7.out) (Kd.S_typed HO_370000.out) (by decide)) (fun k_ hk => ⟨hk.1, hk.2⟩))) (fun _ h_ => h_))); (case aB => exact (by repeat (first | (with_reducible first | exact HB.out | apply below_alloc | apply pw_below_drewN | apply below_drew1 | refine below_set ?_ GE368.out | refine below_set ?_ GE369.out) | exact HB.out))); (case aF => exact (fun k_ hk => Kd.fresh' (Kd.R_lt (by (with_reducible repeat (first | apply Kd.R_alloc | apply Kd.R_drewN | apply Kd.R_drew)); exact HO_370001.out)) k_ hk)); (case aO => exact (by (with_reducible repeat (first | apply Kd.S_alloc | apply Kd.S_drewN | apply Kd.S_drew)); exact Kd.S_mono HO_370000.out (fun k_ hk => ⟨hk.2, fun e_ => hk.1 e_⟩))); (case aS => exact (below_size (by repeat (first | (with_reducible first | exact HB.out | apply below_alloc | apply pw_below_drewN | apply below_drew1 | refine below_set ?_ GE368.out | refine below_set ?_ GE369.out) | exact HB.out)))); (case aL => have := LMc28.out; omega); intro v384 w32 ho hb hg hat; rw [← Ny383.out] at ho; have n0_ := Aside0.mk (Kd.R_over' (by (with_reducible repeat (first | apply Kd.R_alloc | apply Kd.R_drewN | apply Kd.R_drew)); exact HO_370001.out) (Kd.S_typed (by (with_reducible repeat (first | apply Kd.S_alloc | apply Kd.S_drewN | apply Kd.S_drew)); exact HO_370000.out)) (by decide) hg); have n1_ := Aside0.mk (blk_grown (g := gb368) (o := .cells #[.slice none 0 0, .slice none 0 0] 25 (0, 0)) (by (with_reducible repeat (first | refine blk_drewN ?_ _ | refine blk_drew ?_ | refine blk_alloc ?_ _)); exact BK368.out) hg (Kd.S_ne HO_370000.out BK368.out (by decide))); have n2_ := Aside0.mk (blk_grown (g := gb369) (o := .cells #[u370000, u370001] 25 (0, 0)) (by (with_reducible repeat (first | refine blk_drewN ?_ _ | refine blk_drew ?_ | refine blk_alloc ?_ _)); exact BK369.out) hg (Kd.S_ne HO_370000.out BK369.out (by decide))); have n3_ := Aside0.mk (hb); have n4_ := Aside0.mk (ho); clear HO_370001; clear BK368; clear BK369; clear HB; clear HO_370000; clear HO_7; have HO_370001 := n0_; have BK368 := n1_; have BK369 := n2_; have HB := n3_; have HO385 := n4_; clear n0_ n1_ n2_ n3_ n4_; clear ho hb hg hat; obtain ⟨Ao34, co34, eo34⟩ := Kd.S_slice HO385.out; subst eo34; have hcz35_0 : w32.cell? ⟨gb369, 0, none⟩ = some (u370000) := (blk_cell BK369.out 0).trans rfl; have hcz35_1 : w32.cell? ⟨gb369, 1, none⟩ = some (u370001) := (blk_cell BK369.out 1).trans rfl; have hfz35_0 := blk_frozen BK369.out 0; have hfz35_1 := blk_frozen BK369.out 1) | ((with_reducible refine gate_builtin (b := .append) (xs := #[.tmp 66, .tmp 68]) rfl ?_); at_builtin; refine Kd.R_append (Kd.int .i64) (w0 := w) w.heap.size rfl (.tmp 66) (.tmp 68) 23 3 (.int .i64 0) 8 rfl Try.underlying23 info3 rfl (by decide) (by omega) u370001 x370001_1 (Int.tmod (Go.bits .and .i64 (rd l0 x6_1) 65535) x6_1) [.int .i64 (Int.tmod (Go.bits .and .i64 (rd l0 x6_1) 65535) x6_1)] (fun _ => True) (fun _ => False) rfl (by first | (go_simp; done) | (go_simp; rfl)) ?aP (fun _ hk => hk.elim) ?aF ?aO ?aB ?aS ?aL ?_; (case aP => exact rfl); (case aB => exact (by repeat (first | (with_reducible first | exact HB.out | apply below_alloc | apply pw_below_drewN | apply below_drew1 | refine below_set ?_ GE368.out | refine below_set ?_ GE369.out) | exact HB.out))); (case aF => exact (fun _ _ => trivial)); (case aO => exact (by (with_reducible repeat (first | apply Kd.R_alloc | apply Kd.R_drewN | apply Kd.R_drew)); exact Kd.R_mono (Kd.R_far (p := ⟨gb369, 0, none⟩) (Kd.R_types HO_370001.out BK369.out (by decide)) (fun _ hk => hk.2) (.slice Ao34 y383.length co34)) (fun _ hk => trivial))); (case aS => exact (below_size (by repeat (first | (with_reducible first | exact HB.out | apply below_alloc | apply pw_below_drewN | apply below_drew1 | refine below_set ?_ GE368.out | refine below_set ?_ GE369.out) | exact HB.out)))); (case aL => have := LMc29.out; omega); intro v387 w36 ho hb hg hat; rw [← Ny386.out] at ho; have n0_ := Aside0.mk (blk_grown (g := gb368) (o := .cells #[.slice none 0 0, .slice none 0 0] 25 (0, 0)) (by (with_reducible repeat (first | refine blk_drewN ?_ _ | refine blk_drew ?_ | refine blk_alloc ?_ _)); refine blk_far ?_ NB368_369.out _; (with_reducible repeat (first | refine blk_drewN ?_ _ | refine blk_drew ?_ | refine blk_alloc ?_ _)); exact BK368.out) hg (Kd.R_ne HO_370001.out BK368.out (by decide))); have n1_ := Aside0.mk (blk_grown (g := gb369) (o := .cells #[.slice Ao34 y383.length co34, u370001] 25 (0, 0)) (by (with_reducible repeat (first | refine blk_drewN ?_ _ | refine blk_drew ?_ | refine blk_alloc ?_ _)); refine blk_put (cs := #[u370000, u370001]) ?_ 0 _ rfl; (with_reducible repeat (first | refine blk_drewN ?_ _ | refine blk_drew ?_ | refine blk_alloc ?_ _)); exact BK369.out) hg (Kd.R_ne HO_370001.out BK369.out (by decide))); have n2_ := Aside0.mk (Kd.S_after (ok := (fun _ => True)) (by (with_reducible repeat (first | apply Kd.S_alloc | apply Kd.S_drewN | apply Kd.S_drew)); exact Kd.S_mono (Kd.S_far (p := ⟨gb369, 0, none⟩) (Kd.S_types HO385.out BK369.out (by decide)) (fun _ hk => hk.2) (.slice Ao34 y383.length co34)) (fun _ hk => ⟨trivial, hk.1⟩)) hg hat); have n3_ := Aside0.mk (hb); have n4_ := Aside0.mk (ho); clear BK368; clear BK369; clear HO385; clear HB; clear HO_370001; have BK368 := n0_; have BK369 := n1_; have HO385 := n2_; have HB := n3_; have HO388 := n4_; clear n0_ n1_ n2_ n3_ n4_; clear ho hb hg hat; obtain ⟨Ao37, co37, eo37⟩ := Kd.R_slice HO388.out; subst eo37; have hcz38_0 : w36.cell? ⟨gb369, 0, none⟩ = some (.slice Ao34 y383.length co34) := (blk_cell BK369.out 0).trans rfl; have hcz38_1 : w36.cell? ⟨gb369, 1, none⟩ = some (u370001) := (blk_cell BK369.out 1).trans rfl; have hfz38_0 := blk_frozen BK369.out 0; have hfz38_1 := blk_frozen BK369.out 1))
                            go_roundg kj9
                            case measure => have := HK1.out; have := HJ6.out; have := HJ9.out; omega
                            case rel => exact ⟨(wrap64 (x6_1 + 1)), (y383), (y386), (.slice Ao34 y383.length co34), (.slice Ao37 y386.length co37), (by first | rfl | (simp; done) | (simp [*]; done)), H', ⟨by have := HK1.out; have := HJ6.out; have := HJ9.out; omega⟩, ⟨by (with_reducible repeat (first | apply Kd.S_alloc | apply Kd.S_drewN | apply Kd.S_drew)); exact Kd.S_mono (Kd.S_far (p := ⟨gb369, 1, none⟩) (Kd.S_types HO385.out BK369.out (by decide)) (fun _ hk => hk.2) (.slice Ao37 y386.length co37)) (fun _ hk => hk.1.2)⟩, ⟨by (with_reducible repeat (first | apply Kd.R_alloc | apply Kd.R_drewN | apply Kd.R_drew)); exact Kd.R_mono (Kd.R_far (p := ⟨gb369, 1, none⟩) (Kd.R_types HO388.out BK369.out (by decide)) (fun _ hk => hk.2) (.slice Ao37 y386.length co37)) (fun _ hk => trivial)⟩, ⟨by (with_reducible repeat (first | refine blk_drewN ?_ _ | refine blk_drew ?_ | refine blk_alloc ?_ _)); refine blk_far ?_ NB368_369.out _; (with_reducible repeat (first | refine blk_drewN ?_ _ | refine blk_drew ?_ | refine blk_alloc ?_ _)); exact BK368.out⟩, ⟨by (with_reducible repeat (first | refine blk_drewN ?_ _ | refine blk_drew ?_ | refine blk_alloc ?_ _)); refine blk_put (cs := #[.slice Ao34 y383.length co34, u370001]) ?_ 1 _ rfl; (with_reducible repeat (first | refine blk_drewN ?_ _ | refine blk_drew ?_ | refine blk_alloc ?_ _)); exact BK369.out⟩, ⟨by repeat (first | (with_reducible first | exact HB.out | apply below_alloc | apply pw_below_drewN | apply below_drew1 | refine below_set ?_ GE368.out | refine below_set ?_ GE369.out) | exact HB.out)⟩⟩
                          · rw [if_neg c29] at H
                            exact absurd H (by simp)
                        · rw [if_neg c28] at H
                          exact absurd H (by simp)
                    · rw [if_neg c26] at H
                      exact absurd H (by simp)
                  · rw [if_neg c25] at H
                    have c25b0 : decide (x6_1 < (l0.length : Int)) = false := decide_eq_false c25
                    clear c25
                    by_cases c39 : x370000_1.length < 5864062014805
                    · rw [if_pos c39] at H
                      have LMc39 := Aside0.mk c39
                      clear c39
                      obtain ⟨y389, hy389⟩ : ∃ y_ : List (List Int), y_ = (x370000_1 ++ [x7_9]) := ⟨_, rfl⟩
                      replace H : (if x370001_1.length < 17592186044416 then (arboristlaw13_shape.l0 kj9 l0 l1 (wrap64 (x6_1 + 1)) y389 (x370001_1 ++ [0])) else (none)) = some (r1, r2) := by first | (rw [hy389]; with_reducible exact H) | (have H2_ := (Option.bind_some _ _).symm.trans H; rw [hy389]; with_reducible exact H2_) | (have H2_ := (Option.bind_some _ _).symm.trans H; with_reducible exact H2_) | with_reducible exact H | (rw [hy389]; exact H) | exact H
                      have Ny389 := Aside0.mk hy389
                      clear hy389
                      by_cases c40 : x370001_1.length < 17592186044416
                      · rw [if_pos c40] at H
                        have LMc40 := Aside0.mk c40
                        clear c40
                        obtain ⟨y392, hy392⟩ : ∃ y_ : List Int, y_ = (x370001_1 ++ [0]) := ⟨_, rfl⟩
                        replace H : (arboristlaw13_shape.l0 kj9 l0 l1 (wrap64 (x6_1 + 1)) y389 y392) = some (r1, r2) := by first | (rw [hy392]; with_reducible exact H) | (have H2_ := (Option.bind_some _ _).symm.trans H; rw [hy392]; with_reducible exact H2_) | (have H2_ := (Option.bind_some _ _).symm.trans H; with_reducible exact H2_) | with_reducible exact H | (rw [hy392]; exact H) | exact H
                        have Ny392 := Aside0.mk hy392
                        clear hy392
                        have H' := Aside0.mk H
                        clear H
                        have hnb41 := NB369_368.out
                        have hnc41 := NB368_369.out
                        have hcz42_0 : wc.cell? ⟨gb369, 0, none⟩ = some (u370000) := (blk_cell BK369.out 0).trans rfl
                        have hcz42_1 : wc.cell? ⟨gb369, 1, none⟩ = some (u370001) := (blk_cell BK369.out 1).trans rfl
                        have hfz42_0 := blk_frozen BK369.out 0
                        have hfz42_1 := blk_frozen BK369.out 1
                        obtain ⟨Ao44, co44, eo44⟩ := Kd.R_slice HO_7.out
                        subst eo44
                        go_wp2_with (first | ((with_reducible refine gate_builtin (b := .append) (xs := #[.tmp 60, .tmp 62]) rfl ?_); at_builtin; refine Kd.S_append (Kd.slice 3 (Kd.int .i64)) (w0 := w) w.heap.size rfl (.tmp 60) (.tmp 62) 22 23 (.slice none 0 0) 24 rfl Try.underlying22 info23 rfl (by decide) (by omega) u370000 x370000_1 x7_9 [.slice Ao44 x7_9.length co44] (fun k_ => some k_ ≠ (u370001 : Value).ownBlock) (fun k_ => some k_ = (.slice Ao44 x7_9.length co44 : Value).ownBlock) rfl rfl ?aP (fun k_ hk_ => ((Kd.R_mono (ok' := fun k_ => ((fun k_ => some k_ ≠ (u370001 : Value).ownBlock)) k_ ∧ some k_ ≠ (u370000 : Value).ownBlock) (Kd.R_apart' (HO_7.out) (Kd.S_typed HO_370000.out) (by decide)) (fun k_ hk => ⟨hk.1, hk.2⟩))).1 k_ hk_.symm) ?aF ?aO ?aB ?aS ?aL ?_; (case aP => exact Kd.M_row (Kd.R_mono (Kd.R_tight rfl (Kd.R_mono (ok' := fun k_ => ((fun k_ => some k_ ≠ (u370001 : Value).ownBlock)) k_ ∧ some k_ ≠ (u370000 : Value).ownBlock) (Kd.R_apart' (HO_7.out) (Kd.S_typed HO_370000.out) (by decide)) (fun k_ hk => ⟨hk.1, hk.2⟩))) (fun _ h_ => h_))); (case aB => exact (by repeat (first | (with_reducible first | exact HB.out | apply below_alloc | apply pw_below_drewN | apply below_drew1 | refine below_set ?_ GE368.out | refine below_set ?_ GE369.out) | exact HB.out))); (case aF => exact (fun k_ hk => Kd.fresh' (Kd.R_lt (by (with_reducible repeat (first | apply Kd.R_alloc | apply Kd.R_drewN | apply Kd.R_drew)); exact HO_370001.out)) k_ hk)); (case aO => exact (by (with_reducible repeat (first | apply Kd.S_alloc | apply Kd.S_drewN | apply Kd.S_drew)); exact Kd.S_mono HO_370000.out (fun k_ hk => ⟨hk.2, fun e_ => hk.1 e_⟩))); (case aS => exact (below_size (by repeat (first | (with_reducible first | exact HB.out | apply below_alloc | apply pw_below_drewN | apply below_drew1 | refine below_set ?_ GE368.out | refine below_set ?_ GE369.out) | exact HB.out)))); (case aL => have := LMc39.out; omega); intro v390 w43 ho hb hg hat; rw [← Ny389.out] at ho; have n0_ := Aside0.mk (Kd.R_over' (by (with_reducible repeat (first | apply Kd.R_alloc | apply Kd.R_drewN | apply Kd.R_drew)); exact HO_370001.out) (Kd.S_typed (by (with_reducible repeat (first | apply Kd.S_alloc | apply Kd.S_drewN | apply Kd.S_drew)); exact HO_370000.out)) (by decide) hg); have n1_ := Aside0.mk (blk_grown (g := gb368) (o := .cells #[.slice none 0 0, .slice none 0 0] 25 (0, 0)) (by (with_reducible repeat (first | refine blk_drewN ?_ _ | refine blk_drew ?_ | refine blk_alloc ?_ _)); exact BK368.out) hg (Kd.S_ne HO_370000.out BK368.out (by decide))); have n2_ := Aside0.mk (blk_grown (g := gb369) (o := .cells #[u370000, u370001] 25 (0, 0)) (by (with_reducible repeat (first | refine blk_drewN ?_ _ | refine blk_drew ?_ | refine blk_alloc ?_ _)); exact BK369.out) hg (Kd.S_ne HO_370000.out BK369.out (by decide))); have n3_ := Aside0.mk (hb); have n4_ := Aside0.mk (ho); clear HO_370001; clear BK368; clear BK369; clear HB; clear HO_370000; clear HO_7; have HO_370001 := n0_; have BK368 := n1_; have BK369 := n2_; have HB := n3_; have HO391 := n4_; clear n0_ n1_ n2_ n3_ n4_; clear ho hb hg hat; obtain ⟨Ao45, co45, eo45⟩ := Kd.S_slice HO391.out; subst eo45; have hcz46_0 : w43.cell? ⟨gb369, 0, none⟩ = some (u370000) := (blk_cell BK369.out 0).trans rfl; have hcz46_1 : w43.cell? ⟨gb369, 1, none⟩ = some (u370001) := (blk_cell BK369.out 1).trans rfl; have hfz46_0 := blk_frozen BK369.out 0; have hfz46_1 := blk_frozen BK369.out 1) | ((with_reducible refine gate_builtin (b := .append) (xs := #[.tmp 66, .tmp 68]) rfl ?_); at_builtin; refine Kd.R_append (Kd.int .i64) (w0 := w) w.heap.size rfl (.tmp 66) (.tmp 68) 23 3 (.int .i64 0) 8 rfl Try.underlying23 info3 rfl (by decide) (by omega) u370001 x370001_1 0 [.int .i64 0] (fun _ => True) (fun _ => False) rfl (by first | (go_simp; done) | (go_simp; rfl)) ?aP (fun _ hk => hk.elim) ?aF ?aO ?aB ?aS ?aL ?_; (case aP => exact rfl); (case aB => exact (by repeat (first | (with_reducible first | exact HB.out | apply below_alloc | apply pw_below_drewN | apply below_drew1 | refine below_set ?_ GE368.out | refine below_set ?_ GE369.out) | exact HB.out))); (case aF => exact (fun _ _ => trivial)); (case aO => exact (by (with_reducible repeat (first | apply Kd.R_alloc | apply Kd.R_drewN | apply Kd.R_drew)); exact Kd.R_mono (Kd.R_far (p := ⟨gb369, 0, none⟩) (Kd.R_types HO_370001.out BK369.out (by decide)) (fun _ hk => hk.2) (.slice Ao45 y389.length co45)) (fun _ hk => trivial))); (case aS => exact (below_size (by repeat (first | (with_reducible first | exact HB.out | apply below_alloc | apply pw_below_drewN | apply below_drew1 | refine below_set ?_ GE368.out | refine below_set ?_ GE369.out) | exact HB.out)))); (case aL => have := LMc40.out; omega); intro v393 w47 ho hb hg hat; rw [← Ny392.out] at ho; have n0_ := Aside0.mk (blk_grown (g := gb368) (o := .cells #[.slice none 0 0, .slice none 0 0] 25 (0, 0)) (by (with_reducible repeat (first | refine blk_drewN ?_ _ | refine blk_drew ?_ | refine blk_alloc ?_ _)); refine blk_far ?_ NB368_369.out _; (with_reducible repeat (first | refine blk_drewN ?_ _ | refine blk_drew ?_ | refine blk_alloc ?_ _)); exact BK368.out) hg (Kd.R_ne HO_370001.out BK368.out (by decide))); have n1_ := Aside0.mk (blk_grown (g := gb369) (o := .cells #[.slice Ao45 y389.length co45, u370001] 25 (0, 0)) (by (with_reducible repeat (first | refine blk_drewN ?_ _ | refine blk_drew ?_ | refine blk_alloc ?_ _)); refine blk_put (cs := #[u370000, u370001]) ?_ 0 _ rfl; (with_reducible repeat (first | refine blk_drewN ?_ _ | refine blk_drew ?_ | refine blk_alloc ?_ _)); exact BK369.out) hg (Kd.R_ne HO_370001.out BK369.out (by decide))); have n2_ := Aside0.mk (Kd.S_after (ok := (fun _ => True)) (by (with_reducible repeat (first | apply Kd.S_alloc | apply Kd.S_drewN | apply Kd.S_drew)); exact Kd.S_mono (Kd.S_far (p := ⟨gb369, 0, none⟩) (Kd.S_types HO391.out BK369.out (by decide)) (fun _ hk => hk.2) (.slice Ao45 y389.length co45)) (fun _ hk => ⟨trivial, hk.1⟩)) hg hat); have n3_ := Aside0.mk (hb); have n4_ := Aside0.mk (ho); clear BK368; clear BK369; clear HO391; clear HB; clear HO_370001; have BK368 := n0_; have BK369 := n1_; have HO391 := n2_; have HB := n3_; have HO394 := n4_; clear n0_ n1_ n2_ n3_ n4_; clear ho hb hg hat; obtain ⟨Ao48, co48, eo48⟩ := Kd.R_slice HO394.out; subst eo48; have hcz49_0 : w47.cell? ⟨gb369, 0, none⟩ = some (.slice Ao45 y389.length co45) := (blk_cell BK369.out 0).trans rfl; have hcz49_1 : w47.cell? ⟨gb369, 1, none⟩ = some (u370001) := (blk_cell BK369.out 1).trans rfl; have hfz49_0 := blk_frozen BK369.out 0; have hfz49_1 := blk_frozen BK369.out 1))
                        go_roundg kj9
                        case measure => have := HK1.out; have := HJ6.out; have := HJ9.out; omega
                        case rel => exact ⟨(wrap64 (x6_1 + 1)), (y389), (y392), (.slice Ao45 y389.length co45), (.slice Ao48 y392.length co48), (by first | rfl | (simp; done) | (simp [*]; done)), H', ⟨by have := HK1.out; have := HJ6.out; have := HJ9.out; omega⟩, ⟨by (with_reducible repeat (first | apply Kd.S_alloc | apply Kd.S_drewN | apply Kd.S_drew)); exact Kd.S_mono (Kd.S_far (p := ⟨gb369, 1, none⟩) (Kd.S_types HO391.out BK369.out (by decide)) (fun _ hk => hk.2) (.slice Ao48 y392.length co48)) (fun _ hk => hk.1.2)⟩, ⟨by (with_reducible repeat (first | apply Kd.R_alloc | apply Kd.R_drewN | apply Kd.R_drew)); exact Kd.R_mono (Kd.R_far (p := ⟨gb369, 1, none⟩) (Kd.R_types HO394.out BK369.out (by decide)) (fun _ hk => hk.2) (.slice Ao48 y392.length co48)) (fun _ hk => trivial)⟩, ⟨by (with_reducible repeat (first | refine blk_drewN ?_ _ | refine blk_drew ?_ | refine blk_alloc ?_ _)); refine blk_far ?_ NB368_369.out _; (with_reducible repeat (first | refine blk_drewN ?_ _ | refine blk_drew ?_ | refine blk_alloc ?_ _)); exact BK368.out⟩, ⟨by (with_reducible repeat (first | refine blk_drewN ?_ _ | refine blk_drew ?_ | refine blk_alloc ?_ _)); refine blk_put (cs := #[.slice Ao45 y389.length co45, u370001]) ?_ 1 _ rfl; (with_reducible repeat (first | refine blk_drewN ?_ _ | refine blk_drew ?_ | refine blk_alloc ?_ _)); exact BK369.out⟩, ⟨by repeat (first | (with_reducible first | exact HB.out | apply below_alloc | apply pw_below_drewN | apply below_drew1 | refine below_set ?_ GE368.out | refine below_set ?_ GE369.out) | exact HB.out)⟩⟩
                      · rw [if_neg c40] at H
                        exact absurd H (by simp)
                    · rw [if_neg c39] at H
                      exact absurd H (by simp)
                · rw [if_neg c24] at H
                  have c24b0 : decide (0 < x6_1) = false := decide_eq_false c24
                  clear c24
                  by_cases c50 : x370000_1.length < 5864062014805
                  · rw [if_pos c50] at H
                    have LMc50 := Aside0.mk c50
                    clear c50
                    obtain ⟨y395, hy395⟩ : ∃ y_ : List (List Int), y_ = (x370000_1 ++ [x7_9]) := ⟨_, rfl⟩
                    replace H : (if x370001_1.length < 17592186044416 then (arboristlaw13_shape.l0 kj9 l0 l1 (wrap64 (x6_1 + 1)) y395 (x370001_1 ++ [(-1)])) else (none)) = some (r1, r2) := by first | (rw [hy395]; with_reducible exact H) | (have H2_ := (Option.bind_some _ _).symm.trans H; rw [hy395]; with_reducible exact H2_) | (have H2_ := (Option.bind_some _ _).symm.trans H; with_reducible exact H2_) | with_reducible exact H | (rw [hy395]; exact H) | exact H
                    have Ny395 := Aside0.mk hy395
                    clear hy395
                    by_cases c51 : x370001_1.length < 17592186044416
                    · rw [if_pos c51] at H
                      have LMc51 := Aside0.mk c51
                      clear c51
                      obtain ⟨y398, hy398⟩ : ∃ y_ : List Int, y_ = (x370001_1 ++ [(-1)]) := ⟨_, rfl⟩
                      replace H : (arboristlaw13_shape.l0 kj9 l0 l1 (wrap64 (x6_1 + 1)) y395 y398) = some (r1, r2) := by first | (rw [hy398]; with_reducible exact H) | (have H2_ := (Option.bind_some _ _).symm.trans H; rw [hy398]; with_reducible exact H2_) | (have H2_ := (Option.bind_some _ _).symm.trans H; with_reducible exact H2_) | with_reducible exact H | (rw [hy398]; exact H) | exact H
                      have Ny398 := Aside0.mk hy398
                      clear hy398
                      have H' := Aside0.mk H
                      clear H
                      have hnb52 := NB369_368.out
                      have hnc52 := NB368_369.out
                      have hcz53_0 : wc.cell? ⟨gb369, 0, none⟩ = some (u370000) := (blk_cell BK369.out 0).trans rfl
                      have hcz53_1 : wc.cell? ⟨gb369, 1, none⟩ = some (u370001) := (blk_cell BK369.out 1).trans rfl
                      have hfz53_0 := blk_frozen BK369.out 0
                      have hfz53_1 := blk_frozen BK369.out 1
                      obtain ⟨Ao55, co55, eo55⟩ := Kd.R_slice HO_7.out
                      subst eo55
                      go_wp2_with (first | ((with_reducible refine gate_builtin (b := .append) (xs := #[.tmp 60, .tmp 62]) rfl ?_); at_builtin; refine Kd.S_append (Kd.slice 3 (Kd.int .i64)) (w0 := w) w.heap.size rfl (.tmp 60) (.tmp 62) 22 23 (.slice none 0 0) 24 rfl Try.underlying22 info23 rfl (by decide) (by omega) u370000 x370000_1 x7_9 [.slice Ao55 x7_9.length co55] (fun k_ => some k_ ≠ (u370001 : Value).ownBlock) (fun k_ => some k_ = (.slice Ao55 x7_9.length co55 : Value).ownBlock) rfl rfl ?aP (fun k_ hk_ => ((Kd.R_mono (ok' := fun k_ => ((fun k_ => some k_ ≠ (u370001 : Value).ownBlock)) k_ ∧ some k_ ≠ (u370000 : Value).ownBlock) (Kd.R_apart' (HO_7.out) (Kd.S_typed HO_370000.out) (by decide)) (fun k_ hk => ⟨hk.1, hk.2⟩))).1 k_ hk_.symm) ?aF ?aO ?aB ?aS ?aL ?_; (case aP => exact Kd.M_row (Kd.R_mono (Kd.R_tight rfl (Kd.R_mono (ok' := fun k_ => ((fun k_ => some k_ ≠ (u370001 : Value).ownBlock)) k_ ∧ some k_ ≠ (u370000 : Value).ownBlock) (Kd.R_apart' (HO_7.out) (Kd.S_typed HO_370000.out) (by decide)) (fun k_ hk => ⟨hk.1, hk.2⟩))) (fun _ h_ => h_))); (case aB => exact (by repeat (first | (with_reducible first | exact HB.out | apply below_alloc | apply pw_below_drewN | apply below_drew1 | refine below_set ?_ GE368.out | refine below_set ?_ GE369.out) | exact HB.out))); (case aF => exact (fun k_ hk => Kd.fresh' (Kd.R_lt (by (with_reducible repeat (first | apply Kd.R_alloc | apply Kd.R_drewN | apply Kd.R_drew)); exact HO_370001.out)) k_ hk)); (case aO => exact (by (with_reducible repeat (first | apply Kd.S_alloc | apply Kd.S_drewN | apply Kd.S_drew)); exact Kd.S_mono HO_370000.out (fun k_ hk => ⟨hk.2, fun e_ => hk.1 e_⟩))); (case aS => exact (below_size (by repeat (first | (with_reducible first | exact HB.out | apply below_alloc | apply pw_below_drewN | apply below_drew1 | refine below_set ?_ GE368.out | refine below_set ?_ GE369.out) | exact HB.out)))); (case aL => have := LMc50.out; omega); intro v396 w54 ho hb hg hat; rw [← Ny395.out] at ho; have n0_ := Aside0.mk (Kd.R_over' (by (with_reducible repeat (first | apply Kd.R_alloc | apply Kd.R_drewN | apply Kd.R_drew)); exact HO_370001.out) (Kd.S_typed (by (with_reducible repeat (first | apply Kd.S_alloc | apply Kd.S_drewN | apply Kd.S_drew)); exact HO_370000.out)) (by decide) hg); have n1_ := Aside0.mk (blk_grown (g := gb368) (o := .cells #[.slice none 0 0, .slice none 0 0] 25 (0, 0)) (by (with_reducible repeat (first | refine blk_drewN ?_ _ | refine blk_drew ?_ | refine blk_alloc ?_ _)); exact BK368.out) hg (Kd.S_ne HO_370000.out BK368.out (by decide))); have n2_ := Aside0.mk (blk_grown (g := gb369) (o := .cells #[u370000, u370001] 25 (0, 0)) (by (with_reducible repeat (first | refine blk_drewN ?_ _ | refine blk_drew ?_ | refine blk_alloc ?_ _)); exact BK369.out) hg (Kd.S_ne HO_370000.out BK369.out (by decide))); have n3_ := Aside0.mk (hb); have n4_ := Aside0.mk (ho); clear HO_370001; clear BK368; clear BK369; clear HB; clear HO_370000; clear HO_7; have HO_370001 := n0_; have BK368 := n1_; have BK369 := n2_; have HB := n3_; have HO397 := n4_; clear n0_ n1_ n2_ n3_ n4_; clear ho hb hg hat; obtain ⟨Ao56, co56, eo56⟩ := Kd.S_slice HO397.out; subst eo56; have hcz57_0 : w54.cell? ⟨gb369, 0, none⟩ = some (u370000) := (blk_cell BK369.out 0).trans rfl; have hcz57_1 : w54.cell? ⟨gb369, 1, none⟩ = some (u370001) := (blk_cell BK369.out 1).trans rfl; have hfz57_0 := blk_frozen BK369.out 0; have hfz57_1 := blk_frozen BK369.out 1) | ((with_reducible refine gate_builtin (b := .append) (xs := #[.tmp 66, .tmp 68]) rfl ?_); at_builtin; refine Kd.R_append (Kd.int .i64) (w0 := w) w.heap.size rfl (.tmp 66) (.tmp 68) 23 3 (.int .i64 0) 8 rfl Try.underlying23 info3 rfl (by decide) (by omega) u370001 x370001_1 (-1) [.int .i64 (-1)] (fun _ => True) (fun _ => False) rfl (by first | (go_simp; done) | (go_simp; rfl)) ?aP (fun _ hk => hk.elim) ?aF ?aO ?aB ?aS ?aL ?_; (case aP => exact rfl); (case aB => exact (by repeat (first | (with_reducible first | exact HB.out | apply below_alloc | apply pw_below_drewN | apply below_drew1 | refine below_set ?_ GE368.out | refine below_set ?_ GE369.out) | exact HB.out))); (case aF => exact (fun _ _ => trivial)); (case aO => exact (by (with_reducible repeat (first | apply Kd.R_alloc | apply Kd.R_drewN | apply Kd.R_drew)); exact Kd.R_mono (Kd.R_far (p := ⟨gb369, 0, none⟩) (Kd.R_types HO_370001.out BK369.out (by decide)) (fun _ hk => hk.2) (.slice Ao56 y395.length co56)) (fun _ hk => trivial))); (case aS => exact (below_size (by repeat (first | (with_reducible first | exact HB.out | apply below_alloc | apply pw_below_drewN | apply below_drew1 | refine below_set ?_ GE368.out | refine below_set ?_ GE369.out) | exact HB.out)))); (case aL => have := LMc51.out; omega); intro v399 w58 ho hb hg hat; rw [← Ny398.out] at ho; have n0_ := Aside0.mk (blk_grown (g := gb368) (o := .cells #[.slice none 0 0, .slice none 0 0] 25 (0, 0)) (by (with_reducible repeat (first | refine blk_drewN ?_ _ | refine blk_drew ?_ | refine blk_alloc ?_ _)); refine blk_far ?_ NB368_369.out _; (with_reducible repeat (first | refine blk_drewN ?_ _ | refine blk_drew ?_ | refine blk_alloc ?_ _)); exact BK368.out) hg (Kd.R_ne HO_370001.out BK368.out (by decide))); have n1_ := Aside0.mk (blk_grown (g := gb369) (o := .cells #[.slice Ao56 y395.length co56, u370001] 25 (0, 0)) (by (with_reducible repeat (first | refine blk_drewN ?_ _ | refine blk_drew ?_ | refine blk_alloc ?_ _)); refine blk_put (cs := #[u370000, u370001]) ?_ 0 _ rfl; (with_reducible repeat (first | refine blk_drewN ?_ _ | refine blk_drew ?_ | refine blk_alloc ?_ _)); exact BK369.out) hg (Kd.R_ne HO_370001.out BK369.out (by decide))); have n2_ := Aside0.mk (Kd.S_after (ok := (fun _ => True)) (by (with_reducible repeat (first | apply Kd.S_alloc | apply Kd.S_drewN | apply Kd.S_drew)); exact Kd.S_mono (Kd.S_far (p := ⟨gb369, 0, none⟩) (Kd.S_types HO397.out BK369.out (by decide)) (fun _ hk => hk.2) (.slice Ao56 y395.length co56)) (fun _ hk => ⟨trivial, hk.1⟩)) hg hat); have n3_ := Aside0.mk (hb); have n4_ := Aside0.mk (ho); clear BK368; clear BK369; clear HO397; clear HB; clear HO_370001; have BK368 := n0_; have BK369 := n1_; have HO397 := n2_; have HB := n3_; have HO400 := n4_; clear n0_ n1_ n2_ n3_ n4_; clear ho hb hg hat; obtain ⟨Ao59, co59, eo59⟩ := Kd.R_slice HO400.out; subst eo59; have hcz60_0 : w58.cell? ⟨gb369, 0, none⟩ = some (.slice Ao56 y395.length co56) := (blk_cell BK369.out 0).trans rfl; have hcz60_1 : w58.cell? ⟨gb369, 1, none⟩ = some (u370001) := (blk_cell BK369.out 1).trans rfl; have hfz60_0 := blk_frozen BK369.out 0; have hfz60_1 := blk_frozen BK369.out 1))
                      go_roundg kj9
                      case measure => have := HK1.out; have := HJ6.out; have := HJ9.out; omega
                      case rel => exact ⟨(wrap64 (x6_1 + 1)), (y395), (y398), (.slice Ao56 y395.length co56), (.slice Ao59 y398.length co59), (by first | rfl | (simp; done) | (simp [*]; done)), H', ⟨by have := HK1.out; have := HJ6.out; have := HJ9.out; omega⟩, ⟨by (with_reducible repeat (first | apply Kd.S_alloc | apply Kd.S_drewN | apply Kd.S_drew)); exact Kd.S_mono (Kd.S_far (p := ⟨gb369, 1, none⟩) (Kd.S_types HO397.out BK369.out (by decide)) (fun _ hk => hk.2) (.slice Ao59 y398.length co59)) (fun _ hk => hk.1.2)⟩, ⟨by (with_reducible repeat (first | apply Kd.R_alloc | apply Kd.R_drewN | apply Kd.R_drew)); exact Kd.R_mono (Kd.R_far (p := ⟨gb369, 1, none⟩) (Kd.R_types HO400.out BK369.out (by decide)) (fun _ hk => hk.2) (.slice Ao59 y398.length co59)) (fun _ hk => trivial)⟩, ⟨by (with_reducible repeat (first | refine blk_drewN ?_ _ | refine blk_drew ?_ | refine blk_alloc ?_ _)); refine blk_far ?_ NB368_369.out _; (with_reducible repeat (first | refine blk_drewN ?_ _ | refine blk_drew ?_ | refine blk_alloc ?_ _)); exact BK368.out⟩, ⟨by (with_reducible repeat (first | refine blk_drewN ?_ _ | refine blk_drew ?_ | refine blk_alloc ?_ _)); refine blk_put (cs := #[.slice Ao56 y395.length co56, u370001]) ?_ 1 _ rfl; (with_reducible repeat (first | refine blk_drewN ?_ _ | refine blk_drew ?_ | refine blk_alloc ?_ _)); exact BK369.out⟩, ⟨by repeat (first | (with_reducible first | exact HB.out | apply below_alloc | apply pw_below_drewN | apply below_drew1 | refine below_set ?_ GE368.out | refine below_set ?_ GE369.out) | exact HB.out)⟩⟩
                    · rw [if_neg c51] at H
                      exact absurd H (by simp)
                  · rw [if_neg c50] at H
                    exact absurd H (by simp)
          · replace c9 := Bool.eq_false_iff.mpr c9
            subst c9
            have H1 : (some (x370000_1, x370001_1)) = some (r1, r2) := by rw [if_neg (show ¬ (false = true) by decide)] at H; exact H
            clear H
            have H := H1
            clear H1
            simp only [Option.some.injEq, Prod.mk.injEq] at H
            obtain ⟨rfl, rfl⟩ := H
            have hnb61 := NB369_368.out
            have hnc61 := NB368_369.out
            have hcz62_0 : wc.cell? ⟨gb369, 0, none⟩ = some (u370000) := (blk_cell BK369.out 0).trans rfl
            have hcz62_1 : wc.cell? ⟨gb369, 1, none⟩ = some (u370001) := (blk_cell BK369.out 1).trans rfl
            have hfz62_0 := blk_frozen BK369.out 0
            have hfz62_1 := blk_frozen BK369.out 1
            obtain ⟨Ao63, co63, eo63⟩ := Kd.S_slice HO_370000.out
            subst eo63
            have hcz64_0 : wc.cell? ⟨gb368, 0, none⟩ = some (.slice none 0 0) := (blk_cell BK368.out 0).trans rfl
            have hcz64_1 : wc.cell? ⟨gb368, 1, none⟩ = some (.slice none 0 0) := (blk_cell BK368.out 1).trans rfl
            have hfz64_0 := blk_frozen BK368.out 0
            have hfz64_1 := blk_frozen BK368.out 1
            obtain ⟨Ao65, co65, eo65⟩ := Kd.R_slice HO_370001.out
            subst eo65
            go_wp2
            refine bodyPost_ret (results_cell_row rfl _ _ gb368 25 #[.slice Ao63 x370000_1.length co63, .slice Ao65 x370001_1.length co65] (0, 0) _ rfl (by (with_reducible repeat (first | refine blk_drewN ?_ _ | refine blk_drew ?_ | refine blk_alloc ?_ _)); refine blk_put (cs := #[.slice Ao63 x370000_1.length co63, .slice none 0 0]) ?_ 1 _ rfl; (with_reducible repeat (first | refine blk_drewN ?_ _ | refine blk_drew ?_ | refine blk_alloc ?_ _)); refine blk_put (cs := #[.slice none 0 0, .slice none 0 0]) ?_ 0 _ rfl; (with_reducible repeat (first | refine blk_drewN ?_ _ | refine blk_drew ?_ | refine blk_alloc ?_ _)); exact BK368.out) Try.underlying25 rfl (by kernel_rfl)) rfl ?_
            exact ⟨_, _, by first | rfl | (simp [errW_none, errW_some] <;> rfl) | (simp [*, errW_none, errW_some] <;> rfl), by (with_reducible repeat (first | apply Kd.S_alloc | apply Kd.S_drewN | apply Kd.S_drew)); exact Kd.S_mono (Kd.S_far (p := ⟨gb368, 1, none⟩) (Kd.S_far (p := ⟨gb368, 0, none⟩) (Kd.S_types HO_370000.out BK368.out (by decide)) (fun _ hk => hk.2) (.slice Ao63 x370000_1.length co63)) (fun _ hk => hk.2) (.slice Ao65 x370001_1.length co65)) (fun _ hk => hk.1), by (with_reducible repeat (first | apply Kd.R_alloc | apply Kd.R_drewN | apply Kd.R_drew)); exact Kd.R_mono (Kd.R_far (p := ⟨gb368, 1, none⟩) (Kd.R_far (p := ⟨gb368, 0, none⟩) (Kd.R_types HO_370001.out BK368.out (by decide)) (fun _ hk => hk.2) (.slice Ao63 x370000_1.length co63)) (fun _ hk => hk.2) (.slice Ao65 x370001_1.length co65)) (fun _ hk => trivial), by repeat (first | (with_reducible first | exact HB.out | apply below_alloc | apply pw_below_drewN | apply below_drew1 | refine below_set ?_ GE368.out | refine below_set ?_ GE369.out) | exact HB.out)⟩

end Go.Proofs.Ytpmfdggbccbfaaa.Pr
