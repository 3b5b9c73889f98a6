-- Printed by a program of this session's own (wip/tools/pp.py) over the kit's print.py; Lean checks it.
import Derived.Test.YtpmfdggbccbfaaaPr0
import Derived.Test.YtpmfdggbccbfaaaPr39
namespace Go.Proofs.Ytpmfdggbccbfaaa.Pr
open Go.RowKit Go.Proofs.YtpmfdggbccbfaaaW.PrintWords Go.Proofs.YtpmfdggbccbfaaaW.PrintLast Go.Proofs.YtpmfdggbccbfaaaW.PrintMore
attribute [local go_sem] max2_int min2_int max_two min_two max_three min_three max_four min_four   -- for this text's walks alone
set_option linter.unusedVariables false
set_option linter.unusedSimpArgs false

/-! ### arboristlaw13_shape: function 27 -/
mutual
def arboristlaw13_shape.l0 : Nat → List Int → List (List Int) → Int → List (List Int) → List Int → Option ((List (List Int)) × List Int)
  | 0, _, _, _, _, _ => none
  | k + 1, x0, x1, x6, x531000, x531001 => if x6 < (x1.length : Int) then (arboristlaw13_shape.j1 k x0 x1 x6 (decide (x6 < 10)) x531000 x531001) else (arboristlaw13_shape.j1 k x0 x1 x6 false x531000 x531001)
def arboristlaw13_shape.j1 : Nat → List Int → List (List Int) → Int → Bool → List (List Int) → List Int → Option ((List (List Int)) × List Int)
  | 0, _, _, _, _, _, _ => none
  | k + 1, x0, x1, x6, x18, x531000, x531001 => if x18 = true then (arboristlaw13_shape.l1 k x0 x1 x6 (([] : List Int)) 0 x531000 x531001) else (some (x531000, x531001))
def arboristlaw13_shape.j3 : Nat → List Int → List (List Int) → Int → List Int → List (List Int) → List Int → Option ((List (List Int)) × List Int)
  | 0, _, _, _, _, _, _ => none
  | k + 1, x0, x1, x6, x7, x531000, x531001 => if x6 > 0 then (if x6 < (x0.length : Int) then (if 0 ≤ x6 then (if x6 = 0 then (none) else (if x531000.length < 5864062014805 then (if x531001.length < 17592186044416 then (arboristlaw13_shape.l0 k x0 x1 (wrap64 (x6 + 1)) (x531000 ++ [x7]) (x531001 ++ [Int.tmod (Go.bits .and .i64 (rd x0 x6) 65535) x6])) else (none)) else (none))) else (none)) else (if x531000.length < 5864062014805 then (if x531001.length < 17592186044416 then (arboristlaw13_shape.l0 k x0 x1 (wrap64 (x6 + 1)) (x531000 ++ [x7]) (x531001 ++ [0])) else (none)) else (none))) else (if x531000.length < 5864062014805 then (if x531001.length < 17592186044416 then (arboristlaw13_shape.l0 k x0 x1 (wrap64 (x6 + 1)) (x531000 ++ [x7]) (x531001 ++ [(-1)])) else (none)) else (none))
def arboristlaw13_shape.l1 : Nat → List Int → List (List Int) → Int → List Int → Int → List (List Int) → List Int → Option ((List (List Int)) × List Int)
  | 0, _, _, _, _, _, _, _ => none
  | k + 1, x0, x1, x6, x7, x8, x531000, x531001 => if 0 ≤ x6 then (if x6 < (x1.length : Int) then (if x8 < ((rd_L1 x1 x6).length : Int) then (if x8 < 6 then (if 0 ≤ x8 then ((arboristref01_Unite.f k x7 (([Go.bits .and .i64 (rd (rd_L1 x1 x6) x8) 15] : List Int))).bind fun t540 => (arboristlaw13_shape.l1 k x0 x1 x6 t540 (wrap64 (x8 + 1)) x531000 x531001)) else (none)) else (arboristlaw13_shape.j3 k x0 x1 x6 x7 x531000 x531001)) else (arboristlaw13_shape.j3 k x0 x1 x6 x7 x531000 x531001)) else (none)) else (none)
end
def arboristlaw13_shape.f (k : Nat) (l0 : List Int) (l1 : List (List Int)) : Option ((List (List Int)) × List Int) := arboristlaw13_shape.l0 k l0 l1 0 ([] : List (List Int)) ([] : List Int)
theorem arboristlaw13_shape.mono_l : ∀ k, (∀ y0 y1 y2 y3 y4, LeO (arboristlaw13_shape.l0 k y0 y1 y2 y3 y4) (arboristlaw13_shape.l0 (k + 1) y0 y1 y2 y3 y4)) ∧ (∀ y0 y1 y2 y3 y4 y5, LeO (arboristlaw13_shape.j1 k y0 y1 y2 y3 y4 y5) (arboristlaw13_shape.j1 (k + 1) y0 y1 y2 y3 y4 y5)) ∧ (∀ y0 y1 y2 y3 y4 y5, LeO (arboristlaw13_shape.j3 k y0 y1 y2 y3 y4 y5) (arboristlaw13_shape.j3 (k + 1) y0 y1 y2 y3 y4 y5)) ∧ (∀ y0 y1 y2 y3 y4 y5 y6, LeO (arboristlaw13_shape.l1 k y0 y1 y2 y3 y4 y5 y6) (arboristlaw13_shape.l1 (k + 1) y0 y1 y2 y3 y4 y5 y6))
  | 0 => ⟨fun _ _ _ _ _ r h => by simp [arboristlaw13_shape.l0] at h, fun _ _ _ _ _ _ r h => by simp [arboristlaw13_shape.j1] at h, fun _ _ _ _ _ _ r h => by simp [arboristlaw13_shape.j3] at h, fun _ _ _ _ _ _ _ r h => by simp [arboristlaw13_shape.l1] at h⟩
  | k + 1 => by
    obtain ⟨ih0, ih1, ih2, ih3⟩ := arboristlaw13_shape.mono_l k
    refine ⟨?_, ?_, ?_, ?_⟩
    all_goals intros
    all_goals (first | unfold arboristlaw13_shape.l0 | unfold arboristlaw13_shape.j1 | unfold arboristlaw13_shape.j3 | unfold arboristlaw13_shape.l1)
    all_goals repeat' first
    | (with_reducible exact ih0 _ _ _ _ _)
    | (with_reducible exact ih1 _ _ _ _ _ _)
    | (with_reducible exact ih2 _ _ _ _ _ _)
    | (with_reducible exact ih3 _ _ _ _ _ _ _)
    | (with_reducible exact arboristref01_Unite.mono _ _ _)
    | (with_reducible exact LeO.refl _)
    | (with_reducible exact LeO.none _)
    | (with_reducible refine LeO.ite ?_ ?_)
    | (with_reducible refine LeO.bind ?_ (fun _ => ?_))
    | exact ih0 _ _ _ _ _
    | exact ih1 _ _ _ _ _ _
    | exact ih2 _ _ _ _ _ _
    | exact ih3 _ _ _ _ _ _ _
    | exact arboristref01_Unite.mono _ _ _
    | exact LeO.none _
    | refine LeO.ite ?_ ?_
    | refine LeO.bind ?_ (fun _ => ?_)
theorem arboristlaw13_shape.mono : ∀ a0 a1 k, LeO (arboristlaw13_shape.f k a0 a1) (arboristlaw13_shape.f (k + 1) a0 a1) := by
  intro a0 a1 k
  obtain ⟨ih0, ih1, ih2, ih3⟩ := arboristlaw13_shape.mono_l k
  unfold arboristlaw13_shape.f
  repeat' first
      | (with_reducible exact ih0 _ _ _ _ _)
      | (with_reducible exact ih1 _ _ _ _ _ _)
      | (with_reducible exact ih2 _ _ _ _ _ _)
      | (with_reducible exact ih3 _ _ _ _ _ _ _)
      | (with_reducible exact arboristref01_Unite.mono _ _ _)
      | (with_reducible exact LeO.refl _)
      | (with_reducible exact LeO.none _)
      | (with_reducible refine LeO.ite ?_ ?_)
      | (with_reducible refine LeO.bind ?_ (fun _ => ?_))
      | exact ih0 _ _ _ _ _
      | exact ih1 _ _ _ _ _ _
      | exact ih2 _ _ _ _ _ _
      | exact ih3 _ _ _ _ _ _ _
      | exact arboristref01_Unite.mono _ _ _
      | exact LeO.none _
      | refine LeO.ite ?_ ?_
      | refine LeO.bind ?_ (fun _ => ?_)
set_option maxHeartbeats 8000000 in
set_option maxRecDepth 100000 in
theorem arboristlaw13_shape.calls (k : Nat) (A0 : Option Addr) (c0 : Nat) (l0 : List Int) (A1 : Option Addr) (c1 : Nat) (l1 : List (List Int)) (r1 : List (List Int)) (r2 : List Int) (w : World) (hr0 : Kd.C (Kd.int .i64) w A0 l0.length l0) (hc0 : l0.length ≤ c0) (hr1 : Kd.C (Kd.slice 3 (Kd.int .i64)) w A1 l1.length l1) (hc1 : l1.length ≤ c1) (h : arboristlaw13_shape.f k l0 l1 = some (r1, r2)) :
    Calls Try.prog 27 #[.slice A0 l0.length c0, .slice A1 l1.length c1] w fun e w' => ∃ v0_ v1_ : Value, e = .returned (.agg #[v0_, v1_]) ∧ Kd.S (Kd.slice 3 (Kd.int .i64)) 23 w' w.heap.size (fun k_ => some k_ ≠ (v1_ : Value).ownBlock) v0_ r1 ∧ Kd.R (Kd.int .i64) 3 w' w.heap.size (fun _ => True) v1_ r2 ∧ Below w.heap.size w w' := by
  have hu25 := Try.underlying25
  have HR0 := Aside0.mk hr0
  have HC0 := Aside0.mk hc0
  clear hr0 hc0
  have HR1 := Aside0.mk hr1
  have HC1 := Aside0.mk hc1
  clear hr1 hc1
  have HB := Aside0.mk (Below.refl w.heap.size w)
  have H : (arboristlaw13_shape.l0 k l0 l1 0 ([] : List (List Int)) ([] : List Int)) = some (r1, r2) := h
  clear h
  have H' := Aside0.mk H
  clear H
  go_enter Try.func27, Try.ntmps27
  go_wp2_with (first | ((with_reducible refine gate_dst (N := 4) rfl ?_); refine box_event ?hg (N := 4) ?hd (cs := #[.slice none 0 0, .slice none 0 0]) (t := 25) ?hr ?_; (case hd => rfl); (case hg => rfl); (case hr => first | (go_simp; done) | (go_simp; rfl)); intro gb529 hg w3 hbox hb; have n0_ := Aside0.mk (below_step (by repeat (first | (with_reducible first | exact HB.out | apply below_alloc | apply pw_below_drewN | apply below_drew1) | exact HB.out)) hb); have n1_ := Aside0.mk (hbox); have n2_ := Aside0.mk ((by rw [hg]; exact (below_size (by repeat (first | (with_reducible first | exact HB.out | apply below_alloc | apply pw_below_drewN | apply below_drew1) | exact HB.out))) : w.heap.size ≤ gb529)); have n3_ := Aside0.mk ((by rw [hg]; exact (below_size (by repeat (first | (with_reducible first | exact HB.out | apply below_alloc | apply pw_below_drewN | apply below_drew1) | exact HB.out))) : w.heap.size ≤ gb529)); clear HB; have HB := n0_; have BK529 := n1_; have GW529 := n2_; have GE529 := n3_; clear n0_ n1_ n2_ n3_; clear hb hbox hg) | ((with_reducible refine gate_dst (N := 5) rfl ?_); refine box_event ?hg (N := 5) ?hd (cs := #[.slice none 0 0, .slice none 0 0]) (t := 25) ?hr ?_; (case hd => rfl); (case hg => rfl); (case hr => first | (go_simp; done) | (go_simp; rfl)); intro gb530 hg w4 hbox hb; have n0_ := Aside0.mk (blk_below (g := gb529) (o := .cells #[.slice none 0 0, .slice none 0 0] 25 (0, 0)) (by (with_reducible repeat (first | refine blk_drewN ?_ _ | refine blk_drew ?_ | refine blk_alloc ?_ _)); exact BK529.out) hb); have n1_ := Aside0.mk (below_step (by repeat (first | (with_reducible first | exact HB.out | apply below_alloc | apply pw_below_drewN | apply below_drew1 | refine below_set ?_ GE529.out) | exact HB.out)) hb); have n2_ := Aside0.mk (hbox); have n3_ := Aside0.mk ((by rw [hg]; exact (below_size (by repeat (first | (with_reducible first | exact HB.out | apply below_alloc | apply pw_below_drewN | apply below_drew1 | refine below_set ?_ GE529.out) | exact HB.out))) : w.heap.size ≤ gb530)); have n4_ := Aside0.mk ((by rw [hg]; exact (below_size (by repeat (first | (with_reducible first | exact HB.out | apply below_alloc | apply pw_below_drewN | apply below_drew1 | refine below_set ?_ GE529.out) | exact HB.out))) : w.heap.size ≤ gb530)); have n5_ := Aside0.mk ((by rw [hg]; exact Nat.ne_of_lt (blk_lt (g := gb529) (o := .cells #[.slice none 0 0, .slice none 0 0] 25 (0, 0)) (by (with_reducible repeat (first | refine blk_drewN ?_ _ | refine blk_drew ?_ | refine blk_alloc ?_ _)); exact BK529.out)) : gb529 ≠ gb530)); have n6_ := Aside0.mk ((by rw [hg]; exact Nat.ne_of_gt (blk_lt (g := gb529) (o := .cells #[.slice none 0 0, .slice none 0 0] 25 (0, 0)) (by (with_reducible repeat (first | refine blk_drewN ?_ _ | refine blk_drew ?_ | refine blk_alloc ?_ _)); exact BK529.out)) : gb530 ≠ gb529)); clear BK529; clear HB; have BK529 := n0_; have HB := n1_; have BK530 := n2_; have GW530 := n3_; have GE530 := n4_; have NB529_530 := n5_; have NB530_529 := n6_; clear n0_ n1_ n2_ n3_ n4_ n5_ n6_; clear hb hbox hg; have hnb5 := NB530_529.out; have hnc5 := NB529_530.out; have hcz6_0 : w4.cell? ⟨gb530, 0, none⟩ = some (.slice none 0 0) := (blk_cell BK530.out 0).trans rfl; have hcz6_1 : w4.cell? ⟨gb530, 1, none⟩ = some (.slice none 0 0) := (blk_cell BK530.out 1).trans rfl; have hfz6_0 := blk_frozen BK530.out 0; have hfz6_1 := blk_frozen BK530.out 1))
  go_loopg [6] k (fun kq v6 w' => ∃ (x6_1 : Int) (x531000_1 : List (List Int)) (x531001_1 : List Int) (u531000 : Value) (u531001 : Value), v6 = .int .i64 x6_1 ∧ Aside0 (arboristlaw13_shape.l0 kq l0 l1 x6_1 x531000_1 x531001_1 = some (r1, r2)) ∧ Aside0 (kq ≤ k) ∧ Aside0 (Kd.S (Kd.slice 3 (Kd.int .i64)) 23 w' w.heap.size (fun k_ => some k_ ≠ (u531001 : Value).ownBlock) u531000 x531000_1) ∧ Aside0 (Kd.R (Kd.int .i64) 3 w' w.heap.size (fun _ => True) u531001 x531001_1) ∧ Aside0 (w'.heap[gb529]? = some (.cells #[(.slice none 0 0), (.slice none 0 0)] 25 (0, 0))) ∧ Aside0 (w'.heap[gb530]? = some (.cells #[u531000, u531001] 25 (0, 0))) ∧ Aside0 (Below w.heap.size w w'))
  case atStart => exact ⟨(0), (([] : List (List Int))), (([] : List Int)), (.slice none 0 0), (.slice none 0 0), (by first | rfl | (simp; done) | (simp [*]; done)), H', ⟨Nat.le_refl _⟩, ⟨by first | exact Kd.S_nil _ _ _ _ _ | exact Kd.N_nil _ _ _ _ _ | exact Kd.V_nil _ _ _ _ _ | exact Kd.Q_nil _ _ _ _ _ | exact Kd.R_nil _ _ _ _ _⟩, ⟨by first | exact Kd.R_nil _ _ _ _ _ | exact Kd.N_nil _ _ _ _ _ | exact Kd.V_nil _ _ _ _ _ | exact Kd.Q_nil _ _ _ _ _ | exact Kd.S_nil _ _ _ _ _⟩, ⟨by (with_reducible repeat (first | refine blk_drewN ?_ _ | refine blk_drew ?_ | refine blk_alloc ?_ _)); refine blk_far ?_ NB529_530.out _; (with_reducible repeat (first | refine blk_drewN ?_ _ | refine blk_drew ?_ | refine blk_alloc ?_ _)); refine blk_far ?_ NB529_530.out _; (with_reducible repeat (first | refine blk_drewN ?_ _ | refine blk_drew ?_ | refine blk_alloc ?_ _)); exact BK529.out⟩, ⟨by (with_reducible repeat (first | refine blk_drewN ?_ _ | refine blk_drew ?_ | refine blk_alloc ?_ _)); refine blk_put (cs := #[.slice none 0 0, .slice none 0 0]) ?_ 1 _ rfl; (with_reducible repeat (first | refine blk_drewN ?_ _ | refine blk_drew ?_ | refine blk_alloc ?_ _)); refine blk_put (cs := #[.slice none 0 0, .slice none 0 0]) ?_ 0 _ rfl; (with_reducible repeat (first | refine blk_drewN ?_ _ | refine blk_drew ?_ | refine blk_alloc ?_ _)); exact BK530.out⟩, ⟨by repeat (first | (with_reducible first | exact HB.out | apply below_alloc | apply pw_below_drewN | apply below_drew1 | refine below_set ?_ GE529.out | refine below_set ?_ GE530.out) | exact HB.out)⟩⟩
  case round =>
    clear H'
    try clear c1
    try clear c2
    try clear p2
    try clear c5
    try clear hcz6_0
    try clear hcz6_1
    try clear hfz6_0
    try clear hfz6_1
    obtain ⟨x6_1, x531000_1, x531001_1, u531000, u531001, rfl, HA, HK1, HO_531000, HO_531001, BK529, BK530, HB⟩ := hrel
    cases gk with
    | zero => exact absurd HA.out (by simp [arboristlaw13_shape.l0])
    | succ k1 =>
      have H := HA.out
      clear HA
      simp only [arboristlaw13_shape.l0] at H
      have HC7 := Aside0.mk H
      clear H
      go_upto_region 3 with (fail)
      go_cut [18] (fun v18 wc => ∃ (kq : Nat) (x18_6 : Bool), v18 = .bool x18_6 ∧ Aside0 (arboristlaw13_shape.j1 kq l0 l1 x6_1 x18_6 x531000_1 x531001_1 = some (r1, r2)) ∧ Aside0 (kq ≤ k1) ∧ Aside0 (Kd.S (Kd.slice 3 (Kd.int .i64)) 23 wc w.heap.size (fun k_ => some k_ ≠ (u531001 : Value).ownBlock) u531000 x531000_1) ∧ Aside0 (Kd.R (Kd.int .i64) 3 wc w.heap.size (fun _ => True) u531001 x531001_1) ∧ Aside0 (wc.heap[gb529]? = some (.cells #[(.slice none 0 0), (.slice none 0 0)] 25 (0, 0))) ∧ Aside0 (wc.heap[gb530]? = some (.cells #[u531000, u531001] 25 (0, 0))) ∧ Aside0 (Below w.heap.size w wc))
      case first =>
        have H := HC7.out
        clear HC7
        by_cases c8 : x6_1 < (l1.length : Int)
        · rw [if_pos c8] at H
          have c8b0 : decide (x6_1 < (l1.length : Int)) = true := decide_eq_true c8
          clear c8
          (first | rw [c8b0] | (simp only [i64_w, i32_w]; rw [c8b0]) | skip)
          have H' := Aside0.mk H
          clear H
          go_wp2
          go_meet
          case rel => exact ⟨_, (decide (x6_1 < 10)), (by first | rfl | (simp; done) | (simp [*]; done)), H', ⟨by have := HK1.out; first | omega | exact Nat.le_refl _⟩, ⟨by (with_reducible repeat (first | apply Kd.S_alloc | apply Kd.S_drewN | apply Kd.S_drew)); exact HO_531000.out⟩, ⟨by (with_reducible repeat (first | apply Kd.R_alloc | apply Kd.R_drewN | apply Kd.R_drew)); exact HO_531001.out⟩, ⟨by (with_reducible repeat (first | refine blk_drewN ?_ _ | refine blk_drew ?_ | refine blk_alloc ?_ _)); exact BK529.out⟩, ⟨by (with_reducible repeat (first | refine blk_drewN ?_ _ | refine blk_drew ?_ | refine blk_alloc ?_ _)); exact BK530.out⟩, ⟨by repeat (first | (with_reducible first | exact HB.out | apply below_alloc | apply pw_below_drewN | apply below_drew1 | refine below_set ?_ GE529.out | refine below_set ?_ GE530.out) | exact HB.out)⟩⟩
        · rw [if_neg c8] at H
          have c8b0 : decide (x6_1 < (l1.length : Int)) = false := decide_eq_false c8
          clear c8
          (first | rw [c8b0] | (simp only [i64_w, i32_w]; rw [c8b0]) | skip)
          have H' := Aside0.mk H
          clear H
          go_wp2
          go_meet
          case rel => exact ⟨_, (false), (by first | rfl | (simp; done) | (simp [*]; done)), H', ⟨by have := HK1.out; first | omega | exact Nat.le_refl _⟩, ⟨by (with_reducible repeat (first | apply Kd.S_alloc | apply Kd.S_drewN | apply Kd.S_drew)); exact HO_531000.out⟩, ⟨by (with_reducible repeat (first | apply Kd.R_alloc | apply Kd.R_drewN | apply Kd.R_drew)); exact HO_531001.out⟩, ⟨by (with_reducible repeat (first | refine blk_drewN ?_ _ | refine blk_drew ?_ | refine blk_alloc ?_ _)); exact BK529.out⟩, ⟨by (with_reducible repeat (first | refine blk_drewN ?_ _ | refine blk_drew ?_ | refine blk_alloc ?_ _)); exact BK530.out⟩, ⟨by repeat (first | (with_reducible first | exact HB.out | apply below_alloc | apply pw_below_drewN | apply below_drew1 | refine below_set ?_ GE529.out | refine below_set ?_ GE530.out) | exact HB.out)⟩⟩
      case rest =>
        clear HC7
        try clear c1
        try clear c2
        try clear p2
        try clear c5
        try clear c8
        try clear c8b0
        try clear hcz6_0
        try clear hcz6_1
        try clear hfz6_0
        try clear hfz6_1
        try clear p2
        obtain ⟨kq, x18_6, rfl, HA, HJ6, HO_531000, HO_531001, BK529, BK530, HB⟩ := hcut
        cases kq with
        | zero => exact absurd HA.out (by simp [arboristlaw13_shape.j1])
        | succ kj6 =>
          have H := HA.out
          clear HA
          simp only [arboristlaw13_shape.j1] at H
          by_cases c9 : x18_6 = true
          · subst c9
            have H1 : (arboristlaw13_shape.l1 kj6 l0 l1 x6_1 (([] : List Int)) 0 x531000_1 x531001_1) = some (r1, r2) := by rw [if_pos rfl] at H; exact H
            clear H
            have H := H1
            clear H1
            obtain ⟨y531, hy531⟩ : ∃ y_ : List Int, y_ = (([] : List Int)) := ⟨_, rfl⟩
            replace H : (arboristlaw13_shape.l1 kj6 l0 l1 x6_1 y531 0 x531000_1 x531001_1) = some (r1, r2) := by first | (rw [hy531]; with_reducible exact H) | (have H2_ := (Option.bind_some _ _).symm.trans H; rw [hy531]; with_reducible exact H2_) | (have H2_ := (Option.bind_some _ _).symm.trans H; with_reducible exact H2_) | with_reducible exact H | (rw [hy531]; exact H) | exact H
            have Ny531 := Aside0.mk hy531
            clear hy531
            have HC10 := Aside0.mk H
            clear H
            go_upto_block 2 with (first | ((with_reducible refine gate_dst (N := 21) rfl ?_); refine Kd.R_lit (Kd.int .i64) _ 3 ?hg (N := 21) ?hd (xs := ([] : List Int)) (inner := []) (ok := fun _ => True) (okp := fun _ => True) ?hr ?hp (fun _ hk => hk) trivial (Below.refl _ _) (Nat.le_refl _) (by simp) ?_; (case hd => rfl); (case hg => rfl); (case hr => first | (go_simp; done) | (go_simp; rfl)); (case hp => exact (Reps.none _ _)); intro v532 w11 ho12 hb hg_ hnew_; clear hg_ hnew_; (first | rw [← Ny531.out] at ho12 | (simp only [Int.reduceToNat] at ho12; rw [← Ny531.out] at ho12)); have n0_ := Aside0.mk (Kd.S_elder' (by (with_reducible repeat (first | apply Kd.S_alloc | apply Kd.S_drewN | apply Kd.S_drew)); exact HO_531000.out) (Kd.R_base ho12) hb); have n1_ := Aside0.mk (Kd.R_elder' (by (with_reducible repeat (first | apply Kd.R_alloc | apply Kd.R_drewN | apply Kd.R_drew)); exact HO_531001.out) (Kd.R_base ho12) hb); have n2_ := Aside0.mk (Kd.R_lower (Kd.R_new' ho12 (Kd.R_lt (by (with_reducible repeat (first | apply Kd.R_alloc | apply Kd.R_drewN | apply Kd.R_drew)); exact HO_531001.out))) (below_size (by repeat (first | (with_reducible first | exact HB.out | apply below_alloc | apply pw_below_drewN | apply below_drew1 | refine below_set ?_ GE529.out | refine below_set ?_ GE530.out) | exact HB.out)))); have n3_ := Aside0.mk (blk_below (g := gb529) (o := .cells #[.slice none 0 0, .slice none 0 0] 25 (0, 0)) (by (with_reducible repeat (first | refine blk_drewN ?_ _ | refine blk_drew ?_ | refine blk_alloc ?_ _)); exact BK529.out) hb); have n4_ := Aside0.mk (blk_below (g := gb530) (o := .cells #[u531000, u531001] 25 (0, 0)) (by (with_reducible repeat (first | refine blk_drewN ?_ _ | refine blk_drew ?_ | refine blk_alloc ?_ _)); exact BK530.out) hb); have n5_ := Aside0.mk (below_step (by repeat (first | (with_reducible first | exact HB.out | apply below_alloc | apply pw_below_drewN | apply below_drew1 | refine below_set ?_ GE529.out | refine below_set ?_ GE530.out) | exact HB.out)) hb); clear HO_531000; clear HO_531001; clear BK529; clear BK530; clear HB; have HO_531000 := n0_; have HO_531001 := n1_; have HO533 := n2_; have BK529 := n3_; have BK530 := n4_; have HB := n5_; clear n0_ n1_ n2_ n3_ n4_ n5_; clear hb ho12))
            (try simp only [Act.put, List.setIfInBounds_toArray, List.set_cons_zero, List.set_cons_succ])
            go_cut [7] (fun v7 wc => ∃ (kq : Nat) (x7_9 : List Int), Aside0 (arboristlaw13_shape.j3 kq l0 l1 x6_1 x7_9 x531000_1 x531001_1 = some (r1, r2)) ∧ Aside0 (kq ≤ kj6) ∧ Aside0 (Kd.R (Kd.int .i64) 3 wc w.heap.size (fun k_ => some k_ ≠ (u531001 : Value).ownBlock) v7 x7_9) ∧ Aside0 (Kd.S (Kd.slice 3 (Kd.int .i64)) 23 wc w.heap.size (fun k_ => some k_ ≠ (v7 : Value).ownBlock ∧ some k_ ≠ (u531001 : Value).ownBlock) u531000 x531000_1) ∧ Aside0 (Kd.R (Kd.int .i64) 3 wc w.heap.size (fun k_ => some k_ ≠ (v7 : Value).ownBlock) u531001 x531001_1) ∧ Aside0 (wc.heap[gb529]? = some (.cells #[(.slice none 0 0), (.slice none 0 0)] 25 (0, 0))) ∧ Aside0 (wc.heap[gb530]? = some (.cells #[u531000, u531001] 25 (0, 0))) ∧ Aside0 (Below w.heap.size w wc))
            case first =>
              have H := HC10.out
              clear HC10
              have H' := Aside0.mk H
              clear H
              go_wp2
              go_loopg [7, 8] kj6 (fun kq v7 v8 w' => ∃ (x7_3 : List Int) (x8_3 : Int), v8 = .int .i64 x8_3 ∧ Aside0 (arboristlaw13_shape.l1 kq l0 l1 x6_1 x7_3 x8_3 x531000_1 x531001_1 = some (r1, r2)) ∧ Aside0 (kq ≤ kj6) ∧ Aside0 (Kd.R (Kd.int .i64) 3 w' w.heap.size (fun k_ => some k_ ≠ (u531001 : Value).ownBlock) v7 x7_3) ∧ Aside0 (Kd.S (Kd.slice 3 (Kd.int .i64)) 23 w' w.heap.size (fun k_ => some k_ ≠ (v7 : Value).ownBlock ∧ some k_ ≠ (u531001 : Value).ownBlock) u531000 x531000_1) ∧ Aside0 (Kd.R (Kd.int .i64) 3 w' w.heap.size (fun k_ => some k_ ≠ (v7 : Value).ownBlock) u531001 x531001_1) ∧ Aside0 (w'.heap[gb529]? = some (.cells #[(.slice none 0 0), (.slice none 0 0)] 25 (0, 0))) ∧ Aside0 (w'.heap[gb530]? = some (.cells #[u531000, u531001] 25 (0, 0))) ∧ Aside0 (Below w.heap.size w w'))
              case atStart => exact ⟨(y531), (0), (by first | rfl | (simp; done) | (simp [*]; done)), H', ⟨Nat.le_refl _⟩, ⟨by (with_reducible repeat (first | apply Kd.R_alloc | apply Kd.R_drewN | apply Kd.R_drew)); exact Kd.R_mono HO533.out (fun _ hk => hk.2)⟩, ⟨by (with_reducible repeat (first | apply Kd.S_alloc | apply Kd.S_drewN | apply Kd.S_drew)); exact Kd.S_mono HO_531000.out (fun _ hk => ⟨hk.2, hk.1⟩)⟩, ⟨by (with_reducible repeat (first | apply Kd.R_alloc | apply Kd.R_drewN | apply Kd.R_drew)); exact Kd.R_mono HO_531001.out (fun _ hk => hk.2)⟩, ⟨by (with_reducible repeat (first | refine blk_drewN ?_ _ | refine blk_drew ?_ | refine blk_alloc ?_ _)); exact BK529.out⟩, ⟨by (with_reducible repeat (first | refine blk_drewN ?_ _ | refine blk_drew ?_ | refine blk_alloc ?_ _)); exact BK530.out⟩, ⟨by repeat (first | (with_reducible first | exact HB.out | apply below_alloc | apply pw_below_drewN | apply below_drew1 | refine below_set ?_ GE529.out | refine below_set ?_ GE530.out) | exact HB.out)⟩⟩
              case round =>
                clear H'
                try clear c1
                try clear c2
                try clear p2
                try clear c5
                try clear c8
                try clear c8b0
                try clear c9
                try clear hcz6_0
                try clear hcz6_1
                try clear hfz6_0
                try clear hfz6_1
                try clear p2
                obtain ⟨x7_3, x8_3, rfl, HA, HK3, HO_7, HO_531000, HO_531001, BK529, BK530, HB⟩ := hrel
                cases gk with
                | zero => exact absurd HA.out (by simp [arboristlaw13_shape.l1])
                | succ k3 =>
                  have H := HA.out
                  clear HA
                  simp only [arboristlaw13_shape.l1] at H
                  by_cases c13 : 0 ≤ x6_1
                  · rw [if_pos c13] at H
                    have c13b0 : decide (0 ≤ x6_1) = true := decide_eq_true c13
                    clear c13
                    (first | rw [c13b0] | (simp only [i64_w, i32_w]; rw [c13b0]) | skip)
                    by_cases c14 : x6_1 < (l1.length : Int)
                    · rw [if_pos c14] at H
                      have c14b0 : decide (x6_1 < (l1.length : Int)) = true := decide_eq_true c14
                      clear c14
                      by_cases c15 : x8_3 < ((rd_L1 l1 x6_1).length : Int)
                      · rw [if_pos c15] at H
                        have c15b0 : decide (x8_3 < ((rd_L1 l1 x6_1).length : Int)) = true := decide_eq_true c15
                        clear c15
                        by_cases c16 : x8_3 < 6
                        · rw [if_pos c16] at H
                          have c16b0 : decide (x8_3 < 6) = true := decide_eq_true c16
                          clear c16
                          by_cases c17 : 0 ≤ x8_3
                          · rw [if_pos c17] at H
                            have c17b0 : decide (0 ≤ x8_3) = true := decide_eq_true c17
                            clear c17
                            obtain ⟨y537, hy537⟩ : ∃ y_ : List Int, y_ = (([Go.bits .and .i64 (rd (rd_L1 l1 x6_1) x8_3) 15] : List Int)) := ⟨_, rfl⟩
                            replace H : ((arboristref01_Unite.f k3 x7_3 y537).bind fun t540 => (arboristlaw13_shape.l1 k3 l0 l1 x6_1 t540 (wrap64 (x8_3 + 1)) x531000_1 x531001_1)) = some (r1, r2) := by first | (rw [hy537]; with_reducible exact H) | (have H2_ := (Option.bind_some _ _).symm.trans H; rw [hy537]; with_reducible exact H2_) | (have H2_ := (Option.bind_some _ _).symm.trans H; with_reducible exact H2_) | with_reducible exact H | (rw [hy537]; exact H) | exact H
                            have Ny537 := Aside0.mk hy537
                            clear hy537
                            replace H := Option.bind_eq_some_iff.mp H
                            obtain ⟨t540, A180, H⟩ := H
                            replace H : (arboristlaw13_shape.l1 k3 l0 l1 x6_1 t540 (wrap64 (x8_3 + 1)) x531000_1 x531001_1) = some (r1, r2) := H
                            have A18 := Aside0.mk A180
                            clear A180
                            have H' := Aside0.mk H
                            clear H
                            have p534 : 0 ≤ (x6_1 : Int) := of_decide_eq_true (by first | (with_reducible assumption) | assumption)
                            have q534 : x6_1 < (l1.length : Int) := of_decide_eq_true (by first | (with_reducible assumption) | assumption)
                            obtain ⟨ad534, A534_0, c534_0, e534, hx534_0, hl534_0, hi534_0⟩ := at_L1 HR1.out x6_1 p534 q534
                            cases e534
                            replace hx534_0 := (HB.out.cell (World.block_lt_of_cell? w _ hx534_0)).trans hx534_0
                            have HR534_0 := Aside0.mk hi534_0
                            have HC534_0 := Aside0.mk hl534_0
                            clear hi534_0 hl534_0
                            replace p534 := eq_true p534
                            replace q534 := eq_true q534
                            have p535 : 0 ≤ (x6_1 : Int) := of_decide_eq_true (by first | (with_reducible assumption) | assumption)
                            have q535 : x6_1 < (l1.length : Int) := of_decide_eq_true (by first | (with_reducible assumption) | assumption)
                            obtain ⟨ad535, A535_0, c535_0, e535, hx535_0, hl535_0, hi535_0⟩ := at_L1 HR1.out x6_1 p535 q535
                            obtain rfl : ad534 = ad535 := (by injection e535)
                            replace hx535_0 := (HB.out.cell (World.block_lt_of_cell? w _ hx535_0)).trans hx535_0
                            have HR535_0 := Aside0.mk hi535_0
                            have HC535_0 := Aside0.mk hl535_0
                            clear hi535_0 hl535_0
                            replace p535 := eq_true p535
                            replace q535 := eq_true q535
                            have ea_ := Option.some.inj (hx534_0.symm.trans hx535_0)
                            injection ea_ with ea_ en_ ec_
                            subst ea_
                            subst ec_
                            clear en_
                            have p536 : 0 ≤ (x8_3 : Int) := of_decide_eq_true (by first | (with_reducible assumption) | assumption)
                            have q536 : x8_3 < ((rd_L1 l1 x6_1).length : Int) := of_decide_eq_true (by first | (with_reducible assumption) | assumption)
                            obtain ⟨ad536, e536, hx536_0⟩ := Kd.at_int HR535_0.out x8_3 p536 q536
                            cases e536
                            replace hx536_0 := (HB.out.cell (World.block_lt_of_cell? w _ hx536_0)).trans hx536_0
                            replace p536 := eq_true p536
                            replace q536 := eq_true q536
                            go_wp2_with (first | ((with_reducible refine gate_dst (N := 44) rfl ?_); refine Kd.R_lit (Kd.int .i64) _ 3 ?hg (N := 44) ?hd (xs := ([Go.bits .and .i64 (rd (rd_L1 l1 x6_1) x8_3) 15] : List Int)) (inner := [.int .i64 (Go.bits .and .i64 (rd (rd_L1 l1 x6_1) x8_3) 15)]) (ok := fun _ => True) (okp := fun _ => True) ?hr ?hp (fun _ hk => hk) trivial (Below.refl _ _) (Nat.le_refl _) (by simp) ?_; (case hd => rfl); (case hg => rfl); (case hr => first | (go_simp; done) | (go_simp; rfl)); (case hp => exact (Reps.one (show Kd.M (Kd.int .i64) _ _ _ (Go.bits .and .i64 (rd (rd_L1 l1 x6_1) x8_3) 15) [.int .i64 (Go.bits .and .i64 (rd (rd_L1 l1 x6_1) x8_3) 15)] from rfl) (Reps.none _ _))); intro v538 w19 ho20 hb hg_ hnew_; clear hg_ hnew_; (first | rw [← Ny537.out] at ho20 | (simp only [Int.reduceToNat] at ho20; rw [← Ny537.out] at ho20)); have n0_ := Aside0.mk (Kd.R_elder' (by (with_reducible repeat (first | apply Kd.R_alloc | apply Kd.R_drewN | apply Kd.R_drew)); exact HO_7.out) (Kd.R_base ho20) hb); have n1_ := Aside0.mk (Kd.S_elder' (by (with_reducible repeat (first | apply Kd.S_alloc | apply Kd.S_drewN | apply Kd.S_drew)); exact HO_531000.out) (Kd.R_base ho20) hb); have n2_ := Aside0.mk (Kd.R_elder' (by (with_reducible repeat (first | apply Kd.R_alloc | apply Kd.R_drewN | apply Kd.R_drew)); exact HO_531001.out) (Kd.R_base ho20) hb); have n3_ := Aside0.mk (Kd.R_lower (Kd.R_new' (Kd.R_new' ho20 (Kd.R_lt (by (with_reducible repeat (first | apply Kd.R_alloc | apply Kd.R_drewN | apply Kd.R_drew)); exact HO_7.out))) (Kd.R_lt (by (with_reducible repeat (first | apply Kd.R_alloc | apply Kd.R_drewN | apply Kd.R_drew)); exact HO_531001.out))) (below_size (by repeat (first | (with_reducible first | exact HB.out | apply below_alloc | apply pw_below_drewN | apply below_drew1 | refine below_set ?_ GE529.out | refine below_set ?_ GE530.out) | exact HB.out)))); have n4_ := Aside0.mk (blk_below (g := gb529) (o := .cells #[.slice none 0 0, .slice none 0 0] 25 (0, 0)) (by (with_reducible repeat (first | refine blk_drewN ?_ _ | refine blk_drew ?_ | refine blk_alloc ?_ _)); exact BK529.out) hb); have n5_ := Aside0.mk (blk_below (g := gb530) (o := .cells #[u531000, u531001] 25 (0, 0)) (by (with_reducible repeat (first | refine blk_drewN ?_ _ | refine blk_drew ?_ | refine blk_alloc ?_ _)); exact BK530.out) hb); have n6_ := Aside0.mk (below_step (by repeat (first | (with_reducible first | exact HB.out | apply below_alloc | apply pw_below_drewN | apply below_drew1 | refine below_set ?_ GE529.out | refine below_set ?_ GE530.out) | exact HB.out)) hb); clear HO_7; clear HO_531000; clear HO_531001; clear BK529; clear BK530; clear HB; have HO_7 := n0_; have HO_531000 := n1_; have HO_531001 := n2_; have HO539 := n3_; have BK529 := n4_; have BK530 := n5_; have HB := n6_; clear n0_ n1_ n2_ n3_ n4_ n5_ n6_; clear hb ho20; obtain ⟨Ao21, co21, eo21⟩ := Kd.R_slice HO_7.out; subst eo21; obtain ⟨Ao22, co22, eo22⟩ := Kd.R_slice HO539.out; subst eo22) | ((with_reducible refine gate_callee (f := 51) rfl ?_); refine goesL_ (some 45) rfl rfl Try.func51 (by kernel_rfl) rfl #[.slice Ao21 x7_3.length co21, .slice Ao22 y537.length co22] rfl (by (try simp only [List.map_toArray, List.map_cons, List.map_nil]); first | done | rfl | (simp only [List.length_drop, List.length_take]; rfl)) ?_; (with_reducible refine (arboristref01_Unite.calls k3 _ _ x7_3 _ _ y537 t540 _ ?side1 ?side2 ?side3 ?side4 A18.out).mono ?_); (case side1 => repeat (first | exact (Kd.R_reads' HO_7.out).2.2 | (with_reducible refine Kd.C_alloc ?_ _) | (with_reducible refine Kd.C_drewN ?_ _) | (with_reducible refine Kd.C_drew ?_))); (case side2 => exact (Kd.R_reads' HO_7.out).2.1); (case side3 => repeat (first | exact (Kd.R_reads' HO539.out).2.2 | (with_reducible refine Kd.C_alloc ?_ _) | (with_reducible refine Kd.C_drewN ?_ _) | (with_reducible refine Kd.C_drew ?_))); (case side4 => exact (Kd.R_reads' HO539.out).2.1); rintro e w23 ⟨v541, rfl, ho0, hb⟩; refine ⟨_, rfl, ?_⟩; have n0_ := Aside0.mk (Kd.R_elder' (by (with_reducible repeat (first | apply Kd.R_alloc | apply Kd.R_drewN | apply Kd.R_drew)); exact HO_7.out) (Kd.R_base ho0) hb); have n1_ := Aside0.mk (Kd.S_elder' (by (with_reducible repeat (first | apply Kd.S_alloc | apply Kd.S_drewN | apply Kd.S_drew)); exact HO_531000.out) (Kd.R_base ho0) hb); have n2_ := Aside0.mk (Kd.R_elder' (by (with_reducible repeat (first | apply Kd.R_alloc | apply Kd.R_drewN | apply Kd.R_drew)); exact HO_531001.out) (Kd.R_base ho0) hb); have n3_ := Aside0.mk (Kd.R_elder' (by (with_reducible repeat (first | apply Kd.R_alloc | apply Kd.R_drewN | apply Kd.R_drew)); exact HO539.out) (Kd.R_base ho0) hb); have n4_ := Aside0.mk (Kd.R_lower (Kd.R_new' (Kd.R_new' (Kd.R_new' ho0 (Kd.R_lt (by (with_reducible repeat (first | apply Kd.R_alloc | apply Kd.R_drewN | apply Kd.R_drew)); exact HO_7.out))) (Kd.R_lt (by (with_reducible repeat (first | apply Kd.R_alloc | apply Kd.R_drewN | apply Kd.R_drew)); exact HO_531001.out))) (Kd.R_lt (by (with_reducible repeat (first | apply Kd.R_alloc | apply Kd.R_drewN | apply Kd.R_drew)); exact HO539.out))) (below_size (by repeat (first | (with_reducible first | exact HB.out | apply below_alloc | apply pw_below_drewN | apply below_drew1 | refine below_set ?_ GE529.out | refine below_set ?_ GE530.out) | exact HB.out)))); have n5_ := Aside0.mk (blk_below (g := gb529) (o := .cells #[.slice none 0 0, .slice none 0 0] 25 (0, 0)) (by (with_reducible repeat (first | refine blk_drewN ?_ _ | refine blk_drew ?_ | refine blk_alloc ?_ _)); exact BK529.out) hb); have n6_ := Aside0.mk (blk_below (g := gb530) (o := .cells #[u531000, u531001] 25 (0, 0)) (by (with_reducible repeat (first | refine blk_drewN ?_ _ | refine blk_drew ?_ | refine blk_alloc ?_ _)); exact BK530.out) hb); have n7_ := Aside0.mk (below_step (by repeat (first | (with_reducible first | exact HB.out | apply below_alloc | apply pw_below_drewN | apply below_drew1 | refine below_set ?_ GE529.out | refine below_set ?_ GE530.out) | exact HB.out)) hb); clear HO_7; clear HO_531000; clear HO_531001; clear HO539; clear BK529; clear BK530; clear HB; have HO_7 := n0_; have HO_531000 := n1_; have HO_531001 := n2_; have HO539 := n3_; have HO542 := n4_; have BK529 := n5_; have BK530 := n6_; have HB := n7_; clear n0_ n1_ n2_ n3_ n4_ n5_ n6_ n7_; (try clear hb); (try clear hb2); (try clear hk); (try clear hi); (try clear ho0)))
                            go_roundg k3
                            case measure => have := HK1.out; have := HJ6.out; have := HK3.out; omega
                            case rel => exact ⟨(t540), (wrap64 (x8_3 + 1)), (by first | rfl | (simp; done) | (simp [*]; done)), H', ⟨by have := HK1.out; have := HJ6.out; have := HK3.out; omega⟩, ⟨by (with_reducible repeat (first | apply Kd.R_alloc | apply Kd.R_drewN | apply Kd.R_drew)); exact Kd.R_mono HO542.out (fun _ hk => hk.1.2)⟩, ⟨by (with_reducible repeat (first | apply Kd.S_alloc | apply Kd.S_drewN | apply Kd.S_drew)); exact Kd.S_mono HO_531000.out (fun _ hk => ⟨hk.2, hk.1.1.2⟩)⟩, ⟨by (with_reducible repeat (first | apply Kd.R_alloc | apply Kd.R_drewN | apply Kd.R_drew)); exact Kd.R_mono HO_531001.out (fun _ hk => hk.2)⟩, ⟨by (with_reducible repeat (first | refine blk_drewN ?_ _ | refine blk_drew ?_ | refine blk_alloc ?_ _)); exact BK529.out⟩, ⟨by (with_reducible repeat (first | refine blk_drewN ?_ _ | refine blk_drew ?_ | refine blk_alloc ?_ _)); exact BK530.out⟩, ⟨by repeat (first | (with_reducible first | exact HB.out | apply below_alloc | apply pw_below_drewN | apply below_drew1 | refine below_set ?_ GE529.out | refine below_set ?_ GE530.out) | exact HB.out)⟩⟩
                          · rw [if_neg c17] at H
                            exact absurd H (by simp)
                        · rw [if_neg c16] at H
                          have c16b0 : decide (x8_3 < 6) = false := decide_eq_false c16
                          clear c16
                          have H' := Aside0.mk H
                          clear H
                          have p534 : 0 ≤ (x6_1 : Int) := of_decide_eq_true (by first | (with_reducible assumption) | assumption)
                          have q534 : x6_1 < (l1.length : Int) := of_decide_eq_true (by first | (with_reducible assumption) | assumption)
                          obtain ⟨ad534, A534_0, c534_0, e534, hx534_0, hl534_0, hi534_0⟩ := at_L1 HR1.out x6_1 p534 q534
                          cases e534
                          replace hx534_0 := (HB.out.cell (World.block_lt_of_cell? w _ hx534_0)).trans hx534_0
                          have HR534_0 := Aside0.mk hi534_0
                          have HC534_0 := Aside0.mk hl534_0
                          clear hi534_0 hl534_0
                          replace p534 := eq_true p534
                          replace q534 := eq_true q534
                          go_wp2
                          go_meet
                          case rel => exact ⟨_, (x7_3), H', ⟨by have := HK1.out; have := HJ6.out; have := HK3.out; first | omega | exact Nat.le_refl _⟩, ⟨by (with_reducible repeat (first | apply Kd.R_alloc | apply Kd.R_drewN | apply Kd.R_drew)); exact HO_7.out⟩, ⟨by (with_reducible repeat (first | apply Kd.S_alloc | apply Kd.S_drewN | apply Kd.S_drew)); exact HO_531000.out⟩, ⟨by (with_reducible repeat (first | apply Kd.R_alloc | apply Kd.R_drewN | apply Kd.R_drew)); exact HO_531001.out⟩, ⟨by (with_reducible repeat (first | refine blk_drewN ?_ _ | refine blk_drew ?_ | refine blk_alloc ?_ _)); exact BK529.out⟩, ⟨by (with_reducible repeat (first | refine blk_drewN ?_ _ | refine blk_drew ?_ | refine blk_alloc ?_ _)); exact BK530.out⟩, ⟨by repeat (first | (with_reducible first | exact HB.out | apply below_alloc | apply pw_below_drewN | apply below_drew1 | refine below_set ?_ GE529.out | refine below_set ?_ GE530.out) | exact HB.out)⟩⟩
                      · rw [if_neg c15] at H
                        have c15b0 : decide (x8_3 < ((rd_L1 l1 x6_1).length : Int)) = false := decide_eq_false c15
                        clear c15
                        have H' := Aside0.mk H
                        clear H
                        have p534 : 0 ≤ (x6_1 : Int) := of_decide_eq_true (by first | (with_reducible assumption) | assumption)
                        have q534 : x6_1 < (l1.length : Int) := of_decide_eq_true (by first | (with_reducible assumption) | assumption)
                        obtain ⟨ad534, A534_0, c534_0, e534, hx534_0, hl534_0, hi534_0⟩ := at_L1 HR1.out x6_1 p534 q534
                        cases e534
                        replace hx534_0 := (HB.out.cell (World.block_lt_of_cell? w _ hx534_0)).trans hx534_0
                        have HR534_0 := Aside0.mk hi534_0
                        have HC534_0 := Aside0.mk hl534_0
                        clear hi534_0 hl534_0
                        replace p534 := eq_true p534
                        replace q534 := eq_true q534
                        go_wp2
                        go_meet
                        case rel => exact ⟨_, (x7_3), H', ⟨by have := HK1.out; have := HJ6.out; have := HK3.out; first | omega | exact Nat.le_refl _⟩, ⟨by (with_reducible repeat (first | apply Kd.R_alloc | apply Kd.R_drewN | apply Kd.R_drew)); exact HO_7.out⟩, ⟨by (with_reducible repeat (first | apply Kd.S_alloc | apply Kd.S_drewN | apply Kd.S_drew)); exact HO_531000.out⟩, ⟨by (with_reducible repeat (first | apply Kd.R_alloc | apply Kd.R_drewN | apply Kd.R_drew)); exact HO_531001.out⟩, ⟨by (with_reducible repeat (first | refine blk_drewN ?_ _ | refine blk_drew ?_ | refine blk_alloc ?_ _)); exact BK529.out⟩, ⟨by (with_reducible repeat (first | refine blk_drewN ?_ _ | refine blk_drew ?_ | refine blk_alloc ?_ _)); exact BK530.out⟩, ⟨by repeat (first | (with_reducible first | exact HB.out | apply below_alloc | apply pw_below_drewN | apply below_drew1 | refine below_set ?_ GE529.out | refine below_set ?_ GE530.out) | exact HB.out)⟩⟩
                    · rw [if_neg c14] at H
                      exact absurd H (by simp)
                  · rw [if_neg c13] at H
                    exact absurd H (by simp)
            case rest =>
              clear HC10
              try clear c1
              try clear c2
              try clear p2
              try clear c5
              try clear p5
              try clear q5
              try clear hx5
              try clear p6
              try clear c8
              try clear c8b0
              try clear c9
              try clear c13
              try clear c13b0
              try clear c14
              try clear c14b0
              try clear c15
              try clear c15b0
              try clear c16
              try clear c16b0
              try clear c17
              try clear c17b0
              try clear hcz6_0
              try clear hcz6_1
              try clear hfz6_0
              try clear hfz6_1
              try clear hx534_0
              try clear hx535_0
              try clear hx536_0
              try clear p2
              try clear p534
              try clear p535
              try clear p536
              try clear q534
              try clear q535
              try clear q536
              obtain ⟨kq, x7_9, HA, HJ9, HO_7, HO_531000, HO_531001, BK529, BK530, HB⟩ := hcut
              cases kq with
              | zero => exact absurd HA.out (by simp [arboristlaw13_shape.j3])
              | succ kj9 =>
                have H := HA.out
                clear HA
                simp only [arboristlaw13_shape.j3] at H
                by_cases c24 : x6_1 > 0
                · rw [if_pos c24] at H
                  have c24b0 : decide (0 < x6_1) = true := decide_eq_true c24
                  clear c24
                  by_cases c25 : x6_1 < (l0.length : Int)
                  · rw [if_pos c25] at H
                    have c25b0 : decide (x6_1 < (l0.length : Int)) = true := decide_eq_true c25
                    clear c25
                    by_cases c26 : 0 ≤ x6_1
                    · rw [if_pos c26] at H
                      have c26b0 : decide (0 ≤ x6_1) = true := decide_eq_true c26
                      clear c26
                      by_cases c27 : x6_1 = 0
                      · rw [if_pos c27] at H
                        exact absurd H (by simp)
                      · rw [if_neg c27] at H
                        have c27b0 : (x6_1 == 0) = false := beq_eq_false_iff_ne.mpr c27
                        have c27b1 : (x6_1 != 0) = true := bne_iff_ne.mpr c27
                        by_cases c28 : x531000_1.length < 5864062014805
                        · rw [if_pos c28] at H
                          have LMc28 := Aside0.mk c28
                          clear c28
                          obtain ⟨y544, hy544⟩ : ∃ y_ : List (List Int), y_ = (x531000_1 ++ [x7_9]) := ⟨_, rfl⟩
                          replace H : (if x531001_1.length < 17592186044416 then (arboristlaw13_shape.l0 kj9 l0 l1 (wrap64 (x6_1 + 1)) y544 (x531001_1 ++ [Int.tmod (Go.bits .and .i64 (rd l0 x6_1) 65535) x6_1])) else (none)) = some (r1, r2) := by first | (rw [hy544]; with_reducible exact H) | (have H2_ := (Option.bind_some _ _).symm.trans H; rw [hy544]; with_reducible exact H2_) | (have H2_ := (Option.bind_some _ _).symm.trans H; with_reducible exact H2_) | with_reducible exact H | (rw [hy544]; exact H) | exact H
                          have Ny544 := Aside0.mk hy544
                          clear hy544
                          by_cases c29 : x531001_1.length < 17592186044416
                          · rw [if_pos c29] at H
                            have LMc29 := Aside0.mk c29
                            clear c29
                            obtain ⟨y547, hy547⟩ : ∃ y_ : List Int, y_ = (x531001_1 ++ [Int.tmod (Go.bits .and .i64 (rd l0 x6_1) 65535) x6_1]) := ⟨_, rfl⟩
                            replace H : (arboristlaw13_shape.l0 kj9 l0 l1 (wrap64 (x6_1 + 1)) y544 y547) = some (r1, r2) := by first | (rw [hy547]; with_reducible exact H) | (have H2_ := (Option.bind_some _ _).symm.trans H; rw [hy547]; with_reducible exact H2_) | (have H2_ := (Option.bind_some _ _).symm.trans H; with_reducible exact H2_) | with_reducible exact H | (rw [hy547]; exact H) | exact H
                            have Ny547 := Aside0.mk hy547
                            clear hy547
                            have H' := Aside0.mk H
                            clear H
                            have p543 : 0 ≤ (x6_1 : Int) := of_decide_eq_true (by first | (with_reducible assumption) | assumption)
                            have q543 : x6_1 < (l0.length : Int) := of_decide_eq_true (by first | (with_reducible assumption) | assumption)
                            obtain ⟨ad543, e543, hx543_0⟩ := Kd.at_int HR0.out x6_1 p543 q543
                            cases e543
                            replace hx543_0 := (HB.out.cell (World.block_lt_of_cell? w _ hx543_0)).trans hx543_0
                            replace p543 := eq_true p543
                            replace q543 := eq_true q543
                            have hnb30 := NB530_529.out
                            have hnc30 := NB529_530.out
                            have hcz31_0 : wc.cell? ⟨gb530, 0, none⟩ = some (u531000) := (blk_cell BK530.out 0).trans rfl
                            have hcz31_1 : wc.cell? ⟨gb530, 1, none⟩ = some (u531001) := (blk_cell BK530.out 1).trans rfl
                            have hfz31_0 := blk_frozen BK530.out 0
                            have hfz31_1 := blk_frozen BK530.out 1
                            obtain ⟨Ao33, co33, eo33⟩ := Kd.R_slice HO_7.out
                            subst eo33
                            go_wp2_with (first | ((with_reducible refine gate_builtin (b := .append) (xs := #[.tmp 60, .tmp 62]) rfl ?_); at_builtin; refine Kd.S_append (Kd.slice 3 (Kd.int .i64)) (w0 := w) w.heap.size rfl (.tmp 60) (.tmp 62) 22 23 (.slice none 0 0) 24 rfl Try.underlying22 info23 rfl (by decide) (by omega) u531000 x531000_1 x7_9 [.slice Ao33 x7_9.length co33] (fun k_ => some k_ ≠ (u531001 : Value).ownBlock) (fun k_ => some k_ = (.slice Ao33 x7_9.length co33 : Value).ownBlock) rfl rfl ?aP (fun k_ hk_ => ((Kd.R_mono (ok' := fun k_ => ((fun k_ => some k_ ≠ (u531001 : Value).ownBlock)) k_ ∧ some k_ ≠ (u531000 : Value).ownBlock) (Kd.R_apart' (HO_7.out) (Kd.S_typed HO_531000.out) (by decide)) (fun k_ hk => ⟨hk.1, hk.2⟩))).1 k_ hk_.symm) ?aF ?aO ?aB ?aS ?aL ?_; (case aP => exact Kd.M_row (Kd.R_mono (Kd.R_tight rfl (Kd.R_mono (ok' := fun k_ => ((fun k_ => some k_ ≠ (u531001 : Value).ownBlock)) k_ ∧ some k_ ≠ (u531000 : Value).ownBlock) (Kd.R_apart' (HO_7.out) (Kd.S_typed HO_531000.out) (by decide)) (fun k_ hk => ⟨hk.1, hk.2⟩))) (fun _ h_ => h_))); (case aB => exact (by repeat (first | (with_reducible first | exact HB.out | apply below_alloc | apply pw_below_drewN | apply below_drew1 | refine below_set ?_ GE529.out | refine below_set ?_ GE530.out) | exact HB.out))); (case aF => exact (fun k_ hk => Kd.fresh' (Kd.R_lt (by (with_reducible repeat (first | apply Kd.R_alloc | apply Kd.R_drewN | apply Kd.R_drew)); exact HO_531001.out)) k_ hk)); (case aO => exact (by (with_reducible repeat (first | apply Kd.S_alloc | apply Kd.S_drewN | apply Kd.S_drew)); exact Kd.S_mono HO_531000.out (fun k_ hk => ⟨hk.2, fun e_ => hk.1 e_⟩))); (case aS => exact (below_size (by repeat (first | (with_reducible first | exact HB.out | apply below_alloc | apply pw_below_drewN | apply below_drew1 | refine below_set ?_ GE529.out | refine below_set ?_ GE530.out) | exact HB.out)))); (case aL => have := LMc28.out; omega); intro v545 w32 ho hb hg hat; rw [← Ny544.out] at ho; have n0_ := Aside0.mk (Kd.R_over' (by (with_reducible repeat (first | apply Kd.R_alloc | apply Kd.R_drewN | apply Kd.R_drew)); exact HO_531001.out) (Kd.S_typed (by (with_reducible repeat (first | apply Kd.S_alloc | apply Kd.S_drewN | apply Kd.S_drew)); exact HO_531000.out)) (by decide) hg); have n1_ := Aside0.mk (blk_grown (g := gb529) (o := .cells #[.slice none 0 0, .slice none 0 0] 25 (0, 0)) (by (with_reducible repeat (first | refine blk_drewN ?_ _ | refine blk_drew ?_ | refine blk_alloc ?_ _)); exact BK529.out) hg (Kd.S_ne HO_531000.out BK529.out (by decide))); have n2_ := Aside0.mk (blk_grown (g := gb530) (o := .cells #[u531000, u531001] 25 (0, 0)) (by (with_reducible repeat (first | refine blk_drewN ?_ _ | refine blk_drew ?_ | refine blk_alloc ?_ _)); exact BK530.out) hg (Kd.S_ne HO_531000.out BK530.out (by decide))); have n3_ := Aside0.mk (hb); have n4_ := Aside0.mk (ho); clear HO_531001; clear BK529; clear BK530; clear HB; clear HO_531000; clear HO_7; have HO_531001 := n0_; have BK529 := n1_; have BK530 := n2_; have HB := n3_; have HO546 := n4_; clear n0_ n1_ n2_ n3_ n4_; clear ho hb hg hat; obtain ⟨Ao34, co34, eo34⟩ := Kd.S_slice HO546.out; subst eo34; have hcz35_0 : w32.cell? ⟨gb530, 0, none⟩ = some (u531000) := (blk_cell BK530.out 0).trans rfl; have hcz35_1 : w32.cell? ⟨gb530, 1, none⟩ = some (u531001) := (blk_cell BK530.out 1).trans rfl; have hfz35_0 := blk_frozen BK530.out 0; have hfz35_1 := blk_frozen BK530.out 1) | ((with_reducible refine gate_builtin (b := .append) (xs := #[.tmp 66, .tmp 68]) rfl ?_); at_builtin; refine Kd.R_append (Kd.int .i64) (w0 := w) w.heap.size rfl (.tmp 66) (.tmp 68) 23 3 (.int .i64 0) 8 rfl Try.underlying23 info3 rfl (by decide) (by omega) u531001 x531001_1 (Int.tmod (Go.bits .and .i64 (rd l0 x6_1) 65535) x6_1) [.int .i64 (Int.tmod (Go.bits .and .i64 (rd l0 x6_1) 65535) x6_1)] (fun _ => True) (fun _ => False) rfl (by first | (go_simp; done) | (go_simp; rfl)) ?aP (fun _ hk => hk.elim) ?aF ?aO ?aB ?aS ?aL ?_; (case aP => exact rfl); (case aB => exact (by repeat (first | (with_reducible first | exact HB.out | apply below_alloc | apply pw_below_drewN | apply below_drew1 | refine below_set ?_ GE529.out | refine below_set ?_ GE530.out) | exact HB.out))); (case aF => exact (fun _ _ => trivial)); (case aO => exact (by (with_reducible repeat (first | apply Kd.R_alloc | apply Kd.R_drewN | apply Kd.R_drew)); exact Kd.R_mono (Kd.R_far (p := ⟨gb530, 0, none⟩) (Kd.R_types HO_531001.out BK530.out (by decide)) (fun _ hk => hk.2) (.slice Ao34 y544.length co34)) (fun _ hk => trivial))); (case aS => exact (below_size (by repeat (first | (with_reducible first | exact HB.out | apply below_alloc | apply pw_below_drewN | apply below_drew1 | refine below_set ?_ GE529.out | refine below_set ?_ GE530.out) | exact HB.out)))); (case aL => have := LMc29.out; omega); intro v548 w36 ho hb hg hat; rw [← Ny547.out] at ho; have n0_ := Aside0.mk (blk_grown (g := gb529) (o := .cells #[.slice none 0 0, .slice none 0 0] 25 (0, 0)) (by (with_reducible repeat (first | refine blk_drewN ?_ _ | refine blk_drew ?_ | refine blk_alloc ?_ _)); refine blk_far ?_ NB529_530.out _; (with_reducible repeat (first | refine blk_drewN ?_ _ | refine blk_drew ?_ | refine blk_alloc ?_ _)); exact BK529.out) hg (Kd.R_ne HO_531001.out BK529.out (by decide))); have n1_ := Aside0.mk (blk_grown (g := gb530) (o := .cells #[.slice Ao34 y544.length co34, u531001] 25 (0, 0)) (by (with_reducible repeat (first | refine blk_drewN ?_ _ | refine blk_drew ?_ | refine blk_alloc ?_ _)); refine blk_put (cs := #[u531000, u531001]) ?_ 0 _ rfl; (with_reducible repeat (first | refine blk_drewN ?_ _ | refine blk_drew ?_ | refine blk_alloc ?_ _)); exact BK530.out) hg (Kd.R_ne HO_531001.out BK530.out (by decide))); have n2_ := Aside0.mk (Kd.S_after (ok := (fun _ => True)) (by (with_reducible repeat (first | apply Kd.S_alloc | apply Kd.S_drewN | apply Kd.S_drew)); exact Kd.S_mono (Kd.S_far (p := ⟨gb530, 0, none⟩) (Kd.S_types HO546.out BK530.out (by decide)) (fun _ hk => hk.2) (.slice Ao34 y544.length co34)) (fun _ hk => ⟨trivial, hk.1⟩)) hg hat); have n3_ := Aside0.mk (hb); have n4_ := Aside0.mk (ho); clear BK529; clear BK530; clear HO546; clear HB; clear HO_531001; have BK529 := n0_; have BK530 := n1_; have HO546 := n2_; have HB := n3_; have HO549 := n4_; clear n0_ n1_ n2_ n3_ n4_; clear ho hb hg hat; obtain ⟨Ao37, co37, eo37⟩ := Kd.R_slice HO549.out; subst eo37; have hcz38_0 : w36.cell? ⟨gb530, 0, none⟩ = some (.slice Ao34 y544.length co34) := (blk_cell BK530.out 0).trans rfl; have hcz38_1 : w36.cell? ⟨gb530, 1, none⟩ = some (u531001) := (blk_cell BK530.out 1).trans rfl; have hfz38_0 := blk_frozen BK530.out 0; have hfz38_1 := blk_frozen BK530.out 1))
                            go_roundg kj9
                            case measure => have := HK1.out; have := HJ6.out; have := HJ9.out; omega
                            case rel => exact ⟨(wrap64 (x6_1 + 1)), (y544), (y547), (.slice Ao34 y544.length co34), (.slice Ao37 y547.length co37), (by first | rfl | (simp; done) | (simp [*]; done)), H', ⟨by have := HK1.out; have := HJ6.out; have := HJ9.out; omega⟩, ⟨by (with_reducible repeat (first | apply Kd.S_alloc | apply Kd.S_drewN | apply Kd.S_drew)); exact Kd.S_mono (Kd.S_far (p := ⟨gb530, 1, none⟩) (Kd.S_types HO546.out BK530.out (by decide)) (fun _ hk => hk.2) (.slice Ao37 y547.length co37)) (fun _ hk => hk.1.2)⟩, ⟨by (with_reducible repeat (first | apply Kd.R_alloc | apply Kd.R_drewN | apply Kd.R_drew)); exact Kd.R_mono (Kd.R_far (p := ⟨gb530, 1, none⟩) (Kd.R_types HO549.out BK530.out (by decide)) (fun _ hk => hk.2) (.slice Ao37 y547.length co37)) (fun _ hk => trivial)⟩, ⟨by (with_reducible repeat (first | refine blk_drewN ?_ _ | refine blk_drew ?_ | refine blk_alloc ?_ _)); refine blk_far ?_ NB529_530.out _; (with_reducible repeat (first | refine blk_drewN ?_ _ | refine blk_drew ?_ | refine blk_alloc ?_ _)); exact BK529.out⟩, ⟨by (with_reducible repeat (first | refine blk_drewN ?_ _ | refine blk_drew ?_ | refine blk_alloc ?_ _)); refine blk_put (cs := #[.slice Ao34 y544.length co34, u531001]) ?_ 1 _ rfl; (with_reducible repeat (first | refine blk_drewN ?_ _ | refine blk_drew ?_ | refine blk_alloc ?_ _)); exact BK530.out⟩, ⟨by repeat (first | (with_reducible first | exact HB.out | apply below_alloc | apply pw_below_drewN | apply below_drew1 | refine below_set ?_ GE529.out | refine below_set ?_ GE530.out) | exact HB.out)⟩⟩
                          · rw [if_neg c29] at H
                            exact absurd H (by simp)
                        · rw [if_neg c28] at H
                          exact absurd H (by simp)
                    · rw [if_neg c26] at H
                      exact absurd H (by simp)
                  · rw [if_neg c25] at H
                    have c25b0 : decide (x6_1 < (l0.length : Int)) = false := decide_eq_false c25
                    clear c25
                    by_cases c39 : x531000_1.length < 5864062014805
                    · rw [if_pos c39] at H
                      have LMc39 := Aside0.mk c39
                      clear c39
                      obtain ⟨y550, hy550⟩ : ∃ y_ : List (List Int), y_ = (x531000_1 ++ [x7_9]) := ⟨_, rfl⟩
                      replace H : (if x531001_1.length < 17592186044416 then (arboristlaw13_shape.l0 kj9 l0 l1 (wrap64 (x6_1 + 1)) y550 (x531001_1 ++ [0])) else (none)) = some (r1, r2) := by first | (rw [hy550]; with_reducible exact H) | (have H2_ := (Option.bind_some _ _).symm.trans H; rw [hy550]; with_reducible exact H2_) | (have H2_ := (Option.bind_some _ _).symm.trans H; with_reducible exact H2_) | with_reducible exact H | (rw [hy550]; exact H) | exact H
                      have Ny550 := Aside0.mk hy550
                      clear hy550
                      by_cases c40 : x531001_1.length < 17592186044416
                      · rw [if_pos c40] at H
                        have LMc40 := Aside0.mk c40
                        clear c40
                        obtain ⟨y553, hy553⟩ : ∃ y_ : List Int, y_ = (x531001_1 ++ [0]) := ⟨_, rfl⟩
                        replace H : (arboristlaw13_shape.l0 kj9 l0 l1 (wrap64 (x6_1 + 1)) y550 y553) = some (r1, r2) := by first | (rw [hy553]; with_reducible exact H) | (have H2_ := (Option.bind_some _ _).symm.trans H; rw [hy553]; with_reducible exact H2_) | (have H2_ := (Option.bind_some _ _).symm.trans H; with_reducible exact H2_) | with_reducible exact H | (rw [hy553]; exact H) | exact H
                        have Ny553 := Aside0.mk hy553
                        clear hy553
                        have H' := Aside0.mk H
                        clear H
                        have hnb41 := NB530_529.out
                        have hnc41 := NB529_530.out
                        have hcz42_0 : wc.cell? ⟨gb530, 0, none⟩ = some (u531000) := (blk_cell BK530.out 0).trans rfl
                        have hcz42_1 : wc.cell? ⟨gb530, 1, none⟩ = some (u531001) := (blk_cell BK530.out 1).trans rfl
                        have hfz42_0 := blk_frozen BK530.out 0
                        have hfz42_1 := blk_frozen BK530.out 1
                        obtain ⟨Ao44, co44, eo44⟩ := Kd.R_slice HO_7.out
                        subst eo44
                        go_wp2_with (first | ((with_reducible refine gate_builtin (b := .append) (xs := #[.tmp 60, .tmp 62]) rfl ?_); at_builtin; refine Kd.S_append (Kd.slice 3 (Kd.int .i64)) (w0 := w) w.heap.size rfl (.tmp 60) (.tmp 62) 22 23 (.slice none 0 0) 24 rfl Try.underlying22 info23 rfl (by decide) (by omega) u531000 x531000_1 x7_9 [.slice Ao44 x7_9.length co44] (fun k_ => some k_ ≠ (u531001 : Value).ownBlock) (fun k_ => some k_ = (.slice Ao44 x7_9.length co44 : Value).ownBlock) rfl rfl ?aP (fun k_ hk_ => ((Kd.R_mono (ok' := fun k_ => ((fun k_ => some k_ ≠ (u531001 : Value).ownBlock)) k_ ∧ some k_ ≠ (u531000 : Value).ownBlock) (Kd.R_apart' (HO_7.out) (Kd.S_typed HO_531000.out) (by decide)) (fun k_ hk => ⟨hk.1, hk.2⟩))).1 k_ hk_.symm) ?aF ?aO ?aB ?aS ?aL ?_; (case aP => exact Kd.M_row (Kd.R_mono (Kd.R_tight rfl (Kd.R_mono (ok' := fun k_ => ((fun k_ => some k_ ≠ (u531001 : Value).ownBlock)) k_ ∧ some k_ ≠ (u531000 : Value).ownBlock) (Kd.R_apart' (HO_7.out) (Kd.S_typed HO_531000.out) (by decide)) (fun k_ hk => ⟨hk.1, hk.2⟩))) (fun _ h_ => h_))); (case aB => exact (by repeat (first | (with_reducible first | exact HB.out | apply below_alloc | apply pw_below_drewN | apply below_drew1 | refine below_set ?_ GE529.out | refine below_set ?_ GE530.out) | exact HB.out))); (case aF => exact (fun k_ hk => Kd.fresh' (Kd.R_lt (by (with_reducible repeat (first | apply Kd.R_alloc | apply Kd.R_drewN | apply Kd.R_drew)); exact HO_531001.out)) k_ hk)); (case aO => exact (by (with_reducible repeat (first | apply Kd.S_alloc | apply Kd.S_drewN | apply Kd.S_drew)); exact Kd.S_mono HO_531000.out (fun k_ hk => ⟨hk.2, fun e_ => hk.1 e_⟩))); (case aS => exact (below_size (by repeat (first | (with_reducible first | exact HB.out | apply below_alloc | apply pw_below_drewN | apply below_drew1 | refine below_set ?_ GE529.out | refine below_set ?_ GE530.out) | exact HB.out)))); (case aL => have := LMc39.out; omega); intro v551 w43 ho hb hg hat; rw [← Ny550.out] at ho; have n0_ := Aside0.mk (Kd.R_over' (by (with_reducible repeat (first | apply Kd.R_alloc | apply Kd.R_drewN | apply Kd.R_drew)); exact HO_531001.out) (Kd.S_typed (by (with_reducible repeat (first | apply Kd.S_alloc | apply Kd.S_drewN | apply Kd.S_drew)); exact HO_531000.out)) (by decide) hg); have n1_ := Aside0.mk (blk_grown (g := gb529) (o := .cells #[.slice none 0 0, .slice none 0 0] 25 (0, 0)) (by (with_reducible repeat (first | refine blk_drewN ?_ _ | refine blk_drew ?_ | refine blk_alloc ?_ _)); exact BK529.out) hg (Kd.S_ne HO_531000.out BK529.out (by decide))); have n2_ := Aside0.mk (blk_grown (g := gb530) (o := .cells #[u531000, u531001] 25 (0, 0)) (by (with_reducible repeat (first | refine blk_drewN ?_ _ | refine blk_drew ?_ | refine blk_alloc ?_ _)); exact BK530.out) hg (Kd.S_ne HO_531000.out BK530.out (by decide))); have n3_ := Aside0.mk (hb); have n4_ := Aside0.mk (ho); clear HO_531001; clear BK529; clear BK530; clear HB; clear HO_531000; clear HO_7; have HO_531001 := n0_; have BK529 := n1_; have BK530 := n2_; have HB := n3_; have HO552 := n4_; clear n0_ n1_ n2_ n3_ n4_; clear ho hb hg hat; obtain ⟨Ao45, co45, eo45⟩ := Kd.S_slice HO552.out; subst eo45; have hcz46_0 : w43.cell? ⟨gb530, 0, none⟩ = some (u531000) := (blk_cell BK530.out 0).trans rfl; have hcz46_1 : w43.cell? ⟨gb530, 1, none⟩ = some (u531001) := (blk_cell BK530.out 1).trans rfl; have hfz46_0 := blk_frozen BK530.out 0; have hfz46_1 := blk_frozen BK530.out 1) | ((with_reducible refine gate_builtin (b := .append) (xs := #[.tmp 66, .tmp 68]) rfl ?_); at_builtin; refine Kd.R_append (Kd.int .i64) (w0 := w) w.heap.size rfl (.tmp 66) (.tmp 68) 23 3 (.int .i64 0) 8 rfl Try.underlying23 info3 rfl (by decide) (by omega) u531001 x531001_1 0 [.int .i64 0] (fun _ => True) (fun _ => False) rfl (by first | (go_simp; done) | (go_simp; rfl)) ?aP (fun _ hk => hk.elim) ?aF ?aO ?aB ?aS ?aL ?_; (case aP => exact rfl); (case aB => exact (by repeat (first | (with_reducible first | exact HB.out | apply below_alloc | apply pw_below_drewN | apply below_drew1 | refine below_set ?_ GE529.out | refine below_set ?_ GE530.out) | exact HB.out))); (case aF => exact (fun _ _ => trivial)); (case aO => exact (by (with_reducible repeat (first | apply Kd.R_alloc | apply Kd.R_drewN | apply Kd.R_drew)); exact Kd.R_mono (Kd.R_far (p := ⟨gb530, 0, none⟩) (Kd.R_types HO_531001.out BK530.out (by decide)) (fun _ hk => hk.2) (.slice Ao45 y550.length co45)) (fun _ hk => trivial))); (case aS => exact (below_size (by repeat (first | (with_reducible first | exact HB.out | apply below_alloc | apply pw_below_drewN | apply below_drew1 | refine below_set ?_ GE529.out | refine below_set ?_ GE530.out) | exact HB.out)))); (case aL => have := LMc40.out; omega); intro v554 w47 ho hb hg hat; rw [← Ny553.out] at ho; have n0_ := Aside0.mk (blk_grown (g := gb529) (o := .cells #[.slice none 0 0, .slice none 0 0] 25 (0, 0)) (by (with_reducible repeat (first | refine blk_drewN ?_ _ | refine blk_drew ?_ | refine blk_alloc ?_ _)); refine blk_far ?_ NB529_530.out _; (with_reducible repeat (first | refine blk_drewN ?_ _ | refine blk_drew ?_ | refine blk_alloc ?_ _)); exact BK529.out) hg (Kd.R_ne HO_531001.out BK529.out (by decide))); have n1_ := Aside0.mk (blk_grown (g := gb530) (o := .cells #[.slice Ao45 y550.length co45, u531001] 25 (0, 0)) (by (with_reducible repeat (first | refine blk_drewN ?_ _ | refine blk_drew ?_ | refine blk_alloc ?_ _)); refine blk_put (cs := #[u531000, u531001]) ?_ 0 _ rfl; (with_reducible repeat (first | refine blk_drewN ?_ _ | refine blk_drew ?_ | refine blk_alloc ?_ _)); exact BK530.out) hg (Kd.R_ne HO_531001.out BK530.out (by decide))); have n2_ := Aside0.mk (Kd.S_after (ok := (fun _ => True)) (by (with_reducible repeat (first | apply Kd.S_alloc | apply Kd.S_drewN | apply Kd.S_drew)); exact Kd.S_mono (Kd.S_far (p := ⟨gb530, 0, none⟩) (Kd.S_types HO552.out BK530.out (by decide)) (fun _ hk => hk.2) (.slice Ao45 y550.length co45)) (fun _ hk => ⟨trivial, hk.1⟩)) hg hat); have n3_ := Aside0.mk (hb); have n4_ := Aside0.mk (ho); clear BK529; clear BK530; clear HO552; clear HB; clear HO_531001; have BK529 := n0_; have BK530 := n1_; have HO552 := n2_; have HB := n3_; have HO555 := n4_; clear n0_ n1_ n2_ n3_ n4_; clear ho hb hg hat; obtain ⟨Ao48, co48, eo48⟩ := Kd.R_slice HO555.out; subst eo48; have hcz49_0 : w47.cell? ⟨gb530, 0, none⟩ = some (.slice Ao45 y550.length co45) := (blk_cell BK530.out 0).trans rfl; have hcz49_1 : w47.cell? ⟨gb530, 1, none⟩ = some (u531001) := (blk_cell BK530.out 1).trans rfl; have hfz49_0 := blk_frozen BK530.out 0; have hfz49_1 := blk_frozen BK530.out 1))
                        go_roundg kj9
                        case measure => have := HK1.out; have := HJ6.out; have := HJ9.out; omega
                        case rel => exact ⟨(wrap64 (x6_1 + 1)), (y550), (y553), (.slice Ao45 y550.length co45), (.slice Ao48 y553.length co48), (by first | rfl | (simp; done) | (simp [*]; done)), H', ⟨by have := HK1.out; have := HJ6.out; have := HJ9.out; omega⟩, ⟨by (with_reducible repeat (first | apply Kd.S_alloc | apply Kd.S_drewN | apply Kd.S_drew)); exact Kd.S_mono (Kd.S_far (p := ⟨gb530, 1, none⟩) (Kd.S_types HO552.out BK530.out (by decide)) (fun _ hk => hk.2) (.slice Ao48 y553.length co48)) (fun _ hk => hk.1.2)⟩, ⟨by (with_reducible repeat (first | apply Kd.R_alloc | apply Kd.R_drewN | apply Kd.R_drew)); exact Kd.R_mono (Kd.R_far (p := ⟨gb530, 1, none⟩) (Kd.R_types HO555.out BK530.out (by decide)) (fun _ hk => hk.2) (.slice Ao48 y553.length co48)) (fun _ hk => trivial)⟩, ⟨by (with_reducible repeat (first | refine blk_drewN ?_ _ | refine blk_drew ?_ | refine blk_alloc ?_ _)); refine blk_far ?_ NB529_530.out _; (with_reducible repeat (first | refine blk_drewN ?_ _ | refine blk_drew ?_ | refine blk_alloc ?_ _)); exact BK529.out⟩, ⟨by (with_reducible repeat (first | refine blk_drewN ?_ _ | refine blk_drew ?_ | refine blk_alloc ?_ _)); refine blk_put (cs := #[.slice Ao45 y550.length co45, u531001]) ?_ 1 _ rfl; (with_reducible repeat (first | refine blk_drewN ?_ _ | refine blk_drew ?_ | refine blk_alloc ?_ _)); exact BK530.out⟩, ⟨by repeat (first | (with_reducible first | exact HB.out | apply below_alloc | apply pw_below_drewN | apply below_drew1 | refine below_set ?_ GE529.out | refine below_set ?_ GE530.out) | exact HB.out)⟩⟩
                      · rw [if_neg c40] at H
                        exact absurd H (by simp)
                    · rw [if_neg c39] at H
                      exact absurd H (by simp)
                · rw [if_neg c24] at H
                  have c24b0 : decide (0 < x6_1) = false := decide_eq_false c24
                  clear c24
                  by_cases c50 : x531000_1.length < 5864062014805
                  · rw [if_pos c50] at H
                    have LMc50 := Aside0.mk c50
                    clear c50
                    obtain ⟨y556, hy556⟩ : ∃ y_ : List (List Int), y_ = (x531000_1 ++ [x7_9]) := ⟨_, rfl⟩
                    replace H : (if x531001_1.length < 17592186044416 then (arboristlaw13_shape.l0 kj9 l0 l1 (wrap64 (x6_1 + 1)) y556 (x531001_1 ++ [(-1)])) else (none)) = some (r1, r2) := by first | (rw [hy556]; with_reducible exact H) | (have H2_ := (Option.bind_some _ _).symm.trans H; rw [hy556]; with_reducible exact H2_) | (have H2_ := (Option.bind_some _ _).symm.trans H; with_reducible exact H2_) | with_reducible exact H | (rw [hy556]; exact H) | exact H
                    have Ny556 := Aside0.mk hy556
                    clear hy556
                    by_cases c51 : x531001_1.length < 17592186044416
                    · rw [if_pos c51] at H
                      have LMc51 := Aside0.mk c51
                      clear c51
                      obtain ⟨y559, hy559⟩ : ∃ y_ : List Int, y_ = (x531001_1 ++ [(-1)]) := ⟨_, rfl⟩
                      replace H : (arboristlaw13_shape.l0 kj9 l0 l1 (wrap64 (x6_1 + 1)) y556 y559) = some (r1, r2) := by first | (rw [hy559]; with_reducible exact H) | (have H2_ := (Option.bind_some _ _).symm.trans H; rw [hy559]; with_reducible exact H2_) | (have H2_ := (Option.bind_some _ _).symm.trans H; with_reducible exact H2_) | with_reducible exact H | (rw [hy559]; exact H) | exact H
                      have Ny559 := Aside0.mk hy559
                      clear hy559
                      have H' := Aside0.mk H
                      clear H
                      have hnb52 := NB530_529.out
                      have hnc52 := NB529_530.out
                      have hcz53_0 : wc.cell? ⟨gb530, 0, none⟩ = some (u531000) := (blk_cell BK530.out 0).trans rfl
                      have hcz53_1 : wc.cell? ⟨gb530, 1, none⟩ = some (u531001) := (blk_cell BK530.out 1).trans rfl
                      have hfz53_0 := blk_frozen BK530.out 0
                      have hfz53_1 := blk_frozen BK530.out 1
                      obtain ⟨Ao55, co55, eo55⟩ := Kd.R_slice HO_7.out
                      subst eo55
                      go_wp2_with (first | ((with_reducible refine gate_builtin (b := .append) (xs := #[.tmp 60, .tmp 62]) rfl ?_); at_builtin; refine Kd.S_append (Kd.slice 3 (Kd.int .i64)) (w0 := w) w.heap.size rfl (.tmp 60) (.tmp 62) 22 23 (.slice none 0 0) 24 rfl Try.underlying22 info23 rfl (by decide) (by omega) u531000 x531000_1 x7_9 [.slice Ao55 x7_9.length co55] (fun k_ => some k_ ≠ (u531001 : Value).ownBlock) (fun k_ => some k_ = (.slice Ao55 x7_9.length co55 : Value).ownBlock) rfl rfl ?aP (fun k_ hk_ => ((Kd.R_mono (ok' := fun k_ => ((fun k_ => some k_ ≠ (u531001 : Value).ownBlock)) k_ ∧ some k_ ≠ (u531000 : Value).ownBlock) (Kd.R_apart' (HO_7.out) (Kd.S_typed HO_531000.out) (by decide)) (fun k_ hk => ⟨hk.1, hk.2⟩))).1 k_ hk_.symm) ?aF ?aO ?aB ?aS ?aL ?_; (case aP => exact Kd.M_row (Kd.R_mono (Kd.R_tight rfl (Kd.R_mono (ok' := fun k_ => ((fun k_ => some k_ ≠ (u531001 : Value).ownBlock)) k_ ∧ some k_ ≠ (u531000 : Value).ownBlock) (Kd.R_apart' (HO_7.out) (Kd.S_typed HO_531000.out) (by decide)) (fun k_ hk => ⟨hk.1, hk.2⟩))) (fun _ h_ => h_))); (case aB => exact (by repeat (first | (with_reducible first | exact HB.out | apply below_alloc | apply pw_below_drewN | apply below_drew1 | refine below_set ?_ GE529.out | refine below_set ?_ GE530.out) | exact HB.out))); (case aF => exact (fun k_ hk => Kd.fresh' (Kd.R_lt (by (with_reducible repeat (first | apply Kd.R_alloc | apply Kd.R_drewN | apply Kd.R_drew)); exact HO_531001.out)) k_ hk)); (case aO => exact (by (with_reducible repeat (first | apply Kd.S_alloc | apply Kd.S_drewN | apply Kd.S_drew)); exact Kd.S_mono HO_531000.out (fun k_ hk => ⟨hk.2, fun e_ => hk.1 e_⟩))); (case aS => exact (below_size (by repeat (first | (with_reducible first | exact HB.out | apply below_alloc | apply pw_below_drewN | apply below_drew1 | refine below_set ?_ GE529.out | refine below_set ?_ GE530.out) | exact HB.out)))); (case aL => have := LMc50.out; omega); intro v557 w54 ho hb hg hat; rw [← Ny556.out] at ho; have n0_ := Aside0.mk (Kd.R_over' (by (with_reducible repeat (first | apply Kd.R_alloc | apply Kd.R_drewN | apply Kd.R_drew)); exact HO_531001.out) (Kd.S_typed (by (with_reducible repeat (first | apply Kd.S_alloc | apply Kd.S_drewN | apply Kd.S_drew)); exact HO_531000.out)) (by decide) hg); have n1_ := Aside0.mk (blk_grown (g := gb529) (o := .cells #[.slice none 0 0, .slice none 0 0] 25 (0, 0)) (by (with_reducible repeat (first | refine blk_drewN ?_ _ | refine blk_drew ?_ | refine blk_alloc ?_ _)); exact BK529.out) hg (Kd.S_ne HO_531000.out BK529.out (by decide))); have n2_ := Aside0.mk (blk_grown (g := gb530) (o := .cells #[u531000, u531001] 25 (0, 0)) (by (with_reducible repeat (first | refine blk_drewN ?_ _ | refine blk_drew ?_ | refine blk_alloc ?_ _)); exact BK530.out) hg (Kd.S_ne HO_531000.out BK530.out (by decide))); have n3_ := Aside0.mk (hb); have n4_ := Aside0.mk (ho); clear HO_531001; clear BK529; clear BK530; clear HB; clear HO_531000; clear HO_7; have HO_531001 := n0_; have BK529 := n1_; have BK530 := n2_; have HB := n3_; have HO558 := n4_; clear n0_ n1_ n2_ n3_ n4_; clear ho hb hg hat; obtain ⟨Ao56, co56, eo56⟩ := Kd.S_slice HO558.out; subst eo56; have hcz57_0 : w54.cell? ⟨gb530, 0, none⟩ = some (u531000) := (blk_cell BK530.out 0).trans rfl; have hcz57_1 : w54.cell? ⟨gb530, 1, none⟩ = some (u531001) := (blk_cell BK530.out 1).trans rfl; have hfz57_0 := blk_frozen BK530.out 0; have hfz57_1 := blk_frozen BK530.out 1) | ((with_reducible refine gate_builtin (b := .append) (xs := #[.tmp 66, .tmp 68]) rfl ?_); at_builtin; refine Kd.R_append (Kd.int .i64) (w0 := w) w.heap.size rfl (.tmp 66) (.tmp 68) 23 3 (.int .i64 0) 8 rfl Try.underlying23 info3 rfl (by decide) (by omega) u531001 x531001_1 (-1) [.int .i64 (-1)] (fun _ => True) (fun _ => False) rfl (by first | (go_simp; done) | (go_simp; rfl)) ?aP (fun _ hk => hk.elim) ?aF ?aO ?aB ?aS ?aL ?_; (case aP => exact rfl); (case aB => exact (by repeat (first | (with_reducible first | exact HB.out | apply below_alloc | apply pw_below_drewN | apply below_drew1 | refine below_set ?_ GE529.out | refine below_set ?_ GE530.out) | exact HB.out))); (case aF => exact (fun _ _ => trivial)); (case aO => exact (by (with_reducible repeat (first | apply Kd.R_alloc | apply Kd.R_drewN | apply Kd.R_drew)); exact Kd.R_mono (Kd.R_far (p := ⟨gb530, 0, none⟩) (Kd.R_types HO_531001.out BK530.out (by decide)) (fun _ hk => hk.2) (.slice Ao56 y556.length co56)) (fun _ hk => trivial))); (case aS => exact (below_size (by repeat (first | (with_reducible first | exact HB.out | apply below_alloc | apply pw_below_drewN | apply below_drew1 | refine below_set ?_ GE529.out | refine below_set ?_ GE530.out) | exact HB.out)))); (case aL => have := LMc51.out; omega); intro v560 w58 ho hb hg hat; rw [← Ny559.out] at ho; have n0_ := Aside0.mk (blk_grown (g := gb529) (o := .cells #[.slice none 0 0, .slice none 0 0] 25 (0, 0)) (by (with_reducible repeat (first | refine blk_drewN ?_ _ | refine blk_drew ?_ | refine blk_alloc ?_ _)); refine blk_far ?_ NB529_530.out _; (with_reducible repeat (first | refine blk_drewN ?_ _ | refine blk_drew ?_ | refine blk_alloc ?_ _)); exact BK529.out) hg (Kd.R_ne HO_531001.out BK529.out (by decide))); have n1_ := Aside0.mk (blk_grown (g := gb530) (o := .cells #[.slice Ao56 y556.length co56, u531001] 25 (0, 0)) (by (with_reducible repeat (first | refine blk_drewN ?_ _ | refine blk_drew ?_ | refine blk_alloc ?_ _)); refine blk_put (cs := #[u531000, u531001]) ?_ 0 _ rfl; (with_reducible repeat (first | refine blk_drewN ?_ _ | refine blk_drew ?_ | refine blk_alloc ?_ _)); exact BK530.out) hg (Kd.R_ne HO_531001.out BK530.out (by decide))); have n2_ := Aside0.mk (Kd.S_after (ok := (fun _ => True)) (by (with_reducible repeat (first | apply Kd.S_alloc | apply Kd.S_drewN | apply Kd.S_drew)); exact Kd.S_mono (Kd.S_far (p := ⟨gb530, 0, none⟩) (Kd.S_types HO558.out BK530.out (by decide)) (fun _ hk => hk.2) (.slice Ao56 y556.length co56)) (fun _ hk => ⟨trivial, hk.1⟩)) hg hat); have n3_ := Aside0.mk (hb); have n4_ := Aside0.mk (ho); clear BK529; clear BK530; clear HO558; clear HB; clear HO_531001; have BK529 := n0_; have BK530 := n1_; have HO558 := n2_; have HB := n3_; have HO561 := n4_; clear n0_ n1_ n2_ n3_ n4_; clear ho hb hg hat; obtain ⟨Ao59, co59, eo59⟩ := Kd.R_slice HO561.out; subst eo59; have hcz60_0 : w58.cell? ⟨gb530, 0, none⟩ = some (.slice Ao56 y556.length co56) := (blk_cell BK530.out 0).trans rfl; have hcz60_1 : w58.cell? ⟨gb530, 1, none⟩ = some (u531001) := (blk_cell BK530.out 1).trans rfl; have hfz60_0 := blk_frozen BK530.out 0; have hfz60_1 := blk_frozen BK530.out 1))
                      go_roundg kj9
                      case measure => have := HK1.out; have := HJ6.out; have := HJ9.out; omega
                      case rel => exact ⟨(wrap64 (x6_1 + 1)), (y556), (y559), (.slice Ao56 y556.length co56), (.slice Ao59 y559.length co59), (by first | rfl | (simp; done) | (simp [*]; done)), H', ⟨by have := HK1.out; have := HJ6.out; have := HJ9.out; omega⟩, ⟨by (with_reducible repeat (first | apply Kd.S_alloc | apply Kd.S_drewN | apply Kd.S_drew)); exact Kd.S_mono (Kd.S_far (p := ⟨gb530, 1, none⟩) (Kd.S_types HO558.out BK530.out (by decide)) (fun _ hk => hk.2) (.slice Ao59 y559.length co59)) (fun _ hk => hk.1.2)⟩, ⟨by (with_reducible repeat (first | apply Kd.R_alloc | apply Kd.R_drewN | apply Kd.R_drew)); exact Kd.R_mono (Kd.R_far (p := ⟨gb530, 1, none⟩) (Kd.R_types HO561.out BK530.out (by decide)) (fun _ hk => hk.2) (.slice Ao59 y559.length co59)) (fun _ hk => trivial)⟩, ⟨by (with_reducible repeat (first | refine blk_drewN ?_ _ | refine blk_drew ?_ | refine blk_alloc ?_ _)); refine blk_far ?_ NB529_530.out _; (with_reducible repeat (first | refine blk_drewN ?_ _ | refine blk_drew ?_ | refine blk_alloc ?_ _)); exact BK529.out⟩, ⟨by (with_reducible repeat (first | refine blk_drewN ?_ _ | refine blk_drew ?_ | refine blk_alloc ?_ _)); refine blk_put (cs := #[.slice Ao56 y556.length co56, u531001]) ?_ 1 _ rfl; (with_reducible repeat (first | refine blk_drewN ?_ _ | refine blk_drew ?_ | refine blk_alloc ?_ _)); exact BK530.out⟩, ⟨by repeat (first | (with_reducible first | exact HB.out | apply below_alloc | apply pw_below_drewN | apply below_drew1 | refine below_set ?_ GE529.out | refine below_set ?_ GE530.out) | exact HB.out)⟩⟩
                    · rw [if_neg c51] at H
                      exact absurd H (by simp)
                  · rw [if_neg c50] at H
                    exact absurd H (by simp)
          · replace c9 := Bool.eq_false_iff.mpr c9
            subst c9
            have H1 : (some (x531000_1, x531001_1)) = some (r1, r2) := by rw [if_neg (show ¬ (false = true) by decide)] at H; exact H
            clear H
            have H := H1
            clear H1
            simp only [Option.some.injEq, Prod.mk.injEq] at H
            obtain ⟨rfl, rfl⟩ := H
            have hnb61 := NB530_529.out
            have hnc61 := NB529_530.out
            have hcz62_0 : wc.cell? ⟨gb530, 0, none⟩ = some (u531000) := (blk_cell BK530.out 0).trans rfl
            have hcz62_1 : wc.cell? ⟨gb530, 1, none⟩ = some (u531001) := (blk_cell BK530.out 1).trans rfl
            have hfz62_0 := blk_frozen BK530.out 0
            have hfz62_1 := blk_frozen BK530.out 1
            obtain ⟨Ao63, co63, eo63⟩ := Kd.S_slice HO_531000.out
            subst eo63
            have hcz64_0 : wc.cell? ⟨gb529, 0, none⟩ = some (.slice none 0 0) := (blk_cell BK529.out 0).trans rfl
            have hcz64_1 : wc.cell? ⟨gb529, 1, none⟩ = some (.slice none 0 0) := (blk_cell BK529.out 1).trans rfl
            have hfz64_0 := blk_frozen BK529.out 0
            have hfz64_1 := blk_frozen BK529.out 1
            obtain ⟨Ao65, co65, eo65⟩ := Kd.R_slice HO_531001.out
            subst eo65
            go_wp2
            refine bodyPost_ret (results_cell_row rfl _ _ gb529 25 #[.slice Ao63 x531000_1.length co63, .slice Ao65 x531001_1.length co65] (0, 0) _ rfl (by (with_reducible repeat (first | refine blk_drewN ?_ _ | refine blk_drew ?_ | refine blk_alloc ?_ _)); refine blk_put (cs := #[.slice Ao63 x531000_1.length co63, .slice none 0 0]) ?_ 1 _ rfl; (with_reducible repeat (first | refine blk_drewN ?_ _ | refine blk_drew ?_ | refine blk_alloc ?_ _)); refine blk_put (cs := #[.slice none 0 0, .slice none 0 0]) ?_ 0 _ rfl; (with_reducible repeat (first | refine blk_drewN ?_ _ | refine blk_drew ?_ | refine blk_alloc ?_ _)); exact BK529.out) Try.underlying25 rfl (by kernel_rfl)) rfl ?_
            exact ⟨_, _, by first | rfl | (simp [errW_none, errW_some] <;> rfl) | (simp [*, errW_none, errW_some] <;> rfl), by (with_reducible repeat (first | apply Kd.S_alloc | apply Kd.S_drewN | apply Kd.S_drew)); exact Kd.S_mono (Kd.S_far (p := ⟨gb529, 1, none⟩) (Kd.S_far (p := ⟨gb529, 0, none⟩) (Kd.S_types HO_531000.out BK529.out (by decide)) (fun _ hk => hk.2) (.slice Ao63 x531000_1.length co63)) (fun _ hk => hk.2) (.slice Ao65 x531001_1.length co65)) (fun _ hk => hk.1), by (with_reducible repeat (first | apply Kd.R_alloc | apply Kd.R_drewN | apply Kd.R_drew)); exact Kd.R_mono (Kd.R_far (p := ⟨gb529, 1, none⟩) (Kd.R_far (p := ⟨gb529, 0, none⟩) (Kd.R_types HO_531001.out BK529.out (by decide)) (fun _ hk => hk.2) (.slice Ao63 x531000_1.length co63)) (fun _ hk => hk.2) (.slice Ao65 x531001_1.length co65)) (fun _ hk => trivial), by repeat (first | (with_reducible first | exact HB.out | apply below_alloc | apply pw_below_drewN | apply below_drew1 | refine below_set ?_ GE529.out | refine below_set ?_ GE530.out) | exact HB.out)⟩

end Go.Proofs.Ytpmfdggbccbfaaa.Pr
