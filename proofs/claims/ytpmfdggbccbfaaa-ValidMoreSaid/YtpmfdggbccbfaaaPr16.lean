-- Printed by a program of this session's own (wip/tools/pp.py) over the kit's print.py; Lean checks it.
import Derived.Test.YtpmfdggbccbfaaaPr0
namespace Go.Proofs.Ytpmfdggbccbfaaa.Pr
open Go.RowKit Go.Proofs.YtpmfdggbccbfaaaW.PrintWords Go.Proofs.YtpmfdggbccbfaaaW.PrintLast Go.Proofs.YtpmfdggbccbfaaaW.PrintMore
attribute [local go_sem] max2_int min2_int max_two min_two max_three min_three max_four min_four   -- for this text's walks alone
set_option linter.unusedVariables false
set_option linter.unusedSimpArgs false

/-! ### arboristref12_Tree: function 19 -/
mutual
def arboristref12_Tree.l0 : Nat → Int → Int → Int → List (List Int) → List Int → Option (Bool)
  | 0, _, _, _, _, _ => none
  | k + 1, x3, x4, x5, x188000, x188001 => if x5 < x3 then (if 0 ≤ x5 then (if x5 < (x188001.length : Int) then (if (rd x188001 x5) < (-1) then (arboristref12_Tree.j1 k x3 x4 x5 true x188000 x188001) else (if (rd x188001 x5) ≥ x3 then (arboristref12_Tree.j1 k x3 x4 x5 true x188000 x188001) else (arboristref12_Tree.j1 k x3 x4 x5 ((rd x188001 x5) == x5) x188000 x188001))) else (none)) else (none)) else (if x3 > 0 then (arboristref12_Tree.j2 k x3 (x4 != 1) x188000 x188001) else (arboristref12_Tree.j2 k x3 false x188000 x188001))
def arboristref12_Tree.j1 : Nat → Int → Int → Int → Bool → List (List Int) → List Int → Option (Bool)
  | 0, _, _, _, _, _, _ => none
  | k + 1, x3, x4, x5, x45, x188000, x188001 => if x45 = true then (some false) else (if 0 ≤ x5 then (if x5 < (x188001.length : Int) then (if (rd x188001 x5) = (-1) then (arboristref12_Tree.l0 k x3 (wrap64 (x4 + 1)) (wrap64 (x5 + 1)) x188000 x188001) else (arboristref12_Tree.l0 k x3 x4 (wrap64 (x5 + 1)) x188000 x188001)) else (none)) else (none))
def arboristref12_Tree.j2 : Nat → Int → Bool → List (List Int) → List Int → Option (Bool)
  | 0, _, _, _, _ => none
  | k + 1, x3, x59, x188000, x188001 => if x59 = true then (some false) else (arboristref12_Tree.l1 k x3 0 x188000 x188001)
def arboristref12_Tree.l1 : Nat → Int → Int → List (List Int) → List Int → Option (Bool)
  | 0, _, _, _, _ => none
  | k + 1, x3, x6, x188000, x188001 => if x6 < x3 then (arboristref12_Tree.l2 k x3 x6 x6 0 x188000 x188001) else (some true)
def arboristref12_Tree.l2 : Nat → Int → Int → Int → Int → List (List Int) → List Int → Option (Bool)
  | 0, _, _, _, _, _, _ => none
  | k + 1, x3, x6, x7, x8, x188000, x188001 => if x8 < x3 then (if x7 ≥ 0 then (if 0 ≤ x7 then (if x7 < (x188001.length : Int) then (arboristref12_Tree.l2 k x3 x6 (rd x188001 x7) (wrap64 (x8 + 1)) x188000 x188001) else (none)) else (none)) else (arboristref12_Tree.l1 k x3 (wrap64 (x6 + 1)) x188000 x188001)) else (if x7 ≥ 0 then (some false) else (arboristref12_Tree.l1 k x3 (wrap64 (x6 + 1)) x188000 x188001))
end
def arboristref12_Tree.f (k : Nat) (l0_0 : List (List Int)) (l0_1 : List Int) : Option (Bool) := if (l0_1.length : Int) = (l0_0.length : Int) then (arboristref12_Tree.l0 k (l0_0.length : Int) 0 0 l0_0 l0_1) else (some false)
theorem arboristref12_Tree.mono_l : ∀ k, (∀ y0 y1 y2 y3 y4, LeO (arboristref12_Tree.l0 k y0 y1 y2 y3 y4) (arboristref12_Tree.l0 (k + 1) y0 y1 y2 y3 y4)) ∧ (∀ y0 y1 y2 y3 y4 y5, LeO (arboristref12_Tree.j1 k y0 y1 y2 y3 y4 y5) (arboristref12_Tree.j1 (k + 1) y0 y1 y2 y3 y4 y5)) ∧ (∀ y0 y1 y2 y3, LeO (arboristref12_Tree.j2 k y0 y1 y2 y3) (arboristref12_Tree.j2 (k + 1) y0 y1 y2 y3)) ∧ (∀ y0 y1 y2 y3, LeO (arboristref12_Tree.l1 k y0 y1 y2 y3) (arboristref12_Tree.l1 (k + 1) y0 y1 y2 y3)) ∧ (∀ y0 y1 y2 y3 y4 y5, LeO (arboristref12_Tree.l2 k y0 y1 y2 y3 y4 y5) (arboristref12_Tree.l2 (k + 1) y0 y1 y2 y3 y4 y5))
  | 0 => ⟨fun _ _ _ _ _ r h => by simp [arboristref12_Tree.l0] at h, fun _ _ _ _ _ _ r h => by simp [arboristref12_Tree.j1] at h, fun _ _ _ _ r h => by simp [arboristref12_Tree.j2] at h, fun _ _ _ _ r h => by simp [arboristref12_Tree.l1] at h, fun _ _ _ _ _ _ r h => by simp [arboristref12_Tree.l2] at h⟩
  | k + 1 => by
    obtain ⟨ih0, ih1, ih2, ih3, ih4⟩ := arboristref12_Tree.mono_l k
    refine ⟨?_, ?_, ?_, ?_, ?_⟩
    all_goals intros
    all_goals (first | unfold arboristref12_Tree.l0 | unfold arboristref12_Tree.j1 | unfold arboristref12_Tree.j2 | unfold arboristref12_Tree.l1 | unfold arboristref12_Tree.l2)
    all_goals repeat' first
    | (with_reducible exact ih0 _ _ _ _ _)
    | (with_reducible exact ih1 _ _ _ _ _ _)
    | (with_reducible exact ih2 _ _ _ _)
    | (with_reducible exact ih3 _ _ _ _)
    | (with_reducible exact ih4 _ _ _ _ _ _)
    | (with_reducible exact LeO.refl _)
    | (with_reducible exact LeO.none _)
    | (with_reducible refine LeO.ite ?_ ?_)
    | (with_reducible refine LeO.bind ?_ (fun _ => ?_))
    | exact ih0 _ _ _ _ _
    | exact ih1 _ _ _ _ _ _
    | exact ih2 _ _ _ _
    | exact ih3 _ _ _ _
    | exact ih4 _ _ _ _ _ _
    | exact LeO.none _
    | refine LeO.ite ?_ ?_
    | refine LeO.bind ?_ (fun _ => ?_)
theorem arboristref12_Tree.mono : ∀ a0 a1 k, LeO (arboristref12_Tree.f k a0 a1) (arboristref12_Tree.f (k + 1) a0 a1) := by
  intro a0 a1 k
  obtain ⟨ih0, ih1, ih2, ih3, ih4⟩ := arboristref12_Tree.mono_l k
  unfold arboristref12_Tree.f
  repeat' first
      | (with_reducible exact ih0 _ _ _ _ _)
      | (with_reducible exact ih1 _ _ _ _ _ _)
      | (with_reducible exact ih2 _ _ _ _)
      | (with_reducible exact ih3 _ _ _ _)
      | (with_reducible exact ih4 _ _ _ _ _ _)
      | (with_reducible exact LeO.refl _)
      | (with_reducible exact LeO.none _)
      | (with_reducible refine LeO.ite ?_ ?_)
      | (with_reducible refine LeO.bind ?_ (fun _ => ?_))
      | exact ih0 _ _ _ _ _
      | exact ih1 _ _ _ _ _ _
      | exact ih2 _ _ _ _
      | exact ih3 _ _ _ _
      | exact ih4 _ _ _ _ _ _
      | exact LeO.none _
      | refine LeO.ite ?_ ?_
      | refine LeO.bind ?_ (fun _ => ?_)
set_option maxHeartbeats 8000000 in
set_option maxRecDepth 100000 in
theorem arboristref12_Tree.calls (k : Nat) (A0_0 : Option Addr) (c0_0 : Nat) (l0_0 : List (List Int)) (A0_1 : Option Addr) (c0_1 : Nat) (l0_1 : List Int) (r : Bool) (w : World) (hr0_0 : Kd.C (Kd.slice 3 (Kd.int .i64)) w A0_0 l0_0.length l0_0) (hc0_0 : l0_0.length ≤ c0_0) (hr0_1 : Kd.C (Kd.int .i64) w A0_1 l0_1.length l0_1) (hc0_1 : l0_1.length ≤ c0_1) (h : arboristref12_Tree.f k l0_0 l0_1 = some r) :
    Calls Try.prog 19 #[.agg #[.slice A0_0 l0_0.length c0_0, .slice A0_1 l0_1.length c0_1]] w fun e w' => e = .returned (.bool r) ∧ Below w.heap.size w w' := by
  have hu25 := Try.underlying25
  have HR0_0 := Aside0.mk hr0_0
  have HC0_0 := Aside0.mk hc0_0
  clear hr0_0 hc0_0
  have HR0_1 := Aside0.mk hr0_1
  have HC0_1 := Aside0.mk hc0_1
  clear hr0_1 hc0_1
  have HB := Aside0.mk (Below.refl w.heap.size w)
  have H : (if (l0_1.length : Int) = (l0_0.length : Int) then (arboristref12_Tree.l0 k (l0_0.length : Int) 0 0 l0_0 l0_1) else (some false)) = some r := h
  clear h
  by_cases c2 : (l0_1.length : Int) = (l0_0.length : Int)
  · rw [if_pos c2] at H
    have c2b0 : ((l0_1.length : Int) == (l0_0.length : Int)) = true := beq_iff_eq.mpr c2
    have c2b1 : ((l0_1.length : Int) != (l0_0.length : Int)) = false := bne_eq_false_iff_eq.mpr c2
    have c2b2 : (l0_1.length == l0_0.length) = true := by first | simpa using c2 | (simp at c2 ⊢; omega)
    clear c2
    have H' := Aside0.mk H
    clear H
    go_enter Try.func19, Try.ntmps19
    go_wp2_with (first | ((with_reducible refine gate_dst (N := 1) rfl ?_); refine box_event ?hg (N := 1) ?hd (cs := #[.slice A0_0 l0_0.length c0_0, .slice A0_1 l0_1.length c0_1]) (t := 25) ?hr ?_; (case hd => rfl); (case hg => rfl); (case hr => first | (go_simp; done) | (go_simp; rfl)); intro gb187 hg w3 hbox hb; have n0_ := Aside0.mk (below_step (by repeat (first | (with_reducible first | exact HB.out | apply below_alloc | apply pw_below_drewN | apply below_drew1) | exact HB.out)) hb); have n1_ := Aside0.mk (hbox); have n2_ := Aside0.mk ((by rw [hg]; exact (below_size (by repeat (first | (with_reducible first | exact HB.out | apply below_alloc | apply pw_below_drewN | apply below_drew1) | exact HB.out))) : w.heap.size ≤ gb187)); have n3_ := Aside0.mk ((by rw [hg]; exact (below_size (by repeat (first | (with_reducible first | exact HB.out | apply below_alloc | apply pw_below_drewN | apply below_drew1) | exact HB.out))) : w.heap.size ≤ gb187)); clear HB; have HB := n0_; have BK187 := n1_; have GW187 := n2_; have GE187 := n3_; clear n0_ n1_ n2_ n3_; clear hb hbox hg; have hcz4_0 : w3.cell? ⟨gb187, 0, none⟩ = some (.slice A0_0 l0_0.length c0_0) := (blk_cell BK187.out 0).trans rfl; have hcz4_1 : w3.cell? ⟨gb187, 1, none⟩ = some (.slice A0_1 l0_1.length c0_1) := (blk_cell BK187.out 1).trans rfl; have hfz4_0 := blk_frozen BK187.out 0; have hfz4_1 := blk_frozen BK187.out 1))
    go_loopg [4, 5] k (fun kq v4 v5 w' => ∃ (x4_1 : Int) (x5_1 : Int), v4 = .int .i64 x4_1 ∧ v5 = .int .i64 x5_1 ∧ Aside0 (arboristref12_Tree.l0 kq (l0_0.length : Int) x4_1 x5_1 l0_0 l0_1 = some r) ∧ Aside0 (kq ≤ k) ∧ Aside0 (w'.heap[gb187]? = some (.cells #[(.slice A0_0 l0_0.length c0_0), (.slice A0_1 l0_1.length c0_1)] 25 (0, 0))) ∧ Aside0 (Below w.heap.size w w'))
    case atStart => exact ⟨(0), (0), (by first | rfl | (simp; done) | (simp [*]; done)), (by first | rfl | (simp; done) | (simp [*]; done)), H', ⟨Nat.le_refl _⟩, ⟨by (with_reducible repeat (first | refine blk_drewN ?_ _ | refine blk_drew ?_ | refine blk_alloc ?_ _)); exact BK187.out⟩, ⟨by repeat (first | (with_reducible first | exact HB.out | apply below_alloc | apply pw_below_drewN | apply below_drew1 | refine below_set ?_ GE187.out) | exact HB.out)⟩⟩
    case round =>
      clear H'
      try clear c1
      try clear c2
      try clear c2b0
      try clear c2b1
      try clear c2b2
      try clear p2
      try clear hcz4_0
      try clear hcz4_1
      try clear hfz4_0
      try clear hfz4_1
      obtain ⟨x4_1, x5_1, rfl, rfl, HA, HK1, BK187, HB⟩ := hrel
      cases gk with
      | zero => exact absurd HA.out (by simp [arboristref12_Tree.l0])
      | succ k1 =>
        have H := HA.out
        clear HA
        simp only [arboristref12_Tree.l0] at H
        by_cases c5 : x5_1 < (l0_0.length : Int)
        · rw [if_pos c5] at H
          have c5b0 : decide (x5_1 < (l0_0.length : Int)) = true := decide_eq_true c5
          clear c5
          have HC6 := Aside0.mk H
          clear H
          go_upto_region 8 with (fail)
          go_cut [45] (fun v45 wc => ∃ (kq : Nat) (x45_5 : Bool), v45 = .bool x45_5 ∧ Aside0 (arboristref12_Tree.j1 kq (l0_0.length : Int) x4_1 x5_1 x45_5 l0_0 l0_1 = some r) ∧ Aside0 (kq ≤ k1) ∧ Aside0 (wc.heap[gb187]? = some (.cells #[(.slice A0_0 l0_0.length c0_0), (.slice A0_1 l0_1.length c0_1)] 25 (0, 0))) ∧ Aside0 (Below w.heap.size w wc))
          case first =>
            have H := HC6.out
            clear HC6
            by_cases c7 : 0 ≤ x5_1
            · rw [if_pos c7] at H
              have c7b0 : decide (0 ≤ x5_1) = true := decide_eq_true c7
              clear c7
              (first | rw [c7b0] | (simp only [i64_w, i32_w]; rw [c7b0]) | skip)
              by_cases c8 : x5_1 < (l0_1.length : Int)
              · rw [if_pos c8] at H
                have c8b0 : decide (x5_1 < (l0_1.length : Int)) = true := decide_eq_true c8
                clear c8
                by_cases c9 : (rd l0_1 x5_1) < (-1)
                · rw [if_pos c9] at H
                  have c9b0 : decide ((rd l0_1 x5_1) < (-1)) = true := decide_eq_true c9
                  clear c9
                  have H' := Aside0.mk H
                  clear H
                  have hcz10_0 : wr.cell? ⟨gb187, 0, none⟩ = some (.slice A0_0 l0_0.length c0_0) := (blk_cell BK187.out 0).trans rfl
                  have hcz10_1 : wr.cell? ⟨gb187, 1, none⟩ = some (.slice A0_1 l0_1.length c0_1) := (blk_cell BK187.out 1).trans rfl
                  have hfz10_0 := blk_frozen BK187.out 0
                  have hfz10_1 := blk_frozen BK187.out 1
                  have p188 : 0 ≤ (x5_1 : Int) := of_decide_eq_true (by first | (with_reducible assumption) | assumption)
                  have q188 : x5_1 < (l0_1.length : Int) := of_decide_eq_true (by first | (with_reducible assumption) | assumption)
                  obtain ⟨ad188, e188, hx188_0⟩ := Kd.at_int HR0_1.out x5_1 p188 q188
                  cases e188
                  replace hx188_0 := (HB.out.cell (World.block_lt_of_cell? w _ hx188_0)).trans hx188_0
                  replace p188 := eq_true p188
                  replace q188 := eq_true q188
                  go_wp2
                  go_meet
                  case rel => exact ⟨_, (true), (by first | rfl | (simp; done) | (simp [*]; done)), H', ⟨by have := HK1.out; first | omega | exact Nat.le_refl _⟩, ⟨by (with_reducible repeat (first | refine blk_drewN ?_ _ | refine blk_drew ?_ | refine blk_alloc ?_ _)); exact BK187.out⟩, ⟨by repeat (first | (with_reducible first | exact HB.out | apply below_alloc | apply pw_below_drewN | apply below_drew1 | refine below_set ?_ GE187.out) | exact HB.out)⟩⟩
                · rw [if_neg c9] at H
                  have c9b0 : decide ((rd l0_1 x5_1) < (-1)) = false := decide_eq_false c9
                  clear c9
                  by_cases c11 : (rd l0_1 x5_1) ≥ (l0_0.length : Int)
                  · rw [if_pos c11] at H
                    have c11b0 : decide ((l0_0.length : Int) ≤ (rd l0_1 x5_1)) = true := decide_eq_true c11
                    clear c11
                    have H' := Aside0.mk H
                    clear H
                    have hcz12_0 : wr.cell? ⟨gb187, 0, none⟩ = some (.slice A0_0 l0_0.length c0_0) := (blk_cell BK187.out 0).trans rfl
                    have hcz12_1 : wr.cell? ⟨gb187, 1, none⟩ = some (.slice A0_1 l0_1.length c0_1) := (blk_cell BK187.out 1).trans rfl
                    have hfz12_0 := blk_frozen BK187.out 0
                    have hfz12_1 := blk_frozen BK187.out 1
                    have p188 : 0 ≤ (x5_1 : Int) := of_decide_eq_true (by first | (with_reducible assumption) | assumption)
                    have q188 : x5_1 < (l0_1.length : Int) := of_decide_eq_true (by first | (with_reducible assumption) | assumption)
                    obtain ⟨ad188, e188, hx188_0⟩ := Kd.at_int HR0_1.out x5_1 p188 q188
                    cases e188
                    replace hx188_0 := (HB.out.cell (World.block_lt_of_cell? w _ hx188_0)).trans hx188_0
                    replace p188 := eq_true p188
                    replace q188 := eq_true q188
                    have p189 : 0 ≤ (x5_1 : Int) := of_decide_eq_true (by first | (with_reducible assumption) | assumption)
                    have q189 : x5_1 < (l0_1.length : Int) := of_decide_eq_true (by first | (with_reducible assumption) | assumption)
                    obtain ⟨ad189, e189, hx189_0⟩ := Kd.at_int HR0_1.out x5_1 p189 q189
                    obtain rfl : ad188 = ad189 := (by injection e189)
                    replace hx189_0 := (HB.out.cell (World.block_lt_of_cell? w _ hx189_0)).trans hx189_0
                    replace p189 := eq_true p189
                    replace q189 := eq_true q189
                    go_wp2
                    go_meet
                    case rel => exact ⟨_, (true), (by first | rfl | (simp; done) | (simp [*]; done)), H', ⟨by have := HK1.out; first | omega | exact Nat.le_refl _⟩, ⟨by (with_reducible repeat (first | refine blk_drewN ?_ _ | refine blk_drew ?_ | refine blk_alloc ?_ _)); exact BK187.out⟩, ⟨by repeat (first | (with_reducible first | exact HB.out | apply below_alloc | apply pw_below_drewN | apply below_drew1 | refine below_set ?_ GE187.out) | exact HB.out)⟩⟩
                  · rw [if_neg c11] at H
                    have c11b0 : decide ((l0_0.length : Int) ≤ (rd l0_1 x5_1)) = false := decide_eq_false c11
                    clear c11
                    have H' := Aside0.mk H
                    clear H
                    have hcz13_0 : wr.cell? ⟨gb187, 0, none⟩ = some (.slice A0_0 l0_0.length c0_0) := (blk_cell BK187.out 0).trans rfl
                    have hcz13_1 : wr.cell? ⟨gb187, 1, none⟩ = some (.slice A0_1 l0_1.length c0_1) := (blk_cell BK187.out 1).trans rfl
                    have hfz13_0 := blk_frozen BK187.out 0
                    have hfz13_1 := blk_frozen BK187.out 1
                    have p188 : 0 ≤ (x5_1 : Int) := of_decide_eq_true (by first | (with_reducible assumption) | assumption)
                    have q188 : x5_1 < (l0_1.length : Int) := of_decide_eq_true (by first | (with_reducible assumption) | assumption)
                    obtain ⟨ad188, e188, hx188_0⟩ := Kd.at_int HR0_1.out x5_1 p188 q188
                    cases e188
                    replace hx188_0 := (HB.out.cell (World.block_lt_of_cell? w _ hx188_0)).trans hx188_0
                    replace p188 := eq_true p188
                    replace q188 := eq_true q188
                    have p189 : 0 ≤ (x5_1 : Int) := of_decide_eq_true (by first | (with_reducible assumption) | assumption)
                    have q189 : x5_1 < (l0_1.length : Int) := of_decide_eq_true (by first | (with_reducible assumption) | assumption)
                    obtain ⟨ad189, e189, hx189_0⟩ := Kd.at_int HR0_1.out x5_1 p189 q189
                    obtain rfl : ad188 = ad189 := (by injection e189)
                    replace hx189_0 := (HB.out.cell (World.block_lt_of_cell? w _ hx189_0)).trans hx189_0
                    replace p189 := eq_true p189
                    replace q189 := eq_true q189
                    have p190 : 0 ≤ (x5_1 : Int) := of_decide_eq_true (by first | (with_reducible assumption) | assumption)
                    have q190 : x5_1 < (l0_1.length : Int) := of_decide_eq_true (by first | (with_reducible assumption) | assumption)
                    obtain ⟨ad190, e190, hx190_0⟩ := Kd.at_int HR0_1.out x5_1 p190 q190
                    obtain rfl : ad188 = ad190 := (by injection e190)
                    replace hx190_0 := (HB.out.cell (World.block_lt_of_cell? w _ hx190_0)).trans hx190_0
                    replace p190 := eq_true p190
                    replace q190 := eq_true q190
                    go_wp2
                    go_meet
                    case rel => exact ⟨_, (((rd l0_1 x5_1) == x5_1)), (by first | rfl | (simp; done) | (simp [*]; done)), H', ⟨by have := HK1.out; first | omega | exact Nat.le_refl _⟩, ⟨by (with_reducible repeat (first | refine blk_drewN ?_ _ | refine blk_drew ?_ | refine blk_alloc ?_ _)); exact BK187.out⟩, ⟨by repeat (first | (with_reducible first | exact HB.out | apply below_alloc | apply pw_below_drewN | apply below_drew1 | refine below_set ?_ GE187.out) | exact HB.out)⟩⟩
              · rw [if_neg c8] at H
                exact absurd H (by simp)
            · rw [if_neg c7] at H
              exact absurd H (by simp)
          case rest =>
            clear HC6
            try clear c1
            try clear p1
            try clear q1
            try clear hx1
            try clear c2
            try clear c2b0
            try clear c2b1
            try clear c2b2
            try clear p2
            try clear c5
            try clear c5b0
            try clear c7
            try clear c7b0
            try clear c8
            try clear c8b0
            try clear c9
            try clear c9b0
            try clear c11
            try clear c11b0
            try clear hcz10_0
            try clear hcz10_1
            try clear hcz12_0
            try clear hcz12_1
            try clear hcz13_0
            try clear hcz13_1
            try clear hcz4_0
            try clear hcz4_1
            try clear hfz10_0
            try clear hfz10_1
            try clear hfz12_0
            try clear hfz12_1
            try clear hfz13_0
            try clear hfz13_1
            try clear hfz4_0
            try clear hfz4_1
            try clear hx188_0
            try clear hx189_0
            try clear hx190_0
            try clear p188
            try clear p189
            try clear p190
            try clear p2
            try clear q188
            try clear q189
            try clear q190
            obtain ⟨kq, x45_5, rfl, HA, HJ5, BK187, HB⟩ := hcut
            cases kq with
            | zero => exact absurd HA.out (by simp [arboristref12_Tree.j1])
            | succ kj5 =>
              have H := HA.out
              clear HA
              simp only [arboristref12_Tree.j1] at H
              by_cases c14 : x45_5 = true
              · subst c14
                have H1 : (some false) = some r := by rw [if_pos rfl] at H; exact H
                clear H
                have H := H1
                clear H1
                obtain rfl := Option.some.inj H
                go_wp2
                go_ret
                exact ⟨by first | rfl | (simp [errW_none, errW_some] <;> rfl) | (simp [*, errW_none, errW_some] <;> rfl), by repeat (first | (with_reducible first | exact HB.out | apply below_alloc | apply pw_below_drewN | apply below_drew1 | refine below_set ?_ GE187.out) | exact HB.out)⟩
              · replace c14 := Bool.eq_false_iff.mpr c14
                subst c14
                have H1 : (if 0 ≤ x5_1 then (if x5_1 < (l0_1.length : Int) then (if (rd l0_1 x5_1) = (-1) then (arboristref12_Tree.l0 kj5 (l0_0.length : Int) (wrap64 (x4_1 + 1)) (wrap64 (x5_1 + 1)) l0_0 l0_1) else (arboristref12_Tree.l0 kj5 (l0_0.length : Int) x4_1 (wrap64 (x5_1 + 1)) l0_0 l0_1)) else (none)) else (none)) = some r := by rw [if_neg (show ¬ (false = true) by decide)] at H; exact H
                clear H
                have H := H1
                clear H1
                by_cases c15 : 0 ≤ x5_1
                · rw [if_pos c15] at H
                  have c15b0 : decide (0 ≤ x5_1) = true := decide_eq_true c15
                  clear c15
                  by_cases c16 : x5_1 < (l0_1.length : Int)
                  · rw [if_pos c16] at H
                    have c16b0 : decide (x5_1 < (l0_1.length : Int)) = true := decide_eq_true c16
                    clear c16
                    by_cases c17 : (rd l0_1 x5_1) = (-1)
                    · rw [if_pos c17] at H
                      have c17b0 : ((rd l0_1 x5_1) == (-1)) = true := beq_iff_eq.mpr c17
                      have c17b1 : ((rd l0_1 x5_1) != (-1)) = false := bne_eq_false_iff_eq.mpr c17
                      clear c17
                      have H' := Aside0.mk H
                      clear H
                      have hcz18_0 : wc.cell? ⟨gb187, 0, none⟩ = some (.slice A0_0 l0_0.length c0_0) := (blk_cell BK187.out 0).trans rfl
                      have hcz18_1 : wc.cell? ⟨gb187, 1, none⟩ = some (.slice A0_1 l0_1.length c0_1) := (blk_cell BK187.out 1).trans rfl
                      have hfz18_0 := blk_frozen BK187.out 0
                      have hfz18_1 := blk_frozen BK187.out 1
                      have p191 : 0 ≤ (x5_1 : Int) := of_decide_eq_true (by first | (with_reducible assumption) | assumption)
                      have q191 : x5_1 < (l0_1.length : Int) := of_decide_eq_true (by first | (with_reducible assumption) | assumption)
                      obtain ⟨ad191, e191, hx191_0⟩ := Kd.at_int HR0_1.out x5_1 p191 q191
                      cases e191
                      replace hx191_0 := (HB.out.cell (World.block_lt_of_cell? w _ hx191_0)).trans hx191_0
                      replace p191 := eq_true p191
                      replace q191 := eq_true q191
                      go_wp2
                      go_roundg kj5
                      case measure => have := HK1.out; have := HJ5.out; omega
                      case rel => exact ⟨(wrap64 (x4_1 + 1)), (wrap64 (x5_1 + 1)), (by first | rfl | (simp; done) | (simp [*]; done)), (by first | rfl | (simp; done) | (simp [*]; done)), H', ⟨by have := HK1.out; have := HJ5.out; omega⟩, ⟨by (with_reducible repeat (first | refine blk_drewN ?_ _ | refine blk_drew ?_ | refine blk_alloc ?_ _)); exact BK187.out⟩, ⟨by repeat (first | (with_reducible first | exact HB.out | apply below_alloc | apply pw_below_drewN | apply below_drew1 | refine below_set ?_ GE187.out) | exact HB.out)⟩⟩
                    · rw [if_neg c17] at H
                      have c17b0 : ((rd l0_1 x5_1) == (-1)) = false := beq_eq_false_iff_ne.mpr c17
                      have c17b1 : ((rd l0_1 x5_1) != (-1)) = true := bne_iff_ne.mpr c17
                      have H' := Aside0.mk H
                      clear H
                      have hcz19_0 : wc.cell? ⟨gb187, 0, none⟩ = some (.slice A0_0 l0_0.length c0_0) := (blk_cell BK187.out 0).trans rfl
                      have hcz19_1 : wc.cell? ⟨gb187, 1, none⟩ = some (.slice A0_1 l0_1.length c0_1) := (blk_cell BK187.out 1).trans rfl
                      have hfz19_0 := blk_frozen BK187.out 0
                      have hfz19_1 := blk_frozen BK187.out 1
                      have p191 : 0 ≤ (x5_1 : Int) := of_decide_eq_true (by first | (with_reducible assumption) | assumption)
                      have q191 : x5_1 < (l0_1.length : Int) := of_decide_eq_true (by first | (with_reducible assumption) | assumption)
                      obtain ⟨ad191, e191, hx191_0⟩ := Kd.at_int HR0_1.out x5_1 p191 q191
                      cases e191
                      replace hx191_0 := (HB.out.cell (World.block_lt_of_cell? w _ hx191_0)).trans hx191_0
                      replace p191 := eq_true p191
                      replace q191 := eq_true q191
                      go_wp2
                      go_roundg kj5
                      case measure => have := HK1.out; have := HJ5.out; omega
                      case rel => exact ⟨(x4_1), (wrap64 (x5_1 + 1)), (by first | rfl | (simp; done) | (simp [*]; done)), (by first | rfl | (simp; done) | (simp [*]; done)), H', ⟨by have := HK1.out; have := HJ5.out; omega⟩, ⟨by (with_reducible repeat (first | refine blk_drewN ?_ _ | refine blk_drew ?_ | refine blk_alloc ?_ _)); exact BK187.out⟩, ⟨by repeat (first | (with_reducible first | exact HB.out | apply below_alloc | apply pw_below_drewN | apply below_drew1 | refine below_set ?_ GE187.out) | exact HB.out)⟩⟩
                  · rw [if_neg c16] at H
                    exact absurd H (by simp)
                · rw [if_neg c15] at H
                  exact absurd H (by simp)
        · rw [if_neg c5] at H
          have c5b0 : decide (x5_1 < (l0_0.length : Int)) = false := decide_eq_false c5
          clear c5
          have HC20 := Aside0.mk H
          clear H
          go_upto_region 12 with (fail)
          go_cut [59] (fun v59 wc => ∃ (kq : Nat) (x59_19 : Bool), v59 = .bool x59_19 ∧ Aside0 (arboristref12_Tree.j2 kq (l0_0.length : Int) x59_19 l0_0 l0_1 = some r) ∧ Aside0 (kq ≤ k1) ∧ Aside0 (wc.heap[gb187]? = some (.cells #[(.slice A0_0 l0_0.length c0_0), (.slice A0_1 l0_1.length c0_1)] 25 (0, 0))) ∧ Aside0 (Below w.heap.size w wc))
          case first =>
            have H := HC20.out
            clear HC20
            by_cases c21 : (l0_0.length : Int) > 0
            · rw [if_pos c21] at H
              have c21b0 : decide (0 < (l0_0.length : Int)) = true := decide_eq_true c21
              have c21b1 : decide (0 < l0_0.length) = true := decide_eq_true (by omega)
              clear c21
              (first | rw [c21b0] | (simp only [i64_w, i32_w]; rw [c21b0]) | skip)
              have H' := Aside0.mk H
              clear H
              go_wp2
              go_meet
              case rel => exact ⟨_, ((x4_1 != 1)), (by first | rfl | (simp; done) | (simp [*]; done)), H', ⟨by have := HK1.out; first | omega | exact Nat.le_refl _⟩, ⟨by (with_reducible repeat (first | refine blk_drewN ?_ _ | refine blk_drew ?_ | refine blk_alloc ?_ _)); exact BK187.out⟩, ⟨by repeat (first | (with_reducible first | exact HB.out | apply below_alloc | apply pw_below_drewN | apply below_drew1 | refine below_set ?_ GE187.out) | exact HB.out)⟩⟩
            · rw [if_neg c21] at H
              have c21b0 : decide (0 < (l0_0.length : Int)) = false := decide_eq_false c21
              have c21b1 : decide (0 < l0_0.length) = false := decide_eq_false (by omega)
              clear c21
              (first | rw [c21b0] | (simp only [i64_w, i32_w]; rw [c21b0]) | skip)
              have H' := Aside0.mk H
              clear H
              go_wp2
              go_meet
              case rel => exact ⟨_, (false), (by first | rfl | (simp; done) | (simp [*]; done)), H', ⟨by have := HK1.out; first | omega | exact Nat.le_refl _⟩, ⟨by (with_reducible repeat (first | refine blk_drewN ?_ _ | refine blk_drew ?_ | refine blk_alloc ?_ _)); exact BK187.out⟩, ⟨by repeat (first | (with_reducible first | exact HB.out | apply below_alloc | apply pw_below_drewN | apply below_drew1 | refine below_set ?_ GE187.out) | exact HB.out)⟩⟩
          case rest =>
            clear HC20
            try clear c1
            try clear p1
            try clear q1
            try clear hx1
            try clear c2
            try clear c2b0
            try clear c2b1
            try clear c2b2
            try clear p2
            try clear c5
            try clear c5b0
            try clear p6
            try clear c7
            try clear c7b0
            try clear c8
            try clear c8b0
            try clear c9
            try clear c9b0
            try clear c11
            try clear c11b0
            try clear c14
            try clear c15
            try clear c15b0
            try clear c16
            try clear c16b0
            try clear c17
            try clear c17b0
            try clear c17b1
            try clear p18
            try clear q18
            try clear hx18
            try clear c19
            try clear p19
            try clear q19
            try clear hx19
            try clear c21
            try clear c21b0
            try clear c21b1
            try clear hcz10_0
            try clear hcz10_1
            try clear hcz12_0
            try clear hcz12_1
            try clear hcz13_0
            try clear hcz13_1
            try clear hcz18_0
            try clear hcz18_1
            try clear hcz19_0
            try clear hcz19_1
            try clear hcz4_0
            try clear hcz4_1
            try clear hfz10_0
            try clear hfz10_1
            try clear hfz12_0
            try clear hfz12_1
            try clear hfz13_0
            try clear hfz13_1
            try clear hfz18_0
            try clear hfz18_1
            try clear hfz19_0
            try clear hfz19_1
            try clear hfz4_0
            try clear hfz4_1
            try clear hx188_0
            try clear hx189_0
            try clear hx190_0
            try clear hx191_0
            try clear p1
            try clear p188
            try clear p189
            try clear p190
            try clear p191
            try clear p2
            try clear q1
            try clear q188
            try clear q189
            try clear q190
            try clear q191
            obtain ⟨kq, x59_19, rfl, HA, HJ19, BK187, HB⟩ := hcut
            cases kq with
            | zero => exact absurd HA.out (by simp [arboristref12_Tree.j2])
            | succ kj19 =>
              have H := HA.out
              clear HA
              simp only [arboristref12_Tree.j2] at H
              by_cases c22 : x59_19 = true
              · subst c22
                have H1 : (some false) = some r := by rw [if_pos rfl] at H; exact H
                clear H
                have H := H1
                clear H1
                obtain rfl := Option.some.inj H
                go_wp2
                go_ret
                exact ⟨by first | rfl | (simp [errW_none, errW_some] <;> rfl) | (simp [*, errW_none, errW_some] <;> rfl), by repeat (first | (with_reducible first | exact HB.out | apply below_alloc | apply pw_below_drewN | apply below_drew1 | refine below_set ?_ GE187.out) | exact HB.out)⟩
              · replace c22 := Bool.eq_false_iff.mpr c22
                subst c22
                have H1 : (arboristref12_Tree.l1 kj19 (l0_0.length : Int) 0 l0_0 l0_1) = some r := by rw [if_neg (show ¬ (false = true) by decide)] at H; exact H
                clear H
                have H := H1
                clear H1
                have H' := Aside0.mk H
                clear H
                go_wp2
                go_loopg [6] kj19 (fun kq v6 w' => ∃ (x6_3 : Int), v6 = .int .i64 x6_3 ∧ Aside0 (arboristref12_Tree.l1 kq (l0_0.length : Int) x6_3 l0_0 l0_1 = some r) ∧ Aside0 (kq ≤ kj19) ∧ Aside0 (w'.heap[gb187]? = some (.cells #[(.slice A0_0 l0_0.length c0_0), (.slice A0_1 l0_1.length c0_1)] 25 (0, 0))) ∧ Aside0 (Below w.heap.size w w'))
                case atStart => exact ⟨(0), (by first | rfl | (simp; done) | (simp [*]; done)), H', ⟨Nat.le_refl _⟩, ⟨by (with_reducible repeat (first | refine blk_drewN ?_ _ | refine blk_drew ?_ | refine blk_alloc ?_ _)); exact BK187.out⟩, ⟨by repeat (first | (with_reducible first | exact HB.out | apply below_alloc | apply pw_below_drewN | apply below_drew1 | refine below_set ?_ GE187.out) | exact HB.out)⟩⟩
                case round =>
                  clear H'
                  try clear c1
                  try clear p1
                  try clear q1
                  try clear hx1
                  try clear c2
                  try clear c2b0
                  try clear c2b1
                  try clear c2b2
                  try clear p2
                  try clear c5
                  try clear c5b0
                  try clear p6
                  try clear c7
                  try clear c7b0
                  try clear c8
                  try clear c8b0
                  try clear c9
                  try clear c9b0
                  try clear c11
                  try clear c11b0
                  try clear c14
                  try clear c15
                  try clear c15b0
                  try clear c16
                  try clear c16b0
                  try clear c17
                  try clear c17b0
                  try clear c17b1
                  try clear p18
                  try clear q18
                  try clear hx18
                  try clear c19
                  try clear p19
                  try clear q19
                  try clear hx19
                  try clear c21
                  try clear c21b0
                  try clear c21b1
                  try clear c22
                  try clear hcz10_0
                  try clear hcz10_1
                  try clear hcz12_0
                  try clear hcz12_1
                  try clear hcz13_0
                  try clear hcz13_1
                  try clear hcz18_0
                  try clear hcz18_1
                  try clear hcz19_0
                  try clear hcz19_1
                  try clear hcz4_0
                  try clear hcz4_1
                  try clear hfz10_0
                  try clear hfz10_1
                  try clear hfz12_0
                  try clear hfz12_1
                  try clear hfz13_0
                  try clear hfz13_1
                  try clear hfz18_0
                  try clear hfz18_1
                  try clear hfz19_0
                  try clear hfz19_1
                  try clear hfz4_0
                  try clear hfz4_1
                  try clear hx188_0
                  try clear hx189_0
                  try clear hx190_0
                  try clear hx191_0
                  try clear p1
                  try clear p18
                  try clear p188
                  try clear p189
                  try clear p19
                  try clear p190
                  try clear p191
                  try clear p2
                  try clear p6
                  try clear q1
                  try clear q18
                  try clear q188
                  try clear q189
                  try clear q19
                  try clear q190
                  try clear q191
                  obtain ⟨x6_3, rfl, HA, HK3, BK187, HB⟩ := hrel
                  cases gk with
                  | zero => exact absurd HA.out (by simp [arboristref12_Tree.l1])
                  | succ k3 =>
                    have H := HA.out
                    clear HA
                    simp only [arboristref12_Tree.l1] at H
                    by_cases c23 : x6_3 < (l0_0.length : Int)
                    · rw [if_pos c23] at H
                      have c23b0 : decide (x6_3 < (l0_0.length : Int)) = true := decide_eq_true c23
                      clear c23
                      have H' := Aside0.mk H
                      clear H
                      go_wp2
                      go_loopg [7, 8] k3 (fun kq v7 v8 w' => ∃ (x7_4 : Int) (x8_4 : Int), v7 = .int .i64 x7_4 ∧ v8 = .int .i64 x8_4 ∧ Aside0 (arboristref12_Tree.l2 kq (l0_0.length : Int) x6_3 x7_4 x8_4 l0_0 l0_1 = some r) ∧ Aside0 (kq ≤ k3) ∧ Aside0 (w'.heap[gb187]? = some (.cells #[(.slice A0_0 l0_0.length c0_0), (.slice A0_1 l0_1.length c0_1)] 25 (0, 0))) ∧ Aside0 (Below w.heap.size w w'))
                      case atStart => exact ⟨(x6_3), (0), (by first | rfl | (simp; done) | (simp [*]; done)), (by first | rfl | (simp; done) | (simp [*]; done)), H', ⟨Nat.le_refl _⟩, ⟨by (with_reducible repeat (first | refine blk_drewN ?_ _ | refine blk_drew ?_ | refine blk_alloc ?_ _)); exact BK187.out⟩, ⟨by repeat (first | (with_reducible first | exact HB.out | apply below_alloc | apply pw_below_drewN | apply below_drew1 | refine below_set ?_ GE187.out) | exact HB.out)⟩⟩
                      case round =>
                        clear H'
                        try clear c1
                        try clear p1
                        try clear q1
                        try clear hx1
                        try clear c2
                        try clear c2b0
                        try clear c2b1
                        try clear c2b2
                        try clear p2
                        try clear c5
                        try clear c5b0
                        try clear p6
                        try clear c7
                        try clear c7b0
                        try clear c8
                        try clear c8b0
                        try clear c9
                        try clear c9b0
                        try clear c11
                        try clear c11b0
                        try clear c14
                        try clear c15
                        try clear c15b0
                        try clear c16
                        try clear c16b0
                        try clear c17
                        try clear c17b0
                        try clear c17b1
                        try clear p18
                        try clear q18
                        try clear hx18
                        try clear c19
                        try clear p19
                        try clear q19
                        try clear hx19
                        try clear c21
                        try clear c21b0
                        try clear c21b1
                        try clear c22
                        try clear c23
                        try clear c23b0
                        try clear hcz10_0
                        try clear hcz10_1
                        try clear hcz12_0
                        try clear hcz12_1
                        try clear hcz13_0
                        try clear hcz13_1
                        try clear hcz18_0
                        try clear hcz18_1
                        try clear hcz19_0
                        try clear hcz19_1
                        try clear hcz4_0
                        try clear hcz4_1
                        try clear hfz10_0
                        try clear hfz10_1
                        try clear hfz12_0
                        try clear hfz12_1
                        try clear hfz13_0
                        try clear hfz13_1
                        try clear hfz18_0
                        try clear hfz18_1
                        try clear hfz19_0
                        try clear hfz19_1
                        try clear hfz4_0
                        try clear hfz4_1
                        try clear hx188_0
                        try clear hx189_0
                        try clear hx190_0
                        try clear hx191_0
                        try clear p1
                        try clear p18
                        try clear p188
                        try clear p189
                        try clear p19
                        try clear p190
                        try clear p191
                        try clear p2
                        try clear p6
                        try clear q1
                        try clear q18
                        try clear q188
                        try clear q189
                        try clear q19
                        try clear q190
                        try clear q191
                        obtain ⟨x7_4, x8_4, rfl, rfl, HA, HK4, BK187, HB⟩ := hrel
                        cases gk with
                        | zero => exact absurd HA.out (by simp [arboristref12_Tree.l2])
                        | succ k4 =>
                          have H := HA.out
                          clear HA
                          simp only [arboristref12_Tree.l2] at H
                          by_cases c24 : x8_4 < (l0_0.length : Int)
                          · rw [if_pos c24] at H
                            have c24b0 : decide (x8_4 < (l0_0.length : Int)) = true := decide_eq_true c24
                            clear c24
                            by_cases c25 : x7_4 ≥ 0
                            · rw [if_pos c25] at H
                              have c25b0 : decide (0 ≤ x7_4) = true := decide_eq_true c25
                              clear c25
                              by_cases c26 : 0 ≤ x7_4
                              · rw [if_pos c26] at H
                                have c26b0 : decide (0 ≤ x7_4) = true := decide_eq_true c26
                                clear c26
                                by_cases c27 : x7_4 < (l0_1.length : Int)
                                · rw [if_pos c27] at H
                                  have c27b0 : decide (x7_4 < (l0_1.length : Int)) = true := decide_eq_true c27
                                  clear c27
                                  have H' := Aside0.mk H
                                  clear H
                                  have hcz28_0 : wr.cell? ⟨gb187, 0, none⟩ = some (.slice A0_0 l0_0.length c0_0) := (blk_cell BK187.out 0).trans rfl
                                  have hcz28_1 : wr.cell? ⟨gb187, 1, none⟩ = some (.slice A0_1 l0_1.length c0_1) := (blk_cell BK187.out 1).trans rfl
                                  have hfz28_0 := blk_frozen BK187.out 0
                                  have hfz28_1 := blk_frozen BK187.out 1
                                  have p192 : 0 ≤ (x7_4 : Int) := of_decide_eq_true (by first | (with_reducible assumption) | assumption)
                                  have q192 : x7_4 < (l0_1.length : Int) := of_decide_eq_true (by first | (with_reducible assumption) | assumption)
                                  obtain ⟨ad192, e192, hx192_0⟩ := Kd.at_int HR0_1.out x7_4 p192 q192
                                  cases e192
                                  replace hx192_0 := (HB.out.cell (World.block_lt_of_cell? w _ hx192_0)).trans hx192_0
                                  replace p192 := eq_true p192
                                  replace q192 := eq_true q192
                                  go_wp2
                                  go_roundg k4
                                  case measure => have := HK1.out; have := HJ19.out; have := HK3.out; have := HK4.out; omega
                                  case rel => exact ⟨(rd l0_1 x7_4), (wrap64 (x8_4 + 1)), (by first | rfl | (simp; done) | (simp [*]; done)), (by first | rfl | (simp; done) | (simp [*]; done)), H', ⟨by have := HK1.out; have := HJ19.out; have := HK3.out; have := HK4.out; omega⟩, ⟨by (with_reducible repeat (first | refine blk_drewN ?_ _ | refine blk_drew ?_ | refine blk_alloc ?_ _)); exact BK187.out⟩, ⟨by repeat (first | (with_reducible first | exact HB.out | apply below_alloc | apply pw_below_drewN | apply below_drew1 | refine below_set ?_ GE187.out) | exact HB.out)⟩⟩
                                · rw [if_neg c27] at H
                                  exact absurd H (by simp)
                              · rw [if_neg c26] at H
                                exact absurd H (by simp)
                            · rw [if_neg c25] at H
                              have c25b0 : decide (0 ≤ x7_4) = false := decide_eq_false c25
                              clear c25
                              have H' := Aside0.mk H
                              clear H
                              go_wp2
                              go_roundg k4
                              case measure => have := HK1.out; have := HJ19.out; have := HK3.out; have := HK4.out; omega
                              case rel => exact ⟨(wrap64 (x6_3 + 1)), (by first | rfl | (simp; done) | (simp [*]; done)), H', ⟨by have := HK1.out; have := HJ19.out; have := HK3.out; have := HK4.out; omega⟩, ⟨by (with_reducible repeat (first | refine blk_drewN ?_ _ | refine blk_drew ?_ | refine blk_alloc ?_ _)); exact BK187.out⟩, ⟨by repeat (first | (with_reducible first | exact HB.out | apply below_alloc | apply pw_below_drewN | apply below_drew1 | refine below_set ?_ GE187.out) | exact HB.out)⟩⟩
                          · rw [if_neg c24] at H
                            have c24b0 : decide (x8_4 < (l0_0.length : Int)) = false := decide_eq_false c24
                            clear c24
                            by_cases c29 : x7_4 ≥ 0
                            · rw [if_pos c29] at H
                              have c29b0 : decide (0 ≤ x7_4) = true := decide_eq_true c29
                              clear c29
                              obtain rfl := Option.some.inj H
                              go_wp2
                              go_ret
                              exact ⟨by first | rfl | (simp [errW_none, errW_some] <;> rfl) | (simp [*, errW_none, errW_some] <;> rfl), by repeat (first | (with_reducible first | exact HB.out | apply below_alloc | apply pw_below_drewN | apply below_drew1 | refine below_set ?_ GE187.out) | exact HB.out)⟩
                            · rw [if_neg c29] at H
                              have c29b0 : decide (0 ≤ x7_4) = false := decide_eq_false c29
                              clear c29
                              have H' := Aside0.mk H
                              clear H
                              go_wp2
                              go_roundg k4
                              case measure => have := HK1.out; have := HJ19.out; have := HK3.out; have := HK4.out; omega
                              case rel => exact ⟨(wrap64 (x6_3 + 1)), (by first | rfl | (simp; done) | (simp [*]; done)), H', ⟨by have := HK1.out; have := HJ19.out; have := HK3.out; have := HK4.out; omega⟩, ⟨by (with_reducible repeat (first | refine blk_drewN ?_ _ | refine blk_drew ?_ | refine blk_alloc ?_ _)); exact BK187.out⟩, ⟨by repeat (first | (with_reducible first | exact HB.out | apply below_alloc | apply pw_below_drewN | apply below_drew1 | refine below_set ?_ GE187.out) | exact HB.out)⟩⟩
                    · rw [if_neg c23] at H
                      have c23b0 : decide (x6_3 < (l0_0.length : Int)) = false := decide_eq_false c23
                      clear c23
                      obtain rfl := Option.some.inj H
                      go_wp2
                      go_ret
                      exact ⟨by first | rfl | (simp [errW_none, errW_some] <;> rfl) | (simp [*, errW_none, errW_some] <;> rfl), by repeat (first | (with_reducible first | exact HB.out | apply below_alloc | apply pw_below_drewN | apply below_drew1 | refine below_set ?_ GE187.out) | exact HB.out)⟩
  · rw [if_neg c2] at H
    have c2b0 : ((l0_1.length : Int) == (l0_0.length : Int)) = false := beq_eq_false_iff_ne.mpr c2
    have c2b1 : ((l0_1.length : Int) != (l0_0.length : Int)) = true := bne_iff_ne.mpr c2
    have c2b2 : (l0_1.length == l0_0.length) = false := by first | simpa using c2 | (simp at c2 ⊢; omega)
    obtain rfl := Option.some.inj H
    go_enter Try.func19, Try.ntmps19
    go_wp2_with (first | ((with_reducible refine gate_dst (N := 1) rfl ?_); refine box_event ?hg (N := 1) ?hd (cs := #[.slice A0_0 l0_0.length c0_0, .slice A0_1 l0_1.length c0_1]) (t := 25) ?hr ?_; (case hd => rfl); (case hg => rfl); (case hr => first | (go_simp; done) | (go_simp; rfl)); intro gb187 hg w30 hbox hb; have n0_ := Aside0.mk (below_step (by repeat (first | (with_reducible first | exact HB.out | apply below_alloc | apply pw_below_drewN | apply below_drew1) | exact HB.out)) hb); have n1_ := Aside0.mk (hbox); have n2_ := Aside0.mk ((by rw [hg]; exact (below_size (by repeat (first | (with_reducible first | exact HB.out | apply below_alloc | apply pw_below_drewN | apply below_drew1) | exact HB.out))) : w.heap.size ≤ gb187)); have n3_ := Aside0.mk ((by rw [hg]; exact (below_size (by repeat (first | (with_reducible first | exact HB.out | apply below_alloc | apply pw_below_drewN | apply below_drew1) | exact HB.out))) : w.heap.size ≤ gb187)); clear HB; have HB := n0_; have BK187 := n1_; have GW187 := n2_; have GE187 := n3_; clear n0_ n1_ n2_ n3_; clear hb hbox hg; have hcz31_0 : w30.cell? ⟨gb187, 0, none⟩ = some (.slice A0_0 l0_0.length c0_0) := (blk_cell BK187.out 0).trans rfl; have hcz31_1 : w30.cell? ⟨gb187, 1, none⟩ = some (.slice A0_1 l0_1.length c0_1) := (blk_cell BK187.out 1).trans rfl; have hfz31_0 := blk_frozen BK187.out 0; have hfz31_1 := blk_frozen BK187.out 1))
    go_ret
    exact ⟨by first | rfl | (simp [errW_none, errW_some] <;> rfl) | (simp [*, errW_none, errW_some] <;> rfl), by repeat (first | (with_reducible first | exact HB.out | apply below_alloc | apply pw_below_drewN | apply below_drew1 | refine below_set ?_ GE187.out) | exact HB.out)⟩

end Go.Proofs.Ytpmfdggbccbfaaa.Pr
