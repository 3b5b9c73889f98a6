-- Printed by a program of this session's own (wip/tools/pp.py) over the kit's print.py; Lean checks it.
import Derived.Test.YtpmfdggbccbfaaaPr0
namespace Go.Proofs.Ytpmfdggbccbfaaa.Pr
open Go.RowKit Go.Proofs.YtpmfdggbccbfaaaW.PrintWords Go.Proofs.YtpmfdggbccbfaaaW.PrintLast Go.Proofs.YtpmfdggbccbfaaaW.PrintMore
attribute [local go_sem] max2_int min2_int max_two min_two max_three min_three max_four min_four   -- for this text's walks alone
set_option linter.unusedVariables false
set_option linter.unusedSimpArgs false

/-! ### valid_Tree: function 18 -/
mutual
def valid_Tree.l0 : Nat → Int → Int → List Int → Int → Int → List (List Int) → List Int → Option (Bool)
  | 0, _, _, _, _, _, _, _ => none
  | k + 1, x3, x4, x22, x23, x24, x102000, x102001 => if x24 < x23 then (if 0 ≤ x24 then (if x24 < (x22.length : Int) then (if (rd x22 x24) < (-1) then (valid_Tree.j1 k x3 x4 (rd x22 x24) x22 x23 x24 true x102000 x102001) else (if (rd x22 x24) ≥ x3 then (valid_Tree.j1 k x3 x4 (rd x22 x24) x22 x23 x24 true x102000 x102001) else (valid_Tree.j1 k x3 x4 (rd x22 x24) x22 x23 x24 ((rd x22 x24) == x24) x102000 x102001))) else (none)) else (none)) else (if x3 > 0 then (valid_Tree.j2 k x3 (x4 != 1) x102000 x102001) else (valid_Tree.j2 k x3 false x102000 x102001))
def valid_Tree.j1 : Nat → Int → Int → Int → List Int → Int → Int → Bool → List (List Int) → List Int → Option (Bool)
  | 0, _, _, _, _, _, _, _, _, _ => none
  | k + 1, x3, x4, x6, x22, x23, x24, x40, x102000, x102001 => if x40 = true then (some false) else (if x6 = (-1) then (valid_Tree.l0 k x3 (wrap64 (x4 + 1)) x22 x23 (wrap64 (x24 + 1)) x102000 x102001) else (valid_Tree.l0 k x3 x4 x22 x23 (wrap64 (x24 + 1)) x102000 x102001))
def valid_Tree.j2 : Nat → Int → Bool → List (List Int) → List Int → Option (Bool)
  | 0, _, _, _, _ => none
  | k + 1, x3, x51, x102000, x102001 => if x51 = true then (some false) else (if 0 ≤ x3 then (if (x3 : Int).toNat ≤ 281474976710656 then (valid_Tree.l1 k x3 (List.replicate (x3 : Int).toNat false) (x102000.length : Int) 0 x102000 x102001) else (none)) else (none))
def valid_Tree.l1 : Nat → Int → List Bool → Int → Int → List (List Int) → List Int → Option (Bool)
  | 0, _, _, _, _, _, _ => none
  | k + 1, x3, x7, x56, x57, x102000, x102001 => if x57 < x56 then (valid_Tree.l2 k x3 x7 ([] : List Int) x57 x56 x57 x102000 x102001) else (some true)
def valid_Tree.l2 : Nat → Int → List Bool → List Int → Int → Int → Int → List (List Int) → List Int → Option (Bool)
  | 0, _, _, _, _, _, _, _, _ => none
  | k + 1, x3, x7, x9, x10, x56, x57, x102000, x102001 => if x10 = (-1) then (valid_Tree.j5 k x3 x7 x9 x10 x56 x57 false x102000 x102001) else (if 0 ≤ x10 then (if x10 < (x7.length : Int) then (valid_Tree.j5 k x3 x7 x9 x10 x56 x57 (!(rdOf false x7 x10)) x102000 x102001) else (none)) else (none))
def valid_Tree.j5 : Nat → Int → List Bool → List Int → Int → Int → Int → Bool → List (List Int) → List Int → Option (Bool)
  | 0, _, _, _, _, _, _, _, _, _ => none
  | k + 1, x3, x7, x9, x10, x56, x57, x69, x102000, x102001 => if x69 = true then (if x9.length < 17592186044416 then ((some (x9 ++ [x10] : List Int)).bind fun y107 => (if (y107.length : Int) > x3 then (some false) else (if 0 ≤ x10 then (if x10 < (x102001.length : Int) then (valid_Tree.l2 k x3 x7 y107 (rd x102001 x10) x56 x57 x102000 x102001) else (none)) else (none)))) else (none)) else (valid_Tree.l3 k x3 x7 x56 x57 x9 (x9.length : Int) 0 x102000 x102001)
def valid_Tree.l3 : Nat → Int → List Bool → Int → Int → List Int → Int → Int → List (List Int) → List Int → Option (Bool)
  | 0, _, _, _, _, _, _, _, _, _ => none
  | k + 1, x3, x7, x56, x57, x83, x84, x85, x102000, x102001 => if x85 < x84 then (if 0 ≤ x85 then (if x85 < (x83.length : Int) then (if 0 ≤ (rd x83 x85) then (if (rd x83 x85) < (x7.length : Int) then (valid_Tree.l3 k x3 (x7.set ((rd x83 x85) : Int).toNat true) x56 x57 x83 x84 (wrap64 (x85 + 1)) x102000 x102001) else (none)) else (none)) else (none)) else (none)) else (valid_Tree.l1 k x3 x7 x56 (wrap64 (x57 + 1)) x102000 x102001)
end
def valid_Tree.f (k : Nat) (l0_0 : List (List Int)) (l0_1 : List Int) : Option (Bool) := if (l0_1.length : Int) = (l0_0.length : Int) then (valid_Tree.l0 k (l0_0.length : Int) 0 l0_1 (l0_1.length : Int) 0 l0_0 l0_1) else (some false)
theorem valid_Tree.mono_l : ∀ k, (∀ y0 y1 y2 y3 y4 y5 y6, LeO (valid_Tree.l0 k y0 y1 y2 y3 y4 y5 y6) (valid_Tree.l0 (k + 1) y0 y1 y2 y3 y4 y5 y6)) ∧ (∀ y0 y1 y2 y3 y4 y5 y6 y7 y8, LeO (valid_Tree.j1 k y0 y1 y2 y3 y4 y5 y6 y7 y8) (valid_Tree.j1 (k + 1) y0 y1 y2 y3 y4 y5 y6 y7 y8)) ∧ (∀ y0 y1 y2 y3, LeO (valid_Tree.j2 k y0 y1 y2 y3) (valid_Tree.j2 (k + 1) y0 y1 y2 y3)) ∧ (∀ y0 y1 y2 y3 y4 y5, LeO (valid_Tree.l1 k y0 y1 y2 y3 y4 y5) (valid_Tree.l1 (k + 1) y0 y1 y2 y3 y4 y5)) ∧ (∀ y0 y1 y2 y3 y4 y5 y6 y7, LeO (valid_Tree.l2 k y0 y1 y2 y3 y4 y5 y6 y7) (valid_Tree.l2 (k + 1) y0 y1 y2 y3 y4 y5 y6 y7)) ∧ (∀ y0 y1 y2 y3 y4 y5 y6 y7 y8, LeO (valid_Tree.j5 k y0 y1 y2 y3 y4 y5 y6 y7 y8) (valid_Tree.j5 (k + 1) y0 y1 y2 y3 y4 y5 y6 y7 y8)) ∧ (∀ y0 y1 y2 y3 y4 y5 y6 y7 y8, LeO (valid_Tree.l3 k y0 y1 y2 y3 y4 y5 y6 y7 y8) (valid_Tree.l3 (k + 1) y0 y1 y2 y3 y4 y5 y6 y7 y8))
  | 0 => ⟨fun _ _ _ _ _ _ _ r h => by simp [valid_Tree.l0] at h, fun _ _ _ _ _ _ _ _ _ r h => by simp [valid_Tree.j1] at h, fun _ _ _ _ r h => by simp [valid_Tree.j2] at h, fun _ _ _ _ _ _ r h => by simp [valid_Tree.l1] at h, fun _ _ _ _ _ _ _ _ r h => by simp [valid_Tree.l2] at h, fun _ _ _ _ _ _ _ _ _ r h => by simp [valid_Tree.j5] at h, fun _ _ _ _ _ _ _ _ _ r h => by simp [valid_Tree.l3] at h⟩
  | k + 1 => by
    obtain ⟨ih0, ih1, ih2, ih3, ih4, ih5, ih6⟩ := valid_Tree.mono_l k
    refine ⟨?_, ?_, ?_, ?_, ?_, ?_, ?_⟩
    all_goals intros
    all_goals (first | unfold valid_Tree.l0 | unfold valid_Tree.j1 | unfold valid_Tree.j2 | unfold valid_Tree.l1 | unfold valid_Tree.l2 | unfold valid_Tree.j5 | unfold valid_Tree.l3)
    all_goals repeat' first
    | (with_reducible exact ih0 _ _ _ _ _ _ _)
    | (with_reducible exact ih1 _ _ _ _ _ _ _ _ _)
    | (with_reducible exact ih2 _ _ _ _)
    | (with_reducible exact ih3 _ _ _ _ _ _)
    | (with_reducible exact ih4 _ _ _ _ _ _ _ _)
    | (with_reducible exact ih5 _ _ _ _ _ _ _ _ _)
    | (with_reducible exact ih6 _ _ _ _ _ _ _ _ _)
    | (with_reducible exact LeO.refl _)
    | (with_reducible exact LeO.none _)
    | (with_reducible refine LeO.ite ?_ ?_)
    | (with_reducible refine LeO.bind ?_ (fun _ => ?_))
    | exact ih0 _ _ _ _ _ _ _
    | exact ih1 _ _ _ _ _ _ _ _ _
    | exact ih2 _ _ _ _
    | exact ih3 _ _ _ _ _ _
    | exact ih4 _ _ _ _ _ _ _ _
    | exact ih5 _ _ _ _ _ _ _ _ _
    | exact ih6 _ _ _ _ _ _ _ _ _
    | exact LeO.none _
    | refine LeO.ite ?_ ?_
    | refine LeO.bind ?_ (fun _ => ?_)
theorem valid_Tree.mono : ∀ a0 a1 k, LeO (valid_Tree.f k a0 a1) (valid_Tree.f (k + 1) a0 a1) := by
  intro a0 a1 k
  obtain ⟨ih0, ih1, ih2, ih3, ih4, ih5, ih6⟩ := valid_Tree.mono_l k
  unfold valid_Tree.f
  repeat' first
      | (with_reducible exact ih0 _ _ _ _ _ _ _)
      | (with_reducible exact ih1 _ _ _ _ _ _ _ _ _)
      | (with_reducible exact ih2 _ _ _ _)
      | (with_reducible exact ih3 _ _ _ _ _ _)
      | (with_reducible exact ih4 _ _ _ _ _ _ _ _)
      | (with_reducible exact ih5 _ _ _ _ _ _ _ _ _)
      | (with_reducible exact ih6 _ _ _ _ _ _ _ _ _)
      | (with_reducible exact LeO.refl _)
      | (with_reducible exact LeO.none _)
      | (with_reducible refine LeO.ite ?_ ?_)
      | (with_reducible refine LeO.bind ?_ (fun _ => ?_))
      | exact ih0 _ _ _ _ _ _ _
      | exact ih1 _ _ _ _ _ _ _ _ _
      | exact ih2 _ _ _ _
      | exact ih3 _ _ _ _ _ _
      | exact ih4 _ _ _ _ _ _ _ _
      | exact ih5 _ _ _ _ _ _ _ _ _
      | exact ih6 _ _ _ _ _ _ _ _ _
      | exact LeO.none _
      | refine LeO.ite ?_ ?_
      | refine LeO.bind ?_ (fun _ => ?_)
set_option maxHeartbeats 8000000 in
set_option maxRecDepth 100000 in
theorem valid_Tree.calls (k : Nat) (A0_0 : Option Addr) (c0_0 : Nat) (l0_0 : List (List Int)) (A0_1 : Option Addr) (c0_1 : Nat) (l0_1 : List Int) (r : Bool) (w : World) (hr0_0 : Kd.C (Kd.slice 3 (Kd.int .i64)) w A0_0 l0_0.length l0_0) (hc0_0 : l0_0.length ≤ c0_0) (hr0_1 : Kd.C (Kd.int .i64) w A0_1 l0_1.length l0_1) (hc0_1 : l0_1.length ≤ c0_1) (h : valid_Tree.f k l0_0 l0_1 = some r) :
    Calls Try.prog 18 #[.agg #[.slice A0_0 l0_0.length c0_0, .slice A0_1 l0_1.length c0_1]] w fun e w' => e = .returned (.bool r) ∧ Below w.heap.size w w' := by
  have hu25 := Try.underlying25
  have HR0_0 := Aside0.mk hr0_0
  have HC0_0 := Aside0.mk hc0_0
  clear hr0_0 hc0_0
  have HR0_1 := Aside0.mk hr0_1
  have HC0_1 := Aside0.mk hc0_1
  clear hr0_1 hc0_1
  have HB := Aside0.mk (Below.refl w.heap.size w)
  have H : (if (l0_1.length : Int) = (l0_0.length : Int) then (valid_Tree.l0 k (l0_0.length : Int) 0 l0_1 (l0_1.length : Int) 0 l0_0 l0_1) else (some false)) = some r := h
  clear h
  by_cases c2 : (l0_1.length : Int) = (l0_0.length : Int)
  · rw [if_pos c2] at H
    have c2b0 : ((l0_1.length : Int) == (l0_0.length : Int)) = true := beq_iff_eq.mpr c2
    have c2b1 : ((l0_1.length : Int) != (l0_0.length : Int)) = false := bne_eq_false_iff_eq.mpr c2
    have c2b2 : (l0_1.length == l0_0.length) = true := by first | simpa using c2 | (simp at c2 ⊢; omega)
    clear c2
    have H' := Aside0.mk H
    clear H
    go_enter Try.func18, Try.ntmps18
    go_wp2_with (first | ((with_reducible refine gate_dst (N := 1) rfl ?_); refine box_event ?hg (N := 1) ?hd (cs := #[.slice A0_0 l0_0.length c0_0, .slice A0_1 l0_1.length c0_1]) (t := 25) ?hr ?_; (case hd => rfl); (case hg => rfl); (case hr => first | (go_simp; done) | (go_simp; rfl)); intro gb101 hg w3 hbox hb; have n0_ := Aside0.mk (below_step (by repeat (first | (with_reducible first | exact HB.out | apply below_alloc | apply pw_below_drewN | apply below_drew1) | exact HB.out)) hb); have n1_ := Aside0.mk (hbox); have n2_ := Aside0.mk ((by rw [hg]; exact (below_size (by repeat (first | (with_reducible first | exact HB.out | apply below_alloc | apply pw_below_drewN | apply below_drew1) | exact HB.out))) : w.heap.size ≤ gb101)); have n3_ := Aside0.mk ((by rw [hg]; exact (below_size (by repeat (first | (with_reducible first | exact HB.out | apply below_alloc | apply pw_below_drewN | apply below_drew1) | exact HB.out))) : w.heap.size ≤ gb101)); clear HB; have HB := n0_; have BK101 := n1_; have GW101 := n2_; have GE101 := n3_; clear n0_ n1_ n2_ n3_; clear hb hbox hg; have hcz4_0 : w3.cell? ⟨gb101, 0, none⟩ = some (.slice A0_0 l0_0.length c0_0) := (blk_cell BK101.out 0).trans rfl; have hcz4_1 : w3.cell? ⟨gb101, 1, none⟩ = some (.slice A0_1 l0_1.length c0_1) := (blk_cell BK101.out 1).trans rfl; have hfz4_0 := blk_frozen BK101.out 0; have hfz4_1 := blk_frozen BK101.out 1))
    go_loopg [4, 24] k (fun kq v4 v24 w' => ∃ (x4_1 : Int) (x24_1 : Int), v4 = .int .i64 x4_1 ∧ v24 = .int .i64 x24_1 ∧ Aside0 (valid_Tree.l0 kq (l0_0.length : Int) x4_1 l0_1 (l0_1.length : Int) x24_1 l0_0 l0_1 = some r) ∧ Aside0 (kq ≤ k) ∧ Aside0 (w'.heap[gb101]? = some (.cells #[(.slice A0_0 l0_0.length c0_0), (.slice A0_1 l0_1.length c0_1)] 25 (0, 0))) ∧ Aside0 (Below w.heap.size w w'))
    case atStart => exact ⟨(0), (0), (by first | rfl | (simp; done) | (simp [*]; done)), (by first | rfl | (simp; done) | (simp [*]; done)), H', ⟨Nat.le_refl _⟩, ⟨by (with_reducible repeat (first | refine blk_drewN ?_ _ | refine blk_drew ?_ | refine blk_alloc ?_ _)); exact BK101.out⟩, ⟨by repeat (first | (with_reducible first | exact HB.out | apply below_alloc | apply pw_below_drewN | apply below_drew1 | refine below_set ?_ GE101.out) | exact HB.out)⟩⟩
    case round =>
      clear H'
      try clear c1
      try clear c2
      try clear c2b0
      try clear c2b1
      try clear c2b2
      try clear p2
      try clear hcz4_0
      try clear hcz4_1
      try clear hfz4_0
      try clear hfz4_1
      obtain ⟨x4_1, x24_1, rfl, rfl, HA, HK1, BK101, HB⟩ := hrel
      cases gk with
      | zero => exact absurd HA.out (by simp [valid_Tree.l0])
      | succ k1 =>
        have H := HA.out
        clear HA
        simp only [valid_Tree.l0] at H
        by_cases c5 : x24_1 < (l0_1.length : Int)
        · rw [if_pos c5] at H
          have c5b0 : decide (x24_1 < (l0_1.length : Int)) = true := decide_eq_true c5
          clear c5
          by_cases c6 : 0 ≤ x24_1
          · rw [if_pos c6] at H
            have c6b0 : decide (0 ≤ x24_1) = true := decide_eq_true c6
            clear c6
            by_cases c7 : x24_1 < (l0_1.length : Int)
            · rw [if_pos c7] at H
              have c7b0 : decide (x24_1 < (l0_1.length : Int)) = true := decide_eq_true c7
              clear c7
              have HC8 := Aside0.mk H
              clear H
              have p102 : 0 ≤ (x24_1 : Int) := of_decide_eq_true (by first | (with_reducible assumption) | assumption)
              have q102 : x24_1 < (l0_1.length : Int) := of_decide_eq_true (by first | (with_reducible assumption) | assumption)
              obtain ⟨ad102, e102, hx102_0⟩ := Kd.at_int HR0_1.out x24_1 p102 q102
              cases e102
              replace hx102_0 := (HB.out.cell (World.block_lt_of_cell? w _ hx102_0)).trans hx102_0
              replace p102 := eq_true p102
              replace q102 := eq_true q102
              go_upto_region 7 with (fail)
              go_cut [40] (fun v40 wc => ∃ (kq : Nat) (x40_7 : Bool), v40 = .bool x40_7 ∧ Aside0 (valid_Tree.j1 kq (l0_0.length : Int) x4_1 (rd l0_1 x24_1) l0_1 (l0_1.length : Int) x24_1 x40_7 l0_0 l0_1 = some r) ∧ Aside0 (kq ≤ k1) ∧ Aside0 (wc.heap[gb101]? = some (.cells #[(.slice A0_0 l0_0.length c0_0), (.slice (some ad102) l0_1.length c0_1)] 25 (0, 0))) ∧ Aside0 (Below w.heap.size w wc))
              case first =>
                have H := HC8.out
                clear HC8
                by_cases c9 : (rd l0_1 x24_1) < (-1)
                · rw [if_pos c9] at H
                  have c9b0 : decide ((rd l0_1 x24_1) < (-1)) = true := decide_eq_true c9
                  clear c9
                  (first | rw [c9b0] | (simp only [i64_w, i32_w]; rw [c9b0]) | skip)
                  have H' := Aside0.mk H
                  clear H
                  go_wp2
                  go_meet
                  case rel => exact ⟨_, (true), (by first | rfl | (simp; done) | (simp [*]; done)), H', ⟨by have := HK1.out; first | omega | exact Nat.le_refl _⟩, ⟨by (with_reducible repeat (first | refine blk_drewN ?_ _ | refine blk_drew ?_ | refine blk_alloc ?_ _)); exact BK101.out⟩, ⟨by repeat (first | (with_reducible first | exact HB.out | apply below_alloc | apply pw_below_drewN | apply below_drew1 | refine below_set ?_ GE101.out) | exact HB.out)⟩⟩
                · rw [if_neg c9] at H
                  have c9b0 : decide ((rd l0_1 x24_1) < (-1)) = false := decide_eq_false c9
                  clear c9
                  (first | rw [c9b0] | (simp only [i64_w, i32_w]; rw [c9b0]) | skip)
                  by_cases c10 : (rd l0_1 x24_1) ≥ (l0_0.length : Int)
                  · rw [if_pos c10] at H
                    have c10b0 : decide ((l0_0.length : Int) ≤ (rd l0_1 x24_1)) = true := decide_eq_true c10
                    clear c10
                    have H' := Aside0.mk H
                    clear H
                    go_wp2
                    go_meet
                    case rel => exact ⟨_, (true), (by first | rfl | (simp; done) | (simp [*]; done)), H', ⟨by have := HK1.out; first | omega | exact Nat.le_refl _⟩, ⟨by (with_reducible repeat (first | refine blk_drewN ?_ _ | refine blk_drew ?_ | refine blk_alloc ?_ _)); exact BK101.out⟩, ⟨by repeat (first | (with_reducible first | exact HB.out | apply below_alloc | apply pw_below_drewN | apply below_drew1 | refine below_set ?_ GE101.out) | exact HB.out)⟩⟩
                  · rw [if_neg c10] at H
                    have c10b0 : decide ((l0_0.length : Int) ≤ (rd l0_1 x24_1)) = false := decide_eq_false c10
                    clear c10
                    have H' := Aside0.mk H
                    clear H
                    go_wp2
                    go_meet
                    case rel => exact ⟨_, (((rd l0_1 x24_1) == x24_1)), (by first | rfl | (simp; done) | (simp [*]; done)), H', ⟨by have := HK1.out; first | omega | exact Nat.le_refl _⟩, ⟨by (with_reducible repeat (first | refine blk_drewN ?_ _ | refine blk_drew ?_ | refine blk_alloc ?_ _)); exact BK101.out⟩, ⟨by repeat (first | (with_reducible first | exact HB.out | apply below_alloc | apply pw_below_drewN | apply below_drew1 | refine below_set ?_ GE101.out) | exact HB.out)⟩⟩
              case rest =>
                clear HC8
                try clear c1
                try clear p1
                try clear q1
                try clear hx1
                try clear c2
                try clear c2b0
                try clear c2b1
                try clear c2b2
                try clear p2
                try clear c5
                try clear c5b0
                try clear c6
                try clear c6b0
                try clear c7
                try clear c7b0
                try clear c9
                try clear c9b0
                try clear c10
                try clear c10b0
                try clear p10
                try clear q10
                try clear hx10
                try clear hcz4_0
                try clear hcz4_1
                try clear hfz4_0
                try clear hfz4_1
                try clear hx102_0
                try clear p102
                try clear p2
                try clear q102
                obtain ⟨kq, x40_7, rfl, HA, HJ7, BK101, HB⟩ := hcut
                cases kq with
                | zero => exact absurd HA.out (by simp [valid_Tree.j1])
                | succ kj7 =>
                  have H := HA.out
                  clear HA
                  simp only [valid_Tree.j1] at H
                  by_cases c11 : x40_7 = true
                  · subst c11
                    have H1 : (some false) = some r := by rw [if_pos rfl] at H; exact H
                    clear H
                    have H := H1
                    clear H1
                    obtain rfl := Option.some.inj H
                    go_wp2
                    go_ret
                    exact ⟨by first | rfl | (simp [errW_none, errW_some] <;> rfl) | (simp [*, errW_none, errW_some] <;> rfl), by repeat (first | (with_reducible first | exact HB.out | apply below_alloc | apply pw_below_drewN | apply below_drew1 | refine below_set ?_ GE101.out) | exact HB.out)⟩
                  · replace c11 := Bool.eq_false_iff.mpr c11
                    subst c11
                    have H1 : (if (rd l0_1 x24_1) = (-1) then (valid_Tree.l0 kj7 (l0_0.length : Int) (wrap64 (x4_1 + 1)) l0_1 (l0_1.length : Int) (wrap64 (x24_1 + 1)) l0_0 l0_1) else (valid_Tree.l0 kj7 (l0_0.length : Int) x4_1 l0_1 (l0_1.length : Int) (wrap64 (x24_1 + 1)) l0_0 l0_1)) = some r := by rw [if_neg (show ¬ (false = true) by decide)] at H; exact H
                    clear H
                    have H := H1
                    clear H1
                    by_cases c12 : (rd l0_1 x24_1) = (-1)
                    · rw [if_pos c12] at H
                      have c12b0 : ((rd l0_1 x24_1) == (-1)) = true := beq_iff_eq.mpr c12
                      have c12b1 : ((rd l0_1 x24_1) != (-1)) = false := bne_eq_false_iff_eq.mpr c12
                      clear c12
                      have H' := Aside0.mk H
                      clear H
                      go_wp2
                      go_roundg kj7
                      case measure => have := HK1.out; have := HJ7.out; omega
                      case rel => exact ⟨(wrap64 (x4_1 + 1)), (wrap64 (x24_1 + 1)), (by first | rfl | (simp; done) | (simp [*]; done)), (by first | rfl | (simp; done) | (simp [*]; done)), H', ⟨by have := HK1.out; have := HJ7.out; omega⟩, ⟨by (with_reducible repeat (first | refine blk_drewN ?_ _ | refine blk_drew ?_ | refine blk_alloc ?_ _)); exact BK101.out⟩, ⟨by repeat (first | (with_reducible first | exact HB.out | apply below_alloc | apply pw_below_drewN | apply below_drew1 | refine below_set ?_ GE101.out) | exact HB.out)⟩⟩
                    · rw [if_neg c12] at H
                      have c12b0 : ((rd l0_1 x24_1) == (-1)) = false := beq_eq_false_iff_ne.mpr c12
                      have c12b1 : ((rd l0_1 x24_1) != (-1)) = true := bne_iff_ne.mpr c12
                      have H' := Aside0.mk H
                      clear H
                      go_wp2
                      go_roundg kj7
                      case measure => have := HK1.out; have := HJ7.out; omega
                      case rel => exact ⟨(x4_1), (wrap64 (x24_1 + 1)), (by first | rfl | (simp; done) | (simp [*]; done)), (by first | rfl | (simp; done) | (simp [*]; done)), H', ⟨by have := HK1.out; have := HJ7.out; omega⟩, ⟨by (with_reducible repeat (first | refine blk_drewN ?_ _ | refine blk_drew ?_ | refine blk_alloc ?_ _)); exact BK101.out⟩, ⟨by repeat (first | (with_reducible first | exact HB.out | apply below_alloc | apply pw_below_drewN | apply below_drew1 | refine below_set ?_ GE101.out) | exact HB.out)⟩⟩
            · rw [if_neg c7] at H
              exact absurd H (by simp)
          · rw [if_neg c6] at H
            exact absurd H (by simp)
        · rw [if_neg c5] at H
          have c5b0 : decide (x24_1 < (l0_1.length : Int)) = false := decide_eq_false c5
          clear c5
          have HC13 := Aside0.mk H
          clear H
          go_upto_region 12 with (fail)
          go_cut [51] (fun v51 wc => ∃ (kq : Nat) (x51_12 : Bool), v51 = .bool x51_12 ∧ Aside0 (valid_Tree.j2 kq (l0_0.length : Int) x51_12 l0_0 l0_1 = some r) ∧ Aside0 (kq ≤ k1) ∧ Aside0 (wc.heap[gb101]? = some (.cells #[(.slice A0_0 l0_0.length c0_0), (.slice A0_1 l0_1.length c0_1)] 25 (0, 0))) ∧ Aside0 (Below w.heap.size w wc))
          case first =>
            have H := HC13.out
            clear HC13
            by_cases c14 : (l0_0.length : Int) > 0
            · rw [if_pos c14] at H
              have c14b0 : decide (0 < (l0_0.length : Int)) = true := decide_eq_true c14
              have c14b1 : decide (0 < l0_0.length) = true := decide_eq_true (by omega)
              clear c14
              (first | rw [c14b0] | (simp only [i64_w, i32_w]; rw [c14b0]) | skip)
              have H' := Aside0.mk H
              clear H
              go_wp2
              go_meet
              case rel => exact ⟨_, ((x4_1 != 1)), (by first | rfl | (simp; done) | (simp [*]; done)), H', ⟨by have := HK1.out; first | omega | exact Nat.le_refl _⟩, ⟨by (with_reducible repeat (first | refine blk_drewN ?_ _ | refine blk_drew ?_ | refine blk_alloc ?_ _)); exact BK101.out⟩, ⟨by repeat (first | (with_reducible first | exact HB.out | apply below_alloc | apply pw_below_drewN | apply below_drew1 | refine below_set ?_ GE101.out) | exact HB.out)⟩⟩
            · rw [if_neg c14] at H
              have c14b0 : decide (0 < (l0_0.length : Int)) = false := decide_eq_false c14
              have c14b1 : decide (0 < l0_0.length) = false := decide_eq_false (by omega)
              clear c14
              (first | rw [c14b0] | (simp only [i64_w, i32_w]; rw [c14b0]) | skip)
              have H' := Aside0.mk H
              clear H
              go_wp2
              go_meet
              case rel => exact ⟨_, (false), (by first | rfl | (simp; done) | (simp [*]; done)), H', ⟨by have := HK1.out; first | omega | exact Nat.le_refl _⟩, ⟨by (with_reducible repeat (first | refine blk_drewN ?_ _ | refine blk_drew ?_ | refine blk_alloc ?_ _)); exact BK101.out⟩, ⟨by repeat (first | (with_reducible first | exact HB.out | apply below_alloc | apply pw_below_drewN | apply below_drew1 | refine below_set ?_ GE101.out) | exact HB.out)⟩⟩
          case rest =>
            clear HC13
            try clear c1
            try clear p1
            try clear q1
            try clear hx1
            try clear c2
            try clear c2b0
            try clear c2b1
            try clear c2b2
            try clear p2
            try clear c5
            try clear c5b0
            try clear c6
            try clear c6b0
            try clear p6
            try clear c7
            try clear c7b0
            try clear c9
            try clear c9b0
            try clear c10
            try clear c10b0
            try clear p10
            try clear q10
            try clear hx10
            try clear c11
            try clear c12
            try clear c12b0
            try clear c12b1
            try clear c14
            try clear c14b0
            try clear c14b1
            try clear hcz4_0
            try clear hcz4_1
            try clear hfz4_0
            try clear hfz4_1
            try clear hx102_0
            try clear p1
            try clear p10
            try clear p102
            try clear p2
            try clear q1
            try clear q10
            try clear q102
            obtain ⟨kq, x51_12, rfl, HA, HJ12, BK101, HB⟩ := hcut
            cases kq with
            | zero => exact absurd HA.out (by simp [valid_Tree.j2])
            | succ kj12 =>
              have H := HA.out
              clear HA
              simp only [valid_Tree.j2] at H
              by_cases c15 : x51_12 = true
              · subst c15
                have H1 : (some false) = some r := by rw [if_pos rfl] at H; exact H
                clear H
                have H := H1
                clear H1
                obtain rfl := Option.some.inj H
                go_wp2
                go_ret
                exact ⟨by first | rfl | (simp [errW_none, errW_some] <;> rfl) | (simp [*, errW_none, errW_some] <;> rfl), by repeat (first | (with_reducible first | exact HB.out | apply below_alloc | apply pw_below_drewN | apply below_drew1 | refine below_set ?_ GE101.out) | exact HB.out)⟩
              · replace c15 := Bool.eq_false_iff.mpr c15
                subst c15
                have H1 : (if 0 ≤ (l0_0.length : Int) then (if ((l0_0.length : Int) : Int).toNat ≤ 281474976710656 then (valid_Tree.l1 kj12 (l0_0.length : Int) (List.replicate ((l0_0.length : Int) : Int).toNat false) (l0_0.length : Int) 0 l0_0 l0_1) else (none)) else (none)) = some r := by rw [if_neg (show ¬ (false = true) by decide)] at H; exact H
                clear H
                have H := H1
                clear H1
                by_cases c16 : 0 ≤ (l0_0.length : Int)
                · rw [if_pos c16] at H
                  have c16b0 := eq_true c16
                  have c16b1 : decide (0 ≤ (l0_0.length : Int)) = true := decide_eq_true c16
                  clear c16
                  by_cases c17 : ((l0_0.length : Int) : Int).toNat ≤ 281474976710656
                  · rw [if_pos c17] at H
                    have c17b0 := eq_true c17
                    have c17b1 : decide (((l0_0.length : Int) : Int).toNat ≤ 281474976710656) = true := decide_eq_true c17
                    clear c17
                    obtain ⟨y103, hy103⟩ : ∃ y_ : List Bool, y_ = (List.replicate ((l0_0.length : Int) : Int).toNat false) := ⟨_, rfl⟩
                    replace H : (valid_Tree.l1 kj12 (l0_0.length : Int) y103 (l0_0.length : Int) 0 l0_0 l0_1) = some r := by first | (rw [hy103]; with_reducible exact H) | (have H2_ := (Option.bind_some _ _).symm.trans H; rw [hy103]; with_reducible exact H2_) | (have H2_ := (Option.bind_some _ _).symm.trans H; with_reducible exact H2_) | with_reducible exact H | (rw [hy103]; exact H) | exact H
                    have Ny103 := Aside0.mk hy103
                    clear hy103
                    have H' := Aside0.mk H
                    clear H
                    go_wp2_with (first | ((with_reducible refine gate_dst (N := 53) rfl ?_); refine Kd.R_make Kd.bool _ 4 rfl (N := 53) rfl 58 _ _ rfl (l0_0.length : Int) rfl rfl Try.underlying58 (.bool false) 1 info4 rfl (by decide) (by omega) false (ok := fun _ => True) (okp := fun _ => True) rfl (fun _ hk => hk) trivial (of_decide_eq_true (by first | (with_reducible assumption) | assumption)) (Nat.le_trans (Nat.mul_le_mul_right _ (of_decide_eq_true (by first | (with_reducible assumption) | assumption) : (l0_0.length : Int).toNat ≤ 281474976710656)) (by omega)) (Below.refl _ _) (Nat.le_refl _) ?_; intro v104 w18 ho19 hb hg_ hnew_; clear hg_ hnew_; (first | rw [← Ny103.out] at ho19 | (simp only [Int.reduceToNat] at ho19; rw [← Ny103.out] at ho19)); have n0_ := Aside0.mk (Kd.R_lower ho19 (below_size (by repeat (first | (with_reducible first | exact HB.out | apply below_alloc | apply pw_below_drewN | apply below_drew1 | refine below_set ?_ GE101.out) | exact HB.out)))); have n1_ := Aside0.mk (blk_below (g := gb101) (o := .cells #[.slice A0_0 l0_0.length c0_0, .slice A0_1 l0_1.length c0_1] 25 (0, 0)) (by (with_reducible repeat (first | refine blk_drewN ?_ _ | refine blk_drew ?_ | refine blk_alloc ?_ _)); exact BK101.out) hb); have n2_ := Aside0.mk (below_step (by repeat (first | (with_reducible first | exact HB.out | apply below_alloc | apply pw_below_drewN | apply below_drew1 | refine below_set ?_ GE101.out) | exact HB.out)) hb); clear BK101; clear HB; have HO105 := n0_; have BK101 := n1_; have HB := n2_; clear n0_ n1_ n2_; clear hb ho19; have hcz20_0 : w18.cell? ⟨gb101, 0, none⟩ = some (.slice A0_0 l0_0.length c0_0) := (blk_cell BK101.out 0).trans rfl; have hcz20_1 : w18.cell? ⟨gb101, 1, none⟩ = some (.slice A0_1 l0_1.length c0_1) := (blk_cell BK101.out 1).trans rfl; have hfz20_0 := blk_frozen BK101.out 0; have hfz20_1 := blk_frozen BK101.out 1))
                    go_loopg [57] kj12 (fun kq v57 w' => ∃ (x7_3 : List Bool) (x57_3 : Int), v57 = .int .i64 x57_3 ∧ Aside0 (valid_Tree.l1 kq (l0_0.length : Int) x7_3 (l0_0.length : Int) x57_3 l0_0 l0_1 = some r) ∧ Aside0 (kq ≤ kj12) ∧ Aside0 (Kd.R Kd.bool 4 w' w.heap.size (fun _ => True) v104 x7_3) ∧ Aside0 (w'.heap[gb101]? = some (.cells #[(.slice A0_0 l0_0.length c0_0), (.slice A0_1 l0_1.length c0_1)] 25 (0, 0))) ∧ Aside0 (Below w.heap.size w w'))
                    case atStart => exact ⟨(y103), (0), (by first | rfl | (simp; done) | (simp [*]; done)), H', ⟨Nat.le_refl _⟩, ⟨by (with_reducible repeat (first | apply Kd.R_alloc | apply Kd.R_drewN | apply Kd.R_drew)); exact HO105.out⟩, ⟨by (with_reducible repeat (first | refine blk_drewN ?_ _ | refine blk_drew ?_ | refine blk_alloc ?_ _)); exact BK101.out⟩, ⟨by repeat (first | (with_reducible first | exact HB.out | apply below_alloc | apply pw_below_drewN | apply below_drew1 | refine below_set ?_ GE101.out) | exact HB.out)⟩⟩
                    case round =>
                      clear H'
                      try clear c1
                      try clear p1
                      try clear q1
                      try clear hx1
                      try clear c2
                      try clear c2b0
                      try clear c2b1
                      try clear c2b2
                      try clear p2
                      try clear c5
                      try clear c5b0
                      try clear c6
                      try clear c6b0
                      try clear p6
                      try clear c7
                      try clear c7b0
                      try clear c9
                      try clear c9b0
                      try clear c10
                      try clear c10b0
                      try clear p10
                      try clear q10
                      try clear hx10
                      try clear c11
                      try clear c12
                      try clear c12b0
                      try clear c12b1
                      try clear c14
                      try clear c14b0
                      try clear c14b1
                      try clear c15
                      try clear c16
                      try clear c16b0
                      try clear c16b1
                      try clear c17
                      try clear c17b0
                      try clear c17b1
                      try clear c18
                      try clear hcz20_0
                      try clear hcz20_1
                      try clear hcz4_0
                      try clear hcz4_1
                      try clear hfz20_0
                      try clear hfz20_1
                      try clear hfz4_0
                      try clear hfz4_1
                      try clear hx102_0
                      try clear p1
                      try clear p10
                      try clear p102
                      try clear p2
                      try clear p6
                      try clear q1
                      try clear q10
                      try clear q102
                      obtain ⟨x7_3, x57_3, rfl, HA, HK3, HO_7, BK101, HB⟩ := hrel
                      cases gk with
                      | zero => exact absurd HA.out (by simp [valid_Tree.l1])
                      | succ k3 =>
                        have H := HA.out
                        clear HA
                        simp only [valid_Tree.l1] at H
                        by_cases c21 : x57_3 < (l0_0.length : Int)
                        · rw [if_pos c21] at H
                          have c21b0 : decide (x57_3 < (l0_0.length : Int)) = true := decide_eq_true c21
                          clear c21
                          have H' := Aside0.mk H
                          clear H
                          go_wp2
                          go_loopg [9, 10] k3 (fun kq v9 v10 w' => ∃ (x9_4 : List Int) (x10_4 : Int), v10 = .int .i64 x10_4 ∧ Aside0 (valid_Tree.l2 kq (l0_0.length : Int) x7_3 x9_4 x10_4 (l0_0.length : Int) x57_3 l0_0 l0_1 = some r) ∧ Aside0 (kq ≤ k3) ∧ Aside0 (Kd.R Kd.bool 4 w' w.heap.size (fun _ => True) v104 x7_3) ∧ Aside0 (Kd.R (Kd.int .i64) 3 w' w.heap.size (fun _ => True) v9 x9_4) ∧ Aside0 (w'.heap[gb101]? = some (.cells #[(.slice A0_0 l0_0.length c0_0), (.slice A0_1 l0_1.length c0_1)] 25 (0, 0))) ∧ Aside0 (Below w.heap.size w w'))
                          case atStart => exact ⟨(([] : List Int)), (x57_3), (by first | rfl | (simp; done) | (simp [*]; done)), H', ⟨Nat.le_refl _⟩, ⟨by (with_reducible repeat (first | apply Kd.R_alloc | apply Kd.R_drewN | apply Kd.R_drew)); exact HO_7.out⟩, ⟨by first | exact Kd.R_nil _ _ _ _ _ | exact Kd.N_nil _ _ _ _ _ | exact Kd.V_nil _ _ _ _ _ | exact Kd.Q_nil _ _ _ _ _ | exact Kd.S_nil _ _ _ _ _⟩, ⟨by (with_reducible repeat (first | refine blk_drewN ?_ _ | refine blk_drew ?_ | refine blk_alloc ?_ _)); exact BK101.out⟩, ⟨by repeat (first | (with_reducible first | exact HB.out | apply below_alloc | apply pw_below_drewN | apply below_drew1 | refine below_set ?_ GE101.out) | exact HB.out)⟩⟩
                          case round =>
                            clear H'
                            try clear c1
                            try clear p1
                            try clear q1
                            try clear hx1
                            try clear c2
                            try clear c2b0
                            try clear c2b1
                            try clear c2b2
                            try clear p2
                            try clear c5
                            try clear c5b0
                            try clear c6
                            try clear c6b0
                            try clear p6
                            try clear c7
                            try clear c7b0
                            try clear c9
                            try clear c9b0
                            try clear c10
                            try clear c10b0
                            try clear p10
                            try clear q10
                            try clear hx10
                            try clear c11
                            try clear c12
                            try clear c12b0
                            try clear c12b1
                            try clear c14
                            try clear c14b0
                            try clear c14b1
                            try clear c15
                            try clear c16
                            try clear c16b0
                            try clear c16b1
                            try clear c17
                            try clear c17b0
                            try clear c17b1
                            try clear c18
                            try clear c21
                            try clear c21b0
                            try clear hcz20_0
                            try clear hcz20_1
                            try clear hcz4_0
                            try clear hcz4_1
                            try clear hfz20_0
                            try clear hfz20_1
                            try clear hfz4_0
                            try clear hfz4_1
                            try clear hx102_0
                            try clear p1
                            try clear p10
                            try clear p102
                            try clear p2
                            try clear p6
                            try clear q1
                            try clear q10
                            try clear q102
                            obtain ⟨x9_4, x10_4, rfl, HA, HK4, HO_7, HO_9, BK101, HB⟩ := hrel
                            cases gk with
                            | zero => exact absurd HA.out (by simp [valid_Tree.l2])
                            | succ k4 =>
                              have H := HA.out
                              clear HA
                              simp only [valid_Tree.l2] at H
                              have HC22 := Aside0.mk H
                              clear H
                              go_upto_region 20 with (fail)
                              go_cut [69] (fun v69 wc => ∃ (kq : Nat) (x69_21 : Bool), v69 = .bool x69_21 ∧ Aside0 (valid_Tree.j5 kq (l0_0.length : Int) x7_3 x9_4 x10_4 (l0_0.length : Int) x57_3 x69_21 l0_0 l0_1 = some r) ∧ Aside0 (kq ≤ k4) ∧ Aside0 (Kd.R Kd.bool 4 wc w.heap.size (fun _ => True) v104 x7_3) ∧ Aside0 (Kd.R (Kd.int .i64) 3 wc w.heap.size (fun _ => True) u9 x9_4) ∧ Aside0 (wc.heap[gb101]? = some (.cells #[(.slice A0_0 l0_0.length c0_0), (.slice A0_1 l0_1.length c0_1)] 25 (0, 0))) ∧ Aside0 (Below w.heap.size w wc))
                              case first =>
                                have H := HC22.out
                                clear HC22
                                by_cases c23 : x10_4 = (-1)
                                · rw [if_pos c23] at H
                                  have c23b0 : (x10_4 == (-1)) = true := beq_iff_eq.mpr c23
                                  have c23b1 : (x10_4 != (-1)) = false := bne_eq_false_iff_eq.mpr c23
                                  clear c23
                                  (first | rw [c23b0] | (simp only [i64_w, i32_w]; rw [c23b0]) | skip)
                                  have H' := Aside0.mk H
                                  clear H
                                  go_wp2
                                  go_meet
                                  case rel => exact ⟨_, (false), (by first | rfl | (simp; done) | (simp [*]; done)), H', ⟨by have := HK1.out; have := HJ12.out; have := HK3.out; have := HK4.out; first | omega | exact Nat.le_refl _⟩, ⟨by (with_reducible repeat (first | apply Kd.R_alloc | apply Kd.R_drewN | apply Kd.R_drew)); exact HO_7.out⟩, ⟨by (with_reducible repeat (first | apply Kd.R_alloc | apply Kd.R_drewN | apply Kd.R_drew)); exact HO_9.out⟩, ⟨by (with_reducible repeat (first | refine blk_drewN ?_ _ | refine blk_drew ?_ | refine blk_alloc ?_ _)); exact BK101.out⟩, ⟨by repeat (first | (with_reducible first | exact HB.out | apply below_alloc | apply pw_below_drewN | apply below_drew1 | refine below_set ?_ GE101.out) | exact HB.out)⟩⟩
                                · rw [if_neg c23] at H
                                  have c23b0 : (x10_4 == (-1)) = false := beq_eq_false_iff_ne.mpr c23
                                  have c23b1 : (x10_4 != (-1)) = true := bne_iff_ne.mpr c23
                                  (first | rw [c23b0] | (simp only [i64_w, i32_w]; rw [c23b0]) | skip)
                                  by_cases c24 : 0 ≤ x10_4
                                  · rw [if_pos c24] at H
                                    have c24b0 : decide (0 ≤ x10_4) = true := decide_eq_true c24
                                    clear c24
                                    by_cases c25 : x10_4 < (x7_3.length : Int)
                                    · rw [if_pos c25] at H
                                      have c25b0 : decide (x10_4 < (x7_3.length : Int)) = true := decide_eq_true c25
                                      clear c25
                                      have H' := Aside0.mk H
                                      clear H
                                      obtain ⟨Ao26, co26, eo26⟩ := Kd.R_slice HO_7.out
                                      subst eo26
                                      have p106 : 0 ≤ (x10_4 : Int) := of_decide_eq_true (by first | (with_reducible assumption) | assumption)
                                      have q106 : x10_4 < (x7_3.length : Int) := of_decide_eq_true (by first | (with_reducible assumption) | assumption)
                                      obtain ⟨ad106, e106, hx106_0⟩ := Kd.at_bool (Kd.R_reads' HO_7.out).2.2 x10_4 p106 q106
                                      cases e106
                                      replace p106 := eq_true p106
                                      replace q106 := eq_true q106
                                      go_wp2
                                      go_meet
                                      case rel => exact ⟨_, (!(rdOf false x7_3 x10_4)), (by first | rfl | (simp; done) | (simp [*]; done)), H', ⟨by have := HK1.out; have := HJ12.out; have := HK3.out; have := HK4.out; first | omega | exact Nat.le_refl _⟩, ⟨by (with_reducible repeat (first | apply Kd.R_alloc | apply Kd.R_drewN | apply Kd.R_drew)); exact HO_7.out⟩, ⟨by (with_reducible repeat (first | apply Kd.R_alloc | apply Kd.R_drewN | apply Kd.R_drew)); exact HO_9.out⟩, ⟨by (with_reducible repeat (first | refine blk_drewN ?_ _ | refine blk_drew ?_ | refine blk_alloc ?_ _)); exact BK101.out⟩, ⟨by repeat (first | (with_reducible first | exact HB.out | apply below_alloc | apply pw_below_drewN | apply below_drew1 | refine below_set ?_ GE101.out) | exact HB.out)⟩⟩
                                    · rw [if_neg c25] at H
                                      exact absurd H (by simp)
                                  · rw [if_neg c24] at H
                                    exact absurd H (by simp)
                              case rest =>
                                clear HC22
                                try clear c1
                                try clear p1
                                try clear q1
                                try clear hx1
                                try clear c2
                                try clear c2b0
                                try clear c2b1
                                try clear c2b2
                                try clear p2
                                try clear c5
                                try clear c5b0
                                try clear c6
                                try clear c6b0
                                try clear p6
                                try clear c7
                                try clear c7b0
                                try clear c9
                                try clear c9b0
                                try clear c10
                                try clear c10b0
                                try clear p10
                                try clear q10
                                try clear hx10
                                try clear c11
                                try clear c12
                                try clear c12b0
                                try clear c12b1
                                try clear c14
                                try clear c14b0
                                try clear c14b1
                                try clear c15
                                try clear c16
                                try clear c16b0
                                try clear c16b1
                                try clear c17
                                try clear c17b0
                                try clear c17b1
                                try clear c18
                                try clear c21
                                try clear c21b0
                                try clear c23
                                try clear c23b0
                                try clear c23b1
                                try clear c24
                                try clear c24b0
                                try clear c25
                                try clear c25b0
                                try clear hcz20_0
                                try clear hcz20_1
                                try clear hcz4_0
                                try clear hcz4_1
                                try clear hfz20_0
                                try clear hfz20_1
                                try clear hfz4_0
                                try clear hfz4_1
                                try clear hx102_0
                                try clear hx106_0
                                try clear p1
                                try clear p10
                                try clear p102
                                try clear p106
                                try clear p2
                                try clear p6
                                try clear q1
                                try clear q10
                                try clear q102
                                try clear q106
                                obtain ⟨kq, x69_21, rfl, HA, HJ21, HO_7, HO_9, BK101, HB⟩ := hcut
                                cases kq with
                                | zero => exact absurd HA.out (by simp [valid_Tree.j5])
                                | succ kj21 =>
                                  have H := HA.out
                                  clear HA
                                  simp only [valid_Tree.j5] at H
                                  by_cases c27 : x69_21 = true
                                  · subst c27
                                    have H1 : (if x9_4.length < 17592186044416 then ((some (x9_4 ++ [x10_4] : List Int)).bind fun y107 => (if (y107.length : Int) > (l0_0.length : Int) then (some false) else (if 0 ≤ x10_4 then (if x10_4 < (l0_1.length : Int) then (valid_Tree.l2 kj21 (l0_0.length : Int) x7_3 y107 (rd l0_1 x10_4) (l0_0.length : Int) x57_3 l0_0 l0_1) else (none)) else (none)))) else (none)) = some r := by rw [if_pos rfl] at H; exact H
                                    clear H
                                    have H := H1
                                    clear H1
                                    by_cases c28 : x9_4.length < 17592186044416
                                    · rw [if_pos c28] at H
                                      have LMc28 := Aside0.mk c28
                                      clear c28
                                      obtain ⟨y107, hy107⟩ : ∃ y_ : List Int, y_ = (x9_4 ++ [x10_4]) := ⟨_, rfl⟩
                                      replace H : (if (y107.length : Int) > (l0_0.length : Int) then (some false) else (if 0 ≤ x10_4 then (if x10_4 < (l0_1.length : Int) then (valid_Tree.l2 kj21 (l0_0.length : Int) x7_3 y107 (rd l0_1 x10_4) (l0_0.length : Int) x57_3 l0_0 l0_1) else (none)) else (none))) = some r := by first | (rw [hy107]; with_reducible exact H) | (have H2_ := (Option.bind_some _ _).symm.trans H; rw [hy107]; with_reducible exact H2_) | (have H2_ := (Option.bind_some _ _).symm.trans H; with_reducible exact H2_) | with_reducible exact H | (rw [hy107]; exact H) | exact H
                                      have Ny107 := Aside0.mk hy107
                                      clear hy107
                                      by_cases c29 : (y107.length : Int) > (l0_0.length : Int)
                                      · rw [if_pos c29] at H
                                        have c29b0 : decide ((l0_0.length : Int) < (y107.length : Int)) = true := decide_eq_true c29
                                        have c29b1 : decide (l0_0.length < y107.length) = true := decide_eq_true (Int.ofNat_lt.mp c29)
                                        clear c29
                                        obtain rfl := Option.some.inj H
                                        go_wp2_with (first | ((with_reducible refine gate_builtin (b := .append) (xs := #[.tmp 75, .tmp 77]) rfl ?_); at_builtin; refine Kd.R_append (Kd.int .i64) (w0 := w) w.heap.size rfl (.tmp 75) (.tmp 77) 23 3 (.int .i64 0) 8 rfl Try.underlying23 info3 rfl (by decide) (by omega) u9 x9_4 x10_4 [.int .i64 x10_4] (fun _ => True) (fun _ => False) rfl rfl ?aP (fun _ hk => hk.elim) ?aF ?aO ?aB ?aS ?aL ?_; (case aP => exact rfl); (case aB => exact (by repeat (first | (with_reducible first | exact HB.out | apply below_alloc | apply pw_below_drewN | apply below_drew1 | refine below_set ?_ GE101.out) | exact HB.out))); (case aF => exact (fun _ _ => trivial)); (case aO => exact (by (with_reducible repeat (first | apply Kd.R_alloc | apply Kd.R_drewN | apply Kd.R_drew)); exact HO_9.out)); (case aS => exact (below_size (by repeat (first | (with_reducible first | exact HB.out | apply below_alloc | apply pw_below_drewN | apply below_drew1 | refine below_set ?_ GE101.out) | exact HB.out)))); (case aL => have := LMc28.out; omega); intro v108 w30 ho hb hg hat; rw [← Ny107.out] at ho; have n0_ := Aside0.mk (Kd.R_over' (by (with_reducible repeat (first | apply Kd.R_alloc | apply Kd.R_drewN | apply Kd.R_drew)); exact HO_7.out) (Kd.R_typed (by (with_reducible repeat (first | apply Kd.R_alloc | apply Kd.R_drewN | apply Kd.R_drew)); exact HO_9.out)) (by decide) hg); have n1_ := Aside0.mk (blk_grown (g := gb101) (o := .cells #[.slice A0_0 l0_0.length c0_0, .slice A0_1 l0_1.length c0_1] 25 (0, 0)) (by (with_reducible repeat (first | refine blk_drewN ?_ _ | refine blk_drew ?_ | refine blk_alloc ?_ _)); exact BK101.out) hg (Kd.R_ne HO_9.out BK101.out (by decide))); have n2_ := Aside0.mk (hb); have n3_ := Aside0.mk (ho); clear HO_7; clear BK101; clear HB; clear HO_9; have HO_7 := n0_; have BK101 := n1_; have HB := n2_; have HO109 := n3_; clear n0_ n1_ n2_ n3_; clear ho hb hg hat; obtain ⟨Ao31, co31, eo31⟩ := Kd.R_slice HO109.out; subst eo31))
                                        go_ret
                                        exact ⟨by first | rfl | (simp [errW_none, errW_some] <;> rfl) | (simp [*, errW_none, errW_some] <;> rfl), by repeat (first | (with_reducible first | exact HB.out | apply below_alloc | apply pw_below_drewN | apply below_drew1 | refine below_set ?_ GE101.out) | exact HB.out)⟩
                                      · rw [if_neg c29] at H
                                        have c29b0 : decide ((l0_0.length : Int) < (y107.length : Int)) = false := decide_eq_false c29
                                        have c29b1 : decide (l0_0.length < y107.length) = false := decide_eq_false (fun h => c29 (Int.ofNat_lt.mpr h))
                                        clear c29
                                        by_cases c32 : 0 ≤ x10_4
                                        · rw [if_pos c32] at H
                                          have c32b0 : decide (0 ≤ x10_4) = true := decide_eq_true c32
                                          clear c32
                                          by_cases c33 : x10_4 < (l0_1.length : Int)
                                          · rw [if_pos c33] at H
                                            have c33b0 : decide (x10_4 < (l0_1.length : Int)) = true := decide_eq_true c33
                                            clear c33
                                            have H' := Aside0.mk H
                                            clear H
                                            go_wp2_with (first | ((with_reducible refine gate_builtin (b := .append) (xs := #[.tmp 75, .tmp 77]) rfl ?_); at_builtin; refine Kd.R_append (Kd.int .i64) (w0 := w) w.heap.size rfl (.tmp 75) (.tmp 77) 23 3 (.int .i64 0) 8 rfl Try.underlying23 info3 rfl (by decide) (by omega) u9 x9_4 x10_4 [.int .i64 x10_4] (fun _ => True) (fun _ => False) rfl rfl ?aP (fun _ hk => hk.elim) ?aF ?aO ?aB ?aS ?aL ?_; (case aP => exact rfl); (case aB => exact (by repeat (first | (with_reducible first | exact HB.out | apply below_alloc | apply pw_below_drewN | apply below_drew1 | refine below_set ?_ GE101.out) | exact HB.out))); (case aF => exact (fun _ _ => trivial)); (case aO => exact (by (with_reducible repeat (first | apply Kd.R_alloc | apply Kd.R_drewN | apply Kd.R_drew)); exact HO_9.out)); (case aS => exact (below_size (by repeat (first | (with_reducible first | exact HB.out | apply below_alloc | apply pw_below_drewN | apply below_drew1 | refine below_set ?_ GE101.out) | exact HB.out)))); (case aL => have := LMc28.out; omega); intro v108 w34 ho hb hg hat; rw [← Ny107.out] at ho; have n0_ := Aside0.mk (Kd.R_over' (by (with_reducible repeat (first | apply Kd.R_alloc | apply Kd.R_drewN | apply Kd.R_drew)); exact HO_7.out) (Kd.R_typed (by (with_reducible repeat (first | apply Kd.R_alloc | apply Kd.R_drewN | apply Kd.R_drew)); exact HO_9.out)) (by decide) hg); have n1_ := Aside0.mk (blk_grown (g := gb101) (o := .cells #[.slice A0_0 l0_0.length c0_0, .slice A0_1 l0_1.length c0_1] 25 (0, 0)) (by (with_reducible repeat (first | refine blk_drewN ?_ _ | refine blk_drew ?_ | refine blk_alloc ?_ _)); exact BK101.out) hg (Kd.R_ne HO_9.out BK101.out (by decide))); have n2_ := Aside0.mk (hb); have n3_ := Aside0.mk (ho); clear HO_7; clear BK101; clear HB; clear HO_9; have HO_7 := n0_; have BK101 := n1_; have HB := n2_; have HO109 := n3_; clear n0_ n1_ n2_ n3_; clear ho hb hg hat; obtain ⟨Ao35, co35, eo35⟩ := Kd.R_slice HO109.out; subst eo35; have hcz36_0 : w34.cell? ⟨gb101, 0, none⟩ = some (.slice A0_0 l0_0.length c0_0) := (blk_cell BK101.out 0).trans rfl; have hcz36_1 : w34.cell? ⟨gb101, 1, none⟩ = some (.slice A0_1 l0_1.length c0_1) := (blk_cell BK101.out 1).trans rfl; have hfz36_0 := blk_frozen BK101.out 0; have hfz36_1 := blk_frozen BK101.out 1; have p110 : 0 ≤ (x10_4 : Int) := of_decide_eq_true (by first | (with_reducible assumption) | assumption); have q110 : x10_4 < (l0_1.length : Int) := of_decide_eq_true (by first | (with_reducible assumption) | assumption); obtain ⟨ad110, e110, hx110_0⟩ := Kd.at_int HR0_1.out x10_4 p110 q110; cases e110; replace hx110_0 := (HB.out.cell (World.block_lt_of_cell? w _ hx110_0)).trans hx110_0; replace p110 := eq_true p110; replace q110 := eq_true q110))
                                            go_roundg kj21
                                            case measure => have := HK1.out; have := HJ12.out; have := HK3.out; have := HK4.out; have := HJ21.out; omega
                                            case rel => exact ⟨(y107), (rd l0_1 x10_4), (by first | rfl | (simp; done) | (simp [*]; done)), H', ⟨by have := HK1.out; have := HJ12.out; have := HK3.out; have := HK4.out; have := HJ21.out; omega⟩, ⟨by (with_reducible repeat (first | apply Kd.R_alloc | apply Kd.R_drewN | apply Kd.R_drew)); exact HO_7.out⟩, ⟨by (with_reducible repeat (first | apply Kd.R_alloc | apply Kd.R_drewN | apply Kd.R_drew)); exact HO109.out⟩, ⟨by (with_reducible repeat (first | refine blk_drewN ?_ _ | refine blk_drew ?_ | refine blk_alloc ?_ _)); exact BK101.out⟩, ⟨by repeat (first | (with_reducible first | exact HB.out | apply below_alloc | apply pw_below_drewN | apply below_drew1 | refine below_set ?_ GE101.out) | exact HB.out)⟩⟩
                                          · rw [if_neg c33] at H
                                            exact absurd H (by simp)
                                        · rw [if_neg c32] at H
                                          exact absurd H (by simp)
                                    · rw [if_neg c28] at H
                                      exact absurd H (by simp)
                                  · replace c27 := Bool.eq_false_iff.mpr c27
                                    subst c27
                                    have H1 : (valid_Tree.l3 kj21 (l0_0.length : Int) x7_3 (l0_0.length : Int) x57_3 x9_4 (x9_4.length : Int) 0 l0_0 l0_1) = some r := by rw [if_neg (show ¬ (false = true) by decide)] at H; exact H
                                    clear H
                                    have H := H1
                                    clear H1
                                    have H' := Aside0.mk H
                                    clear H
                                    obtain ⟨Ao37, co37, eo37⟩ := Kd.R_slice HO_9.out
                                    subst eo37
                                    go_wp2
                                    go_loopg [85] kj21 (fun kq v85 w' => ∃ (x7_6 : List Bool) (x85_6 : Int), v85 = .int .i64 x85_6 ∧ Aside0 (valid_Tree.l3 kq (l0_0.length : Int) x7_6 (l0_0.length : Int) x57_3 x9_4 (x9_4.length : Int) x85_6 l0_0 l0_1 = some r) ∧ Aside0 (kq ≤ kj21) ∧ Aside0 (Kd.R Kd.bool 4 w' w.heap.size (fun _ => True) v104 x7_6) ∧ Aside0 (Kd.R (Kd.int .i64) 3 w' w.heap.size (fun _ => True) (.slice Ao37 x9_4.length co37) x9_4) ∧ Aside0 (w'.heap[gb101]? = some (.cells #[(.slice A0_0 l0_0.length c0_0), (.slice A0_1 l0_1.length c0_1)] 25 (0, 0))) ∧ Aside0 (Below w.heap.size w w'))
                                    case atStart => exact ⟨(x7_3), (0), (by first | rfl | (simp; done) | (simp [*]; done)), H', ⟨Nat.le_refl _⟩, ⟨by (with_reducible repeat (first | apply Kd.R_alloc | apply Kd.R_drewN | apply Kd.R_drew)); exact HO_7.out⟩, ⟨by (with_reducible repeat (first | apply Kd.R_alloc | apply Kd.R_drewN | apply Kd.R_drew)); exact HO_9.out⟩, ⟨by (with_reducible repeat (first | refine blk_drewN ?_ _ | refine blk_drew ?_ | refine blk_alloc ?_ _)); exact BK101.out⟩, ⟨by repeat (first | (with_reducible first | exact HB.out | apply below_alloc | apply pw_below_drewN | apply below_drew1 | refine below_set ?_ GE101.out) | exact HB.out)⟩⟩
                                    case round =>
                                      clear H'
                                      try clear c1
                                      try clear p1
                                      try clear q1
                                      try clear hx1
                                      try clear c2
                                      try clear c2b0
                                      try clear c2b1
                                      try clear c2b2
                                      try clear p2
                                      try clear c3
                                      try clear c5
                                      try clear c5b0
                                      try clear c6
                                      try clear c6b0
                                      try clear p6
                                      try clear c7
                                      try clear c7b0
                                      try clear c9
                                      try clear c9b0
                                      try clear c10
                                      try clear c10b0
                                      try clear p10
                                      try clear q10
                                      try clear hx10
                                      try clear c11
                                      try clear p11
                                      try clear q11
                                      try clear hx11
                                      try clear c12
                                      try clear c12b0
                                      try clear c12b1
                                      try clear c14
                                      try clear c14b0
                                      try clear c14b1
                                      try clear c15
                                      try clear c16
                                      try clear c16b0
                                      try clear c16b1
                                      try clear c17
                                      try clear c17b0
                                      try clear c17b1
                                      try clear c18
                                      try clear c21
                                      try clear c21b0
                                      try clear c23
                                      try clear c23b0
                                      try clear c23b1
                                      try clear c24
                                      try clear c24b0
                                      try clear c25
                                      try clear c25b0
                                      try clear c27
                                      try clear c28
                                      try clear c29
                                      try clear c29b0
                                      try clear c29b1
                                      try clear c32
                                      try clear c32b0
                                      try clear c33
                                      try clear c33b0
                                      try clear hcz20_0
                                      try clear hcz20_1
                                      try clear hcz36_0
                                      try clear hcz36_1
                                      try clear hcz4_0
                                      try clear hcz4_1
                                      try clear hfz20_0
                                      try clear hfz20_1
                                      try clear hfz36_0
                                      try clear hfz36_1
                                      try clear hfz4_0
                                      try clear hfz4_1
                                      try clear hx102_0
                                      try clear hx106_0
                                      try clear hx110_0
                                      try clear p1
                                      try clear p10
                                      try clear p102
                                      try clear p106
                                      try clear p110
                                      try clear p2
                                      try clear p6
                                      try clear q1
                                      try clear q10
                                      try clear q102
                                      try clear q106
                                      try clear q110
                                      obtain ⟨x7_6, x85_6, rfl, HA, HK6, HO_7, HO_83, BK101, HB⟩ := hrel
                                      cases gk with
                                      | zero => exact absurd HA.out (by simp [valid_Tree.l3])
                                      | succ k6 =>
                                        have H := HA.out
                                        clear HA
                                        simp only [valid_Tree.l3] at H
                                        by_cases c38 : x85_6 < (x9_4.length : Int)
                                        · rw [if_pos c38] at H
                                          have c38b0 : decide (x85_6 < (x9_4.length : Int)) = true := decide_eq_true c38
                                          clear c38
                                          by_cases c39 : 0 ≤ x85_6
                                          · rw [if_pos c39] at H
                                            have c39b0 : decide (0 ≤ x85_6) = true := decide_eq_true c39
                                            clear c39
                                            by_cases c40 : x85_6 < (x9_4.length : Int)
                                            · rw [if_pos c40] at H
                                              have c40b0 : decide (x85_6 < (x9_4.length : Int)) = true := decide_eq_true c40
                                              clear c40
                                              by_cases c41 : 0 ≤ (rd x9_4 x85_6)
                                              · rw [if_pos c41] at H
                                                have c41b0 : decide (0 ≤ (rd x9_4 x85_6)) = true := decide_eq_true c41
                                                clear c41
                                                by_cases c42 : (rd x9_4 x85_6) < (x7_6.length : Int)
                                                · rw [if_pos c42] at H
                                                  have c42b0 : decide ((rd x9_4 x85_6) < (x7_6.length : Int)) = true := decide_eq_true c42
                                                  clear c42
                                                  obtain ⟨y112, hy112⟩ : ∃ y_ : List Bool, y_ = (x7_6.set ((rd x9_4 x85_6) : Int).toNat true) := ⟨_, rfl⟩
                                                  replace H : (valid_Tree.l3 k6 (l0_0.length : Int) y112 (l0_0.length : Int) x57_3 x9_4 (x9_4.length : Int) (wrap64 (x85_6 + 1)) l0_0 l0_1) = some r := by first | (rw [hy112]; with_reducible exact H) | (have H2_ := (Option.bind_some _ _).symm.trans H; rw [hy112]; with_reducible exact H2_) | (have H2_ := (Option.bind_some _ _).symm.trans H; with_reducible exact H2_) | with_reducible exact H | (rw [hy112]; exact H) | exact H
                                                  have Ny112 := Aside0.mk hy112
                                                  clear hy112
                                                  have H' := Aside0.mk H
                                                  clear H
                                                  have p111 : 0 ≤ (x85_6 : Int) := of_decide_eq_true (by first | (with_reducible assumption) | assumption)
                                                  have q111 : x85_6 < (x9_4.length : Int) := of_decide_eq_true (by first | (with_reducible assumption) | assumption)
                                                  obtain ⟨ad111, e111, hx111_0⟩ := Kd.at_int (Kd.R_reads' HO_83.out).2.2 x85_6 p111 q111
                                                  cases e111
                                                  replace p111 := eq_true p111
                                                  replace q111 := eq_true q111
                                                  have p43 : 0 ≤ ((rd x9_4 x85_6) : Int) := of_decide_eq_true (by first | (with_reducible assumption) | assumption)
                                                  have q43 : ((rd x9_4 x85_6) : Int) < ((x7_6.length : Int) : Int) := of_decide_eq_true (by first | (with_reducible assumption) | assumption)
                                                  obtain ⟨go43, co43, eo43, gb43, gl43, cl43, HG43⟩ := Kd.R_form HO_7.out (by omega)
                                                  (first | cases eo43 | (injection eo43 with ea_ en_ ec_; (first | subst ea_ | (injection ea_ with ea_; subst ea_)); subst ec_; clear en_))
                                                  have GB43 := Aside0.mk gb43
                                                  have GG43 := Aside0.mk HG43
                                                  clear gb43 gl43 HG43
                                                  obtain ⟨hx43_0, hf43_0⟩ := Kd.R_celln false HO_7.out ((rd x9_4 x85_6) : Int) p43 q43
                                                  replace p43 := eq_true p43
                                                  replace q43 := eq_true q43
                                                  have HP44 := Kd.R_putg HO_7.out ((rd x9_4 x85_6) : Int) true
                                                  go_wp2_with (first | ((with_reducible refine gate_store (t := 4) (p := 91) rfl ?_); refine store_event (t := 4) (p := 91) (v := ?vo_w45) (w1 := (wr.setCell ⟨go43, ((rd x9_4 x85_6) : Int).toNat, none⟩ (.bool true))) ?hg ?ho ?hn ?hr ?_; (case ho => rfl); (case hg => rfl); (case hn => rfl); (case hr => first | (go_simp; done) | (go_simp; rfl)); intro w45 hw; have hg : wr.grownBy w45 (some go43) := (by rw [hw]; exact HP44.2); have hp_ : Kd.R Kd.bool 4 w45 w.heap.size (fun _ => True) (.slice (some ⟨go43, 0, none⟩) x7_6.length co43) y112 := (by rw [hw, Ny112.out]; exact HP44.1); clear HP44; have n0_ := Aside0.mk (hp_); have n1_ := Aside0.mk (Kd.R_over' (v := (.slice (some ⟨go43, 0, none⟩) x7_6.length co43)) (by (with_reducible repeat (first | apply Kd.R_alloc | apply Kd.R_drewN | apply Kd.R_drew)); exact HO_83.out) (Kd.R_typed HO_7.out) (by decide) hg); have n2_ := Aside0.mk (blk_grown (g := gb101) (o := .cells #[.slice A0_0 l0_0.length c0_0, .slice A0_1 l0_1.length c0_1] 25 (0, 0)) (by (with_reducible repeat (first | refine blk_drewN ?_ _ | refine blk_drew ?_ | refine blk_alloc ?_ _)); exact BK101.out) hg (Kd.R_ne HO_7.out BK101.out (by decide))); have n3_ := Aside0.mk ((by rw [hw]; exact below_set (HB.out) GB43.out : Below w.heap.size w w45)); clear HO_7; clear HO_83; clear BK101; clear HB; have HO_7 := n0_; have HO_83 := n1_; have BK101 := n2_; have HB := n3_; clear n0_ n1_ n2_ n3_; clear hg hw hp_))
                                                  go_roundg k6
                                                  case measure => have := HK1.out; have := HJ12.out; have := HK3.out; have := HK4.out; have := HJ21.out; have := HK6.out; omega
                                                  case rel => exact ⟨(y112), (wrap64 (x85_6 + 1)), (by first | rfl | (simp; done) | (simp [*]; done)), H', ⟨by have := HK1.out; have := HJ12.out; have := HK3.out; have := HK4.out; have := HJ21.out; have := HK6.out; omega⟩, ⟨by (with_reducible repeat (first | apply Kd.R_alloc | apply Kd.R_drewN | apply Kd.R_drew)); exact HO_7.out⟩, ⟨by (with_reducible repeat (first | apply Kd.R_alloc | apply Kd.R_drewN | apply Kd.R_drew)); exact HO_83.out⟩, ⟨by (with_reducible repeat (first | refine blk_drewN ?_ _ | refine blk_drew ?_ | refine blk_alloc ?_ _)); exact BK101.out⟩, ⟨by repeat (first | (with_reducible first | exact HB.out | apply below_alloc | apply pw_below_drewN | apply below_drew1 | refine below_set ?_ GE101.out) | exact HB.out)⟩⟩
                                                · rw [if_neg c42] at H
                                                  exact absurd H (by simp)
                                              · rw [if_neg c41] at H
                                                exact absurd H (by simp)
                                            · rw [if_neg c40] at H
                                              exact absurd H (by simp)
                                          · rw [if_neg c39] at H
                                            exact absurd H (by simp)
                                        · rw [if_neg c38] at H
                                          have c38b0 : decide (x85_6 < (x9_4.length : Int)) = false := decide_eq_false c38
                                          clear c38
                                          have H' := Aside0.mk H
                                          clear H
                                          go_wp2
                                          go_roundg k6
                                          case measure => have := HK1.out; have := HJ12.out; have := HK3.out; have := HK4.out; have := HJ21.out; have := HK6.out; omega
                                          case rel => exact ⟨(x7_6), (wrap64 (x57_3 + 1)), (by first | rfl | (simp; done) | (simp [*]; done)), H', ⟨by have := HK1.out; have := HJ12.out; have := HK3.out; have := HK4.out; have := HJ21.out; have := HK6.out; omega⟩, ⟨by (with_reducible repeat (first | apply Kd.R_alloc | apply Kd.R_drewN | apply Kd.R_drew)); exact HO_7.out⟩, ⟨by (with_reducible repeat (first | refine blk_drewN ?_ _ | refine blk_drew ?_ | refine blk_alloc ?_ _)); exact BK101.out⟩, ⟨by repeat (first | (with_reducible first | exact HB.out | apply below_alloc | apply pw_below_drewN | apply below_drew1 | refine below_set ?_ GE101.out) | exact HB.out)⟩⟩
                        · rw [if_neg c21] at H
                          have c21b0 : decide (x57_3 < (l0_0.length : Int)) = false := decide_eq_false c21
                          clear c21
                          obtain rfl := Option.some.inj H
                          go_wp2
                          go_ret
                          exact ⟨by first | rfl | (simp [errW_none, errW_some] <;> rfl) | (simp [*, errW_none, errW_some] <;> rfl), by repeat (first | (with_reducible first | exact HB.out | apply below_alloc | apply pw_below_drewN | apply below_drew1 | refine below_set ?_ GE101.out) | exact HB.out)⟩
                  · rw [if_neg c17] at H
                    exact absurd H (by simp)
                · rw [if_neg c16] at H
                  exact absurd H (by simp)
  · rw [if_neg c2] at H
    have c2b0 : ((l0_1.length : Int) == (l0_0.length : Int)) = false := beq_eq_false_iff_ne.mpr c2
    have c2b1 : ((l0_1.length : Int) != (l0_0.length : Int)) = true := bne_iff_ne.mpr c2
    have c2b2 : (l0_1.length == l0_0.length) = false := by first | simpa using c2 | (simp at c2 ⊢; omega)
    obtain rfl := Option.some.inj H
    go_enter Try.func18, Try.ntmps18
    go_wp2_with (first | ((with_reducible refine gate_dst (N := 1) rfl ?_); refine box_event ?hg (N := 1) ?hd (cs := #[.slice A0_0 l0_0.length c0_0, .slice A0_1 l0_1.length c0_1]) (t := 25) ?hr ?_; (case hd => rfl); (case hg => rfl); (case hr => first | (go_simp; done) | (go_simp; rfl)); intro gb101 hg w46 hbox hb; have n0_ := Aside0.mk (below_step (by repeat (first | (with_reducible first | exact HB.out | apply below_alloc | apply pw_below_drewN | apply below_drew1) | exact HB.out)) hb); have n1_ := Aside0.mk (hbox); have n2_ := Aside0.mk ((by rw [hg]; exact (below_size (by repeat (first | (with_reducible first | exact HB.out | apply below_alloc | apply pw_below_drewN | apply below_drew1) | exact HB.out))) : w.heap.size ≤ gb101)); have n3_ := Aside0.mk ((by rw [hg]; exact (below_size (by repeat (first | (with_reducible first | exact HB.out | apply below_alloc | apply pw_below_drewN | apply below_drew1) | exact HB.out))) : w.heap.size ≤ gb101)); clear HB; have HB := n0_; have BK101 := n1_; have GW101 := n2_; have GE101 := n3_; clear n0_ n1_ n2_ n3_; clear hb hbox hg; have hcz47_0 : w46.cell? ⟨gb101, 0, none⟩ = some (.slice A0_0 l0_0.length c0_0) := (blk_cell BK101.out 0).trans rfl; have hcz47_1 : w46.cell? ⟨gb101, 1, none⟩ = some (.slice A0_1 l0_1.length c0_1) := (blk_cell BK101.out 1).trans rfl; have hfz47_0 := blk_frozen BK101.out 0; have hfz47_1 := blk_frozen BK101.out 1))
    go_ret
    exact ⟨by first | rfl | (simp [errW_none, errW_some] <;> rfl) | (simp [*, errW_none, errW_some] <;> rfl), by repeat (first | (with_reducible first | exact HB.out | apply below_alloc | apply pw_below_drewN | apply below_drew1 | refine below_set ?_ GE101.out) | exact HB.out)⟩

end Go.Proofs.Ytpmfdggbccbfaaa.Pr
