-- Printed by a program of this session's own (wip/tools/pp.py) over the kit's print.py; Lean checks it.
import Derived.Test.YtpmfdggbccbfaaaPr1
import Derived.Test.YtpmfdggbccbfaaaPr0
import Derived.Test.YtpmfdggbccbfaaaPr17
import Derived.Test.YtpmfdggbccbfaaaPr18
namespace Go.Proofs.Ytpmfdggbccbfaaa.Pr
open Go.RowKit Go.Proofs.YtpmfdggbccbfaaaW.PrintWords Go.Proofs.YtpmfdggbccbfaaaW.PrintLast Go.Proofs.YtpmfdggbccbfaaaW.PrintMore
attribute [local go_sem] max2_int min2_int max_two min_two max_three min_three max_four min_four   -- for this text's walks alone
set_option linter.unusedVariables false
set_option linter.unusedSimpArgs false

/-! ### arboristref12_Covers: function 21 -/
mutual
def arboristref12_Covers.l0 : Nat → Int → List (List Int) → Int → List (List Int) → List Int → Option (Bool)
  | 0, _, _, _, _, _ => none
  | k + 1, x0, x1, x7, x210000, x210001 => if x7 < (x210000.length : Int) then (if 0 ≤ x7 then ((arboristref01_Rising.f k (rd_L1 x210000 x7)).bind fun t211 => (if t211 = true then (if ((rd_L1 x210000 x7).length : Int) > 0 then (if 0 < ((rd_L1 x210000 x7).length : Int) then (if (rd (rd_L1 x210000 x7) 0) < 0 then (some false) else (if 0 ≤ (wrap64 (((rd_L1 x210000 x7).length : Int) - 1)) then (if (wrap64 (((rd_L1 x210000 x7).length : Int) - 1)) < ((rd_L1 x210000 x7).length : Int) then (if (rd (rd_L1 x210000 x7) (wrap64 (((rd_L1 x210000 x7).length : Int) - 1))) ≥ x0 then (some false) else (arboristref12_Covers.l0 k x0 x1 (wrap64 (x7 + 1)) x210000 x210001)) else (none)) else (none))) else (none)) else (arboristref12_Covers.l0 k x0 x1 (wrap64 (x7 + 1)) x210000 x210001)) else (some false))) else (none)) else (arboristref12_Covers.l1 k x0 x1 0 x210000 x210001)
def arboristref12_Covers.l1 : Nat → Int → List (List Int) → Int → List (List Int) → List Int → Option (Bool)
  | 0, _, _, _, _, _ => none
  | k + 1, x0, x1, x9, x210000, x210001 => if x9 < x0 then (arboristref12_Covers.l2 k x0 x1 x9 false 0 x210000 x210001) else (arboristref12_Covers.l3 k x1 0 x210000 x210001)
def arboristref12_Covers.l2 : Nat → Int → List (List Int) → Int → Bool → Int → List (List Int) → List Int → Option (Bool)
  | 0, _, _, _, _, _, _, _ => none
  | k + 1, x0, x1, x9, x10, x11, x210000, x210001 => if x11 < (x210000.length : Int) then (if x10 = true then (arboristref12_Covers.l2 k x0 x1 x9 true (wrap64 (x11 + 1)) x210000 x210001) else (if 0 ≤ x11 then ((arboristref12_all.f k (([x9] : List Int)) (rd_L1 x210000 x11)).bind fun t218 => (arboristref12_Covers.l2 k x0 x1 x9 t218 (wrap64 (x11 + 1)) x210000 x210001)) else (none))) else (if x10 = true then (arboristref12_Covers.l1 k x0 x1 (wrap64 (x9 + 1)) x210000 x210001) else (some false))
def arboristref12_Covers.l3 : Nat → List (List Int) → Int → List (List Int) → List Int → Option (Bool)
  | 0, _, _, _, _ => none
  | k + 1, x1, x12, x210000, x210001 => if x12 < (x1.length : Int) then (arboristref12_Covers.l4 k x1 x12 false 0 x210000 x210001) else (some true)
def arboristref12_Covers.l4 : Nat → List (List Int) → Int → Bool → Int → List (List Int) → List Int → Option (Bool)
  | 0, _, _, _, _, _, _ => none
  | k + 1, x1, x12, x13, x14, x210000, x210001 => if x14 < (x210000.length : Int) then (if x13 = true then (arboristref12_Covers.l4 k x1 x12 true (wrap64 (x14 + 1)) x210000 x210001) else (if 0 ≤ x12 then (if x12 < (x1.length : Int) then (if 0 ≤ x14 then ((arboristref12_all.f k (rd_L1 x1 x12) (rd_L1 x210000 x14)).bind fun t221 => (arboristref12_Covers.l4 k x1 x12 t221 (wrap64 (x14 + 1)) x210000 x210001)) else (none)) else (none)) else (none))) else (if x13 = true then (arboristref12_Covers.l3 k x1 (wrap64 (x12 + 1)) x210000 x210001) else (some false))
end
def arboristref12_Covers.f (k : Nat) (a0 : Int) (l1 : List (List Int)) (l2_0 : List (List Int)) (l2_1 : List Int) : Option (Bool) := arboristref12_Covers.l0 k a0 l1 0 l2_0 l2_1
theorem arboristref12_Covers.mono_l : ∀ k, (∀ y0 y1 y2 y3 y4, LeO (arboristref12_Covers.l0 k y0 y1 y2 y3 y4) (arboristref12_Covers.l0 (k + 1) y0 y1 y2 y3 y4)) ∧ (∀ y0 y1 y2 y3 y4, LeO (arboristref12_Covers.l1 k y0 y1 y2 y3 y4) (arboristref12_Covers.l1 (k + 1) y0 y1 y2 y3 y4)) ∧ (∀ y0 y1 y2 y3 y4 y5 y6, LeO (arboristref12_Covers.l2 k y0 y1 y2 y3 y4 y5 y6) (arboristref12_Covers.l2 (k + 1) y0 y1 y2 y3 y4 y5 y6)) ∧ (∀ y0 y1 y2 y3, LeO (arboristref12_Covers.l3 k y0 y1 y2 y3) (arboristref12_Covers.l3 (k + 1) y0 y1 y2 y3)) ∧ (∀ y0 y1 y2 y3 y4 y5, LeO (arboristref12_Covers.l4 k y0 y1 y2 y3 y4 y5) (arboristref12_Covers.l4 (k + 1) y0 y1 y2 y3 y4 y5))
  | 0 => ⟨fun _ _ _ _ _ r h => by simp [arboristref12_Covers.l0] at h, fun _ _ _ _ _ r h => by simp [arboristref12_Covers.l1] at h, fun _ _ _ _ _ _ _ r h => by simp [arboristref12_Covers.l2] at h, fun _ _ _ _ r h => by simp [arboristref12_Covers.l3] at h, fun _ _ _ _ _ _ r h => by simp [arboristref12_Covers.l4] at h⟩
  | k + 1 => by
    obtain ⟨ih0, ih1, ih2, ih3, ih4⟩ := arboristref12_Covers.mono_l k
    refine ⟨?_, ?_, ?_, ?_, ?_⟩
    all_goals intros
    all_goals (first | unfold arboristref12_Covers.l0 | unfold arboristref12_Covers.l1 | unfold arboristref12_Covers.l2 | unfold arboristref12_Covers.l3 | unfold arboristref12_Covers.l4)
    all_goals repeat' first
    | (with_reducible exact ih0 _ _ _ _ _)
    | (with_reducible exact ih1 _ _ _ _ _)
    | (with_reducible exact ih2 _ _ _ _ _ _ _)
    | (with_reducible exact ih3 _ _ _ _)
    | (with_reducible exact ih4 _ _ _ _ _ _)
    | (with_reducible exact arboristref01_Rising.mono _ _)
    | (with_reducible exact arboristref12_all.mono _ _ _)
    | (with_reducible exact LeO.refl _)
    | (with_reducible exact LeO.none _)
    | (with_reducible refine LeO.ite ?_ ?_)
    | (with_reducible refine LeO.bind ?_ (fun _ => ?_))
    | exact ih0 _ _ _ _ _
    | exact ih1 _ _ _ _ _
    | exact ih2 _ _ _ _ _ _ _
    | exact ih3 _ _ _ _
    | exact ih4 _ _ _ _ _ _
    | exact arboristref01_Rising.mono _ _
    | exact arboristref12_all.mono _ _ _
    | exact LeO.none _
    | refine LeO.ite ?_ ?_
    | refine LeO.bind ?_ (fun _ => ?_)
theorem arboristref12_Covers.mono : ∀ a0 a1 a2 a3 k, LeO (arboristref12_Covers.f k a0 a1 a2 a3) (arboristref12_Covers.f (k + 1) a0 a1 a2 a3) := by
  intro a0 a1 a2 a3 k
  obtain ⟨ih0, ih1, ih2, ih3, ih4⟩ := arboristref12_Covers.mono_l k
  unfold arboristref12_Covers.f
  repeat' first
      | (with_reducible exact ih0 _ _ _ _ _)
      | (with_reducible exact ih1 _ _ _ _ _)
      | (with_reducible exact ih2 _ _ _ _ _ _ _)
      | (with_reducible exact ih3 _ _ _ _)
      | (with_reducible exact ih4 _ _ _ _ _ _)
      | (with_reducible exact arboristref01_Rising.mono _ _)
      | (with_reducible exact arboristref12_all.mono _ _ _)
      | (with_reducible exact LeO.refl _)
      | (with_reducible exact LeO.none _)
      | (with_reducible refine LeO.ite ?_ ?_)
      | (with_reducible refine LeO.bind ?_ (fun _ => ?_))
      | exact ih0 _ _ _ _ _
      | exact ih1 _ _ _ _ _
      | exact ih2 _ _ _ _ _ _ _
      | exact ih3 _ _ _ _
      | exact ih4 _ _ _ _ _ _
      | exact arboristref01_Rising.mono _ _
      | exact arboristref12_all.mono _ _ _
      | exact LeO.none _
      | refine LeO.ite ?_ ?_
      | refine LeO.bind ?_ (fun _ => ?_)
def arboristref12_Covers.T24 : Bool × List (List Nat × List Nat) := (true, [([], []), ([0], [0]), ([1], [1]), ([1], [1]), ([2, 3, 1], [1, 2, 3]), ([4, 1], [1, 4]), ([1], [1]), ([6, 1], [1, 6]), ([1], [1]), ([7, 8, 1], [1, 7, 8]), ([9, 1], [1, 9]), ([5, 10, 1, 1], [1, 5, 10]), ([1, 11], [1, 11]), ([12, 11, 0, 1, 2, 3, 4, 5, 6, 7, 8, 9, 10, 11, 12], [0, 12])])
def arboristref12_Covers.B24 : List Nat := [0, 1, 3, 3, 15, 31, 3, 67, 3, 451, 963, 2047, 4095, 8191]
theorem arboristref12_Covers.tab24 : rtab .any (opsOf Try.f21 24) = arboristref12_Covers.T24 := by kernel_rfl
theorem arboristref12_Covers.bits24 : waitsOk arboristref12_Covers.T24.2 arboristref12_Covers.B24 = true := by kernel_rfl
set_option maxHeartbeats 8000000 in
set_option maxRecDepth 100000 in
theorem arboristref12_Covers.calls (k : Nat) (a0 : Int) (A1 : Option Addr) (c1 : Nat) (l1 : List (List Int)) (A2_0 : Option Addr) (c2_0 : Nat) (l2_0 : List (List Int)) (A2_1 : Option Addr) (c2_1 : Nat) (l2_1 : List Int) (r : Bool) (w : World) (hr1 : Kd.C (Kd.slice 3 (Kd.int .i64)) w A1 l1.length l1) (hc1 : l1.length ≤ c1) (hr2_0 : Kd.C (Kd.slice 3 (Kd.int .i64)) w A2_0 l2_0.length l2_0) (hc2_0 : l2_0.length ≤ c2_0) (hr2_1 : Kd.C (Kd.int .i64) w A2_1 l2_1.length l2_1) (hc2_1 : l2_1.length ≤ c2_1) (h : arboristref12_Covers.f k a0 l1 l2_0 l2_1 = some r) :
    Calls Try.prog 21 #[.int .i64 a0, .slice A1 l1.length c1, .agg #[.slice A2_0 l2_0.length c2_0, .slice A2_1 l2_1.length c2_1]] w fun e w' => e = .returned (.bool r) ∧ Below w.heap.size w w' := by
  have hu25 := Try.underlying25
  have HR1 := Aside0.mk hr1
  have HC1 := Aside0.mk hc1
  clear hr1 hc1
  have HR2_0 := Aside0.mk hr2_0
  have HC2_0 := Aside0.mk hc2_0
  clear hr2_0 hc2_0
  have HR2_1 := Aside0.mk hr2_1
  have HC2_1 := Aside0.mk hc2_1
  clear hr2_1 hc2_1
  have HB := Aside0.mk (Below.refl w.heap.size w)
  have H : (arboristref12_Covers.l0 k a0 l1 0 l2_0 l2_1) = some r := h
  clear h
  have H' := Aside0.mk H
  clear H
  go_enter Try.func21, Try.ntmps21
  go_wp2_with (first | ((with_reducible refine gate_dst (N := 5) rfl ?_); (try (refine gate_guard (by rfl) ?_; dsimp only)); refine box_event ?hg (N := 5) ?hd (cs := #[.slice A2_0 l2_0.length c2_0, .slice A2_1 l2_1.length c2_1]) (t := 25) ?hr ?_; (case hd => rfl); (case hg => rfl); (case hr => first | (go_simp; done) | (go_simp; rfl)); intro gb209 hg w4 hbox hb; have n0_ := Aside0.mk (below_step (by repeat (first | (with_reducible first | exact HB.out | apply below_alloc | apply pw_below_drewN | apply below_drew1) | exact HB.out)) hb); have n1_ := Aside0.mk (hbox); have n2_ := Aside0.mk ((by rw [hg]; exact (below_size (by repeat (first | (with_reducible first | exact HB.out | apply below_alloc | apply pw_below_drewN | apply below_drew1) | exact HB.out))) : w.heap.size ≤ gb209)); have n3_ := Aside0.mk ((by rw [hg]; exact (below_size (by repeat (first | (with_reducible first | exact HB.out | apply below_alloc | apply pw_below_drewN | apply below_drew1) | exact HB.out))) : w.heap.size ≤ gb209)); clear HB; have HB := n0_; have BK209 := n1_; have GW209 := n2_; have GE209 := n3_; clear n0_ n1_ n2_ n3_; clear hb hbox hg))
  go_loopg [7] k (fun kq v7 w' => ∃ (x7_1 : Int), v7 = .int .i64 x7_1 ∧ Aside0 (arboristref12_Covers.l0 kq a0 l1 x7_1 l2_0 l2_1 = some r) ∧ Aside0 (kq ≤ k) ∧ Aside0 (w'.heap[gb209]? = some (.cells #[(.slice A2_0 l2_0.length c2_0), (.slice A2_1 l2_1.length c2_1)] 25 (0, 0))) ∧ Aside0 (Below w.heap.size w w'))
  case atStart => exact ⟨(0), (by first | rfl | (simp; done) | (simp [*]; done)), H', ⟨Nat.le_refl _⟩, ⟨by (with_reducible repeat (first | refine blk_drewN ?_ _ | refine blk_drew ?_ | refine blk_alloc ?_ _)); exact BK209.out⟩, ⟨by repeat (first | (with_reducible first | exact HB.out | apply below_alloc | apply pw_below_drewN | apply below_drew1 | refine below_set ?_ GE209.out) | exact HB.out)⟩⟩
  case round =>
    clear H'
    try clear c1
    try clear c2
    try clear p2
    obtain ⟨x7_1, rfl, HA, HK1, BK209, HB⟩ := hrel
    cases gk with
    | zero => exact absurd HA.out (by simp [arboristref12_Covers.l0])
    | succ k1 =>
      have H := HA.out
      clear HA
      simp only [arboristref12_Covers.l0] at H
      by_cases c5 : x7_1 < (l2_0.length : Int)
      · rw [if_pos c5] at H
        have c5b0 : decide (x7_1 < (l2_0.length : Int)) = true := decide_eq_true c5
        clear c5
        by_cases c6 : 0 ≤ x7_1
        · rw [if_pos c6] at H
          have c6b0 : decide (0 ≤ x7_1) = true := decide_eq_true c6
          clear c6
          replace H := Option.bind_eq_some_iff.mp H
          obtain ⟨t211, A70, H⟩ := H
          replace H : (if t211 = true then (if ((rd_L1 l2_0 x7_1).length : Int) > 0 then (if 0 < ((rd_L1 l2_0 x7_1).length : Int) then (if (rd (rd_L1 l2_0 x7_1) 0) < 0 then (some false) else (if 0 ≤ (wrap64 (((rd_L1 l2_0 x7_1).length : Int) - 1)) then (if (wrap64 (((rd_L1 l2_0 x7_1).length : Int) - 1)) < ((rd_L1 l2_0 x7_1).length : Int) then (if (rd (rd_L1 l2_0 x7_1) (wrap64 (((rd_L1 l2_0 x7_1).length : Int) - 1))) ≥ a0 then (some false) else (arboristref12_Covers.l0 k1 a0 l1 (wrap64 (x7_1 + 1)) l2_0 l2_1)) else (none)) else (none))) else (none)) else (arboristref12_Covers.l0 k1 a0 l1 (wrap64 (x7_1 + 1)) l2_0 l2_1)) else (some false)) = some r := H
          have A7 := Aside0.mk A70
          clear A70
          by_cases c8 : t211 = true
          · subst c8
            have H1 : (if ((rd_L1 l2_0 x7_1).length : Int) > 0 then (if 0 < ((rd_L1 l2_0 x7_1).length : Int) then (if (rd (rd_L1 l2_0 x7_1) 0) < 0 then (some false) else (if 0 ≤ (wrap64 (((rd_L1 l2_0 x7_1).length : Int) - 1)) then (if (wrap64 (((rd_L1 l2_0 x7_1).length : Int) - 1)) < ((rd_L1 l2_0 x7_1).length : Int) then (if (rd (rd_L1 l2_0 x7_1) (wrap64 (((rd_L1 l2_0 x7_1).length : Int) - 1))) ≥ a0 then (some false) else (arboristref12_Covers.l0 k1 a0 l1 (wrap64 (x7_1 + 1)) l2_0 l2_1)) else (none)) else (none))) else (none)) else (arboristref12_Covers.l0 k1 a0 l1 (wrap64 (x7_1 + 1)) l2_0 l2_1)) = some r := by rw [if_pos rfl] at H; exact H
            clear H
            have H := H1
            clear H1
            by_cases c9 : ((rd_L1 l2_0 x7_1).length : Int) > 0
            · rw [if_pos c9] at H
              have c9b0 : decide (0 < ((rd_L1 l2_0 x7_1).length : Int)) = true := decide_eq_true c9
              have c9b1 : decide (0 < (rd_L1 l2_0 x7_1).length) = true := decide_eq_true (by omega)
              clear c9
              by_cases c10 : 0 < ((rd_L1 l2_0 x7_1).length : Int)
              · rw [if_pos c10] at H
                have c10b0 : decide (0 < ((rd_L1 l2_0 x7_1).length : Int)) = true := decide_eq_true c10
                have c10b1 : decide (0 < (rd_L1 l2_0 x7_1).length) = true := decide_eq_true (by omega)
                clear c10
                by_cases c11 : (rd (rd_L1 l2_0 x7_1) 0) < 0
                · rw [if_pos c11] at H
                  have c11b0 : decide ((rd (rd_L1 l2_0 x7_1) 0) < 0) = true := decide_eq_true c11
                  clear c11
                  obtain rfl := Option.some.inj H
                  have hcz12_0 : wr.cell? ⟨gb209, 0, none⟩ = some (.slice A2_0 l2_0.length c2_0) := (blk_cell BK209.out 0).trans rfl
                  have hcz12_1 : wr.cell? ⟨gb209, 1, none⟩ = some (.slice A2_1 l2_1.length c2_1) := (blk_cell BK209.out 1).trans rfl
                  have hfz12_0 := blk_frozen BK209.out 0
                  have hfz12_1 := blk_frozen BK209.out 1
                  have p210 : 0 ≤ (x7_1 : Int) := of_decide_eq_true (by first | (with_reducible assumption) | assumption)
                  have q210 : x7_1 < (l2_0.length : Int) := of_decide_eq_true (by first | (with_reducible assumption) | assumption)
                  obtain ⟨ad210, A210_0, c210_0, e210, hx210_0, hl210_0, hi210_0⟩ := at_L1 HR2_0.out x7_1 p210 q210
                  cases e210
                  replace hx210_0 := (HB.out.cell (World.block_lt_of_cell? w _ hx210_0)).trans hx210_0
                  have HR210_0 := Aside0.mk hi210_0
                  have HC210_0 := Aside0.mk hl210_0
                  clear hi210_0 hl210_0
                  replace p210 := eq_true p210
                  replace q210 := eq_true q210
                  go_wp2_with (first | ((with_reducible refine gate_callee (f := 48) rfl ?_); refine goesL_ (some 28) rfl rfl Try.func48 (by kernel_rfl) rfl #[.slice A210_0 (rd_L1 l2_0 x7_1).length c210_0] rfl (by (try simp only [List.map_toArray, List.map_cons, List.map_nil]); first | done | rfl | (simp only [List.length_drop, List.length_take]; rfl)) ?_; (with_reducible refine (arboristref01_Rising.calls k1 _ _ (rd_L1 l2_0 x7_1) true _ ?side1 ?side2 A7.out).mono ?_); (case side1 => repeat (first | exact (Kd.C_below HR210_0.out HB.out) | (with_reducible refine Kd.C_alloc ?_ _) | (with_reducible refine Kd.C_drewN ?_ _) | (with_reducible refine Kd.C_drew ?_))); (case side2 => exact HC210_0.out); rintro e w' ⟨rfl, ⟨nd, rfl⟩⟩; refine ⟨_, rfl, ?_⟩; have p212 : 0 ≤ (0 : Int) := (by omega); have q212 : 0 < ((rd_L1 l2_0 x7_1).length : Int) := of_decide_eq_true (by first | (with_reducible assumption) | assumption); obtain ⟨ad212, e212, hx212_0⟩ := Kd.at_int HR210_0.out 0 p212 q212; cases e212; have qi212 : (0 < (rd_L1 l2_0 x7_1).length) = True := eq_true (by omega); (try rw [show ((0 : Int)).toNat = 0 from rfl] at hx212_0); (try rw [Addr.add_zero'] at hx212_0); replace hx212_0 := (HB.out.cell (World.block_lt_of_cell? w _ hx212_0)).trans hx212_0; replace p212 := eq_true p212; replace q212 := eq_true q212))
                  go_ret
                  exact ⟨by first | rfl | (simp [errW_none, errW_some] <;> rfl) | (simp [*, errW_none, errW_some] <;> rfl), by repeat (first | (with_reducible first | exact HB.out | apply below_alloc | apply pw_below_drewN | apply below_drew1 | refine below_set ?_ GE209.out) | exact HB.out)⟩
                · rw [if_neg c11] at H
                  have c11b0 : decide ((rd (rd_L1 l2_0 x7_1) 0) < 0) = false := decide_eq_false c11
                  clear c11
                  obtain ⟨ji13, hji13⟩ : ∃ j_ : Int, (wrap64 (((rd_L1 l2_0 x7_1).length : Int) - 1)) = j_ := ⟨_, rfl⟩
                  replace H : (if 0 ≤ (ji13) then (if (ji13) < ((rd_L1 l2_0 x7_1).length : Int) then (if (rd (rd_L1 l2_0 x7_1) (ji13)) ≥ a0 then (some false) else (arboristref12_Covers.l0 k1 a0 l1 (wrap64 (x7_1 + 1)) l2_0 l2_1)) else (none)) else (none)) = some r := by first | (rw [hji13] at H; exact H) | (simp only [hji13] at H ⊢; exact H)
                  (try rw [hji13] at A7)
                  have hji13w : (IntKind.i64.wrap (((rd_L1 l2_0 x7_1).length : Int) - 1)) = ji13 := (i64_w _).trans hji13
                  by_cases c14 : 0 ≤ (ji13)
                  · rw [if_pos c14] at H
                    have c14b0 : decide (0 ≤ (ji13)) = true := decide_eq_true c14
                    clear c14
                    by_cases c15 : (ji13) < ((rd_L1 l2_0 x7_1).length : Int)
                    · rw [if_pos c15] at H
                      have c15b0 : decide ((ji13) < ((rd_L1 l2_0 x7_1).length : Int)) = true := decide_eq_true c15
                      clear c15
                      by_cases c16 : (rd (rd_L1 l2_0 x7_1) (ji13)) ≥ a0
                      · rw [if_pos c16] at H
                        have c16b0 : decide (a0 ≤ (rd (rd_L1 l2_0 x7_1) (ji13))) = true := decide_eq_true c16
                        clear c16
                        obtain rfl := Option.some.inj H
                        have hcz17_0 : wr.cell? ⟨gb209, 0, none⟩ = some (.slice A2_0 l2_0.length c2_0) := (blk_cell BK209.out 0).trans rfl
                        have hcz17_1 : wr.cell? ⟨gb209, 1, none⟩ = some (.slice A2_1 l2_1.length c2_1) := (blk_cell BK209.out 1).trans rfl
                        have hfz17_0 := blk_frozen BK209.out 0
                        have hfz17_1 := blk_frozen BK209.out 1
                        have p210 : 0 ≤ (x7_1 : Int) := of_decide_eq_true (by first | (with_reducible assumption) | assumption)
                        have q210 : x7_1 < (l2_0.length : Int) := of_decide_eq_true (by first | (with_reducible assumption) | assumption)
                        obtain ⟨ad210, A210_0, c210_0, e210, hx210_0, hl210_0, hi210_0⟩ := at_L1 HR2_0.out x7_1 p210 q210
                        cases e210
                        replace hx210_0 := (HB.out.cell (World.block_lt_of_cell? w _ hx210_0)).trans hx210_0
                        have HR210_0 := Aside0.mk hi210_0
                        have HC210_0 := Aside0.mk hl210_0
                        clear hi210_0 hl210_0
                        replace p210 := eq_true p210
                        replace q210 := eq_true q210
                        go_wp2_with (first | ((with_reducible refine gate_callee (f := 48) rfl ?_); refine goesL_ (some 28) rfl rfl Try.func48 (by kernel_rfl) rfl #[.slice A210_0 (rd_L1 l2_0 x7_1).length c210_0] rfl (by (try simp only [List.map_toArray, List.map_cons, List.map_nil]); first | done | rfl | (simp only [List.length_drop, List.length_take]; rfl)) ?_; (with_reducible refine (arboristref01_Rising.calls k1 _ _ (rd_L1 l2_0 x7_1) true _ ?side1 ?side2 A7.out).mono ?_); (case side1 => repeat (first | exact (Kd.C_below HR210_0.out HB.out) | (with_reducible refine Kd.C_alloc ?_ _) | (with_reducible refine Kd.C_drewN ?_ _) | (with_reducible refine Kd.C_drew ?_))); (case side2 => exact HC210_0.out); rintro e w' ⟨rfl, ⟨nd, rfl⟩⟩; refine ⟨_, rfl, ?_⟩; have p212 : 0 ≤ (0 : Int) := (by omega); have q212 : 0 < ((rd_L1 l2_0 x7_1).length : Int) := of_decide_eq_true (by first | (with_reducible assumption) | assumption); obtain ⟨ad212, e212, hx212_0⟩ := Kd.at_int HR210_0.out 0 p212 q212; cases e212; have qi212 : (0 < (rd_L1 l2_0 x7_1).length) = True := eq_true (by omega); (try rw [show ((0 : Int)).toNat = 0 from rfl] at hx212_0); (try rw [Addr.add_zero'] at hx212_0); replace hx212_0 := (HB.out.cell (World.block_lt_of_cell? w _ hx212_0)).trans hx212_0; replace p212 := eq_true p212; replace q212 := eq_true q212; have p213 : 0 ≤ ((ji13) : Int) := of_decide_eq_true (by first | (with_reducible assumption) | assumption); have q213 : (ji13) < ((rd_L1 l2_0 x7_1).length : Int) := of_decide_eq_true (by first | (with_reducible assumption) | assumption); obtain ⟨ad213, e213, hx213_0⟩ := Kd.at_int HR210_0.out (ji13) p213 q213; obtain rfl : ad212 = ad213 := (by injection e213); replace hx213_0 := (HB.out.cell (World.block_lt_of_cell? w _ hx213_0)).trans hx213_0; replace p213 := eq_true p213; replace q213 := eq_true q213))
                        go_ret
                        exact ⟨by first | rfl | (simp [errW_none, errW_some] <;> rfl) | (simp only [← hji13]; first | rfl | (simp [errW_none, errW_some] <;> rfl)) | (simp [*, errW_none, errW_some] <;> rfl), by repeat (first | (with_reducible first | exact HB.out | apply below_alloc | apply pw_below_drewN | apply below_drew1 | refine below_set ?_ GE209.out) | exact HB.out)⟩
                      · rw [if_neg c16] at H
                        have c16b0 : decide (a0 ≤ (rd (rd_L1 l2_0 x7_1) (ji13))) = false := decide_eq_false c16
                        clear c16
                        have H' := Aside0.mk H
                        clear H
                        have hcz18_0 : wr.cell? ⟨gb209, 0, none⟩ = some (.slice A2_0 l2_0.length c2_0) := (blk_cell BK209.out 0).trans rfl
                        have hcz18_1 : wr.cell? ⟨gb209, 1, none⟩ = some (.slice A2_1 l2_1.length c2_1) := (blk_cell BK209.out 1).trans rfl
                        have hfz18_0 := blk_frozen BK209.out 0
                        have hfz18_1 := blk_frozen BK209.out 1
                        have p210 : 0 ≤ (x7_1 : Int) := of_decide_eq_true (by first | (with_reducible assumption) | assumption)
                        have q210 : x7_1 < (l2_0.length : Int) := of_decide_eq_true (by first | (with_reducible assumption) | assumption)
                        obtain ⟨ad210, A210_0, c210_0, e210, hx210_0, hl210_0, hi210_0⟩ := at_L1 HR2_0.out x7_1 p210 q210
                        cases e210
                        replace hx210_0 := (HB.out.cell (World.block_lt_of_cell? w _ hx210_0)).trans hx210_0
                        have HR210_0 := Aside0.mk hi210_0
                        have HC210_0 := Aside0.mk hl210_0
                        clear hi210_0 hl210_0
                        replace p210 := eq_true p210
                        replace q210 := eq_true q210
                        go_wp2_with (first | ((with_reducible refine gate_callee (f := 48) rfl ?_); refine goesL_ (some 28) rfl rfl Try.func48 (by kernel_rfl) rfl #[.slice A210_0 (rd_L1 l2_0 x7_1).length c210_0] rfl (by (try simp only [List.map_toArray, List.map_cons, List.map_nil]); first | done | rfl | (simp only [List.length_drop, List.length_take]; rfl)) ?_; (with_reducible refine (arboristref01_Rising.calls k1 _ _ (rd_L1 l2_0 x7_1) true _ ?side1 ?side2 A7.out).mono ?_); (case side1 => repeat (first | exact (Kd.C_below HR210_0.out HB.out) | (with_reducible refine Kd.C_alloc ?_ _) | (with_reducible refine Kd.C_drewN ?_ _) | (with_reducible refine Kd.C_drew ?_))); (case side2 => exact HC210_0.out); rintro e w' ⟨rfl, ⟨nd, rfl⟩⟩; refine ⟨_, rfl, ?_⟩; have p212 : 0 ≤ (0 : Int) := (by omega); have q212 : 0 < ((rd_L1 l2_0 x7_1).length : Int) := of_decide_eq_true (by first | (with_reducible assumption) | assumption); obtain ⟨ad212, e212, hx212_0⟩ := Kd.at_int HR210_0.out 0 p212 q212; cases e212; have qi212 : (0 < (rd_L1 l2_0 x7_1).length) = True := eq_true (by omega); (try rw [show ((0 : Int)).toNat = 0 from rfl] at hx212_0); (try rw [Addr.add_zero'] at hx212_0); replace hx212_0 := (HB.out.cell (World.block_lt_of_cell? w _ hx212_0)).trans hx212_0; replace p212 := eq_true p212; replace q212 := eq_true q212; have p213 : 0 ≤ ((ji13) : Int) := of_decide_eq_true (by first | (with_reducible assumption) | assumption); have q213 : (ji13) < ((rd_L1 l2_0 x7_1).length : Int) := of_decide_eq_true (by first | (with_reducible assumption) | assumption); obtain ⟨ad213, e213, hx213_0⟩ := Kd.at_int HR210_0.out (ji13) p213 q213; obtain rfl : ad212 = ad213 := (by injection e213); replace hx213_0 := (HB.out.cell (World.block_lt_of_cell? w _ hx213_0)).trans hx213_0; replace p213 := eq_true p213; replace q213 := eq_true q213))
                        go_roundg k1
                        case measure => have := HK1.out; omega
                        case rel => exact ⟨(wrap64 (x7_1 + 1)), (by first | rfl | (simp; done) | (simp [*]; done)), H', ⟨by have := HK1.out; omega⟩, ⟨by (with_reducible repeat (first | refine blk_drewN ?_ _ | refine blk_drew ?_ | refine blk_alloc ?_ _)); exact BK209.out⟩, ⟨by repeat (first | (with_reducible first | exact HB.out | apply below_alloc | apply pw_below_drewN | apply below_drew1 | refine below_set ?_ GE209.out) | exact HB.out)⟩⟩
                    · rw [if_neg c15] at H
                      exact absurd H (by simp)
                  · rw [if_neg c14] at H
                    exact absurd H (by simp)
              · rw [if_neg c10] at H
                exact absurd H (by simp)
            · rw [if_neg c9] at H
              have c9b0 : decide (0 < ((rd_L1 l2_0 x7_1).length : Int)) = false := decide_eq_false c9
              have c9b1 : decide (0 < (rd_L1 l2_0 x7_1).length) = false := decide_eq_false (by omega)
              clear c9
              have H' := Aside0.mk H
              clear H
              have hcz19_0 : wr.cell? ⟨gb209, 0, none⟩ = some (.slice A2_0 l2_0.length c2_0) := (blk_cell BK209.out 0).trans rfl
              have hcz19_1 : wr.cell? ⟨gb209, 1, none⟩ = some (.slice A2_1 l2_1.length c2_1) := (blk_cell BK209.out 1).trans rfl
              have hfz19_0 := blk_frozen BK209.out 0
              have hfz19_1 := blk_frozen BK209.out 1
              have p210 : 0 ≤ (x7_1 : Int) := of_decide_eq_true (by first | (with_reducible assumption) | assumption)
              have q210 : x7_1 < (l2_0.length : Int) := of_decide_eq_true (by first | (with_reducible assumption) | assumption)
              obtain ⟨ad210, A210_0, c210_0, e210, hx210_0, hl210_0, hi210_0⟩ := at_L1 HR2_0.out x7_1 p210 q210
              cases e210
              replace hx210_0 := (HB.out.cell (World.block_lt_of_cell? w _ hx210_0)).trans hx210_0
              have HR210_0 := Aside0.mk hi210_0
              have HC210_0 := Aside0.mk hl210_0
              clear hi210_0 hl210_0
              replace p210 := eq_true p210
              replace q210 := eq_true q210
              go_wp2_with (first | ((with_reducible refine gate_callee (f := 48) rfl ?_); refine goesL_ (some 28) rfl rfl Try.func48 (by kernel_rfl) rfl #[.slice A210_0 (rd_L1 l2_0 x7_1).length c210_0] rfl (by (try simp only [List.map_toArray, List.map_cons, List.map_nil]); first | done | rfl | (simp only [List.length_drop, List.length_take]; rfl)) ?_; (with_reducible refine (arboristref01_Rising.calls k1 _ _ (rd_L1 l2_0 x7_1) true _ ?side1 ?side2 A7.out).mono ?_); (case side1 => repeat (first | exact (Kd.C_below HR210_0.out HB.out) | (with_reducible refine Kd.C_alloc ?_ _) | (with_reducible refine Kd.C_drewN ?_ _) | (with_reducible refine Kd.C_drew ?_))); (case side2 => exact HC210_0.out); rintro e w' ⟨rfl, ⟨nd, rfl⟩⟩; refine ⟨_, rfl, ?_⟩))
              go_roundg k1
              case measure => have := HK1.out; omega
              case rel => exact ⟨(wrap64 (x7_1 + 1)), (by first | rfl | (simp; done) | (simp [*]; done)), H', ⟨by have := HK1.out; omega⟩, ⟨by (with_reducible repeat (first | refine blk_drewN ?_ _ | refine blk_drew ?_ | refine blk_alloc ?_ _)); exact BK209.out⟩, ⟨by repeat (first | (with_reducible first | exact HB.out | apply below_alloc | apply pw_below_drewN | apply below_drew1 | refine below_set ?_ GE209.out) | exact HB.out)⟩⟩
          · replace c8 := Bool.eq_false_iff.mpr c8
            subst c8
            have H1 : (some false) = some r := by rw [if_neg (show ¬ (false = true) by decide)] at H; exact H
            clear H
            have H := H1
            clear H1
            obtain rfl := Option.some.inj H
            have hcz20_0 : wr.cell? ⟨gb209, 0, none⟩ = some (.slice A2_0 l2_0.length c2_0) := (blk_cell BK209.out 0).trans rfl
            have hcz20_1 : wr.cell? ⟨gb209, 1, none⟩ = some (.slice A2_1 l2_1.length c2_1) := (blk_cell BK209.out 1).trans rfl
            have hfz20_0 := blk_frozen BK209.out 0
            have hfz20_1 := blk_frozen BK209.out 1
            have p210 : 0 ≤ (x7_1 : Int) := of_decide_eq_true (by first | (with_reducible assumption) | assumption)
            have q210 : x7_1 < (l2_0.length : Int) := of_decide_eq_true (by first | (with_reducible assumption) | assumption)
            obtain ⟨ad210, A210_0, c210_0, e210, hx210_0, hl210_0, hi210_0⟩ := at_L1 HR2_0.out x7_1 p210 q210
            cases e210
            replace hx210_0 := (HB.out.cell (World.block_lt_of_cell? w _ hx210_0)).trans hx210_0
            have HR210_0 := Aside0.mk hi210_0
            have HC210_0 := Aside0.mk hl210_0
            clear hi210_0 hl210_0
            replace p210 := eq_true p210
            replace q210 := eq_true q210
            go_wp2_with (first | ((with_reducible refine gate_callee (f := 48) rfl ?_); refine goesL_ (some 28) rfl rfl Try.func48 (by kernel_rfl) rfl #[.slice A210_0 (rd_L1 l2_0 x7_1).length c210_0] rfl (by (try simp only [List.map_toArray, List.map_cons, List.map_nil]); first | done | rfl | (simp only [List.length_drop, List.length_take]; rfl)) ?_; (with_reducible refine (arboristref01_Rising.calls k1 _ _ (rd_L1 l2_0 x7_1) false _ ?side1 ?side2 A7.out).mono ?_); (case side1 => repeat (first | exact (Kd.C_below HR210_0.out HB.out) | (with_reducible refine Kd.C_alloc ?_ _) | (with_reducible refine Kd.C_drewN ?_ _) | (with_reducible refine Kd.C_drew ?_))); (case side2 => exact HC210_0.out); rintro e w' ⟨rfl, ⟨nd, rfl⟩⟩; refine ⟨_, rfl, ?_⟩))
            go_ret
            exact ⟨by first | rfl | (simp [errW_none, errW_some] <;> rfl) | (simp [*, errW_none, errW_some] <;> rfl), by repeat (first | (with_reducible first | exact HB.out | apply below_alloc | apply pw_below_drewN | apply below_drew1 | refine below_set ?_ GE209.out) | exact HB.out)⟩
        · rw [if_neg c6] at H
          exact absurd H (by simp)
      · rw [if_neg c5] at H
        have c5b0 : decide (x7_1 < (l2_0.length : Int)) = false := decide_eq_false c5
        clear c5
        have H' := Aside0.mk H
        clear H
        have hcz21_0 : wr.cell? ⟨gb209, 0, none⟩ = some (.slice A2_0 l2_0.length c2_0) := (blk_cell BK209.out 0).trans rfl
        have hcz21_1 : wr.cell? ⟨gb209, 1, none⟩ = some (.slice A2_1 l2_1.length c2_1) := (blk_cell BK209.out 1).trans rfl
        have hfz21_0 := blk_frozen BK209.out 0
        have hfz21_1 := blk_frozen BK209.out 1
        go_wp2
        go_loopg [9] k1 (fun kq v9 w' => ∃ (x9_2 : Int), v9 = .int .i64 x9_2 ∧ Aside0 (arboristref12_Covers.l1 kq a0 l1 x9_2 l2_0 l2_1 = some r) ∧ Aside0 (kq ≤ k1) ∧ Aside0 (w'.heap[gb209]? = some (.cells #[(.slice A2_0 l2_0.length c2_0), (.slice A2_1 l2_1.length c2_1)] 25 (0, 0))) ∧ Aside0 (Below w.heap.size w w'))
        case atStart => exact ⟨(0), (by first | rfl | (simp; done) | (simp [*]; done)), H', ⟨Nat.le_refl _⟩, ⟨by (with_reducible repeat (first | refine blk_drewN ?_ _ | refine blk_drew ?_ | refine blk_alloc ?_ _)); exact BK209.out⟩, ⟨by repeat (first | (with_reducible first | exact HB.out | apply below_alloc | apply pw_below_drewN | apply below_drew1 | refine below_set ?_ GE209.out) | exact HB.out)⟩⟩
        case round =>
          clear H'
          try clear c1
          try clear c2
          try clear p2
          try clear q2
          try clear hx2
          try clear qi2
          try clear c4
          try clear c5
          try clear c5b0
          try clear c6
          try clear c6b0
          try clear p6
          try clear c8
          try clear c9
          try clear c9b0
          try clear c9b1
          try clear c10
          try clear c10b0
          try clear c10b1
          try clear c11
          try clear c11b0
          try clear c14
          try clear c14b0
          try clear c15
          try clear c15b0
          try clear c16
          try clear c16b0
          try clear c21
          try clear p21
          try clear q21
          try clear hx21
          try clear qi21
          try clear hcz12_0
          try clear hcz12_1
          try clear hcz17_0
          try clear hcz17_1
          try clear hcz18_0
          try clear hcz18_1
          try clear hcz19_0
          try clear hcz19_1
          try clear hcz20_0
          try clear hcz20_1
          try clear hcz21_0
          try clear hcz21_1
          try clear hfz12_0
          try clear hfz12_1
          try clear hfz17_0
          try clear hfz17_1
          try clear hfz18_0
          try clear hfz18_1
          try clear hfz19_0
          try clear hfz19_1
          try clear hfz20_0
          try clear hfz20_1
          try clear hfz21_0
          try clear hfz21_1
          try clear hx210_0
          try clear hx212_0
          try clear hx213_0
          try clear p2
          try clear p210
          try clear p212
          try clear p213
          try clear q210
          try clear q212
          try clear q213
          obtain ⟨x9_2, rfl, HA, HK2, BK209, HB⟩ := hrel
          cases gk with
          | zero => exact absurd HA.out (by simp [arboristref12_Covers.l1])
          | succ k2 =>
            have H := HA.out
            clear HA
            simp only [arboristref12_Covers.l1] at H
            by_cases c22 : x9_2 < a0
            · rw [if_pos c22] at H
              have c22b0 : decide (x9_2 < a0) = true := decide_eq_true c22
              clear c22
              have H' := Aside0.mk H
              clear H
              go_wp2
              go_loopg [10, 11] k2 (fun kq v10 v11 w' => ∃ (x10_3 : Bool) (x11_3 : Int), v10 = .bool x10_3 ∧ v11 = .int .i64 x11_3 ∧ Aside0 (arboristref12_Covers.l2 kq a0 l1 x9_2 x10_3 x11_3 l2_0 l2_1 = some r) ∧ Aside0 (kq ≤ k2) ∧ Aside0 (w'.heap[gb209]? = some (.cells #[(.slice A2_0 l2_0.length c2_0), (.slice A2_1 l2_1.length c2_1)] 25 (0, 0))) ∧ Aside0 (Below w.heap.size w w'))
              case atStart => exact ⟨(false), (0), (by first | rfl | (simp; done) | (simp [*]; done)), (by first | rfl | (simp; done) | (simp [*]; done)), H', ⟨Nat.le_refl _⟩, ⟨by (with_reducible repeat (first | refine blk_drewN ?_ _ | refine blk_drew ?_ | refine blk_alloc ?_ _)); exact BK209.out⟩, ⟨by repeat (first | (with_reducible first | exact HB.out | apply below_alloc | apply pw_below_drewN | apply below_drew1 | refine below_set ?_ GE209.out) | exact HB.out)⟩⟩
              case round =>
                clear H'
                try clear c1
                try clear c2
                try clear p2
                try clear q2
                try clear hx2
                try clear qi2
                try clear c4
                try clear c5
                try clear c5b0
                try clear c6
                try clear c6b0
                try clear p6
                try clear c8
                try clear c9
                try clear c9b0
                try clear c9b1
                try clear c10
                try clear c10b0
                try clear c10b1
                try clear c11
                try clear c11b0
                try clear c14
                try clear c14b0
                try clear c15
                try clear c15b0
                try clear c16
                try clear c16b0
                try clear c21
                try clear p21
                try clear q21
                try clear hx21
                try clear qi21
                try clear c22
                try clear c22b0
                try clear hcz12_0
                try clear hcz12_1
                try clear hcz17_0
                try clear hcz17_1
                try clear hcz18_0
                try clear hcz18_1
                try clear hcz19_0
                try clear hcz19_1
                try clear hcz20_0
                try clear hcz20_1
                try clear hcz21_0
                try clear hcz21_1
                try clear hfz12_0
                try clear hfz12_1
                try clear hfz17_0
                try clear hfz17_1
                try clear hfz18_0
                try clear hfz18_1
                try clear hfz19_0
                try clear hfz19_1
                try clear hfz20_0
                try clear hfz20_1
                try clear hfz21_0
                try clear hfz21_1
                try clear hx210_0
                try clear hx212_0
                try clear hx213_0
                try clear p2
                try clear p21
                try clear p210
                try clear p212
                try clear p213
                try clear p6
                try clear q2
                try clear q21
                try clear q210
                try clear q212
                try clear q213
                obtain ⟨x10_3, x11_3, rfl, rfl, HA, HK3, BK209, HB⟩ := hrel
                cases gk with
                | zero => exact absurd HA.out (by simp [arboristref12_Covers.l2])
                | succ k3 =>
                  have H := HA.out
                  clear HA
                  simp only [arboristref12_Covers.l2] at H
                  by_cases c23 : x11_3 < (l2_0.length : Int)
                  · rw [if_pos c23] at H
                    have c23b0 : decide (x11_3 < (l2_0.length : Int)) = true := decide_eq_true c23
                    clear c23
                    by_cases c24 : x10_3 = true
                    · subst c24
                      have H1 : (arboristref12_Covers.l2 k3 a0 l1 x9_2 true (wrap64 (x11_3 + 1)) l2_0 l2_1) = some r := by rw [if_pos rfl] at H; exact H
                      clear H
                      have H := H1
                      clear H1
                      have H' := Aside0.mk H
                      clear H
                      have hcz25_0 : wr.cell? ⟨gb209, 0, none⟩ = some (.slice A2_0 l2_0.length c2_0) := (blk_cell BK209.out 0).trans rfl
                      have hcz25_1 : wr.cell? ⟨gb209, 1, none⟩ = some (.slice A2_1 l2_1.length c2_1) := (blk_cell BK209.out 1).trans rfl
                      have hfz25_0 := blk_frozen BK209.out 0
                      have hfz25_1 := blk_frozen BK209.out 1
                      go_wp2
                      go_roundg k3
                      case measure => have := HK1.out; have := HK2.out; have := HK3.out; omega
                      case rel => exact ⟨(true), (wrap64 (x11_3 + 1)), (by first | rfl | (simp; done) | (simp [*]; done)), (by first | rfl | (simp; done) | (simp [*]; done)), H', ⟨by have := HK1.out; have := HK2.out; have := HK3.out; omega⟩, ⟨by (with_reducible repeat (first | refine blk_drewN ?_ _ | refine blk_drew ?_ | refine blk_alloc ?_ _)); exact BK209.out⟩, ⟨by repeat (first | (with_reducible first | exact HB.out | apply below_alloc | apply pw_below_drewN | apply below_drew1 | refine below_set ?_ GE209.out) | exact HB.out)⟩⟩
                    · replace c24 := Bool.eq_false_iff.mpr c24
                      subst c24
                      have H1 : (if 0 ≤ x11_3 then ((arboristref12_all.f k3 (([x9_2] : List Int)) (rd_L1 l2_0 x11_3)).bind fun t218 => (arboristref12_Covers.l2 k3 a0 l1 x9_2 t218 (wrap64 (x11_3 + 1)) l2_0 l2_1)) else (none)) = some r := by rw [if_neg (show ¬ (false = true) by decide)] at H; exact H
                      clear H
                      have H := H1
                      clear H1
                      obtain ⟨y214, hy214⟩ : ∃ y_ : List Int, y_ = (([x9_2] : List Int)) := ⟨_, rfl⟩
                      replace H : (if 0 ≤ x11_3 then ((arboristref12_all.f k3 y214 (rd_L1 l2_0 x11_3)).bind fun t218 => (arboristref12_Covers.l2 k3 a0 l1 x9_2 t218 (wrap64 (x11_3 + 1)) l2_0 l2_1)) else (none)) = some r := by first | (rw [hy214]; with_reducible exact H) | (have H2_ := (Option.bind_some _ _).symm.trans H; rw [hy214]; with_reducible exact H2_) | (have H2_ := (Option.bind_some _ _).symm.trans H; with_reducible exact H2_) | with_reducible exact H | (rw [hy214]; exact H) | exact H
                      have Ny214 := Aside0.mk hy214
                      clear hy214
                      by_cases c26 : 0 ≤ x11_3
                      · rw [if_pos c26] at H
                        have c26b0 : decide (0 ≤ x11_3) = true := decide_eq_true c26
                        clear c26
                        replace H := Option.bind_eq_some_iff.mp H
                        obtain ⟨t218, A270, H⟩ := H
                        replace H : (arboristref12_Covers.l2 k3 a0 l1 x9_2 t218 (wrap64 (x11_3 + 1)) l2_0 l2_1) = some r := H
                        have A27 := Aside0.mk A270
                        clear A270
                        have H' := Aside0.mk H
                        clear H
                        have hcz28_0 : wr.cell? ⟨gb209, 0, none⟩ = some (.slice A2_0 l2_0.length c2_0) := (blk_cell BK209.out 0).trans rfl
                        have hcz28_1 : wr.cell? ⟨gb209, 1, none⟩ = some (.slice A2_1 l2_1.length c2_1) := (blk_cell BK209.out 1).trans rfl
                        have hfz28_0 := blk_frozen BK209.out 0
                        have hfz28_1 := blk_frozen BK209.out 1
                        go_wp2_with (first | ((with_reducible refine gate_dst (N := 66) rfl ?_); (try (refine gate_guard (by rfl) ?_; dsimp only)); refine Kd.R_lit (Kd.int .i64) _ 3 ?hg (N := 66) ?hd (xs := ([x9_2] : List Int)) (inner := [.int .i64 x9_2]) (ok := fun _ => True) (okp := fun _ => True) ?hr ?hp (fun _ hk => hk) trivial (Below.refl _ _) (Nat.le_refl _) (by simp) ?_; (case hd => rfl); (case hg => rfl); (case hr => first | (go_simp; done) | (go_simp; rfl)); (case hp => exact (Reps.one (show Kd.M (Kd.int .i64) _ _ _ x9_2 [.int .i64 x9_2] from rfl) (Reps.none _ _))); intro v215 w29 ho30 hb hg_ hnew_; clear hg_ hnew_; (first | rw [← Ny214.out] at ho30 | (simp only [Int.reduceToNat] at ho30; rw [← Ny214.out] at ho30)); have n0_ := Aside0.mk (Kd.R_lower ho30 (below_size (by repeat (first | (with_reducible first | exact HB.out | apply below_alloc | apply pw_below_drewN | apply below_drew1 | refine below_set ?_ GE209.out) | exact HB.out)))); have n1_ := Aside0.mk (blk_below (g := gb209) (o := .cells #[.slice A2_0 l2_0.length c2_0, .slice A2_1 l2_1.length c2_1] 25 (0, 0)) (by (with_reducible repeat (first | refine blk_drewN ?_ _ | refine blk_drew ?_ | refine blk_alloc ?_ _)); exact BK209.out) hb); have n2_ := Aside0.mk (below_step (by repeat (first | (with_reducible first | exact HB.out | apply below_alloc | apply pw_below_drewN | apply below_drew1 | refine below_set ?_ GE209.out) | exact HB.out)) hb); clear BK209; clear HB; have HO216 := n0_; have BK209 := n1_; have HB := n2_; clear n0_ n1_ n2_; clear hb ho30; have hcz31_0 : w29.cell? ⟨gb209, 0, none⟩ = some (.slice A2_0 l2_0.length c2_0) := (blk_cell BK209.out 0).trans rfl; have hcz31_1 : w29.cell? ⟨gb209, 1, none⟩ = some (.slice A2_1 l2_1.length c2_1) := (blk_cell BK209.out 1).trans rfl; have hfz31_0 := blk_frozen BK209.out 0; have hfz31_1 := blk_frozen BK209.out 1; have p217 : 0 ≤ (x11_3 : Int) := of_decide_eq_true (by first | (with_reducible assumption) | assumption); have q217 : x11_3 < (l2_0.length : Int) := of_decide_eq_true (by first | (with_reducible assumption) | assumption); obtain ⟨ad217, A217_0, c217_0, e217, hx217_0, hl217_0, hi217_0⟩ := at_L1 HR2_0.out x11_3 p217 q217; cases e217; replace hx217_0 := (HB.out.cell (World.block_lt_of_cell? w _ hx217_0)).trans hx217_0; have HR217_0 := Aside0.mk hi217_0; have HC217_0 := Aside0.mk hl217_0; clear hi217_0 hl217_0; replace p217 := eq_true p217; replace q217 := eq_true q217; obtain ⟨Ao32, co32, eo32⟩ := Kd.R_slice HO216.out; subst eo32) | (go_at_call 49; (with_reducible refine (arboristref12_all.calls k3 _ _ y214 _ _ (rd_L1 l2_0 x11_3) t218 _ ?side1 ?side2 ?side3 ?side4 A27.out).mono ?_); (case side1 => repeat (first | exact (Kd.R_reads' HO216.out).2.2 | (with_reducible refine Kd.C_alloc ?_ _) | (with_reducible refine Kd.C_drewN ?_ _) | (with_reducible refine Kd.C_drew ?_))); (case side2 => exact (Kd.R_reads' HO216.out).2.1); (case side3 => repeat (first | exact (Kd.C_below HR217_0.out HB.out) | (with_reducible refine Kd.C_alloc ?_ _) | (with_reducible refine Kd.C_drewN ?_ _) | (with_reducible refine Kd.C_drew ?_))); (case side4 => exact HC217_0.out); rintro e w33 ⟨rfl, hb⟩; have n0_ := Aside0.mk (Kd.R_below (by (with_reducible repeat (first | apply Kd.R_alloc | apply Kd.R_drewN | apply Kd.R_drew)); exact HO216.out) hb); have n1_ := Aside0.mk (blk_below (g := gb209) (o := .cells #[.slice (some ad217) l2_0.length c2_0, .slice A2_1 l2_1.length c2_1] 25 (0, 0)) (by (with_reducible repeat (first | refine blk_drewN ?_ _ | refine blk_drew ?_ | refine blk_alloc ?_ _)); exact BK209.out) hb); have n2_ := Aside0.mk (below_step (by repeat (first | (with_reducible first | exact HB.out | apply below_alloc | apply pw_below_drewN | apply below_drew1 | refine below_set ?_ GE209.out) | exact HB.out)) hb); clear HO216; clear BK209; clear HB; have HO216 := n0_; have BK209 := n1_; have HB := n2_; clear n0_ n1_ n2_; (try clear hb); (try clear hb2); (try clear hk); (try clear hi)))
                        go_roundg k3
                        case measure => have := HK1.out; have := HK2.out; have := HK3.out; omega
                        case rel => exact ⟨(t218), (wrap64 (x11_3 + 1)), (by first | rfl | (simp; done) | (simp [*]; done)), (by first | rfl | (simp; done) | (simp [*]; done)), H', ⟨by have := HK1.out; have := HK2.out; have := HK3.out; omega⟩, ⟨by (with_reducible repeat (first | refine blk_drewN ?_ _ | refine blk_drew ?_ | refine blk_alloc ?_ _)); exact BK209.out⟩, ⟨by repeat (first | (with_reducible first | exact HB.out | apply below_alloc | apply pw_below_drewN | apply below_drew1 | refine below_set ?_ GE209.out) | exact HB.out)⟩⟩
                      · rw [if_neg c26] at H
                        exact absurd H (by simp)
                  · rw [if_neg c23] at H
                    have c23b0 : decide (x11_3 < (l2_0.length : Int)) = false := decide_eq_false c23
                    clear c23
                    by_cases c34 : x10_3 = true
                    · subst c34
                      have H1 : (arboristref12_Covers.l1 k3 a0 l1 (wrap64 (x9_2 + 1)) l2_0 l2_1) = some r := by rw [if_pos rfl] at H; exact H
                      clear H
                      have H := H1
                      clear H1
                      have H' := Aside0.mk H
                      clear H
                      have hcz35_0 : wr.cell? ⟨gb209, 0, none⟩ = some (.slice A2_0 l2_0.length c2_0) := (blk_cell BK209.out 0).trans rfl
                      have hcz35_1 : wr.cell? ⟨gb209, 1, none⟩ = some (.slice A2_1 l2_1.length c2_1) := (blk_cell BK209.out 1).trans rfl
                      have hfz35_0 := blk_frozen BK209.out 0
                      have hfz35_1 := blk_frozen BK209.out 1
                      go_wp2
                      go_roundg k3
                      case measure => have := HK1.out; have := HK2.out; have := HK3.out; omega
                      case rel => exact ⟨(wrap64 (x9_2 + 1)), (by first | rfl | (simp; done) | (simp [*]; done)), H', ⟨by have := HK1.out; have := HK2.out; have := HK3.out; omega⟩, ⟨by (with_reducible repeat (first | refine blk_drewN ?_ _ | refine blk_drew ?_ | refine blk_alloc ?_ _)); exact BK209.out⟩, ⟨by repeat (first | (with_reducible first | exact HB.out | apply below_alloc | apply pw_below_drewN | apply below_drew1 | refine below_set ?_ GE209.out) | exact HB.out)⟩⟩
                    · replace c34 := Bool.eq_false_iff.mpr c34
                      subst c34
                      have H1 : (some false) = some r := by rw [if_neg (show ¬ (false = true) by decide)] at H; exact H
                      clear H
                      have H := H1
                      clear H1
                      obtain rfl := Option.some.inj H
                      have hcz36_0 : wr.cell? ⟨gb209, 0, none⟩ = some (.slice A2_0 l2_0.length c2_0) := (blk_cell BK209.out 0).trans rfl
                      have hcz36_1 : wr.cell? ⟨gb209, 1, none⟩ = some (.slice A2_1 l2_1.length c2_1) := (blk_cell BK209.out 1).trans rfl
                      have hfz36_0 := blk_frozen BK209.out 0
                      have hfz36_1 := blk_frozen BK209.out 1
                      go_wp2
                      go_ret
                      exact ⟨by first | rfl | (simp [errW_none, errW_some] <;> rfl) | (simp [*, errW_none, errW_some] <;> rfl), by repeat (first | (with_reducible first | exact HB.out | apply below_alloc | apply pw_below_drewN | apply below_drew1 | refine below_set ?_ GE209.out) | exact HB.out)⟩
            · rw [if_neg c22] at H
              have c22b0 : decide (x9_2 < a0) = false := decide_eq_false c22
              clear c22
              have H' := Aside0.mk H
              clear H
              go_wp2
              go_loopg [12] k2 (fun kq v12 w' => ∃ (x12_3 : Int), v12 = .int .i64 x12_3 ∧ Aside0 (arboristref12_Covers.l3 kq l1 x12_3 l2_0 l2_1 = some r) ∧ Aside0 (kq ≤ k2) ∧ Aside0 (w'.heap[gb209]? = some (.cells #[(.slice A2_0 l2_0.length c2_0), (.slice A2_1 l2_1.length c2_1)] 25 (0, 0))) ∧ Aside0 (Below w.heap.size w w'))
              case atStart => exact ⟨(0), (by first | rfl | (simp; done) | (simp [*]; done)), H', ⟨Nat.le_refl _⟩, ⟨by (with_reducible repeat (first | refine blk_drewN ?_ _ | refine blk_drew ?_ | refine blk_alloc ?_ _)); exact BK209.out⟩, ⟨by repeat (first | (with_reducible first | exact HB.out | apply below_alloc | apply pw_below_drewN | apply below_drew1 | refine below_set ?_ GE209.out) | exact HB.out)⟩⟩
              case round =>
                clear H'
                try clear c1
                try clear c2
                try clear p2
                try clear q2
                try clear hx2
                try clear qi2
                try clear c3
                try clear c4
                try clear c5
                try clear c5b0
                try clear c6
                try clear c6b0
                try clear p6
                try clear c8
                try clear c9
                try clear c9b0
                try clear c9b1
                try clear c10
                try clear c10b0
                try clear c10b1
                try clear c11
                try clear c11b0
                try clear c14
                try clear c14b0
                try clear c15
                try clear c15b0
                try clear c16
                try clear c16b0
                try clear c21
                try clear p21
                try clear q21
                try clear hx21
                try clear qi21
                try clear c22
                try clear c22b0
                try clear c23
                try clear c23b0
                try clear c24
                try clear c26
                try clear c26b0
                try clear c34
                try clear hcz12_0
                try clear hcz12_1
                try clear hcz17_0
                try clear hcz17_1
                try clear hcz18_0
                try clear hcz18_1
                try clear hcz19_0
                try clear hcz19_1
                try clear hcz20_0
                try clear hcz20_1
                try clear hcz21_0
                try clear hcz21_1
                try clear hcz25_0
                try clear hcz25_1
                try clear hcz28_0
                try clear hcz28_1
                try clear hcz31_0
                try clear hcz31_1
                try clear hcz35_0
                try clear hcz35_1
                try clear hcz36_0
                try clear hcz36_1
                try clear hfz12_0
                try clear hfz12_1
                try clear hfz17_0
                try clear hfz17_1
                try clear hfz18_0
                try clear hfz18_1
                try clear hfz19_0
                try clear hfz19_1
                try clear hfz20_0
                try clear hfz20_1
                try clear hfz21_0
                try clear hfz21_1
                try clear hfz25_0
                try clear hfz25_1
                try clear hfz28_0
                try clear hfz28_1
                try clear hfz31_0
                try clear hfz31_1
                try clear hfz35_0
                try clear hfz35_1
                try clear hfz36_0
                try clear hfz36_1
                try clear hx210_0
                try clear hx212_0
                try clear hx213_0
                try clear hx217_0
                try clear p2
                try clear p21
                try clear p210
                try clear p212
                try clear p213
                try clear p217
                try clear p6
                try clear q2
                try clear q21
                try clear q210
                try clear q212
                try clear q213
                try clear q217
                obtain ⟨x12_3, rfl, HA, HK3, BK209, HB⟩ := hrel
                cases gk with
                | zero => exact absurd HA.out (by simp [arboristref12_Covers.l3])
                | succ k3 =>
                  have H := HA.out
                  clear HA
                  simp only [arboristref12_Covers.l3] at H
                  by_cases c37 : x12_3 < (l1.length : Int)
                  · rw [if_pos c37] at H
                    have c37b0 : decide (x12_3 < (l1.length : Int)) = true := decide_eq_true c37
                    clear c37
                    have H' := Aside0.mk H
                    clear H
                    go_wp2
                    go_loopg [13, 14] k3 (fun kq v13 v14 w' => ∃ (x13_4 : Bool) (x14_4 : Int), v13 = .bool x13_4 ∧ v14 = .int .i64 x14_4 ∧ Aside0 (arboristref12_Covers.l4 kq l1 x12_3 x13_4 x14_4 l2_0 l2_1 = some r) ∧ Aside0 (kq ≤ k3) ∧ Aside0 (w'.heap[gb209]? = some (.cells #[(.slice A2_0 l2_0.length c2_0), (.slice A2_1 l2_1.length c2_1)] 25 (0, 0))) ∧ Aside0 (Below w.heap.size w w'))
                    case atStart => exact ⟨(false), (0), (by first | rfl | (simp; done) | (simp [*]; done)), (by first | rfl | (simp; done) | (simp [*]; done)), H', ⟨Nat.le_refl _⟩, ⟨by (with_reducible repeat (first | refine blk_drewN ?_ _ | refine blk_drew ?_ | refine blk_alloc ?_ _)); exact BK209.out⟩, ⟨by repeat (first | (with_reducible first | exact HB.out | apply below_alloc | apply pw_below_drewN | apply below_drew1 | refine below_set ?_ GE209.out) | exact HB.out)⟩⟩
                    case round =>
                      clear H'
                      try clear c1
                      try clear c2
                      try clear p2
                      try clear q2
                      try clear hx2
                      try clear qi2
                      try clear c3
                      try clear c4
                      try clear c5
                      try clear c5b0
                      try clear c6
                      try clear c6b0
                      try clear p6
                      try clear c8
                      try clear c9
                      try clear c9b0
                      try clear c9b1
                      try clear c10
                      try clear c10b0
                      try clear c10b1
                      try clear c11
                      try clear c11b0
                      try clear c14
                      try clear c14b0
                      try clear c15
                      try clear c15b0
                      try clear c16
                      try clear c16b0
                      try clear c21
                      try clear p21
                      try clear q21
                      try clear hx21
                      try clear qi21
                      try clear c22
                      try clear c22b0
                      try clear c23
                      try clear c23b0
                      try clear c24
                      try clear c26
                      try clear c26b0
                      try clear c34
                      try clear c37
                      try clear c37b0
                      try clear hcz12_0
                      try clear hcz12_1
                      try clear hcz17_0
                      try clear hcz17_1
                      try clear hcz18_0
                      try clear hcz18_1
                      try clear hcz19_0
                      try clear hcz19_1
                      try clear hcz20_0
                      try clear hcz20_1
                      try clear hcz21_0
                      try clear hcz21_1
                      try clear hcz25_0
                      try clear hcz25_1
                      try clear hcz28_0
                      try clear hcz28_1
                      try clear hcz31_0
                      try clear hcz31_1
                      try clear hcz35_0
                      try clear hcz35_1
                      try clear hcz36_0
                      try clear hcz36_1
                      try clear hfz12_0
                      try clear hfz12_1
                      try clear hfz17_0
                      try clear hfz17_1
                      try clear hfz18_0
                      try clear hfz18_1
                      try clear hfz19_0
                      try clear hfz19_1
                      try clear hfz20_0
                      try clear hfz20_1
                      try clear hfz21_0
                      try clear hfz21_1
                      try clear hfz25_0
                      try clear hfz25_1
                      try clear hfz28_0
                      try clear hfz28_1
                      try clear hfz31_0
                      try clear hfz31_1
                      try clear hfz35_0
                      try clear hfz35_1
                      try clear hfz36_0
                      try clear hfz36_1
                      try clear hx210_0
                      try clear hx212_0
                      try clear hx213_0
                      try clear hx217_0
                      try clear p2
                      try clear p21
                      try clear p210
                      try clear p212
                      try clear p213
                      try clear p217
                      try clear p6
                      try clear q2
                      try clear q21
                      try clear q210
                      try clear q212
                      try clear q213
                      try clear q217
                      obtain ⟨x13_4, x14_4, rfl, rfl, HA, HK4, BK209, HB⟩ := hrel
                      cases gk with
                      | zero => exact absurd HA.out (by simp [arboristref12_Covers.l4])
                      | succ k4 =>
                        have H := HA.out
                        clear HA
                        simp only [arboristref12_Covers.l4] at H
                        by_cases c38 : x14_4 < (l2_0.length : Int)
                        · rw [if_pos c38] at H
                          have c38b0 : decide (x14_4 < (l2_0.length : Int)) = true := decide_eq_true c38
                          clear c38
                          by_cases c39 : x13_4 = true
                          · subst c39
                            have H1 : (arboristref12_Covers.l4 k4 l1 x12_3 true (wrap64 (x14_4 + 1)) l2_0 l2_1) = some r := by rw [if_pos rfl] at H; exact H
                            clear H
                            have H := H1
                            clear H1
                            have H' := Aside0.mk H
                            clear H
                            have hcz40_0 : wr.cell? ⟨gb209, 0, none⟩ = some (.slice A2_0 l2_0.length c2_0) := (blk_cell BK209.out 0).trans rfl
                            have hcz40_1 : wr.cell? ⟨gb209, 1, none⟩ = some (.slice A2_1 l2_1.length c2_1) := (blk_cell BK209.out 1).trans rfl
                            have hfz40_0 := blk_frozen BK209.out 0
                            have hfz40_1 := blk_frozen BK209.out 1
                            try go_wp2
                            have n0_ := Aside0.mk (blk_drew BK209.out)
                            have n1_ := Aside0.mk (below_drew1 HB.out)
                            clear BK209
                            clear HB
                            have BK209 := n0_
                            have HB := n1_
                            clear n0_ n1_
                            refine start_ (n := 14) (S := fun w' => True) (ds := []) (bs 14 0) (by kernel_rfl) rfl rfl trivial (fun hHeld => ?_); refine with_tabW arboristref12_Covers.tab24 arboristref12_Covers.bits24 (fun HT_ HW_ => ?_)
                            generalize wr.drew = w41 at BK209 HB hHeld ⊢
                            refine pure_ (i := 0) (N := some 89) (v := ?_) (a' := ?_) (bs 14 1) rfl rfl (any_of HT_.out (by kernel_rfl)) (fun _ _ _ h => h) (Or.inl ⟨by rfl, ?_⟩) ?_ ?_
                            rotate_left; (intro w'; go_simp; with_reducible rfl); rotate_left; (simp only [Act.put, List.setIfInBounds_toArray, List.set_cons_zero, List.set_cons_succ, i64_w, i32_w]; rfl)
                            refine pure_ (i := 1) (N := some 90) (v := ?_) (a' := ?_) (bs 14 3) rfl rfl (any_of HT_.out (by kernel_rfl)) (fun _ _ _ h => h) (Or.inl ⟨by rfl, ?_⟩) ?_ ?_
                            rotate_left; (intro w'; go_simp; with_reducible rfl); rotate_left; (simp only [Act.put, List.setIfInBounds_toArray, List.set_cons_zero, List.set_cons_succ, i64_w, i32_w]; rfl)
                            refine pure_ (i := 2) (N := some 91) (v := undef) (a' := ?_) (bs 14 7) rfl rfl (any_of HT_.out (by kernel_rfl)) (fun _ _ _ h => h) (Or.inr ⟨by rfl, rfl⟩) ?_ ?_
                            rotate_left; (simp only [Act.put, List.setIfInBounds_toArray, List.set_cons_zero, List.set_cons_succ, i64_w, i32_w]; rfl)
                            refine pure_ (i := 3) (N := some 92) (v := undef) (a' := ?_) (bs 14 15) rfl rfl (any_of HT_.out (by kernel_rfl)) (fun _ _ _ h => h) (Or.inr ⟨by rfl, rfl⟩) ?_ ?_
                            rotate_left; (simp only [Act.put, List.setIfInBounds_toArray, List.set_cons_zero, List.set_cons_succ, i64_w, i32_w]; rfl)
                            refine pure_ (i := 4) (N := some 93) (v := undef) (a' := ?_) (bs 14 31) rfl rfl (any_of HT_.out (by kernel_rfl)) (fun _ _ _ h => h) (Or.inr ⟨by rfl, rfl⟩) ?_ ?_
                            rotate_left; (simp only [Act.put, List.setIfInBounds_toArray, List.set_cons_zero, List.set_cons_succ, i64_w, i32_w]; rfl)
                            refine pure_ (i := 5) (N := some 94) (v := undef) (a' := ?_) (bs 14 63) rfl rfl (any_of HT_.out (by kernel_rfl)) (fun _ _ _ h => h) (Or.inr ⟨by rfl, rfl⟩) ?_ ?_
                            rotate_left; (simp only [Act.put, List.setIfInBounds_toArray, List.set_cons_zero, List.set_cons_succ, i64_w, i32_w]; rfl)
                            refine pure_ (i := 6) (N := some 95) (v := undef) (a' := ?_) (bs 14 127) rfl rfl (any_of HT_.out (by kernel_rfl)) (fun _ _ _ h => h) (Or.inr ⟨by rfl, rfl⟩) ?_ ?_
                            rotate_left; (simp only [Act.put, List.setIfInBounds_toArray, List.set_cons_zero, List.set_cons_succ, i64_w, i32_w]; rfl)
                            refine pure_ (i := 7) (N := some 96) (v := undef) (a' := ?_) (bs 14 255) rfl rfl (any_of HT_.out (by kernel_rfl)) (fun _ _ _ h => h) (Or.inr ⟨by rfl, rfl⟩) ?_ ?_
                            rotate_left; (simp only [Act.put, List.setIfInBounds_toArray, List.set_cons_zero, List.set_cons_succ, i64_w, i32_w]; rfl)
                            refine pure_ (i := 8) (N := some 97) (v := undef) (a' := ?_) (bs 14 511) rfl rfl (any_of HT_.out (by kernel_rfl)) (fun _ _ _ h => h) (Or.inr ⟨by rfl, rfl⟩) ?_ ?_
                            rotate_left; (simp only [Act.put, List.setIfInBounds_toArray, List.set_cons_zero, List.set_cons_succ, i64_w, i32_w]; rfl)
                            refine pure_ (i := 9) (N := some 98) (v := undef) (a' := ?_) (bs 14 1023) rfl rfl (any_of HT_.out (by kernel_rfl)) (fun _ _ _ h => h) (Or.inr ⟨by rfl, rfl⟩) ?_ ?_
                            rotate_left; (simp only [Act.put, List.setIfInBounds_toArray, List.set_cons_zero, List.set_cons_succ, i64_w, i32_w]; rfl)
                            refine pure_ (i := 10) (N := some 99) (v := undef) (a' := ?_) (bs 14 2047) rfl rfl (any_of HT_.out (by kernel_rfl)) (fun _ _ _ h => h) (Or.inr ⟨by rfl, rfl⟩) ?_ ?_
                            rotate_left; (simp only [Act.put, List.setIfInBounds_toArray, List.set_cons_zero, List.set_cons_succ, i64_w, i32_w]; rfl)
                            refine pure_ (i := 11) (N := some 100) (v := undef) (a' := ?_) (bs 14 4095) rfl rfl (any_of HT_.out (by kernel_rfl)) (fun _ _ _ h => h) (Or.inr ⟨by rfl, rfl⟩) ?_ ?_
                            rotate_left; (simp only [Act.put, List.setIfInBounds_toArray, List.set_cons_zero, List.set_cons_succ, i64_w, i32_w]; rfl)
                            refine pure_ (i := 12) (N := some 101) (v := ?_) (a' := ?_) (bs 14 8191) rfl rfl (any_of HT_.out (by kernel_rfl)) (fun _ _ _ h => h) (Or.inl ⟨by rfl, ?_⟩) ?_ ?_
                            rotate_left; (intro w'; go_simp; with_reducible rfl); rotate_left; (simp only [Act.put, List.setIfInBounds_toArray, List.set_cons_zero, List.set_cons_succ, i64_w, i32_w]; rfl)
                            refine pure_ (i := 13) (N := some 13) (v := ?_) (a' := ?_) (bs 14 16383) rfl rfl (any_of HT_.out (by kernel_rfl)) (fun _ _ _ h => h) (Or.inl ⟨by rfl, ?_⟩) ?_ ?_
                            rotate_left; (intro w'; go_simp; with_reducible rfl); rotate_left; (simp only [Act.put, List.setIfInBounds_toArray, List.set_cons_zero, List.set_cons_succ, i64_w, i32_w]; rfl)
                            refine done_ (done_of HT_.out (by kernel_rfl)) ?_
                            try go_wp2
                            go_roundg k4
                            case measure => have := HK1.out; have := HK2.out; have := HK3.out; have := HK4.out; omega
                            case rel => exact ⟨(true), (wrap64 (x14_4 + 1)), (by first | rfl | (simp; done) | (simp [*]; done)), (by first | rfl | (simp; done) | (simp [*]; done)), H', ⟨by have := HK1.out; have := HK2.out; have := HK3.out; have := HK4.out; omega⟩, ⟨by (with_reducible repeat (first | refine blk_drewN ?_ _ | refine blk_drew ?_ | refine blk_alloc ?_ _)); exact BK209.out⟩, ⟨by repeat (first | (with_reducible first | exact HB.out | apply below_alloc | apply pw_below_drewN | apply below_drew1 | refine below_set ?_ GE209.out) | exact HB.out)⟩⟩
                          · replace c39 := Bool.eq_false_iff.mpr c39
                            subst c39
                            have H1 : (if 0 ≤ x12_3 then (if x12_3 < (l1.length : Int) then (if 0 ≤ x14_4 then ((arboristref12_all.f k4 (rd_L1 l1 x12_3) (rd_L1 l2_0 x14_4)).bind fun t221 => (arboristref12_Covers.l4 k4 l1 x12_3 t221 (wrap64 (x14_4 + 1)) l2_0 l2_1)) else (none)) else (none)) else (none)) = some r := by rw [if_neg (show ¬ (false = true) by decide)] at H; exact H
                            clear H
                            have H := H1
                            clear H1
                            by_cases c42 : 0 ≤ x12_3
                            · rw [if_pos c42] at H
                              have c42b0 : decide (0 ≤ x12_3) = true := decide_eq_true c42
                              clear c42
                              by_cases c43 : x12_3 < (l1.length : Int)
                              · rw [if_pos c43] at H
                                have c43b0 : decide (x12_3 < (l1.length : Int)) = true := decide_eq_true c43
                                clear c43
                                by_cases c44 : 0 ≤ x14_4
                                · rw [if_pos c44] at H
                                  have c44b0 : decide (0 ≤ x14_4) = true := decide_eq_true c44
                                  clear c44
                                  replace H := Option.bind_eq_some_iff.mp H
                                  obtain ⟨t221, A450, H⟩ := H
                                  replace H : (arboristref12_Covers.l4 k4 l1 x12_3 t221 (wrap64 (x14_4 + 1)) l2_0 l2_1) = some r := H
                                  have A45 := Aside0.mk A450
                                  clear A450
                                  have H' := Aside0.mk H
                                  clear H
                                  have hcz46_0 : wr.cell? ⟨gb209, 0, none⟩ = some (.slice A2_0 l2_0.length c2_0) := (blk_cell BK209.out 0).trans rfl
                                  have hcz46_1 : wr.cell? ⟨gb209, 1, none⟩ = some (.slice A2_1 l2_1.length c2_1) := (blk_cell BK209.out 1).trans rfl
                                  have hfz46_0 := blk_frozen BK209.out 0
                                  have hfz46_1 := blk_frozen BK209.out 1
                                  try go_wp2
                                  have n0_ := Aside0.mk (blk_drew BK209.out)
                                  have n1_ := Aside0.mk (below_drew1 HB.out)
                                  clear BK209
                                  clear HB
                                  have BK209 := n0_
                                  have HB := n1_
                                  clear n0_ n1_
                                  have p219 : 0 ≤ (x12_3 : Int) := of_decide_eq_true (by first | (with_reducible assumption) | assumption)
                                  have q219 : x12_3 < (l1.length : Int) := of_decide_eq_true (by first | (with_reducible assumption) | assumption)
                                  obtain ⟨ad219, A219_0, c219_0, e219, hx219_0, hl219_0, hi219_0⟩ := at_L1 HR1.out x12_3 p219 q219
                                  have hw219_0 := hx219_0
                                  cases e219
                                  replace hx219_0 := (HB.out.cell (World.block_lt_of_cell? w _ hx219_0)).trans hx219_0
                                  have HR219_0 := Aside0.mk hi219_0
                                  have HC219_0 := Aside0.mk hl219_0
                                  clear hi219_0 hl219_0
                                  replace p219 := eq_true p219
                                  replace q219 := eq_true q219
                                  have p220 : 0 ≤ (x14_4 : Int) := of_decide_eq_true (by first | (with_reducible assumption) | assumption)
                                  have q220 : x14_4 < (l2_0.length : Int) := of_decide_eq_true (by first | (with_reducible assumption) | assumption)
                                  obtain ⟨ad220, A220_0, c220_0, e220, hx220_0, hl220_0, hi220_0⟩ := at_L1 HR2_0.out x14_4 p220 q220
                                  have hw220_0 := hx220_0
                                  cases e220
                                  replace hx220_0 := (HB.out.cell (World.block_lt_of_cell? w _ hx220_0)).trans hx220_0
                                  have HR220_0 := Aside0.mk hi220_0
                                  have HC220_0 := Aside0.mk hl220_0
                                  clear hi220_0 hl220_0
                                  replace p220 := eq_true p220
                                  replace q220 := eq_true q220
                                  refine start_ (n := 14) (S := fun w' => w'.cell? ⟨gb209, 0, none⟩ = some (.slice (some ad220) l2_0.length c2_0) ∧ w'.cell? ⟨gb209, 1, none⟩ = some (.slice A2_1 l2_1.length c2_1) ∧ w'.cell? (ad219.add (x12_3).toNat) = some (.slice A219_0 (rd_L1 l1 x12_3).length c219_0) ∧ w'.cell? (ad220.add (x14_4).toNat) = some (.slice A220_0 (rd_L1 l2_0 x14_4).length c220_0)) (ds := []) (bs 14 0) (by kernel_rfl) rfl rfl ⟨(blk_cell BK209.out 0).trans rfl, (blk_cell BK209.out 1).trans rfl, ((HB.out.cell (World.block_lt_of_cell? w _ hw219_0)).trans hw219_0), ((HB.out.cell (World.block_lt_of_cell? w _ hw220_0)).trans hw220_0)⟩ (fun hHeld => ?_); refine with_tabW arboristref12_Covers.tab24 arboristref12_Covers.bits24 (fun HT_ HW_ => ?_)
                                  generalize wr.drew = w47 at BK209 HB HR219_0 HR220_0 hx219_0 hx220_0 hHeld ⊢
                                  refine pure_ (i := 0) (N := some 89) (v := ?_) (a' := ?_) (bs 14 1) rfl rfl (any_of HT_.out (by kernel_rfl)) (fun _ _ _ h => h) (Or.inl ⟨by rfl, ?_⟩) ?_ ?_
                                  rotate_left; (intro w'; go_simp; with_reducible rfl); rotate_left; (simp only [Act.put, List.setIfInBounds_toArray, List.set_cons_zero, List.set_cons_succ, i64_w, i32_w]; rfl)
                                  refine pure_ (i := 1) (N := some 90) (v := ?_) (a' := ?_) (bs 14 3) rfl rfl (any_of HT_.out (by kernel_rfl)) (fun _ _ _ h => h) (Or.inl ⟨by rfl, ?_⟩) ?_ ?_
                                  rotate_left; (intro w'; go_simp; with_reducible rfl); rotate_left; (simp only [Act.put, List.setIfInBounds_toArray, List.set_cons_zero, List.set_cons_succ, i64_w, i32_w]; rfl)
                                  refine pure_ (i := 2) (N := some 91) (v := ?_) (a' := ?_) (bs 14 7) rfl rfl (any_of HT_.out (by kernel_rfl)) (fun _ _ _ h => h) (Or.inl ⟨by rfl, ?_⟩) ?_ ?_
                                  rotate_left; (intro w'; go_simp; with_reducible rfl); rotate_left; (simp only [Act.put, List.setIfInBounds_toArray, List.set_cons_zero, List.set_cons_succ, i64_w, i32_w]; rfl)
                                  refine pure_ (i := 3) (N := some 92) (v := ?_) (a' := ?_) (bs 14 15) rfl rfl (any_of HT_.out (by kernel_rfl)) (fun _ _ _ h => h) (Or.inl ⟨by rfl, ?_⟩) ?_ ?_
                                  rotate_left; (intro w'; go_simp; with_reducible rfl); rotate_left; (simp only [Act.put, List.setIfInBounds_toArray, List.set_cons_zero, List.set_cons_succ, i64_w, i32_w]; rfl)
                                  refine pure_ (i := 4) (N := some 93) (v := ?_) (a' := ?_) (bs 14 31) rfl rfl (any_of HT_.out (by kernel_rfl)) (fun _ _ _ h => h) (Or.inl ⟨by rfl, ?_⟩) ?_ ?_
                                  rotate_left; (intro w'; go_simp; with_reducible rfl); rotate_left; (simp only [Act.put, List.setIfInBounds_toArray, List.set_cons_zero, List.set_cons_succ, i64_w, i32_w]; rfl)
                                  refine pure_ (i := 6) (N := some 95) (v := ?_) (a' := ?_) (bs 14 95) rfl rfl (any_of HT_.out (by kernel_rfl)) (fun _ _ _ h => h) (Or.inl ⟨by rfl, ?_⟩) ?_ ?_
                                  rotate_left; (intro w'; go_simp; with_reducible rfl); rotate_left; (simp only [Act.put, List.setIfInBounds_toArray, List.set_cons_zero, List.set_cons_succ, i64_w, i32_w]; rfl)
                                  refine pure_ (i := 8) (N := some 97) (v := ?_) (a' := ?_) (bs 14 351) rfl rfl (any_of HT_.out (by kernel_rfl)) (fun _ _ _ h => h) (Or.inl ⟨by rfl, ?_⟩) ?_ ?_
                                  rotate_left; (intro w'; go_simp; with_reducible rfl); rotate_left; (simp only [Act.put, List.setIfInBounds_toArray, List.set_cons_zero, List.set_cons_succ, i64_w, i32_w]; rfl)
                                  refine take_ (i := 5) (N := some 94) (v := ?_) (a' := ?_) (bs 14 383) rfl rfl (take_ofW HT_.out HW_.out (by kernel_rfl)) (fun _ _ _ h => h) (Or.inl ⟨by rfl, ?_⟩) hHeld ?_ ?_
                                  rotate_left
                                  · rintro w' ⟨s0, s1, s2, s3⟩
                                    go_simp
                                    with_reducible rfl
                                  rotate_left; (simp only [Act.put, List.setIfInBounds_toArray, List.set_cons_zero, List.set_cons_succ, i64_w, i32_w]; rfl)
                                  refine take_ (i := 7) (N := some 96) (v := ?_) (a' := ?_) (bs 14 511) rfl rfl (take_ofW HT_.out HW_.out (by kernel_rfl)) (fun _ _ _ h => h) (Or.inl ⟨by rfl, ?_⟩) hHeld ?_ ?_
                                  rotate_left
                                  · rintro w' ⟨s0, s1, s2, s3⟩
                                    go_simp
                                    with_reducible rfl
                                  rotate_left; (simp only [Act.put, List.setIfInBounds_toArray, List.set_cons_zero, List.set_cons_succ, i64_w, i32_w]; rfl)
                                  refine pure_ (i := 9) (N := some 98) (v := ?_) (a' := ?_) (bs 14 1023) rfl rfl (any_of HT_.out (by kernel_rfl)) (fun _ _ _ h => h) (Or.inl ⟨by rfl, ?_⟩) ?_ ?_
                                  rotate_left; (intro w'; go_simp; with_reducible rfl); rotate_left; (simp only [Act.put, List.setIfInBounds_toArray, List.set_cons_zero, List.set_cons_succ, i64_w, i32_w]; rfl)
                                  refine take_ (i := 10) (N := some 99) (v := ?_) (a' := ?_) (bs 14 2047) rfl rfl (take_ofW HT_.out HW_.out (by kernel_rfl)) (fun _ _ _ h => h) (Or.inl ⟨by rfl, ?_⟩) hHeld ?_ ?_
                                  rotate_left
                                  · rintro w' ⟨s0, s1, s2, s3⟩
                                    go_simp
                                    with_reducible rfl
                                  rotate_left; (simp only [Act.put, List.setIfInBounds_toArray, List.set_cons_zero, List.set_cons_succ, i64_w, i32_w]; rfl)
                                  refine one_ (i := 11) (N := some 100) (bs 14 4095) rfl rfl (one_of HT_.out (by kernel_rfl)) (by decide) (fun K hK => ?_)
                                  refine goes_ Try.func49 (by kernel_rfl) rfl #[.slice A219_0 (rd_L1 l1 x12_3).length c219_0, .slice A220_0 (rd_L1 l2_0 x14_4).length c220_0] (by rfl) rfl rfl (by (try simp only [List.map_toArray, List.map_cons, List.map_nil]); first | done | rfl | (simp only [List.length_drop, List.length_take]; rfl)) ?_
                                  with_reducible refine (arboristref12_all.calls k4 _ _ (rd_L1 l1 x12_3) _ _ (rd_L1 l2_0 x14_4) t221 _ ?side1 ?side2 ?side3 ?side4 A45.out).mono ?_
                                  (case side1 => repeat (first | exact (Kd.C_below HR219_0.out HB.out) | (with_reducible refine Kd.C_alloc ?_ _) | (with_reducible refine Kd.C_drewN ?_ _) | (with_reducible refine Kd.C_drew ?_)))
                                  (case side2 => exact HC219_0.out)
                                  (case side3 => repeat (first | exact (Kd.C_below HR220_0.out HB.out) | (with_reducible refine Kd.C_alloc ?_ _) | (with_reducible refine Kd.C_drewN ?_ _) | (with_reducible refine Kd.C_drew ?_)))
                                  (case side4 => exact HC220_0.out)
                                  rintro e w48 ⟨rfl, hb⟩
                                  refine ⟨_, rfl, ?_⟩
                                  have n0_ := Aside0.mk (blk_below (g := gb209) (o := .cells #[.slice (some ad220) l2_0.length c2_0, .slice A2_1 l2_1.length c2_1] 25 (0, 0)) (by (with_reducible repeat (first | refine blk_drewN ?_ _ | refine blk_drew ?_ | refine blk_alloc ?_ _)); exact BK209.out) hb)
                                  have n1_ := Aside0.mk (below_step (by repeat (first | (with_reducible first | exact HB.out | apply below_alloc | apply pw_below_drewN | apply below_drew1 | refine below_set ?_ GE209.out) | exact HB.out)) hb)
                                  clear BK209
                                  clear HB
                                  have BK209 := n0_
                                  have HB := n1_
                                  clear n0_ n1_
                                  (try clear hb)
                                  (try clear hb2)
                                  (try clear hk)
                                  (try clear hi)
                                  refine hK.out _ _ ⟨(blk_cell BK209.out 0).trans rfl, (blk_cell BK209.out 1).trans rfl, ((HB.out.cell (World.block_lt_of_cell? w _ hw219_0)).trans hw219_0), ((HB.out.cell (World.block_lt_of_cell? w _ hw220_0)).trans hw220_0)⟩ (fun hHeld => ?_)
                                  clear hK K
                                  refine norm_ (a' := ?_) ?_ ?_
                                  rotate_left
                                  · show Act.put _ (some 100) _ = _
                                    simp only [Act.put, List.setIfInBounds_toArray, List.set_cons_zero, List.set_cons_succ, i64_w, i32_w]
                                    rfl
                                  refine pure_ (i := 12) (N := some 101) (v := ?_) (a' := ?_) (bs 14 8191) rfl rfl (any_of HT_.out (by kernel_rfl)) (fun _ _ _ h => h) (Or.inl ⟨by rfl, ?_⟩) ?_ ?_
                                  rotate_left; (intro w'; go_simp; with_reducible rfl); rotate_left; (simp only [Act.put, List.setIfInBounds_toArray, List.set_cons_zero, List.set_cons_succ, i64_w, i32_w]; rfl)
                                  refine pure_ (i := 13) (N := some 13) (v := ?_) (a' := ?_) (bs 14 16383) rfl rfl (any_of HT_.out (by kernel_rfl)) (fun _ _ _ h => h) (Or.inl ⟨by rfl, ?_⟩) ?_ ?_
                                  rotate_left; (intro w'; go_simp; with_reducible rfl); rotate_left; (simp only [Act.put, List.setIfInBounds_toArray, List.set_cons_zero, List.set_cons_succ, i64_w, i32_w]; rfl)
                                  refine done_ (done_of HT_.out (by kernel_rfl)) ?_
                                  try go_wp2
                                  go_roundg k4
                                  case measure => have := HK1.out; have := HK2.out; have := HK3.out; have := HK4.out; omega
                                  case rel => exact ⟨(t221), (wrap64 (x14_4 + 1)), (by first | rfl | (simp; done) | (simp [*]; done)), (by first | rfl | (simp; done) | (simp [*]; done)), H', ⟨by have := HK1.out; have := HK2.out; have := HK3.out; have := HK4.out; omega⟩, ⟨by (with_reducible repeat (first | refine blk_drewN ?_ _ | refine blk_drew ?_ | refine blk_alloc ?_ _)); exact BK209.out⟩, ⟨by repeat (first | (with_reducible first | exact HB.out | apply below_alloc | apply pw_below_drewN | apply below_drew1 | refine below_set ?_ GE209.out) | exact HB.out)⟩⟩
                                · rw [if_neg c44] at H
                                  exact absurd H (by simp)
                              · rw [if_neg c43] at H
                                exact absurd H (by simp)
                            · rw [if_neg c42] at H
                              exact absurd H (by simp)
                        · rw [if_neg c38] at H
                          have c38b0 : decide (x14_4 < (l2_0.length : Int)) = false := decide_eq_false c38
                          clear c38
                          by_cases c49 : x13_4 = true
                          · subst c49
                            have H1 : (arboristref12_Covers.l3 k4 l1 (wrap64 (x12_3 + 1)) l2_0 l2_1) = some r := by rw [if_pos rfl] at H; exact H
                            clear H
                            have H := H1
                            clear H1
                            have H' := Aside0.mk H
                            clear H
                            have hcz50_0 : wr.cell? ⟨gb209, 0, none⟩ = some (.slice A2_0 l2_0.length c2_0) := (blk_cell BK209.out 0).trans rfl
                            have hcz50_1 : wr.cell? ⟨gb209, 1, none⟩ = some (.slice A2_1 l2_1.length c2_1) := (blk_cell BK209.out 1).trans rfl
                            have hfz50_0 := blk_frozen BK209.out 0
                            have hfz50_1 := blk_frozen BK209.out 1
                            go_wp2
                            go_roundg k4
                            case measure => have := HK1.out; have := HK2.out; have := HK3.out; have := HK4.out; omega
                            case rel => exact ⟨(wrap64 (x12_3 + 1)), (by first | rfl | (simp; done) | (simp [*]; done)), H', ⟨by have := HK1.out; have := HK2.out; have := HK3.out; have := HK4.out; omega⟩, ⟨by (with_reducible repeat (first | refine blk_drewN ?_ _ | refine blk_drew ?_ | refine blk_alloc ?_ _)); exact BK209.out⟩, ⟨by repeat (first | (with_reducible first | exact HB.out | apply below_alloc | apply pw_below_drewN | apply below_drew1 | refine below_set ?_ GE209.out) | exact HB.out)⟩⟩
                          · replace c49 := Bool.eq_false_iff.mpr c49
                            subst c49
                            have H1 : (some false) = some r := by rw [if_neg (show ¬ (false = true) by decide)] at H; exact H
                            clear H
                            have H := H1
                            clear H1
                            obtain rfl := Option.some.inj H
                            have hcz51_0 : wr.cell? ⟨gb209, 0, none⟩ = some (.slice A2_0 l2_0.length c2_0) := (blk_cell BK209.out 0).trans rfl
                            have hcz51_1 : wr.cell? ⟨gb209, 1, none⟩ = some (.slice A2_1 l2_1.length c2_1) := (blk_cell BK209.out 1).trans rfl
                            have hfz51_0 := blk_frozen BK209.out 0
                            have hfz51_1 := blk_frozen BK209.out 1
                            go_wp2
                            go_ret
                            exact ⟨by first | rfl | (simp [errW_none, errW_some] <;> rfl) | (simp [*, errW_none, errW_some] <;> rfl), by repeat (first | (with_reducible first | exact HB.out | apply below_alloc | apply pw_below_drewN | apply below_drew1 | refine below_set ?_ GE209.out) | exact HB.out)⟩
                  · rw [if_neg c37] at H
                    have c37b0 : decide (x12_3 < (l1.length : Int)) = false := decide_eq_false c37
                    clear c37
                    obtain rfl := Option.some.inj H
                    go_wp2
                    go_ret
                    exact ⟨by first | rfl | (simp [errW_none, errW_some] <;> rfl) | (simp [*, errW_none, errW_some] <;> rfl), by repeat (first | (with_reducible first | exact HB.out | apply below_alloc | apply pw_below_drewN | apply below_drew1 | refine below_set ?_ GE209.out) | exact HB.out)⟩

end Go.Proofs.Ytpmfdggbccbfaaa.Pr
