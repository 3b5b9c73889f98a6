-- Printed by a program of this session's own (wip/tools/pp.py) over the kit's print.py; Lean checks it.
import Derived.Test.YtaodbohfhelokaaDoorPr0
import Derived.Test.YtaodbohfhelokaaDoorPr7
namespace Go.Proofs.YtaodbohfhelokaaDoor.Pr
open Go.RowKit Go.Proofs.YtaodbohfhelokaaDoorW.PrintWords Go.Proofs.YtaodbohfhelokaaDoorW.PrintLast Go.Proofs.YtaodbohfhelokaaDoorW.PrintMore
attribute [local go_sem] max2_int min2_int max_two min_two max_three min_three max_four min_four   -- for this text's walks alone
set_option linter.unusedVariables false
set_option linter.unusedSimpArgs false

/-! ### graph_Clique: function 22 -/
mutual
def graph_Clique.l0 : Nat → List Int → Int → List Int → Int → Int → List Int → Option (Bool)
  | 0, _, _, _, _, _, _ => none
  | k + 1, x1, x5, x10, x11, x12, x135000 => if x12 < x11 then (if 0 ≤ x12 then (if x12 < (x10.length : Int) then ((graph_is.f x135000 (rd x10 x12)).bind fun t136 => (if t136 = true then (if 0 ≤ (rd x10 x12) then (graph_Clique.l0 k x1 (Go.bits .or .u64 x5 (shl .u64 1 (rd x10 x12))) x10 x11 (wrap64 (x12 + 1)) x135000) else (none)) else (some false))) else (none)) else (none)) else (graph_Clique.l1 k x5 x1 (x1.length : Int) 0 x135000)
def graph_Clique.l1 : Nat → Int → List Int → Int → Int → List Int → Option (Bool)
  | 0, _, _, _, _, _ => none
  | k + 1, x5, x25, x26, x27, x135000 => if x27 < x26 then (if 0 ≤ x27 then (if x27 < (x25.length : Int) then (if 0 ≤ (rd x25 x27) then (if (rd x25 x27) < (x135000.length : Int) then (if (Go.bits .andNot .u64 x5 (Go.bits .or .u64 (rd x135000 (rd x25 x27)) (shl .u64 1 (rd x25 x27)))) = 0 then (graph_Clique.l1 k x5 x25 x26 (wrap64 (x27 + 1)) x135000) else (some false)) else (none)) else (none)) else (none)) else (none)) else (some true)
end
def graph_Clique.f (k : Nat) (l0_0 : List Int) (l1 : List Int) : Option (Bool) := graph_Clique.l0 k l1 0 l1 (l1.length : Int) 0 l0_0
theorem graph_Clique.mono_l : ∀ k, (∀ y0 y1 y2 y3 y4 y5, LeO (graph_Clique.l0 k y0 y1 y2 y3 y4 y5) (graph_Clique.l0 (k + 1) y0 y1 y2 y3 y4 y5)) ∧ (∀ y0 y1 y2 y3 y4, LeO (graph_Clique.l1 k y0 y1 y2 y3 y4) (graph_Clique.l1 (k + 1) y0 y1 y2 y3 y4))
  | 0 => ⟨fun _ _ _ _ _ _ r h => by simp [graph_Clique.l0] at h, fun _ _ _ _ _ r h => by simp [graph_Clique.l1] at h⟩
  | k + 1 => by
    obtain ⟨ih0, ih1⟩ := graph_Clique.mono_l k
    refine ⟨?_, ?_⟩
    all_goals intros
    all_goals (first | unfold graph_Clique.l0 | unfold graph_Clique.l1)
    all_goals repeat' first
    | (with_reducible exact ih0 _ _ _ _ _ _)
    | (with_reducible exact ih1 _ _ _ _ _)
    | (with_reducible exact LeO.refl _)
    | (with_reducible exact LeO.none _)
    | (with_reducible refine LeO.ite ?_ ?_)
    | (with_reducible refine LeO.bind ?_ (fun _ => ?_))
    | exact ih0 _ _ _ _ _ _
    | exact ih1 _ _ _ _ _
    | exact LeO.none _
    | refine LeO.ite ?_ ?_
    | refine LeO.bind ?_ (fun _ => ?_)
theorem graph_Clique.mono : ∀ a0 a1 k, LeO (graph_Clique.f k a0 a1) (graph_Clique.f (k + 1) a0 a1) := by
  intro a0 a1 k
  obtain ⟨ih0, ih1⟩ := graph_Clique.mono_l k
  unfold graph_Clique.f
  repeat' first
      | (with_reducible exact ih0 _ _ _ _ _ _)
      | (with_reducible exact ih1 _ _ _ _ _)
      | (with_reducible exact LeO.refl _)
      | (with_reducible exact LeO.none _)
      | (with_reducible refine LeO.ite ?_ ?_)
      | (with_reducible refine LeO.bind ?_ (fun _ => ?_))
      | exact ih0 _ _ _ _ _ _
      | exact ih1 _ _ _ _ _
      | exact LeO.none _
      | refine LeO.ite ?_ ?_
      | refine LeO.bind ?_ (fun _ => ?_)
set_option maxHeartbeats 8000000 in
set_option maxRecDepth 100000 in
theorem graph_Clique.calls (k : Nat) (A0_0 : Option Addr) (c0_0 : Nat) (l0_0 : List Int) (A1 : Option Addr) (c1 : Nat) (l1 : List Int) (r : Bool) (w : World) (hr0_0 : Kd.C (Kd.int .u64) w A0_0 l0_0.length l0_0) (hc0_0 : l0_0.length ≤ c0_0) (hr1 : Kd.C (Kd.int .i64) w A1 l1.length l1) (hc1 : l1.length ≤ c1) (h : graph_Clique.f k l0_0 l1 = some r) :
    Calls Tryd.prog 22 #[.agg #[.slice A0_0 l0_0.length c0_0], .slice A1 l1.length c1] w fun e w' => e = .returned (.bool r) ∧ Below w.heap.size w w' := by
  have hu25 := Tryd.underlying25
  have HR0_0 := Aside0.mk hr0_0
  have HC0_0 := Aside0.mk hc0_0
  clear hr0_0 hc0_0
  have HR1 := Aside0.mk hr1
  have HC1 := Aside0.mk hc1
  clear hr1 hc1
  have HB := Aside0.mk (Below.refl w.heap.size w)
  have H : (graph_Clique.l0 k l1 0 l1 (l1.length : Int) 0 l0_0) = some r := h
  clear h
  have H' := Aside0.mk H
  clear H
  go_enter Tryd.func22, Tryd.ntmps22
  go_wp2_with (first | ((with_reducible refine gate_dst (N := 2) rfl ?_); refine box_event ?hg (N := 2) ?hd (cs := #[.slice A0_0 l0_0.length c0_0]) (t := 25) ?hr ?_; (case hd => rfl); (case hg => rfl); (case hr => first | (go_simp; done) | (go_simp; rfl)); intro gb134 hg w3 hbox hb; have n0_ := Aside0.mk (below_step (by repeat (first | (with_reducible first | exact HB.out | apply below_alloc | apply pw_below_drewN | apply below_drew1) | exact HB.out)) hb); have n1_ := Aside0.mk (hbox); have n2_ := Aside0.mk ((by rw [hg]; exact (below_size (by repeat (first | (with_reducible first | exact HB.out | apply below_alloc | apply pw_below_drewN | apply below_drew1) | exact HB.out))) : w.heap.size ≤ gb134)); have n3_ := Aside0.mk ((by rw [hg]; exact (below_size (by repeat (first | (with_reducible first | exact HB.out | apply below_alloc | apply pw_below_drewN | apply below_drew1) | exact HB.out))) : w.heap.size ≤ gb134)); clear HB; have HB := n0_; have BK134 := n1_; have GW134 := n2_; have GE134 := n3_; clear n0_ n1_ n2_ n3_; clear hb hbox hg))
  repeat (go_quiet (first | ((with_reducible refine gate_dst (N := 2) rfl ?_); refine box_event ?hg (N := 2) ?hd (cs := #[.slice A0_0 l0_0.length c0_0]) (t := 25) ?hr ?_; (case hd => rfl); (case hg => rfl); (case hr => first | (go_simp; done) | (go_simp; rfl)); intro gb134 hg w3 hbox hb; have n0_ := Aside0.mk (below_step (by repeat (first | (with_reducible first | exact HB.out | apply below_alloc | apply pw_below_drewN | apply below_drew1) | exact HB.out)) hb); have n1_ := Aside0.mk (hbox); have n2_ := Aside0.mk ((by rw [hg]; exact (below_size (by repeat (first | (with_reducible first | exact HB.out | apply below_alloc | apply pw_below_drewN | apply below_drew1) | exact HB.out))) : w.heap.size ≤ gb134)); have n3_ := Aside0.mk ((by rw [hg]; exact (below_size (by repeat (first | (with_reducible first | exact HB.out | apply below_alloc | apply pw_below_drewN | apply below_drew1) | exact HB.out))) : w.heap.size ≤ gb134)); clear HB; have HB := n0_; have BK134 := n1_; have GW134 := n2_; have GE134 := n3_; clear n0_ n1_ n2_ n3_; clear hb hbox hg)); try go_wp2_with (first | ((with_reducible refine gate_dst (N := 2) rfl ?_); refine box_event ?hg (N := 2) ?hd (cs := #[.slice A0_0 l0_0.length c0_0]) (t := 25) ?hr ?_; (case hd => rfl); (case hg => rfl); (case hr => first | (go_simp; done) | (go_simp; rfl)); intro gb134 hg w3 hbox hb; have n0_ := Aside0.mk (below_step (by repeat (first | (with_reducible first | exact HB.out | apply below_alloc | apply pw_below_drewN | apply below_drew1) | exact HB.out)) hb); have n1_ := Aside0.mk (hbox); have n2_ := Aside0.mk ((by rw [hg]; exact (below_size (by repeat (first | (with_reducible first | exact HB.out | apply below_alloc | apply pw_below_drewN | apply below_drew1) | exact HB.out))) : w.heap.size ≤ gb134)); have n3_ := Aside0.mk ((by rw [hg]; exact (below_size (by repeat (first | (with_reducible first | exact HB.out | apply below_alloc | apply pw_below_drewN | apply below_drew1) | exact HB.out))) : w.heap.size ≤ gb134)); clear HB; have HB := n0_; have BK134 := n1_; have GW134 := n2_; have GE134 := n3_; clear n0_ n1_ n2_ n3_; clear hb hbox hg)))
  go_loopg [5, 12] k (fun kq v5 v12 w' => ∃ (x5_1 : Int) (x12_1 : Int), v5 = .int .u64 x5_1 ∧ v12 = .int .i64 x12_1 ∧ Aside0 (graph_Clique.l0 kq l1 x5_1 l1 (l1.length : Int) x12_1 l0_0 = some r) ∧ Aside0 (kq ≤ k) ∧ Aside0 (w'.heap[gb134]? = some (.cells #[(.slice A0_0 l0_0.length c0_0)] 25 (0, 0))) ∧ Aside0 (Below w.heap.size w w'))
  case atStart => exact ⟨(0), (0), (by first | rfl | (simp; done) | (simp [*]; done)), (by first | rfl | (simp; done) | (simp [*]; done)), H', ⟨Nat.le_refl _⟩, ⟨by (with_reducible repeat (first | refine blk_drewN ?_ _ | refine blk_drew ?_ | refine blk_alloc ?_ _)); exact BK134.out⟩, ⟨by repeat (first | (with_reducible first | exact HB.out | apply below_alloc | apply pw_below_drewN | apply below_drew1 | refine below_set ?_ GE134.out) | exact HB.out)⟩⟩
  case round =>
    clear H'
    try clear c1
    try clear c2
    try clear p2
    obtain ⟨x5_1, x12_1, rfl, rfl, HA, HK1, BK134, HB⟩ := hrel
    cases gk with
    | zero => exact absurd HA.out (by simp [graph_Clique.l0])
    | succ k1 =>
      have H := HA.out
      clear HA
      simp only [graph_Clique.l0] at H
      by_cases c4 : x12_1 < (l1.length : Int)
      · rw [if_pos c4] at H
        have c4b0 : decide (x12_1 < (l1.length : Int)) = true := decide_eq_true c4
        clear c4
        by_cases c5 : 0 ≤ x12_1
        · rw [if_pos c5] at H
          have c5b0 : decide (0 ≤ x12_1) = true := decide_eq_true c5
          clear c5
          by_cases c6 : x12_1 < (l1.length : Int)
          · rw [if_pos c6] at H
            have c6b0 : decide (x12_1 < (l1.length : Int)) = true := decide_eq_true c6
            clear c6
            replace H := Option.bind_eq_some_iff.mp H
            obtain ⟨t136, A70, H⟩ := H
            replace H : (if t136 = true then (if 0 ≤ (rd l1 x12_1) then (graph_Clique.l0 k1 l1 (Go.bits .or .u64 x5_1 (shl .u64 1 (rd l1 x12_1))) l1 (l1.length : Int) (wrap64 (x12_1 + 1)) l0_0) else (none)) else (some false)) = some r := H
            have A7 := Aside0.mk A70
            clear A70
            by_cases c8 : t136 = true
            · subst c8
              have H1 : (if 0 ≤ (rd l1 x12_1) then (graph_Clique.l0 k1 l1 (Go.bits .or .u64 x5_1 (shl .u64 1 (rd l1 x12_1))) l1 (l1.length : Int) (wrap64 (x12_1 + 1)) l0_0) else (none)) = some r := by rw [if_pos rfl] at H; exact H
              clear H
              have H := H1
              clear H1
              by_cases c9 : 0 ≤ (rd l1 x12_1)
              · rw [if_pos c9] at H
                have c9b0 := eq_true c9
                have c9b1 : decide (0 ≤ (rd l1 x12_1)) = true := decide_eq_true c9
                clear c9
                obtain ⟨ji10, hji10⟩ : ∃ j_ : Int, (shl .u64 1 (rd l1 x12_1)) = j_ := ⟨_, rfl⟩
                replace H : (graph_Clique.l0 k1 l1 (Go.bits .or .u64 x5_1 (ji10)) l1 (l1.length : Int) (wrap64 (x12_1 + 1)) l0_0) = some r := by first | (rw [hji10] at H; exact H) | (simp only [hji10] at H ⊢; exact H)
                (try rw [hji10] at A7)
                have hji10_ : (IntKind.u64.wrap (1 * 2 ^ min (rd l1 x12_1).toNat 64)) = ji10 := hji10
                have hji10z : (rd l1 x12_1) ≤ 64 → (IntKind.u64.wrap (1 * 2 ^ (rd l1 x12_1).toNat)) = ji10 := shl_small hji10
                have hji10u : (IntKind.u64.wrap (2 ^ min (rd l1 x12_1).toNat 64)) = ji10 := by have h_ := hji10_; rw [Int.one_mul] at h_; exact h_
                have hji10v : (rd l1 x12_1) ≤ 64 → (IntKind.u64.wrap (2 ^ (rd l1 x12_1).toNat)) = ji10 := fun hle_ => by have h_ := hji10z hle_; rw [Int.one_mul] at h_; exact h_
                have H' := Aside0.mk H
                clear H
                have p135 : 0 ≤ (x12_1 : Int) := of_decide_eq_true (by first | (with_reducible assumption) | assumption)
                have q135 : x12_1 < (l1.length : Int) := of_decide_eq_true (by first | (with_reducible assumption) | assumption)
                obtain ⟨ad135, e135, hx135_0⟩ := Kd.at_int HR1.out x12_1 p135 q135
                cases e135
                replace hx135_0 := (HB.out.cell (World.block_lt_of_cell? w _ hx135_0)).trans hx135_0
                replace p135 := eq_true p135
                replace q135 := eq_true q135
                have hcz11_0 : wr.cell? ⟨gb134, 0, none⟩ = some (.slice A0_0 l0_0.length c0_0) := (blk_cell BK134.out 0).trans rfl
                have hfz11_0 := blk_frozen BK134.out 0
                go_wp2_with (first | (go_at_call 35; (with_reducible refine (graph_is.calls _ _ l0_0 (rd l1 x12_1) true _ ?side1 ?side2 A7.out).mono ?_); (case side1 => repeat (first | exact (Kd.C_below HR0_0.out HB.out) | (with_reducible refine Kd.C_alloc ?_ _) | (with_reducible refine Kd.C_drewN ?_ _) | (with_reducible refine Kd.C_drew ?_))); (case side2 => exact HC0_0.out); rintro e w12 ⟨rfl, hb⟩; have n0_ := Aside0.mk (blk_below (g := gb134) (o := .cells #[.slice A0_0 l0_0.length c0_0] 25 (0, 0)) (by (with_reducible repeat (first | refine blk_drewN ?_ _ | refine blk_drew ?_ | refine blk_alloc ?_ _)); exact BK134.out) hb); have n1_ := Aside0.mk (below_step (by repeat (first | (with_reducible first | exact HB.out | apply below_alloc | apply pw_below_drewN | apply below_drew1 | refine below_set ?_ GE134.out) | exact HB.out)) hb); clear BK134; clear HB; have BK134 := n0_; have HB := n1_; clear n0_ n1_; (try clear hb); (try clear hb2); (try clear hk); (try clear hi)))
                repeat (go_quiet (first | (go_at_call 35; (with_reducible refine (graph_is.calls _ _ l0_0 (rd l1 x12_1) true _ ?side1 ?side2 A7.out).mono ?_); (case side1 => repeat (first | exact (Kd.C_below HR0_0.out HB.out) | (with_reducible refine Kd.C_alloc ?_ _) | (with_reducible refine Kd.C_drewN ?_ _) | (with_reducible refine Kd.C_drew ?_))); (case side2 => exact HC0_0.out); rintro e w12 ⟨rfl, hb⟩; have n0_ := Aside0.mk (blk_below (g := gb134) (o := .cells #[.slice A0_0 l0_0.length c0_0] 25 (0, 0)) (by (with_reducible repeat (first | refine blk_drewN ?_ _ | refine blk_drew ?_ | refine blk_alloc ?_ _)); exact BK134.out) hb); have n1_ := Aside0.mk (below_step (by repeat (first | (with_reducible first | exact HB.out | apply below_alloc | apply pw_below_drewN | apply below_drew1 | refine below_set ?_ GE134.out) | exact HB.out)) hb); clear BK134; clear HB; have BK134 := n0_; have HB := n1_; clear n0_ n1_; (try clear hb); (try clear hb2); (try clear hk); (try clear hi))); try go_wp2_with (first | (go_at_call 35; (with_reducible refine (graph_is.calls _ _ l0_0 (rd l1 x12_1) true _ ?side1 ?side2 A7.out).mono ?_); (case side1 => repeat (first | exact (Kd.C_below HR0_0.out HB.out) | (with_reducible refine Kd.C_alloc ?_ _) | (with_reducible refine Kd.C_drewN ?_ _) | (with_reducible refine Kd.C_drew ?_))); (case side2 => exact HC0_0.out); rintro e w12 ⟨rfl, hb⟩; have n0_ := Aside0.mk (blk_below (g := gb134) (o := .cells #[.slice A0_0 l0_0.length c0_0] 25 (0, 0)) (by (with_reducible repeat (first | refine blk_drewN ?_ _ | refine blk_drew ?_ | refine blk_alloc ?_ _)); exact BK134.out) hb); have n1_ := Aside0.mk (below_step (by repeat (first | (with_reducible first | exact HB.out | apply below_alloc | apply pw_below_drewN | apply below_drew1 | refine below_set ?_ GE134.out) | exact HB.out)) hb); clear BK134; clear HB; have BK134 := n0_; have HB := n1_; clear n0_ n1_; (try clear hb); (try clear hb2); (try clear hk); (try clear hi))))
                go_roundg k1
                case measure => have := HK1.out; omega
                case rel => exact ⟨(Go.bits .or .u64 x5_1 (ji10)), (wrap64 (x12_1 + 1)), (by first | rfl | (simp; done) | (simp only [← hji10] <;> (first | rfl | simp)) | (simp [*]; done)), (by first | rfl | (simp; done) | (simp [*]; done)), H', ⟨by have := HK1.out; omega⟩, ⟨by (with_reducible repeat (first | refine blk_drewN ?_ _ | refine blk_drew ?_ | refine blk_alloc ?_ _)); exact BK134.out⟩, ⟨by repeat (first | (with_reducible first | exact HB.out | apply below_alloc | apply pw_below_drewN | apply below_drew1 | refine below_set ?_ GE134.out) | exact HB.out)⟩⟩
              · rw [if_neg c9] at H
                exact absurd H (by simp)
            · replace c8 := Bool.eq_false_iff.mpr c8
              subst c8
              have H1 : (some false) = some r := by rw [if_neg (show ¬ (false = true) by decide)] at H; exact H
              clear H
              have H := H1
              clear H1
              obtain rfl := Option.some.inj H
              have p135 : 0 ≤ (x12_1 : Int) := of_decide_eq_true (by first | (with_reducible assumption) | assumption)
              have q135 : x12_1 < (l1.length : Int) := of_decide_eq_true (by first | (with_reducible assumption) | assumption)
              obtain ⟨ad135, e135, hx135_0⟩ := Kd.at_int HR1.out x12_1 p135 q135
              cases e135
              replace hx135_0 := (HB.out.cell (World.block_lt_of_cell? w _ hx135_0)).trans hx135_0
              replace p135 := eq_true p135
              replace q135 := eq_true q135
              have hcz13_0 : wr.cell? ⟨gb134, 0, none⟩ = some (.slice A0_0 l0_0.length c0_0) := (blk_cell BK134.out 0).trans rfl
              have hfz13_0 := blk_frozen BK134.out 0
              go_wp2_with (first | (go_at_call 35; (with_reducible refine (graph_is.calls _ _ l0_0 (rd l1 x12_1) false _ ?side1 ?side2 A7.out).mono ?_); (case side1 => repeat (first | exact (Kd.C_below HR0_0.out HB.out) | (with_reducible refine Kd.C_alloc ?_ _) | (with_reducible refine Kd.C_drewN ?_ _) | (with_reducible refine Kd.C_drew ?_))); (case side2 => exact HC0_0.out); rintro e w14 ⟨rfl, hb⟩; have n0_ := Aside0.mk (blk_below (g := gb134) (o := .cells #[.slice A0_0 l0_0.length c0_0] 25 (0, 0)) (by (with_reducible repeat (first | refine blk_drewN ?_ _ | refine blk_drew ?_ | refine blk_alloc ?_ _)); exact BK134.out) hb); have n1_ := Aside0.mk (below_step (by repeat (first | (with_reducible first | exact HB.out | apply below_alloc | apply pw_below_drewN | apply below_drew1 | refine below_set ?_ GE134.out) | exact HB.out)) hb); clear BK134; clear HB; have BK134 := n0_; have HB := n1_; clear n0_ n1_; (try clear hb); (try clear hb2); (try clear hk); (try clear hi)))
              repeat (go_quiet (first | (go_at_call 35; (with_reducible refine (graph_is.calls _ _ l0_0 (rd l1 x12_1) false _ ?side1 ?side2 A7.out).mono ?_); (case side1 => repeat (first | exact (Kd.C_below HR0_0.out HB.out) | (with_reducible refine Kd.C_alloc ?_ _) | (with_reducible refine Kd.C_drewN ?_ _) | (with_reducible refine Kd.C_drew ?_))); (case side2 => exact HC0_0.out); rintro e w14 ⟨rfl, hb⟩; have n0_ := Aside0.mk (blk_below (g := gb134) (o := .cells #[.slice A0_0 l0_0.length c0_0] 25 (0, 0)) (by (with_reducible repeat (first | refine blk_drewN ?_ _ | refine blk_drew ?_ | refine blk_alloc ?_ _)); exact BK134.out) hb); have n1_ := Aside0.mk (below_step (by repeat (first | (with_reducible first | exact HB.out | apply below_alloc | apply pw_below_drewN | apply below_drew1 | refine below_set ?_ GE134.out) | exact HB.out)) hb); clear BK134; clear HB; have BK134 := n0_; have HB := n1_; clear n0_ n1_; (try clear hb); (try clear hb2); (try clear hk); (try clear hi))); try go_wp2_with (first | (go_at_call 35; (with_reducible refine (graph_is.calls _ _ l0_0 (rd l1 x12_1) false _ ?side1 ?side2 A7.out).mono ?_); (case side1 => repeat (first | exact (Kd.C_below HR0_0.out HB.out) | (with_reducible refine Kd.C_alloc ?_ _) | (with_reducible refine Kd.C_drewN ?_ _) | (with_reducible refine Kd.C_drew ?_))); (case side2 => exact HC0_0.out); rintro e w14 ⟨rfl, hb⟩; have n0_ := Aside0.mk (blk_below (g := gb134) (o := .cells #[.slice A0_0 l0_0.length c0_0] 25 (0, 0)) (by (with_reducible repeat (first | refine blk_drewN ?_ _ | refine blk_drew ?_ | refine blk_alloc ?_ _)); exact BK134.out) hb); have n1_ := Aside0.mk (below_step (by repeat (first | (with_reducible first | exact HB.out | apply below_alloc | apply pw_below_drewN | apply below_drew1 | refine below_set ?_ GE134.out) | exact HB.out)) hb); clear BK134; clear HB; have BK134 := n0_; have HB := n1_; clear n0_ n1_; (try clear hb); (try clear hb2); (try clear hk); (try clear hi))))
              go_ret
              exact ⟨by first | rfl | (simp [errW_none, errW_some] <;> rfl) | (simp [*, errW_none, errW_some] <;> rfl), by repeat (first | (with_reducible first | exact HB.out | apply below_alloc | apply pw_below_drewN | apply below_drew1 | refine below_set ?_ GE134.out) | exact HB.out)⟩
          · rw [if_neg c6] at H
            exact absurd H (by simp)
        · rw [if_neg c5] at H
          exact absurd H (by simp)
      · rw [if_neg c4] at H
        have c4b0 : decide (x12_1 < (l1.length : Int)) = false := decide_eq_false c4
        clear c4
        have H' := Aside0.mk H
        clear H
        go_wp2
        repeat (go_quiet (fail); try go_wp2)
        go_loopg [27] k1 (fun kq v27 w' => ∃ (x27_2 : Int), v27 = .int .i64 x27_2 ∧ Aside0 (graph_Clique.l1 kq x5_1 l1 (l1.length : Int) x27_2 l0_0 = some r) ∧ Aside0 (kq ≤ k1) ∧ Aside0 (w'.heap[gb134]? = some (.cells #[(.slice A0_0 l0_0.length c0_0)] 25 (0, 0))) ∧ Aside0 (Below w.heap.size w w'))
        case atStart => exact ⟨(0), (by first | rfl | (simp; done) | (simp [*]; done)), H', ⟨Nat.le_refl _⟩, ⟨by (with_reducible repeat (first | refine blk_drewN ?_ _ | refine blk_drew ?_ | refine blk_alloc ?_ _)); exact BK134.out⟩, ⟨by repeat (first | (with_reducible first | exact HB.out | apply below_alloc | apply pw_below_drewN | apply below_drew1 | refine below_set ?_ GE134.out) | exact HB.out)⟩⟩
        case round =>
          clear H'
          try clear c1
          try clear p1
          try clear q1
          try clear hx1
          try clear c2
          try clear p2
          try clear c4
          try clear c4b0
          try clear c5
          try clear c5b0
          try clear c6
          try clear c6b0
          try clear p6
          try clear c8
          try clear c9
          try clear c9b0
          try clear c9b1
          try clear p13
          try clear q13
          try clear hx13
          try clear hcz11_0
          try clear hcz13_0
          try clear hfz11_0
          try clear hfz13_0
          try clear hx135_0
          try clear p135
          try clear p2
          try clear q135
          obtain ⟨x27_2, rfl, HA, HK2, BK134, HB⟩ := hrel
          cases gk with
          | zero => exact absurd HA.out (by simp [graph_Clique.l1])
          | succ k2 =>
            have H := HA.out
            clear HA
            simp only [graph_Clique.l1] at H
            by_cases c15 : x27_2 < (l1.length : Int)
            · rw [if_pos c15] at H
              have c15b0 : decide (x27_2 < (l1.length : Int)) = true := decide_eq_true c15
              clear c15
              by_cases c16 : 0 ≤ x27_2
              · rw [if_pos c16] at H
                have c16b0 : decide (0 ≤ x27_2) = true := decide_eq_true c16
                clear c16
                by_cases c17 : x27_2 < (l1.length : Int)
                · rw [if_pos c17] at H
                  have c17b0 : decide (x27_2 < (l1.length : Int)) = true := decide_eq_true c17
                  clear c17
                  by_cases c18 : 0 ≤ (rd l1 x27_2)
                  · rw [if_pos c18] at H
                    have c18b0 : decide (0 ≤ (rd l1 x27_2)) = true := decide_eq_true c18
                    clear c18
                    by_cases c19 : (rd l1 x27_2) < (l0_0.length : Int)
                    · rw [if_pos c19] at H
                      have c19b0 : decide ((rd l1 x27_2) < (l0_0.length : Int)) = true := decide_eq_true c19
                      clear c19
                      have c20b0 := eq_true (of_decide_eq_true (by first | (with_reducible assumption) | assumption) : 0 ≤ (rd l1 x27_2))
                      obtain ⟨ji21, hji21⟩ : ∃ j_ : Int, (shl .u64 1 (rd l1 x27_2)) = j_ := ⟨_, rfl⟩
                      replace H : (if (Go.bits .andNot .u64 x5_1 (Go.bits .or .u64 (rd l0_0 (rd l1 x27_2)) (ji21))) = 0 then (graph_Clique.l1 k2 x5_1 l1 (l1.length : Int) (wrap64 (x27_2 + 1)) l0_0) else (some false)) = some r := by first | (rw [hji21] at H; exact H) | (simp only [hji21] at H ⊢; exact H)
                      have hji21_ : (IntKind.u64.wrap (1 * 2 ^ min (rd l1 x27_2).toNat 64)) = ji21 := hji21
                      have hji21z : (rd l1 x27_2) ≤ 64 → (IntKind.u64.wrap (1 * 2 ^ (rd l1 x27_2).toNat)) = ji21 := shl_small hji21
                      have hji21u : (IntKind.u64.wrap (2 ^ min (rd l1 x27_2).toNat 64)) = ji21 := by have h_ := hji21_; rw [Int.one_mul] at h_; exact h_
                      have hji21v : (rd l1 x27_2) ≤ 64 → (IntKind.u64.wrap (2 ^ (rd l1 x27_2).toNat)) = ji21 := fun hle_ => by have h_ := hji21z hle_; rw [Int.one_mul] at h_; exact h_
                      by_cases c22 : (Go.bits .andNot .u64 x5_1 (Go.bits .or .u64 (rd l0_0 (rd l1 x27_2)) (ji21))) = 0
                      · rw [if_pos c22] at H
                        have c22b0 : ((Go.bits .andNot .u64 x5_1 (Go.bits .or .u64 (rd l0_0 (rd l1 x27_2)) (ji21))) == 0) = true := beq_iff_eq.mpr c22
                        have c22b1 : ((Go.bits .andNot .u64 x5_1 (Go.bits .or .u64 (rd l0_0 (rd l1 x27_2)) (ji21))) != 0) = false := bne_eq_false_iff_eq.mpr c22
                        clear c22
                        have H' := Aside0.mk H
                        clear H
                        have p137 : 0 ≤ (x27_2 : Int) := of_decide_eq_true (by first | (with_reducible assumption) | assumption)
                        have q137 : x27_2 < (l1.length : Int) := of_decide_eq_true (by first | (with_reducible assumption) | assumption)
                        obtain ⟨ad137, e137, hx137_0⟩ := Kd.at_int HR1.out x27_2 p137 q137
                        cases e137
                        replace hx137_0 := (HB.out.cell (World.block_lt_of_cell? w _ hx137_0)).trans hx137_0
                        replace p137 := eq_true p137
                        replace q137 := eq_true q137
                        have hcz23_0 : wr.cell? ⟨gb134, 0, none⟩ = some (.slice A0_0 l0_0.length c0_0) := (blk_cell BK134.out 0).trans rfl
                        have hfz23_0 := blk_frozen BK134.out 0
                        have p138 : 0 ≤ ((rd l1 x27_2) : Int) := of_decide_eq_true (by first | (with_reducible assumption) | assumption)
                        have q138 : (rd l1 x27_2) < (l0_0.length : Int) := of_decide_eq_true (by first | (with_reducible assumption) | assumption)
                        obtain ⟨ad138, e138, hx138_0⟩ := Kd.at_int HR0_0.out (rd l1 x27_2) p138 q138
                        cases e138
                        replace hx138_0 := (HB.out.cell (World.block_lt_of_cell? w _ hx138_0)).trans hx138_0
                        replace p138 := eq_true p138
                        replace q138 := eq_true q138
                        go_wp2
                        repeat (go_quiet (fail); try go_wp2)
                        go_roundg k2
                        case measure => have := HK1.out; have := HK2.out; omega
                        case rel => exact ⟨(wrap64 (x27_2 + 1)), (by first | rfl | (simp; done) | (simp [*]; done)), H', ⟨by have := HK1.out; have := HK2.out; omega⟩, ⟨by (with_reducible repeat (first | refine blk_drewN ?_ _ | refine blk_drew ?_ | refine blk_alloc ?_ _)); exact BK134.out⟩, ⟨by repeat (first | (with_reducible first | exact HB.out | apply below_alloc | apply pw_below_drewN | apply below_drew1 | refine below_set ?_ GE134.out) | exact HB.out)⟩⟩
                      · rw [if_neg c22] at H
                        have c22b0 : ((Go.bits .andNot .u64 x5_1 (Go.bits .or .u64 (rd l0_0 (rd l1 x27_2)) (ji21))) == 0) = false := beq_eq_false_iff_ne.mpr c22
                        have c22b1 : ((Go.bits .andNot .u64 x5_1 (Go.bits .or .u64 (rd l0_0 (rd l1 x27_2)) (ji21))) != 0) = true := bne_iff_ne.mpr c22
                        obtain rfl := Option.some.inj H
                        have p137 : 0 ≤ (x27_2 : Int) := of_decide_eq_true (by first | (with_reducible assumption) | assumption)
                        have q137 : x27_2 < (l1.length : Int) := of_decide_eq_true (by first | (with_reducible assumption) | assumption)
                        obtain ⟨ad137, e137, hx137_0⟩ := Kd.at_int HR1.out x27_2 p137 q137
                        cases e137
                        replace hx137_0 := (HB.out.cell (World.block_lt_of_cell? w _ hx137_0)).trans hx137_0
                        replace p137 := eq_true p137
                        replace q137 := eq_true q137
                        have hcz24_0 : wr.cell? ⟨gb134, 0, none⟩ = some (.slice A0_0 l0_0.length c0_0) := (blk_cell BK134.out 0).trans rfl
                        have hfz24_0 := blk_frozen BK134.out 0
                        have p138 : 0 ≤ ((rd l1 x27_2) : Int) := of_decide_eq_true (by first | (with_reducible assumption) | assumption)
                        have q138 : (rd l1 x27_2) < (l0_0.length : Int) := of_decide_eq_true (by first | (with_reducible assumption) | assumption)
                        obtain ⟨ad138, e138, hx138_0⟩ := Kd.at_int HR0_0.out (rd l1 x27_2) p138 q138
                        cases e138
                        replace hx138_0 := (HB.out.cell (World.block_lt_of_cell? w _ hx138_0)).trans hx138_0
                        replace p138 := eq_true p138
                        replace q138 := eq_true q138
                        go_wp2
                        repeat (go_quiet (fail); try go_wp2)
                        go_ret
                        exact ⟨by first | rfl | (simp [errW_none, errW_some] <;> rfl) | (simp only [← hji21]; first | rfl | (simp [errW_none, errW_some] <;> rfl)) | (simp [*, errW_none, errW_some] <;> rfl), by repeat (first | (with_reducible first | exact HB.out | apply below_alloc | apply pw_below_drewN | apply below_drew1 | refine below_set ?_ GE134.out) | exact HB.out)⟩
                    · rw [if_neg c19] at H
                      exact absurd H (by simp)
                  · rw [if_neg c18] at H
                    exact absurd H (by simp)
                · rw [if_neg c17] at H
                  exact absurd H (by simp)
              · rw [if_neg c16] at H
                exact absurd H (by simp)
            · rw [if_neg c15] at H
              have c15b0 : decide (x27_2 < (l1.length : Int)) = false := decide_eq_false c15
              clear c15
              obtain rfl := Option.some.inj H
              go_wp2
              repeat (go_quiet (fail); try go_wp2)
              go_ret
              exact ⟨by first | rfl | (simp [errW_none, errW_some] <;> rfl) | (simp [*, errW_none, errW_some] <;> rfl), by repeat (first | (with_reducible first | exact HB.out | apply below_alloc | apply pw_below_drewN | apply below_drew1 | refine below_set ?_ GE134.out) | exact HB.out)⟩

end Go.Proofs.YtaodbohfhelokaaDoor.Pr
