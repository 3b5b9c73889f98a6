-- Printed by a program of this session's own (wip/tools/pp.py) over the kit's print.py; Lean checks it.
import Derived.Test.YtopjffgmpphdbaaDoorPr0
namespace Go.Proofs.YtopjffgmpphdbaaDoor.Pr
open Go.RowKit Go.Proofs.YtopjffgmpphdbaaDoorW.PrintWords Go.Proofs.YtopjffgmpphdbaaDoorW.PrintLast Go.Proofs.YtopjffgmpphdbaaDoorW.PrintMore
attribute [local go_sem] max2_int min2_int max_two min_two max_three min_three max_four min_four   -- for this text's walks alone
set_option linter.unusedVariables false
set_option linter.unusedSimpArgs false

/-! ### arboristref08_Truths: function 25 -/
mutual
def arboristref08_Truths.l0 : Nat → Int → List (List Bool) → Bool → Int → List Int → Option ((List (List Bool)) × Bool)
  | 0, _, _, _, _, _ => none
  | k + 1, x4, x5, x6, x7, x544000 => if x7 < x4 then (if 0 ≤ x4 then (if (x4 : Int).toNat ≤ 281474976710656 then (arboristref08_Truths.l1 k x4 x5 x6 x7 (List.replicate (x4 : Int).toNat false) 0 x544000) else (none)) else (none)) else (arboristref08_Truths.l2 k x4 x5 x6 0)
def arboristref08_Truths.l1 : Nat → Int → List (List Bool) → Bool → Int → List Bool → Int → List Int → Option ((List (List Bool)) × Bool)
  | 0, _, _, _, _, _, _, _ => none
  | k + 1, x4, x5, x6, x7, x8, x9, x544000 => if x9 < 64 then (if 0 ≤ x7 then (if x7 < (x544000.length : Int) then (if 0 ≤ (IntKind.u64.wrap (x9)) then (if x9 < x4 then (if 0 ≤ x9 then (if x9 < (x8.length : Int) then (arboristref08_Truths.l1 k x4 x5 x6 x7 (x8.set (x9 : Int).toNat ((Go.bits .and .u64 (shr .u64 (rd x544000 x7) (IntKind.u64.wrap (x9))) 1) == 1)) (wrap64 (x9 + 1)) x544000) else (none)) else (none)) else (if (Go.bits .and .u64 (shr .u64 (rd x544000 x7) (IntKind.u64.wrap (x9))) 1) = 1 then (arboristref08_Truths.l1 k x4 x5 false x7 x8 (wrap64 (x9 + 1)) x544000) else (arboristref08_Truths.l1 k x4 x5 x6 x7 x8 (wrap64 (x9 + 1)) x544000))) else (none)) else (none)) else (none)) else (if x5.length < 5864062014805 then (arboristref08_Truths.l0 k x4 (x5 ++ [x8]) x6 (wrap64 (x7 + 1)) x544000) else (none))
def arboristref08_Truths.l2 : Nat → Int → List (List Bool) → Bool → Int → Option ((List (List Bool)) × Bool)
  | 0, _, _, _, _ => none
  | k + 1, x4, x5, x6, x11 => if x11 < x4 then (arboristref08_Truths.l3 k x4 x5 x6 x11 0) else (some (x5, x6))
def arboristref08_Truths.l3 : Nat → Int → List (List Bool) → Bool → Int → Int → Option ((List (List Bool)) × Bool)
  | 0, _, _, _, _, _ => none
  | k + 1, x4, x5, x6, x11, x12 => if x12 < x4 then (if 0 ≤ x11 then (if x11 < (x5.length : Int) then (if 0 ≤ x12 then (if x12 < ((rd_L7 x5 x11).length : Int) then (if x12 < (x5.length : Int) then (if x11 < ((rd_L7 x5 x12).length : Int) then (if ((rdOf false (rd_L7 x5 x11) x12) != (rdOf false (rd_L7 x5 x12) x11)) = true then (arboristref08_Truths.l3 k x4 x5 false x11 (wrap64 (x12 + 1))) else (if x11 = x12 then (if rdOf false (rd_L7 x5 x11) x12 = true then (arboristref08_Truths.l3 k x4 x5 false x11 (wrap64 (x12 + 1))) else (arboristref08_Truths.l3 k x4 x5 x6 x11 (wrap64 (x12 + 1)))) else (arboristref08_Truths.l3 k x4 x5 x6 x11 (wrap64 (x12 + 1))))) else (none)) else (none)) else (none)) else (none)) else (none)) else (none)) else (arboristref08_Truths.l2 k x4 x5 x6 (wrap64 (x11 + 1)))
end
def arboristref08_Truths.f (k : Nat) (l0_0 : List Int) : Option ((List (List Bool)) × Bool) := if (l0_0.length : Int) > 40 then (some (([] : List (List Bool)), false)) else (arboristref08_Truths.l0 k (l0_0.length : Int) (([] : List (List Bool))) true 0 l0_0)
theorem arboristref08_Truths.mono_l : ∀ k, (∀ y0 y1 y2 y3 y4, LeO (arboristref08_Truths.l0 k y0 y1 y2 y3 y4) (arboristref08_Truths.l0 (k + 1) y0 y1 y2 y3 y4)) ∧ (∀ y0 y1 y2 y3 y4 y5 y6, LeO (arboristref08_Truths.l1 k y0 y1 y2 y3 y4 y5 y6) (arboristref08_Truths.l1 (k + 1) y0 y1 y2 y3 y4 y5 y6)) ∧ (∀ y0 y1 y2 y3, LeO (arboristref08_Truths.l2 k y0 y1 y2 y3) (arboristref08_Truths.l2 (k + 1) y0 y1 y2 y3)) ∧ (∀ y0 y1 y2 y3 y4, LeO (arboristref08_Truths.l3 k y0 y1 y2 y3 y4) (arboristref08_Truths.l3 (k + 1) y0 y1 y2 y3 y4))
  | 0 => ⟨fun _ _ _ _ _ r h => by simp [arboristref08_Truths.l0] at h, fun _ _ _ _ _ _ _ r h => by simp [arboristref08_Truths.l1] at h, fun _ _ _ _ r h => by simp [arboristref08_Truths.l2] at h, fun _ _ _ _ _ r h => by simp [arboristref08_Truths.l3] at h⟩
  | k + 1 => by
    obtain ⟨ih0, ih1, ih2, ih3⟩ := arboristref08_Truths.mono_l k
    refine ⟨?_, ?_, ?_, ?_⟩
    all_goals intros
    all_goals (first | unfold arboristref08_Truths.l0 | unfold arboristref08_Truths.l1 | unfold arboristref08_Truths.l2 | unfold arboristref08_Truths.l3)
    all_goals repeat' first
    | (with_reducible exact ih0 _ _ _ _ _)
    | (with_reducible exact ih1 _ _ _ _ _ _ _)
    | (with_reducible exact ih2 _ _ _ _)
    | (with_reducible exact ih3 _ _ _ _ _)
    | (with_reducible exact LeO.refl _)
    | (with_reducible exact LeO.none _)
    | (with_reducible refine LeO.ite ?_ ?_)
    | (with_reducible refine LeO.bind ?_ (fun _ => ?_))
    | exact ih0 _ _ _ _ _
    | exact ih1 _ _ _ _ _ _ _
    | exact ih2 _ _ _ _
    | exact ih3 _ _ _ _ _
    | exact LeO.none _
    | refine LeO.ite ?_ ?_
    | refine LeO.bind ?_ (fun _ => ?_)
theorem arboristref08_Truths.mono : ∀ a0 k, LeO (arboristref08_Truths.f k a0) (arboristref08_Truths.f (k + 1) a0) := by
  intro a0 k
  obtain ⟨ih0, ih1, ih2, ih3⟩ := arboristref08_Truths.mono_l k
  unfold arboristref08_Truths.f
  repeat' first
      | (with_reducible exact ih0 _ _ _ _ _)
      | (with_reducible exact ih1 _ _ _ _ _ _ _)
      | (with_reducible exact ih2 _ _ _ _)
      | (with_reducible exact ih3 _ _ _ _ _)
      | (with_reducible exact LeO.refl _)
      | (with_reducible exact LeO.none _)
      | (with_reducible refine LeO.ite ?_ ?_)
      | (with_reducible refine LeO.bind ?_ (fun _ => ?_))
      | exact ih0 _ _ _ _ _
      | exact ih1 _ _ _ _ _ _ _
      | exact ih2 _ _ _ _
      | exact ih3 _ _ _ _ _
      | exact LeO.none _
      | refine LeO.ite ?_ ?_
      | refine LeO.bind ?_ (fun _ => ?_)
set_option maxHeartbeats 8000000 in
set_option maxRecDepth 100000 in
theorem arboristref08_Truths.calls (k : Nat) (A0_0 : Option Addr) (c0_0 : Nat) (l0_0 : List Int) (r1 : List (List Bool)) (r2 : Bool) (w : World) (hr0_0 : Kd.C (Kd.int .u64) w A0_0 l0_0.length l0_0) (hc0_0 : l0_0.length ≤ c0_0) (h : arboristref08_Truths.f k l0_0 = some (r1, r2)) :
    Calls Tryd.prog 25 #[.agg #[.slice A0_0 l0_0.length c0_0]] w fun e w' => ∃ v0_ : Value, e = .returned (.tuple #[v0_, .bool r2]) ∧ Kd.S (Kd.slice 4 Kd.bool) 55 w' w.heap.size (fun _ => True) v0_ r1 ∧ Below w.heap.size w w' := by
  have hu29 := Tryd.underlying29
  have HR0_0 := Aside0.mk hr0_0
  have HC0_0 := Aside0.mk hc0_0
  clear hr0_0 hc0_0
  have HB := Aside0.mk (Below.refl w.heap.size w)
  have H : (if (l0_0.length : Int) > 40 then (some (([] : List (List Bool)), false)) else (arboristref08_Truths.l0 k (l0_0.length : Int) (([] : List (List Bool))) true 0 l0_0)) = some (r1, r2) := h
  clear h
  by_cases c2 : (l0_0.length : Int) > 40
  · rw [if_pos c2] at H
    have c2b0 : decide (40 < (l0_0.length : Int)) = true := decide_eq_true c2
    have c2b1 : decide (40 < l0_0.length) = true := decide_eq_true (by omega)
    clear c2
    simp only [Option.some.injEq, Prod.mk.injEq] at H
    obtain ⟨rfl, rfl⟩ := H
    go_enter Tryd.func25, Tryd.ntmps25
    go_wp2_with (first | ((with_reducible refine gate_dst (N := 1) rfl ?_); refine box_event ?hg (N := 1) ?hd (cs := #[.slice A0_0 l0_0.length c0_0]) (t := 29) ?hr ?_; (case hd => rfl); (case hg => rfl); (case hr => first | (go_simp; done) | (go_simp; rfl)); intro gb543 hg w3 hbox hb; have n0_ := Aside0.mk (below_step (by repeat (first | (with_reducible first | exact HB.out | apply below_alloc | apply pw_below_drewN | apply below_drew1) | exact HB.out)) hb); have n1_ := Aside0.mk (hbox); have n2_ := Aside0.mk ((by rw [hg]; exact (below_size (by repeat (first | (with_reducible first | exact HB.out | apply below_alloc | apply pw_below_drewN | apply below_drew1) | exact HB.out))) : w.heap.size ≤ gb543)); have n3_ := Aside0.mk ((by rw [hg]; exact (below_size (by repeat (first | (with_reducible first | exact HB.out | apply below_alloc | apply pw_below_drewN | apply below_drew1) | exact HB.out))) : w.heap.size ≤ gb543)); clear HB; have HB := n0_; have BK543 := n1_; have GW543 := n2_; have GE543 := n3_; clear n0_ n1_ n2_ n3_; clear hb hbox hg; have hcz4_0 : w3.cell? ⟨gb543, 0, none⟩ = some (.slice A0_0 l0_0.length c0_0) := (blk_cell BK543.out 0).trans rfl; have hfz4_0 := blk_frozen BK543.out 0))
    repeat (go_quiet (first | ((with_reducible refine gate_dst (N := 1) rfl ?_); refine box_event ?hg (N := 1) ?hd (cs := #[.slice A0_0 l0_0.length c0_0]) (t := 29) ?hr ?_; (case hd => rfl); (case hg => rfl); (case hr => first | (go_simp; done) | (go_simp; rfl)); intro gb543 hg w3 hbox hb; have n0_ := Aside0.mk (below_step (by repeat (first | (with_reducible first | exact HB.out | apply below_alloc | apply pw_below_drewN | apply below_drew1) | exact HB.out)) hb); have n1_ := Aside0.mk (hbox); have n2_ := Aside0.mk ((by rw [hg]; exact (below_size (by repeat (first | (with_reducible first | exact HB.out | apply below_alloc | apply pw_below_drewN | apply below_drew1) | exact HB.out))) : w.heap.size ≤ gb543)); have n3_ := Aside0.mk ((by rw [hg]; exact (below_size (by repeat (first | (with_reducible first | exact HB.out | apply below_alloc | apply pw_below_drewN | apply below_drew1) | exact HB.out))) : w.heap.size ≤ gb543)); clear HB; have HB := n0_; have BK543 := n1_; have GW543 := n2_; have GE543 := n3_; clear n0_ n1_ n2_ n3_; clear hb hbox hg; have hcz4_0 : w3.cell? ⟨gb543, 0, none⟩ = some (.slice A0_0 l0_0.length c0_0) := (blk_cell BK543.out 0).trans rfl; have hfz4_0 := blk_frozen BK543.out 0)); try go_wp2_with (first | ((with_reducible refine gate_dst (N := 1) rfl ?_); refine box_event ?hg (N := 1) ?hd (cs := #[.slice A0_0 l0_0.length c0_0]) (t := 29) ?hr ?_; (case hd => rfl); (case hg => rfl); (case hr => first | (go_simp; done) | (go_simp; rfl)); intro gb543 hg w3 hbox hb; have n0_ := Aside0.mk (below_step (by repeat (first | (with_reducible first | exact HB.out | apply below_alloc | apply pw_below_drewN | apply below_drew1) | exact HB.out)) hb); have n1_ := Aside0.mk (hbox); have n2_ := Aside0.mk ((by rw [hg]; exact (below_size (by repeat (first | (with_reducible first | exact HB.out | apply below_alloc | apply pw_below_drewN | apply below_drew1) | exact HB.out))) : w.heap.size ≤ gb543)); have n3_ := Aside0.mk ((by rw [hg]; exact (below_size (by repeat (first | (with_reducible first | exact HB.out | apply below_alloc | apply pw_below_drewN | apply below_drew1) | exact HB.out))) : w.heap.size ≤ gb543)); clear HB; have HB := n0_; have BK543 := n1_; have GW543 := n2_; have GE543 := n3_; clear n0_ n1_ n2_ n3_; clear hb hbox hg; have hcz4_0 : w3.cell? ⟨gb543, 0, none⟩ = some (.slice A0_0 l0_0.length c0_0) := (blk_cell BK543.out 0).trans rfl; have hfz4_0 := blk_frozen BK543.out 0)))
    go_ret2
    exact ⟨_, by first | rfl | (simp [errW_none, errW_some] <;> rfl) | (simp [*, errW_none, errW_some] <;> rfl), by first | exact Kd.S_nil _ _ _ _ _ | exact Kd.N_nil _ _ _ _ _ | exact Kd.V_nil _ _ _ _ _ | exact Kd.Q_nil _ _ _ _ _ | exact Kd.R_nil _ _ _ _ _, by repeat (first | (with_reducible first | exact HB.out | apply below_alloc | apply pw_below_drewN | apply below_drew1 | refine below_set ?_ GE543.out) | exact HB.out)⟩
  · rw [if_neg c2] at H
    have c2b0 : decide (40 < (l0_0.length : Int)) = false := decide_eq_false c2
    have c2b1 : decide (40 < l0_0.length) = false := decide_eq_false (by omega)
    clear c2
    obtain ⟨y544, hy544⟩ : ∃ y_ : List (List Bool), y_ = (([] : List (List Bool))) := ⟨_, rfl⟩
    replace H : (arboristref08_Truths.l0 k (l0_0.length : Int) y544 true 0 l0_0) = some (r1, r2) := by first | (rw [hy544]; with_reducible exact H) | (have H2_ := (Option.bind_some _ _).symm.trans H; rw [hy544]; with_reducible exact H2_) | (have H2_ := (Option.bind_some _ _).symm.trans H; with_reducible exact H2_) | with_reducible exact H | (rw [hy544]; exact H) | exact H
    have Ny544 := Aside0.mk hy544
    clear hy544
    have H' := Aside0.mk H
    clear H
    go_enter Tryd.func25, Tryd.ntmps25
    go_wp2_with (first | ((with_reducible refine gate_dst (N := 1) rfl ?_); refine box_event ?hg (N := 1) ?hd (cs := #[.slice A0_0 l0_0.length c0_0]) (t := 29) ?hr ?_; (case hd => rfl); (case hg => rfl); (case hr => first | (go_simp; done) | (go_simp; rfl)); intro gb543 hg w5 hbox hb; have n0_ := Aside0.mk (below_step (by repeat (first | (with_reducible first | exact HB.out | apply below_alloc | apply pw_below_drewN | apply below_drew1) | exact HB.out)) hb); have n1_ := Aside0.mk (hbox); have n2_ := Aside0.mk ((by rw [hg]; exact (below_size (by repeat (first | (with_reducible first | exact HB.out | apply below_alloc | apply pw_below_drewN | apply below_drew1) | exact HB.out))) : w.heap.size ≤ gb543)); have n3_ := Aside0.mk ((by rw [hg]; exact (below_size (by repeat (first | (with_reducible first | exact HB.out | apply below_alloc | apply pw_below_drewN | apply below_drew1) | exact HB.out))) : w.heap.size ≤ gb543)); clear HB; have HB := n0_; have BK543 := n1_; have GW543 := n2_; have GE543 := n3_; clear n0_ n1_ n2_ n3_; clear hb hbox hg; have hcz6_0 : w5.cell? ⟨gb543, 0, none⟩ = some (.slice A0_0 l0_0.length c0_0) := (blk_cell BK543.out 0).trans rfl; have hfz6_0 := blk_frozen BK543.out 0) | ((with_reducible refine gate_dst (N := 18) rfl ?_); refine Kd.S_lit (Kd.slice 4 Kd.bool) _ 55 ?hg (N := 18) ?hd (xs := ([] : List (List Bool))) (inner := []) (ok := fun _ => True) (okp := fun _ => True) ?hr ?hp (fun _ hk => hk) trivial (Below.refl _ _) (Nat.le_refl _) (by simp) ?_; (case hd => rfl); (case hg => rfl); (case hr => first | (go_simp; done) | (go_simp; rfl)); (case hp => exact (Reps.none _ _)); intro v545 w7 ho8 hb hg_ hnew_; clear hg_ hnew_; (first | rw [← Ny544.out] at ho8 | (simp only [Int.reduceToNat] at ho8; rw [← Ny544.out] at ho8)); have n0_ := Aside0.mk (Kd.S_lower ho8 (below_size (by repeat (first | (with_reducible first | exact HB.out | apply below_alloc | apply pw_below_drewN | apply below_drew1 | refine below_set ?_ GE543.out) | exact HB.out)))); have n1_ := Aside0.mk (blk_below (g := gb543) (o := .cells #[.slice A0_0 l0_0.length c0_0] 29 (0, 0)) (by (with_reducible repeat (first | refine blk_drewN ?_ _ | refine blk_drew ?_ | refine blk_alloc ?_ _)); exact BK543.out) hb); have n2_ := Aside0.mk (below_step (by repeat (first | (with_reducible first | exact HB.out | apply below_alloc | apply pw_below_drewN | apply below_drew1 | refine below_set ?_ GE543.out) | exact HB.out)) hb); clear BK543; clear HB; have HO546 := n0_; have BK543 := n1_; have HB := n2_; clear n0_ n1_ n2_; clear hb ho8))
    repeat (go_quiet (first | ((with_reducible refine gate_dst (N := 1) rfl ?_); refine box_event ?hg (N := 1) ?hd (cs := #[.slice A0_0 l0_0.length c0_0]) (t := 29) ?hr ?_; (case hd => rfl); (case hg => rfl); (case hr => first | (go_simp; done) | (go_simp; rfl)); intro gb543 hg w5 hbox hb; have n0_ := Aside0.mk (below_step (by repeat (first | (with_reducible first | exact HB.out | apply below_alloc | apply pw_below_drewN | apply below_drew1) | exact HB.out)) hb); have n1_ := Aside0.mk (hbox); have n2_ := Aside0.mk ((by rw [hg]; exact (below_size (by repeat (first | (with_reducible first | exact HB.out | apply below_alloc | apply pw_below_drewN | apply below_drew1) | exact HB.out))) : w.heap.size ≤ gb543)); have n3_ := Aside0.mk ((by rw [hg]; exact (below_size (by repeat (first | (with_reducible first | exact HB.out | apply below_alloc | apply pw_below_drewN | apply below_drew1) | exact HB.out))) : w.heap.size ≤ gb543)); clear HB; have HB := n0_; have BK543 := n1_; have GW543 := n2_; have GE543 := n3_; clear n0_ n1_ n2_ n3_; clear hb hbox hg; have hcz6_0 : w5.cell? ⟨gb543, 0, none⟩ = some (.slice A0_0 l0_0.length c0_0) := (blk_cell BK543.out 0).trans rfl; have hfz6_0 := blk_frozen BK543.out 0) | ((with_reducible refine gate_dst (N := 18) rfl ?_); refine Kd.S_lit (Kd.slice 4 Kd.bool) _ 55 ?hg (N := 18) ?hd (xs := ([] : List (List Bool))) (inner := []) (ok := fun _ => True) (okp := fun _ => True) ?hr ?hp (fun _ hk => hk) trivial (Below.refl _ _) (Nat.le_refl _) (by simp) ?_; (case hd => rfl); (case hg => rfl); (case hr => first | (go_simp; done) | (go_simp; rfl)); (case hp => exact (Reps.none _ _)); intro v545 w7 ho8 hb hg_ hnew_; clear hg_ hnew_; (first | rw [← Ny544.out] at ho8 | (simp only [Int.reduceToNat] at ho8; rw [← Ny544.out] at ho8)); have n0_ := Aside0.mk (Kd.S_lower ho8 (below_size (by repeat (first | (with_reducible first | exact HB.out | apply below_alloc | apply pw_below_drewN | apply below_drew1 | refine below_set ?_ GE543.out) | exact HB.out)))); have n1_ := Aside0.mk (blk_below (g := gb543) (o := .cells #[.slice A0_0 l0_0.length c0_0] 29 (0, 0)) (by (with_reducible repeat (first | refine blk_drewN ?_ _ | refine blk_drew ?_ | refine blk_alloc ?_ _)); exact BK543.out) hb); have n2_ := Aside0.mk (below_step (by repeat (first | (with_reducible first | exact HB.out | apply below_alloc | apply pw_below_drewN | apply below_drew1 | refine below_set ?_ GE543.out) | exact HB.out)) hb); clear BK543; clear HB; have HO546 := n0_; have BK543 := n1_; have HB := n2_; clear n0_ n1_ n2_; clear hb ho8)); try go_wp2_with (first | ((with_reducible refine gate_dst (N := 1) rfl ?_); refine box_event ?hg (N := 1) ?hd (cs := #[.slice A0_0 l0_0.length c0_0]) (t := 29) ?hr ?_; (case hd => rfl); (case hg => rfl); (case hr => first | (go_simp; done) | (go_simp; rfl)); intro gb543 hg w5 hbox hb; have n0_ := Aside0.mk (below_step (by repeat (first | (with_reducible first | exact HB.out | apply below_alloc | apply pw_below_drewN | apply below_drew1) | exact HB.out)) hb); have n1_ := Aside0.mk (hbox); have n2_ := Aside0.mk ((by rw [hg]; exact (below_size (by repeat (first | (with_reducible first | exact HB.out | apply below_alloc | apply pw_below_drewN | apply below_drew1) | exact HB.out))) : w.heap.size ≤ gb543)); have n3_ := Aside0.mk ((by rw [hg]; exact (below_size (by repeat (first | (with_reducible first | exact HB.out | apply below_alloc | apply pw_below_drewN | apply below_drew1) | exact HB.out))) : w.heap.size ≤ gb543)); clear HB; have HB := n0_; have BK543 := n1_; have GW543 := n2_; have GE543 := n3_; clear n0_ n1_ n2_ n3_; clear hb hbox hg; have hcz6_0 : w5.cell? ⟨gb543, 0, none⟩ = some (.slice A0_0 l0_0.length c0_0) := (blk_cell BK543.out 0).trans rfl; have hfz6_0 := blk_frozen BK543.out 0) | ((with_reducible refine gate_dst (N := 18) rfl ?_); refine Kd.S_lit (Kd.slice 4 Kd.bool) _ 55 ?hg (N := 18) ?hd (xs := ([] : List (List Bool))) (inner := []) (ok := fun _ => True) (okp := fun _ => True) ?hr ?hp (fun _ hk => hk) trivial (Below.refl _ _) (Nat.le_refl _) (by simp) ?_; (case hd => rfl); (case hg => rfl); (case hr => first | (go_simp; done) | (go_simp; rfl)); (case hp => exact (Reps.none _ _)); intro v545 w7 ho8 hb hg_ hnew_; clear hg_ hnew_; (first | rw [← Ny544.out] at ho8 | (simp only [Int.reduceToNat] at ho8; rw [← Ny544.out] at ho8)); have n0_ := Aside0.mk (Kd.S_lower ho8 (below_size (by repeat (first | (with_reducible first | exact HB.out | apply below_alloc | apply pw_below_drewN | apply below_drew1 | refine below_set ?_ GE543.out) | exact HB.out)))); have n1_ := Aside0.mk (blk_below (g := gb543) (o := .cells #[.slice A0_0 l0_0.length c0_0] 29 (0, 0)) (by (with_reducible repeat (first | refine blk_drewN ?_ _ | refine blk_drew ?_ | refine blk_alloc ?_ _)); exact BK543.out) hb); have n2_ := Aside0.mk (below_step (by repeat (first | (with_reducible first | exact HB.out | apply below_alloc | apply pw_below_drewN | apply below_drew1 | refine below_set ?_ GE543.out) | exact HB.out)) hb); clear BK543; clear HB; have HO546 := n0_; have BK543 := n1_; have HB := n2_; clear n0_ n1_ n2_; clear hb ho8)))
    go_loopg [5, 6, 7] k (fun kq v5 v6 v7 w' => ∃ (x5_1 : List (List Bool)) (x6_1 : Bool) (x7_1 : Int), v6 = .bool x6_1 ∧ v7 = .int .i64 x7_1 ∧ Aside0 (arboristref08_Truths.l0 kq (l0_0.length : Int) x5_1 x6_1 x7_1 l0_0 = some (r1, r2)) ∧ Aside0 (kq ≤ k) ∧ Aside0 (Kd.S (Kd.slice 4 Kd.bool) 55 w' w.heap.size (fun _ => True) v5 x5_1) ∧ Aside0 (w'.heap[gb543]? = some (.cells #[(.slice A0_0 l0_0.length c0_0)] 29 (0, 0))) ∧ Aside0 (Below w.heap.size w w'))
    case atStart => exact ⟨(y544), (true), (0), (by first | rfl | (simp; done) | (simp [*]; done)), (by first | rfl | (simp; done) | (simp [*]; done)), H', ⟨Nat.le_refl _⟩, ⟨by (with_reducible repeat (first | apply Kd.S_alloc | apply Kd.S_drewN | apply Kd.S_drew)); exact HO546.out⟩, ⟨by (with_reducible repeat (first | refine blk_drewN ?_ _ | refine blk_drew ?_ | refine blk_alloc ?_ _)); exact BK543.out⟩, ⟨by repeat (first | (with_reducible first | exact HB.out | apply below_alloc | apply pw_below_drewN | apply below_drew1 | refine below_set ?_ GE543.out) | exact HB.out)⟩⟩
    case round =>
      clear H'
      try clear c2
      try clear c2b0
      try clear c2b1
      try clear p2
      try clear hcz4_0
      try clear hcz6_0
      try clear hfz4_0
      try clear hfz6_0
      obtain ⟨x5_1, x6_1, x7_1, rfl, rfl, HA, HK1, HO_5, BK543, HB⟩ := hrel
      cases gk with
      | zero => exact absurd HA.out (by simp [arboristref08_Truths.l0])
      | succ k1 =>
        have H := HA.out
        clear HA
        simp only [arboristref08_Truths.l0] at H
        by_cases c9 : x7_1 < (l0_0.length : Int)
        · rw [if_pos c9] at H
          have c9b0 : decide (x7_1 < (l0_0.length : Int)) = true := decide_eq_true c9
          clear c9
          by_cases c10 : 0 ≤ (l0_0.length : Int)
          · rw [if_pos c10] at H
            have c10b0 := eq_true c10
            have c10b1 : decide (0 ≤ (l0_0.length : Int)) = true := decide_eq_true c10
            clear c10
            by_cases c11 : ((l0_0.length : Int) : Int).toNat ≤ 281474976710656
            · rw [if_pos c11] at H
              have c11b0 := eq_true c11
              have c11b1 : decide (((l0_0.length : Int) : Int).toNat ≤ 281474976710656) = true := decide_eq_true c11
              clear c11
              obtain ⟨y547, hy547⟩ : ∃ y_ : List Bool, y_ = (List.replicate ((l0_0.length : Int) : Int).toNat false) := ⟨_, rfl⟩
              replace H : (arboristref08_Truths.l1 k1 (l0_0.length : Int) x5_1 x6_1 x7_1 y547 0 l0_0) = some (r1, r2) := by first | (rw [hy547]; with_reducible exact H) | (have H2_ := (Option.bind_some _ _).symm.trans H; rw [hy547]; with_reducible exact H2_) | (have H2_ := (Option.bind_some _ _).symm.trans H; with_reducible exact H2_) | with_reducible exact H | (rw [hy547]; exact H) | exact H
              have Ny547 := Aside0.mk hy547
              clear hy547
              have H' := Aside0.mk H
              clear H
              go_wp2_with (first | ((with_reducible refine gate_dst (N := 25) rfl ?_); refine Kd.R_make Kd.bool _ 4 rfl (N := 25) rfl 55 _ _ rfl (l0_0.length : Int) rfl rfl Tryd.underlying55 (.bool false) 1 info4 rfl (by decide) (by omega) false (ok := fun _ => True) (okp := fun _ => True) rfl (fun _ hk => hk) trivial (of_decide_eq_true (by first | (with_reducible assumption) | assumption)) (Nat.le_trans (Nat.mul_le_mul_right _ (of_decide_eq_true (by first | (with_reducible assumption) | assumption) : (l0_0.length : Int).toNat ≤ 281474976710656)) (by omega)) (Below.refl _ _) (Nat.le_refl _) ?_; intro v548 w12 ho13 hb hg_ hnew_; clear hg_ hnew_; (first | rw [← Ny547.out] at ho13 | (simp only [Int.reduceToNat] at ho13; rw [← Ny547.out] at ho13)); have n0_ := Aside0.mk (Kd.S_elder' (by (with_reducible repeat (first | apply Kd.S_alloc | apply Kd.S_drewN | apply Kd.S_drew)); exact HO_5.out) (Kd.R_base ho13) hb); have n1_ := Aside0.mk (Kd.R_lower ho13 (below_size (by repeat (first | (with_reducible first | exact HB.out | apply below_alloc | apply pw_below_drewN | apply below_drew1 | refine below_set ?_ GE543.out) | exact HB.out)))); have n2_ := Aside0.mk (blk_below (g := gb543) (o := .cells #[.slice A0_0 l0_0.length c0_0] 29 (0, 0)) (by (with_reducible repeat (first | refine blk_drewN ?_ _ | refine blk_drew ?_ | refine blk_alloc ?_ _)); exact BK543.out) hb); have n3_ := Aside0.mk (below_step (by repeat (first | (with_reducible first | exact HB.out | apply below_alloc | apply pw_below_drewN | apply below_drew1 | refine below_set ?_ GE543.out) | exact HB.out)) hb); clear HO_5; clear BK543; clear HB; have HO_5 := n0_; have HO549 := n1_; have BK543 := n2_; have HB := n3_; clear n0_ n1_ n2_ n3_; clear hb ho13))
              repeat (go_quiet (first | ((with_reducible refine gate_dst (N := 25) rfl ?_); refine Kd.R_make Kd.bool _ 4 rfl (N := 25) rfl 55 _ _ rfl (l0_0.length : Int) rfl rfl Tryd.underlying55 (.bool false) 1 info4 rfl (by decide) (by omega) false (ok := fun _ => True) (okp := fun _ => True) rfl (fun _ hk => hk) trivial (of_decide_eq_true (by first | (with_reducible assumption) | assumption)) (Nat.le_trans (Nat.mul_le_mul_right _ (of_decide_eq_true (by first | (with_reducible assumption) | assumption) : (l0_0.length : Int).toNat ≤ 281474976710656)) (by omega)) (Below.refl _ _) (Nat.le_refl _) ?_; intro v548 w12 ho13 hb hg_ hnew_; clear hg_ hnew_; (first | rw [← Ny547.out] at ho13 | (simp only [Int.reduceToNat] at ho13; rw [← Ny547.out] at ho13)); have n0_ := Aside0.mk (Kd.S_elder' (by (with_reducible repeat (first | apply Kd.S_alloc | apply Kd.S_drewN | apply Kd.S_drew)); exact HO_5.out) (Kd.R_base ho13) hb); have n1_ := Aside0.mk (Kd.R_lower ho13 (below_size (by repeat (first | (with_reducible first | exact HB.out | apply below_alloc | apply pw_below_drewN | apply below_drew1 | refine below_set ?_ GE543.out) | exact HB.out)))); have n2_ := Aside0.mk (blk_below (g := gb543) (o := .cells #[.slice A0_0 l0_0.length c0_0] 29 (0, 0)) (by (with_reducible repeat (first | refine blk_drewN ?_ _ | refine blk_drew ?_ | refine blk_alloc ?_ _)); exact BK543.out) hb); have n3_ := Aside0.mk (below_step (by repeat (first | (with_reducible first | exact HB.out | apply below_alloc | apply pw_below_drewN | apply below_drew1 | refine below_set ?_ GE543.out) | exact HB.out)) hb); clear HO_5; clear BK543; clear HB; have HO_5 := n0_; have HO549 := n1_; have BK543 := n2_; have HB := n3_; clear n0_ n1_ n2_ n3_; clear hb ho13)); try go_wp2_with (first | ((with_reducible refine gate_dst (N := 25) rfl ?_); refine Kd.R_make Kd.bool _ 4 rfl (N := 25) rfl 55 _ _ rfl (l0_0.length : Int) rfl rfl Tryd.underlying55 (.bool false) 1 info4 rfl (by decide) (by omega) false (ok := fun _ => True) (okp := fun _ => True) rfl (fun _ hk => hk) trivial (of_decide_eq_true (by first | (with_reducible assumption) | assumption)) (Nat.le_trans (Nat.mul_le_mul_right _ (of_decide_eq_true (by first | (with_reducible assumption) | assumption) : (l0_0.length : Int).toNat ≤ 281474976710656)) (by omega)) (Below.refl _ _) (Nat.le_refl _) ?_; intro v548 w12 ho13 hb hg_ hnew_; clear hg_ hnew_; (first | rw [← Ny547.out] at ho13 | (simp only [Int.reduceToNat] at ho13; rw [← Ny547.out] at ho13)); have n0_ := Aside0.mk (Kd.S_elder' (by (with_reducible repeat (first | apply Kd.S_alloc | apply Kd.S_drewN | apply Kd.S_drew)); exact HO_5.out) (Kd.R_base ho13) hb); have n1_ := Aside0.mk (Kd.R_lower ho13 (below_size (by repeat (first | (with_reducible first | exact HB.out | apply below_alloc | apply pw_below_drewN | apply below_drew1 | refine below_set ?_ GE543.out) | exact HB.out)))); have n2_ := Aside0.mk (blk_below (g := gb543) (o := .cells #[.slice A0_0 l0_0.length c0_0] 29 (0, 0)) (by (with_reducible repeat (first | refine blk_drewN ?_ _ | refine blk_drew ?_ | refine blk_alloc ?_ _)); exact BK543.out) hb); have n3_ := Aside0.mk (below_step (by repeat (first | (with_reducible first | exact HB.out | apply below_alloc | apply pw_below_drewN | apply below_drew1 | refine below_set ?_ GE543.out) | exact HB.out)) hb); clear HO_5; clear BK543; clear HB; have HO_5 := n0_; have HO549 := n1_; have BK543 := n2_; have HB := n3_; clear n0_ n1_ n2_ n3_; clear hb ho13)))
              go_loopg [6, 9] k1 (fun kq v6 v9 w' => ∃ (x6_2 : Bool) (x8_2 : List Bool) (x9_2 : Int), v6 = .bool x6_2 ∧ v9 = .int .i64 x9_2 ∧ Aside0 (arboristref08_Truths.l1 kq (l0_0.length : Int) x5_1 x6_2 x7_1 x8_2 x9_2 l0_0 = some (r1, r2)) ∧ Aside0 (kq ≤ k1) ∧ Aside0 (Kd.S (Kd.slice 4 Kd.bool) 55 w' w.heap.size (fun k_ => some k_ ≠ (v548 : Value).ownBlock) u5 x5_1) ∧ Aside0 (Kd.R Kd.bool 4 w' w.heap.size (fun _ => True) v548 x8_2) ∧ Aside0 (w'.heap[gb543]? = some (.cells #[(.slice A0_0 l0_0.length c0_0)] 29 (0, 0))) ∧ Aside0 (Below w.heap.size w w'))
              case atStart => exact ⟨(x6_1), (y547), (0), (by first | rfl | (simp; done) | (simp [*]; done)), (by first | rfl | (simp; done) | (simp [*]; done)), H', ⟨Nat.le_refl _⟩, ⟨by (with_reducible repeat (first | apply Kd.S_alloc | apply Kd.S_drewN | apply Kd.S_drew)); exact Kd.S_mono HO_5.out (fun _ hk => hk.2)⟩, ⟨by (with_reducible repeat (first | apply Kd.R_alloc | apply Kd.R_drewN | apply Kd.R_drew)); exact HO549.out⟩, ⟨by (with_reducible repeat (first | refine blk_drewN ?_ _ | refine blk_drew ?_ | refine blk_alloc ?_ _)); exact BK543.out⟩, ⟨by repeat (first | (with_reducible first | exact HB.out | apply below_alloc | apply pw_below_drewN | apply below_drew1 | refine below_set ?_ GE543.out) | exact HB.out)⟩⟩
              case round =>
                clear H'
                try clear c1
                try clear c2
                try clear c2b0
                try clear c2b1
                try clear p2
                try clear c9
                try clear c9b0
                try clear c10
                try clear c10b0
                try clear c10b1
                try clear c11
                try clear c11b0
                try clear c11b1
                try clear hcz4_0
                try clear hcz6_0
                try clear hfz4_0
                try clear hfz6_0
                try clear p2
                obtain ⟨x6_2, x8_2, x9_2, rfl, rfl, HA, HK2, HO_5, HO_8, BK543, HB⟩ := hrel
                cases gk with
                | zero => exact absurd HA.out (by simp [arboristref08_Truths.l1])
                | succ k2 =>
                  have H := HA.out
                  clear HA
                  simp only [arboristref08_Truths.l1] at H
                  by_cases c14 : x9_2 < 64
                  · rw [if_pos c14] at H
                    have c14b0 : decide (x9_2 < 64) = true := decide_eq_true c14
                    clear c14
                    by_cases c15 : 0 ≤ x7_1
                    · rw [if_pos c15] at H
                      have c15b0 : decide (0 ≤ x7_1) = true := decide_eq_true c15
                      clear c15
                      by_cases c16 : x7_1 < (l0_0.length : Int)
                      · rw [if_pos c16] at H
                        have c16b0 : decide (x7_1 < (l0_0.length : Int)) = true := decide_eq_true c16
                        clear c16
                        obtain ⟨ji17, hji17⟩ : ∃ j_ : Int, (IntKind.u64.wrap (x9_2)) = j_ := ⟨_, rfl⟩
                        replace H : (if 0 ≤ (ji17) then (if x9_2 < (l0_0.length : Int) then (if 0 ≤ x9_2 then (if x9_2 < (x8_2.length : Int) then (arboristref08_Truths.l1 k2 (l0_0.length : Int) x5_1 x6_2 x7_1 (x8_2.set (x9_2 : Int).toNat ((Go.bits .and .u64 (shr .u64 (rd l0_0 x7_1) (ji17)) 1) == 1)) (wrap64 (x9_2 + 1)) l0_0) else (none)) else (none)) else (if (Go.bits .and .u64 (shr .u64 (rd l0_0 x7_1) (ji17)) 1) = 1 then (arboristref08_Truths.l1 k2 (l0_0.length : Int) x5_1 false x7_1 x8_2 (wrap64 (x9_2 + 1)) l0_0) else (arboristref08_Truths.l1 k2 (l0_0.length : Int) x5_1 x6_2 x7_1 x8_2 (wrap64 (x9_2 + 1)) l0_0))) else (none)) = some (r1, r2) := by first | (rw [hji17] at H; exact H) | (simp only [hji17] at H ⊢; exact H)
                        by_cases c18 : 0 ≤ (ji17)
                        · rw [if_pos c18] at H
                          have c18b0 := eq_true c18
                          have c18b1 : decide (0 ≤ (ji17)) = true := decide_eq_true c18
                          clear c18
                          obtain ⟨ji19, hji19⟩ : ∃ j_ : Int, (shr .u64 (rd l0_0 x7_1) (ji17)) = j_ := ⟨_, rfl⟩
                          replace H : (if x9_2 < (l0_0.length : Int) then (if 0 ≤ x9_2 then (if x9_2 < (x8_2.length : Int) then (arboristref08_Truths.l1 k2 (l0_0.length : Int) x5_1 x6_2 x7_1 (x8_2.set (x9_2 : Int).toNat ((Go.bits .and .u64 (ji19) 1) == 1)) (wrap64 (x9_2 + 1)) l0_0) else (none)) else (none)) else (if (Go.bits .and .u64 (ji19) 1) = 1 then (arboristref08_Truths.l1 k2 (l0_0.length : Int) x5_1 false x7_1 x8_2 (wrap64 (x9_2 + 1)) l0_0) else (arboristref08_Truths.l1 k2 (l0_0.length : Int) x5_1 x6_2 x7_1 x8_2 (wrap64 (x9_2 + 1)) l0_0))) = some (r1, r2) := by first | (rw [hji19] at H; exact H) | (simp only [hji19] at H ⊢; exact H)
                          have hji19_ : ((rd l0_0 x7_1) / 2 ^ min (ji17).toNat 64) = ji19 := hji19
                          have hji19z : (ji17) ≤ 64 → ((rd l0_0 x7_1) / 2 ^ (ji17).toNat) = ji19 := shr_small hji19
                          by_cases c20 : x9_2 < (l0_0.length : Int)
                          · rw [if_pos c20] at H
                            have c20b0 : decide (x9_2 < (l0_0.length : Int)) = true := decide_eq_true c20
                            clear c20
                            by_cases c21 : 0 ≤ x9_2
                            · rw [if_pos c21] at H
                              have c21b0 : decide (0 ≤ x9_2) = true := decide_eq_true c21
                              clear c21
                              by_cases c22 : x9_2 < (x8_2.length : Int)
                              · rw [if_pos c22] at H
                                have c22b0 : decide (x9_2 < (x8_2.length : Int)) = true := decide_eq_true c22
                                clear c22
                                obtain ⟨y554, hy554⟩ : ∃ y_ : List Bool, y_ = (x8_2.set (x9_2 : Int).toNat ((Go.bits .and .u64 (ji19) 1) == 1)) := ⟨_, rfl⟩
                                replace H : (arboristref08_Truths.l1 k2 (l0_0.length : Int) x5_1 x6_2 x7_1 y554 (wrap64 (x9_2 + 1)) l0_0) = some (r1, r2) := by first | (rw [hy554]; with_reducible exact H) | (have H2_ := (Option.bind_some _ _).symm.trans H; rw [hy554]; with_reducible exact H2_) | (have H2_ := (Option.bind_some _ _).symm.trans H; with_reducible exact H2_) | with_reducible exact H | (rw [hy554]; exact H) | exact H
                                have Ny554 := Aside0.mk hy554
                                clear hy554
                                have H' := Aside0.mk H
                                clear H
                                have hcz24_0 : wr.cell? ⟨gb543, 0, none⟩ = some (.slice A0_0 l0_0.length c0_0) := (blk_cell BK543.out 0).trans rfl
                                have hfz24_0 := blk_frozen BK543.out 0
                                have p553 : 0 ≤ (x7_1 : Int) := of_decide_eq_true (by first | (with_reducible assumption) | assumption)
                                have q553 : x7_1 < (l0_0.length : Int) := of_decide_eq_true (by first | (with_reducible assumption) | assumption)
                                obtain ⟨ad553, e553, hx553_0⟩ := Kd.at_int HR0_0.out x7_1 p553 q553
                                cases e553
                                replace hx553_0 := (HB.out.cell (World.block_lt_of_cell? w _ hx553_0)).trans hx553_0
                                replace p553 := eq_true p553
                                replace q553 := eq_true q553
                                have p23 : 0 ≤ (x9_2 : Int) := of_decide_eq_true (by first | (with_reducible assumption) | assumption)
                                have q23 : (x9_2 : Int) < ((x8_2.length : Int) : Int) := of_decide_eq_true (by first | (with_reducible assumption) | assumption)
                                obtain ⟨go23, co23, eo23, gb23, gl23, cl23, HG23⟩ := Kd.R_form HO_8.out (by omega)
                                (first | cases eo23 | (injection eo23 with ea_ en_ ec_; (first | subst ea_ | (injection ea_ with ea_; subst ea_)); subst ec_; clear en_))
                                have GB23 := Aside0.mk gb23
                                have GG23 := Aside0.mk HG23
                                clear gb23 gl23 HG23
                                obtain ⟨hx23_0, hf23_0⟩ := Kd.R_celln false HO_8.out (x9_2 : Int) p23 q23
                                replace p23 := eq_true p23
                                replace q23 := eq_true q23
                                have HP25 := Kd.R_putg HO_8.out (x9_2 : Int) ((Go.bits .and .u64 (ji19) 1) == 1)
                                go_wp2_with (first | ((with_reducible refine gate_store (t := 4) (p := 46) rfl ?_); (try (rw [drewN_self wr]; generalize hq_ : World.drewN wr _ = wr; have n0_ := Aside0.mk (Kd.S_at hq_ HO_5.out); have n1_ := Aside0.mk (Kd.R_at hq_ HO_8.out); have n2_ := Aside0.mk (blk_at hq_ BK543.out); have n3_ := Aside0.mk (below_at hq_ HB.out); clear hq_ HO_5 HO_8 BK543 HB; have HO_5 := n0_; have HO_8 := n1_; have BK543 := n2_; have HB := n3_; clear n0_ n1_ n2_ n3_; (try (have HP25 := Kd.R_putg HO_8.out (x9_2 : Int) ((Go.bits .and .u64 (ji19) 1) == 1))))); refine store_event (t := 4) (p := 46) (v := ?vo_w26) (w1 := (wr.setCell ⟨go23, (x9_2 : Int).toNat, none⟩ (.bool ((Go.bits .and .u64 (ji19) 1) == 1)))) ?hg ?ho ?hn ?hr ?_; (case ho => rfl); (case hg => rfl); (case hn => rfl); (case hr => first | (go_simp; done) | (go_simp; rfl)); intro w26 hw; have hg : wr.grownBy w26 (some go23) := (by rw [hw]; exact HP25.2); have hp_ : Kd.R Kd.bool 4 w26 w.heap.size (fun _ => True) (.slice (some ⟨go23, 0, none⟩) x8_2.length co23) y554 := (by rw [hw, Ny554.out]; exact HP25.1); clear HP25; have n0_ := Aside0.mk (Kd.S_after (v := (.slice (some ⟨go23, 0, none⟩) x8_2.length co23)) (v1 := (.slice (some ⟨go23, 0, none⟩) x8_2.length co23)) (ok := (fun _ => True)) (by (with_reducible repeat (first | apply Kd.S_alloc | apply Kd.S_drewN | apply Kd.S_drew)); exact Kd.S_mono HO_5.out (fun _ hk => ⟨trivial, hk⟩)) hg (.inl rfl)); have n1_ := Aside0.mk (hp_); have n2_ := Aside0.mk (blk_grown (g := gb543) (o := .cells #[.slice (some ad553) l0_0.length c0_0] 29 (0, 0)) (by (with_reducible repeat (first | refine blk_drewN ?_ _ | refine blk_drew ?_ | refine blk_alloc ?_ _)); exact BK543.out) hg (Kd.R_ne HO_8.out BK543.out (by decide))); have n3_ := Aside0.mk ((by rw [hw]; exact below_set (HB.out) GB23.out : Below w.heap.size w w26)); clear HO_5; clear HO_8; clear BK543; clear HB; have HO_5 := n0_; have HO_8 := n1_; have BK543 := n2_; have HB := n3_; clear n0_ n1_ n2_ n3_; clear hg hw hp_))
                                repeat (go_quiet (first | ((with_reducible refine gate_store (t := 4) (p := 46) rfl ?_); (try (rw [drewN_self wr]; generalize hq_ : World.drewN wr _ = wr; have n0_ := Aside0.mk (Kd.S_at hq_ HO_5.out); have n1_ := Aside0.mk (Kd.R_at hq_ HO_8.out); have n2_ := Aside0.mk (blk_at hq_ BK543.out); have n3_ := Aside0.mk (below_at hq_ HB.out); clear hq_ HO_5 HO_8 BK543 HB; have HO_5 := n0_; have HO_8 := n1_; have BK543 := n2_; have HB := n3_; clear n0_ n1_ n2_ n3_; (try (have HP25 := Kd.R_putg HO_8.out (x9_2 : Int) ((Go.bits .and .u64 (ji19) 1) == 1))))); refine store_event (t := 4) (p := 46) (v := ?vo_w26) (w1 := (wr.setCell ⟨go23, (x9_2 : Int).toNat, none⟩ (.bool ((Go.bits .and .u64 (ji19) 1) == 1)))) ?hg ?ho ?hn ?hr ?_; (case ho => rfl); (case hg => rfl); (case hn => rfl); (case hr => first | (go_simp; done) | (go_simp; rfl)); intro w26 hw; have hg : wr.grownBy w26 (some go23) := (by rw [hw]; exact HP25.2); have hp_ : Kd.R Kd.bool 4 w26 w.heap.size (fun _ => True) (.slice (some ⟨go23, 0, none⟩) x8_2.length co23) y554 := (by rw [hw, Ny554.out]; exact HP25.1); clear HP25; have n0_ := Aside0.mk (Kd.S_after (v := (.slice (some ⟨go23, 0, none⟩) x8_2.length co23)) (v1 := (.slice (some ⟨go23, 0, none⟩) x8_2.length co23)) (ok := (fun _ => True)) (by (with_reducible repeat (first | apply Kd.S_alloc | apply Kd.S_drewN | apply Kd.S_drew)); exact Kd.S_mono HO_5.out (fun _ hk => ⟨trivial, hk⟩)) hg (.inl rfl)); have n1_ := Aside0.mk (hp_); have n2_ := Aside0.mk (blk_grown (g := gb543) (o := .cells #[.slice (some ad553) l0_0.length c0_0] 29 (0, 0)) (by (with_reducible repeat (first | refine blk_drewN ?_ _ | refine blk_drew ?_ | refine blk_alloc ?_ _)); exact BK543.out) hg (Kd.R_ne HO_8.out BK543.out (by decide))); have n3_ := Aside0.mk ((by rw [hw]; exact below_set (HB.out) GB23.out : Below w.heap.size w w26)); clear HO_5; clear HO_8; clear BK543; clear HB; have HO_5 := n0_; have HO_8 := n1_; have BK543 := n2_; have HB := n3_; clear n0_ n1_ n2_ n3_; clear hg hw hp_)); try go_wp2_with (first | ((with_reducible refine gate_store (t := 4) (p := 46) rfl ?_); (try (rw [drewN_self wr]; generalize hq_ : World.drewN wr _ = wr; have n0_ := Aside0.mk (Kd.S_at hq_ HO_5.out); have n1_ := Aside0.mk (Kd.R_at hq_ HO_8.out); have n2_ := Aside0.mk (blk_at hq_ BK543.out); have n3_ := Aside0.mk (below_at hq_ HB.out); clear hq_ HO_5 HO_8 BK543 HB; have HO_5 := n0_; have HO_8 := n1_; have BK543 := n2_; have HB := n3_; clear n0_ n1_ n2_ n3_; (try (have HP25 := Kd.R_putg HO_8.out (x9_2 : Int) ((Go.bits .and .u64 (ji19) 1) == 1))))); refine store_event (t := 4) (p := 46) (v := ?vo_w26) (w1 := (wr.setCell ⟨go23, (x9_2 : Int).toNat, none⟩ (.bool ((Go.bits .and .u64 (ji19) 1) == 1)))) ?hg ?ho ?hn ?hr ?_; (case ho => rfl); (case hg => rfl); (case hn => rfl); (case hr => first | (go_simp; done) | (go_simp; rfl)); intro w26 hw; have hg : wr.grownBy w26 (some go23) := (by rw [hw]; exact HP25.2); have hp_ : Kd.R Kd.bool 4 w26 w.heap.size (fun _ => True) (.slice (some ⟨go23, 0, none⟩) x8_2.length co23) y554 := (by rw [hw, Ny554.out]; exact HP25.1); clear HP25; have n0_ := Aside0.mk (Kd.S_after (v := (.slice (some ⟨go23, 0, none⟩) x8_2.length co23)) (v1 := (.slice (some ⟨go23, 0, none⟩) x8_2.length co23)) (ok := (fun _ => True)) (by (with_reducible repeat (first | apply Kd.S_alloc | apply Kd.S_drewN | apply Kd.S_drew)); exact Kd.S_mono HO_5.out (fun _ hk => ⟨trivial, hk⟩)) hg (.inl rfl)); have n1_ := Aside0.mk (hp_); have n2_ := Aside0.mk (blk_grown (g := gb543) (o := .cells #[.slice (some ad553) l0_0.length c0_0] 29 (0, 0)) (by (with_reducible repeat (first | refine blk_drewN ?_ _ | refine blk_drew ?_ | refine blk_alloc ?_ _)); exact BK543.out) hg (Kd.R_ne HO_8.out BK543.out (by decide))); have n3_ := Aside0.mk ((by rw [hw]; exact below_set (HB.out) GB23.out : Below w.heap.size w w26)); clear HO_5; clear HO_8; clear BK543; clear HB; have HO_5 := n0_; have HO_8 := n1_; have BK543 := n2_; have HB := n3_; clear n0_ n1_ n2_ n3_; clear hg hw hp_)))
                                first | go_roundg k2 | (simp only [← hji17, ← hji19]; (try simp only [← hji17, ← hji19] at H'); go_roundg k2)
                                case measure => have := HK1.out; have := HK2.out; omega
                                case rel => exact ⟨(x6_2), (y554), (wrap64 (x9_2 + 1)), (by first | rfl | (simp; done) | (simp [*]; done)), (by first | rfl | (simp; done) | (simp [*]; done)), H', ⟨by have := HK1.out; have := HK2.out; omega⟩, ⟨by (with_reducible repeat (first | apply Kd.S_alloc | apply Kd.S_drewN | apply Kd.S_drew)); exact Kd.S_mono HO_5.out (fun _ hk => hk.2)⟩, ⟨by (with_reducible repeat (first | apply Kd.R_alloc | apply Kd.R_drewN | apply Kd.R_drew)); exact HO_8.out⟩, ⟨by (with_reducible repeat (first | refine blk_drewN ?_ _ | refine blk_drew ?_ | refine blk_alloc ?_ _)); exact BK543.out⟩, ⟨by repeat (first | (with_reducible first | exact HB.out | apply below_alloc | apply pw_below_drewN | apply below_drew1 | refine below_set ?_ GE543.out) | exact HB.out)⟩⟩
                              · rw [if_neg c22] at H
                                exact absurd H (by simp)
                            · rw [if_neg c21] at H
                              exact absurd H (by simp)
                          · rw [if_neg c20] at H
                            have c20b0 : decide (x9_2 < (l0_0.length : Int)) = false := decide_eq_false c20
                            clear c20
                            by_cases c27 : (Go.bits .and .u64 (ji19) 1) = 1
                            · rw [if_pos c27] at H
                              have c27b0 : ((Go.bits .and .u64 (ji19) 1) == 1) = true := beq_iff_eq.mpr c27
                              have c27b1 : ((Go.bits .and .u64 (ji19) 1) != 1) = false := bne_eq_false_iff_eq.mpr c27
                              clear c27
                              have H' := Aside0.mk H
                              clear H
                              have hcz28_0 : wr.cell? ⟨gb543, 0, none⟩ = some (.slice A0_0 l0_0.length c0_0) := (blk_cell BK543.out 0).trans rfl
                              have hfz28_0 := blk_frozen BK543.out 0
                              have p553 : 0 ≤ (x7_1 : Int) := of_decide_eq_true (by first | (with_reducible assumption) | assumption)
                              have q553 : x7_1 < (l0_0.length : Int) := of_decide_eq_true (by first | (with_reducible assumption) | assumption)
                              obtain ⟨ad553, e553, hx553_0⟩ := Kd.at_int HR0_0.out x7_1 p553 q553
                              cases e553
                              replace hx553_0 := (HB.out.cell (World.block_lt_of_cell? w _ hx553_0)).trans hx553_0
                              replace p553 := eq_true p553
                              replace q553 := eq_true q553
                              go_wp2
                              repeat (go_quiet (fail); try go_wp2)
                              first | go_roundg k2 | (simp only [← hji17, ← hji19]; (try simp only [← hji17, ← hji19] at H'); go_roundg k2)
                              case measure => have := HK1.out; have := HK2.out; omega
                              case rel => exact ⟨(false), (x8_2), (wrap64 (x9_2 + 1)), (by first | rfl | (simp; done) | (simp [*]; done)), (by first | rfl | (simp; done) | (simp [*]; done)), H', ⟨by have := HK1.out; have := HK2.out; omega⟩, ⟨by (with_reducible repeat (first | apply Kd.S_alloc | apply Kd.S_drewN | apply Kd.S_drew)); exact HO_5.out⟩, ⟨by (with_reducible repeat (first | apply Kd.R_alloc | apply Kd.R_drewN | apply Kd.R_drew)); exact HO_8.out⟩, ⟨by (with_reducible repeat (first | refine blk_drewN ?_ _ | refine blk_drew ?_ | refine blk_alloc ?_ _)); exact BK543.out⟩, ⟨by repeat (first | (with_reducible first | exact HB.out | apply below_alloc | apply pw_below_drewN | apply below_drew1 | refine below_set ?_ GE543.out) | exact HB.out)⟩⟩
                            · rw [if_neg c27] at H
                              have c27b0 : ((Go.bits .and .u64 (ji19) 1) == 1) = false := beq_eq_false_iff_ne.mpr c27
                              have c27b1 : ((Go.bits .and .u64 (ji19) 1) != 1) = true := bne_iff_ne.mpr c27
                              have H' := Aside0.mk H
                              clear H
                              have hcz29_0 : wr.cell? ⟨gb543, 0, none⟩ = some (.slice A0_0 l0_0.length c0_0) := (blk_cell BK543.out 0).trans rfl
                              have hfz29_0 := blk_frozen BK543.out 0
                              have p553 : 0 ≤ (x7_1 : Int) := of_decide_eq_true (by first | (with_reducible assumption) | assumption)
                              have q553 : x7_1 < (l0_0.length : Int) := of_decide_eq_true (by first | (with_reducible assumption) | assumption)
                              obtain ⟨ad553, e553, hx553_0⟩ := Kd.at_int HR0_0.out x7_1 p553 q553
                              cases e553
                              replace hx553_0 := (HB.out.cell (World.block_lt_of_cell? w _ hx553_0)).trans hx553_0
                              replace p553 := eq_true p553
                              replace q553 := eq_true q553
                              go_wp2
                              repeat (go_quiet (fail); try go_wp2)
                              first | go_roundg k2 | (simp only [← hji17, ← hji19]; (try simp only [← hji17, ← hji19] at H'); go_roundg k2)
                              case measure => have := HK1.out; have := HK2.out; omega
                              case rel => exact ⟨(x6_2), (x8_2), (wrap64 (x9_2 + 1)), (by first | rfl | (simp; done) | (simp [*]; done)), (by first | rfl | (simp; done) | (simp [*]; done)), H', ⟨by have := HK1.out; have := HK2.out; omega⟩, ⟨by (with_reducible repeat (first | apply Kd.S_alloc | apply Kd.S_drewN | apply Kd.S_drew)); exact HO_5.out⟩, ⟨by (with_reducible repeat (first | apply Kd.R_alloc | apply Kd.R_drewN | apply Kd.R_drew)); exact HO_8.out⟩, ⟨by (with_reducible repeat (first | refine blk_drewN ?_ _ | refine blk_drew ?_ | refine blk_alloc ?_ _)); exact BK543.out⟩, ⟨by repeat (first | (with_reducible first | exact HB.out | apply below_alloc | apply pw_below_drewN | apply below_drew1 | refine below_set ?_ GE543.out) | exact HB.out)⟩⟩
                        · rw [if_neg c18] at H
                          exact absurd H (by simp)
                      · rw [if_neg c16] at H
                        exact absurd H (by simp)
                    · rw [if_neg c15] at H
                      exact absurd H (by simp)
                  · rw [if_neg c14] at H
                    have c14b0 : decide (x9_2 < 64) = false := decide_eq_false c14
                    clear c14
                    by_cases c30 : x5_1.length < 5864062014805
                    · rw [if_pos c30] at H
                      have LMc30 := Aside0.mk c30
                      clear c30
                      obtain ⟨y550, hy550⟩ : ∃ y_ : List (List Bool), y_ = (x5_1 ++ [x8_2]) := ⟨_, rfl⟩
                      replace H : (arboristref08_Truths.l0 k2 (l0_0.length : Int) y550 x6_2 (wrap64 (x7_1 + 1)) l0_0) = some (r1, r2) := by first | (rw [hy550]; with_reducible exact H) | (have H2_ := (Option.bind_some _ _).symm.trans H; rw [hy550]; with_reducible exact H2_) | (have H2_ := (Option.bind_some _ _).symm.trans H; with_reducible exact H2_) | with_reducible exact H | (rw [hy550]; exact H) | exact H
                      have Ny550 := Aside0.mk hy550
                      clear hy550
                      have H' := Aside0.mk H
                      clear H
                      obtain ⟨Ao32, co32, eo32⟩ := Kd.R_slice HO_8.out
                      subst eo32
                      go_wp2_with (first | ((with_reducible refine gate_builtin (b := .append) (xs := #[.tmp 48, .tmp 50]) rfl ?_); at_builtin; refine Kd.S_append (Kd.slice 4 Kd.bool) (w0 := w) w.heap.size rfl (.tmp 48) (.tmp 50) 25 55 (.slice none 0 0) 24 rfl Tryd.underlying25 info55 rfl (by decide) (by omega) u5 x5_1 x8_2 [.slice Ao32 x8_2.length co32] (fun _ => True) (fun k_ => some k_ = (.slice Ao32 x8_2.length co32 : Value).ownBlock) rfl rfl ?aP (fun k_ hk_ => ((Kd.R_mono (ok' := fun k_ => ((fun _ => True)) k_ ∧ some k_ ≠ (u5 : Value).ownBlock) (Kd.R_apart' (HO_8.out) (Kd.S_typed HO_5.out) (by decide)) (fun k_ hk => ⟨trivial, hk.2⟩))).1 k_ hk_.symm) ?aF ?aO ?aB ?aS ?aL ?_; (case aP => exact Kd.M_row (Kd.R_mono (Kd.R_tight rfl (Kd.R_mono (ok' := fun k_ => ((fun _ => True)) k_ ∧ some k_ ≠ (u5 : Value).ownBlock) (Kd.R_apart' (HO_8.out) (Kd.S_typed HO_5.out) (by decide)) (fun k_ hk => ⟨trivial, hk.2⟩))) (fun _ h_ => h_))); (case aB => exact (by repeat (first | (with_reducible first | exact HB.out | apply below_alloc | apply pw_below_drewN | apply below_drew1 | refine below_set ?_ GE543.out) | exact HB.out))); (case aF => exact (fun _ _ => trivial)); (case aO => exact (by (with_reducible repeat (first | apply Kd.S_alloc | apply Kd.S_drewN | apply Kd.S_drew)); exact Kd.S_mono HO_5.out (fun k_ hk => ⟨trivial, fun e_ => hk e_⟩))); (case aS => exact (below_size (by repeat (first | (with_reducible first | exact HB.out | apply below_alloc | apply pw_below_drewN | apply below_drew1 | refine below_set ?_ GE543.out) | exact HB.out)))); (case aL => have := LMc30.out; omega); intro v551 w31 ho hb hg hat; rw [← Ny550.out] at ho; have n0_ := Aside0.mk (blk_grown (g := gb543) (o := .cells #[.slice A0_0 l0_0.length c0_0] 29 (0, 0)) (by (with_reducible repeat (first | refine blk_drewN ?_ _ | refine blk_drew ?_ | refine blk_alloc ?_ _)); exact BK543.out) hg (Kd.S_ne HO_5.out BK543.out (by decide))); have n1_ := Aside0.mk (hb); have n2_ := Aside0.mk (ho); clear BK543; clear HB; clear HO_5; clear HO_8; have BK543 := n0_; have HB := n1_; have HO552 := n2_; clear n0_ n1_ n2_; clear ho hb hg hat))
                      repeat (go_quiet (first | ((with_reducible refine gate_builtin (b := .append) (xs := #[.tmp 48, .tmp 50]) rfl ?_); at_builtin; refine Kd.S_append (Kd.slice 4 Kd.bool) (w0 := w) w.heap.size rfl (.tmp 48) (.tmp 50) 25 55 (.slice none 0 0) 24 rfl Tryd.underlying25 info55 rfl (by decide) (by omega) u5 x5_1 x8_2 [.slice Ao32 x8_2.length co32] (fun _ => True) (fun k_ => some k_ = (.slice Ao32 x8_2.length co32 : Value).ownBlock) rfl rfl ?aP (fun k_ hk_ => ((Kd.R_mono (ok' := fun k_ => ((fun _ => True)) k_ ∧ some k_ ≠ (u5 : Value).ownBlock) (Kd.R_apart' (HO_8.out) (Kd.S_typed HO_5.out) (by decide)) (fun k_ hk => ⟨trivial, hk.2⟩))).1 k_ hk_.symm) ?aF ?aO ?aB ?aS ?aL ?_; (case aP => exact Kd.M_row (Kd.R_mono (Kd.R_tight rfl (Kd.R_mono (ok' := fun k_ => ((fun _ => True)) k_ ∧ some k_ ≠ (u5 : Value).ownBlock) (Kd.R_apart' (HO_8.out) (Kd.S_typed HO_5.out) (by decide)) (fun k_ hk => ⟨trivial, hk.2⟩))) (fun _ h_ => h_))); (case aB => exact (by repeat (first | (with_reducible first | exact HB.out | apply below_alloc | apply pw_below_drewN | apply below_drew1 | refine below_set ?_ GE543.out) | exact HB.out))); (case aF => exact (fun _ _ => trivial)); (case aO => exact (by (with_reducible repeat (first | apply Kd.S_alloc | apply Kd.S_drewN | apply Kd.S_drew)); exact Kd.S_mono HO_5.out (fun k_ hk => ⟨trivial, fun e_ => hk e_⟩))); (case aS => exact (below_size (by repeat (first | (with_reducible first | exact HB.out | apply below_alloc | apply pw_below_drewN | apply below_drew1 | refine below_set ?_ GE543.out) | exact HB.out)))); (case aL => have := LMc30.out; omega); intro v551 w31 ho hb hg hat; rw [← Ny550.out] at ho; have n0_ := Aside0.mk (blk_grown (g := gb543) (o := .cells #[.slice A0_0 l0_0.length c0_0] 29 (0, 0)) (by (with_reducible repeat (first | refine blk_drewN ?_ _ | refine blk_drew ?_ | refine blk_alloc ?_ _)); exact BK543.out) hg (Kd.S_ne HO_5.out BK543.out (by decide))); have n1_ := Aside0.mk (hb); have n2_ := Aside0.mk (ho); clear BK543; clear HB; clear HO_5; clear HO_8; have BK543 := n0_; have HB := n1_; have HO552 := n2_; clear n0_ n1_ n2_; clear ho hb hg hat)); try go_wp2_with (first | ((with_reducible refine gate_builtin (b := .append) (xs := #[.tmp 48, .tmp 50]) rfl ?_); at_builtin; refine Kd.S_append (Kd.slice 4 Kd.bool) (w0 := w) w.heap.size rfl (.tmp 48) (.tmp 50) 25 55 (.slice none 0 0) 24 rfl Tryd.underlying25 info55 rfl (by decide) (by omega) u5 x5_1 x8_2 [.slice Ao32 x8_2.length co32] (fun _ => True) (fun k_ => some k_ = (.slice Ao32 x8_2.length co32 : Value).ownBlock) rfl rfl ?aP (fun k_ hk_ => ((Kd.R_mono (ok' := fun k_ => ((fun _ => True)) k_ ∧ some k_ ≠ (u5 : Value).ownBlock) (Kd.R_apart' (HO_8.out) (Kd.S_typed HO_5.out) (by decide)) (fun k_ hk => ⟨trivial, hk.2⟩))).1 k_ hk_.symm) ?aF ?aO ?aB ?aS ?aL ?_; (case aP => exact Kd.M_row (Kd.R_mono (Kd.R_tight rfl (Kd.R_mono (ok' := fun k_ => ((fun _ => True)) k_ ∧ some k_ ≠ (u5 : Value).ownBlock) (Kd.R_apart' (HO_8.out) (Kd.S_typed HO_5.out) (by decide)) (fun k_ hk => ⟨trivial, hk.2⟩))) (fun _ h_ => h_))); (case aB => exact (by repeat (first | (with_reducible first | exact HB.out | apply below_alloc | apply pw_below_drewN | apply below_drew1 | refine below_set ?_ GE543.out) | exact HB.out))); (case aF => exact (fun _ _ => trivial)); (case aO => exact (by (with_reducible repeat (first | apply Kd.S_alloc | apply Kd.S_drewN | apply Kd.S_drew)); exact Kd.S_mono HO_5.out (fun k_ hk => ⟨trivial, fun e_ => hk e_⟩))); (case aS => exact (below_size (by repeat (first | (with_reducible first | exact HB.out | apply below_alloc | apply pw_below_drewN | apply below_drew1 | refine below_set ?_ GE543.out) | exact HB.out)))); (case aL => have := LMc30.out; omega); intro v551 w31 ho hb hg hat; rw [← Ny550.out] at ho; have n0_ := Aside0.mk (blk_grown (g := gb543) (o := .cells #[.slice A0_0 l0_0.length c0_0] 29 (0, 0)) (by (with_reducible repeat (first | refine blk_drewN ?_ _ | refine blk_drew ?_ | refine blk_alloc ?_ _)); exact BK543.out) hg (Kd.S_ne HO_5.out BK543.out (by decide))); have n1_ := Aside0.mk (hb); have n2_ := Aside0.mk (ho); clear BK543; clear HB; clear HO_5; clear HO_8; have BK543 := n0_; have HB := n1_; have HO552 := n2_; clear n0_ n1_ n2_; clear ho hb hg hat)))
                      go_roundg k2
                      case measure => have := HK1.out; have := HK2.out; omega
                      case rel => exact ⟨(y550), (x6_2), (wrap64 (x7_1 + 1)), (by first | rfl | (simp; done) | (simp [*]; done)), (by first | rfl | (simp; done) | (simp [*]; done)), H', ⟨by have := HK1.out; have := HK2.out; omega⟩, ⟨by (with_reducible repeat (first | apply Kd.S_alloc | apply Kd.S_drewN | apply Kd.S_drew)); exact HO552.out⟩, ⟨by (with_reducible repeat (first | refine blk_drewN ?_ _ | refine blk_drew ?_ | refine blk_alloc ?_ _)); exact BK543.out⟩, ⟨by repeat (first | (with_reducible first | exact HB.out | apply below_alloc | apply pw_below_drewN | apply below_drew1 | refine below_set ?_ GE543.out) | exact HB.out)⟩⟩
                    · rw [if_neg c30] at H
                      exact absurd H (by simp)
            · rw [if_neg c11] at H
              exact absurd H (by simp)
          · rw [if_neg c10] at H
            exact absurd H (by simp)
        · rw [if_neg c9] at H
          have c9b0 : decide (x7_1 < (l0_0.length : Int)) = false := decide_eq_false c9
          clear c9
          have H' := Aside0.mk H
          clear H
          go_wp2
          repeat (go_quiet (fail); try go_wp2)
          go_loopg [6, 11] k1 (fun kq v6 v11 w' => ∃ (x6_2 : Bool) (x11_2 : Int), v6 = .bool x6_2 ∧ v11 = .int .i64 x11_2 ∧ Aside0 (arboristref08_Truths.l2 kq (l0_0.length : Int) x5_1 x6_2 x11_2 = some (r1, r2)) ∧ Aside0 (kq ≤ k1) ∧ Aside0 (Kd.S (Kd.slice 4 Kd.bool) 55 w' w.heap.size (fun _ => True) u5 x5_1) ∧ Aside0 (w'.heap[gb543]? = some (.cells #[(.slice A0_0 l0_0.length c0_0)] 29 (0, 0))) ∧ Aside0 (Below w.heap.size w w'))
          case atStart => exact ⟨(x6_1), (0), (by first | rfl | (simp; done) | (simp [*]; done)), (by first | rfl | (simp; done) | (simp [*]; done)), H', ⟨Nat.le_refl _⟩, ⟨by (with_reducible repeat (first | apply Kd.S_alloc | apply Kd.S_drewN | apply Kd.S_drew)); exact HO_5.out⟩, ⟨by (with_reducible repeat (first | refine blk_drewN ?_ _ | refine blk_drew ?_ | refine blk_alloc ?_ _)); exact BK543.out⟩, ⟨by repeat (first | (with_reducible first | exact HB.out | apply below_alloc | apply pw_below_drewN | apply below_drew1 | refine below_set ?_ GE543.out) | exact HB.out)⟩⟩
          case round =>
            clear H'
            try clear c1
            try clear c2
            try clear c2b0
            try clear c2b1
            try clear p2
            try clear q2
            try clear hx2
            try clear hf2
            try clear c3
            try clear p5
            try clear q5
            try clear hx5
            try clear p6
            try clear c9
            try clear c9b0
            try clear c10
            try clear c10b0
            try clear c10b1
            try clear c11
            try clear c11b0
            try clear c11b1
            try clear c14
            try clear c14b0
            try clear c15
            try clear c15b0
            try clear c16
            try clear c16b0
            try clear c18
            try clear c18b0
            try clear c18b1
            try clear c20
            try clear c20b0
            try clear c21
            try clear c21b0
            try clear c22
            try clear c22b0
            try clear p23
            try clear q23
            try clear hx23
            try clear hf23
            try clear c25
            try clear c27
            try clear c27b0
            try clear c27b1
            try clear c30
            try clear hcz24_0
            try clear hcz28_0
            try clear hcz29_0
            try clear hcz4_0
            try clear hcz6_0
            try clear hfz24_0
            try clear hfz28_0
            try clear hfz29_0
            try clear hfz4_0
            try clear hfz6_0
            try clear hx23_0
            try clear hx553_0
            try clear p2
            try clear p23
            try clear p553
            try clear q23
            try clear q553
            obtain ⟨x6_2, x11_2, rfl, rfl, HA, HK2, HO_5, BK543, HB⟩ := hrel
            cases gk with
            | zero => exact absurd HA.out (by simp [arboristref08_Truths.l2])
            | succ k2 =>
              have H := HA.out
              clear HA
              simp only [arboristref08_Truths.l2] at H
              by_cases c33 : x11_2 < (l0_0.length : Int)
              · rw [if_pos c33] at H
                have c33b0 : decide (x11_2 < (l0_0.length : Int)) = true := decide_eq_true c33
                clear c33
                have H' := Aside0.mk H
                clear H
                go_wp2
                repeat (go_quiet (fail); try go_wp2)
                go_loopg [6, 12] k2 (fun kq v6 v12 w' => ∃ (x6_3 : Bool) (x12_3 : Int), v6 = .bool x6_3 ∧ v12 = .int .i64 x12_3 ∧ Aside0 (arboristref08_Truths.l3 kq (l0_0.length : Int) x5_1 x6_3 x11_2 x12_3 = some (r1, r2)) ∧ Aside0 (kq ≤ k2) ∧ Aside0 (Kd.S (Kd.slice 4 Kd.bool) 55 w' w.heap.size (fun _ => True) u5 x5_1) ∧ Aside0 (w'.heap[gb543]? = some (.cells #[(.slice A0_0 l0_0.length c0_0)] 29 (0, 0))) ∧ Aside0 (Below w.heap.size w w'))
                case atStart => exact ⟨(x6_2), (0), (by first | rfl | (simp; done) | (simp [*]; done)), (by first | rfl | (simp; done) | (simp [*]; done)), H', ⟨Nat.le_refl _⟩, ⟨by (with_reducible repeat (first | apply Kd.S_alloc | apply Kd.S_drewN | apply Kd.S_drew)); exact HO_5.out⟩, ⟨by (with_reducible repeat (first | refine blk_drewN ?_ _ | refine blk_drew ?_ | refine blk_alloc ?_ _)); exact BK543.out⟩, ⟨by repeat (first | (with_reducible first | exact HB.out | apply below_alloc | apply pw_below_drewN | apply below_drew1 | refine below_set ?_ GE543.out) | exact HB.out)⟩⟩
                case round =>
                  clear H'
                  try clear c1
                  try clear c2
                  try clear c2b0
                  try clear c2b1
                  try clear p2
                  try clear q2
                  try clear hx2
                  try clear hf2
                  try clear c3
                  try clear p5
                  try clear q5
                  try clear hx5
                  try clear p6
                  try clear c9
                  try clear c9b0
                  try clear c10
                  try clear c10b0
                  try clear c10b1
                  try clear c11
                  try clear c11b0
                  try clear c11b1
                  try clear c14
                  try clear c14b0
                  try clear c15
                  try clear c15b0
                  try clear c16
                  try clear c16b0
                  try clear c18
                  try clear c18b0
                  try clear c18b1
                  try clear c20
                  try clear c20b0
                  try clear c21
                  try clear c21b0
                  try clear c22
                  try clear c22b0
                  try clear p23
                  try clear q23
                  try clear hx23
                  try clear hf23
                  try clear c25
                  try clear c27
                  try clear c27b0
                  try clear c27b1
                  try clear c30
                  try clear c33
                  try clear c33b0
                  try clear hcz24_0
                  try clear hcz28_0
                  try clear hcz29_0
                  try clear hcz4_0
                  try clear hcz6_0
                  try clear hfz24_0
                  try clear hfz28_0
                  try clear hfz29_0
                  try clear hfz4_0
                  try clear hfz6_0
                  try clear hx23_0
                  try clear hx553_0
                  try clear p2
                  try clear p23
                  try clear p5
                  try clear p553
                  try clear p6
                  try clear q2
                  try clear q23
                  try clear q5
                  try clear q553
                  obtain ⟨x6_3, x12_3, rfl, rfl, HA, HK3, HO_5, BK543, HB⟩ := hrel
                  cases gk with
                  | zero => exact absurd HA.out (by simp [arboristref08_Truths.l3])
                  | succ k3 =>
                    have H := HA.out
                    clear HA
                    simp only [arboristref08_Truths.l3] at H
                    by_cases c34 : x12_3 < (l0_0.length : Int)
                    · rw [if_pos c34] at H
                      have c34b0 : decide (x12_3 < (l0_0.length : Int)) = true := decide_eq_true c34
                      clear c34
                      by_cases c35 : 0 ≤ x11_2
                      · rw [if_pos c35] at H
                        have c35b0 : decide (0 ≤ x11_2) = true := decide_eq_true c35
                        clear c35
                        by_cases c36 : x11_2 < (x5_1.length : Int)
                        · rw [if_pos c36] at H
                          have c36b0 : decide (x11_2 < (x5_1.length : Int)) = true := decide_eq_true c36
                          clear c36
                          by_cases c37 : 0 ≤ x12_3
                          · rw [if_pos c37] at H
                            have c37b0 : decide (0 ≤ x12_3) = true := decide_eq_true c37
                            clear c37
                            by_cases c38 : x12_3 < ((rd_L7 x5_1 x11_2).length : Int)
                            · rw [if_pos c38] at H
                              have c38b0 : decide (x12_3 < ((rd_L7 x5_1 x11_2).length : Int)) = true := decide_eq_true c38
                              clear c38
                              by_cases c39 : x12_3 < (x5_1.length : Int)
                              · rw [if_pos c39] at H
                                have c39b0 : decide (x12_3 < (x5_1.length : Int)) = true := decide_eq_true c39
                                clear c39
                                by_cases c40 : x11_2 < ((rd_L7 x5_1 x12_3).length : Int)
                                · rw [if_pos c40] at H
                                  have c40b0 : decide (x11_2 < ((rd_L7 x5_1 x12_3).length : Int)) = true := decide_eq_true c40
                                  clear c40
                                  by_cases c41 : ((rdOf false (rd_L7 x5_1 x11_2) x12_3) != (rdOf false (rd_L7 x5_1 x12_3) x11_2)) = true
                                  · rw [if_pos c41] at H
                                    have c41b0 : ((rdOf false (rd_L7 x5_1 x11_2) x12_3) != (rdOf false (rd_L7 x5_1 x12_3) x11_2)) = true := c41
                                    (try (have c41b1 : decide ((rdOf false (rd_L7 x5_1 x11_2) x12_3) = (rdOf false (rd_L7 x5_1 x12_3) x11_2)) = false := by simpa using c41))
                                    (try (have c41b2 : ((rdOf false (rd_L7 x5_1 x11_2) x12_3) == (rdOf false (rd_L7 x5_1 x12_3) x11_2)) = false := by simpa using c41))
                                    (try (have c41b3 : ¬ ((rdOf false (rd_L7 x5_1 x11_2) x12_3) = (rdOf false (rd_L7 x5_1 x12_3) x11_2)) := by simpa using c41))
                                    clear c41
                                    have H' := Aside0.mk H
                                    clear H
                                    obtain ⟨Ao42, co42, eo42⟩ := Kd.S_slice HO_5.out
                                    subst eo42
                                    have p555 : 0 ≤ (x11_2 : Int) := of_decide_eq_true (by first | (with_reducible assumption) | assumption)
                                    have q555 : x11_2 < (x5_1.length : Int) := of_decide_eq_true (by first | (with_reducible assumption) | assumption)
                                    obtain ⟨ad555, A555_0, c555_0, e555, hx555_0, hl555_0, hi555_0⟩ := at_L7 (Kd.S_reads' HO_5.out).2.2 x11_2 p555 q555
                                    cases e555
                                    obtain ⟨ce555, hce555, hMe555, hcc555⟩ := Kd.S_get HO_5.out [] x11_2 p555 (by first | exact q555 | exact of_decide_eq_true (by first | (with_reducible assumption) | assumption) | (have e_ := (Kd.S_reads' HO_5.out).1; omega))
                                    obtain ⟨ve555_0, rfl, ge555_0⟩ := hMe555
                                    have hv555_0 := hcc555 0 _ rfl
                                    rw [Nat.add_zero, show ((Kd.slice 4 Kd.bool)).sz = 1 from rfl, Nat.mul_one] at hv555_0
                                    replace hv555_0 := Option.some.inj (hv555_0.symm.trans hx555_0)
                                    rw [hv555_0] at ge555_0
                                    have HL555_0 := Aside0.mk (show Kd.R Kd.bool 4 _ _ _ _ (rd_L7 x5_1 x11_2) from ge555_0)
                                    clear hv555_0 ge555_0
                                    clear hcc555 hce555
                                    have HR555_0 := Aside0.mk hi555_0
                                    have HC555_0 := Aside0.mk hl555_0
                                    clear hi555_0 hl555_0
                                    replace p555 := eq_true p555
                                    replace q555 := eq_true q555
                                    have p556 : 0 ≤ (x12_3 : Int) := of_decide_eq_true (by first | (with_reducible assumption) | assumption)
                                    have q556 : x12_3 < ((rd_L7 x5_1 x11_2).length : Int) := of_decide_eq_true (by first | (with_reducible assumption) | assumption)
                                    obtain ⟨ad556, e556, hx556_0⟩ := Kd.at_bool (by repeat (first | (with_reducible exact HR555_0.out) | (with_reducible refine Kd.C_alloc ?_ _) | (with_reducible refine Kd.C_drewN ?_ _) | (with_reducible refine Kd.C_drew ?_) | exact HR555_0.out)) x12_3 p556 q556
                                    cases e556
                                    replace p556 := eq_true p556
                                    replace q556 := eq_true q556
                                    have p557 : 0 ≤ (x12_3 : Int) := of_decide_eq_true (by first | (with_reducible assumption) | assumption)
                                    have q557 : x12_3 < (x5_1.length : Int) := of_decide_eq_true (by first | (with_reducible assumption) | assumption)
                                    obtain ⟨ad557, A557_0, c557_0, e557, hx557_0, hl557_0, hi557_0⟩ := at_L7 (Kd.S_reads' HO_5.out).2.2 x12_3 p557 q557
                                    obtain rfl : ad555 = ad557 := (by injection e557)
                                    obtain ⟨ce557, hce557, hMe557, hcc557⟩ := Kd.S_get HO_5.out [] x12_3 p557 (by first | exact q557 | exact of_decide_eq_true (by first | (with_reducible assumption) | assumption) | (have e_ := (Kd.S_reads' HO_5.out).1; omega))
                                    obtain ⟨ve557_0, rfl, ge557_0⟩ := hMe557
                                    have hv557_0 := hcc557 0 _ rfl
                                    rw [Nat.add_zero, show ((Kd.slice 4 Kd.bool)).sz = 1 from rfl, Nat.mul_one] at hv557_0
                                    replace hv557_0 := Option.some.inj (hv557_0.symm.trans hx557_0)
                                    rw [hv557_0] at ge557_0
                                    have HL557_0 := Aside0.mk (show Kd.R Kd.bool 4 _ _ _ _ (rd_L7 x5_1 x12_3) from ge557_0)
                                    clear hv557_0 ge557_0
                                    clear hcc557 hce557
                                    have HR557_0 := Aside0.mk hi557_0
                                    have HC557_0 := Aside0.mk hl557_0
                                    clear hi557_0 hl557_0
                                    replace p557 := eq_true p557
                                    replace q557 := eq_true q557
                                    have p558 : 0 ≤ (x11_2 : Int) := of_decide_eq_true (by first | (with_reducible assumption) | assumption)
                                    have q558 : x11_2 < ((rd_L7 x5_1 x12_3).length : Int) := of_decide_eq_true (by first | (with_reducible assumption) | assumption)
                                    obtain ⟨ad558, e558, hx558_0⟩ := Kd.at_bool (by repeat (first | (with_reducible exact HR557_0.out) | (with_reducible refine Kd.C_alloc ?_ _) | (with_reducible refine Kd.C_drewN ?_ _) | (with_reducible refine Kd.C_drew ?_) | exact HR557_0.out)) x11_2 p558 q558
                                    cases e558
                                    replace p558 := eq_true p558
                                    replace q558 := eq_true q558
                                    go_wp2
                                    repeat (go_quiet (fail); try go_wp2)
                                    go_roundg k3
                                    case measure => have := HK1.out; have := HK2.out; have := HK3.out; omega
                                    case rel => exact ⟨(false), (wrap64 (x12_3 + 1)), (by first | rfl | (simp; done) | (simp [*]; done)), (by first | rfl | (simp; done) | (simp [*]; done)), H', ⟨by have := HK1.out; have := HK2.out; have := HK3.out; omega⟩, ⟨by (with_reducible repeat (first | apply Kd.S_alloc | apply Kd.S_drewN | apply Kd.S_drew)); exact HO_5.out⟩, ⟨by (with_reducible repeat (first | refine blk_drewN ?_ _ | refine blk_drew ?_ | refine blk_alloc ?_ _)); exact BK543.out⟩, ⟨by repeat (first | (with_reducible first | exact HB.out | apply below_alloc | apply pw_below_drewN | apply below_drew1 | refine below_set ?_ GE543.out) | exact HB.out)⟩⟩
                                  · rw [if_neg c41] at H
                                    have c41b0 : ((rdOf false (rd_L7 x5_1 x11_2) x12_3) != (rdOf false (rd_L7 x5_1 x12_3) x11_2)) = false := by simpa using c41
                                    (try (have c41b1 : decide ((rdOf false (rd_L7 x5_1 x11_2) x12_3) = (rdOf false (rd_L7 x5_1 x12_3) x11_2)) = true := by simpa using c41))
                                    (try (have c41b2 : ((rdOf false (rd_L7 x5_1 x11_2) x12_3) == (rdOf false (rd_L7 x5_1 x12_3) x11_2)) = true := by simpa using c41))
                                    clear c41
                                    by_cases c43 : x11_2 = x12_3
                                    · rw [if_pos c43] at H
                                      have c43b0 : (x11_2 == x12_3) = true := beq_iff_eq.mpr c43
                                      have c43b1 : (x11_2 != x12_3) = false := bne_eq_false_iff_eq.mpr c43
                                      clear c43
                                      obtain ⟨bq44, hbq44⟩ : ∃ b_ : Bool, b_ = (rdOf false (rd_L7 x5_1 x11_2) x12_3) := ⟨_, rfl⟩
                                      replace H : (if bq44 = true then (arboristref08_Truths.l3 k3 (l0_0.length : Int) x5_1 false x11_2 (wrap64 (x12_3 + 1))) else (arboristref08_Truths.l3 k3 (l0_0.length : Int) x5_1 x6_3 x11_2 (wrap64 (x12_3 + 1)))) = some (r1, r2) := by rw [← hbq44] at H; exact H
                                      (try rw [← hbq44] at c41b0)
                                      (try rw [← hbq44] at c41b1)
                                      (try rw [← hbq44] at c41b2)
                                      (try rw [← hbq44] at c41b3)
                                      have Nbq44 := Aside0.mk hbq44
                                      clear hbq44
                                      by_cases c45 : bq44 = true
                                      · subst c45
                                        have H1 : (arboristref08_Truths.l3 k3 (l0_0.length : Int) x5_1 false x11_2 (wrap64 (x12_3 + 1))) = some (r1, r2) := by rw [if_pos rfl] at H; exact H
                                        clear H
                                        have H := H1
                                        clear H1
                                        have H' := Aside0.mk H
                                        clear H
                                        obtain ⟨Ao46, co46, eo46⟩ := Kd.S_slice HO_5.out
                                        subst eo46
                                        have p555 : 0 ≤ (x11_2 : Int) := of_decide_eq_true (by first | (with_reducible assumption) | assumption)
                                        have q555 : x11_2 < (x5_1.length : Int) := of_decide_eq_true (by first | (with_reducible assumption) | assumption)
                                        obtain ⟨ad555, A555_0, c555_0, e555, hx555_0, hl555_0, hi555_0⟩ := at_L7 (Kd.S_reads' HO_5.out).2.2 x11_2 p555 q555
                                        cases e555
                                        obtain ⟨ce555, hce555, hMe555, hcc555⟩ := Kd.S_get HO_5.out [] x11_2 p555 (by first | exact q555 | exact of_decide_eq_true (by first | (with_reducible assumption) | assumption) | (have e_ := (Kd.S_reads' HO_5.out).1; omega))
                                        obtain ⟨ve555_0, rfl, ge555_0⟩ := hMe555
                                        have hv555_0 := hcc555 0 _ rfl
                                        rw [Nat.add_zero, show ((Kd.slice 4 Kd.bool)).sz = 1 from rfl, Nat.mul_one] at hv555_0
                                        replace hv555_0 := Option.some.inj (hv555_0.symm.trans hx555_0)
                                        rw [hv555_0] at ge555_0
                                        have HL555_0 := Aside0.mk (show Kd.R Kd.bool 4 _ _ _ _ (rd_L7 x5_1 x11_2) from ge555_0)
                                        clear hv555_0 ge555_0
                                        clear hcc555 hce555
                                        have HR555_0 := Aside0.mk hi555_0
                                        have HC555_0 := Aside0.mk hl555_0
                                        clear hi555_0 hl555_0
                                        replace p555 := eq_true p555
                                        replace q555 := eq_true q555
                                        have p556 : 0 ≤ (x12_3 : Int) := of_decide_eq_true (by first | (with_reducible assumption) | assumption)
                                        have q556 : x12_3 < ((rd_L7 x5_1 x11_2).length : Int) := of_decide_eq_true (by first | (with_reducible assumption) | assumption)
                                        obtain ⟨ad556, e556, hx556_0⟩ := Kd.at_bool (by repeat (first | (with_reducible exact HR555_0.out) | (with_reducible refine Kd.C_alloc ?_ _) | (with_reducible refine Kd.C_drewN ?_ _) | (with_reducible refine Kd.C_drew ?_) | exact HR555_0.out)) x12_3 p556 q556
                                        (try rw [← Nbq44.out] at hx556_0)
                                        cases e556
                                        replace p556 := eq_true p556
                                        replace q556 := eq_true q556
                                        have p557 : 0 ≤ (x12_3 : Int) := of_decide_eq_true (by first | (with_reducible assumption) | assumption)
                                        have q557 : x12_3 < (x5_1.length : Int) := of_decide_eq_true (by first | (with_reducible assumption) | assumption)
                                        obtain ⟨ad557, A557_0, c557_0, e557, hx557_0, hl557_0, hi557_0⟩ := at_L7 (Kd.S_reads' HO_5.out).2.2 x12_3 p557 q557
                                        obtain rfl : ad555 = ad557 := (by injection e557)
                                        obtain ⟨ce557, hce557, hMe557, hcc557⟩ := Kd.S_get HO_5.out [] x12_3 p557 (by first | exact q557 | exact of_decide_eq_true (by first | (with_reducible assumption) | assumption) | (have e_ := (Kd.S_reads' HO_5.out).1; omega))
                                        obtain ⟨ve557_0, rfl, ge557_0⟩ := hMe557
                                        have hv557_0 := hcc557 0 _ rfl
                                        rw [Nat.add_zero, show ((Kd.slice 4 Kd.bool)).sz = 1 from rfl, Nat.mul_one] at hv557_0
                                        replace hv557_0 := Option.some.inj (hv557_0.symm.trans hx557_0)
                                        rw [hv557_0] at ge557_0
                                        have HL557_0 := Aside0.mk (show Kd.R Kd.bool 4 _ _ _ _ (rd_L7 x5_1 x12_3) from ge557_0)
                                        clear hv557_0 ge557_0
                                        clear hcc557 hce557
                                        have HR557_0 := Aside0.mk hi557_0
                                        have HC557_0 := Aside0.mk hl557_0
                                        clear hi557_0 hl557_0
                                        replace p557 := eq_true p557
                                        replace q557 := eq_true q557
                                        have p558 : 0 ≤ (x11_2 : Int) := of_decide_eq_true (by first | (with_reducible assumption) | assumption)
                                        have q558 : x11_2 < ((rd_L7 x5_1 x12_3).length : Int) := of_decide_eq_true (by first | (with_reducible assumption) | assumption)
                                        obtain ⟨ad558, e558, hx558_0⟩ := Kd.at_bool (by repeat (first | (with_reducible exact HR557_0.out) | (with_reducible refine Kd.C_alloc ?_ _) | (with_reducible refine Kd.C_drewN ?_ _) | (with_reducible refine Kd.C_drew ?_) | exact HR557_0.out)) x11_2 p558 q558
                                        (try rw [← Nbq44.out] at hx558_0)
                                        cases e558
                                        replace p558 := eq_true p558
                                        replace q558 := eq_true q558
                                        have p559 : 0 ≤ (x11_2 : Int) := of_decide_eq_true (by first | (with_reducible assumption) | assumption)
                                        have q559 : x11_2 < (x5_1.length : Int) := of_decide_eq_true (by first | (with_reducible assumption) | assumption)
                                        obtain ⟨ad559, A559_0, c559_0, e559, hx559_0, hl559_0, hi559_0⟩ := at_L7 (Kd.S_reads' HO_5.out).2.2 x11_2 p559 q559
                                        obtain rfl : ad555 = ad559 := (by injection e559)
                                        obtain ⟨ce559, hce559, hMe559, hcc559⟩ := Kd.S_get HO_5.out [] x11_2 p559 (by first | exact q559 | exact of_decide_eq_true (by first | (with_reducible assumption) | assumption) | (have e_ := (Kd.S_reads' HO_5.out).1; omega))
                                        obtain ⟨ve559_0, rfl, ge559_0⟩ := hMe559
                                        have hv559_0 := hcc559 0 _ rfl
                                        rw [Nat.add_zero, show ((Kd.slice 4 Kd.bool)).sz = 1 from rfl, Nat.mul_one] at hv559_0
                                        replace hv559_0 := Option.some.inj (hv559_0.symm.trans hx559_0)
                                        rw [hv559_0] at ge559_0
                                        have HL559_0 := Aside0.mk (show Kd.R Kd.bool 4 _ _ _ _ (rd_L7 x5_1 x11_2) from ge559_0)
                                        clear hv559_0 ge559_0
                                        clear hcc559 hce559
                                        have HR559_0 := Aside0.mk hi559_0
                                        have HC559_0 := Aside0.mk hl559_0
                                        clear hi559_0 hl559_0
                                        replace p559 := eq_true p559
                                        replace q559 := eq_true q559
                                        have ea_ := Option.some.inj (hx555_0.symm.trans hx559_0)
                                        injection ea_ with ea_ en_ ec_
                                        subst ea_
                                        subst ec_
                                        clear en_
                                        have p560 : 0 ≤ (x12_3 : Int) := of_decide_eq_true (by first | (with_reducible assumption) | assumption)
                                        have q560 : x12_3 < ((rd_L7 x5_1 x11_2).length : Int) := of_decide_eq_true (by first | (with_reducible assumption) | assumption)
                                        obtain ⟨ad560, e560, hx560_0⟩ := Kd.at_bool (by repeat (first | (with_reducible exact HR559_0.out) | (with_reducible refine Kd.C_alloc ?_ _) | (with_reducible refine Kd.C_drewN ?_ _) | (with_reducible refine Kd.C_drew ?_) | exact HR559_0.out)) x12_3 p560 q560
                                        (try rw [← Nbq44.out] at hx560_0)
                                        cases e560
                                        replace p560 := eq_true p560
                                        replace q560 := eq_true q560
                                        go_wp2
                                        repeat (go_quiet (fail); try go_wp2)
                                        go_roundg k3
                                        case measure => have := HK1.out; have := HK2.out; have := HK3.out; omega
                                        case rel => exact ⟨(false), (wrap64 (x12_3 + 1)), (by first | rfl | (simp; done) | (simp [*]; done)), (by first | rfl | (simp; done) | (simp [*]; done)), H', ⟨by have := HK1.out; have := HK2.out; have := HK3.out; omega⟩, ⟨by (with_reducible repeat (first | apply Kd.S_alloc | apply Kd.S_drewN | apply Kd.S_drew)); exact HO_5.out⟩, ⟨by (with_reducible repeat (first | refine blk_drewN ?_ _ | refine blk_drew ?_ | refine blk_alloc ?_ _)); exact BK543.out⟩, ⟨by repeat (first | (with_reducible first | exact HB.out | apply below_alloc | apply pw_below_drewN | apply below_drew1 | refine below_set ?_ GE543.out) | exact HB.out)⟩⟩
                                      · replace c45 := Bool.eq_false_iff.mpr c45
                                        subst c45
                                        have H1 : (arboristref08_Truths.l3 k3 (l0_0.length : Int) x5_1 x6_3 x11_2 (wrap64 (x12_3 + 1))) = some (r1, r2) := by rw [if_neg (show ¬ (false = true) by decide)] at H; exact H
                                        clear H
                                        have H := H1
                                        clear H1
                                        have H' := Aside0.mk H
                                        clear H
                                        obtain ⟨Ao47, co47, eo47⟩ := Kd.S_slice HO_5.out
                                        subst eo47
                                        have p555 : 0 ≤ (x11_2 : Int) := of_decide_eq_true (by first | (with_reducible assumption) | assumption)
                                        have q555 : x11_2 < (x5_1.length : Int) := of_decide_eq_true (by first | (with_reducible assumption) | assumption)
                                        obtain ⟨ad555, A555_0, c555_0, e555, hx555_0, hl555_0, hi555_0⟩ := at_L7 (Kd.S_reads' HO_5.out).2.2 x11_2 p555 q555
                                        cases e555
                                        obtain ⟨ce555, hce555, hMe555, hcc555⟩ := Kd.S_get HO_5.out [] x11_2 p555 (by first | exact q555 | exact of_decide_eq_true (by first | (with_reducible assumption) | assumption) | (have e_ := (Kd.S_reads' HO_5.out).1; omega))
                                        obtain ⟨ve555_0, rfl, ge555_0⟩ := hMe555
                                        have hv555_0 := hcc555 0 _ rfl
                                        rw [Nat.add_zero, show ((Kd.slice 4 Kd.bool)).sz = 1 from rfl, Nat.mul_one] at hv555_0
                                        replace hv555_0 := Option.some.inj (hv555_0.symm.trans hx555_0)
                                        rw [hv555_0] at ge555_0
                                        have HL555_0 := Aside0.mk (show Kd.R Kd.bool 4 _ _ _ _ (rd_L7 x5_1 x11_2) from ge555_0)
                                        clear hv555_0 ge555_0
                                        clear hcc555 hce555
                                        have HR555_0 := Aside0.mk hi555_0
                                        have HC555_0 := Aside0.mk hl555_0
                                        clear hi555_0 hl555_0
                                        replace p555 := eq_true p555
                                        replace q555 := eq_true q555
                                        have p556 : 0 ≤ (x12_3 : Int) := of_decide_eq_true (by first | (with_reducible assumption) | assumption)
                                        have q556 : x12_3 < ((rd_L7 x5_1 x11_2).length : Int) := of_decide_eq_true (by first | (with_reducible assumption) | assumption)
                                        obtain ⟨ad556, e556, hx556_0⟩ := Kd.at_bool (by repeat (first | (with_reducible exact HR555_0.out) | (with_reducible refine Kd.C_alloc ?_ _) | (with_reducible refine Kd.C_drewN ?_ _) | (with_reducible refine Kd.C_drew ?_) | exact HR555_0.out)) x12_3 p556 q556
                                        (try rw [← Nbq44.out] at hx556_0)
                                        cases e556
                                        replace p556 := eq_true p556
                                        replace q556 := eq_true q556
                                        have p557 : 0 ≤ (x12_3 : Int) := of_decide_eq_true (by first | (with_reducible assumption) | assumption)
                                        have q557 : x12_3 < (x5_1.length : Int) := of_decide_eq_true (by first | (with_reducible assumption) | assumption)
                                        obtain ⟨ad557, A557_0, c557_0, e557, hx557_0, hl557_0, hi557_0⟩ := at_L7 (Kd.S_reads' HO_5.out).2.2 x12_3 p557 q557
                                        obtain rfl : ad555 = ad557 := (by injection e557)
                                        obtain ⟨ce557, hce557, hMe557, hcc557⟩ := Kd.S_get HO_5.out [] x12_3 p557 (by first | exact q557 | exact of_decide_eq_true (by first | (with_reducible assumption) | assumption) | (have e_ := (Kd.S_reads' HO_5.out).1; omega))
                                        obtain ⟨ve557_0, rfl, ge557_0⟩ := hMe557
                                        have hv557_0 := hcc557 0 _ rfl
                                        rw [Nat.add_zero, show ((Kd.slice 4 Kd.bool)).sz = 1 from rfl, Nat.mul_one] at hv557_0
                                        replace hv557_0 := Option.some.inj (hv557_0.symm.trans hx557_0)
                                        rw [hv557_0] at ge557_0
                                        have HL557_0 := Aside0.mk (show Kd.R Kd.bool 4 _ _ _ _ (rd_L7 x5_1 x12_3) from ge557_0)
                                        clear hv557_0 ge557_0
                                        clear hcc557 hce557
                                        have HR557_0 := Aside0.mk hi557_0
                                        have HC557_0 := Aside0.mk hl557_0
                                        clear hi557_0 hl557_0
                                        replace p557 := eq_true p557
                                        replace q557 := eq_true q557
                                        have p558 : 0 ≤ (x11_2 : Int) := of_decide_eq_true (by first | (with_reducible assumption) | assumption)
                                        have q558 : x11_2 < ((rd_L7 x5_1 x12_3).length : Int) := of_decide_eq_true (by first | (with_reducible assumption) | assumption)
                                        obtain ⟨ad558, e558, hx558_0⟩ := Kd.at_bool (by repeat (first | (with_reducible exact HR557_0.out) | (with_reducible refine Kd.C_alloc ?_ _) | (with_reducible refine Kd.C_drewN ?_ _) | (with_reducible refine Kd.C_drew ?_) | exact HR557_0.out)) x11_2 p558 q558
                                        (try rw [← Nbq44.out] at hx558_0)
                                        cases e558
                                        replace p558 := eq_true p558
                                        replace q558 := eq_true q558
                                        have p559 : 0 ≤ (x11_2 : Int) := of_decide_eq_true (by first | (with_reducible assumption) | assumption)
                                        have q559 : x11_2 < (x5_1.length : Int) := of_decide_eq_true (by first | (with_reducible assumption) | assumption)
                                        obtain ⟨ad559, A559_0, c559_0, e559, hx559_0, hl559_0, hi559_0⟩ := at_L7 (Kd.S_reads' HO_5.out).2.2 x11_2 p559 q559
                                        obtain rfl : ad555 = ad559 := (by injection e559)
                                        obtain ⟨ce559, hce559, hMe559, hcc559⟩ := Kd.S_get HO_5.out [] x11_2 p559 (by first | exact q559 | exact of_decide_eq_true (by first | (with_reducible assumption) | assumption) | (have e_ := (Kd.S_reads' HO_5.out).1; omega))
                                        obtain ⟨ve559_0, rfl, ge559_0⟩ := hMe559
                                        have hv559_0 := hcc559 0 _ rfl
                                        rw [Nat.add_zero, show ((Kd.slice 4 Kd.bool)).sz = 1 from rfl, Nat.mul_one] at hv559_0
                                        replace hv559_0 := Option.some.inj (hv559_0.symm.trans hx559_0)
                                        rw [hv559_0] at ge559_0
                                        have HL559_0 := Aside0.mk (show Kd.R Kd.bool 4 _ _ _ _ (rd_L7 x5_1 x11_2) from ge559_0)
                                        clear hv559_0 ge559_0
                                        clear hcc559 hce559
                                        have HR559_0 := Aside0.mk hi559_0
                                        have HC559_0 := Aside0.mk hl559_0
                                        clear hi559_0 hl559_0
                                        replace p559 := eq_true p559
                                        replace q559 := eq_true q559
                                        have ea_ := Option.some.inj (hx555_0.symm.trans hx559_0)
                                        injection ea_ with ea_ en_ ec_
                                        subst ea_
                                        subst ec_
                                        clear en_
                                        have p560 : 0 ≤ (x12_3 : Int) := of_decide_eq_true (by first | (with_reducible assumption) | assumption)
                                        have q560 : x12_3 < ((rd_L7 x5_1 x11_2).length : Int) := of_decide_eq_true (by first | (with_reducible assumption) | assumption)
                                        obtain ⟨ad560, e560, hx560_0⟩ := Kd.at_bool (by repeat (first | (with_reducible exact HR559_0.out) | (with_reducible refine Kd.C_alloc ?_ _) | (with_reducible refine Kd.C_drewN ?_ _) | (with_reducible refine Kd.C_drew ?_) | exact HR559_0.out)) x12_3 p560 q560
                                        (try rw [← Nbq44.out] at hx560_0)
                                        cases e560
                                        replace p560 := eq_true p560
                                        replace q560 := eq_true q560
                                        go_wp2
                                        repeat (go_quiet (fail); try go_wp2)
                                        go_roundg k3
                                        case measure => have := HK1.out; have := HK2.out; have := HK3.out; omega
                                        case rel => exact ⟨(x6_3), (wrap64 (x12_3 + 1)), (by first | rfl | (simp; done) | (simp [*]; done)), (by first | rfl | (simp; done) | (simp [*]; done)), H', ⟨by have := HK1.out; have := HK2.out; have := HK3.out; omega⟩, ⟨by (with_reducible repeat (first | apply Kd.S_alloc | apply Kd.S_drewN | apply Kd.S_drew)); exact HO_5.out⟩, ⟨by (with_reducible repeat (first | refine blk_drewN ?_ _ | refine blk_drew ?_ | refine blk_alloc ?_ _)); exact BK543.out⟩, ⟨by repeat (first | (with_reducible first | exact HB.out | apply below_alloc | apply pw_below_drewN | apply below_drew1 | refine below_set ?_ GE543.out) | exact HB.out)⟩⟩
                                    · rw [if_neg c43] at H
                                      have c43b0 : (x11_2 == x12_3) = false := beq_eq_false_iff_ne.mpr c43
                                      have c43b1 : (x11_2 != x12_3) = true := bne_iff_ne.mpr c43
                                      have H' := Aside0.mk H
                                      clear H
                                      obtain ⟨Ao48, co48, eo48⟩ := Kd.S_slice HO_5.out
                                      subst eo48
                                      have p555 : 0 ≤ (x11_2 : Int) := of_decide_eq_true (by first | (with_reducible assumption) | assumption)
                                      have q555 : x11_2 < (x5_1.length : Int) := of_decide_eq_true (by first | (with_reducible assumption) | assumption)
                                      obtain ⟨ad555, A555_0, c555_0, e555, hx555_0, hl555_0, hi555_0⟩ := at_L7 (Kd.S_reads' HO_5.out).2.2 x11_2 p555 q555
                                      cases e555
                                      obtain ⟨ce555, hce555, hMe555, hcc555⟩ := Kd.S_get HO_5.out [] x11_2 p555 (by first | exact q555 | exact of_decide_eq_true (by first | (with_reducible assumption) | assumption) | (have e_ := (Kd.S_reads' HO_5.out).1; omega))
                                      obtain ⟨ve555_0, rfl, ge555_0⟩ := hMe555
                                      have hv555_0 := hcc555 0 _ rfl
                                      rw [Nat.add_zero, show ((Kd.slice 4 Kd.bool)).sz = 1 from rfl, Nat.mul_one] at hv555_0
                                      replace hv555_0 := Option.some.inj (hv555_0.symm.trans hx555_0)
                                      rw [hv555_0] at ge555_0
                                      have HL555_0 := Aside0.mk (show Kd.R Kd.bool 4 _ _ _ _ (rd_L7 x5_1 x11_2) from ge555_0)
                                      clear hv555_0 ge555_0
                                      clear hcc555 hce555
                                      have HR555_0 := Aside0.mk hi555_0
                                      have HC555_0 := Aside0.mk hl555_0
                                      clear hi555_0 hl555_0
                                      replace p555 := eq_true p555
                                      replace q555 := eq_true q555
                                      have p556 : 0 ≤ (x12_3 : Int) := of_decide_eq_true (by first | (with_reducible assumption) | assumption)
                                      have q556 : x12_3 < ((rd_L7 x5_1 x11_2).length : Int) := of_decide_eq_true (by first | (with_reducible assumption) | assumption)
                                      obtain ⟨ad556, e556, hx556_0⟩ := Kd.at_bool (by repeat (first | (with_reducible exact HR555_0.out) | (with_reducible refine Kd.C_alloc ?_ _) | (with_reducible refine Kd.C_drewN ?_ _) | (with_reducible refine Kd.C_drew ?_) | exact HR555_0.out)) x12_3 p556 q556
                                      cases e556
                                      replace p556 := eq_true p556
                                      replace q556 := eq_true q556
                                      have p557 : 0 ≤ (x12_3 : Int) := of_decide_eq_true (by first | (with_reducible assumption) | assumption)
                                      have q557 : x12_3 < (x5_1.length : Int) := of_decide_eq_true (by first | (with_reducible assumption) | assumption)
                                      obtain ⟨ad557, A557_0, c557_0, e557, hx557_0, hl557_0, hi557_0⟩ := at_L7 (Kd.S_reads' HO_5.out).2.2 x12_3 p557 q557
                                      obtain rfl : ad555 = ad557 := (by injection e557)
                                      obtain ⟨ce557, hce557, hMe557, hcc557⟩ := Kd.S_get HO_5.out [] x12_3 p557 (by first | exact q557 | exact of_decide_eq_true (by first | (with_reducible assumption) | assumption) | (have e_ := (Kd.S_reads' HO_5.out).1; omega))
                                      obtain ⟨ve557_0, rfl, ge557_0⟩ := hMe557
                                      have hv557_0 := hcc557 0 _ rfl
                                      rw [Nat.add_zero, show ((Kd.slice 4 Kd.bool)).sz = 1 from rfl, Nat.mul_one] at hv557_0
                                      replace hv557_0 := Option.some.inj (hv557_0.symm.trans hx557_0)
                                      rw [hv557_0] at ge557_0
                                      have HL557_0 := Aside0.mk (show Kd.R Kd.bool 4 _ _ _ _ (rd_L7 x5_1 x12_3) from ge557_0)
                                      clear hv557_0 ge557_0
                                      clear hcc557 hce557
                                      have HR557_0 := Aside0.mk hi557_0
                                      have HC557_0 := Aside0.mk hl557_0
                                      clear hi557_0 hl557_0
                                      replace p557 := eq_true p557
                                      replace q557 := eq_true q557
                                      have p558 : 0 ≤ (x11_2 : Int) := of_decide_eq_true (by first | (with_reducible assumption) | assumption)
                                      have q558 : x11_2 < ((rd_L7 x5_1 x12_3).length : Int) := of_decide_eq_true (by first | (with_reducible assumption) | assumption)
                                      obtain ⟨ad558, e558, hx558_0⟩ := Kd.at_bool (by repeat (first | (with_reducible exact HR557_0.out) | (with_reducible refine Kd.C_alloc ?_ _) | (with_reducible refine Kd.C_drewN ?_ _) | (with_reducible refine Kd.C_drew ?_) | exact HR557_0.out)) x11_2 p558 q558
                                      cases e558
                                      replace p558 := eq_true p558
                                      replace q558 := eq_true q558
                                      go_wp2
                                      repeat (go_quiet (fail); try go_wp2)
                                      go_roundg k3
                                      case measure => have := HK1.out; have := HK2.out; have := HK3.out; omega
                                      case rel => exact ⟨(x6_3), (wrap64 (x12_3 + 1)), (by first | rfl | (simp; done) | (simp [*]; done)), (by first | rfl | (simp; done) | (simp [*]; done)), H', ⟨by have := HK1.out; have := HK2.out; have := HK3.out; omega⟩, ⟨by (with_reducible repeat (first | apply Kd.S_alloc | apply Kd.S_drewN | apply Kd.S_drew)); exact HO_5.out⟩, ⟨by (with_reducible repeat (first | refine blk_drewN ?_ _ | refine blk_drew ?_ | refine blk_alloc ?_ _)); exact BK543.out⟩, ⟨by repeat (first | (with_reducible first | exact HB.out | apply below_alloc | apply pw_below_drewN | apply below_drew1 | refine below_set ?_ GE543.out) | exact HB.out)⟩⟩
                                · rw [if_neg c40] at H
                                  exact absurd H (by simp)
                              · rw [if_neg c39] at H
                                exact absurd H (by simp)
                            · rw [if_neg c38] at H
                              exact absurd H (by simp)
                          · rw [if_neg c37] at H
                            exact absurd H (by simp)
                        · rw [if_neg c36] at H
                          exact absurd H (by simp)
                      · rw [if_neg c35] at H
                        exact absurd H (by simp)
                    · rw [if_neg c34] at H
                      have c34b0 : decide (x12_3 < (l0_0.length : Int)) = false := decide_eq_false c34
                      clear c34
                      have H' := Aside0.mk H
                      clear H
                      go_wp2
                      repeat (go_quiet (fail); try go_wp2)
                      go_roundg k3
                      case measure => have := HK1.out; have := HK2.out; have := HK3.out; omega
                      case rel => exact ⟨(x6_3), (wrap64 (x11_2 + 1)), (by first | rfl | (simp; done) | (simp [*]; done)), (by first | rfl | (simp; done) | (simp [*]; done)), H', ⟨by have := HK1.out; have := HK2.out; have := HK3.out; omega⟩, ⟨by (with_reducible repeat (first | apply Kd.S_alloc | apply Kd.S_drewN | apply Kd.S_drew)); exact HO_5.out⟩, ⟨by (with_reducible repeat (first | refine blk_drewN ?_ _ | refine blk_drew ?_ | refine blk_alloc ?_ _)); exact BK543.out⟩, ⟨by repeat (first | (with_reducible first | exact HB.out | apply below_alloc | apply pw_below_drewN | apply below_drew1 | refine below_set ?_ GE543.out) | exact HB.out)⟩⟩
              · rw [if_neg c33] at H
                have c33b0 : decide (x11_2 < (l0_0.length : Int)) = false := decide_eq_false c33
                clear c33
                simp only [Option.some.injEq, Prod.mk.injEq] at H
                obtain ⟨rfl, rfl⟩ := H
                go_wp2
                repeat (go_quiet (fail); try go_wp2)
                go_ret2
                exact ⟨_, by first | rfl | (simp [errW_none, errW_some] <;> rfl) | (simp [*, errW_none, errW_some] <;> rfl), by (with_reducible repeat (first | apply Kd.S_alloc | apply Kd.S_drewN | apply Kd.S_drew)); exact HO_5.out, by repeat (first | (with_reducible first | exact HB.out | apply below_alloc | apply pw_below_drewN | apply below_drew1 | refine below_set ?_ GE543.out) | exact HB.out)⟩

end Go.Proofs.YtopjffgmpphdbaaDoor.Pr
