-- Printed by a program of this session's own (wip/tools/pp.py) over the kit's print.py; Lean checks it.
import Derived.Test.YtpmfdggbccbfaaaPr0
import Derived.Test.YtpmfdggbccbfaaaPr28
import Derived.Test.YtpmfdggbccbfaaaPr31
namespace Go.Proofs.Ytpmfdggbccbfaaa.Pr
open Go.RowKit Go.Proofs.YtpmfdggbccbfaaaW.PrintWords Go.Proofs.YtpmfdggbccbfaaaW.PrintLast Go.Proofs.YtpmfdggbccbfaaaW.PrintMore
attribute [local go_sem] max2_int min2_int max_two min_two max_three min_three max_four min_four   -- for this text's walks alone
set_option linter.unusedVariables false
set_option linter.unusedSimpArgs false

/-! ### arboristlaw13_PlaceRow: function 13 -/
mutual
def arboristlaw13_PlaceRow.l0 : Nat → Int → Bool → Bool → Int → List (List Int) → List Int → Option (Bool)
  | 0, _, _, _, _, _, _ => none
  | k + 1, x0, x1, x5, x7, x774000, x774001 => if x7 < x0 then (if x774000.length < 5864062014805 then ((some (x774000 ++ [(([x7] : List Int))] : List (List Int))).bind fun y777 => (if x1 = true then (if x7 = 0 then (if x774001.length < 17592186044416 then (arboristlaw13_PlaceRow.l0 k x0 x1 x5 (wrap64 (x7 + 1)) y777 (x774001 ++ [(-1)])) else (none)) else (if x774001.length < 17592186044416 then (arboristlaw13_PlaceRow.l0 k x0 x1 x5 (wrap64 (x7 + 1)) y777 (x774001 ++ [wrap64 (x7 - 1)])) else (none))) else (if x7 = 0 then (if x774001.length < 17592186044416 then (arboristlaw13_PlaceRow.l0 k x0 x1 x5 (wrap64 (x7 + 1)) y777 (x774001 ++ [(-1)])) else (none)) else (if x774001.length < 17592186044416 then (arboristlaw13_PlaceRow.l0 k x0 x1 x5 (wrap64 (x7 + 1)) y777 (x774001 ++ [0])) else (none))))) else (none)) else ((place_After.f k x774000 x774001).bind fun t792 => (if (t792.length : Int) = x0 then (arboristlaw13_PlaceRow.l1 k x0 x1 x5 t792 0) else (some false)))
def arboristlaw13_PlaceRow.l1 : Nat → Int → Bool → Bool → List Int → Int → Option (Bool)
  | 0, _, _, _, _, _ => none
  | k + 1, x0, x1, x5, x9, x10 => if x10 < x0 then (if x1 = true then (if 0 ≤ x10 then (if x10 < (x9.length : Int) then (if (rd x9 x10) = (wrap64 ((wrap64 (x0 - 1)) - x10)) then (arboristlaw13_PlaceRow.l1 k x0 x1 x5 x9 (wrap64 (x10 + 1))) else (some false)) else (none)) else (none)) else (if x0 = 0 then (none) else (if 0 ≤ x10 then (if x10 < (x9.length : Int) then (if (rd x9 x10) = (Int.tmod (wrap64 (x10 + 1)) x0) then (arboristlaw13_PlaceRow.l1 k x0 x1 x5 x9 (wrap64 (x10 + 1))) else (some false)) else (none)) else (none)))) else (some x5)
end
def arboristlaw13_PlaceRow.f (k : Nat) (a0 : Int) (a1 : Bool) : Option (Bool) := (arboristlaw13_shown.f k).bind fun t772 => (arboristlaw13_PlaceRow.l0 k (wrap64 (1 + (Int.tmod (Go.bits .and .i64 a0 65535) 20))) a1 t772 0 ([] : List (List Int)) ([] : List Int))
theorem arboristlaw13_PlaceRow.mono_l : ∀ k, (∀ y0 y1 y2 y3 y4 y5, LeO (arboristlaw13_PlaceRow.l0 k y0 y1 y2 y3 y4 y5) (arboristlaw13_PlaceRow.l0 (k + 1) y0 y1 y2 y3 y4 y5)) ∧ (∀ y0 y1 y2 y3 y4, LeO (arboristlaw13_PlaceRow.l1 k y0 y1 y2 y3 y4) (arboristlaw13_PlaceRow.l1 (k + 1) y0 y1 y2 y3 y4))
  | 0 => ⟨fun _ _ _ _ _ _ r h => by simp [arboristlaw13_PlaceRow.l0] at h, fun _ _ _ _ _ r h => by simp [arboristlaw13_PlaceRow.l1] at h⟩
  | k + 1 => by
    obtain ⟨ih0, ih1⟩ := arboristlaw13_PlaceRow.mono_l k
    refine ⟨?_, ?_⟩
    all_goals intros
    all_goals (first | unfold arboristlaw13_PlaceRow.l0 | unfold arboristlaw13_PlaceRow.l1)
    all_goals repeat' first
    | (with_reducible exact ih0 _ _ _ _ _ _)
    | (with_reducible exact ih1 _ _ _ _ _)
    | (with_reducible exact arboristlaw13_shown.mono _)
    | (with_reducible exact place_After.mono _ _ _)
    | (with_reducible exact LeO.refl _)
    | (with_reducible exact LeO.none _)
    | (with_reducible refine LeO.ite ?_ ?_)
    | (with_reducible refine LeO.bind ?_ (fun _ => ?_))
    | exact ih0 _ _ _ _ _ _
    | exact ih1 _ _ _ _ _
    | exact arboristlaw13_shown.mono _
    | exact place_After.mono _ _ _
    | exact LeO.none _
    | refine LeO.ite ?_ ?_
    | refine LeO.bind ?_ (fun _ => ?_)
theorem arboristlaw13_PlaceRow.mono : ∀ a0 a1 k, LeO (arboristlaw13_PlaceRow.f k a0 a1) (arboristlaw13_PlaceRow.f (k + 1) a0 a1) := by
  intro a0 a1 k
  obtain ⟨ih0, ih1⟩ := arboristlaw13_PlaceRow.mono_l k
  unfold arboristlaw13_PlaceRow.f
  repeat' first
      | (with_reducible exact ih0 _ _ _ _ _ _)
      | (with_reducible exact ih1 _ _ _ _ _)
      | (with_reducible exact arboristlaw13_shown.mono _)
      | (with_reducible exact place_After.mono _ _ _)
      | (with_reducible exact LeO.refl _)
      | (with_reducible exact LeO.none _)
      | (with_reducible refine LeO.ite ?_ ?_)
      | (with_reducible refine LeO.bind ?_ (fun _ => ?_))
      | exact ih0 _ _ _ _ _ _
      | exact ih1 _ _ _ _ _
      | exact arboristlaw13_shown.mono _
      | exact place_After.mono _ _ _
      | exact LeO.none _
      | refine LeO.ite ?_ ?_
      | refine LeO.bind ?_ (fun _ => ?_)
set_option maxHeartbeats 8000000 in
set_option maxRecDepth 100000 in
theorem arboristlaw13_PlaceRow.calls (k : Nat) (a0 : Int) (a1 : Bool) (r : Bool) (w : World) (hT : r = true) (h : arboristlaw13_PlaceRow.f k a0 a1 = some r) :
    Calls Try.prog 13 #[.int .i64 a0, .bool a1] w fun e w' => e = .returned (.bool r) ∧ Below w.heap.size w w' := by
  have HT_ := Aside0.mk (show r = true from hT)
  clear hT
  have hu25 := Try.underlying25
  have HB := Aside0.mk (Below.refl w.heap.size w)
  have H : ((arboristlaw13_shown.f k).bind fun t772 => (arboristlaw13_PlaceRow.l0 k (wrap64 (1 + (Int.tmod (Go.bits .and .i64 a0 65535) 20))) a1 t772 0 ([] : List (List Int)) ([] : List Int))) = some r := h
  clear h
  replace H := Option.bind_eq_some_iff.mp H
  obtain ⟨t772, A30, H⟩ := H
  replace H : (arboristlaw13_PlaceRow.l0 k (wrap64 (1 + (Int.tmod (Go.bits .and .i64 a0 65535) 20))) a1 t772 0 ([] : List (List Int)) ([] : List Int)) = some r := H
  have A3 := Aside0.mk A30
  clear A30
  have H' := Aside0.mk H
  clear H
  go_enter Try.func13, Try.ntmps13
  go_wp2_with (first | ((with_reducible refine gate_callee (f := 26) rfl ?_); refine goesL_ (some 12) rfl rfl Try.func26 (by kernel_rfl) rfl #[] rfl (by (try simp only [List.map_toArray, List.map_cons, List.map_nil]); first | done | rfl | (simp only [List.length_drop, List.length_take]; rfl)) ?_; (with_reducible refine (arboristlaw13_shown.calls k  t772 _ A3.out).mono ?_); rintro e w4 ⟨rfl, hb⟩; refine ⟨_, rfl, ?_⟩; have n0_ := Aside0.mk (below_step (by repeat (first | (with_reducible first | exact HB.out | apply below_alloc | apply pw_below_drewN | apply below_drew1) | exact HB.out)) hb); clear HB; have HB := n0_; clear n0_; (try clear hb); (try clear hb2); (try clear hk); (try clear hi)) | ((with_reducible refine gate_dst (N := 6) rfl ?_); refine box_event ?hg (N := 6) ?hd (cs := #[.slice none 0 0, .slice none 0 0]) (t := 25) ?hr ?_; (case hd => rfl); (case hg => rfl); (case hr => first | (go_simp; done) | (go_simp; rfl)); intro gb773 hg w5 hbox hb; have n0_ := Aside0.mk (below_step (by repeat (first | (with_reducible first | exact HB.out | apply below_alloc | apply pw_below_drewN | apply below_drew1) | exact HB.out)) hb); have n1_ := Aside0.mk (hbox); have n2_ := Aside0.mk ((by rw [hg]; exact (below_size (by repeat (first | (with_reducible first | exact HB.out | apply below_alloc | apply pw_below_drewN | apply below_drew1) | exact HB.out))) : w.heap.size ≤ gb773)); have n3_ := Aside0.mk ((by rw [hg]; exact (below_size (by repeat (first | (with_reducible first | exact HB.out | apply below_alloc | apply pw_below_drewN | apply below_drew1) | exact HB.out))) : w.heap.size ≤ gb773)); clear HB; have HB := n0_; have BK773 := n1_; have GW773 := n2_; have GE773 := n3_; clear n0_ n1_ n2_ n3_; clear hb hbox hg; have hcz6_0 : w5.cell? ⟨gb773, 0, none⟩ = some (.slice none 0 0) := (blk_cell BK773.out 0).trans rfl; have hcz6_1 : w5.cell? ⟨gb773, 1, none⟩ = some (.slice none 0 0) := (blk_cell BK773.out 1).trans rfl; have hfz6_0 := blk_frozen BK773.out 0; have hfz6_1 := blk_frozen BK773.out 1))
  go_loopg [7] k (fun kq v7 w' => ∃ (x7_1 : Int) (x774000_1 : List (List Int)) (x774001_1 : List Int) (u774000 : Value) (u774001 : Value), v7 = .int .i64 x7_1 ∧ Aside0 (arboristlaw13_PlaceRow.l0 kq (wrap64 (1 + (Int.tmod (Go.bits .and .i64 a0 65535) 20))) a1 t772 x7_1 x774000_1 x774001_1 = some r) ∧ Aside0 (kq ≤ k) ∧ Aside0 (Kd.S (Kd.slice 3 (Kd.int .i64)) 23 w' w.heap.size (fun k_ => some k_ ≠ (u774001 : Value).ownBlock) u774000 x774000_1) ∧ Aside0 (Kd.R (Kd.int .i64) 3 w' w.heap.size (fun _ => True) u774001 x774001_1) ∧ Aside0 (w'.heap[gb773]? = some (.cells #[u774000, u774001] 25 (0, 0))) ∧ Aside0 (Below w.heap.size w w'))
  case atStart => exact ⟨(0), (([] : List (List Int))), (([] : List Int)), (.slice none 0 0), (.slice none 0 0), (by first | rfl | (simp; done) | (simp [*]; done)), H', ⟨Nat.le_refl _⟩, ⟨by first | exact Kd.S_nil _ _ _ _ _ | exact Kd.N_nil _ _ _ _ _ | exact Kd.V_nil _ _ _ _ _ | exact Kd.Q_nil _ _ _ _ _ | exact Kd.R_nil _ _ _ _ _⟩, ⟨by first | exact Kd.R_nil _ _ _ _ _ | exact Kd.N_nil _ _ _ _ _ | exact Kd.V_nil _ _ _ _ _ | exact Kd.Q_nil _ _ _ _ _ | exact Kd.S_nil _ _ _ _ _⟩, ⟨by (with_reducible repeat (first | refine blk_drewN ?_ _ | refine blk_drew ?_ | refine blk_alloc ?_ _)); refine blk_put (cs := #[.slice none 0 0, .slice none 0 0]) ?_ 1 _ rfl; (with_reducible repeat (first | refine blk_drewN ?_ _ | refine blk_drew ?_ | refine blk_alloc ?_ _)); refine blk_put (cs := #[.slice none 0 0, .slice none 0 0]) ?_ 0 _ rfl; (with_reducible repeat (first | refine blk_drewN ?_ _ | refine blk_drew ?_ | refine blk_alloc ?_ _)); exact BK773.out⟩, ⟨by repeat (first | (with_reducible first | exact HB.out | apply below_alloc | apply pw_below_drewN | apply below_drew1 | refine below_set ?_ GE773.out) | exact HB.out)⟩⟩
  case round =>
    clear H'
    try clear c1
    try clear c2
    try clear p2
    try clear p6
    try clear hcz6_0
    try clear hcz6_1
    try clear hfz6_0
    try clear hfz6_1
    obtain ⟨x7_1, x774000_1, x774001_1, u774000, u774001, rfl, HA, HK1, HO_774000, HO_774001, BK773, HB⟩ := hrel
    cases gk with
    | zero => exact absurd HA.out (by simp [arboristlaw13_PlaceRow.l0])
    | succ k1 =>
      have H := HA.out
      clear HA
      simp only [arboristlaw13_PlaceRow.l0] at H
      by_cases c7 : x7_1 < (wrap64 (1 + (Int.tmod (Go.bits .and .i64 a0 65535) 20)))
      · rw [if_pos c7] at H
        have c7b0 : decide (x7_1 < (wrap64 (1 + (Int.tmod (Go.bits .and .i64 a0 65535) 20)))) = true := decide_eq_true c7
        clear c7
        obtain ⟨y774, hy774⟩ : ∃ y_ : List Int, y_ = (([x7_1] : List Int)) := ⟨_, rfl⟩
        replace H : (if x774000_1.length < 5864062014805 then ((some (x774000_1 ++ [y774] : List (List Int))).bind fun y777 => (if a1 = true then (if x7_1 = 0 then (if x774001_1.length < 17592186044416 then (arboristlaw13_PlaceRow.l0 k1 (wrap64 (1 + (Int.tmod (Go.bits .and .i64 a0 65535) 20))) a1 t772 (wrap64 (x7_1 + 1)) y777 (x774001_1 ++ [(-1)])) else (none)) else (if x774001_1.length < 17592186044416 then (arboristlaw13_PlaceRow.l0 k1 (wrap64 (1 + (Int.tmod (Go.bits .and .i64 a0 65535) 20))) a1 t772 (wrap64 (x7_1 + 1)) y777 (x774001_1 ++ [wrap64 (x7_1 - 1)])) else (none))) else (if x7_1 = 0 then (if x774001_1.length < 17592186044416 then (arboristlaw13_PlaceRow.l0 k1 (wrap64 (1 + (Int.tmod (Go.bits .and .i64 a0 65535) 20))) a1 t772 (wrap64 (x7_1 + 1)) y777 (x774001_1 ++ [(-1)])) else (none)) else (if x774001_1.length < 17592186044416 then (arboristlaw13_PlaceRow.l0 k1 (wrap64 (1 + (Int.tmod (Go.bits .and .i64 a0 65535) 20))) a1 t772 (wrap64 (x7_1 + 1)) y777 (x774001_1 ++ [0])) else (none))))) else (none)) = some r := by first | (rw [hy774]; with_reducible exact H) | (have H2_ := (Option.bind_some _ _).symm.trans H; rw [hy774]; with_reducible exact H2_) | (have H2_ := (Option.bind_some _ _).symm.trans H; with_reducible exact H2_) | with_reducible exact H | (rw [hy774]; exact H) | exact H
        have Ny774 := Aside0.mk hy774
        clear hy774
        by_cases c8 : x774000_1.length < 5864062014805
        · rw [if_pos c8] at H
          have LMc8 := Aside0.mk c8
          clear c8
          obtain ⟨y777, hy777⟩ : ∃ y_ : List (List Int), y_ = (x774000_1 ++ [y774]) := ⟨_, rfl⟩
          replace H : (if a1 = true then (if x7_1 = 0 then (if x774001_1.length < 17592186044416 then (arboristlaw13_PlaceRow.l0 k1 (wrap64 (1 + (Int.tmod (Go.bits .and .i64 a0 65535) 20))) a1 t772 (wrap64 (x7_1 + 1)) y777 (x774001_1 ++ [(-1)])) else (none)) else (if x774001_1.length < 17592186044416 then (arboristlaw13_PlaceRow.l0 k1 (wrap64 (1 + (Int.tmod (Go.bits .and .i64 a0 65535) 20))) a1 t772 (wrap64 (x7_1 + 1)) y777 (x774001_1 ++ [wrap64 (x7_1 - 1)])) else (none))) else (if x7_1 = 0 then (if x774001_1.length < 17592186044416 then (arboristlaw13_PlaceRow.l0 k1 (wrap64 (1 + (Int.tmod (Go.bits .and .i64 a0 65535) 20))) a1 t772 (wrap64 (x7_1 + 1)) y777 (x774001_1 ++ [(-1)])) else (none)) else (if x774001_1.length < 17592186044416 then (arboristlaw13_PlaceRow.l0 k1 (wrap64 (1 + (Int.tmod (Go.bits .and .i64 a0 65535) 20))) a1 t772 (wrap64 (x7_1 + 1)) y777 (x774001_1 ++ [0])) else (none)))) = some r := by first | (rw [hy777]; with_reducible exact H) | (have H2_ := (Option.bind_some _ _).symm.trans H; rw [hy777]; with_reducible exact H2_) | (have H2_ := (Option.bind_some _ _).symm.trans H; with_reducible exact H2_) | with_reducible exact H | (rw [hy777]; exact H) | exact H
          have Ny777 := Aside0.mk hy777
          clear hy777
          by_cases c9 : a1 = true
          · subst c9
            have H1 : (if x7_1 = 0 then (if x774001_1.length < 17592186044416 then (arboristlaw13_PlaceRow.l0 k1 (wrap64 (1 + (Int.tmod (Go.bits .and .i64 a0 65535) 20))) true t772 (wrap64 (x7_1 + 1)) y777 (x774001_1 ++ [(-1)])) else (none)) else (if x774001_1.length < 17592186044416 then (arboristlaw13_PlaceRow.l0 k1 (wrap64 (1 + (Int.tmod (Go.bits .and .i64 a0 65535) 20))) true t772 (wrap64 (x7_1 + 1)) y777 (x774001_1 ++ [wrap64 (x7_1 - 1)])) else (none))) = some r := by rw [if_pos rfl] at H; exact H
            clear H
            have H := H1
            clear H1
            by_cases c10 : x7_1 = 0
            · rw [if_pos c10] at H
              have c10b0 : (x7_1 == 0) = true := beq_iff_eq.mpr c10
              have c10b1 : (x7_1 != 0) = false := bne_eq_false_iff_eq.mpr c10
              clear c10
              by_cases c11 : x774001_1.length < 17592186044416
              · rw [if_pos c11] at H
                have LMc11 := Aside0.mk c11
                clear c11
                obtain ⟨y780, hy780⟩ : ∃ y_ : List Int, y_ = (x774001_1 ++ [(-1)]) := ⟨_, rfl⟩
                replace H : (arboristlaw13_PlaceRow.l0 k1 (wrap64 (1 + (Int.tmod (Go.bits .and .i64 a0 65535) 20))) true t772 (wrap64 (x7_1 + 1)) y777 y780) = some r := by first | (rw [hy780]; with_reducible exact H) | (have H2_ := (Option.bind_some _ _).symm.trans H; rw [hy780]; with_reducible exact H2_) | (have H2_ := (Option.bind_some _ _).symm.trans H; with_reducible exact H2_) | with_reducible exact H | (rw [hy780]; exact H) | exact H
                have Ny780 := Aside0.mk hy780
                clear hy780
                have H' := Aside0.mk H
                clear H
                have hcz12_0 : wr.cell? ⟨gb773, 0, none⟩ = some (u774000) := (blk_cell BK773.out 0).trans rfl
                have hcz12_1 : wr.cell? ⟨gb773, 1, none⟩ = some (u774001) := (blk_cell BK773.out 1).trans rfl
                have hfz12_0 := blk_frozen BK773.out 0
                have hfz12_1 := blk_frozen BK773.out 1
                go_wp2_with (first | ((with_reducible refine gate_dst (N := 26) rfl ?_); refine Kd.R_lit (Kd.int .i64) _ 3 ?hg (N := 26) ?hd (xs := ([x7_1] : List Int)) (inner := [.int .i64 x7_1]) (ok := fun _ => True) (okp := fun _ => True) ?hr ?hp (fun _ hk => hk) trivial (Below.refl _ _) (Nat.le_refl _) (by simp) ?_; (case hd => rfl); (case hg => rfl); (case hr => first | (go_simp; done) | (go_simp; rfl)); (case hp => exact (Reps.one (show Kd.M (Kd.int .i64) _ _ _ x7_1 [.int .i64 x7_1] from rfl) (Reps.none _ _))); intro v775 w13 ho14 hb hg_ hnew_; clear hg_ hnew_; (first | rw [← Ny774.out] at ho14 | (simp only [Int.reduceToNat] at ho14; rw [← Ny774.out] at ho14)); have n0_ := Aside0.mk (Kd.S_elder' (by (with_reducible repeat (first | apply Kd.S_alloc | apply Kd.S_drewN | apply Kd.S_drew)); exact HO_774000.out) (Kd.R_base ho14) hb); have n1_ := Aside0.mk (Kd.R_elder' (by (with_reducible repeat (first | apply Kd.R_alloc | apply Kd.R_drewN | apply Kd.R_drew)); exact HO_774001.out) (Kd.R_base ho14) hb); have n2_ := Aside0.mk (Kd.R_lower (Kd.R_new' ho14 (Kd.R_lt (by (with_reducible repeat (first | apply Kd.R_alloc | apply Kd.R_drewN | apply Kd.R_drew)); exact HO_774001.out))) (below_size (by repeat (first | (with_reducible first | exact HB.out | apply below_alloc | apply pw_below_drewN | apply below_drew1 | refine below_set ?_ GE773.out) | exact HB.out)))); have n3_ := Aside0.mk (blk_below (g := gb773) (o := .cells #[u774000, u774001] 25 (0, 0)) (by (with_reducible repeat (first | refine blk_drewN ?_ _ | refine blk_drew ?_ | refine blk_alloc ?_ _)); exact BK773.out) hb); have n4_ := Aside0.mk (below_step (by repeat (first | (with_reducible first | exact HB.out | apply below_alloc | apply pw_below_drewN | apply below_drew1 | refine below_set ?_ GE773.out) | exact HB.out)) hb); clear HO_774000; clear HO_774001; clear BK773; clear HB; have HO_774000 := n0_; have HO_774001 := n1_; have HO776 := n2_; have BK773 := n3_; have HB := n4_; clear n0_ n1_ n2_ n3_ n4_; clear hb ho14; obtain ⟨Ao16, co16, eo16⟩ := Kd.R_slice HO776.out; subst eo16) | ((with_reducible refine gate_builtin (b := .append) (xs := #[.tmp 24, .tmp 27]) rfl ?_); at_builtin; refine Kd.S_append (Kd.slice 3 (Kd.int .i64)) (w0 := w) w.heap.size rfl (.tmp 24) (.tmp 27) 22 23 (.slice none 0 0) 24 rfl Try.underlying22 info23 rfl (by decide) (by omega) u774000 x774000_1 y774 [.slice Ao16 y774.length co16] (fun k_ => some k_ ≠ (u774001 : Value).ownBlock) (fun k_ => some k_ = (.slice Ao16 y774.length co16 : Value).ownBlock) rfl rfl ?aP (fun k_ hk_ => ((Kd.R_mono (ok' := fun k_ => ((fun k_ => some k_ ≠ (u774001 : Value).ownBlock)) k_ ∧ some k_ ≠ (u774000 : Value).ownBlock) (Kd.R_apart' (HO776.out) (Kd.S_typed HO_774000.out) (by decide)) (fun k_ hk => ⟨hk.1.2, hk.2⟩))).1 k_ hk_.symm) ?aF ?aO ?aB ?aS ?aL ?_; (case aP => exact Kd.M_row (Kd.R_mono (Kd.R_tight rfl (Kd.R_mono (ok' := fun k_ => ((fun k_ => some k_ ≠ (u774001 : Value).ownBlock)) k_ ∧ some k_ ≠ (u774000 : Value).ownBlock) (Kd.R_apart' (HO776.out) (Kd.S_typed HO_774000.out) (by decide)) (fun k_ hk => ⟨hk.1.2, hk.2⟩))) (fun _ h_ => h_))); (case aB => exact (by repeat (first | (with_reducible first | exact HB.out | apply below_alloc | apply pw_below_drewN | apply below_drew1 | refine below_set ?_ GE773.out) | exact HB.out))); (case aF => exact (fun k_ hk => Kd.fresh' (Kd.R_lt (by (with_reducible repeat (first | apply Kd.R_alloc | apply Kd.R_drewN | apply Kd.R_drew)); exact HO_774001.out)) k_ hk)); (case aO => exact (by (with_reducible repeat (first | apply Kd.S_alloc | apply Kd.S_drewN | apply Kd.S_drew)); exact Kd.S_mono HO_774000.out (fun k_ hk => ⟨hk.1, fun e_ => hk.2 e_⟩))); (case aS => exact (below_size (by repeat (first | (with_reducible first | exact HB.out | apply below_alloc | apply pw_below_drewN | apply below_drew1 | refine below_set ?_ GE773.out) | exact HB.out)))); (case aL => have := LMc8.out; omega); intro v778 w15 ho hb hg hat; rw [← Ny777.out] at ho; have n0_ := Aside0.mk (Kd.R_over' (by (with_reducible repeat (first | apply Kd.R_alloc | apply Kd.R_drewN | apply Kd.R_drew)); exact HO_774001.out) (Kd.S_typed (by (with_reducible repeat (first | apply Kd.S_alloc | apply Kd.S_drewN | apply Kd.S_drew)); exact HO_774000.out)) (by decide) hg); have n1_ := Aside0.mk (blk_grown (g := gb773) (o := .cells #[u774000, u774001] 25 (0, 0)) (by (with_reducible repeat (first | refine blk_drewN ?_ _ | refine blk_drew ?_ | refine blk_alloc ?_ _)); exact BK773.out) hg (Kd.S_ne HO_774000.out BK773.out (by decide))); have n2_ := Aside0.mk (hb); have n3_ := Aside0.mk (ho); clear HO_774001; clear BK773; clear HB; clear HO_774000; clear HO776; have HO_774001 := n0_; have BK773 := n1_; have HB := n2_; have HO779 := n3_; clear n0_ n1_ n2_ n3_; clear ho hb hg hat; obtain ⟨Ao17, co17, eo17⟩ := Kd.S_slice HO779.out; subst eo17; have hcz18_0 : w15.cell? ⟨gb773, 0, none⟩ = some (u774000) := (blk_cell BK773.out 0).trans rfl; have hcz18_1 : w15.cell? ⟨gb773, 1, none⟩ = some (u774001) := (blk_cell BK773.out 1).trans rfl; have hfz18_0 := blk_frozen BK773.out 0; have hfz18_1 := blk_frozen BK773.out 1) | ((with_reducible refine gate_builtin (b := .append) (xs := #[.tmp 36, .tmp 38]) rfl ?_); at_builtin; refine Kd.R_append (Kd.int .i64) (w0 := w) w.heap.size rfl (.tmp 36) (.tmp 38) 23 3 (.int .i64 0) 8 rfl Try.underlying23 info3 rfl (by decide) (by omega) u774001 x774001_1 (-1) [.int .i64 (-1)] (fun _ => True) (fun _ => False) rfl (by first | (go_simp; done) | (go_simp; rfl)) ?aP (fun _ hk => hk.elim) ?aF ?aO ?aB ?aS ?aL ?_; (case aP => exact rfl); (case aB => exact (by repeat (first | (with_reducible first | exact HB.out | apply below_alloc | apply pw_below_drewN | apply below_drew1 | refine below_set ?_ GE773.out) | exact HB.out))); (case aF => exact (fun _ _ => trivial)); (case aO => exact (by (with_reducible repeat (first | apply Kd.R_alloc | apply Kd.R_drewN | apply Kd.R_drew)); exact Kd.R_mono (Kd.R_far (p := ⟨gb773, 0, none⟩) (Kd.R_types HO_774001.out BK773.out (by decide)) (fun _ hk => hk.2) (.slice Ao17 y777.length co17)) (fun _ hk => trivial))); (case aS => exact (below_size (by repeat (first | (with_reducible first | exact HB.out | apply below_alloc | apply pw_below_drewN | apply below_drew1 | refine below_set ?_ GE773.out) | exact HB.out)))); (case aL => have := LMc11.out; omega); intro v781 w19 ho hb hg hat; rw [← Ny780.out] at ho; have n0_ := Aside0.mk (blk_grown (g := gb773) (o := .cells #[.slice Ao17 y777.length co17, u774001] 25 (0, 0)) (by (with_reducible repeat (first | refine blk_drewN ?_ _ | refine blk_drew ?_ | refine blk_alloc ?_ _)); refine blk_put (cs := #[u774000, u774001]) ?_ 0 _ rfl; (with_reducible repeat (first | refine blk_drewN ?_ _ | refine blk_drew ?_ | refine blk_alloc ?_ _)); exact BK773.out) hg (Kd.R_ne HO_774001.out BK773.out (by decide))); have n1_ := Aside0.mk (Kd.S_after (ok := (fun _ => True)) (by (with_reducible repeat (first | apply Kd.S_alloc | apply Kd.S_drewN | apply Kd.S_drew)); exact Kd.S_mono (Kd.S_far (p := ⟨gb773, 0, none⟩) (Kd.S_types HO779.out BK773.out (by decide)) (fun _ hk => hk.2) (.slice Ao17 y777.length co17)) (fun _ hk => ⟨trivial, hk.1⟩)) hg hat); have n2_ := Aside0.mk (hb); have n3_ := Aside0.mk (ho); clear BK773; clear HO779; clear HB; clear HO_774001; have BK773 := n0_; have HO779 := n1_; have HB := n2_; have HO782 := n3_; clear n0_ n1_ n2_ n3_; clear ho hb hg hat; obtain ⟨Ao20, co20, eo20⟩ := Kd.R_slice HO782.out; subst eo20; have hcz21_0 : w19.cell? ⟨gb773, 0, none⟩ = some (.slice Ao17 y777.length co17) := (blk_cell BK773.out 0).trans rfl; have hcz21_1 : w19.cell? ⟨gb773, 1, none⟩ = some (u774001) := (blk_cell BK773.out 1).trans rfl; have hfz21_0 := blk_frozen BK773.out 0; have hfz21_1 := blk_frozen BK773.out 1))
                go_roundg k1
                case measure => have := HK1.out; omega
                case rel => exact ⟨(wrap64 (x7_1 + 1)), (y777), (y780), (.slice Ao17 y777.length co17), (.slice Ao20 y780.length co20), (by first | rfl | (simp; done) | (simp [*]; done)), H', ⟨by have := HK1.out; omega⟩, ⟨by (with_reducible repeat (first | apply Kd.S_alloc | apply Kd.S_drewN | apply Kd.S_drew)); exact Kd.S_mono (Kd.S_far (p := ⟨gb773, 1, none⟩) (Kd.S_types HO779.out BK773.out (by decide)) (fun _ hk => hk.2) (.slice Ao20 y780.length co20)) (fun _ hk => hk.1.2)⟩, ⟨by (with_reducible repeat (first | apply Kd.R_alloc | apply Kd.R_drewN | apply Kd.R_drew)); exact Kd.R_mono (Kd.R_far (p := ⟨gb773, 1, none⟩) (Kd.R_types HO782.out BK773.out (by decide)) (fun _ hk => hk.2) (.slice Ao20 y780.length co20)) (fun _ hk => trivial)⟩, ⟨by (with_reducible repeat (first | refine blk_drewN ?_ _ | refine blk_drew ?_ | refine blk_alloc ?_ _)); refine blk_put (cs := #[.slice Ao17 y777.length co17, u774001]) ?_ 1 _ rfl; (with_reducible repeat (first | refine blk_drewN ?_ _ | refine blk_drew ?_ | refine blk_alloc ?_ _)); exact BK773.out⟩, ⟨by repeat (first | (with_reducible first | exact HB.out | apply below_alloc | apply pw_below_drewN | apply below_drew1 | refine below_set ?_ GE773.out) | exact HB.out)⟩⟩
              · rw [if_neg c11] at H
                exact absurd H (by simp)
            · rw [if_neg c10] at H
              have c10b0 : (x7_1 == 0) = false := beq_eq_false_iff_ne.mpr c10
              have c10b1 : (x7_1 != 0) = true := bne_iff_ne.mpr c10
              by_cases c22 : x774001_1.length < 17592186044416
              · rw [if_pos c22] at H
                have LMc22 := Aside0.mk c22
                clear c22
                obtain ⟨y783, hy783⟩ : ∃ y_ : List Int, y_ = (x774001_1 ++ [wrap64 (x7_1 - 1)]) := ⟨_, rfl⟩
                replace H : (arboristlaw13_PlaceRow.l0 k1 (wrap64 (1 + (Int.tmod (Go.bits .and .i64 a0 65535) 20))) true t772 (wrap64 (x7_1 + 1)) y777 y783) = some r := by first | (rw [hy783]; with_reducible exact H) | (have H2_ := (Option.bind_some _ _).symm.trans H; rw [hy783]; with_reducible exact H2_) | (have H2_ := (Option.bind_some _ _).symm.trans H; with_reducible exact H2_) | with_reducible exact H | (rw [hy783]; exact H) | exact H
                have Ny783 := Aside0.mk hy783
                clear hy783
                have H' := Aside0.mk H
                clear H
                have hcz23_0 : wr.cell? ⟨gb773, 0, none⟩ = some (u774000) := (blk_cell BK773.out 0).trans rfl
                have hcz23_1 : wr.cell? ⟨gb773, 1, none⟩ = some (u774001) := (blk_cell BK773.out 1).trans rfl
                have hfz23_0 := blk_frozen BK773.out 0
                have hfz23_1 := blk_frozen BK773.out 1
                go_wp2_with (first | ((with_reducible refine gate_dst (N := 26) rfl ?_); refine Kd.R_lit (Kd.int .i64) _ 3 ?hg (N := 26) ?hd (xs := ([x7_1] : List Int)) (inner := [.int .i64 x7_1]) (ok := fun _ => True) (okp := fun _ => True) ?hr ?hp (fun _ hk => hk) trivial (Below.refl _ _) (Nat.le_refl _) (by simp) ?_; (case hd => rfl); (case hg => rfl); (case hr => first | (go_simp; done) | (go_simp; rfl)); (case hp => exact (Reps.one (show Kd.M (Kd.int .i64) _ _ _ x7_1 [.int .i64 x7_1] from rfl) (Reps.none _ _))); intro v775 w24 ho25 hb hg_ hnew_; clear hg_ hnew_; (first | rw [← Ny774.out] at ho25 | (simp only [Int.reduceToNat] at ho25; rw [← Ny774.out] at ho25)); have n0_ := Aside0.mk (Kd.S_elder' (by (with_reducible repeat (first | apply Kd.S_alloc | apply Kd.S_drewN | apply Kd.S_drew)); exact HO_774000.out) (Kd.R_base ho25) hb); have n1_ := Aside0.mk (Kd.R_elder' (by (with_reducible repeat (first | apply Kd.R_alloc | apply Kd.R_drewN | apply Kd.R_drew)); exact HO_774001.out) (Kd.R_base ho25) hb); have n2_ := Aside0.mk (Kd.R_lower (Kd.R_new' ho25 (Kd.R_lt (by (with_reducible repeat (first | apply Kd.R_alloc | apply Kd.R_drewN | apply Kd.R_drew)); exact HO_774001.out))) (below_size (by repeat (first | (with_reducible first | exact HB.out | apply below_alloc | apply pw_below_drewN | apply below_drew1 | refine below_set ?_ GE773.out) | exact HB.out)))); have n3_ := Aside0.mk (blk_below (g := gb773) (o := .cells #[u774000, u774001] 25 (0, 0)) (by (with_reducible repeat (first | refine blk_drewN ?_ _ | refine blk_drew ?_ | refine blk_alloc ?_ _)); exact BK773.out) hb); have n4_ := Aside0.mk (below_step (by repeat (first | (with_reducible first | exact HB.out | apply below_alloc | apply pw_below_drewN | apply below_drew1 | refine below_set ?_ GE773.out) | exact HB.out)) hb); clear HO_774000; clear HO_774001; clear BK773; clear HB; have HO_774000 := n0_; have HO_774001 := n1_; have HO776 := n2_; have BK773 := n3_; have HB := n4_; clear n0_ n1_ n2_ n3_ n4_; clear hb ho25; obtain ⟨Ao27, co27, eo27⟩ := Kd.R_slice HO776.out; subst eo27) | ((with_reducible refine gate_builtin (b := .append) (xs := #[.tmp 24, .tmp 27]) rfl ?_); at_builtin; refine Kd.S_append (Kd.slice 3 (Kd.int .i64)) (w0 := w) w.heap.size rfl (.tmp 24) (.tmp 27) 22 23 (.slice none 0 0) 24 rfl Try.underlying22 info23 rfl (by decide) (by omega) u774000 x774000_1 y774 [.slice Ao27 y774.length co27] (fun k_ => some k_ ≠ (u774001 : Value).ownBlock) (fun k_ => some k_ = (.slice Ao27 y774.length co27 : Value).ownBlock) rfl rfl ?aP (fun k_ hk_ => ((Kd.R_mono (ok' := fun k_ => ((fun k_ => some k_ ≠ (u774001 : Value).ownBlock)) k_ ∧ some k_ ≠ (u774000 : Value).ownBlock) (Kd.R_apart' (HO776.out) (Kd.S_typed HO_774000.out) (by decide)) (fun k_ hk => ⟨hk.1.2, hk.2⟩))).1 k_ hk_.symm) ?aF ?aO ?aB ?aS ?aL ?_; (case aP => exact Kd.M_row (Kd.R_mono (Kd.R_tight rfl (Kd.R_mono (ok' := fun k_ => ((fun k_ => some k_ ≠ (u774001 : Value).ownBlock)) k_ ∧ some k_ ≠ (u774000 : Value).ownBlock) (Kd.R_apart' (HO776.out) (Kd.S_typed HO_774000.out) (by decide)) (fun k_ hk => ⟨hk.1.2, hk.2⟩))) (fun _ h_ => h_))); (case aB => exact (by repeat (first | (with_reducible first | exact HB.out | apply below_alloc | apply pw_below_drewN | apply below_drew1 | refine below_set ?_ GE773.out) | exact HB.out))); (case aF => exact (fun k_ hk => Kd.fresh' (Kd.R_lt (by (with_reducible repeat (first | apply Kd.R_alloc | apply Kd.R_drewN | apply Kd.R_drew)); exact HO_774001.out)) k_ hk)); (case aO => exact (by (with_reducible repeat (first | apply Kd.S_alloc | apply Kd.S_drewN | apply Kd.S_drew)); exact Kd.S_mono HO_774000.out (fun k_ hk => ⟨hk.1, fun e_ => hk.2 e_⟩))); (case aS => exact (below_size (by repeat (first | (with_reducible first | exact HB.out | apply below_alloc | apply pw_below_drewN | apply below_drew1 | refine below_set ?_ GE773.out) | exact HB.out)))); (case aL => have := LMc8.out; omega); intro v778 w26 ho hb hg hat; rw [← Ny777.out] at ho; have n0_ := Aside0.mk (Kd.R_over' (by (with_reducible repeat (first | apply Kd.R_alloc | apply Kd.R_drewN | apply Kd.R_drew)); exact HO_774001.out) (Kd.S_typed (by (with_reducible repeat (first | apply Kd.S_alloc | apply Kd.S_drewN | apply Kd.S_drew)); exact HO_774000.out)) (by decide) hg); have n1_ := Aside0.mk (blk_grown (g := gb773) (o := .cells #[u774000, u774001] 25 (0, 0)) (by (with_reducible repeat (first | refine blk_drewN ?_ _ | refine blk_drew ?_ | refine blk_alloc ?_ _)); exact BK773.out) hg (Kd.S_ne HO_774000.out BK773.out (by decide))); have n2_ := Aside0.mk (hb); have n3_ := Aside0.mk (ho); clear HO_774001; clear BK773; clear HB; clear HO_774000; clear HO776; have HO_774001 := n0_; have BK773 := n1_; have HB := n2_; have HO779 := n3_; clear n0_ n1_ n2_ n3_; clear ho hb hg hat; obtain ⟨Ao28, co28, eo28⟩ := Kd.S_slice HO779.out; subst eo28; have hcz29_0 : w26.cell? ⟨gb773, 0, none⟩ = some (u774000) := (blk_cell BK773.out 0).trans rfl; have hcz29_1 : w26.cell? ⟨gb773, 1, none⟩ = some (u774001) := (blk_cell BK773.out 1).trans rfl; have hfz29_0 := blk_frozen BK773.out 0; have hfz29_1 := blk_frozen BK773.out 1) | ((with_reducible refine gate_builtin (b := .append) (xs := #[.tmp 36, .tmp 38]) rfl ?_); at_builtin; refine Kd.R_append (Kd.int .i64) (w0 := w) w.heap.size rfl (.tmp 36) (.tmp 38) 23 3 (.int .i64 0) 8 rfl Try.underlying23 info3 rfl (by decide) (by omega) u774001 x774001_1 (wrap64 (x7_1 - 1)) [.int .i64 (wrap64 (x7_1 - 1))] (fun _ => True) (fun _ => False) rfl (by first | (go_simp; done) | (go_simp; rfl)) ?aP (fun _ hk => hk.elim) ?aF ?aO ?aB ?aS ?aL ?_; (case aP => exact rfl); (case aB => exact (by repeat (first | (with_reducible first | exact HB.out | apply below_alloc | apply pw_below_drewN | apply below_drew1 | refine below_set ?_ GE773.out) | exact HB.out))); (case aF => exact (fun _ _ => trivial)); (case aO => exact (by (with_reducible repeat (first | apply Kd.R_alloc | apply Kd.R_drewN | apply Kd.R_drew)); exact Kd.R_mono (Kd.R_far (p := ⟨gb773, 0, none⟩) (Kd.R_types HO_774001.out BK773.out (by decide)) (fun _ hk => hk.2) (.slice Ao28 y777.length co28)) (fun _ hk => trivial))); (case aS => exact (below_size (by repeat (first | (with_reducible first | exact HB.out | apply below_alloc | apply pw_below_drewN | apply below_drew1 | refine below_set ?_ GE773.out) | exact HB.out)))); (case aL => have := LMc22.out; omega); intro v784 w30 ho hb hg hat; rw [← Ny783.out] at ho; have n0_ := Aside0.mk (blk_grown (g := gb773) (o := .cells #[.slice Ao28 y777.length co28, u774001] 25 (0, 0)) (by (with_reducible repeat (first | refine blk_drewN ?_ _ | refine blk_drew ?_ | refine blk_alloc ?_ _)); refine blk_put (cs := #[u774000, u774001]) ?_ 0 _ rfl; (with_reducible repeat (first | refine blk_drewN ?_ _ | refine blk_drew ?_ | refine blk_alloc ?_ _)); exact BK773.out) hg (Kd.R_ne HO_774001.out BK773.out (by decide))); have n1_ := Aside0.mk (Kd.S_after (ok := (fun _ => True)) (by (with_reducible repeat (first | apply Kd.S_alloc | apply Kd.S_drewN | apply Kd.S_drew)); exact Kd.S_mono (Kd.S_far (p := ⟨gb773, 0, none⟩) (Kd.S_types HO779.out BK773.out (by decide)) (fun _ hk => hk.2) (.slice Ao28 y777.length co28)) (fun _ hk => ⟨trivial, hk.1⟩)) hg hat); have n2_ := Aside0.mk (hb); have n3_ := Aside0.mk (ho); clear BK773; clear HO779; clear HB; clear HO_774001; have BK773 := n0_; have HO779 := n1_; have HB := n2_; have HO785 := n3_; clear n0_ n1_ n2_ n3_; clear ho hb hg hat; obtain ⟨Ao31, co31, eo31⟩ := Kd.R_slice HO785.out; subst eo31; have hcz32_0 : w30.cell? ⟨gb773, 0, none⟩ = some (.slice Ao28 y777.length co28) := (blk_cell BK773.out 0).trans rfl; have hcz32_1 : w30.cell? ⟨gb773, 1, none⟩ = some (u774001) := (blk_cell BK773.out 1).trans rfl; have hfz32_0 := blk_frozen BK773.out 0; have hfz32_1 := blk_frozen BK773.out 1))
                go_roundg k1
                case measure => have := HK1.out; omega
                case rel => exact ⟨(wrap64 (x7_1 + 1)), (y777), (y783), (.slice Ao28 y777.length co28), (.slice Ao31 y783.length co31), (by first | rfl | (simp; done) | (simp [*]; done)), H', ⟨by have := HK1.out; omega⟩, ⟨by (with_reducible repeat (first | apply Kd.S_alloc | apply Kd.S_drewN | apply Kd.S_drew)); exact Kd.S_mono (Kd.S_far (p := ⟨gb773, 1, none⟩) (Kd.S_types HO779.out BK773.out (by decide)) (fun _ hk => hk.2) (.slice Ao31 y783.length co31)) (fun _ hk => hk.1.2)⟩, ⟨by (with_reducible repeat (first | apply Kd.R_alloc | apply Kd.R_drewN | apply Kd.R_drew)); exact Kd.R_mono (Kd.R_far (p := ⟨gb773, 1, none⟩) (Kd.R_types HO785.out BK773.out (by decide)) (fun _ hk => hk.2) (.slice Ao31 y783.length co31)) (fun _ hk => trivial)⟩, ⟨by (with_reducible repeat (first | refine blk_drewN ?_ _ | refine blk_drew ?_ | refine blk_alloc ?_ _)); refine blk_put (cs := #[.slice Ao28 y777.length co28, u774001]) ?_ 1 _ rfl; (with_reducible repeat (first | refine blk_drewN ?_ _ | refine blk_drew ?_ | refine blk_alloc ?_ _)); exact BK773.out⟩, ⟨by repeat (first | (with_reducible first | exact HB.out | apply below_alloc | apply pw_below_drewN | apply below_drew1 | refine below_set ?_ GE773.out) | exact HB.out)⟩⟩
              · rw [if_neg c22] at H
                exact absurd H (by simp)
          · replace c9 := Bool.eq_false_iff.mpr c9
            subst c9
            have H1 : (if x7_1 = 0 then (if x774001_1.length < 17592186044416 then (arboristlaw13_PlaceRow.l0 k1 (wrap64 (1 + (Int.tmod (Go.bits .and .i64 a0 65535) 20))) false t772 (wrap64 (x7_1 + 1)) y777 (x774001_1 ++ [(-1)])) else (none)) else (if x774001_1.length < 17592186044416 then (arboristlaw13_PlaceRow.l0 k1 (wrap64 (1 + (Int.tmod (Go.bits .and .i64 a0 65535) 20))) false t772 (wrap64 (x7_1 + 1)) y777 (x774001_1 ++ [0])) else (none))) = some r := by rw [if_neg (show ¬ (false = true) by decide)] at H; exact H
            clear H
            have H := H1
            clear H1
            by_cases c33 : x7_1 = 0
            · rw [if_pos c33] at H
              have c33b0 : (x7_1 == 0) = true := beq_iff_eq.mpr c33
              have c33b1 : (x7_1 != 0) = false := bne_eq_false_iff_eq.mpr c33
              clear c33
              by_cases c34 : x774001_1.length < 17592186044416
              · rw [if_pos c34] at H
                have LMc34 := Aside0.mk c34
                clear c34
                obtain ⟨y786, hy786⟩ : ∃ y_ : List Int, y_ = (x774001_1 ++ [(-1)]) := ⟨_, rfl⟩
                replace H : (arboristlaw13_PlaceRow.l0 k1 (wrap64 (1 + (Int.tmod (Go.bits .and .i64 a0 65535) 20))) false t772 (wrap64 (x7_1 + 1)) y777 y786) = some r := by first | (rw [hy786]; with_reducible exact H) | (have H2_ := (Option.bind_some _ _).symm.trans H; rw [hy786]; with_reducible exact H2_) | (have H2_ := (Option.bind_some _ _).symm.trans H; with_reducible exact H2_) | with_reducible exact H | (rw [hy786]; exact H) | exact H
                have Ny786 := Aside0.mk hy786
                clear hy786
                have H' := Aside0.mk H
                clear H
                have hcz35_0 : wr.cell? ⟨gb773, 0, none⟩ = some (u774000) := (blk_cell BK773.out 0).trans rfl
                have hcz35_1 : wr.cell? ⟨gb773, 1, none⟩ = some (u774001) := (blk_cell BK773.out 1).trans rfl
                have hfz35_0 := blk_frozen BK773.out 0
                have hfz35_1 := blk_frozen BK773.out 1
                go_wp2_with (first | ((with_reducible refine gate_dst (N := 26) rfl ?_); refine Kd.R_lit (Kd.int .i64) _ 3 ?hg (N := 26) ?hd (xs := ([x7_1] : List Int)) (inner := [.int .i64 x7_1]) (ok := fun _ => True) (okp := fun _ => True) ?hr ?hp (fun _ hk => hk) trivial (Below.refl _ _) (Nat.le_refl _) (by simp) ?_; (case hd => rfl); (case hg => rfl); (case hr => first | (go_simp; done) | (go_simp; rfl)); (case hp => exact (Reps.one (show Kd.M (Kd.int .i64) _ _ _ x7_1 [.int .i64 x7_1] from rfl) (Reps.none _ _))); intro v775 w36 ho37 hb hg_ hnew_; clear hg_ hnew_; (first | rw [← Ny774.out] at ho37 | (simp only [Int.reduceToNat] at ho37; rw [← Ny774.out] at ho37)); have n0_ := Aside0.mk (Kd.S_elder' (by (with_reducible repeat (first | apply Kd.S_alloc | apply Kd.S_drewN | apply Kd.S_drew)); exact HO_774000.out) (Kd.R_base ho37) hb); have n1_ := Aside0.mk (Kd.R_elder' (by (with_reducible repeat (first | apply Kd.R_alloc | apply Kd.R_drewN | apply Kd.R_drew)); exact HO_774001.out) (Kd.R_base ho37) hb); have n2_ := Aside0.mk (Kd.R_lower (Kd.R_new' ho37 (Kd.R_lt (by (with_reducible repeat (first | apply Kd.R_alloc | apply Kd.R_drewN | apply Kd.R_drew)); exact HO_774001.out))) (below_size (by repeat (first | (with_reducible first | exact HB.out | apply below_alloc | apply pw_below_drewN | apply below_drew1 | refine below_set ?_ GE773.out) | exact HB.out)))); have n3_ := Aside0.mk (blk_below (g := gb773) (o := .cells #[u774000, u774001] 25 (0, 0)) (by (with_reducible repeat (first | refine blk_drewN ?_ _ | refine blk_drew ?_ | refine blk_alloc ?_ _)); exact BK773.out) hb); have n4_ := Aside0.mk (below_step (by repeat (first | (with_reducible first | exact HB.out | apply below_alloc | apply pw_below_drewN | apply below_drew1 | refine below_set ?_ GE773.out) | exact HB.out)) hb); clear HO_774000; clear HO_774001; clear BK773; clear HB; have HO_774000 := n0_; have HO_774001 := n1_; have HO776 := n2_; have BK773 := n3_; have HB := n4_; clear n0_ n1_ n2_ n3_ n4_; clear hb ho37; obtain ⟨Ao39, co39, eo39⟩ := Kd.R_slice HO776.out; subst eo39) | ((with_reducible refine gate_builtin (b := .append) (xs := #[.tmp 24, .tmp 27]) rfl ?_); at_builtin; refine Kd.S_append (Kd.slice 3 (Kd.int .i64)) (w0 := w) w.heap.size rfl (.tmp 24) (.tmp 27) 22 23 (.slice none 0 0) 24 rfl Try.underlying22 info23 rfl (by decide) (by omega) u774000 x774000_1 y774 [.slice Ao39 y774.length co39] (fun k_ => some k_ ≠ (u774001 : Value).ownBlock) (fun k_ => some k_ = (.slice Ao39 y774.length co39 : Value).ownBlock) rfl rfl ?aP (fun k_ hk_ => ((Kd.R_mono (ok' := fun k_ => ((fun k_ => some k_ ≠ (u774001 : Value).ownBlock)) k_ ∧ some k_ ≠ (u774000 : Value).ownBlock) (Kd.R_apart' (HO776.out) (Kd.S_typed HO_774000.out) (by decide)) (fun k_ hk => ⟨hk.1.2, hk.2⟩))).1 k_ hk_.symm) ?aF ?aO ?aB ?aS ?aL ?_; (case aP => exact Kd.M_row (Kd.R_mono (Kd.R_tight rfl (Kd.R_mono (ok' := fun k_ => ((fun k_ => some k_ ≠ (u774001 : Value).ownBlock)) k_ ∧ some k_ ≠ (u774000 : Value).ownBlock) (Kd.R_apart' (HO776.out) (Kd.S_typed HO_774000.out) (by decide)) (fun k_ hk => ⟨hk.1.2, hk.2⟩))) (fun _ h_ => h_))); (case aB => exact (by repeat (first | (with_reducible first | exact HB.out | apply below_alloc | apply pw_below_drewN | apply below_drew1 | refine below_set ?_ GE773.out) | exact HB.out))); (case aF => exact (fun k_ hk => Kd.fresh' (Kd.R_lt (by (with_reducible repeat (first | apply Kd.R_alloc | apply Kd.R_drewN | apply Kd.R_drew)); exact HO_774001.out)) k_ hk)); (case aO => exact (by (with_reducible repeat (first | apply Kd.S_alloc | apply Kd.S_drewN | apply Kd.S_drew)); exact Kd.S_mono HO_774000.out (fun k_ hk => ⟨hk.1, fun e_ => hk.2 e_⟩))); (case aS => exact (below_size (by repeat (first | (with_reducible first | exact HB.out | apply below_alloc | apply pw_below_drewN | apply below_drew1 | refine below_set ?_ GE773.out) | exact HB.out)))); (case aL => have := LMc8.out; omega); intro v778 w38 ho hb hg hat; rw [← Ny777.out] at ho; have n0_ := Aside0.mk (Kd.R_over' (by (with_reducible repeat (first | apply Kd.R_alloc | apply Kd.R_drewN | apply Kd.R_drew)); exact HO_774001.out) (Kd.S_typed (by (with_reducible repeat (first | apply Kd.S_alloc | apply Kd.S_drewN | apply Kd.S_drew)); exact HO_774000.out)) (by decide) hg); have n1_ := Aside0.mk (blk_grown (g := gb773) (o := .cells #[u774000, u774001] 25 (0, 0)) (by (with_reducible repeat (first | refine blk_drewN ?_ _ | refine blk_drew ?_ | refine blk_alloc ?_ _)); exact BK773.out) hg (Kd.S_ne HO_774000.out BK773.out (by decide))); have n2_ := Aside0.mk (hb); have n3_ := Aside0.mk (ho); clear HO_774001; clear BK773; clear HB; clear HO_774000; clear HO776; have HO_774001 := n0_; have BK773 := n1_; have HB := n2_; have HO779 := n3_; clear n0_ n1_ n2_ n3_; clear ho hb hg hat; obtain ⟨Ao40, co40, eo40⟩ := Kd.S_slice HO779.out; subst eo40; have hcz41_0 : w38.cell? ⟨gb773, 0, none⟩ = some (u774000) := (blk_cell BK773.out 0).trans rfl; have hcz41_1 : w38.cell? ⟨gb773, 1, none⟩ = some (u774001) := (blk_cell BK773.out 1).trans rfl; have hfz41_0 := blk_frozen BK773.out 0; have hfz41_1 := blk_frozen BK773.out 1) | ((with_reducible refine gate_builtin (b := .append) (xs := #[.tmp 36, .tmp 38]) rfl ?_); at_builtin; refine Kd.R_append (Kd.int .i64) (w0 := w) w.heap.size rfl (.tmp 36) (.tmp 38) 23 3 (.int .i64 0) 8 rfl Try.underlying23 info3 rfl (by decide) (by omega) u774001 x774001_1 (-1) [.int .i64 (-1)] (fun _ => True) (fun _ => False) rfl (by first | (go_simp; done) | (go_simp; rfl)) ?aP (fun _ hk => hk.elim) ?aF ?aO ?aB ?aS ?aL ?_; (case aP => exact rfl); (case aB => exact (by repeat (first | (with_reducible first | exact HB.out | apply below_alloc | apply pw_below_drewN | apply below_drew1 | refine below_set ?_ GE773.out) | exact HB.out))); (case aF => exact (fun _ _ => trivial)); (case aO => exact (by (with_reducible repeat (first | apply Kd.R_alloc | apply Kd.R_drewN | apply Kd.R_drew)); exact Kd.R_mono (Kd.R_far (p := ⟨gb773, 0, none⟩) (Kd.R_types HO_774001.out BK773.out (by decide)) (fun _ hk => hk.2) (.slice Ao40 y777.length co40)) (fun _ hk => trivial))); (case aS => exact (below_size (by repeat (first | (with_reducible first | exact HB.out | apply below_alloc | apply pw_below_drewN | apply below_drew1 | refine below_set ?_ GE773.out) | exact HB.out)))); (case aL => have := LMc34.out; omega); intro v787 w42 ho hb hg hat; rw [← Ny786.out] at ho; have n0_ := Aside0.mk (blk_grown (g := gb773) (o := .cells #[.slice Ao40 y777.length co40, u774001] 25 (0, 0)) (by (with_reducible repeat (first | refine blk_drewN ?_ _ | refine blk_drew ?_ | refine blk_alloc ?_ _)); refine blk_put (cs := #[u774000, u774001]) ?_ 0 _ rfl; (with_reducible repeat (first | refine blk_drewN ?_ _ | refine blk_drew ?_ | refine blk_alloc ?_ _)); exact BK773.out) hg (Kd.R_ne HO_774001.out BK773.out (by decide))); have n1_ := Aside0.mk (Kd.S_after (ok := (fun _ => True)) (by (with_reducible repeat (first | apply Kd.S_alloc | apply Kd.S_drewN | apply Kd.S_drew)); exact Kd.S_mono (Kd.S_far (p := ⟨gb773, 0, none⟩) (Kd.S_types HO779.out BK773.out (by decide)) (fun _ hk => hk.2) (.slice Ao40 y777.length co40)) (fun _ hk => ⟨trivial, hk.1⟩)) hg hat); have n2_ := Aside0.mk (hb); have n3_ := Aside0.mk (ho); clear BK773; clear HO779; clear HB; clear HO_774001; have BK773 := n0_; have HO779 := n1_; have HB := n2_; have HO788 := n3_; clear n0_ n1_ n2_ n3_; clear ho hb hg hat; obtain ⟨Ao43, co43, eo43⟩ := Kd.R_slice HO788.out; subst eo43; have hcz44_0 : w42.cell? ⟨gb773, 0, none⟩ = some (.slice Ao40 y777.length co40) := (blk_cell BK773.out 0).trans rfl; have hcz44_1 : w42.cell? ⟨gb773, 1, none⟩ = some (u774001) := (blk_cell BK773.out 1).trans rfl; have hfz44_0 := blk_frozen BK773.out 0; have hfz44_1 := blk_frozen BK773.out 1))
                go_roundg k1
                case measure => have := HK1.out; omega
                case rel => exact ⟨(wrap64 (x7_1 + 1)), (y777), (y786), (.slice Ao40 y777.length co40), (.slice Ao43 y786.length co43), (by first | rfl | (simp; done) | (simp [*]; done)), H', ⟨by have := HK1.out; omega⟩, ⟨by (with_reducible repeat (first | apply Kd.S_alloc | apply Kd.S_drewN | apply Kd.S_drew)); exact Kd.S_mono (Kd.S_far (p := ⟨gb773, 1, none⟩) (Kd.S_types HO779.out BK773.out (by decide)) (fun _ hk => hk.2) (.slice Ao43 y786.length co43)) (fun _ hk => hk.1.2)⟩, ⟨by (with_reducible repeat (first | apply Kd.R_alloc | apply Kd.R_drewN | apply Kd.R_drew)); exact Kd.R_mono (Kd.R_far (p := ⟨gb773, 1, none⟩) (Kd.R_types HO788.out BK773.out (by decide)) (fun _ hk => hk.2) (.slice Ao43 y786.length co43)) (fun _ hk => trivial)⟩, ⟨by (with_reducible repeat (first | refine blk_drewN ?_ _ | refine blk_drew ?_ | refine blk_alloc ?_ _)); refine blk_put (cs := #[.slice Ao40 y777.length co40, u774001]) ?_ 1 _ rfl; (with_reducible repeat (first | refine blk_drewN ?_ _ | refine blk_drew ?_ | refine blk_alloc ?_ _)); exact BK773.out⟩, ⟨by repeat (first | (with_reducible first | exact HB.out | apply below_alloc | apply pw_below_drewN | apply below_drew1 | refine below_set ?_ GE773.out) | exact HB.out)⟩⟩
              · rw [if_neg c34] at H
                exact absurd H (by simp)
            · rw [if_neg c33] at H
              have c33b0 : (x7_1 == 0) = false := beq_eq_false_iff_ne.mpr c33
              have c33b1 : (x7_1 != 0) = true := bne_iff_ne.mpr c33
              by_cases c45 : x774001_1.length < 17592186044416
              · rw [if_pos c45] at H
                have LMc45 := Aside0.mk c45
                clear c45
                obtain ⟨y789, hy789⟩ : ∃ y_ : List Int, y_ = (x774001_1 ++ [0]) := ⟨_, rfl⟩
                replace H : (arboristlaw13_PlaceRow.l0 k1 (wrap64 (1 + (Int.tmod (Go.bits .and .i64 a0 65535) 20))) false t772 (wrap64 (x7_1 + 1)) y777 y789) = some r := by first | (rw [hy789]; with_reducible exact H) | (have H2_ := (Option.bind_some _ _).symm.trans H; rw [hy789]; with_reducible exact H2_) | (have H2_ := (Option.bind_some _ _).symm.trans H; with_reducible exact H2_) | with_reducible exact H | (rw [hy789]; exact H) | exact H
                have Ny789 := Aside0.mk hy789
                clear hy789
                have H' := Aside0.mk H
                clear H
                have hcz46_0 : wr.cell? ⟨gb773, 0, none⟩ = some (u774000) := (blk_cell BK773.out 0).trans rfl
                have hcz46_1 : wr.cell? ⟨gb773, 1, none⟩ = some (u774001) := (blk_cell BK773.out 1).trans rfl
                have hfz46_0 := blk_frozen BK773.out 0
                have hfz46_1 := blk_frozen BK773.out 1
                go_wp2_with (first | ((with_reducible refine gate_dst (N := 26) rfl ?_); refine Kd.R_lit (Kd.int .i64) _ 3 ?hg (N := 26) ?hd (xs := ([x7_1] : List Int)) (inner := [.int .i64 x7_1]) (ok := fun _ => True) (okp := fun _ => True) ?hr ?hp (fun _ hk => hk) trivial (Below.refl _ _) (Nat.le_refl _) (by simp) ?_; (case hd => rfl); (case hg => rfl); (case hr => first | (go_simp; done) | (go_simp; rfl)); (case hp => exact (Reps.one (show Kd.M (Kd.int .i64) _ _ _ x7_1 [.int .i64 x7_1] from rfl) (Reps.none _ _))); intro v775 w47 ho48 hb hg_ hnew_; clear hg_ hnew_; (first | rw [← Ny774.out] at ho48 | (simp only [Int.reduceToNat] at ho48; rw [← Ny774.out] at ho48)); have n0_ := Aside0.mk (Kd.S_elder' (by (with_reducible repeat (first | apply Kd.S_alloc | apply Kd.S_drewN | apply Kd.S_drew)); exact HO_774000.out) (Kd.R_base ho48) hb); have n1_ := Aside0.mk (Kd.R_elder' (by (with_reducible repeat (first | apply Kd.R_alloc | apply Kd.R_drewN | apply Kd.R_drew)); exact HO_774001.out) (Kd.R_base ho48) hb); have n2_ := Aside0.mk (Kd.R_lower (Kd.R_new' ho48 (Kd.R_lt (by (with_reducible repeat (first | apply Kd.R_alloc | apply Kd.R_drewN | apply Kd.R_drew)); exact HO_774001.out))) (below_size (by repeat (first | (with_reducible first | exact HB.out | apply below_alloc | apply pw_below_drewN | apply below_drew1 | refine below_set ?_ GE773.out) | exact HB.out)))); have n3_ := Aside0.mk (blk_below (g := gb773) (o := .cells #[u774000, u774001] 25 (0, 0)) (by (with_reducible repeat (first | refine blk_drewN ?_ _ | refine blk_drew ?_ | refine blk_alloc ?_ _)); exact BK773.out) hb); have n4_ := Aside0.mk (below_step (by repeat (first | (with_reducible first | exact HB.out | apply below_alloc | apply pw_below_drewN | apply below_drew1 | refine below_set ?_ GE773.out) | exact HB.out)) hb); clear HO_774000; clear HO_774001; clear BK773; clear HB; have HO_774000 := n0_; have HO_774001 := n1_; have HO776 := n2_; have BK773 := n3_; have HB := n4_; clear n0_ n1_ n2_ n3_ n4_; clear hb ho48; obtain ⟨Ao50, co50, eo50⟩ := Kd.R_slice HO776.out; subst eo50) | ((with_reducible refine gate_builtin (b := .append) (xs := #[.tmp 24, .tmp 27]) rfl ?_); at_builtin; refine Kd.S_append (Kd.slice 3 (Kd.int .i64)) (w0 := w) w.heap.size rfl (.tmp 24) (.tmp 27) 22 23 (.slice none 0 0) 24 rfl Try.underlying22 info23 rfl (by decide) (by omega) u774000 x774000_1 y774 [.slice Ao50 y774.length co50] (fun k_ => some k_ ≠ (u774001 : Value).ownBlock) (fun k_ => some k_ = (.slice Ao50 y774.length co50 : Value).ownBlock) rfl rfl ?aP (fun k_ hk_ => ((Kd.R_mono (ok' := fun k_ => ((fun k_ => some k_ ≠ (u774001 : Value).ownBlock)) k_ ∧ some k_ ≠ (u774000 : Value).ownBlock) (Kd.R_apart' (HO776.out) (Kd.S_typed HO_774000.out) (by decide)) (fun k_ hk => ⟨hk.1.2, hk.2⟩))).1 k_ hk_.symm) ?aF ?aO ?aB ?aS ?aL ?_; (case aP => exact Kd.M_row (Kd.R_mono (Kd.R_tight rfl (Kd.R_mono (ok' := fun k_ => ((fun k_ => some k_ ≠ (u774001 : Value).ownBlock)) k_ ∧ some k_ ≠ (u774000 : Value).ownBlock) (Kd.R_apart' (HO776.out) (Kd.S_typed HO_774000.out) (by decide)) (fun k_ hk => ⟨hk.1.2, hk.2⟩))) (fun _ h_ => h_))); (case aB => exact (by repeat (first | (with_reducible first | exact HB.out | apply below_alloc | apply pw_below_drewN | apply below_drew1 | refine below_set ?_ GE773.out) | exact HB.out))); (case aF => exact (fun k_ hk => Kd.fresh' (Kd.R_lt (by (with_reducible repeat (first | apply Kd.R_alloc | apply Kd.R_drewN | apply Kd.R_drew)); exact HO_774001.out)) k_ hk)); (case aO => exact (by (with_reducible repeat (first | apply Kd.S_alloc | apply Kd.S_drewN | apply Kd.S_drew)); exact Kd.S_mono HO_774000.out (fun k_ hk => ⟨hk.1, fun e_ => hk.2 e_⟩))); (case aS => exact (below_size (by repeat (first | (with_reducible first | exact HB.out | apply below_alloc | apply pw_below_drewN | apply below_drew1 | refine below_set ?_ GE773.out) | exact HB.out)))); (case aL => have := LMc8.out; omega); intro v778 w49 ho hb hg hat; rw [← Ny777.out] at ho; have n0_ := Aside0.mk (Kd.R_over' (by (with_reducible repeat (first | apply Kd.R_alloc | apply Kd.R_drewN | apply Kd.R_drew)); exact HO_774001.out) (Kd.S_typed (by (with_reducible repeat (first | apply Kd.S_alloc | apply Kd.S_drewN | apply Kd.S_drew)); exact HO_774000.out)) (by decide) hg); have n1_ := Aside0.mk (blk_grown (g := gb773) (o := .cells #[u774000, u774001] 25 (0, 0)) (by (with_reducible repeat (first | refine blk_drewN ?_ _ | refine blk_drew ?_ | refine blk_alloc ?_ _)); exact BK773.out) hg (Kd.S_ne HO_774000.out BK773.out (by decide))); have n2_ := Aside0.mk (hb); have n3_ := Aside0.mk (ho); clear HO_774001; clear BK773; clear HB; clear HO_774000; clear HO776; have HO_774001 := n0_; have BK773 := n1_; have HB := n2_; have HO779 := n3_; clear n0_ n1_ n2_ n3_; clear ho hb hg hat; obtain ⟨Ao51, co51, eo51⟩ := Kd.S_slice HO779.out; subst eo51; have hcz52_0 : w49.cell? ⟨gb773, 0, none⟩ = some (u774000) := (blk_cell BK773.out 0).trans rfl; have hcz52_1 : w49.cell? ⟨gb773, 1, none⟩ = some (u774001) := (blk_cell BK773.out 1).trans rfl; have hfz52_0 := blk_frozen BK773.out 0; have hfz52_1 := blk_frozen BK773.out 1) | ((with_reducible refine gate_builtin (b := .append) (xs := #[.tmp 36, .tmp 38]) rfl ?_); at_builtin; refine Kd.R_append (Kd.int .i64) (w0 := w) w.heap.size rfl (.tmp 36) (.tmp 38) 23 3 (.int .i64 0) 8 rfl Try.underlying23 info3 rfl (by decide) (by omega) u774001 x774001_1 0 [.int .i64 0] (fun _ => True) (fun _ => False) rfl (by first | (go_simp; done) | (go_simp; rfl)) ?aP (fun _ hk => hk.elim) ?aF ?aO ?aB ?aS ?aL ?_; (case aP => exact rfl); (case aB => exact (by repeat (first | (with_reducible first | exact HB.out | apply below_alloc | apply pw_below_drewN | apply below_drew1 | refine below_set ?_ GE773.out) | exact HB.out))); (case aF => exact (fun _ _ => trivial)); (case aO => exact (by (with_reducible repeat (first | apply Kd.R_alloc | apply Kd.R_drewN | apply Kd.R_drew)); exact Kd.R_mono (Kd.R_far (p := ⟨gb773, 0, none⟩) (Kd.R_types HO_774001.out BK773.out (by decide)) (fun _ hk => hk.2) (.slice Ao51 y777.length co51)) (fun _ hk => trivial))); (case aS => exact (below_size (by repeat (first | (with_reducible first | exact HB.out | apply below_alloc | apply pw_below_drewN | apply below_drew1 | refine below_set ?_ GE773.out) | exact HB.out)))); (case aL => have := LMc45.out; omega); intro v790 w53 ho hb hg hat; rw [← Ny789.out] at ho; have n0_ := Aside0.mk (blk_grown (g := gb773) (o := .cells #[.slice Ao51 y777.length co51, u774001] 25 (0, 0)) (by (with_reducible repeat (first | refine blk_drewN ?_ _ | refine blk_drew ?_ | refine blk_alloc ?_ _)); refine blk_put (cs := #[u774000, u774001]) ?_ 0 _ rfl; (with_reducible repeat (first | refine blk_drewN ?_ _ | refine blk_drew ?_ | refine blk_alloc ?_ _)); exact BK773.out) hg (Kd.R_ne HO_774001.out BK773.out (by decide))); have n1_ := Aside0.mk (Kd.S_after (ok := (fun _ => True)) (by (with_reducible repeat (first | apply Kd.S_alloc | apply Kd.S_drewN | apply Kd.S_drew)); exact Kd.S_mono (Kd.S_far (p := ⟨gb773, 0, none⟩) (Kd.S_types HO779.out BK773.out (by decide)) (fun _ hk => hk.2) (.slice Ao51 y777.length co51)) (fun _ hk => ⟨trivial, hk.1⟩)) hg hat); have n2_ := Aside0.mk (hb); have n3_ := Aside0.mk (ho); clear BK773; clear HO779; clear HB; clear HO_774001; have BK773 := n0_; have HO779 := n1_; have HB := n2_; have HO791 := n3_; clear n0_ n1_ n2_ n3_; clear ho hb hg hat; obtain ⟨Ao54, co54, eo54⟩ := Kd.R_slice HO791.out; subst eo54; have hcz55_0 : w53.cell? ⟨gb773, 0, none⟩ = some (.slice Ao51 y777.length co51) := (blk_cell BK773.out 0).trans rfl; have hcz55_1 : w53.cell? ⟨gb773, 1, none⟩ = some (u774001) := (blk_cell BK773.out 1).trans rfl; have hfz55_0 := blk_frozen BK773.out 0; have hfz55_1 := blk_frozen BK773.out 1))
                go_roundg k1
                case measure => have := HK1.out; omega
                case rel => exact ⟨(wrap64 (x7_1 + 1)), (y777), (y789), (.slice Ao51 y777.length co51), (.slice Ao54 y789.length co54), (by first | rfl | (simp; done) | (simp [*]; done)), H', ⟨by have := HK1.out; omega⟩, ⟨by (with_reducible repeat (first | apply Kd.S_alloc | apply Kd.S_drewN | apply Kd.S_drew)); exact Kd.S_mono (Kd.S_far (p := ⟨gb773, 1, none⟩) (Kd.S_types HO779.out BK773.out (by decide)) (fun _ hk => hk.2) (.slice Ao54 y789.length co54)) (fun _ hk => hk.1.2)⟩, ⟨by (with_reducible repeat (first | apply Kd.R_alloc | apply Kd.R_drewN | apply Kd.R_drew)); exact Kd.R_mono (Kd.R_far (p := ⟨gb773, 1, none⟩) (Kd.R_types HO791.out BK773.out (by decide)) (fun _ hk => hk.2) (.slice Ao54 y789.length co54)) (fun _ hk => trivial)⟩, ⟨by (with_reducible repeat (first | refine blk_drewN ?_ _ | refine blk_drew ?_ | refine blk_alloc ?_ _)); refine blk_put (cs := #[.slice Ao51 y777.length co51, u774001]) ?_ 1 _ rfl; (with_reducible repeat (first | refine blk_drewN ?_ _ | refine blk_drew ?_ | refine blk_alloc ?_ _)); exact BK773.out⟩, ⟨by repeat (first | (with_reducible first | exact HB.out | apply below_alloc | apply pw_below_drewN | apply below_drew1 | refine below_set ?_ GE773.out) | exact HB.out)⟩⟩
              · rw [if_neg c45] at H
                exact absurd H (by simp)
        · rw [if_neg c8] at H
          exact absurd H (by simp)
      · rw [if_neg c7] at H
        have c7b0 : decide (x7_1 < (wrap64 (1 + (Int.tmod (Go.bits .and .i64 a0 65535) 20)))) = false := decide_eq_false c7
        clear c7
        replace H := Option.bind_eq_some_iff.mp H
        obtain ⟨t792, A560, H⟩ := H
        replace H : (if (t792.length : Int) = (wrap64 (1 + (Int.tmod (Go.bits .and .i64 a0 65535) 20))) then (arboristlaw13_PlaceRow.l1 k1 (wrap64 (1 + (Int.tmod (Go.bits .and .i64 a0 65535) 20))) a1 t772 t792 0) else (some false)) = some r := H
        have A56 := Aside0.mk A560
        clear A560
        by_cases c57 : (t792.length : Int) = (wrap64 (1 + (Int.tmod (Go.bits .and .i64 a0 65535) 20)))
        · rw [if_pos c57] at H
          have c57b0 : ((t792.length : Int) == (wrap64 (1 + (Int.tmod (Go.bits .and .i64 a0 65535) 20)))) = true := beq_iff_eq.mpr c57
          have c57b1 : ((t792.length : Int) != (wrap64 (1 + (Int.tmod (Go.bits .and .i64 a0 65535) 20)))) = false := bne_eq_false_iff_eq.mpr c57
          clear c57
          have H' := Aside0.mk H
          clear H
          have hcz58_0 : wr.cell? ⟨gb773, 0, none⟩ = some (u774000) := (blk_cell BK773.out 0).trans rfl
          have hcz58_1 : wr.cell? ⟨gb773, 1, none⟩ = some (u774001) := (blk_cell BK773.out 1).trans rfl
          have hfz58_0 := blk_frozen BK773.out 0
          have hfz58_1 := blk_frozen BK773.out 1
          obtain ⟨Ao59, co59, eo59⟩ := Kd.S_slice HO_774000.out
          subst eo59
          obtain ⟨Ao60, co60, eo60⟩ := Kd.R_slice HO_774001.out
          subst eo60
          go_wp2_with (first | ((with_reducible refine gate_callee (f := 35) rfl ?_); refine goesL_ (some 42) rfl rfl Try.func35 (by kernel_rfl) rfl #[.agg #[.slice Ao59 x774000_1.length co59, .slice Ao60 x774001_1.length co60]] rfl (by (try simp only [List.map_toArray, List.map_cons, List.map_nil]); first | done | rfl | (simp only [List.length_drop, List.length_take]; rfl)) ?_; (with_reducible refine (place_After.calls k1 _ _ x774000_1 _ _ x774001_1 t792 _ ?side1 ?side2 ?side3 ?side4 A56.out).mono ?_); (case side1 => repeat (first | exact (Kd.S_reads' HO_774000.out).2.2 | (with_reducible refine Kd.C_alloc ?_ _) | (with_reducible refine Kd.C_drewN ?_ _) | (with_reducible refine Kd.C_drew ?_))); (case side2 => exact (Kd.S_reads' HO_774000.out).2.1); (case side3 => repeat (first | exact (Kd.R_reads' HO_774001.out).2.2 | (with_reducible refine Kd.C_alloc ?_ _) | (with_reducible refine Kd.C_drewN ?_ _) | (with_reducible refine Kd.C_drew ?_))); (case side4 => exact (Kd.R_reads' HO_774001.out).2.1); rintro e w61 ⟨v793, rfl, ho0, hb⟩; refine ⟨_, rfl, ?_⟩; have n0_ := Aside0.mk (Kd.S_elder' (by (with_reducible repeat (first | apply Kd.S_alloc | apply Kd.S_drewN | apply Kd.S_drew)); exact HO_774000.out) (Kd.R_base ho0) hb); have n1_ := Aside0.mk (Kd.R_elder' (by (with_reducible repeat (first | apply Kd.R_alloc | apply Kd.R_drewN | apply Kd.R_drew)); exact HO_774001.out) (Kd.R_base ho0) hb); have n2_ := Aside0.mk (Kd.R_lower (Kd.R_new' ho0 (Kd.R_lt (by (with_reducible repeat (first | apply Kd.R_alloc | apply Kd.R_drewN | apply Kd.R_drew)); exact HO_774001.out))) (below_size (by repeat (first | (with_reducible first | exact HB.out | apply below_alloc | apply pw_below_drewN | apply below_drew1 | refine below_set ?_ GE773.out) | exact HB.out)))); have n3_ := Aside0.mk (blk_below (g := gb773) (o := .cells #[.slice Ao59 x774000_1.length co59, .slice Ao60 x774001_1.length co60] 25 (0, 0)) (by (with_reducible repeat (first | refine blk_drewN ?_ _ | refine blk_drew ?_ | refine blk_alloc ?_ _)); exact BK773.out) hb); have n4_ := Aside0.mk (below_step (by repeat (first | (with_reducible first | exact HB.out | apply below_alloc | apply pw_below_drewN | apply below_drew1 | refine below_set ?_ GE773.out) | exact HB.out)) hb); clear HO_774000; clear HO_774001; clear BK773; clear HB; have HO_774000 := n0_; have HO_774001 := n1_; have HO794 := n2_; have BK773 := n3_; have HB := n4_; clear n0_ n1_ n2_ n3_ n4_; (try clear hb); (try clear hb2); (try clear hk); (try clear hi); (try clear ho0); obtain ⟨Ao62, co62, eo62⟩ := Kd.R_slice HO794.out; subst eo62))
          go_loopg [10] k1 (fun kq v10 w' => ∃ (x10_2 : Int), v10 = .int .i64 x10_2 ∧ Aside0 (arboristlaw13_PlaceRow.l1 kq (wrap64 (1 + (Int.tmod (Go.bits .and .i64 a0 65535) 20))) a1 t772 t792 x10_2 = some r) ∧ Aside0 (kq ≤ k1) ∧ Aside0 (Kd.R (Kd.int .i64) 3 w' w.heap.size (fun k_ => some k_ ≠ ((.slice Ao60 x774001_1.length co60) : Value).ownBlock) (.slice Ao62 t792.length co62) t792) ∧ Aside0 (Kd.S (Kd.slice 3 (Kd.int .i64)) 23 w' w.heap.size (fun k_ => some k_ ≠ ((.slice Ao62 t792.length co62) : Value).ownBlock ∧ some k_ ≠ ((.slice Ao60 x774001_1.length co60) : Value).ownBlock) (.slice Ao59 x774000_1.length co59) x774000_1) ∧ Aside0 (Kd.R (Kd.int .i64) 3 w' w.heap.size (fun k_ => some k_ ≠ ((.slice Ao62 t792.length co62) : Value).ownBlock) (.slice Ao60 x774001_1.length co60) x774001_1) ∧ Aside0 (w'.heap[gb773]? = some (.cells #[(.slice Ao59 x774000_1.length co59), (.slice Ao60 x774001_1.length co60)] 25 (0, 0))) ∧ Aside0 (Below w.heap.size w w'))
          case atStart => exact ⟨(0), (by first | rfl | (simp; done) | (simp [*]; done)), H', ⟨Nat.le_refl _⟩, ⟨by (with_reducible repeat (first | apply Kd.R_alloc | apply Kd.R_drewN | apply Kd.R_drew)); exact Kd.R_mono HO794.out (fun _ hk => hk.2)⟩, ⟨by (with_reducible repeat (first | apply Kd.S_alloc | apply Kd.S_drewN | apply Kd.S_drew)); exact Kd.S_mono HO_774000.out (fun _ hk => ⟨hk.2, hk.1⟩)⟩, ⟨by (with_reducible repeat (first | apply Kd.R_alloc | apply Kd.R_drewN | apply Kd.R_drew)); exact Kd.R_mono HO_774001.out (fun _ hk => hk.2)⟩, ⟨by (with_reducible repeat (first | refine blk_drewN ?_ _ | refine blk_drew ?_ | refine blk_alloc ?_ _)); exact BK773.out⟩, ⟨by repeat (first | (with_reducible first | exact HB.out | apply below_alloc | apply pw_below_drewN | apply below_drew1 | refine below_set ?_ GE773.out) | exact HB.out)⟩⟩
          case round =>
            clear H'
            try clear c1
            try clear c2
            try clear p2
            try clear c3
            try clear c4
            try clear c5
            try clear p6
            try clear c7
            try clear c7b0
            try clear c8
            try clear c9
            try clear c10
            try clear c10b0
            try clear c10b1
            try clear c11
            try clear c13
            try clear c22
            try clear c26
            try clear c33
            try clear c33b0
            try clear c33b1
            try clear c34
            try clear c35
            try clear c45
            try clear c57
            try clear c57b0
            try clear c57b1
            try clear hcz12_0
            try clear hcz12_1
            try clear hcz18_0
            try clear hcz18_1
            try clear hcz21_0
            try clear hcz21_1
            try clear hcz23_0
            try clear hcz23_1
            try clear hcz29_0
            try clear hcz29_1
            try clear hcz32_0
            try clear hcz32_1
            try clear hcz35_0
            try clear hcz35_1
            try clear hcz41_0
            try clear hcz41_1
            try clear hcz44_0
            try clear hcz44_1
            try clear hcz46_0
            try clear hcz46_1
            try clear hcz52_0
            try clear hcz52_1
            try clear hcz55_0
            try clear hcz55_1
            try clear hcz58_0
            try clear hcz58_1
            try clear hcz6_0
            try clear hcz6_1
            try clear hfz12_0
            try clear hfz12_1
            try clear hfz18_0
            try clear hfz18_1
            try clear hfz21_0
            try clear hfz21_1
            try clear hfz23_0
            try clear hfz23_1
            try clear hfz29_0
            try clear hfz29_1
            try clear hfz32_0
            try clear hfz32_1
            try clear hfz35_0
            try clear hfz35_1
            try clear hfz41_0
            try clear hfz41_1
            try clear hfz44_0
            try clear hfz44_1
            try clear hfz46_0
            try clear hfz46_1
            try clear hfz52_0
            try clear hfz52_1
            try clear hfz55_0
            try clear hfz55_1
            try clear hfz58_0
            try clear hfz58_1
            try clear hfz6_0
            try clear hfz6_1
            try clear p2
            try clear p6
            obtain ⟨x10_2, rfl, HA, HK2, HO_9, HO_774000, HO_774001, BK773, HB⟩ := hrel
            cases gk with
            | zero => exact absurd HA.out (by simp [arboristlaw13_PlaceRow.l1])
            | succ k2 =>
              have H := HA.out
              clear HA
              simp only [arboristlaw13_PlaceRow.l1] at H
              by_cases c63 : x10_2 < (wrap64 (1 + (Int.tmod (Go.bits .and .i64 a0 65535) 20)))
              · rw [if_pos c63] at H
                have c63b0 : decide (x10_2 < (wrap64 (1 + (Int.tmod (Go.bits .and .i64 a0 65535) 20)))) = true := decide_eq_true c63
                clear c63
                by_cases c64 : a1 = true
                · subst c64
                  have H1 : (if 0 ≤ x10_2 then (if x10_2 < (t792.length : Int) then (if (rd t792 x10_2) = (wrap64 ((wrap64 ((wrap64 (1 + (Int.tmod (Go.bits .and .i64 a0 65535) 20))) - 1)) - x10_2)) then (arboristlaw13_PlaceRow.l1 k2 (wrap64 (1 + (Int.tmod (Go.bits .and .i64 a0 65535) 20))) true t772 t792 (wrap64 (x10_2 + 1))) else (some false)) else (none)) else (none)) = some r := by rw [if_pos rfl] at H; exact H
                  clear H
                  have H := H1
                  clear H1
                  by_cases c65 : 0 ≤ x10_2
                  · rw [if_pos c65] at H
                    have c65b0 : decide (0 ≤ x10_2) = true := decide_eq_true c65
                    clear c65
                    by_cases c66 : x10_2 < (t792.length : Int)
                    · rw [if_pos c66] at H
                      have c66b0 : decide (x10_2 < (t792.length : Int)) = true := decide_eq_true c66
                      clear c66
                      by_cases c67 : (rd t792 x10_2) = (wrap64 ((wrap64 ((wrap64 (1 + (Int.tmod (Go.bits .and .i64 a0 65535) 20))) - 1)) - x10_2))
                      · rw [if_pos c67] at H
                        have c67b0 : ((rd t792 x10_2) == (wrap64 ((wrap64 ((wrap64 (1 + (Int.tmod (Go.bits .and .i64 a0 65535) 20))) - 1)) - x10_2))) = true := beq_iff_eq.mpr c67
                        have c67b1 : ((rd t792 x10_2) != (wrap64 ((wrap64 ((wrap64 (1 + (Int.tmod (Go.bits .and .i64 a0 65535) 20))) - 1)) - x10_2))) = false := bne_eq_false_iff_eq.mpr c67
                        clear c67
                        have H' := Aside0.mk H
                        clear H
                        have p795 : 0 ≤ (x10_2 : Int) := of_decide_eq_true (by first | (with_reducible assumption) | assumption)
                        have q795 : x10_2 < (t792.length : Int) := of_decide_eq_true (by first | (with_reducible assumption) | assumption)
                        obtain ⟨ad795, e795, hx795_0⟩ := Kd.at_int (Kd.R_reads' HO_9.out).2.2 x10_2 p795 q795
                        cases e795
                        replace p795 := eq_true p795
                        replace q795 := eq_true q795
                        go_wp2
                        go_roundg k2
                        case measure => have := HK1.out; have := HK2.out; omega
                        case rel => exact ⟨(wrap64 (x10_2 + 1)), (by first | rfl | (simp; done) | (simp [*]; done)), H', ⟨by have := HK1.out; have := HK2.out; omega⟩, ⟨by (with_reducible repeat (first | apply Kd.R_alloc | apply Kd.R_drewN | apply Kd.R_drew)); exact HO_9.out⟩, ⟨by (with_reducible repeat (first | apply Kd.S_alloc | apply Kd.S_drewN | apply Kd.S_drew)); exact HO_774000.out⟩, ⟨by (with_reducible repeat (first | apply Kd.R_alloc | apply Kd.R_drewN | apply Kd.R_drew)); exact HO_774001.out⟩, ⟨by (with_reducible repeat (first | refine blk_drewN ?_ _ | refine blk_drew ?_ | refine blk_alloc ?_ _)); exact BK773.out⟩, ⟨by repeat (first | (with_reducible first | exact HB.out | apply below_alloc | apply pw_below_drewN | apply below_drew1 | refine below_set ?_ GE773.out) | exact HB.out)⟩⟩
                      · rw [if_neg c67] at H
                        have c67b0 : ((rd t792 x10_2) == (wrap64 ((wrap64 ((wrap64 (1 + (Int.tmod (Go.bits .and .i64 a0 65535) 20))) - 1)) - x10_2))) = false := beq_eq_false_iff_ne.mpr c67
                        have c67b1 : ((rd t792 x10_2) != (wrap64 ((wrap64 ((wrap64 (1 + (Int.tmod (Go.bits .and .i64 a0 65535) 20))) - 1)) - x10_2))) = true := bne_iff_ne.mpr c67
                        exact absurd ((Option.some.inj H).trans HT_.out) (by decide)
                    · rw [if_neg c66] at H
                      exact absurd H (by simp)
                  · rw [if_neg c65] at H
                    exact absurd H (by simp)
                · replace c64 := Bool.eq_false_iff.mpr c64
                  subst c64
                  have H1 : (if (wrap64 (1 + (Int.tmod (Go.bits .and .i64 a0 65535) 20))) = 0 then (none) else (if 0 ≤ x10_2 then (if x10_2 < (t792.length : Int) then (if (rd t792 x10_2) = (Int.tmod (wrap64 (x10_2 + 1)) (wrap64 (1 + (Int.tmod (Go.bits .and .i64 a0 65535) 20)))) then (arboristlaw13_PlaceRow.l1 k2 (wrap64 (1 + (Int.tmod (Go.bits .and .i64 a0 65535) 20))) false t772 t792 (wrap64 (x10_2 + 1))) else (some false)) else (none)) else (none))) = some r := by rw [if_neg (show ¬ (false = true) by decide)] at H; exact H
                  clear H
                  have H := H1
                  clear H1
                  by_cases c68 : (wrap64 (1 + (Int.tmod (Go.bits .and .i64 a0 65535) 20))) = 0
                  · rw [if_pos c68] at H
                    exact absurd H (by simp)
                  · rw [if_neg c68] at H
                    have c68b0 : ((wrap64 (1 + (Int.tmod (Go.bits .and .i64 a0 65535) 20))) == 0) = false := beq_eq_false_iff_ne.mpr c68
                    have c68b1 : ((wrap64 (1 + (Int.tmod (Go.bits .and .i64 a0 65535) 20))) != 0) = true := bne_iff_ne.mpr c68
                    by_cases c69 : 0 ≤ x10_2
                    · rw [if_pos c69] at H
                      have c69b0 : decide (0 ≤ x10_2) = true := decide_eq_true c69
                      clear c69
                      by_cases c70 : x10_2 < (t792.length : Int)
                      · rw [if_pos c70] at H
                        have c70b0 : decide (x10_2 < (t792.length : Int)) = true := decide_eq_true c70
                        clear c70
                        by_cases c71 : (rd t792 x10_2) = (Int.tmod (wrap64 (x10_2 + 1)) (wrap64 (1 + (Int.tmod (Go.bits .and .i64 a0 65535) 20))))
                        · rw [if_pos c71] at H
                          have c71b0 : ((rd t792 x10_2) == (Int.tmod (wrap64 (x10_2 + 1)) (wrap64 (1 + (Int.tmod (Go.bits .and .i64 a0 65535) 20))))) = true := beq_iff_eq.mpr c71
                          have c71b1 : ((rd t792 x10_2) != (Int.tmod (wrap64 (x10_2 + 1)) (wrap64 (1 + (Int.tmod (Go.bits .and .i64 a0 65535) 20))))) = false := bne_eq_false_iff_eq.mpr c71
                          clear c71
                          have H' := Aside0.mk H
                          clear H
                          have p796 : 0 ≤ (x10_2 : Int) := of_decide_eq_true (by first | (with_reducible assumption) | assumption)
                          have q796 : x10_2 < (t792.length : Int) := of_decide_eq_true (by first | (with_reducible assumption) | assumption)
                          obtain ⟨ad796, e796, hx796_0⟩ := Kd.at_int (Kd.R_reads' HO_9.out).2.2 x10_2 p796 q796
                          cases e796
                          replace p796 := eq_true p796
                          replace q796 := eq_true q796
                          go_wp2
                          go_roundg k2
                          case measure => have := HK1.out; have := HK2.out; omega
                          case rel => exact ⟨(wrap64 (x10_2 + 1)), (by first | rfl | (simp; done) | (simp [*]; done)), H', ⟨by have := HK1.out; have := HK2.out; omega⟩, ⟨by (with_reducible repeat (first | apply Kd.R_alloc | apply Kd.R_drewN | apply Kd.R_drew)); exact HO_9.out⟩, ⟨by (with_reducible repeat (first | apply Kd.S_alloc | apply Kd.S_drewN | apply Kd.S_drew)); exact HO_774000.out⟩, ⟨by (with_reducible repeat (first | apply Kd.R_alloc | apply Kd.R_drewN | apply Kd.R_drew)); exact HO_774001.out⟩, ⟨by (with_reducible repeat (first | refine blk_drewN ?_ _ | refine blk_drew ?_ | refine blk_alloc ?_ _)); exact BK773.out⟩, ⟨by repeat (first | (with_reducible first | exact HB.out | apply below_alloc | apply pw_below_drewN | apply below_drew1 | refine below_set ?_ GE773.out) | exact HB.out)⟩⟩
                        · rw [if_neg c71] at H
                          have c71b0 : ((rd t792 x10_2) == (Int.tmod (wrap64 (x10_2 + 1)) (wrap64 (1 + (Int.tmod (Go.bits .and .i64 a0 65535) 20))))) = false := beq_eq_false_iff_ne.mpr c71
                          have c71b1 : ((rd t792 x10_2) != (Int.tmod (wrap64 (x10_2 + 1)) (wrap64 (1 + (Int.tmod (Go.bits .and .i64 a0 65535) 20))))) = true := bne_iff_ne.mpr c71
                          exact absurd ((Option.some.inj H).trans HT_.out) (by decide)
                      · rw [if_neg c70] at H
                        exact absurd H (by simp)
                    · rw [if_neg c69] at H
                      exact absurd H (by simp)
              · rw [if_neg c63] at H
                have c63b0 : decide (x10_2 < (wrap64 (1 + (Int.tmod (Go.bits .and .i64 a0 65535) 20)))) = false := decide_eq_false c63
                clear c63
                obtain rfl := Option.some.inj H
                go_wp2
                go_ret
                exact ⟨by first | rfl | (simp [errW_none, errW_some] <;> rfl) | (simp [*, errW_none, errW_some] <;> rfl), by repeat (first | (with_reducible first | exact HB.out | apply below_alloc | apply pw_below_drewN | apply below_drew1 | refine below_set ?_ GE773.out) | exact HB.out)⟩
        · rw [if_neg c57] at H
          have c57b0 : ((t792.length : Int) == (wrap64 (1 + (Int.tmod (Go.bits .and .i64 a0 65535) 20)))) = false := beq_eq_false_iff_ne.mpr c57
          have c57b1 : ((t792.length : Int) != (wrap64 (1 + (Int.tmod (Go.bits .and .i64 a0 65535) 20)))) = true := bne_iff_ne.mpr c57
          exact absurd ((Option.some.inj H).trans HT_.out) (by decide)

/-- THE ONE PURE STATEMENT of arboristlaw13_PlaceRow: yours. -/
def arboristlaw13_PlaceRow.Pure : Prop := ∀ (a0 : Int) (a1 : Bool), (Lit.int .i64 a0).wf = true → ∃ k, arboristlaw13_PlaceRow.f k a0 a1 = some true
theorem arboristlaw13_PlaceRow.walk (P : arboristlaw13_PlaceRow.Pure) (a0 : Int) (a1 : Bool) (w : World) (w0 : (Lit.int .i64 a0).wf = true) :
    Calls Try.prog 13 #[.int .i64 a0, .bool a1] w fun e w' => e = .returned (.bool true) ∧ Below w.heap.size w w' := by
  obtain ⟨k, h⟩ := P a0 a1 w0
  refine (arboristlaw13_PlaceRow.calls k a0 a1 true w rfl h).mono ?_
  rintro e w' ⟨rfl, hd⟩
  exact ⟨rfl, hd⟩

end Go.Proofs.Ytpmfdggbccbfaaa.Pr
