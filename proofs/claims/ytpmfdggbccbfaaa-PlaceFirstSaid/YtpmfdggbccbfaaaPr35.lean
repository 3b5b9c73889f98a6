-- Printed by a program of this session's own (wip/tools/pp.py) over the kit's print.py; Lean checks it.
import Derived.Test.YtpmfdggbccbfaaaPr0
import Derived.Test.YtpmfdggbccbfaaaPr6
import Derived.Test.YtpmfdggbccbfaaaPr33
import Derived.Test.YtpmfdggbccbfaaaPr34
namespace Go.Proofs.Ytpmfdggbccbfaaa.Pr
open Go.RowKit Go.Proofs.YtpmfdggbccbfaaaW.PrintWords Go.Proofs.YtpmfdggbccbfaaaW.PrintLast Go.Proofs.YtpmfdggbccbfaaaW.PrintMore
attribute [local go_sem] max2_int min2_int max_two min_two max_three min_three max_four min_four   -- for this text's walks alone
set_option linter.unusedVariables false
set_option linter.unusedSimpArgs false

/-! ### place_After: function 35 -/
mutual
def place_After.l0 : Nat → List Int → List Int → List (List Int) → List Int → Option (List Int)
  | 0, _, _, _, _ => none
  | k + 1, x2, x3, x413000, x413001 => if (x3.length : Int) > 0 then (place_After.j1 k x2 x3 (decide ((x2.length : Int) ≤ (x413001.length : Int))) x413000 x413001) else (place_After.j1 k x2 x3 false x413000 x413001)
def place_After.j1 : Nat → List Int → List Int → Bool → List (List Int) → List Int → Option (List Int)
  | 0, _, _, _, _, _ => none
  | k + 1, x2, x3, x19, x413000, x413001 => if x19 = true then (if 0 ≤ (wrap64 ((x3.length : Int) - 1)) then (if (wrap64 ((x3.length : Int) - 1)) < (x3.length : Int) then (if (wrap64 ((x3.length : Int) - 1)) ≤ (x3.length : Int) then ((some (x3.take ((wrap64 ((x3.length : Int) - 1)) : Int).toNat : List Int)).bind fun y418 => (if (rd x3 (wrap64 ((x3.length : Int) - 1))) < 0 then ((slices_Reverse_int_int.f k x2).bind fun t421 => (some t421)) else (if x2.length < 17592186044416 then ((place_Children.f k x413000 x413001 (rd x3 (wrap64 ((x3.length : Int) - 1)))).bind fun t425 => (if y418.length + t425.length < 17592186044416 then (place_After.l0 k (x2 ++ [rd x3 (wrap64 ((x3.length : Int) - 1))]) (y418 ++ t425) x413000 x413001) else (none))) else (none)))) else (none)) else (none)) else (none)) else ((slices_Reverse_int_int.f k x2).bind fun t431 => (some t431))
end
def place_After.f (k : Nat) (l0_0 : List (List Int)) (l0_1 : List Int) : Option (List Int) := (slices_Index_int_int.f l0_1 (-1)).bind fun t413 => (place_After.l0 k ([] : List Int) (([t413] : List Int)) l0_0 l0_1)
theorem place_After.mono_l : ∀ k, (∀ y0 y1 y2 y3, LeO (place_After.l0 k y0 y1 y2 y3) (place_After.l0 (k + 1) y0 y1 y2 y3)) ∧ (∀ y0 y1 y2 y3 y4, LeO (place_After.j1 k y0 y1 y2 y3 y4) (place_After.j1 (k + 1) y0 y1 y2 y3 y4))
  | 0 => ⟨fun _ _ _ _ r h => by simp [place_After.l0] at h, fun _ _ _ _ _ r h => by simp [place_After.j1] at h⟩
  | k + 1 => by
    obtain ⟨ih0, ih1⟩ := place_After.mono_l k
    refine ⟨?_, ?_⟩
    all_goals intros
    all_goals (first | unfold place_After.l0 | unfold place_After.j1)
    all_goals repeat' first
    | (with_reducible exact ih0 _ _ _ _)
    | (with_reducible exact ih1 _ _ _ _ _)
    | (with_reducible exact place_Children.mono _ _ _ _)
    | (with_reducible exact slices_Reverse_int_int.mono _ _)
    | (with_reducible exact LeO.refl _)
    | (with_reducible exact LeO.none _)
    | (with_reducible refine LeO.ite ?_ ?_)
    | (with_reducible refine LeO.bind ?_ (fun _ => ?_))
    | exact ih0 _ _ _ _
    | exact ih1 _ _ _ _ _
    | exact place_Children.mono _ _ _ _
    | exact slices_Reverse_int_int.mono _ _
    | exact LeO.none _
    | refine LeO.ite ?_ ?_
    | refine LeO.bind ?_ (fun _ => ?_)
theorem place_After.mono : ∀ a0 a1 k, LeO (place_After.f k a0 a1) (place_After.f (k + 1) a0 a1) := by
  intro a0 a1 k
  obtain ⟨ih0, ih1⟩ := place_After.mono_l k
  unfold place_After.f
  repeat' first
      | (with_reducible exact ih0 _ _ _ _)
      | (with_reducible exact ih1 _ _ _ _ _)
      | (with_reducible exact place_Children.mono _ _ _ _)
      | (with_reducible exact slices_Reverse_int_int.mono _ _)
      | (with_reducible exact LeO.refl _)
      | (with_reducible exact LeO.none _)
      | (with_reducible refine LeO.ite ?_ ?_)
      | (with_reducible refine LeO.bind ?_ (fun _ => ?_))
      | exact ih0 _ _ _ _
      | exact ih1 _ _ _ _ _
      | exact place_Children.mono _ _ _ _
      | exact slices_Reverse_int_int.mono _ _
      | exact LeO.none _
      | refine LeO.ite ?_ ?_
      | refine LeO.bind ?_ (fun _ => ?_)
set_option maxHeartbeats 8000000 in
set_option maxRecDepth 100000 in
theorem place_After.calls (k : Nat) (A0_0 : Option Addr) (c0_0 : Nat) (l0_0 : List (List Int)) (A0_1 : Option Addr) (c0_1 : Nat) (l0_1 : List Int) (r : List Int) (w : World) (hr0_0 : Kd.C (Kd.slice 3 (Kd.int .i64)) w A0_0 l0_0.length l0_0) (hc0_0 : l0_0.length ≤ c0_0) (hr0_1 : Kd.C (Kd.int .i64) w A0_1 l0_1.length l0_1) (hc0_1 : l0_1.length ≤ c0_1) (h : place_After.f k l0_0 l0_1 = some r) :
    Calls Try.prog 35 #[.agg #[.slice A0_0 l0_0.length c0_0, .slice A0_1 l0_1.length c0_1]] w fun e w' => ∃ v0_ : Value, e = .returned (v0_) ∧ Kd.R (Kd.int .i64) 3 w' w.heap.size (fun _ => True) v0_ r ∧ Below w.heap.size w w' := by
  have hu25 := Try.underlying25
  have HR0_0 := Aside0.mk hr0_0
  have HC0_0 := Aside0.mk hc0_0
  clear hr0_0 hc0_0
  have HR0_1 := Aside0.mk hr0_1
  have HC0_1 := Aside0.mk hc0_1
  clear hr0_1 hc0_1
  have HB := Aside0.mk (Below.refl w.heap.size w)
  have H : ((slices_Index_int_int.f l0_1 (-1)).bind fun t413 => (place_After.l0 k ([] : List Int) (([t413] : List Int)) l0_0 l0_1)) = some r := h
  clear h
  replace H := Option.bind_eq_some_iff.mp H
  obtain ⟨t413, A20, H⟩ := H
  replace H : (place_After.l0 k ([] : List Int) (([t413] : List Int)) l0_0 l0_1) = some r := H
  have A2 := Aside0.mk A20
  clear A20
  obtain ⟨y414, hy414⟩ : ∃ y_ : List Int, y_ = (([t413] : List Int)) := ⟨_, rfl⟩
  replace H : (place_After.l0 k ([] : List Int) y414 l0_0 l0_1) = some r := by first | (rw [hy414]; with_reducible exact H) | (have H2_ := (Option.bind_some _ _).symm.trans H; rw [hy414]; with_reducible exact H2_) | (have H2_ := (Option.bind_some _ _).symm.trans H; with_reducible exact H2_) | with_reducible exact H | (rw [hy414]; exact H) | exact H
  have Ny414 := Aside0.mk hy414
  clear hy414
  have H' := Aside0.mk H
  clear H
  go_enter Try.func35, Try.ntmps35
  go_wp2_with (first | ((with_reducible refine gate_dst (N := 1) rfl ?_); (try (refine gate_guard (by rfl) ?_; dsimp only)); refine box_event ?hg (N := 1) ?hd (cs := #[.slice A0_0 l0_0.length c0_0, .slice A0_1 l0_1.length c0_1]) (t := 25) ?hr ?_; (case hd => rfl); (case hg => rfl); (case hr => first | (go_simp; done) | (go_simp; rfl)); intro gb412 hg w3 hbox hb; have n0_ := Aside0.mk (below_step (by repeat (first | (with_reducible first | exact HB.out | apply below_alloc | apply pw_below_drewN | apply below_drew1) | exact HB.out)) hb); have n1_ := Aside0.mk (hbox); have n2_ := Aside0.mk ((by rw [hg]; exact (below_size (by repeat (first | (with_reducible first | exact HB.out | apply below_alloc | apply pw_below_drewN | apply below_drew1) | exact HB.out))) : w.heap.size ≤ gb412)); have n3_ := Aside0.mk ((by rw [hg]; exact (below_size (by repeat (first | (with_reducible first | exact HB.out | apply below_alloc | apply pw_below_drewN | apply below_drew1) | exact HB.out))) : w.heap.size ≤ gb412)); clear HB; have HB := n0_; have BK412 := n1_; have GW412 := n2_; have GE412 := n3_; clear n0_ n1_ n2_ n3_; clear hb hbox hg; have hcz4_0 : w3.cell? ⟨gb412, 0, none⟩ = some (.slice A0_0 l0_0.length c0_0) := (blk_cell BK412.out 0).trans rfl; have hcz4_1 : w3.cell? ⟨gb412, 1, none⟩ = some (.slice A0_1 l0_1.length c0_1) := (blk_cell BK412.out 1).trans rfl; have hfz4_0 := blk_frozen BK412.out 0; have hfz4_1 := blk_frozen BK412.out 1) | ((with_reducible refine gate_callee (f := 57) rfl ?_); refine goesL_ (some 7) rfl rfl Try.func57 (by kernel_rfl) rfl #[.slice A0_1 l0_1.length c0_1, .int .i64 (-1)] rfl (by (try simp only [List.map_toArray, List.map_cons, List.map_nil]); first | done | rfl | (simp only [List.length_drop, List.length_take]; rfl)) ?_; (with_reducible refine (slices_Index_int_int.calls _ _ l0_1 (-1) t413 _ ?side1 ?side2 A2.out).mono ?_); (case side1 => repeat (first | exact (Kd.C_below HR0_1.out HB.out) | (with_reducible refine Kd.C_alloc ?_ _) | (with_reducible refine Kd.C_drewN ?_ _) | (with_reducible refine Kd.C_drew ?_))); (case side2 => exact HC0_1.out); rintro e w' ⟨rfl, ⟨nd, rfl⟩⟩; refine ⟨_, rfl, ?_⟩) | ((with_reducible refine gate_dst (N := 8) rfl ?_); (try (refine gate_guard (by rfl) ?_; dsimp only)); refine Kd.R_lit (Kd.int .i64) _ 3 ?hg (N := 8) ?hd (xs := ([t413] : List Int)) (inner := [.int .i64 t413]) (ok := fun _ => True) (okp := fun _ => True) ?hr ?hp (fun _ hk => hk) trivial (Below.refl _ _) (Nat.le_refl _) (by simp) ?_; (case hd => rfl); (case hg => rfl); (case hr => first | (go_simp; done) | (go_simp; rfl)); (case hp => exact (Reps.one (show Kd.M (Kd.int .i64) _ _ _ t413 [.int .i64 t413] from rfl) (Reps.none _ _))); intro v415 w5 ho6 hb hg_ hnew_; clear hg_ hnew_; (first | rw [← Ny414.out] at ho6 | (simp only [Int.reduceToNat] at ho6; rw [← Ny414.out] at ho6)); have n0_ := Aside0.mk (Kd.R_lower ho6 (below_size (by repeat (first | (with_reducible first | exact HB.out | apply below_alloc | apply pw_below_drewN | apply below_drew1 | refine below_set ?_ GE412.out) | exact HB.out)))); have n1_ := Aside0.mk (blk_below (g := gb412) (o := .cells #[.slice A0_0 l0_0.length c0_0, .slice A0_1 l0_1.length c0_1] 25 (0, 0)) (by (with_reducible repeat (first | refine blk_drewN ?_ _ | refine blk_drew ?_ | refine blk_alloc ?_ _)); exact BK412.out) hb); have n2_ := Aside0.mk (below_step (by repeat (first | (with_reducible first | exact HB.out | apply below_alloc | apply pw_below_drewN | apply below_drew1 | refine below_set ?_ GE412.out) | exact HB.out)) hb); clear BK412; clear HB; have HO416 := n0_; have BK412 := n1_; have HB := n2_; clear n0_ n1_ n2_; clear hb ho6))
  go_loopg [2, 3] k (fun kq v2 v3 w' => ∃ (x2_1 : List Int) (x3_1 : List Int), Aside0 (place_After.l0 kq x2_1 x3_1 l0_0 l0_1 = some r) ∧ Aside0 (kq ≤ k) ∧ Aside0 (Kd.R (Kd.int .i64) 3 w' w.heap.size (fun k_ => some k_ ≠ (v3 : Value).ownBlock) v2 x2_1) ∧ Aside0 (Kd.R (Kd.int .i64) 3 w' w.heap.size (fun k_ => some k_ ≠ (v2 : Value).ownBlock) v3 x3_1) ∧ Aside0 (w'.heap[gb412]? = some (.cells #[(.slice A0_0 l0_0.length c0_0), (.slice A0_1 l0_1.length c0_1)] 25 (0, 0))) ∧ Aside0 (Below w.heap.size w w'))
  case atStart => exact ⟨(([] : List Int)), (y414), H', ⟨Nat.le_refl _⟩, ⟨by first | exact Kd.R_nil _ _ _ _ _ | exact Kd.N_nil _ _ _ _ _ | exact Kd.V_nil _ _ _ _ _ | exact Kd.Q_nil _ _ _ _ _ | exact Kd.S_nil _ _ _ _ _⟩, ⟨by (with_reducible repeat (first | apply Kd.R_alloc | apply Kd.R_drewN | apply Kd.R_drew)); exact Kd.R_mono HO416.out (fun _ hk => (by simp [Value.ownBlock]))⟩, ⟨by (with_reducible repeat (first | refine blk_drewN ?_ _ | refine blk_drew ?_ | refine blk_alloc ?_ _)); exact BK412.out⟩, ⟨by repeat (first | (with_reducible first | exact HB.out | apply below_alloc | apply pw_below_drewN | apply below_drew1 | refine below_set ?_ GE412.out) | exact HB.out)⟩⟩
  case round =>
    clear H'
    try clear p2
    try clear c3
    try clear c5
    try clear hcz4_0
    try clear hcz4_1
    try clear hfz4_0
    try clear hfz4_1
    obtain ⟨x2_1, x3_1, HA, HK1, HO_2, HO_3, BK412, HB⟩ := hrel
    cases gk with
    | zero => exact absurd HA.out (by simp [place_After.l0])
    | succ k1 =>
      have H := HA.out
      clear HA
      simp only [place_After.l0] at H
      have HC7 := Aside0.mk H
      clear H
      go_upto_region 2 with (fail)
      go_cut [19] (fun v19 wc => ∃ (kq : Nat) (x19_6 : Bool), v19 = .bool x19_6 ∧ Aside0 (place_After.j1 kq x2_1 x3_1 x19_6 l0_0 l0_1 = some r) ∧ Aside0 (kq ≤ k1) ∧ Aside0 (Kd.R (Kd.int .i64) 3 wc w.heap.size (fun k_ => some k_ ≠ (u3 : Value).ownBlock) u2 x2_1) ∧ Aside0 (Kd.R (Kd.int .i64) 3 wc w.heap.size (fun k_ => some k_ ≠ (u2 : Value).ownBlock) u3 x3_1) ∧ Aside0 (wc.heap[gb412]? = some (.cells #[(.slice A0_0 l0_0.length c0_0), (.slice A0_1 l0_1.length c0_1)] 25 (0, 0))) ∧ Aside0 (Below w.heap.size w wc))
      case first =>
        have H := HC7.out
        clear HC7
        by_cases c8 : (x3_1.length : Int) > 0
        · rw [if_pos c8] at H
          have c8b0 : decide (0 < (x3_1.length : Int)) = true := decide_eq_true c8
          have c8b1 : decide (0 < x3_1.length) = true := decide_eq_true (by omega)
          clear c8
          (first | rw [c8b0] | (simp only [i64_w, i32_w]; rw [c8b0]) | skip)
          have H' := Aside0.mk H
          clear H
          obtain ⟨Ao9, co9, eo9⟩ := Kd.R_slice HO_3.out
          subst eo9
          obtain ⟨Ao10, co10, eo10⟩ := Kd.R_slice HO_2.out
          subst eo10
          have hcz11_0 : wr.cell? ⟨gb412, 0, none⟩ = some (.slice A0_0 l0_0.length c0_0) := (blk_cell BK412.out 0).trans rfl
          have hcz11_1 : wr.cell? ⟨gb412, 1, none⟩ = some (.slice A0_1 l0_1.length c0_1) := (blk_cell BK412.out 1).trans rfl
          have hfz11_0 := blk_frozen BK412.out 0
          have hfz11_1 := blk_frozen BK412.out 1
          go_wp2
          go_meet
          case rel => exact ⟨_, (decide ((x2_1.length : Int) ≤ (l0_1.length : Int))), (by first | rfl | (simp; done) | (simp [*]; done)), H', ⟨by have := HK1.out; first | omega | exact Nat.le_refl _⟩, ⟨by (with_reducible repeat (first | apply Kd.R_alloc | apply Kd.R_drewN | apply Kd.R_drew)); exact HO_2.out⟩, ⟨by (with_reducible repeat (first | apply Kd.R_alloc | apply Kd.R_drewN | apply Kd.R_drew)); exact HO_3.out⟩, ⟨by (with_reducible repeat (first | refine blk_drewN ?_ _ | refine blk_drew ?_ | refine blk_alloc ?_ _)); exact BK412.out⟩, ⟨by repeat (first | (with_reducible first | exact HB.out | apply below_alloc | apply pw_below_drewN | apply below_drew1 | refine below_set ?_ GE412.out) | exact HB.out)⟩⟩
        · rw [if_neg c8] at H
          have c8b0 : decide (0 < (x3_1.length : Int)) = false := decide_eq_false c8
          have c8b1 : decide (0 < x3_1.length) = false := decide_eq_false (by omega)
          clear c8
          (first | rw [c8b0] | (simp only [i64_w, i32_w]; rw [c8b0]) | skip)
          have H' := Aside0.mk H
          clear H
          obtain ⟨Ao12, co12, eo12⟩ := Kd.R_slice HO_3.out
          subst eo12
          go_wp2
          go_meet
          case rel => exact ⟨_, (false), (by first | rfl | (simp; done) | (simp [*]; done)), H', ⟨by have := HK1.out; first | omega | exact Nat.le_refl _⟩, ⟨by (with_reducible repeat (first | apply Kd.R_alloc | apply Kd.R_drewN | apply Kd.R_drew)); exact HO_2.out⟩, ⟨by (with_reducible repeat (first | apply Kd.R_alloc | apply Kd.R_drewN | apply Kd.R_drew)); exact HO_3.out⟩, ⟨by (with_reducible repeat (first | refine blk_drewN ?_ _ | refine blk_drew ?_ | refine blk_alloc ?_ _)); exact BK412.out⟩, ⟨by repeat (first | (with_reducible first | exact HB.out | apply below_alloc | apply pw_below_drewN | apply below_drew1 | refine below_set ?_ GE412.out) | exact HB.out)⟩⟩
      case rest =>
        clear HC7
        try clear p2
        try clear c3
        try clear c5
        try clear c8
        try clear c8b0
        try clear c8b1
        try clear hcz11_0
        try clear hcz11_1
        try clear hcz4_0
        try clear hcz4_1
        try clear hfz11_0
        try clear hfz11_1
        try clear hfz4_0
        try clear hfz4_1
        try clear p2
        obtain ⟨kq, x19_6, rfl, HA, HJ6, HO_2, HO_3, BK412, HB⟩ := hcut
        cases kq with
        | zero => exact absurd HA.out (by simp [place_After.j1])
        | succ kj6 =>
          have H := HA.out
          clear HA
          simp only [place_After.j1] at H
          by_cases c13 : x19_6 = true
          · subst c13
            have H1 : (if 0 ≤ (wrap64 ((x3_1.length : Int) - 1)) then (if (wrap64 ((x3_1.length : Int) - 1)) < (x3_1.length : Int) then (if (wrap64 ((x3_1.length : Int) - 1)) ≤ (x3_1.length : Int) then ((some (x3_1.take ((wrap64 ((x3_1.length : Int) - 1)) : Int).toNat : List Int)).bind fun y418 => (if (rd x3_1 (wrap64 ((x3_1.length : Int) - 1))) < 0 then ((slices_Reverse_int_int.f kj6 x2_1).bind fun t421 => (some t421)) else (if x2_1.length < 17592186044416 then ((place_Children.f kj6 l0_0 l0_1 (rd x3_1 (wrap64 ((x3_1.length : Int) - 1)))).bind fun t425 => (if y418.length + t425.length < 17592186044416 then (place_After.l0 kj6 (x2_1 ++ [rd x3_1 (wrap64 ((x3_1.length : Int) - 1))]) (y418 ++ t425) l0_0 l0_1) else (none))) else (none)))) else (none)) else (none)) else (none)) = some r := by rw [if_pos rfl] at H; exact H
            clear H
            have H := H1
            clear H1
            obtain ⟨ji14, hji14⟩ : ∃ j_ : Int, (wrap64 ((x3_1.length : Int) - 1)) = j_ := ⟨_, rfl⟩
            replace H : (if 0 ≤ (ji14) then (if (ji14) < (x3_1.length : Int) then (if (ji14) ≤ (x3_1.length : Int) then ((some (x3_1.take ((ji14) : Int).toNat : List Int)).bind fun y418 => (if (rd x3_1 (ji14)) < 0 then ((slices_Reverse_int_int.f kj6 x2_1).bind fun t421 => (some t421)) else (if x2_1.length < 17592186044416 then ((place_Children.f kj6 l0_0 l0_1 (rd x3_1 (ji14))).bind fun t425 => (if y418.length + t425.length < 17592186044416 then (place_After.l0 kj6 (x2_1 ++ [rd x3_1 (ji14)]) (y418 ++ t425) l0_0 l0_1) else (none))) else (none)))) else (none)) else (none)) else (none)) = some r := by first | (rw [hji14] at H; exact H) | (simp only [hji14] at H ⊢; exact H)
            have hji14w : (IntKind.i64.wrap ((x3_1.length : Int) - 1)) = ji14 := (i64_w _).trans hji14
            by_cases c15 : 0 ≤ (ji14)
            · rw [if_pos c15] at H
              have c15b0 : decide (0 ≤ (ji14)) = true := decide_eq_true c15
              clear c15
              by_cases c16 : (ji14) < (x3_1.length : Int)
              · rw [if_pos c16] at H
                have c16b0 : decide ((ji14) < (x3_1.length : Int)) = true := decide_eq_true c16
                clear c16
                by_cases c17 : (ji14) ≤ (x3_1.length : Int)
                · rw [if_pos c17] at H
                  have c17b0 := eq_true c17
                  have c17b1 : decide ((ji14) ≤ (x3_1.length : Int)) = true := decide_eq_true c17
                  clear c17
                  obtain ⟨y418, hy418⟩ : ∃ y_ : List Int, y_ = (x3_1.take ((ji14) : Int).toNat) := ⟨_, rfl⟩
                  replace H : (if (rd x3_1 (ji14)) < 0 then ((slices_Reverse_int_int.f kj6 x2_1).bind fun t421 => (some t421)) else (if x2_1.length < 17592186044416 then ((place_Children.f kj6 l0_0 l0_1 (rd x3_1 (ji14))).bind fun t425 => (if y418.length + t425.length < 17592186044416 then (place_After.l0 kj6 (x2_1 ++ [rd x3_1 (ji14)]) (y418 ++ t425) l0_0 l0_1) else (none))) else (none))) = some r := by first | (rw [hy418]; with_reducible exact H) | (have H2_ := (Option.bind_some _ _).symm.trans H; rw [hy418]; with_reducible exact H2_) | (have H2_ := (Option.bind_some _ _).symm.trans H; with_reducible exact H2_) | with_reducible exact H | (rw [hy418]; exact H) | exact H
                  have Ny418 := Aside0.mk hy418
                  clear hy418
                  by_cases c18 : (rd x3_1 (ji14)) < 0
                  · rw [if_pos c18] at H
                    have c18b0 : decide ((rd x3_1 (ji14)) < 0) = true := decide_eq_true c18
                    clear c18
                    replace H := Option.bind_eq_some_iff.mp H
                    obtain ⟨t421, A190, H⟩ := H
                    replace H : (some t421) = some r := H
                    have A19 := Aside0.mk A190
                    clear A190
                    obtain rfl := Option.some.inj H
                    obtain ⟨Ao20, co20, eo20⟩ := Kd.R_slice HO_3.out
                    subst eo20
                    have p417 : 0 ≤ ((ji14) : Int) := of_decide_eq_true (by first | (with_reducible assumption) | assumption)
                    have q417 : (ji14) < (x3_1.length : Int) := of_decide_eq_true (by first | (with_reducible assumption) | assumption)
                    obtain ⟨ad417, e417, hx417_0⟩ := Kd.at_int (Kd.R_reads' HO_3.out).2.2 (ji14) p417 q417
                    cases e417
                    replace p417 := eq_true p417
                    replace q417 := eq_true q417
                    have q21 : ((ji14) : Int) ≤ ((x3_1.length : Int) : Int) := of_decide_eq_true (by first | (with_reducible assumption) | assumption)
                    obtain ⟨i021, hi021, _, hsz21, _⟩ := info_parts info3
                    have hcut21 := cut_to (P := Try.prog) 23 3 .i64 Try.underlying23 hi021 (some ad417) x3_1.length co20 (ji14) (of_decide_eq_true (by first | (with_reducible assumption) | assumption)) q21 (Kd.R_reads' HO_3.out).2.1
                    have hr21 := Kd.R_take (m := ((ji14) : Int).toNat) HO_3.out (by omega)
                    have hy21 : y418.length = ((ji14) : Int).toNat := (by rw [Ny418.out, List.length_take]; omega)
                    rw [← Ny418.out] at hr21
                    rw [← hy21] at hr21 hcut21
                    clear hy21 hi021 hsz21 HO_3
                    have HO420 := Aside0.mk hr21
                    clear hr21
                    replace q21 := eq_true q21
                    obtain ⟨Ao22, co22, eo22⟩ := Kd.R_slice HO_2.out
                    subst eo22
                    go_wp2_with (first | ((with_reducible refine gate_callee (f := 58) rfl ?_); refine goesL_ (some 43) rfl rfl Try.func58 (by kernel_rfl) rfl #[.slice Ao22 x2_1.length co22] rfl (by (try simp only [List.map_toArray, List.map_cons, List.map_nil]); first | done | rfl | (simp only [List.length_drop, List.length_take]; rfl)) ?_; (with_reducible refine (slices_Reverse_int_int.calls kj6 (fun k_ => some k_ = (.slice Ao22 x2_1.length co22 : Value).ownBlock) (.slice Ao22 x2_1.length co22) x2_1 t421 w _ ?side1 ?side2 A19.out).mono ?_); (case side1 => repeat (first | (with_reducible first | exact HB.out | apply below_alloc | apply pw_below_drewN | apply below_drew1 | refine below_set ?_ GE412.out) | exact HB.out)); (case side2 => exact Kd.R_tight rfl HO_2.out); rintro e w23 ⟨rfl, hy0, hb, hkp⟩; refine ⟨_, rfl, ?_⟩; have n0_ := Aside0.mk (Kd.R_reok rfl hy0 (fun k_ e_ => HO_2.out.1 k_ e_)); have n1_ := Aside0.mk (Kd.R_mono (ok' := fun k_ => some k_ ≠ (.slice Ao22 x2_1.length co22 : Value).ownBlock) (Kd.R_keptB (HO420.out) hkp (fun k_ hk_ hs_ => (hk_) hs_)) (fun k_ hk_ => hk_.1)); have n2_ := Aside0.mk (blk_kept (by (with_reducible repeat (first | refine blk_drewN ?_ _ | refine blk_drew ?_ | refine blk_alloc ?_ _)); exact BK412.out) hkp (fun hs_ => (fun e_ => (Kd.R_ne HO_2.out BK412.out (by decide)) e_) hs_)); have n3_ := Aside0.mk (hb); clear HO_2; clear HO420; clear BK412; clear HB; have HO_2 := n0_; have HO420 := n1_; have BK412 := n2_; have HB := n3_; clear n0_ n1_ n2_ n3_; (try clear hb); (try clear hkp); (try clear hy0)))
                    go_ret
                    exact ⟨_, by first | rfl | (simp [errW_none, errW_some] <;> rfl) | (simp only [← hji14]; first | rfl | (simp [errW_none, errW_some] <;> rfl)) | (simp [*, errW_none, errW_some] <;> rfl), by (with_reducible repeat (first | apply Kd.R_alloc | apply Kd.R_drewN | apply Kd.R_drew)); exact Kd.R_mono HO_2.out (fun _ hk => trivial), by repeat (first | (with_reducible first | exact HB.out | apply below_alloc | apply pw_below_drewN | apply below_drew1 | refine below_set ?_ GE412.out) | exact HB.out)⟩
                  · rw [if_neg c18] at H
                    have c18b0 : decide ((rd x3_1 (ji14)) < 0) = false := decide_eq_false c18
                    clear c18
                    by_cases c24 : x2_1.length < 17592186044416
                    · rw [if_pos c24] at H
                      have LMc24 := Aside0.mk c24
                      clear c24
                      obtain ⟨y422, hy422⟩ : ∃ y_ : List Int, y_ = (x2_1 ++ [rd x3_1 (ji14)]) := ⟨_, rfl⟩
                      replace H : ((place_Children.f kj6 l0_0 l0_1 (rd x3_1 (ji14))).bind fun t425 => (if y418.length + t425.length < 17592186044416 then (place_After.l0 kj6 y422 (y418 ++ t425) l0_0 l0_1) else (none))) = some r := by first | (rw [hy422]; with_reducible exact H) | (have H2_ := (Option.bind_some _ _).symm.trans H; rw [hy422]; with_reducible exact H2_) | (have H2_ := (Option.bind_some _ _).symm.trans H; with_reducible exact H2_) | with_reducible exact H | (rw [hy422]; exact H) | exact H
                      have Ny422 := Aside0.mk hy422
                      clear hy422
                      replace H := Option.bind_eq_some_iff.mp H
                      obtain ⟨t425, A250, H⟩ := H
                      replace H : (if y418.length + t425.length < 17592186044416 then (place_After.l0 kj6 y422 (y418 ++ t425) l0_0 l0_1) else (none)) = some r := H
                      have A25 := Aside0.mk A250
                      clear A250
                      by_cases c26 : y418.length + t425.length < 17592186044416
                      · rw [if_pos c26] at H
                        have LMc26 := Aside0.mk c26
                        clear c26
                        obtain ⟨y428, hy428⟩ : ∃ y_ : List Int, y_ = (y418 ++ t425) := ⟨_, rfl⟩
                        replace H : (place_After.l0 kj6 y422 y428 l0_0 l0_1) = some r := by first | (rw [hy428]; with_reducible exact H) | (have H2_ := (Option.bind_some _ _).symm.trans H; rw [hy428]; with_reducible exact H2_) | (have H2_ := (Option.bind_some _ _).symm.trans H; with_reducible exact H2_) | with_reducible exact H | (rw [hy428]; exact H) | exact H
                        have Ny428 := Aside0.mk hy428
                        clear hy428
                        have H' := Aside0.mk H
                        clear H
                        obtain ⟨Ao27, co27, eo27⟩ := Kd.R_slice HO_3.out
                        subst eo27
                        have p417 : 0 ≤ ((ji14) : Int) := of_decide_eq_true (by first | (with_reducible assumption) | assumption)
                        have q417 : (ji14) < (x3_1.length : Int) := of_decide_eq_true (by first | (with_reducible assumption) | assumption)
                        obtain ⟨ad417, e417, hx417_0⟩ := Kd.at_int (Kd.R_reads' HO_3.out).2.2 (ji14) p417 q417
                        cases e417
                        replace p417 := eq_true p417
                        replace q417 := eq_true q417
                        have q28 : ((ji14) : Int) ≤ ((x3_1.length : Int) : Int) := of_decide_eq_true (by first | (with_reducible assumption) | assumption)
                        obtain ⟨i028, hi028, _, hsz28, _⟩ := info_parts info3
                        have hcut28 := cut_to (P := Try.prog) 23 3 .i64 Try.underlying23 hi028 (some ad417) x3_1.length co27 (ji14) (of_decide_eq_true (by first | (with_reducible assumption) | assumption)) q28 (Kd.R_reads' HO_3.out).2.1
                        have hr28 := Kd.R_take (m := ((ji14) : Int).toNat) HO_3.out (by omega)
                        have hy28 : y418.length = ((ji14) : Int).toNat := (by rw [Ny418.out, List.length_take]; omega)
                        rw [← Ny418.out] at hr28
                        rw [← hy28] at hr28 hcut28
                        clear hy28 hi028 hsz28 HO_3
                        have HO420 := Aside0.mk hr28
                        clear hr28
                        replace q28 := eq_true q28
                        go_wp2_with (first | ((with_reducible refine gate_builtin (b := .append) (xs := #[.tmp 33, .tmp 35]) rfl ?_); (try (refine gate_guard (by rfl) ?_; dsimp only)); at_builtin; refine Kd.R_append (Kd.int .i64) (w0 := w) w.heap.size rfl (.tmp 33) (.tmp 35) 23 3 (.int .i64 0) 8 rfl Try.underlying23 info3 rfl (by decide) (by omega) u2 x2_1 (rd x3_1 (ji14)) [.int .i64 (rd x3_1 (ji14))] (fun k_ => some k_ ≠ (.slice (some ad417) y418.length co27 : Value).ownBlock) (fun _ => False) rfl rfl ?aP (fun _ hk => hk.elim) ?aF ?aO ?aB ?aS ?aL ?_; (case aP => exact rfl); (case aB => exact (by repeat (first | (with_reducible first | exact HB.out | apply below_alloc | apply pw_below_drewN | apply below_drew1 | refine below_set ?_ GE412.out) | exact HB.out))); (case aF => exact (fun k_ hk => Kd.fresh' (Kd.R_lt (by (with_reducible repeat (first | apply Kd.R_alloc | apply Kd.R_drewN | apply Kd.R_drew)); exact HO420.out)) k_ hk)); (case aO => exact (by (with_reducible repeat (first | apply Kd.R_alloc | apply Kd.R_drewN | apply Kd.R_drew)); exact HO_2.out)); (case aS => exact (below_size (by repeat (first | (with_reducible first | exact HB.out | apply below_alloc | apply pw_below_drewN | apply below_drew1 | refine below_set ?_ GE412.out) | exact HB.out)))); (case aL => have := LMc24.out; omega); intro v423 w29 ho hb hg hat; rw [← Ny422.out] at ho; have n0_ := Aside0.mk (Kd.R_after (ok := (fun _ => True)) (by (with_reducible repeat (first | apply Kd.R_alloc | apply Kd.R_drewN | apply Kd.R_drew)); exact Kd.R_mono HO420.out (fun _ hk => ⟨trivial, hk⟩)) hg hat); have n1_ := Aside0.mk (blk_grown (g := gb412) (o := .cells #[.slice A0_0 l0_0.length c0_0, .slice A0_1 l0_1.length c0_1] 25 (0, 0)) (by (with_reducible repeat (first | refine blk_drewN ?_ _ | refine blk_drew ?_ | refine blk_alloc ?_ _)); exact BK412.out) hg (Kd.R_ne HO_2.out BK412.out (by decide))); have n2_ := Aside0.mk (hb); have n3_ := Aside0.mk (ho); clear HO420; clear BK412; clear HB; clear HO_2; have HO420 := n0_; have BK412 := n1_; have HB := n2_; have HO424 := n3_; clear n0_ n1_ n2_ n3_; clear ho hb hg hat; have hcz30_0 : w29.cell? ⟨gb412, 0, none⟩ = some (.slice A0_0 l0_0.length c0_0) := (blk_cell BK412.out 0).trans rfl; have hcz30_1 : w29.cell? ⟨gb412, 1, none⟩ = some (.slice A0_1 l0_1.length c0_1) := (blk_cell BK412.out 1).trans rfl; have hfz30_0 := blk_frozen BK412.out 0; have hfz30_1 := blk_frozen BK412.out 1) | ((with_reducible refine gate_callee (f := 33) rfl ?_); refine goesL_ (some 40) rfl rfl Try.func33 (by kernel_rfl) rfl #[.agg #[.slice A0_0 l0_0.length c0_0, .slice A0_1 l0_1.length c0_1], .int .i64 (rd x3_1 (ji14))] rfl (by (try simp only [List.map_toArray, List.map_cons, List.map_nil]); first | done | (simp only [hji14]; rfl) | rfl | (simp only [List.length_drop, List.length_take]; rfl)) ?_; (with_reducible refine (place_Children.calls kj6 _ _ l0_0 _ _ l0_1 (rd x3_1 (ji14)) t425 _ ?side1 ?side2 ?side3 ?side4 A25.out).mono ?_); (case side1 => repeat (first | exact (Kd.C_below HR0_0.out HB.out) | (with_reducible refine Kd.C_alloc ?_ _) | (with_reducible refine Kd.C_drewN ?_ _) | (with_reducible refine Kd.C_drew ?_))); (case side2 => exact HC0_0.out); (case side3 => repeat (first | exact (Kd.C_below HR0_1.out HB.out) | (with_reducible refine Kd.C_alloc ?_ _) | (with_reducible refine Kd.C_drewN ?_ _) | (with_reducible refine Kd.C_drew ?_))); (case side4 => exact HC0_1.out); rintro e w31 ⟨v426, rfl, ho0, hb⟩; refine ⟨_, rfl, ?_⟩; have n0_ := Aside0.mk (Kd.R_elder' (by (with_reducible repeat (first | apply Kd.R_alloc | apply Kd.R_drewN | apply Kd.R_drew)); exact HO420.out) (Kd.R_base ho0) hb); have n1_ := Aside0.mk (Kd.R_elder' (by (with_reducible repeat (first | apply Kd.R_alloc | apply Kd.R_drewN | apply Kd.R_drew)); exact HO424.out) (Kd.R_base ho0) hb); have n2_ := Aside0.mk (Kd.R_lower (Kd.R_new' (Kd.R_new' ho0 (Kd.R_lt (by (with_reducible repeat (first | apply Kd.R_alloc | apply Kd.R_drewN | apply Kd.R_drew)); exact HO420.out))) (Kd.R_lt (by (with_reducible repeat (first | apply Kd.R_alloc | apply Kd.R_drewN | apply Kd.R_drew)); exact HO424.out))) (below_size (by repeat (first | (with_reducible first | exact HB.out | apply below_alloc | apply pw_below_drewN | apply below_drew1 | refine below_set ?_ GE412.out) | exact HB.out)))); have n3_ := Aside0.mk (blk_below (g := gb412) (o := .cells #[.slice A0_0 l0_0.length c0_0, .slice A0_1 l0_1.length c0_1] 25 (0, 0)) (by (with_reducible repeat (first | refine blk_drewN ?_ _ | refine blk_drew ?_ | refine blk_alloc ?_ _)); exact BK412.out) hb); have n4_ := Aside0.mk (below_step (by repeat (first | (with_reducible first | exact HB.out | apply below_alloc | apply pw_below_drewN | apply below_drew1 | refine below_set ?_ GE412.out) | exact HB.out)) hb); clear HO420; clear HO424; clear BK412; clear HB; have HO420 := n0_; have HO424 := n1_; have HO427 := n2_; have BK412 := n3_; have HB := n4_; clear n0_ n1_ n2_ n3_ n4_; (try clear hb); (try clear hb2); (try clear hk); (try clear hi); (try clear ho0); obtain ⟨Ao33, co33, eo33⟩ := Kd.R_slice HO427.out; subst eo33) | ((with_reducible refine gate_builtin (b := .append) (xs := #[.tmp 37, .tmp 40]) rfl ?_); (try (refine gate_guard (by rfl) ?_; dsimp only)); at_builtin; refine Kd.R_append_rows (Kd.int .i64) (w0 := w) w.heap.size rfl (.tmp 37) (.tmp 40) 23 3 (.int .i64 0) 8 rfl Try.underlying23 info3 rfl (by decide) (by omega) (.slice (some ad417) y418.length co27) y418 t425 _ _ _ (fun k_ => some k_ ≠ (v423 : Value).ownBlock ∧ some k_ ≠ (.slice Ao33 t425.length co33 : Value).ownBlock) (fun _ => False) rfl rfl ?aO ?aR (fun _ _ h => h) (fun _ h => h.elim) ?aF ?aB ?aS ?aL ?_; (case aR => repeat (first | exact (Kd.R_reads' HO427.out).2.2 | (with_reducible refine Kd.C_alloc ?_ _) | (with_reducible refine Kd.C_drewN ?_ _) | (with_reducible refine Kd.C_drew ?_))); (case aB => exact (by repeat (first | (with_reducible first | exact HB.out | apply below_alloc | apply pw_below_drewN | apply below_drew1 | refine below_set ?_ GE412.out) | exact HB.out))); (case aF => exact (fun k_ hk => ⟨Kd.fresh' (Kd.R_lt (by (with_reducible repeat (first | apply Kd.R_alloc | apply Kd.R_drewN | apply Kd.R_drew)); exact HO424.out)) k_ hk, Kd.fresh' (Kd.R_lt (by (with_reducible repeat (first | apply Kd.R_alloc | apply Kd.R_drewN | apply Kd.R_drew)); exact HO427.out)) k_ hk⟩)); (case aO => exact (by (with_reducible repeat (first | apply Kd.R_alloc | apply Kd.R_drewN | apply Kd.R_drew)); exact Kd.R_mono HO420.out (fun _ hk => ⟨hk.1.2, hk.2⟩))); (case aS => exact (below_size (by repeat (first | (with_reducible first | exact HB.out | apply below_alloc | apply pw_below_drewN | apply below_drew1 | refine below_set ?_ GE412.out) | exact HB.out)))); (case aL => have := LMc26.out; omega); intro v429 w32 ho hb hg hat; rw [← Ny428.out] at ho; have n0_ := Aside0.mk (blk_grown (g := gb412) (o := .cells #[.slice A0_0 l0_0.length c0_0, .slice A0_1 l0_1.length c0_1] 25 (0, 0)) (by (with_reducible repeat (first | refine blk_drewN ?_ _ | refine blk_drew ?_ | refine blk_alloc ?_ _)); exact BK412.out) hg (Kd.R_ne HO420.out BK412.out (by decide))); have n1_ := Aside0.mk (Kd.R_after (ok := (fun k_ => some k_ ≠ (.slice Ao33 t425.length co33 : Value).ownBlock)) (by (with_reducible repeat (first | apply Kd.R_alloc | apply Kd.R_drewN | apply Kd.R_drew)); exact Kd.R_mono HO424.out (fun _ hk => ⟨hk.2, hk.1⟩)) hg hat); have n2_ := Aside0.mk (Kd.R_after (ok := (fun k_ => some k_ ≠ (v423 : Value).ownBlock)) (by (with_reducible repeat (first | apply Kd.R_alloc | apply Kd.R_drewN | apply Kd.R_drew)); exact Kd.R_mono HO427.out (fun _ hk => ⟨hk.2, hk.1.2⟩)) hg hat); have n3_ := Aside0.mk (hb); have n4_ := Aside0.mk (ho); clear BK412; clear HO424; clear HO427; clear HB; clear HO420; have BK412 := n0_; have HO424 := n1_; have HO427 := n2_; have HB := n3_; have HO430 := n4_; clear n0_ n1_ n2_ n3_ n4_; clear ho hb hg hat))
                        first | go_roundg kj6 | (simp only [← hji14]; (try simp only [← hji14] at H'); go_roundg kj6)
                        case measure => have := HK1.out; have := HJ6.out; omega
                        case rel => exact ⟨(y422), (y428), H', ⟨by have := HK1.out; have := HJ6.out; omega⟩, ⟨by (with_reducible repeat (first | apply Kd.R_alloc | apply Kd.R_drewN | apply Kd.R_drew)); exact Kd.R_mono HO424.out (fun _ hk => hk.2)⟩, ⟨by (with_reducible repeat (first | apply Kd.R_alloc | apply Kd.R_drewN | apply Kd.R_drew)); exact Kd.R_mono HO430.out (fun _ hk => hk.1)⟩, ⟨by (with_reducible repeat (first | refine blk_drewN ?_ _ | refine blk_drew ?_ | refine blk_alloc ?_ _)); exact BK412.out⟩, ⟨by repeat (first | (with_reducible first | exact HB.out | apply below_alloc | apply pw_below_drewN | apply below_drew1 | refine below_set ?_ GE412.out) | exact HB.out)⟩⟩
                      · rw [if_neg c26] at H
                        exact absurd H (by simp)
                    · rw [if_neg c24] at H
                      exact absurd H (by simp)
                · rw [if_neg c17] at H
                  exact absurd H (by simp)
              · rw [if_neg c16] at H
                exact absurd H (by simp)
            · rw [if_neg c15] at H
              exact absurd H (by simp)
          · replace c13 := Bool.eq_false_iff.mpr c13
            subst c13
            have H1 : ((slices_Reverse_int_int.f kj6 x2_1).bind fun t431 => (some t431)) = some r := by rw [if_neg (show ¬ (false = true) by decide)] at H; exact H
            clear H
            have H := H1
            clear H1
            replace H := Option.bind_eq_some_iff.mp H
            obtain ⟨t431, A340, H⟩ := H
            replace H : (some t431) = some r := H
            have A34 := Aside0.mk A340
            clear A340
            obtain rfl := Option.some.inj H
            obtain ⟨Ao35, co35, eo35⟩ := Kd.R_slice HO_2.out
            subst eo35
            go_wp2_with (first | ((with_reducible refine gate_callee (f := 58) rfl ?_); refine goesL_ (some 43) rfl rfl Try.func58 (by kernel_rfl) rfl #[.slice Ao35 x2_1.length co35] rfl (by (try simp only [List.map_toArray, List.map_cons, List.map_nil]); first | done | rfl | (simp only [List.length_drop, List.length_take]; rfl)) ?_; (with_reducible refine (slices_Reverse_int_int.calls kj6 (fun k_ => some k_ = (.slice Ao35 x2_1.length co35 : Value).ownBlock) (.slice Ao35 x2_1.length co35) x2_1 t431 w _ ?side1 ?side2 A34.out).mono ?_); (case side1 => repeat (first | (with_reducible first | exact HB.out | apply below_alloc | apply pw_below_drewN | apply below_drew1 | refine below_set ?_ GE412.out) | exact HB.out)); (case side2 => exact Kd.R_tight rfl HO_2.out); rintro e w36 ⟨rfl, hy0, hb, hkp⟩; refine ⟨_, rfl, ?_⟩; have n0_ := Aside0.mk (Kd.R_reok rfl hy0 (fun k_ e_ => HO_2.out.1 k_ e_)); have n1_ := Aside0.mk (Kd.R_mono (ok' := fun k_ => some k_ ≠ (.slice Ao35 x2_1.length co35 : Value).ownBlock) (Kd.R_keptB (HO_3.out) hkp (fun k_ hk_ hs_ => (hk_) hs_)) (fun k_ hk_ => hk_.1)); have n2_ := Aside0.mk (blk_kept (by (with_reducible repeat (first | refine blk_drewN ?_ _ | refine blk_drew ?_ | refine blk_alloc ?_ _)); exact BK412.out) hkp (fun hs_ => (fun e_ => (Kd.R_ne HO_2.out BK412.out (by decide)) e_) hs_)); have n3_ := Aside0.mk (hb); clear HO_2; clear HO_3; clear BK412; clear HB; have HO_2 := n0_; have HO_3 := n1_; have BK412 := n2_; have HB := n3_; clear n0_ n1_ n2_ n3_; (try clear hb); (try clear hkp); (try clear hy0)))
            go_ret
            exact ⟨_, by first | rfl | (simp [errW_none, errW_some] <;> rfl) | (simp [*, errW_none, errW_some] <;> rfl), by (with_reducible repeat (first | apply Kd.R_alloc | apply Kd.R_drewN | apply Kd.R_drew)); exact Kd.R_mono HO_2.out (fun _ hk => trivial), by repeat (first | (with_reducible first | exact HB.out | apply below_alloc | apply pw_below_drewN | apply below_drew1 | refine below_set ?_ GE412.out) | exact HB.out)⟩

end Go.Proofs.Ytpmfdggbccbfaaa.Pr
