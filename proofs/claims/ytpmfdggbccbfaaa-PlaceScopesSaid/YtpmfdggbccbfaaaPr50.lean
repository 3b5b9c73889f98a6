-- Printed by wip/tools/pp.py over the kit's print.py, several texts in one (wip/tools/mergepr.py); Lean checks it.
import Derived.Test.YtpmfdggbccbfaaaPr0
import Derived.Test.YtpmfdggbccbfaaaPr17
import Derived.Test.YtpmfdggbccbfaaaPr42
namespace Go.Proofs.Ytpmfdggbccbfaaa.Pr
open Go.RowKit Go.Proofs.YtpmfdggbccbfaaaW.PrintWords Go.Proofs.YtpmfdggbccbfaaaW.PrintLast Go.Proofs.YtpmfdggbccbfaaaW.PrintMore
attribute [local go_sem] max2_int min2_int max_two min_two max_three min_three max_four min_four
set_option linter.unusedVariables false
set_option linter.unusedSimpArgs false
/-! ### arboristref06_small: function 71 -/
def arboristref06_small.f (a0 : Int) (a1 : Int) : Option (Bool) := if a0 ≥ (wrap64 (-a1)) then (some (decide (a0 ≤ a1))) else (some false)
set_option maxHeartbeats 8000000 in
set_option maxRecDepth 100000 in
theorem arboristref06_small.calls (a0 : Int) (a1 : Int) (r : Bool) (w : World) (h : arboristref06_small.f a0 a1 = some r) :
  Calls Try.prog 71 #[.int .i64 a0, .int .i64 a1] w fun e w' => e = .returned (.bool r) ∧ Drawn0 w w' := by
 have H : (if a0 ≥ (wrap64 (-a1)) then (some (decide (a0 ≤ a1))) else (some false)) = some r := h;clear h;by_cases c3 : a0 ≥ (wrap64 (-a1))
 ·rw [if_pos c3] at H
  have c3b0 : decide ((wrap64 (-a1)) ≤ a0) = true := decide_eq_true c3;clear c3;obtain rfl := Option.some.inj H;go_enter Try.func71, Try.ntmps71
  go_wp2
  go_ret
  exact ⟨by first | rfl | (simp; done) | (simp [*]; done), by repeat (first | exact Drawn0.refl _ | apply Drawn0.step)⟩
 ·rw [if_neg c3] at H
  have c3b0 : decide ((wrap64 (-a1)) ≤ a0) = false := decide_eq_false c3;clear c3;obtain rfl := Option.some.inj H;go_enter Try.func71, Try.ntmps71
  go_wp2
  go_ret
  exact ⟨by first | rfl | (simp; done) | (simp [*]; done), by repeat (first | exact Drawn0.refl _ | apply Drawn0.step)⟩
/-! ### arboristref06_scope: function 79 -/
def arboristref06_scope.f (k : Nat) (l0_0 : List (List Int)) (l0_1 : List (S69)) (l0_2 : List (S73)) (l1 : List Int) : Option (Bool) := if (l1.length : Int) < 1 then (some false) else (if (l1.length : Int) > 6 then (some false) else ((arboristref01_Rising.f k l1).bind fun t709 => (if t709 = true then (if 0 < (l1.length : Int) then (if (rd l1 0) ≥ 0 then (if 0 ≤ (wrap64 ((l1.length : Int) - 1)) then (if (wrap64 ((l1.length : Int) - 1)) < (l1.length : Int) then (some (decide ((rd l1 (wrap64 ((l1.length : Int) - 1))) < (l0_0.length : Int)))) else (none)) else (none)) else (some false)) else (none)) else (some false))))
set_option maxHeartbeats 8000000 in
set_option maxRecDepth 100000 in
theorem arboristref06_scope.calls (k : Nat) (A0_0 : Option Addr) (c0_0 : Nat) (l0_0 : List (List Int)) (A0_1 : Option Addr) (c0_1 : Nat) (l0_1 : List (S69)) (A0_2 : Option Addr) (c0_2 : Nat) (l0_2 : List (S73)) (A1 : Option Addr) (c1 : Nat) (l1 : List Int) (r : Bool) (w : World) (hr0_0 : Kd.C (Kd.slice 3 (Kd.int .i64)) w A0_0 l0_0.length l0_0) (hc0_0 : l0_0.length ≤ c0_0) (hr0_1 : Kd.C k69 w A0_1 l0_1.length l0_1) (hc0_1 : l0_1.length ≤ c0_1) (hr0_2 : Kd.C k73 w A0_2 l0_2.length l0_2) (hc0_2 : l0_2.length ≤ c0_2) (hr1 : Kd.C (Kd.int .i64) w A1 l1.length l1) (hc1 : l1.length ≤ c1) (h : arboristref06_scope.f k l0_0 l0_1 l0_2 l1 = some r) :
  Calls Try.prog 79 #[.agg #[.slice A0_0 l0_0.length c0_0, .slice A0_1 l0_1.length c0_1, .slice A0_2 l0_2.length c0_2], .slice A1 l1.length c1] w fun e w' => e = .returned (.bool r) ∧ Below w.heap.size w w' := by
 have hu49 := Try.underlying49;have HR0_0 := Aside0.mk hr0_0;have HC0_0 := Aside0.mk hc0_0;clear hr0_0 hc0_0;have HR0_1 := Aside0.mk hr0_1;have HC0_1 := Aside0.mk hc0_1;clear hr0_1 hc0_1;have HR0_2 := Aside0.mk hr0_2;have HC0_2 := Aside0.mk hc0_2;clear hr0_2 hc0_2;have HR1 := Aside0.mk hr1;have HC1 := Aside0.mk hc1;clear hr1 hc1;have HB := Aside0.mk (Below.refl w.heap.size w);have H : (if (l1.length : Int) < 1 then (some false) else (if (l1.length : Int) > 6 then (some false) else ((arboristref01_Rising.f k l1).bind fun t709 => (if t709 = true then (if 0 < (l1.length : Int) then (if (rd l1 0) ≥ 0 then (if 0 ≤ (wrap64 ((l1.length : Int) - 1)) then (if (wrap64 ((l1.length : Int) - 1)) < (l1.length : Int) then (some (decide ((rd l1 (wrap64 ((l1.length : Int) - 1))) < (l0_0.length : Int)))) else (none)) else (none)) else (some false)) else (none)) else (some false))))) = some r := h;clear h;by_cases c3 : (l1.length : Int) < 1
 ·rw [if_pos c3] at H
  have c3b0 : decide ((l1.length : Int) < 1) = true := decide_eq_true c3;have c3b1 : decide (l1.length < 1) = true := decide_eq_true (by omega);clear c3;obtain rfl := Option.some.inj H;go_enter Try.func79, Try.ntmps79
  go_wp2_with (first | ((with_reducible refine gate_dst (N := 2) rfl ?_); (try (refine gate_guard (by rfl) ?_; dsimp only)); refine box_event ?hg (N := 2) ?hd (cs := #[.slice A0_0 l0_0.length c0_0, .slice A0_1 l0_1.length c0_1, .slice A0_2 l0_2.length c0_2]) (t := 49) ?hr ?_; (case hd => rfl); (case hg => rfl); (case hr => first | (go_simp; done) | (go_simp; rfl)); intro gb708 hg w4 hbox hb; have n0_ := Aside0.mk (below_step (qB HB.out) hb); have n1_ := Aside0.mk (hbox); have n2_ := Aside0.mk ((by rw [hg]; exact (below_size (qB HB.out)) : w.heap.size ≤ gb708)); have n3_ := Aside0.mk ((by rw [hg]; exact (below_size (qB HB.out)) : w.heap.size ≤ gb708)); clear HB; have HB := n0_; have BK708 := n1_; have GW708 := n2_; have GE708 := n3_; clear n0_ n1_ n2_ n3_; clear hb hbox hg))
  repeat (go_quiet (first | ((with_reducible refine gate_dst (N := 2) rfl ?_); (try (refine gate_guard (by rfl) ?_; dsimp only)); refine box_event ?hg (N := 2) ?hd (cs := #[.slice A0_0 l0_0.length c0_0, .slice A0_1 l0_1.length c0_1, .slice A0_2 l0_2.length c0_2]) (t := 49) ?hr ?_; (case hd => rfl); (case hg => rfl); (case hr => first | (go_simp; done) | (go_simp; rfl)); intro gb708 hg w4 hbox hb; have n0_ := Aside0.mk (below_step (qB HB.out) hb); have n1_ := Aside0.mk (hbox); have n2_ := Aside0.mk ((by rw [hg]; exact (below_size (qB HB.out)) : w.heap.size ≤ gb708)); have n3_ := Aside0.mk ((by rw [hg]; exact (below_size (qB HB.out)) : w.heap.size ≤ gb708)); clear HB; have HB := n0_; have BK708 := n1_; have GW708 := n2_; have GE708 := n3_; clear n0_ n1_ n2_ n3_; clear hb hbox hg)); try go_wp2_with (first | ((with_reducible refine gate_dst (N := 2) rfl ?_); (try (refine gate_guard (by rfl) ?_; dsimp only)); refine box_event ?hg (N := 2) ?hd (cs := #[.slice A0_0 l0_0.length c0_0, .slice A0_1 l0_1.length c0_1, .slice A0_2 l0_2.length c0_2]) (t := 49) ?hr ?_; (case hd => rfl); (case hg => rfl); (case hr => first | (go_simp; done) | (go_simp; rfl)); intro gb708 hg w4 hbox hb; have n0_ := Aside0.mk (below_step (qB HB.out) hb); have n1_ := Aside0.mk (hbox); have n2_ := Aside0.mk ((by rw [hg]; exact (below_size (qB HB.out)) : w.heap.size ≤ gb708)); have n3_ := Aside0.mk ((by rw [hg]; exact (below_size (qB HB.out)) : w.heap.size ≤ gb708)); clear HB; have HB := n0_; have BK708 := n1_; have GW708 := n2_; have GE708 := n3_; clear n0_ n1_ n2_ n3_; clear hb hbox hg)))
  go_ret
  exact ⟨by first | rfl | (simp [errW_none, errW_some] <;> rfl) | (simp [*, errW_none, errW_some] <;> rfl), by repeat (first | (with_reducible first | exact HB.out | apply below_alloc | apply pw_below_drewN | apply below_drew1 | refine below_set ?_ GE708.out) | exact HB.out)⟩
 ·rw [if_neg c3] at H
  have c3b0 : decide ((l1.length : Int) < 1) = false := decide_eq_false c3;have c3b1 : decide (l1.length < 1) = false := decide_eq_false (by omega);clear c3;by_cases c5 : (l1.length : Int) > 6
  ·rw [if_pos c5] at H
   have c5b0 : decide (6 < (l1.length : Int)) = true := decide_eq_true c5;have c5b1 : decide (6 < l1.length) = true := decide_eq_true (by omega);clear c5;obtain rfl := Option.some.inj H;go_enter Try.func79, Try.ntmps79
   go_wp2_with (first | ((with_reducible refine gate_dst (N := 2) rfl ?_); (try (refine gate_guard (by rfl) ?_; dsimp only)); refine box_event ?hg (N := 2) ?hd (cs := #[.slice A0_0 l0_0.length c0_0, .slice A0_1 l0_1.length c0_1, .slice A0_2 l0_2.length c0_2]) (t := 49) ?hr ?_; (case hd => rfl); (case hg => rfl); (case hr => first | (go_simp; done) | (go_simp; rfl)); intro gb708 hg w6 hbox hb; have n0_ := Aside0.mk (below_step (qB HB.out) hb); have n1_ := Aside0.mk (hbox); have n2_ := Aside0.mk ((by rw [hg]; exact (below_size (qB HB.out)) : w.heap.size ≤ gb708)); have n3_ := Aside0.mk ((by rw [hg]; exact (below_size (qB HB.out)) : w.heap.size ≤ gb708)); clear HB; have HB := n0_; have BK708 := n1_; have GW708 := n2_; have GE708 := n3_; clear n0_ n1_ n2_ n3_; clear hb hbox hg))
   repeat (go_quiet (first | ((with_reducible refine gate_dst (N := 2) rfl ?_); (try (refine gate_guard (by rfl) ?_; dsimp only)); refine box_event ?hg (N := 2) ?hd (cs := #[.slice A0_0 l0_0.length c0_0, .slice A0_1 l0_1.length c0_1, .slice A0_2 l0_2.length c0_2]) (t := 49) ?hr ?_; (case hd => rfl); (case hg => rfl); (case hr => first | (go_simp; done) | (go_simp; rfl)); intro gb708 hg w6 hbox hb; have n0_ := Aside0.mk (below_step (qB HB.out) hb); have n1_ := Aside0.mk (hbox); have n2_ := Aside0.mk ((by rw [hg]; exact (below_size (qB HB.out)) : w.heap.size ≤ gb708)); have n3_ := Aside0.mk ((by rw [hg]; exact (below_size (qB HB.out)) : w.heap.size ≤ gb708)); clear HB; have HB := n0_; have BK708 := n1_; have GW708 := n2_; have GE708 := n3_; clear n0_ n1_ n2_ n3_; clear hb hbox hg)); try go_wp2_with (first | ((with_reducible refine gate_dst (N := 2) rfl ?_); (try (refine gate_guard (by rfl) ?_; dsimp only)); refine box_event ?hg (N := 2) ?hd (cs := #[.slice A0_0 l0_0.length c0_0, .slice A0_1 l0_1.length c0_1, .slice A0_2 l0_2.length c0_2]) (t := 49) ?hr ?_; (case hd => rfl); (case hg => rfl); (case hr => first | (go_simp; done) | (go_simp; rfl)); intro gb708 hg w6 hbox hb; have n0_ := Aside0.mk (below_step (qB HB.out) hb); have n1_ := Aside0.mk (hbox); have n2_ := Aside0.mk ((by rw [hg]; exact (below_size (qB HB.out)) : w.heap.size ≤ gb708)); have n3_ := Aside0.mk ((by rw [hg]; exact (below_size (qB HB.out)) : w.heap.size ≤ gb708)); clear HB; have HB := n0_; have BK708 := n1_; have GW708 := n2_; have GE708 := n3_; clear n0_ n1_ n2_ n3_; clear hb hbox hg)))
   go_ret
   exact ⟨by first | rfl | (simp [errW_none, errW_some] <;> rfl) | (simp [*, errW_none, errW_some] <;> rfl), by repeat (first | (with_reducible first | exact HB.out | apply below_alloc | apply pw_below_drewN | apply below_drew1 | refine below_set ?_ GE708.out) | exact HB.out)⟩
  ·rw [if_neg c5] at H
   have c5b0 : decide (6 < (l1.length : Int)) = false := decide_eq_false c5;have c5b1 : decide (6 < l1.length) = false := decide_eq_false (by omega);clear c5;replace H := Option.bind_eq_some_iff.mp H;obtain ⟨t709, A70, H⟩ := H;(try dsimp only at H);have A7 := Aside0.mk A70;clear A70;by_cases c8 : t709 = true
   ·subst c8;replace H : (if 0 < (l1.length : Int) then (if (rd l1 0) ≥ 0 then (if 0 ≤ (wrap64 ((l1.length : Int) - 1)) then (if (wrap64 ((l1.length : Int) - 1)) < (l1.length : Int) then (some (decide ((rd l1 (wrap64 ((l1.length : Int) - 1))) < (l0_0.length : Int)))) else (none)) else (none)) else (some false)) else (none)) = some r := by rw [if_pos rfl] at H; exact H
    by_cases c9 : 0 < (l1.length : Int)
    ·rw [if_pos c9] at H
     have c9b0 : decide (0 < (l1.length : Int)) = true := decide_eq_true c9;have c9b1 : decide (0 < l1.length) = true := decide_eq_true (by omega);clear c9;by_cases c10 : (rd l1 0) ≥ 0
     ·rw [if_pos c10] at H
      have c10b0 : decide (0 ≤ (rd l1 0)) = true := decide_eq_true c10;clear c10;obtain ⟨ji11, hji11⟩ : ∃ j_ : Int, (wrap64 ((l1.length : Int) - 1)) = j_ := ⟨_, rfl⟩;replace H : (if 0 ≤ (ji11) then (if (ji11) < (l1.length : Int) then (some (decide ((rd l1 (ji11)) < (l0_0.length : Int)))) else (none)) else (none)) = some r := by first | (rw [hji11] at H; exact H) | (simp only [hji11] at H ⊢; exact H)
      (try rw [hji11] at A7);have hji11w : (IntKind.i64.wrap ((l1.length : Int) - 1)) = ji11 := (i64_w _).trans hji11;by_cases c12 : 0 ≤ (ji11)
      ·rw [if_pos c12] at H
       have c12b0 : decide (0 ≤ (ji11)) = true := decide_eq_true c12;clear c12;by_cases c13 : (ji11) < (l1.length : Int)
       ·rw [if_pos c13] at H
        have c13b0 : decide ((ji11) < (l1.length : Int)) = true := decide_eq_true c13;clear c13;obtain rfl := Option.some.inj H;go_enter Try.func79, Try.ntmps79
        go_wp2_with (first | ((with_reducible refine gate_dst (N := 2) rfl ?_); (try (refine gate_guard (by rfl) ?_; dsimp only)); refine box_event ?hg (N := 2) ?hd (cs := #[.slice A0_0 l0_0.length c0_0, .slice A0_1 l0_1.length c0_1, .slice A0_2 l0_2.length c0_2]) (t := 49) ?hr ?_; (case hd => rfl); (case hg => rfl); (case hr => first | (go_simp; done) | (go_simp; rfl)); intro gb708 hg w14 hbox hb; have n0_ := Aside0.mk (below_step (qB HB.out) hb); have n1_ := Aside0.mk (hbox); have n2_ := Aside0.mk ((by rw [hg]; exact (below_size (qB HB.out)) : w.heap.size ≤ gb708)); have n3_ := Aside0.mk ((by rw [hg]; exact (below_size (qB HB.out)) : w.heap.size ≤ gb708)); clear HB; have HB := n0_; have BK708 := n1_; have GW708 := n2_; have GE708 := n3_; clear n0_ n1_ n2_ n3_; clear hb hbox hg) | (go_at_call 48; (with_reducible refine (arboristref01_Rising.calls k _ _ l1 true _ ?side1 ?side2 A7.out).mono ?_); (case side1 => exact qC (Kd.C_below HR1.out HB.out)); (case side2 => exact HC1.out); rintro e w' ⟨rfl, ⟨nd, rfl⟩⟩; (try first | exact ⟨rfl, _, World.drewN_drewN _ _ _⟩ | exact ⟨rfl, _, Eq.trans (World.drewN_drewN _ _ _) (congrArg (World.drewN _) (Nat.add_assoc _ _ _))⟩); all_goals (have p710 : 0 ≤ (0 : Int) := (by omega); have q710 : 0 < (l1.length : Int) := of_decide_eq_true qA; obtain ⟨ad710, e710, hx710_0⟩ := Kd.at_int HR1.out 0 p710 q710; cases e710; have qi710 : (0 < l1.length) = True := eq_true (by omega); (try rw [show ((0 : Int)).toNat = 0 from rfl] at hx710_0); (try rw [Addr.add_zero'] at hx710_0); replace hx710_0 := (HB.out.cell (World.block_lt_of_cell? w _ hx710_0)).trans hx710_0; replace p710 := eq_true p710; replace q710 := eq_true q710; have p711 : 0 ≤ ((ji11) : Int) := of_decide_eq_true qA; have q711 : (ji11) < (l1.length : Int) := of_decide_eq_true qA; obtain ⟨ad711, e711, hx711_0⟩ := Kd.at_int HR1.out (ji11) p711 q711; obtain rfl : ad710 = ad711 := (by injection e711); replace hx711_0 := (HB.out.cell (World.block_lt_of_cell? w _ hx711_0)).trans hx711_0; replace p711 := eq_true p711; replace q711 := eq_true q711; have hcz15_0 : w14.cell? ⟨gb708, 0, none⟩ = some (.slice A0_0 l0_0.length c0_0) := (blk_cell BK708.out 0).trans rfl; have hcz15_1 : w14.cell? ⟨gb708, 1, none⟩ = some (.slice A0_1 l0_1.length c0_1) := (blk_cell BK708.out 1).trans rfl; have hcz15_2 : w14.cell? ⟨gb708, 2, none⟩ = some (.slice A0_2 l0_2.length c0_2) := (blk_cell BK708.out 2).trans rfl; have hfz15_0 := blk_frozen BK708.out 0; have hfz15_1 := blk_frozen BK708.out 1; have hfz15_2 := blk_frozen BK708.out 2)))
        repeat (go_quiet (first | ((with_reducible refine gate_dst (N := 2) rfl ?_); (try (refine gate_guard (by rfl) ?_; dsimp only)); refine box_event ?hg (N := 2) ?hd (cs := #[.slice A0_0 l0_0.length c0_0, .slice A0_1 l0_1.length c0_1, .slice A0_2 l0_2.length c0_2]) (t := 49) ?hr ?_; (case hd => rfl); (case hg => rfl); (case hr => first | (go_simp; done) | (go_simp; rfl)); intro gb708 hg w14 hbox hb; have n0_ := Aside0.mk (below_step (qB HB.out) hb); have n1_ := Aside0.mk (hbox); have n2_ := Aside0.mk ((by rw [hg]; exact (below_size (qB HB.out)) : w.heap.size ≤ gb708)); have n3_ := Aside0.mk ((by rw [hg]; exact (below_size (qB HB.out)) : w.heap.size ≤ gb708)); clear HB; have HB := n0_; have BK708 := n1_; have GW708 := n2_; have GE708 := n3_; clear n0_ n1_ n2_ n3_; clear hb hbox hg) | (go_at_call 48; (with_reducible refine (arboristref01_Rising.calls k _ _ l1 true _ ?side1 ?side2 A7.out).mono ?_); (case side1 => exact qC (Kd.C_below HR1.out HB.out)); (case side2 => exact HC1.out); rintro e w' ⟨rfl, ⟨nd, rfl⟩⟩; (try first | exact ⟨rfl, _, World.drewN_drewN _ _ _⟩ | exact ⟨rfl, _, Eq.trans (World.drewN_drewN _ _ _) (congrArg (World.drewN _) (Nat.add_assoc _ _ _))⟩); all_goals (have p710 : 0 ≤ (0 : Int) := (by omega); have q710 : 0 < (l1.length : Int) := of_decide_eq_true qA; obtain ⟨ad710, e710, hx710_0⟩ := Kd.at_int HR1.out 0 p710 q710; cases e710; have qi710 : (0 < l1.length) = True := eq_true (by omega); (try rw [show ((0 : Int)).toNat = 0 from rfl] at hx710_0); (try rw [Addr.add_zero'] at hx710_0); replace hx710_0 := (HB.out.cell (World.block_lt_of_cell? w _ hx710_0)).trans hx710_0; replace p710 := eq_true p710; replace q710 := eq_true q710; have p711 : 0 ≤ ((ji11) : Int) := of_decide_eq_true qA; have q711 : (ji11) < (l1.length : Int) := of_decide_eq_true qA; obtain ⟨ad711, e711, hx711_0⟩ := Kd.at_int HR1.out (ji11) p711 q711; obtain rfl : ad710 = ad711 := (by injection e711); replace hx711_0 := (HB.out.cell (World.block_lt_of_cell? w _ hx711_0)).trans hx711_0; replace p711 := eq_true p711; replace q711 := eq_true q711; have hcz15_0 : w14.cell? ⟨gb708, 0, none⟩ = some (.slice A0_0 l0_0.length c0_0) := (blk_cell BK708.out 0).trans rfl; have hcz15_1 : w14.cell? ⟨gb708, 1, none⟩ = some (.slice A0_1 l0_1.length c0_1) := (blk_cell BK708.out 1).trans rfl; have hcz15_2 : w14.cell? ⟨gb708, 2, none⟩ = some (.slice A0_2 l0_2.length c0_2) := (blk_cell BK708.out 2).trans rfl; have hfz15_0 := blk_frozen BK708.out 0; have hfz15_1 := blk_frozen BK708.out 1; have hfz15_2 := blk_frozen BK708.out 2))); try go_wp2_with (first | ((with_reducible refine gate_dst (N := 2) rfl ?_); (try (refine gate_guard (by rfl) ?_; dsimp only)); refine box_event ?hg (N := 2) ?hd (cs := #[.slice A0_0 l0_0.length c0_0, .slice A0_1 l0_1.length c0_1, .slice A0_2 l0_2.length c0_2]) (t := 49) ?hr ?_; (case hd => rfl); (case hg => rfl); (case hr => first | (go_simp; done) | (go_simp; rfl)); intro gb708 hg w14 hbox hb; have n0_ := Aside0.mk (below_step (qB HB.out) hb); have n1_ := Aside0.mk (hbox); have n2_ := Aside0.mk ((by rw [hg]; exact (below_size (qB HB.out)) : w.heap.size ≤ gb708)); have n3_ := Aside0.mk ((by rw [hg]; exact (below_size (qB HB.out)) : w.heap.size ≤ gb708)); clear HB; have HB := n0_; have BK708 := n1_; have GW708 := n2_; have GE708 := n3_; clear n0_ n1_ n2_ n3_; clear hb hbox hg) | (go_at_call 48; (with_reducible refine (arboristref01_Rising.calls k _ _ l1 true _ ?side1 ?side2 A7.out).mono ?_); (case side1 => exact qC (Kd.C_below HR1.out HB.out)); (case side2 => exact HC1.out); rintro e w' ⟨rfl, ⟨nd, rfl⟩⟩; (try first | exact ⟨rfl, _, World.drewN_drewN _ _ _⟩ | exact ⟨rfl, _, Eq.trans (World.drewN_drewN _ _ _) (congrArg (World.drewN _) (Nat.add_assoc _ _ _))⟩); all_goals (have p710 : 0 ≤ (0 : Int) := (by omega); have q710 : 0 < (l1.length : Int) := of_decide_eq_true qA; obtain ⟨ad710, e710, hx710_0⟩ := Kd.at_int HR1.out 0 p710 q710; cases e710; have qi710 : (0 < l1.length) = True := eq_true (by omega); (try rw [show ((0 : Int)).toNat = 0 from rfl] at hx710_0); (try rw [Addr.add_zero'] at hx710_0); replace hx710_0 := (HB.out.cell (World.block_lt_of_cell? w _ hx710_0)).trans hx710_0; replace p710 := eq_true p710; replace q710 := eq_true q710; have p711 : 0 ≤ ((ji11) : Int) := of_decide_eq_true qA; have q711 : (ji11) < (l1.length : Int) := of_decide_eq_true qA; obtain ⟨ad711, e711, hx711_0⟩ := Kd.at_int HR1.out (ji11) p711 q711; obtain rfl : ad710 = ad711 := (by injection e711); replace hx711_0 := (HB.out.cell (World.block_lt_of_cell? w _ hx711_0)).trans hx711_0; replace p711 := eq_true p711; replace q711 := eq_true q711; have hcz15_0 : w14.cell? ⟨gb708, 0, none⟩ = some (.slice A0_0 l0_0.length c0_0) := (blk_cell BK708.out 0).trans rfl; have hcz15_1 : w14.cell? ⟨gb708, 1, none⟩ = some (.slice A0_1 l0_1.length c0_1) := (blk_cell BK708.out 1).trans rfl; have hcz15_2 : w14.cell? ⟨gb708, 2, none⟩ = some (.slice A0_2 l0_2.length c0_2) := (blk_cell BK708.out 2).trans rfl; have hfz15_0 := blk_frozen BK708.out 0; have hfz15_1 := blk_frozen BK708.out 1; have hfz15_2 := blk_frozen BK708.out 2))))
        go_ret
        exact ⟨by first | rfl | (simp [errW_none, errW_some] <;> rfl) | (simp only [← hji11]; first | rfl | (simp [errW_none, errW_some] <;> rfl)) | (simp [*, errW_none, errW_some] <;> rfl), by repeat (first | (with_reducible first | exact HB.out | apply below_alloc | apply pw_below_drewN | apply below_drew1 | refine below_set ?_ GE708.out) | exact HB.out)⟩
       ·rw [if_neg c13] at H
        exact absurd H (by simp)
      ·rw [if_neg c12] at H
       exact absurd H (by simp)
     ·rw [if_neg c10] at H
      have c10b0 : decide (0 ≤ (rd l1 0)) = false := decide_eq_false c10;clear c10;obtain rfl := Option.some.inj H;go_enter Try.func79, Try.ntmps79
      go_wp2_with (first | ((with_reducible refine gate_dst (N := 2) rfl ?_); (try (refine gate_guard (by rfl) ?_; dsimp only)); refine box_event ?hg (N := 2) ?hd (cs := #[.slice A0_0 l0_0.length c0_0, .slice A0_1 l0_1.length c0_1, .slice A0_2 l0_2.length c0_2]) (t := 49) ?hr ?_; (case hd => rfl); (case hg => rfl); (case hr => first | (go_simp; done) | (go_simp; rfl)); intro gb708 hg w16 hbox hb; have n0_ := Aside0.mk (below_step (qB HB.out) hb); have n1_ := Aside0.mk (hbox); have n2_ := Aside0.mk ((by rw [hg]; exact (below_size (qB HB.out)) : w.heap.size ≤ gb708)); have n3_ := Aside0.mk ((by rw [hg]; exact (below_size (qB HB.out)) : w.heap.size ≤ gb708)); clear HB; have HB := n0_; have BK708 := n1_; have GW708 := n2_; have GE708 := n3_; clear n0_ n1_ n2_ n3_; clear hb hbox hg) | (go_at_call 48; (with_reducible refine (arboristref01_Rising.calls k _ _ l1 true _ ?side1 ?side2 A7.out).mono ?_); (case side1 => exact qC (Kd.C_below HR1.out HB.out)); (case side2 => exact HC1.out); rintro e w' ⟨rfl, ⟨nd, rfl⟩⟩; (try first | exact ⟨rfl, _, World.drewN_drewN _ _ _⟩ | exact ⟨rfl, _, Eq.trans (World.drewN_drewN _ _ _) (congrArg (World.drewN _) (Nat.add_assoc _ _ _))⟩); all_goals (have p710 : 0 ≤ (0 : Int) := (by omega); have q710 : 0 < (l1.length : Int) := of_decide_eq_true qA; obtain ⟨ad710, e710, hx710_0⟩ := Kd.at_int HR1.out 0 p710 q710; cases e710; have qi710 : (0 < l1.length) = True := eq_true (by omega); (try rw [show ((0 : Int)).toNat = 0 from rfl] at hx710_0); (try rw [Addr.add_zero'] at hx710_0); replace hx710_0 := (HB.out.cell (World.block_lt_of_cell? w _ hx710_0)).trans hx710_0; replace p710 := eq_true p710; replace q710 := eq_true q710)))
      repeat (go_quiet (first | ((with_reducible refine gate_dst (N := 2) rfl ?_); (try (refine gate_guard (by rfl) ?_; dsimp only)); refine box_event ?hg (N := 2) ?hd (cs := #[.slice A0_0 l0_0.length c0_0, .slice A0_1 l0_1.length c0_1, .slice A0_2 l0_2.length c0_2]) (t := 49) ?hr ?_; (case hd => rfl); (case hg => rfl); (case hr => first | (go_simp; done) | (go_simp; rfl)); intro gb708 hg w16 hbox hb; have n0_ := Aside0.mk (below_step (qB HB.out) hb); have n1_ := Aside0.mk (hbox); have n2_ := Aside0.mk ((by rw [hg]; exact (below_size (qB HB.out)) : w.heap.size ≤ gb708)); have n3_ := Aside0.mk ((by rw [hg]; exact (below_size (qB HB.out)) : w.heap.size ≤ gb708)); clear HB; have HB := n0_; have BK708 := n1_; have GW708 := n2_; have GE708 := n3_; clear n0_ n1_ n2_ n3_; clear hb hbox hg) | (go_at_call 48; (with_reducible refine (arboristref01_Rising.calls k _ _ l1 true _ ?side1 ?side2 A7.out).mono ?_); (case side1 => exact qC (Kd.C_below HR1.out HB.out)); (case side2 => exact HC1.out); rintro e w' ⟨rfl, ⟨nd, rfl⟩⟩; (try first | exact ⟨rfl, _, World.drewN_drewN _ _ _⟩ | exact ⟨rfl, _, Eq.trans (World.drewN_drewN _ _ _) (congrArg (World.drewN _) (Nat.add_assoc _ _ _))⟩); all_goals (have p710 : 0 ≤ (0 : Int) := (by omega); have q710 : 0 < (l1.length : Int) := of_decide_eq_true qA; obtain ⟨ad710, e710, hx710_0⟩ := Kd.at_int HR1.out 0 p710 q710; cases e710; have qi710 : (0 < l1.length) = True := eq_true (by omega); (try rw [show ((0 : Int)).toNat = 0 from rfl] at hx710_0); (try rw [Addr.add_zero'] at hx710_0); replace hx710_0 := (HB.out.cell (World.block_lt_of_cell? w _ hx710_0)).trans hx710_0; replace p710 := eq_true p710; replace q710 := eq_true q710))); try go_wp2_with (first | ((with_reducible refine gate_dst (N := 2) rfl ?_); (try (refine gate_guard (by rfl) ?_; dsimp only)); refine box_event ?hg (N := 2) ?hd (cs := #[.slice A0_0 l0_0.length c0_0, .slice A0_1 l0_1.length c0_1, .slice A0_2 l0_2.length c0_2]) (t := 49) ?hr ?_; (case hd => rfl); (case hg => rfl); (case hr => first | (go_simp; done) | (go_simp; rfl)); intro gb708 hg w16 hbox hb; have n0_ := Aside0.mk (below_step (qB HB.out) hb); have n1_ := Aside0.mk (hbox); have n2_ := Aside0.mk ((by rw [hg]; exact (below_size (qB HB.out)) : w.heap.size ≤ gb708)); have n3_ := Aside0.mk ((by rw [hg]; exact (below_size (qB HB.out)) : w.heap.size ≤ gb708)); clear HB; have HB := n0_; have BK708 := n1_; have GW708 := n2_; have GE708 := n3_; clear n0_ n1_ n2_ n3_; clear hb hbox hg) | (go_at_call 48; (with_reducible refine (arboristref01_Rising.calls k _ _ l1 true _ ?side1 ?side2 A7.out).mono ?_); (case side1 => exact qC (Kd.C_below HR1.out HB.out)); (case side2 => exact HC1.out); rintro e w' ⟨rfl, ⟨nd, rfl⟩⟩; (try first | exact ⟨rfl, _, World.drewN_drewN _ _ _⟩ | exact ⟨rfl, _, Eq.trans (World.drewN_drewN _ _ _) (congrArg (World.drewN _) (Nat.add_assoc _ _ _))⟩); all_goals (have p710 : 0 ≤ (0 : Int) := (by omega); have q710 : 0 < (l1.length : Int) := of_decide_eq_true qA; obtain ⟨ad710, e710, hx710_0⟩ := Kd.at_int HR1.out 0 p710 q710; cases e710; have qi710 : (0 < l1.length) = True := eq_true (by omega); (try rw [show ((0 : Int)).toNat = 0 from rfl] at hx710_0); (try rw [Addr.add_zero'] at hx710_0); replace hx710_0 := (HB.out.cell (World.block_lt_of_cell? w _ hx710_0)).trans hx710_0; replace p710 := eq_true p710; replace q710 := eq_true q710))))
      go_ret
      exact ⟨by first | rfl | (simp [errW_none, errW_some] <;> rfl) | (simp [*, errW_none, errW_some] <;> rfl), by repeat (first | (with_reducible first | exact HB.out | apply below_alloc | apply pw_below_drewN | apply below_drew1 | refine below_set ?_ GE708.out) | exact HB.out)⟩
    ·rw [if_neg c9] at H
     exact absurd H (by simp)
   ·replace c8 := Bool.eq_false_iff.mpr c8;subst c8;replace H : (some false) = some r := by rw [if_neg (show ¬ (false = true) by decide)] at H; exact H
    obtain rfl := Option.some.inj H;go_enter Try.func79, Try.ntmps79
    go_wp2_with (first | ((with_reducible refine gate_dst (N := 2) rfl ?_); (try (refine gate_guard (by rfl) ?_; dsimp only)); refine box_event ?hg (N := 2) ?hd (cs := #[.slice A0_0 l0_0.length c0_0, .slice A0_1 l0_1.length c0_1, .slice A0_2 l0_2.length c0_2]) (t := 49) ?hr ?_; (case hd => rfl); (case hg => rfl); (case hr => first | (go_simp; done) | (go_simp; rfl)); intro gb708 hg w17 hbox hb; have n0_ := Aside0.mk (below_step (qB HB.out) hb); have n1_ := Aside0.mk (hbox); have n2_ := Aside0.mk ((by rw [hg]; exact (below_size (qB HB.out)) : w.heap.size ≤ gb708)); have n3_ := Aside0.mk ((by rw [hg]; exact (below_size (qB HB.out)) : w.heap.size ≤ gb708)); clear HB; have HB := n0_; have BK708 := n1_; have GW708 := n2_; have GE708 := n3_; clear n0_ n1_ n2_ n3_; clear hb hbox hg) | (go_at_call 48; (with_reducible refine (arboristref01_Rising.calls k _ _ l1 false _ ?side1 ?side2 A7.out).mono ?_); (case side1 => exact qC (Kd.C_below HR1.out HB.out)); (case side2 => exact HC1.out); rintro e w' ⟨rfl, ⟨nd, rfl⟩⟩; (try first | exact ⟨rfl, _, World.drewN_drewN _ _ _⟩ | exact ⟨rfl, _, Eq.trans (World.drewN_drewN _ _ _) (congrArg (World.drewN _) (Nat.add_assoc _ _ _))⟩)))
    repeat (go_quiet (first | ((with_reducible refine gate_dst (N := 2) rfl ?_); (try (refine gate_guard (by rfl) ?_; dsimp only)); refine box_event ?hg (N := 2) ?hd (cs := #[.slice A0_0 l0_0.length c0_0, .slice A0_1 l0_1.length c0_1, .slice A0_2 l0_2.length c0_2]) (t := 49) ?hr ?_; (case hd => rfl); (case hg => rfl); (case hr => first | (go_simp; done) | (go_simp; rfl)); intro gb708 hg w17 hbox hb; have n0_ := Aside0.mk (below_step (qB HB.out) hb); have n1_ := Aside0.mk (hbox); have n2_ := Aside0.mk ((by rw [hg]; exact (below_size (qB HB.out)) : w.heap.size ≤ gb708)); have n3_ := Aside0.mk ((by rw [hg]; exact (below_size (qB HB.out)) : w.heap.size ≤ gb708)); clear HB; have HB := n0_; have BK708 := n1_; have GW708 := n2_; have GE708 := n3_; clear n0_ n1_ n2_ n3_; clear hb hbox hg) | (go_at_call 48; (with_reducible refine (arboristref01_Rising.calls k _ _ l1 false _ ?side1 ?side2 A7.out).mono ?_); (case side1 => exact qC (Kd.C_below HR1.out HB.out)); (case side2 => exact HC1.out); rintro e w' ⟨rfl, ⟨nd, rfl⟩⟩; (try first | exact ⟨rfl, _, World.drewN_drewN _ _ _⟩ | exact ⟨rfl, _, Eq.trans (World.drewN_drewN _ _ _) (congrArg (World.drewN _) (Nat.add_assoc _ _ _))⟩))); try go_wp2_with (first | ((with_reducible refine gate_dst (N := 2) rfl ?_); (try (refine gate_guard (by rfl) ?_; dsimp only)); refine box_event ?hg (N := 2) ?hd (cs := #[.slice A0_0 l0_0.length c0_0, .slice A0_1 l0_1.length c0_1, .slice A0_2 l0_2.length c0_2]) (t := 49) ?hr ?_; (case hd => rfl); (case hg => rfl); (case hr => first | (go_simp; done) | (go_simp; rfl)); intro gb708 hg w17 hbox hb; have n0_ := Aside0.mk (below_step (qB HB.out) hb); have n1_ := Aside0.mk (hbox); have n2_ := Aside0.mk ((by rw [hg]; exact (below_size (qB HB.out)) : w.heap.size ≤ gb708)); have n3_ := Aside0.mk ((by rw [hg]; exact (below_size (qB HB.out)) : w.heap.size ≤ gb708)); clear HB; have HB := n0_; have BK708 := n1_; have GW708 := n2_; have GE708 := n3_; clear n0_ n1_ n2_ n3_; clear hb hbox hg) | (go_at_call 48; (with_reducible refine (arboristref01_Rising.calls k _ _ l1 false _ ?side1 ?side2 A7.out).mono ?_); (case side1 => exact qC (Kd.C_below HR1.out HB.out)); (case side2 => exact HC1.out); rintro e w' ⟨rfl, ⟨nd, rfl⟩⟩; (try first | exact ⟨rfl, _, World.drewN_drewN _ _ _⟩ | exact ⟨rfl, _, Eq.trans (World.drewN_drewN _ _ _) (congrArg (World.drewN _) (Nat.add_assoc _ _ _))⟩))))
    go_ret
    exact ⟨by first | rfl | (simp [errW_none, errW_some] <;> rfl) | (simp [*, errW_none, errW_some] <;> rfl), by repeat (first | (with_reducible first | exact HB.out | apply below_alloc | apply pw_below_drewN | apply below_drew1 | refine below_set ?_ GE708.out) | exact HB.out)⟩
end Go.Proofs.Ytpmfdggbccbfaaa.Pr
namespace Go.Proofs.Ytpmfdggbccbfaaa.Pr
open Go.RowKit Go.Proofs.YtpmfdggbccbfaaaW.PrintWords Go.Proofs.YtpmfdggbccbfaaaW.PrintLast Go.Proofs.YtpmfdggbccbfaaaW.PrintMore
attribute [local go_sem] max2_int min2_int max_two min_two max_three min_three max_four min_four
set_option linter.unusedVariables false
set_option linter.unusedSimpArgs false
/-! ### arboristref06_rows: function 80 -/
mutual
def arboristref06_rows.l0 : Nat → List Int → List (List Int) → Int → List (List Int) → List (S69) → List (S73) → Option (Bool)
 | 0, _, _, _, _, _, _ => none
 | k + 1, x1, x2, x7, x713000, x713001, x713002 => if x7 < (x2.length : Int) then (if 0 ≤ x7 then (if ((rd_L1 x2 x7).length : Int) = (x1.length : Int) then (if x7 > 0 then (if 0 ≤ (wrap64 (x7 - 1)) then (if (wrap64 (x7 - 1)) < (x2.length : Int) then ((arboristref01_Compare.f k (rd_L1 x2 (wrap64 (x7 - 1))) (rd_L1 x2 x7)).bind fun t716 => (arboristref06_rows.j1 k x1 x2 x7 (decide (t716 ≥ 0)) x713000 x713001 x713002)) else (none)) else (none)) else (arboristref06_rows.j1 k x1 x2 x7 false x713000 x713001 x713002)) else (arboristref06_rows.j1 k x1 x2 x7 true x713000 x713001 x713002)) else (none)) else (some true)
def arboristref06_rows.j1 : Nat → List Int → List (List Int) → Int → Bool → List (List Int) → List (S69) → List (S73) → Option (Bool)
 | 0, _, _, _, _, _, _, _ => none
 | k + 1, x1, x2, x7, x40, x713000, x713001, x713002 => if x40 = true then (some false) else (arboristref06_rows.l1 k x1 x2 x7 0 x713000 x713001 x713002)
def arboristref06_rows.l1 : Nat → List Int → List (List Int) → Int → Int → List (List Int) → List (S69) → List (S73) → Option (Bool)
 | 0, _, _, _, _, _, _, _ => none
 | k + 1, x1, x2, x7, x8, x713000, x713001, x713002 => if x8 < (x1.length : Int) then (if 0 ≤ x8 then (if 0 ≤ (rd x1 x8) then (if (rd x1 x8) < (x713000.length : Int) then (if 0 ≤ x7 then (if x7 < (x2.length : Int) then (if x8 < ((rd_L1 x2 x7).length : Int) then ((arboristref01_In.f k (rd_L1 x713000 (rd x1 x8)) (rd (rd_L1 x2 x7) x8)).bind fun t721 => (if t721 = true then (arboristref06_rows.l1 k x1 x2 x7 (wrap64 (x8 + 1)) x713000 x713001 x713002) else (some false))) else (none)) else (none)) else (none)) else (none)) else (none)) else (none)) else (arboristref06_rows.l0 k x1 x2 (wrap64 (x7 + 1)) x713000 x713001 x713002)
end
def arboristref06_rows.f (k : Nat) (l0_0 : List (List Int)) (l0_1 : List (S69)) (l0_2 : List (S73)) (l1 : List Int) (l2 : List (List Int)) : Option (Bool) := arboristref06_rows.l0 k l1 l2 0 l0_0 l0_1 l0_2
set_option maxHeartbeats 8000000 in
set_option maxRecDepth 100000 in
theorem arboristref06_rows.calls (k : Nat) (A0_0 : Option Addr) (c0_0 : Nat) (l0_0 : List (List Int)) (A0_1 : Option Addr) (c0_1 : Nat) (l0_1 : List (S69)) (A0_2 : Option Addr) (c0_2 : Nat) (l0_2 : List (S73)) (A1 : Option Addr) (c1 : Nat) (l1 : List Int) (A2 : Option Addr) (c2 : Nat) (l2 : List (List Int)) (r : Bool) (w : World) (hr0_0 : Kd.C (Kd.slice 3 (Kd.int .i64)) w A0_0 l0_0.length l0_0) (hc0_0 : l0_0.length ≤ c0_0) (hr0_1 : Kd.C k69 w A0_1 l0_1.length l0_1) (hc0_1 : l0_1.length ≤ c0_1) (hr0_2 : Kd.C k73 w A0_2 l0_2.length l0_2) (hc0_2 : l0_2.length ≤ c0_2) (hr1 : Kd.C (Kd.int .i64) w A1 l1.length l1) (hc1 : l1.length ≤ c1) (hr2 : Kd.C (Kd.slice 3 (Kd.int .i64)) w A2 l2.length l2) (hc2 : l2.length ≤ c2) (h : arboristref06_rows.f k l0_0 l0_1 l0_2 l1 l2 = some r) :
  Calls Try.prog 80 #[.agg #[.slice A0_0 l0_0.length c0_0, .slice A0_1 l0_1.length c0_1, .slice A0_2 l0_2.length c0_2], .slice A1 l1.length c1, .slice A2 l2.length c2] w fun e w' => e = .returned (.bool r) ∧ Below w.heap.size w w' := by
 have hu49 := Try.underlying49;have HR0_0 := Aside0.mk hr0_0;have HC0_0 := Aside0.mk hc0_0;clear hr0_0 hc0_0;have HR0_1 := Aside0.mk hr0_1;have HC0_1 := Aside0.mk hc0_1;clear hr0_1 hc0_1;have HR0_2 := Aside0.mk hr0_2;have HC0_2 := Aside0.mk hc0_2;clear hr0_2 hc0_2;have HR1 := Aside0.mk hr1;have HC1 := Aside0.mk hc1;clear hr1 hc1;have HR2 := Aside0.mk hr2;have HC2 := Aside0.mk hc2;clear hr2 hc2;have HB := Aside0.mk (Below.refl w.heap.size w);have H : (arboristref06_rows.l0 k l1 l2 0 l0_0 l0_1 l0_2) = some r := h;clear h;have H' := Aside0.mk H;clear H;go_enter Try.func80, Try.ntmps80
 go_wp2_with (first | ((with_reducible refine gate_dst (N := 3) rfl ?_); refine box_event ?hg (N := 3) ?hd (cs := #[.slice A0_0 l0_0.length c0_0, .slice A0_1 l0_1.length c0_1, .slice A0_2 l0_2.length c0_2]) (t := 49) ?hr ?_; (case hd => rfl); (case hg => rfl); (case hr => first | (go_simp; done) | (go_simp; rfl)); intro gb712 hg w4 hbox hb; have n0_ := Aside0.mk (below_step (qB HB.out) hb); have n1_ := Aside0.mk (hbox); have n2_ := Aside0.mk ((by rw [hg]; exact (below_size (qB HB.out)) : w.heap.size ≤ gb712)); have n3_ := Aside0.mk ((by rw [hg]; exact (below_size (qB HB.out)) : w.heap.size ≤ gb712)); clear HB; have HB := n0_; have BK712 := n1_; have GW712 := n2_; have GE712 := n3_; clear n0_ n1_ n2_ n3_; clear hb hbox hg))
 repeat (go_quiet (first | ((with_reducible refine gate_dst (N := 3) rfl ?_); refine box_event ?hg (N := 3) ?hd (cs := #[.slice A0_0 l0_0.length c0_0, .slice A0_1 l0_1.length c0_1, .slice A0_2 l0_2.length c0_2]) (t := 49) ?hr ?_; (case hd => rfl); (case hg => rfl); (case hr => first | (go_simp; done) | (go_simp; rfl)); intro gb712 hg w4 hbox hb; have n0_ := Aside0.mk (below_step (qB HB.out) hb); have n1_ := Aside0.mk (hbox); have n2_ := Aside0.mk ((by rw [hg]; exact (below_size (qB HB.out)) : w.heap.size ≤ gb712)); have n3_ := Aside0.mk ((by rw [hg]; exact (below_size (qB HB.out)) : w.heap.size ≤ gb712)); clear HB; have HB := n0_; have BK712 := n1_; have GW712 := n2_; have GE712 := n3_; clear n0_ n1_ n2_ n3_; clear hb hbox hg)); try go_wp2_with (first | ((with_reducible refine gate_dst (N := 3) rfl ?_); refine box_event ?hg (N := 3) ?hd (cs := #[.slice A0_0 l0_0.length c0_0, .slice A0_1 l0_1.length c0_1, .slice A0_2 l0_2.length c0_2]) (t := 49) ?hr ?_; (case hd => rfl); (case hg => rfl); (case hr => first | (go_simp; done) | (go_simp; rfl)); intro gb712 hg w4 hbox hb; have n0_ := Aside0.mk (below_step (qB HB.out) hb); have n1_ := Aside0.mk (hbox); have n2_ := Aside0.mk ((by rw [hg]; exact (below_size (qB HB.out)) : w.heap.size ≤ gb712)); have n3_ := Aside0.mk ((by rw [hg]; exact (below_size (qB HB.out)) : w.heap.size ≤ gb712)); clear HB; have HB := n0_; have BK712 := n1_; have GW712 := n2_; have GE712 := n3_; clear n0_ n1_ n2_ n3_; clear hb hbox hg)))
 go_loopg [7] k (fun kq v7 w' => ∃ (x7_1 : Int), v7 = .int .i64 x7_1 ∧ Aside0 (arboristref06_rows.l0 kq l1 l2 x7_1 l0_0 l0_1 l0_2 = some r) ∧ Aside0 (kq ≤ k) ∧ Aside0 (w'.heap[gb712]? = some (.cells #[(.slice A0_0 l0_0.length c0_0), (.slice A0_1 l0_1.length c0_1), (.slice A0_2 l0_2.length c0_2)] 49 (0, 0))) ∧ Aside0 (Below w.heap.size w w'))
 case atStart => exact ⟨(0), (by first | rfl | (simp; done) | (simp [*]; done)), H', ⟨Nat.le_refl _⟩, ⟨qK BK712.out⟩, ⟨qB1 GE712.out HB.out⟩⟩
 case round =>
  clear H';try clear c1
  try clear c2
  try clear p2
  obtain ⟨x7_1, rfl, HA, HK1, BK712, HB⟩ := hrel;cases gk with
  | zero => exact absurd HA.out (by simp [arboristref06_rows.l0])
  | succ k1 =>
   have H := HA.out;clear HA;simp only [arboristref06_rows.l0] at H
   by_cases c5 : x7_1 < (l2.length : Int)
   ·rw [if_pos c5] at H
    have c5b0 : decide (x7_1 < (l2.length : Int)) = true := decide_eq_true c5;clear c5;have HC6 := Aside0.mk H;clear H;go_upto_region 4 with (fail)
    repeat (go_quiet (fail); go_upto_region 4 with (fail))
    go_cut [40] (fun v40 wc => ∃ (kq : Nat) (x40_5 : Bool), v40 = .bool x40_5 ∧ Aside0 (arboristref06_rows.j1 kq l1 l2 x7_1 x40_5 l0_0 l0_1 l0_2 = some r) ∧ Aside0 (kq ≤ k1) ∧ Aside0 (wc.heap[gb712]? = some (.cells #[(.slice A0_0 l0_0.length c0_0), (.slice A0_1 l0_1.length c0_1), (.slice A0_2 l0_2.length c0_2)] 49 (0, 0))) ∧ Aside0 (Below w.heap.size w wc))
    case first =>
     have H := HC6.out;clear HC6;by_cases c7 : 0 ≤ x7_1
     ·rw [if_pos c7] at H
      have c7b0 : decide (0 ≤ x7_1) = true := decide_eq_true c7;clear c7;(first | rw [c7b0] | (simp only [i64_w, i32_w]; rw [c7b0]) | skip);by_cases c8 : ((rd_L1 l2 x7_1).length : Int) = (l1.length : Int)
      ·rw [if_pos c8] at H
       have c8b0 : (((rd_L1 l2 x7_1).length : Int) == (l1.length : Int)) = true := beq_iff_eq.mpr c8;have c8b1 : (((rd_L1 l2 x7_1).length : Int) != (l1.length : Int)) = false := bne_eq_false_iff_eq.mpr c8;have c8b2 : ((rd_L1 l2 x7_1).length == l1.length) = true := by first | simpa using c8 | (simp at c8 ⊢; omega)
       clear c8;by_cases c9 : x7_1 > 0
       ·rw [if_pos c9] at H
        have c9b0 : decide (0 < x7_1) = true := decide_eq_true c9;clear c9;obtain ⟨ji10, hji10⟩ : ∃ j_ : Int, (wrap64 (x7_1 - 1)) = j_ := ⟨_, rfl⟩;replace H : (if 0 ≤ (ji10) then (if (ji10) < (l2.length : Int) then ((arboristref01_Compare.f k1 (rd_L1 l2 (ji10)) (rd_L1 l2 x7_1)).bind fun t716 => (arboristref06_rows.j1 k1 l1 l2 x7_1 (decide (t716 ≥ 0)) l0_0 l0_1 l0_2)) else (none)) else (none)) = some r := by first | (rw [hji10] at H; exact H) | (simp only [hji10] at H ⊢; exact H)
        have hji10w : (IntKind.i64.wrap (x7_1 - 1)) = ji10 := (i64_w _).trans hji10;by_cases c11 : 0 ≤ (ji10)
        ·rw [if_pos c11] at H
         have c11b0 : decide (0 ≤ (ji10)) = true := decide_eq_true c11;clear c11;by_cases c12 : (ji10) < (l2.length : Int)
         ·rw [if_pos c12] at H
          have c12b0 : decide ((ji10) < (l2.length : Int)) = true := decide_eq_true c12;clear c12;replace H := Option.bind_eq_some_iff.mp H;obtain ⟨t716, A130, H⟩ := H;(try dsimp only at H);have A13 := Aside0.mk A130;clear A130;have H' := Aside0.mk H;clear H;have p713 : 0 ≤ (x7_1 : Int) := of_decide_eq_true qA;have q713 : x7_1 < (l2.length : Int) := of_decide_eq_true qA;obtain ⟨ad713, A713_0, c713_0, e713, hx713_0, hl713_0, hi713_0⟩ := at_L1 HR2.out x7_1 p713 q713;cases e713
          replace hx713_0 := (HB.out.cell (World.block_lt_of_cell? w _ hx713_0)).trans hx713_0;have HR713_0 := Aside0.mk hi713_0;have HC713_0 := Aside0.mk hl713_0;clear hi713_0 hl713_0;replace p713 := eq_true p713;replace q713 := eq_true q713;have p714 : 0 ≤ ((ji10) : Int) := of_decide_eq_true qA;have q714 : (ji10) < (l2.length : Int) := of_decide_eq_true qA;obtain ⟨ad714, A714_0, c714_0, e714, hx714_0, hl714_0, hi714_0⟩ := at_L1 HR2.out (ji10) p714 q714;obtain rfl : ad713 = ad714 := (by injection e714);replace hx714_0 := (HB.out.cell (World.block_lt_of_cell? w _ hx714_0)).trans hx714_0;have HR714_0 := Aside0.mk hi714_0;have HC714_0 := Aside0.mk hl714_0;clear hi714_0 hl714_0;replace p714 := eq_true p714;replace q714 := eq_true q714;have p715 : 0 ≤ (x7_1 : Int) := of_decide_eq_true qA;have q715 : x7_1 < (l2.length : Int) := of_decide_eq_true qA;obtain ⟨ad715, A715_0, c715_0, e715, hx715_0, hl715_0, hi715_0⟩ := at_L1 HR2.out x7_1 p715 q715;obtain rfl : ad713 = ad715 := (by injection e715);replace hx715_0 := (HB.out.cell (World.block_lt_of_cell? w _ hx715_0)).trans hx715_0;have HR715_0 := Aside0.mk hi715_0;have HC715_0 := Aside0.mk hl715_0;clear hi715_0 hl715_0;replace p715 := eq_true p715;replace q715 := eq_true q715;have ea_ := Option.some.inj (hx713_0.symm.trans hx715_0);injection ea_ with ea_ en_ ec_
          subst ea_;subst ec_;clear en_;go_wp2_with (first | (go_at_call 30; (with_reducible refine (arboristref01_Compare.calls k1 _ _ (rd_L1 l2 (ji10)) _ _ (rd_L1 l2 x7_1) t716 _ ?side1 ?side2 ?side3 ?side4 A13.out).mono ?_); (case side1 => exact qC (Kd.C_below HR714_0.out HB.out)); (case side2 => exact HC714_0.out); (case side3 => exact qC (Kd.C_below HR715_0.out HB.out)); (case side4 => exact HC715_0.out); rintro e w' ⟨rfl, ⟨nd, rfl⟩⟩; (try first | exact ⟨rfl, _, World.drewN_drewN _ _ _⟩ | exact ⟨rfl, _, Eq.trans (World.drewN_drewN _ _ _) (congrArg (World.drewN _) (Nat.add_assoc _ _ _))⟩)))
          repeat (go_quiet (first | (go_at_call 30; (with_reducible refine (arboristref01_Compare.calls k1 _ _ (rd_L1 l2 (ji10)) _ _ (rd_L1 l2 x7_1) t716 _ ?side1 ?side2 ?side3 ?side4 A13.out).mono ?_); (case side1 => exact qC (Kd.C_below HR714_0.out HB.out)); (case side2 => exact HC714_0.out); (case side3 => exact qC (Kd.C_below HR715_0.out HB.out)); (case side4 => exact HC715_0.out); rintro e w' ⟨rfl, ⟨nd, rfl⟩⟩; (try first | exact ⟨rfl, _, World.drewN_drewN _ _ _⟩ | exact ⟨rfl, _, Eq.trans (World.drewN_drewN _ _ _) (congrArg (World.drewN _) (Nat.add_assoc _ _ _))⟩))); try go_wp2_with (first | (go_at_call 30; (with_reducible refine (arboristref01_Compare.calls k1 _ _ (rd_L1 l2 (ji10)) _ _ (rd_L1 l2 x7_1) t716 _ ?side1 ?side2 ?side3 ?side4 A13.out).mono ?_); (case side1 => exact qC (Kd.C_below HR714_0.out HB.out)); (case side2 => exact HC714_0.out); (case side3 => exact qC (Kd.C_below HR715_0.out HB.out)); (case side4 => exact HC715_0.out); rintro e w' ⟨rfl, ⟨nd, rfl⟩⟩; (try first | exact ⟨rfl, _, World.drewN_drewN _ _ _⟩ | exact ⟨rfl, _, Eq.trans (World.drewN_drewN _ _ _) (congrArg (World.drewN _) (Nat.add_assoc _ _ _))⟩))))
          go_meet
          case rel => exact ⟨_, (decide (t716 ≥ 0)), (by first | rfl | (simp; done) | (simp [*]; done)), H', ⟨by have := HK1.out; first | omega | exact Nat.le_refl _⟩, ⟨qK BK712.out⟩, ⟨qB1 GE712.out HB.out⟩⟩
         ·rw [if_neg c12] at H
          exact absurd H (by simp)
        ·rw [if_neg c11] at H
         exact absurd H (by simp)
       ·rw [if_neg c9] at H
        have c9b0 : decide (0 < x7_1) = false := decide_eq_false c9;clear c9;have H' := Aside0.mk H;clear H;have p713 : 0 ≤ (x7_1 : Int) := of_decide_eq_true qA;have q713 : x7_1 < (l2.length : Int) := of_decide_eq_true qA;obtain ⟨ad713, A713_0, c713_0, e713, hx713_0, hl713_0, hi713_0⟩ := at_L1 HR2.out x7_1 p713 q713;cases e713
        replace hx713_0 := (HB.out.cell (World.block_lt_of_cell? w _ hx713_0)).trans hx713_0;have HR713_0 := Aside0.mk hi713_0;have HC713_0 := Aside0.mk hl713_0;clear hi713_0 hl713_0;replace p713 := eq_true p713;replace q713 := eq_true q713;go_wp2
        repeat (go_quiet (fail); try go_wp2)
        go_meet
        case rel => exact ⟨_, (false), (by first | rfl | (simp; done) | (simp [*]; done)), H', ⟨by have := HK1.out; first | omega | exact Nat.le_refl _⟩, ⟨qK BK712.out⟩, ⟨qB1 GE712.out HB.out⟩⟩
      ·rw [if_neg c8] at H
       have c8b0 : (((rd_L1 l2 x7_1).length : Int) == (l1.length : Int)) = false := beq_eq_false_iff_ne.mpr c8;have c8b1 : (((rd_L1 l2 x7_1).length : Int) != (l1.length : Int)) = true := bne_iff_ne.mpr c8;have c8b2 : ((rd_L1 l2 x7_1).length == l1.length) = false := by first | simpa using c8 | (simp at c8 ⊢; omega)
       have H' := Aside0.mk H;clear H;have p713 : 0 ≤ (x7_1 : Int) := of_decide_eq_true qA;have q713 : x7_1 < (l2.length : Int) := of_decide_eq_true qA;obtain ⟨ad713, A713_0, c713_0, e713, hx713_0, hl713_0, hi713_0⟩ := at_L1 HR2.out x7_1 p713 q713;cases e713
       replace hx713_0 := (HB.out.cell (World.block_lt_of_cell? w _ hx713_0)).trans hx713_0;have HR713_0 := Aside0.mk hi713_0;have HC713_0 := Aside0.mk hl713_0;clear hi713_0 hl713_0;replace p713 := eq_true p713;replace q713 := eq_true q713;go_wp2
       repeat (go_quiet (fail); try go_wp2)
       go_meet
       case rel => exact ⟨_, (true), (by first | rfl | (simp; done) | (simp [*]; done)), H', ⟨by have := HK1.out; first | omega | exact Nat.le_refl _⟩, ⟨qK BK712.out⟩, ⟨qB1 GE712.out HB.out⟩⟩
     ·rw [if_neg c7] at H
      exact absurd H (by simp)
    case rest =>
     clear HC6;try clear c1
     try clear c2
     try clear p2
     try clear c5
     try clear c5b0
     try clear p6
     try clear c7
     try clear c7b0
     try clear p7
     try clear q7
     try clear hx7
     try clear c8
     try clear c8b0
     try clear c8b1
     try clear c8b2
     try clear c9
     try clear c9b0
     try clear c11
     try clear c11b0
     try clear c12
     try clear c12b0
     try clear hx713_0
     try clear hx714_0
     try clear hx715_0
     try clear p2
     try clear p713
     try clear p714
     try clear p715
     try clear q713
     try clear q714
     try clear q715
     obtain ⟨kq, x40_5, rfl, HA, HJ5, BK712, HB⟩ := hcut;cases kq with
     | zero => exact absurd HA.out (by simp [arboristref06_rows.j1])
     | succ kj5 =>
      have H := HA.out;clear HA;simp only [arboristref06_rows.j1] at H
      by_cases c14 : x40_5 = true
      ·subst c14;replace H : (some false) = some r := by rw [if_pos rfl] at H; exact H
       obtain rfl := Option.some.inj H;go_wp2
       repeat (go_quiet (fail); try go_wp2)
       go_ret
       exact ⟨by first | rfl | (simp [errW_none, errW_some] <;> rfl) | (simp [*, errW_none, errW_some] <;> rfl), by repeat (first | (with_reducible first | exact HB.out | apply below_alloc | apply pw_below_drewN | apply below_drew1 | refine below_set ?_ GE712.out) | exact HB.out)⟩
      ·replace c14 := Bool.eq_false_iff.mpr c14;subst c14;replace H : (arboristref06_rows.l1 kj5 l1 l2 x7_1 0 l0_0 l0_1 l0_2) = some r := by rw [if_neg (show ¬ (false = true) by decide)] at H; exact H
       have H' := Aside0.mk H;clear H;go_wp2
       repeat (go_quiet (fail); try go_wp2)
       go_loopg [8] kj5 (fun kq v8 w' => ∃ (x8_3 : Int), v8 = .int .i64 x8_3 ∧ Aside0 (arboristref06_rows.l1 kq l1 l2 x7_1 x8_3 l0_0 l0_1 l0_2 = some r) ∧ Aside0 (kq ≤ kj5) ∧ Aside0 (w'.heap[gb712]? = some (.cells #[(.slice A0_0 l0_0.length c0_0), (.slice A0_1 l0_1.length c0_1), (.slice A0_2 l0_2.length c0_2)] 49 (0, 0))) ∧ Aside0 (Below w.heap.size w w'))
       case atStart => exact ⟨(0), (by first | rfl | (simp; done) | (simp [*]; done)), H', ⟨Nat.le_refl _⟩, ⟨qK BK712.out⟩, ⟨qB1 GE712.out HB.out⟩⟩
       case round =>
        clear H';try clear c1
        try clear c2
        try clear p2
        try clear c5
        try clear c5b0
        try clear p6
        try clear c7
        try clear c7b0
        try clear p7
        try clear q7
        try clear hx7
        try clear c8
        try clear c8b0
        try clear c8b1
        try clear c8b2
        try clear c9
        try clear c9b0
        try clear c11
        try clear c11b0
        try clear c12
        try clear c12b0
        try clear c14
        try clear hx713_0
        try clear hx714_0
        try clear hx715_0
        try clear p2
        try clear p6
        try clear p7
        try clear p713
        try clear p714
        try clear p715
        try clear q7
        try clear q713
        try clear q714
        try clear q715
        obtain ⟨x8_3, rfl, HA, HK3, BK712, HB⟩ := hrel;cases gk with
        | zero => exact absurd HA.out (by simp [arboristref06_rows.l1])
        | succ k3 =>
         have H := HA.out;clear HA;simp only [arboristref06_rows.l1] at H
         by_cases c15 : x8_3 < (l1.length : Int)
         ·rw [if_pos c15] at H
          have c15b0 : decide (x8_3 < (l1.length : Int)) = true := decide_eq_true c15;clear c15;by_cases c16 : 0 ≤ x8_3
          ·rw [if_pos c16] at H
           have c16b0 : decide (0 ≤ x8_3) = true := decide_eq_true c16;clear c16;by_cases c17 : 0 ≤ (rd l1 x8_3)
           ·rw [if_pos c17] at H
            have c17b0 : decide (0 ≤ (rd l1 x8_3)) = true := decide_eq_true c17;clear c17;by_cases c18 : (rd l1 x8_3) < (l0_0.length : Int)
            ·rw [if_pos c18] at H
             have c18b0 : decide ((rd l1 x8_3) < (l0_0.length : Int)) = true := decide_eq_true c18;clear c18;by_cases c19 : 0 ≤ x7_1
             ·rw [if_pos c19] at H
              have c19b0 : decide (0 ≤ x7_1) = true := decide_eq_true c19;clear c19;by_cases c20 : x7_1 < (l2.length : Int)
              ·rw [if_pos c20] at H
               have c20b0 : decide (x7_1 < (l2.length : Int)) = true := decide_eq_true c20;clear c20;by_cases c21 : x8_3 < ((rd_L1 l2 x7_1).length : Int)
               ·rw [if_pos c21] at H
                have c21b0 : decide (x8_3 < ((rd_L1 l2 x7_1).length : Int)) = true := decide_eq_true c21;clear c21;replace H := Option.bind_eq_some_iff.mp H;obtain ⟨t721, A220, H⟩ := H;(try dsimp only at H);have A22 := Aside0.mk A220;clear A220;by_cases c23 : t721 = true
                ·subst c23;replace H : (arboristref06_rows.l1 k3 l1 l2 x7_1 (wrap64 (x8_3 + 1)) l0_0 l0_1 l0_2) = some r := by rw [if_pos rfl] at H; exact H
                 have H' := Aside0.mk H;clear H;have hcz24_0 : wr.cell? ⟨gb712, 0, none⟩ = some (.slice A0_0 l0_0.length c0_0) := (blk_cell BK712.out 0).trans rfl;have hcz24_1 : wr.cell? ⟨gb712, 1, none⟩ = some (.slice A0_1 l0_1.length c0_1) := (blk_cell BK712.out 1).trans rfl;have hcz24_2 : wr.cell? ⟨gb712, 2, none⟩ = some (.slice A0_2 l0_2.length c0_2) := (blk_cell BK712.out 2).trans rfl;have hfz24_0 := blk_frozen BK712.out 0;have hfz24_1 := blk_frozen BK712.out 1;have hfz24_2 := blk_frozen BK712.out 2;have p717 : 0 ≤ (x8_3 : Int) := of_decide_eq_true qA;have q717 : x8_3 < (l1.length : Int) := of_decide_eq_true qA;obtain ⟨ad717, e717, hx717_0⟩ := Kd.at_int HR1.out x8_3 p717 q717;cases e717
                 replace hx717_0 := (HB.out.cell (World.block_lt_of_cell? w _ hx717_0)).trans hx717_0;replace p717 := eq_true p717;replace q717 := eq_true q717;have p718 : 0 ≤ ((rd l1 x8_3) : Int) := of_decide_eq_true qA;have q718 : (rd l1 x8_3) < (l0_0.length : Int) := of_decide_eq_true qA;obtain ⟨ad718, A718_0, c718_0, e718, hx718_0, hl718_0, hi718_0⟩ := at_L1 HR0_0.out (rd l1 x8_3) p718 q718;cases e718
                 replace hx718_0 := (HB.out.cell (World.block_lt_of_cell? w _ hx718_0)).trans hx718_0;have HR718_0 := Aside0.mk hi718_0;have HC718_0 := Aside0.mk hl718_0;clear hi718_0 hl718_0;replace p718 := eq_true p718;replace q718 := eq_true q718;have p719 : 0 ≤ (x7_1 : Int) := of_decide_eq_true qA;have q719 : x7_1 < (l2.length : Int) := of_decide_eq_true qA;obtain ⟨ad719, A719_0, c719_0, e719, hx719_0, hl719_0, hi719_0⟩ := at_L1 HR2.out x7_1 p719 q719;cases e719
                 replace hx719_0 := (HB.out.cell (World.block_lt_of_cell? w _ hx719_0)).trans hx719_0;have HR719_0 := Aside0.mk hi719_0;have HC719_0 := Aside0.mk hl719_0;clear hi719_0 hl719_0;replace p719 := eq_true p719;replace q719 := eq_true q719;have p720 : 0 ≤ (x8_3 : Int) := of_decide_eq_true qA;have q720 : x8_3 < ((rd_L1 l2 x7_1).length : Int) := of_decide_eq_true qA;obtain ⟨ad720, e720, hx720_0⟩ := Kd.at_int HR719_0.out x8_3 p720 q720;cases e720
                 replace hx720_0 := (HB.out.cell (World.block_lt_of_cell? w _ hx720_0)).trans hx720_0;replace p720 := eq_true p720;replace q720 := eq_true q720;go_wp2_with (first | (go_at_call 37; (with_reducible refine (arboristref01_In.calls k3 _ _ (rd_L1 l0_0 (rd l1 x8_3)) (rd (rd_L1 l2 x7_1) x8_3) true _ ?side1 ?side2 A22.out).mono ?_); (case side1 => exact qC (Kd.C_below HR718_0.out HB.out)); (case side2 => exact HC718_0.out); rintro e w' ⟨rfl, ⟨nd, rfl⟩⟩; (try first | exact ⟨rfl, _, World.drewN_drewN _ _ _⟩ | exact ⟨rfl, _, Eq.trans (World.drewN_drewN _ _ _) (congrArg (World.drewN _) (Nat.add_assoc _ _ _))⟩)))
                 repeat (go_quiet (first | (go_at_call 37; (with_reducible refine (arboristref01_In.calls k3 _ _ (rd_L1 l0_0 (rd l1 x8_3)) (rd (rd_L1 l2 x7_1) x8_3) true _ ?side1 ?side2 A22.out).mono ?_); (case side1 => exact qC (Kd.C_below HR718_0.out HB.out)); (case side2 => exact HC718_0.out); rintro e w' ⟨rfl, ⟨nd, rfl⟩⟩; (try first | exact ⟨rfl, _, World.drewN_drewN _ _ _⟩ | exact ⟨rfl, _, Eq.trans (World.drewN_drewN _ _ _) (congrArg (World.drewN _) (Nat.add_assoc _ _ _))⟩))); try go_wp2_with (first | (go_at_call 37; (with_reducible refine (arboristref01_In.calls k3 _ _ (rd_L1 l0_0 (rd l1 x8_3)) (rd (rd_L1 l2 x7_1) x8_3) true _ ?side1 ?side2 A22.out).mono ?_); (case side1 => exact qC (Kd.C_below HR718_0.out HB.out)); (case side2 => exact HC718_0.out); rintro e w' ⟨rfl, ⟨nd, rfl⟩⟩; (try first | exact ⟨rfl, _, World.drewN_drewN _ _ _⟩ | exact ⟨rfl, _, Eq.trans (World.drewN_drewN _ _ _) (congrArg (World.drewN _) (Nat.add_assoc _ _ _))⟩))))
                 go_roundg k3
                 case measure => have := HK1.out; have := HJ5.out; have := HK3.out; omega
                 case rel => exact ⟨(wrap64 (x8_3 + 1)), (by first | rfl | (simp; done) | (simp [*]; done)), H', ⟨by have := HK1.out; have := HJ5.out; have := HK3.out; omega⟩, ⟨qK BK712.out⟩, ⟨qB1 GE712.out HB.out⟩⟩
                ·replace c23 := Bool.eq_false_iff.mpr c23;subst c23;replace H : (some false) = some r := by rw [if_neg (show ¬ (false = true) by decide)] at H; exact H
                 obtain rfl := Option.some.inj H;have hcz25_0 : wr.cell? ⟨gb712, 0, none⟩ = some (.slice A0_0 l0_0.length c0_0) := (blk_cell BK712.out 0).trans rfl;have hcz25_1 : wr.cell? ⟨gb712, 1, none⟩ = some (.slice A0_1 l0_1.length c0_1) := (blk_cell BK712.out 1).trans rfl;have hcz25_2 : wr.cell? ⟨gb712, 2, none⟩ = some (.slice A0_2 l0_2.length c0_2) := (blk_cell BK712.out 2).trans rfl;have hfz25_0 := blk_frozen BK712.out 0;have hfz25_1 := blk_frozen BK712.out 1;have hfz25_2 := blk_frozen BK712.out 2;have p717 : 0 ≤ (x8_3 : Int) := of_decide_eq_true qA;have q717 : x8_3 < (l1.length : Int) := of_decide_eq_true qA;obtain ⟨ad717, e717, hx717_0⟩ := Kd.at_int HR1.out x8_3 p717 q717;cases e717
                 replace hx717_0 := (HB.out.cell (World.block_lt_of_cell? w _ hx717_0)).trans hx717_0;replace p717 := eq_true p717;replace q717 := eq_true q717;have p718 : 0 ≤ ((rd l1 x8_3) : Int) := of_decide_eq_true qA;have q718 : (rd l1 x8_3) < (l0_0.length : Int) := of_decide_eq_true qA;obtain ⟨ad718, A718_0, c718_0, e718, hx718_0, hl718_0, hi718_0⟩ := at_L1 HR0_0.out (rd l1 x8_3) p718 q718;cases e718
                 replace hx718_0 := (HB.out.cell (World.block_lt_of_cell? w _ hx718_0)).trans hx718_0;have HR718_0 := Aside0.mk hi718_0;have HC718_0 := Aside0.mk hl718_0;clear hi718_0 hl718_0;replace p718 := eq_true p718;replace q718 := eq_true q718;have p719 : 0 ≤ (x7_1 : Int) := of_decide_eq_true qA;have q719 : x7_1 < (l2.length : Int) := of_decide_eq_true qA;obtain ⟨ad719, A719_0, c719_0, e719, hx719_0, hl719_0, hi719_0⟩ := at_L1 HR2.out x7_1 p719 q719;cases e719
                 replace hx719_0 := (HB.out.cell (World.block_lt_of_cell? w _ hx719_0)).trans hx719_0;have HR719_0 := Aside0.mk hi719_0;have HC719_0 := Aside0.mk hl719_0;clear hi719_0 hl719_0;replace p719 := eq_true p719;replace q719 := eq_true q719;have p720 : 0 ≤ (x8_3 : Int) := of_decide_eq_true qA;have q720 : x8_3 < ((rd_L1 l2 x7_1).length : Int) := of_decide_eq_true qA;obtain ⟨ad720, e720, hx720_0⟩ := Kd.at_int HR719_0.out x8_3 p720 q720;cases e720
                 replace hx720_0 := (HB.out.cell (World.block_lt_of_cell? w _ hx720_0)).trans hx720_0;replace p720 := eq_true p720;replace q720 := eq_true q720;go_wp2_with (first | (go_at_call 37; (with_reducible refine (arboristref01_In.calls k3 _ _ (rd_L1 l0_0 (rd l1 x8_3)) (rd (rd_L1 l2 x7_1) x8_3) false _ ?side1 ?side2 A22.out).mono ?_); (case side1 => exact qC (Kd.C_below HR718_0.out HB.out)); (case side2 => exact HC718_0.out); rintro e w' ⟨rfl, ⟨nd, rfl⟩⟩; (try first | exact ⟨rfl, _, World.drewN_drewN _ _ _⟩ | exact ⟨rfl, _, Eq.trans (World.drewN_drewN _ _ _) (congrArg (World.drewN _) (Nat.add_assoc _ _ _))⟩)))
                 repeat (go_quiet (first | (go_at_call 37; (with_reducible refine (arboristref01_In.calls k3 _ _ (rd_L1 l0_0 (rd l1 x8_3)) (rd (rd_L1 l2 x7_1) x8_3) false _ ?side1 ?side2 A22.out).mono ?_); (case side1 => exact qC (Kd.C_below HR718_0.out HB.out)); (case side2 => exact HC718_0.out); rintro e w' ⟨rfl, ⟨nd, rfl⟩⟩; (try first | exact ⟨rfl, _, World.drewN_drewN _ _ _⟩ | exact ⟨rfl, _, Eq.trans (World.drewN_drewN _ _ _) (congrArg (World.drewN _) (Nat.add_assoc _ _ _))⟩))); try go_wp2_with (first | (go_at_call 37; (with_reducible refine (arboristref01_In.calls k3 _ _ (rd_L1 l0_0 (rd l1 x8_3)) (rd (rd_L1 l2 x7_1) x8_3) false _ ?side1 ?side2 A22.out).mono ?_); (case side1 => exact qC (Kd.C_below HR718_0.out HB.out)); (case side2 => exact HC718_0.out); rintro e w' ⟨rfl, ⟨nd, rfl⟩⟩; (try first | exact ⟨rfl, _, World.drewN_drewN _ _ _⟩ | exact ⟨rfl, _, Eq.trans (World.drewN_drewN _ _ _) (congrArg (World.drewN _) (Nat.add_assoc _ _ _))⟩))))
                 go_ret
                 exact ⟨by first | rfl | (simp [errW_none, errW_some] <;> rfl) | (simp [*, errW_none, errW_some] <;> rfl), by repeat (first | (with_reducible first | exact HB.out | apply below_alloc | apply pw_below_drewN | apply below_drew1 | refine below_set ?_ GE712.out) | exact HB.out)⟩
               ·rw [if_neg c21] at H
                exact absurd H (by simp)
              ·rw [if_neg c20] at H
               exact absurd H (by simp)
             ·rw [if_neg c19] at H
              exact absurd H (by simp)
            ·rw [if_neg c18] at H
             exact absurd H (by simp)
           ·rw [if_neg c17] at H
            exact absurd H (by simp)
          ·rw [if_neg c16] at H
           exact absurd H (by simp)
         ·rw [if_neg c15] at H
          have c15b0 : decide (x8_3 < (l1.length : Int)) = false := decide_eq_false c15;clear c15;have H' := Aside0.mk H;clear H;go_wp2
          repeat (go_quiet (fail); try go_wp2)
          go_roundg k3
          case measure => have := HK1.out; have := HJ5.out; have := HK3.out; omega
          case rel => exact ⟨(wrap64 (x7_1 + 1)), (by first | rfl | (simp; done) | (simp [*]; done)), H', ⟨by have := HK1.out; have := HJ5.out; have := HK3.out; omega⟩, ⟨qK BK712.out⟩, ⟨qB1 GE712.out HB.out⟩⟩
   ·rw [if_neg c5] at H
    have c5b0 : decide (x7_1 < (l2.length : Int)) = false := decide_eq_false c5;clear c5;obtain rfl := Option.some.inj H;go_wp2
    repeat (go_quiet (fail); try go_wp2)
    go_ret
    exact ⟨by first | rfl | (simp [errW_none, errW_some] <;> rfl) | (simp [*, errW_none, errW_some] <;> rfl), by repeat (first | (with_reducible first | exact HB.out | apply below_alloc | apply pw_below_drewN | apply below_drew1 | refine below_set ?_ GE712.out) | exact HB.out)⟩
end Go.Proofs.Ytpmfdggbccbfaaa.Pr
