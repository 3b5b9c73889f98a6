-- Printed by wip/tools/pp.py over the kit's print.py, several texts in one (wip/tools/mergepr.py); Lean checks it.
import Derived.Test.YtpmfdggbccbfaaaPr0
import Derived.Test.YtpmfdggbccbfaaaPr50
namespace Go.Proofs.Ytpmfdggbccbfaaa.Pr
open Go.RowKit Go.Proofs.YtpmfdggbccbfaaaW.PrintWords Go.Proofs.YtpmfdggbccbfaaaW.PrintLast Go.Proofs.YtpmfdggbccbfaaaW.PrintMore
attribute [local go_sem] max2_int min2_int max_two min_two max_three min_three max_four min_four
set_option linter.unusedVariables false
set_option linter.unusedSimpArgs false
/-! ### arboristref06_hard: function 72 -/
mutual
def arboristref06_hard.j0 : Nat → Bool → List (List Int) → List (S69) → List (S73) → Int → List Int → List (List Int) → List Int → Option (Bool)
 | 0, _, _, _, _, _, _, _, _ => none
 | k + 1, x45, x723000, x723001, x723002, x724000, x724001, x724002, x724003 => if x45 = true then (some false) else (if x724000 = 6 then (if (x724003.length : Int) = (wrap64 ((x724001.length : Int) + 2)) then (if 0 ≤ (x724001.length : Int) then (if (x724001.length : Int) < (x724003.length : Int) then (if (rd x724003 (x724001.length : Int)) < 0 then (arboristref06_hard.j1 k (x724001.length : Int) true x723000 x723001 x723002 x724000 x724001 x724002 x724003) else (if (rd x724003 (x724001.length : Int)) > 2 then (arboristref06_hard.j1 k (x724001.length : Int) true x723000 x723001 x723002 x724000 x724001 x724002 x724003) else (if 0 ≤ (wrap64 ((x724001.length : Int) + 1)) then (if (wrap64 ((x724001.length : Int) + 1)) < (x724003.length : Int) then ((arboristref06_small.f (rd x724003 (wrap64 ((x724001.length : Int) + 1))) 1000000).bind fun t728 => (arboristref06_hard.j1 k (x724001.length : Int) (!t728) x723000 x723001 x723002 x724000 x724001 x724002 x724003)) else (none)) else (none)))) else (none)) else (none)) else (arboristref06_hard.j1 k (x724001.length : Int) true x723000 x723001 x723002 x724000 x724001 x724002 x724003)) else ((arboristref06_rows.f k x723000 x723001 x723002 x724001 x724002).bind fun t733 => (some t733)))
def arboristref06_hard.j1 : Nat → Int → Bool → List (List Int) → List (S69) → List (S73) → Int → List Int → List (List Int) → List Int → Option (Bool)
 | 0, _, _, _, _, _, _, _, _, _ => none
 | k + 1, x6, x83, x723000, x723001, x723002, x724000, x724001, x724002, x724003 => if x83 = true then (some false) else (arboristref06_hard.l0 k x6 0 x723000 x723001 x723002 x724000 x724001 x724002 x724003)
def arboristref06_hard.l0 : Nat → Int → Int → List (List Int) → List (S69) → List (S73) → Int → List Int → List (List Int) → List Int → Option (Bool)
 | 0, _, _, _, _, _, _, _, _, _ => none
 | k + 1, x6, x7, x723000, x723001, x723002, x724000, x724001, x724002, x724003 => if x7 < x6 then (if 0 ≤ x7 then (if x7 < (x724003.length : Int) then (if (rd x724003 x7) = 0 then (some false) else ((arboristref06_small.f (rd x724003 x7) 1000000).bind fun t731 => (if t731 = true then (arboristref06_hard.l0 k x6 (wrap64 (x7 + 1)) x723000 x723001 x723002 x724000 x724001 x724002 x724003) else (some false)))) else (none)) else (none)) else ((arboristref06_rows.f k x723000 x723001 x723002 x724001 x724002).bind fun t732 => (some t732))
end
def arboristref06_hard.f (k : Nat) (l0_0 : List (List Int)) (l0_1 : List (S69)) (l0_2 : List (S73)) (a1_0 : Int) (l1_1 : List Int) (l1_2 : List (List Int)) (l1_3 : List Int) : Option (Bool) := (arboristref06_scope.f k l0_0 l0_1 l0_2 l1_1).bind fun t724 => (if t724 = true then (if a1_0 < 1 then (arboristref06_hard.j0 k true l0_0 l0_1 l0_2 a1_0 l1_1 l1_2 l1_3) else (if a1_0 > 6 then (arboristref06_hard.j0 k true l0_0 l0_1 l0_2 a1_0 l1_1 l1_2 l1_3) else (if a1_0 > 2 then (if (l1_2.length : Int) > 0 then (arboristref06_hard.j0 k true l0_0 l0_1 l0_2 a1_0 l1_1 l1_2 l1_3) else (if a1_0 = 6 then (arboristref06_hard.j0 k false l0_0 l0_1 l0_2 a1_0 l1_1 l1_2 l1_3) else (arboristref06_hard.j0 k (decide ((l1_3.length : Int) > 0)) l0_0 l0_1 l0_2 a1_0 l1_1 l1_2 l1_3))) else (if a1_0 = 6 then (arboristref06_hard.j0 k false l0_0 l0_1 l0_2 a1_0 l1_1 l1_2 l1_3) else (arboristref06_hard.j0 k (decide ((l1_3.length : Int) > 0)) l0_0 l0_1 l0_2 a1_0 l1_1 l1_2 l1_3))))) else (arboristref06_hard.j0 k true l0_0 l0_1 l0_2 a1_0 l1_1 l1_2 l1_3))
set_option maxHeartbeats 8000000 in
set_option maxRecDepth 100000 in
theorem arboristref06_hard.calls (k : Nat) (A0_0 : Option Addr) (c0_0 : Nat) (l0_0 : List (List Int)) (A0_1 : Option Addr) (c0_1 : Nat) (l0_1 : List (S69)) (A0_2 : Option Addr) (c0_2 : Nat) (l0_2 : List (S73)) (a1_0 : Int) (A1_1 : Option Addr) (c1_1 : Nat) (l1_1 : List Int) (A1_2 : Option Addr) (c1_2 : Nat) (l1_2 : List (List Int)) (A1_3 : Option Addr) (c1_3 : Nat) (l1_3 : List Int) (r : Bool) (w : World) (hr0_0 : Kd.C (Kd.slice 3 (Kd.int .i64)) w A0_0 l0_0.length l0_0) (hc0_0 : l0_0.length ≤ c0_0) (hr0_1 : Kd.C k69 w A0_1 l0_1.length l0_1) (hc0_1 : l0_1.length ≤ c0_1) (hr0_2 : Kd.C k73 w A0_2 l0_2.length l0_2) (hc0_2 : l0_2.length ≤ c0_2) (hr1_1 : Kd.C (Kd.int .i64) w A1_1 l1_1.length l1_1) (hc1_1 : l1_1.length ≤ c1_1) (hr1_2 : Kd.C (Kd.slice 3 (Kd.int .i64)) w A1_2 l1_2.length l1_2) (hc1_2 : l1_2.length ≤ c1_2) (hr1_3 : Kd.C (Kd.int .i64) w A1_3 l1_3.length l1_3) (hc1_3 : l1_3.length ≤ c1_3) (h : arboristref06_hard.f k l0_0 l0_1 l0_2 a1_0 l1_1 l1_2 l1_3 = some r) :
  Calls Try.prog 72 #[.agg #[.slice A0_0 l0_0.length c0_0, .slice A0_1 l0_1.length c0_1, .slice A0_2 l0_2.length c0_2], .agg #[.int .i64 a1_0, .slice A1_1 l1_1.length c1_1, .slice A1_2 l1_2.length c1_2, .slice A1_3 l1_3.length c1_3]] w fun e w' => e = .returned (.bool r) ∧ Below w.heap.size w w' := by
 have hu49 := Try.underlying49;have hu69 := Try.underlying69;have HR0_0 := Aside0.mk hr0_0;have HC0_0 := Aside0.mk hc0_0;clear hr0_0 hc0_0;have HR0_1 := Aside0.mk hr0_1;have HC0_1 := Aside0.mk hc0_1;clear hr0_1 hc0_1;have HR0_2 := Aside0.mk hr0_2;have HC0_2 := Aside0.mk hc0_2;clear hr0_2 hc0_2;have HR1_1 := Aside0.mk hr1_1;have HC1_1 := Aside0.mk hc1_1;clear hr1_1 hc1_1;have HR1_2 := Aside0.mk hr1_2;have HC1_2 := Aside0.mk hc1_2;clear hr1_2 hc1_2;have HR1_3 := Aside0.mk hr1_3;have HC1_3 := Aside0.mk hc1_3;clear hr1_3 hc1_3;have HB := Aside0.mk (Below.refl w.heap.size w);have H : ((arboristref06_scope.f k l0_0 l0_1 l0_2 l1_1).bind fun t724 => (if t724 = true then (if a1_0 < 1 then (arboristref06_hard.j0 k true l0_0 l0_1 l0_2 a1_0 l1_1 l1_2 l1_3) else (if a1_0 > 6 then (arboristref06_hard.j0 k true l0_0 l0_1 l0_2 a1_0 l1_1 l1_2 l1_3) else (if a1_0 > 2 then (if (l1_2.length : Int) > 0 then (arboristref06_hard.j0 k true l0_0 l0_1 l0_2 a1_0 l1_1 l1_2 l1_3) else (if a1_0 = 6 then (arboristref06_hard.j0 k false l0_0 l0_1 l0_2 a1_0 l1_1 l1_2 l1_3) else (arboristref06_hard.j0 k (decide ((l1_3.length : Int) > 0)) l0_0 l0_1 l0_2 a1_0 l1_1 l1_2 l1_3))) else (if a1_0 = 6 then (arboristref06_hard.j0 k false l0_0 l0_1 l0_2 a1_0 l1_1 l1_2 l1_3) else (arboristref06_hard.j0 k (decide ((l1_3.length : Int) > 0)) l0_0 l0_1 l0_2 a1_0 l1_1 l1_2 l1_3))))) else (arboristref06_hard.j0 k true l0_0 l0_1 l0_2 a1_0 l1_1 l1_2 l1_3))) = some r := h;clear h;replace H := Option.bind_eq_some_iff.mp H;obtain ⟨t724, A30, H⟩ := H;(try dsimp only at H);have A3 := Aside0.mk A30;clear A30;have HC4 := Aside0.mk H;clear H;go_enter Try.func72, Try.ntmps72
 go_upto_region 2 with (first | ((with_reducible refine gate_dst (N := 2) rfl ?_); (try (refine gate_guard (by rfl) ?_; dsimp only)); refine box_event ?hg (N := 2) ?hd (cs := #[.slice A0_0 l0_0.length c0_0, .slice A0_1 l0_1.length c0_1, .slice A0_2 l0_2.length c0_2]) (t := 49) ?hr ?_; (case hd => rfl); (case hg => rfl); (case hr => first | (go_simp; done) | (go_simp; rfl)); intro gb722 hg w5 hbox hb; have n0_ := Aside0.mk (below_step (qB HB.out) hb); have n1_ := Aside0.mk (hbox); have n2_ := Aside0.mk ((by rw [hg]; exact (below_size (qB HB.out)) : w.heap.size ≤ gb722)); have n3_ := Aside0.mk ((by rw [hg]; exact (below_size (qB HB.out)) : w.heap.size ≤ gb722)); clear HB; have HB := n0_; have BK722 := n1_; have GW722 := n2_; have GE722 := n3_; clear n0_ n1_ n2_ n3_; clear hb hbox hg) | ((with_reducible refine gate_dst (N := 3) rfl ?_); (try (refine gate_guard (by rfl) ?_; dsimp only)); refine box_event ?hg (N := 3) ?hd (cs := #[.int .i64 a1_0, .slice A1_1 l1_1.length c1_1, .slice A1_2 l1_2.length c1_2, .slice A1_3 l1_3.length c1_3]) (t := 69) ?hr ?_; (case hd => rfl); (case hg => rfl); (case hr => first | (go_simp; done) | (go_simp; rfl)); intro gb723 hg w6 hbox hb; have n0_ := Aside0.mk (blk_below (g := gb722) (o := .cells #[.slice A0_0 l0_0.length c0_0, .slice A0_1 l0_1.length c0_1, .slice A0_2 l0_2.length c0_2] 49 (0, 0)) (qK BK722.out) hb); have n1_ := Aside0.mk (below_step (by repeat (first | (with_reducible first | exact HB.out | apply below_alloc | apply pw_below_drewN | apply below_drew1 | refine below_set ?_ GE722.out) | exact HB.out)) hb); have n2_ := Aside0.mk (hbox); have n3_ := Aside0.mk ((by rw [hg]; exact (below_size (by repeat (first | (with_reducible first | exact HB.out | apply below_alloc | apply pw_below_drewN | apply below_drew1 | refine below_set ?_ GE722.out) | exact HB.out))) : w.heap.size ≤ gb723)); have n4_ := Aside0.mk ((by rw [hg]; exact (below_size (by repeat (first | (with_reducible first | exact HB.out | apply below_alloc | apply pw_below_drewN | apply below_drew1 | refine below_set ?_ GE722.out) | exact HB.out))) : w.heap.size ≤ gb723)); have n5_ := Aside0.mk ((by rw [hg]; exact Nat.ne_of_lt (blk_lt (g := gb722) (o := .cells #[.slice A0_0 l0_0.length c0_0, .slice A0_1 l0_1.length c0_1, .slice A0_2 l0_2.length c0_2] 49 (0, 0)) (qK BK722.out)) : gb722 ≠ gb723)); have n6_ := Aside0.mk ((by rw [hg]; exact Nat.ne_of_gt (blk_lt (g := gb722) (o := .cells #[.slice A0_0 l0_0.length c0_0, .slice A0_1 l0_1.length c0_1, .slice A0_2 l0_2.length c0_2] 49 (0, 0)) (qK BK722.out)) : gb723 ≠ gb722)); clear BK722; clear HB; have BK722 := n0_; have HB := n1_; have BK723 := n2_; have GW723 := n3_; have GE723 := n4_; have NB722_723 := n5_; have NB723_722 := n6_; clear n0_ n1_ n2_ n3_ n4_ n5_ n6_; clear hb hbox hg; have hnb7 := NB722_723.out; have hnc7 := NB723_722.out; have hcz8_0 : w6.cell? ⟨gb722, 0, none⟩ = some (.slice A0_0 l0_0.length c0_0) := (blk_cell BK722.out 0).trans rfl; have hcz8_1 : w6.cell? ⟨gb722, 1, none⟩ = some (.slice A0_1 l0_1.length c0_1) := (blk_cell BK722.out 1).trans rfl; have hcz8_2 : w6.cell? ⟨gb722, 2, none⟩ = some (.slice A0_2 l0_2.length c0_2) := (blk_cell BK722.out 2).trans rfl; have hfz8_0 := blk_frozen BK722.out 0; have hfz8_1 := blk_frozen BK722.out 1; have hfz8_2 := blk_frozen BK722.out 2; have hcz9_0 : w6.cell? ⟨gb723, 0, none⟩ = some (.int .i64 a1_0) := (blk_cell BK723.out 0).trans rfl; have hcz9_1 : w6.cell? ⟨gb723, 1, none⟩ = some (.slice A1_1 l1_1.length c1_1) := (blk_cell BK723.out 1).trans rfl; have hcz9_2 : w6.cell? ⟨gb723, 2, none⟩ = some (.slice A1_2 l1_2.length c1_2) := (blk_cell BK723.out 2).trans rfl; have hcz9_3 : w6.cell? ⟨gb723, 3, none⟩ = some (.slice A1_3 l1_3.length c1_3) := (blk_cell BK723.out 3).trans rfl; have hfz9_0 := blk_frozen BK723.out 0; have hfz9_1 := blk_frozen BK723.out 1; have hfz9_2 := blk_frozen BK723.out 2; have hfz9_3 := blk_frozen BK723.out 3) | ((with_reducible refine gate_callee (f := 79) rfl ?_); refine goesL_ (some 11) rfl rfl Try.func79 (by kernel_rfl) rfl #[.agg #[.slice A0_0 l0_0.length c0_0, .slice A0_1 l0_1.length c0_1, .slice A0_2 l0_2.length c0_2], .slice A1_1 l1_1.length c1_1] rfl qM ?_; (with_reducible refine (arboristref06_scope.calls k _ _ l0_0 _ _ l0_1 _ _ l0_2 _ _ l1_1 t724 _ ?side1 ?side2 ?side3 ?side4 ?side5 ?side6 ?side7 ?side8 A3.out).mono ?_); (case side1 => exact qC (Kd.C_below HR0_0.out HB.out)); (case side2 => exact HC0_0.out); (case side3 => exact qC (Kd.C_below HR0_1.out HB.out)); (case side4 => exact HC0_1.out); (case side5 => exact qC (Kd.C_below HR0_2.out HB.out)); (case side6 => exact HC0_2.out); (case side7 => exact qC (Kd.C_below HR1_1.out HB.out)); (case side8 => exact HC1_1.out); rintro e w10 ⟨rfl, hb⟩; refine ⟨_, rfl, ?_⟩; have n0_ := Aside0.mk (blk_below (g := gb722) (o := .cells #[.slice A0_0 l0_0.length c0_0, .slice A0_1 l0_1.length c0_1, .slice A0_2 l0_2.length c0_2] 49 (0, 0)) (qK BK722.out) hb); have n1_ := Aside0.mk (blk_below (g := gb723) (o := .cells #[.int .i64 a1_0, .slice A1_1 l1_1.length c1_1, .slice A1_2 l1_2.length c1_2, .slice A1_3 l1_3.length c1_3] 69 (0, 0)) (qK BK723.out) hb); have n2_ := Aside0.mk (below_step (by repeat (first | (with_reducible first | exact HB.out | apply below_alloc | apply pw_below_drewN | apply below_drew1 | refine below_set ?_ GE722.out | refine below_set ?_ GE723.out) | exact HB.out)) hb); clear BK722; clear BK723; clear HB; have BK722 := n0_; have BK723 := n1_; have HB := n2_; clear n0_ n1_ n2_; (try clear hb); (try clear hb2); (try clear hk); (try clear hi)))
 (try simp only [Act.put, List.setIfInBounds_toArray, List.set_cons_zero, List.set_cons_succ]);go_cut [45] (fun v45 wc => ∃ (kq : Nat) (x45_3 : Bool), v45 = .bool x45_3 ∧ Aside0 (arboristref06_hard.j0 kq x45_3 l0_0 l0_1 l0_2 a1_0 l1_1 l1_2 l1_3 = some r) ∧ Aside0 (kq ≤ k) ∧ Aside0 (wc.heap[gb722]? = some (.cells #[(.slice A0_0 l0_0.length c0_0), (.slice A0_1 l0_1.length c0_1), (.slice A0_2 l0_2.length c0_2)] 49 (0, 0))) ∧ Aside0 (wc.heap[gb723]? = some (.cells #[.int .i64 a1_0, (.slice A1_1 l1_1.length c1_1), (.slice A1_2 l1_2.length c1_2), (.slice A1_3 l1_3.length c1_3)] 69 (0, 0))) ∧ Aside0 (Below w.heap.size w wc))
 case first =>
  have H := HC4.out;clear HC4;by_cases c11 : t724 = true
  ·subst c11;replace H : (if a1_0 < 1 then (arboristref06_hard.j0 k true l0_0 l0_1 l0_2 a1_0 l1_1 l1_2 l1_3) else (if a1_0 > 6 then (arboristref06_hard.j0 k true l0_0 l0_1 l0_2 a1_0 l1_1 l1_2 l1_3) else (if a1_0 > 2 then (if (l1_2.length : Int) > 0 then (arboristref06_hard.j0 k true l0_0 l0_1 l0_2 a1_0 l1_1 l1_2 l1_3) else (if a1_0 = 6 then (arboristref06_hard.j0 k false l0_0 l0_1 l0_2 a1_0 l1_1 l1_2 l1_3) else (arboristref06_hard.j0 k (decide ((l1_3.length : Int) > 0)) l0_0 l0_1 l0_2 a1_0 l1_1 l1_2 l1_3))) else (if a1_0 = 6 then (arboristref06_hard.j0 k false l0_0 l0_1 l0_2 a1_0 l1_1 l1_2 l1_3) else (arboristref06_hard.j0 k (decide ((l1_3.length : Int) > 0)) l0_0 l0_1 l0_2 a1_0 l1_1 l1_2 l1_3))))) = some r := by rw [if_pos rfl] at H; exact H
   by_cases c12 : a1_0 < 1
   ·rw [if_pos c12] at H
    have c12b0 : decide (a1_0 < 1) = true := decide_eq_true c12;clear c12;(first | rw [c12b0] | (simp only [i64_w, i32_w]; rw [c12b0]) | skip);have H' := Aside0.mk H;clear H;have hnb13 := NB723_722.out;have hnc13 := NB722_723.out;have hcz14_0 : w10.cell? ⟨gb723, 0, none⟩ = some (.int .i64 a1_0) := (blk_cell BK723.out 0).trans rfl;have hcz14_1 : w10.cell? ⟨gb723, 1, none⟩ = some (.slice A1_1 l1_1.length c1_1) := (blk_cell BK723.out 1).trans rfl;have hcz14_2 : w10.cell? ⟨gb723, 2, none⟩ = some (.slice A1_2 l1_2.length c1_2) := (blk_cell BK723.out 2).trans rfl;have hcz14_3 : w10.cell? ⟨gb723, 3, none⟩ = some (.slice A1_3 l1_3.length c1_3) := (blk_cell BK723.out 3).trans rfl;have hfz14_0 := blk_frozen BK723.out 0;have hfz14_1 := blk_frozen BK723.out 1;have hfz14_2 := blk_frozen BK723.out 2;have hfz14_3 := blk_frozen BK723.out 3;go_wp2
    go_meet
    case rel => exact ⟨_, (true), (by first | rfl | (simp; done) | (simp [*]; done)), H', ⟨by first | omega | exact Nat.le_refl _⟩, ⟨qK BK722.out⟩, ⟨qK BK723.out⟩, ⟨qB2 GE722.out GE723.out HB.out⟩⟩
   ·rw [if_neg c12] at H
    have c12b0 : decide (a1_0 < 1) = false := decide_eq_false c12;clear c12;(first | rw [c12b0] | (simp only [i64_w, i32_w]; rw [c12b0]) | skip);by_cases c15 : a1_0 > 6
    ·rw [if_pos c15] at H
     have c15b0 : decide (6 < a1_0) = true := decide_eq_true c15;clear c15;have H' := Aside0.mk H;clear H;have hnb16 := NB723_722.out;have hnc16 := NB722_723.out;have hcz17_0 : w10.cell? ⟨gb723, 0, none⟩ = some (.int .i64 a1_0) := (blk_cell BK723.out 0).trans rfl;have hcz17_1 : w10.cell? ⟨gb723, 1, none⟩ = some (.slice A1_1 l1_1.length c1_1) := (blk_cell BK723.out 1).trans rfl;have hcz17_2 : w10.cell? ⟨gb723, 2, none⟩ = some (.slice A1_2 l1_2.length c1_2) := (blk_cell BK723.out 2).trans rfl;have hcz17_3 : w10.cell? ⟨gb723, 3, none⟩ = some (.slice A1_3 l1_3.length c1_3) := (blk_cell BK723.out 3).trans rfl;have hfz17_0 := blk_frozen BK723.out 0;have hfz17_1 := blk_frozen BK723.out 1;have hfz17_2 := blk_frozen BK723.out 2;have hfz17_3 := blk_frozen BK723.out 3;go_wp2
     go_meet
     case rel => exact ⟨_, (true), (by first | rfl | (simp; done) | (simp [*]; done)), H', ⟨by first | omega | exact Nat.le_refl _⟩, ⟨qK BK722.out⟩, ⟨qK BK723.out⟩, ⟨qB2 GE722.out GE723.out HB.out⟩⟩
    ·rw [if_neg c15] at H
     have c15b0 : decide (6 < a1_0) = false := decide_eq_false c15;clear c15;by_cases c18 : a1_0 > 2
     ·rw [if_pos c18] at H
      have c18b0 : decide (2 < a1_0) = true := decide_eq_true c18;clear c18;by_cases c19 : (l1_2.length : Int) > 0
      ·rw [if_pos c19] at H
       have c19b0 : decide (0 < (l1_2.length : Int)) = true := decide_eq_true c19;have c19b1 : decide (0 < l1_2.length) = true := decide_eq_true (by omega);clear c19;have H' := Aside0.mk H;clear H;have hnb20 := NB723_722.out;have hnc20 := NB722_723.out;have hcz21_0 : w10.cell? ⟨gb723, 0, none⟩ = some (.int .i64 a1_0) := (blk_cell BK723.out 0).trans rfl;have hcz21_1 : w10.cell? ⟨gb723, 1, none⟩ = some (.slice A1_1 l1_1.length c1_1) := (blk_cell BK723.out 1).trans rfl;have hcz21_2 : w10.cell? ⟨gb723, 2, none⟩ = some (.slice A1_2 l1_2.length c1_2) := (blk_cell BK723.out 2).trans rfl;have hcz21_3 : w10.cell? ⟨gb723, 3, none⟩ = some (.slice A1_3 l1_3.length c1_3) := (blk_cell BK723.out 3).trans rfl;have hfz21_0 := blk_frozen BK723.out 0;have hfz21_1 := blk_frozen BK723.out 1;have hfz21_2 := blk_frozen BK723.out 2;have hfz21_3 := blk_frozen BK723.out 3;go_wp2
       go_meet
       case rel => exact ⟨_, (true), (by first | rfl | (simp; done) | (simp [*]; done)), H', ⟨by first | omega | exact Nat.le_refl _⟩, ⟨qK BK722.out⟩, ⟨qK BK723.out⟩, ⟨qB2 GE722.out GE723.out HB.out⟩⟩
      ·rw [if_neg c19] at H
       have c19b0 : decide (0 < (l1_2.length : Int)) = false := decide_eq_false c19;have c19b1 : decide (0 < l1_2.length) = false := decide_eq_false (by omega);clear c19;by_cases c22 : a1_0 = 6
       ·rw [if_pos c22] at H
        have c22b0 : (a1_0 == 6) = true := beq_iff_eq.mpr c22;have c22b1 : (a1_0 != 6) = false := bne_eq_false_iff_eq.mpr c22;clear c22;have H' := Aside0.mk H;clear H;have hnb23 := NB723_722.out;have hnc23 := NB722_723.out;have hcz24_0 : w10.cell? ⟨gb723, 0, none⟩ = some (.int .i64 a1_0) := (blk_cell BK723.out 0).trans rfl;have hcz24_1 : w10.cell? ⟨gb723, 1, none⟩ = some (.slice A1_1 l1_1.length c1_1) := (blk_cell BK723.out 1).trans rfl;have hcz24_2 : w10.cell? ⟨gb723, 2, none⟩ = some (.slice A1_2 l1_2.length c1_2) := (blk_cell BK723.out 2).trans rfl;have hcz24_3 : w10.cell? ⟨gb723, 3, none⟩ = some (.slice A1_3 l1_3.length c1_3) := (blk_cell BK723.out 3).trans rfl;have hfz24_0 := blk_frozen BK723.out 0;have hfz24_1 := blk_frozen BK723.out 1;have hfz24_2 := blk_frozen BK723.out 2;have hfz24_3 := blk_frozen BK723.out 3;go_wp2
        go_meet
        case rel => exact ⟨_, (false), (by first | rfl | (simp; done) | (simp [*]; done)), H', ⟨by first | omega | exact Nat.le_refl _⟩, ⟨qK BK722.out⟩, ⟨qK BK723.out⟩, ⟨qB2 GE722.out GE723.out HB.out⟩⟩
       ·rw [if_neg c22] at H
        have c22b0 : (a1_0 == 6) = false := beq_eq_false_iff_ne.mpr c22;have c22b1 : (a1_0 != 6) = true := bne_iff_ne.mpr c22;have H' := Aside0.mk H;clear H;have hnb25 := NB723_722.out;have hnc25 := NB722_723.out;have hcz26_0 : w10.cell? ⟨gb723, 0, none⟩ = some (.int .i64 a1_0) := (blk_cell BK723.out 0).trans rfl;have hcz26_1 : w10.cell? ⟨gb723, 1, none⟩ = some (.slice A1_1 l1_1.length c1_1) := (blk_cell BK723.out 1).trans rfl;have hcz26_2 : w10.cell? ⟨gb723, 2, none⟩ = some (.slice A1_2 l1_2.length c1_2) := (blk_cell BK723.out 2).trans rfl;have hcz26_3 : w10.cell? ⟨gb723, 3, none⟩ = some (.slice A1_3 l1_3.length c1_3) := (blk_cell BK723.out 3).trans rfl;have hfz26_0 := blk_frozen BK723.out 0;have hfz26_1 := blk_frozen BK723.out 1;have hfz26_2 := blk_frozen BK723.out 2;have hfz26_3 := blk_frozen BK723.out 3;go_wp2
        go_meet
        case rel => exact ⟨_, (decide ((l1_3.length : Int) > 0)), (by first | rfl | (simp; done) | (simp [*]; done)), H', ⟨by first | omega | exact Nat.le_refl _⟩, ⟨qK BK722.out⟩, ⟨qK BK723.out⟩, ⟨qB2 GE722.out GE723.out HB.out⟩⟩
     ·rw [if_neg c18] at H
      have c18b0 : decide (2 < a1_0) = false := decide_eq_false c18;clear c18;by_cases c27 : a1_0 = 6
      ·rw [if_pos c27] at H
       have c27b0 : (a1_0 == 6) = true := beq_iff_eq.mpr c27;have c27b1 : (a1_0 != 6) = false := bne_eq_false_iff_eq.mpr c27;clear c27;have H' := Aside0.mk H;clear H;have hnb28 := NB723_722.out;have hnc28 := NB722_723.out;have hcz29_0 : w10.cell? ⟨gb723, 0, none⟩ = some (.int .i64 a1_0) := (blk_cell BK723.out 0).trans rfl;have hcz29_1 : w10.cell? ⟨gb723, 1, none⟩ = some (.slice A1_1 l1_1.length c1_1) := (blk_cell BK723.out 1).trans rfl;have hcz29_2 : w10.cell? ⟨gb723, 2, none⟩ = some (.slice A1_2 l1_2.length c1_2) := (blk_cell BK723.out 2).trans rfl;have hcz29_3 : w10.cell? ⟨gb723, 3, none⟩ = some (.slice A1_3 l1_3.length c1_3) := (blk_cell BK723.out 3).trans rfl;have hfz29_0 := blk_frozen BK723.out 0;have hfz29_1 := blk_frozen BK723.out 1;have hfz29_2 := blk_frozen BK723.out 2;have hfz29_3 := blk_frozen BK723.out 3;go_wp2
       go_meet
       case rel => exact ⟨_, (false), (by first | rfl | (simp; done) | (simp [*]; done)), H', ⟨by first | omega | exact Nat.le_refl _⟩, ⟨qK BK722.out⟩, ⟨qK BK723.out⟩, ⟨qB2 GE722.out GE723.out HB.out⟩⟩
      ·rw [if_neg c27] at H
       have c27b0 : (a1_0 == 6) = false := beq_eq_false_iff_ne.mpr c27;have c27b1 : (a1_0 != 6) = true := bne_iff_ne.mpr c27;have H' := Aside0.mk H;clear H;have hnb30 := NB723_722.out;have hnc30 := NB722_723.out;have hcz31_0 : w10.cell? ⟨gb723, 0, none⟩ = some (.int .i64 a1_0) := (blk_cell BK723.out 0).trans rfl;have hcz31_1 : w10.cell? ⟨gb723, 1, none⟩ = some (.slice A1_1 l1_1.length c1_1) := (blk_cell BK723.out 1).trans rfl;have hcz31_2 : w10.cell? ⟨gb723, 2, none⟩ = some (.slice A1_2 l1_2.length c1_2) := (blk_cell BK723.out 2).trans rfl;have hcz31_3 : w10.cell? ⟨gb723, 3, none⟩ = some (.slice A1_3 l1_3.length c1_3) := (blk_cell BK723.out 3).trans rfl;have hfz31_0 := blk_frozen BK723.out 0;have hfz31_1 := blk_frozen BK723.out 1;have hfz31_2 := blk_frozen BK723.out 2;have hfz31_3 := blk_frozen BK723.out 3;go_wp2
       go_meet
       case rel => exact ⟨_, (decide ((l1_3.length : Int) > 0)), (by first | rfl | (simp; done) | (simp [*]; done)), H', ⟨by first | omega | exact Nat.le_refl _⟩, ⟨qK BK722.out⟩, ⟨qK BK723.out⟩, ⟨qB2 GE722.out GE723.out HB.out⟩⟩
  ·replace c11 := Bool.eq_false_iff.mpr c11;subst c11;replace H : (arboristref06_hard.j0 k true l0_0 l0_1 l0_2 a1_0 l1_1 l1_2 l1_3) = some r := by rw [if_neg (show ¬ (false = true) by decide)] at H; exact H
   have H' := Aside0.mk H;clear H;go_wp2
   go_meet
   case rel => exact ⟨_, (true), (by first | rfl | (simp; done) | (simp [*]; done)), H', ⟨by first | omega | exact Nat.le_refl _⟩, ⟨qK BK722.out⟩, ⟨qK BK723.out⟩, ⟨qB2 GE722.out GE723.out HB.out⟩⟩
 case rest =>
  clear HC4;try clear c1
  try clear c2
  try clear p2
  try clear c3
  try clear c7
  try clear c11
  try clear c12
  try clear c12b0
  try clear c13
  try clear c15
  try clear c15b0
  try clear c16
  try clear c18
  try clear c18b0
  try clear c19
  try clear c19b0
  try clear c19b1
  try clear c20
  try clear c22
  try clear c22b0
  try clear c22b1
  try clear c23
  try clear c25
  try clear c27
  try clear c27b0
  try clear c27b1
  try clear c28
  try clear c30
  try clear hcz14_0
  try clear hcz14_1
  try clear hcz14_2
  try clear hcz14_3
  try clear hcz17_0
  try clear hcz17_1
  try clear hcz17_2
  try clear hcz17_3
  try clear hcz21_0
  try clear hcz21_1
  try clear hcz21_2
  try clear hcz21_3
  try clear hcz24_0
  try clear hcz24_1
  try clear hcz24_2
  try clear hcz24_3
  try clear hcz26_0
  try clear hcz26_1
  try clear hcz26_2
  try clear hcz26_3
  try clear hcz29_0
  try clear hcz29_1
  try clear hcz29_2
  try clear hcz29_3
  try clear hcz31_0
  try clear hcz31_1
  try clear hcz31_2
  try clear hcz31_3
  try clear hcz8_0
  try clear hcz8_1
  try clear hcz8_2
  try clear hcz9_0
  try clear hcz9_1
  try clear hcz9_2
  try clear hcz9_3
  try clear hfz14_0
  try clear hfz14_1
  try clear hfz14_2
  try clear hfz14_3
  try clear hfz17_0
  try clear hfz17_1
  try clear hfz17_2
  try clear hfz17_3
  try clear hfz21_0
  try clear hfz21_1
  try clear hfz21_2
  try clear hfz21_3
  try clear hfz24_0
  try clear hfz24_1
  try clear hfz24_2
  try clear hfz24_3
  try clear hfz26_0
  try clear hfz26_1
  try clear hfz26_2
  try clear hfz26_3
  try clear hfz29_0
  try clear hfz29_1
  try clear hfz29_2
  try clear hfz29_3
  try clear hfz31_0
  try clear hfz31_1
  try clear hfz31_2
  try clear hfz31_3
  try clear hfz8_0
  try clear hfz8_1
  try clear hfz8_2
  try clear hfz9_0
  try clear hfz9_1
  try clear hfz9_2
  try clear hfz9_3
  obtain ⟨kq, x45_3, rfl, HA, HJ3, BK722, BK723, HB⟩ := hcut;cases kq with
  | zero => exact absurd HA.out (by simp [arboristref06_hard.j0])
  | succ kj3 =>
   have H := HA.out;clear HA;simp only [arboristref06_hard.j0] at H
   by_cases c32 : x45_3 = true
   ·subst c32;replace H : (some false) = some r := by rw [if_pos rfl] at H; exact H
    obtain rfl := Option.some.inj H;go_wp2
    go_ret
    exact ⟨by first | rfl | (simp [errW_none, errW_some] <;> rfl) | (simp [*, errW_none, errW_some] <;> rfl), by repeat (first | (with_reducible first | exact HB.out | apply below_alloc | apply pw_below_drewN | apply below_drew1 | refine below_set ?_ GE722.out | refine below_set ?_ GE723.out) | exact HB.out)⟩
   ·replace c32 := Bool.eq_false_iff.mpr c32;subst c32;replace H : (if a1_0 = 6 then (if (l1_3.length : Int) = (wrap64 ((l1_1.length : Int) + 2)) then (if 0 ≤ (l1_1.length : Int) then (if (l1_1.length : Int) < (l1_3.length : Int) then (if (rd l1_3 (l1_1.length : Int)) < 0 then (arboristref06_hard.j1 kj3 (l1_1.length : Int) true l0_0 l0_1 l0_2 a1_0 l1_1 l1_2 l1_3) else (if (rd l1_3 (l1_1.length : Int)) > 2 then (arboristref06_hard.j1 kj3 (l1_1.length : Int) true l0_0 l0_1 l0_2 a1_0 l1_1 l1_2 l1_3) else (if 0 ≤ (wrap64 ((l1_1.length : Int) + 1)) then (if (wrap64 ((l1_1.length : Int) + 1)) < (l1_3.length : Int) then ((arboristref06_small.f (rd l1_3 (wrap64 ((l1_1.length : Int) + 1))) 1000000).bind fun t728 => (arboristref06_hard.j1 kj3 (l1_1.length : Int) (!t728) l0_0 l0_1 l0_2 a1_0 l1_1 l1_2 l1_3)) else (none)) else (none)))) else (none)) else (none)) else (arboristref06_hard.j1 kj3 (l1_1.length : Int) true l0_0 l0_1 l0_2 a1_0 l1_1 l1_2 l1_3)) else ((arboristref06_rows.f kj3 l0_0 l0_1 l0_2 l1_1 l1_2).bind fun t733 => (some t733))) = some r := by rw [if_neg (show ¬ (false = true) by decide)] at H; exact H
    by_cases c33 : a1_0 = 6
    ·rw [if_pos c33] at H
     have c33b0 : (a1_0 == 6) = true := beq_iff_eq.mpr c33;have c33b1 : (a1_0 != 6) = false := bne_eq_false_iff_eq.mpr c33;clear c33;have HC34 := Aside0.mk H;clear H;have hnb35 := NB723_722.out;have hnc35 := NB722_723.out;have hcz36_0 : wc.cell? ⟨gb723, 0, none⟩ = some (.int .i64 a1_0) := (blk_cell BK723.out 0).trans rfl;have hcz36_1 : wc.cell? ⟨gb723, 1, none⟩ = some (.slice A1_1 l1_1.length c1_1) := (blk_cell BK723.out 1).trans rfl;have hcz36_2 : wc.cell? ⟨gb723, 2, none⟩ = some (.slice A1_2 l1_2.length c1_2) := (blk_cell BK723.out 2).trans rfl;have hcz36_3 : wc.cell? ⟨gb723, 3, none⟩ = some (.slice A1_3 l1_3.length c1_3) := (blk_cell BK723.out 3).trans rfl;have hfz36_0 := blk_frozen BK723.out 0;have hfz36_1 := blk_frozen BK723.out 1;have hfz36_2 := blk_frozen BK723.out 2;have hfz36_3 := blk_frozen BK723.out 3;go_upto_region 6 with (fail)
     go_cut [83] (fun v83 wc => ∃ (kq : Nat) (x83_33 : Bool), v83 = .bool x83_33 ∧ Aside0 (arboristref06_hard.j1 kq (l1_1.length : Int) x83_33 l0_0 l0_1 l0_2 a1_0 l1_1 l1_2 l1_3 = some r) ∧ Aside0 (kq ≤ kj3) ∧ Aside0 (wc.heap[gb722]? = some (.cells #[(.slice A0_0 l0_0.length c0_0), (.slice A0_1 l0_1.length c0_1), (.slice A0_2 l0_2.length c0_2)] 49 (0, 0))) ∧ Aside0 (wc.heap[gb723]? = some (.cells #[.int .i64 a1_0, (.slice A1_1 l1_1.length c1_1), (.slice A1_2 l1_2.length c1_2), (.slice A1_3 l1_3.length c1_3)] 69 (0, 0))) ∧ Aside0 (Below w.heap.size w wc))
     case first =>
      have H := HC34.out;clear HC34;by_cases c37 : (l1_3.length : Int) = (wrap64 ((l1_1.length : Int) + 2))
      ·rw [if_pos c37] at H
       have c37b0 : ((l1_3.length : Int) == (wrap64 ((l1_1.length : Int) + 2))) = true := beq_iff_eq.mpr c37;have c37b1 : ((l1_3.length : Int) != (wrap64 ((l1_1.length : Int) + 2))) = false := bne_eq_false_iff_eq.mpr c37;clear c37;(first | rw [c37b0] | (simp only [i64_w, i32_w]; rw [c37b0]) | skip);by_cases c38 : 0 ≤ (l1_1.length : Int)
       ·rw [if_pos c38] at H
        have c38b0 : decide (0 ≤ (l1_1.length : Int)) = true := decide_eq_true c38;have c38b1 : decide (0 ≤ l1_1.length) = true := decide_eq_true (by omega);clear c38;by_cases c39 : (l1_1.length : Int) < (l1_3.length : Int)
        ·rw [if_pos c39] at H
         have c39b0 : decide ((l1_1.length : Int) < (l1_3.length : Int)) = true := decide_eq_true c39;have c39b1 : decide (l1_1.length < l1_3.length) = true := decide_eq_true (Int.ofNat_lt.mp c39);clear c39;by_cases c40 : (rd l1_3 (l1_1.length : Int)) < 0
         ·rw [if_pos c40] at H
          have c40b0 : decide ((rd l1_3 (l1_1.length : Int)) < 0) = true := decide_eq_true c40;clear c40;have H' := Aside0.mk H;clear H;have hnb41 := NB723_722.out;have hnc41 := NB722_723.out;have hcz42_0 : wc.cell? ⟨gb723, 0, none⟩ = some (.int .i64 a1_0) := (blk_cell BK723.out 0).trans rfl;have hcz42_1 : wc.cell? ⟨gb723, 1, none⟩ = some (.slice A1_1 l1_1.length c1_1) := (blk_cell BK723.out 1).trans rfl;have hcz42_2 : wc.cell? ⟨gb723, 2, none⟩ = some (.slice A1_2 l1_2.length c1_2) := (blk_cell BK723.out 2).trans rfl;have hcz42_3 : wc.cell? ⟨gb723, 3, none⟩ = some (.slice A1_3 l1_3.length c1_3) := (blk_cell BK723.out 3).trans rfl;have hfz42_0 := blk_frozen BK723.out 0;have hfz42_1 := blk_frozen BK723.out 1;have hfz42_2 := blk_frozen BK723.out 2;have hfz42_3 := blk_frozen BK723.out 3;have p725 : 0 ≤ ((l1_1.length : Int) : Int) := of_decide_eq_true qA;have q725 : (l1_1.length : Int) < (l1_3.length : Int) := of_decide_eq_true qA;obtain ⟨ad725, e725, hx725_0⟩ := Kd.at_int HR1_3.out (l1_1.length : Int) p725 q725;cases e725
          replace hx725_0 := (HB.out.cell (World.block_lt_of_cell? w _ hx725_0)).trans hx725_0;(try simp only [Go.IntWalk.toNatUp] at hx725_0);replace p725 := eq_true p725;replace q725 := eq_true q725;go_wp2
          go_meet
          case rel => exact ⟨_, (true), (by first | rfl | (simp; done) | (simp [*]; done)), H', ⟨by have := HJ3.out; first | omega | exact Nat.le_refl _⟩, ⟨qK BK722.out⟩, ⟨qK BK723.out⟩, ⟨qB2 GE722.out GE723.out HB.out⟩⟩
         ·rw [if_neg c40] at H
          have c40b0 : decide ((rd l1_3 (l1_1.length : Int)) < 0) = false := decide_eq_false c40;clear c40;by_cases c43 : (rd l1_3 (l1_1.length : Int)) > 2
          ·rw [if_pos c43] at H
           have c43b0 : decide (2 < (rd l1_3 (l1_1.length : Int))) = true := decide_eq_true c43;clear c43;have H' := Aside0.mk H;clear H;have hnb44 := NB723_722.out;have hnc44 := NB722_723.out;have hcz45_0 : wc.cell? ⟨gb723, 0, none⟩ = some (.int .i64 a1_0) := (blk_cell BK723.out 0).trans rfl;have hcz45_1 : wc.cell? ⟨gb723, 1, none⟩ = some (.slice A1_1 l1_1.length c1_1) := (blk_cell BK723.out 1).trans rfl;have hcz45_2 : wc.cell? ⟨gb723, 2, none⟩ = some (.slice A1_2 l1_2.length c1_2) := (blk_cell BK723.out 2).trans rfl;have hcz45_3 : wc.cell? ⟨gb723, 3, none⟩ = some (.slice A1_3 l1_3.length c1_3) := (blk_cell BK723.out 3).trans rfl;have hfz45_0 := blk_frozen BK723.out 0;have hfz45_1 := blk_frozen BK723.out 1;have hfz45_2 := blk_frozen BK723.out 2;have hfz45_3 := blk_frozen BK723.out 3;have p725 : 0 ≤ ((l1_1.length : Int) : Int) := of_decide_eq_true qA;have q725 : (l1_1.length : Int) < (l1_3.length : Int) := of_decide_eq_true qA;obtain ⟨ad725, e725, hx725_0⟩ := Kd.at_int HR1_3.out (l1_1.length : Int) p725 q725;cases e725
           replace hx725_0 := (HB.out.cell (World.block_lt_of_cell? w _ hx725_0)).trans hx725_0;(try simp only [Go.IntWalk.toNatUp] at hx725_0);replace p725 := eq_true p725;replace q725 := eq_true q725;have p726 : 0 ≤ ((l1_1.length : Int) : Int) := of_decide_eq_true qA;have q726 : (l1_1.length : Int) < (l1_3.length : Int) := of_decide_eq_true qA;obtain ⟨ad726, e726, hx726_0⟩ := Kd.at_int HR1_3.out (l1_1.length : Int) p726 q726;obtain rfl : ad725 = ad726 := (by injection e726);replace hx726_0 := (HB.out.cell (World.block_lt_of_cell? w _ hx726_0)).trans hx726_0;(try simp only [Go.IntWalk.toNatUp] at hx726_0);replace p726 := eq_true p726;replace q726 := eq_true q726;go_wp2
           go_meet
           case rel => exact ⟨_, (true), (by first | rfl | (simp; done) | (simp [*]; done)), H', ⟨by have := HJ3.out; first | omega | exact Nat.le_refl _⟩, ⟨qK BK722.out⟩, ⟨qK BK723.out⟩, ⟨qB2 GE722.out GE723.out HB.out⟩⟩
          ·rw [if_neg c43] at H
           have c43b0 : decide (2 < (rd l1_3 (l1_1.length : Int))) = false := decide_eq_false c43;clear c43;obtain ⟨ji46, hji46⟩ : ∃ j_ : Int, (wrap64 ((l1_1.length : Int) + 1)) = j_ := ⟨_, rfl⟩;replace H : (if 0 ≤ (ji46) then (if (ji46) < (l1_3.length : Int) then ((arboristref06_small.f (rd l1_3 (ji46)) 1000000).bind fun t728 => (arboristref06_hard.j1 kj3 (l1_1.length : Int) (!t728) l0_0 l0_1 l0_2 a1_0 l1_1 l1_2 l1_3)) else (none)) else (none)) = some r := by first | (rw [hji46] at H; exact H) | (simp only [hji46] at H ⊢; exact H)
           have hji46w : (IntKind.i64.wrap ((l1_1.length : Int) + 1)) = ji46 := (i64_w _).trans hji46;by_cases c47 : 0 ≤ (ji46)
           ·rw [if_pos c47] at H
            have c47b0 : decide (0 ≤ (ji46)) = true := decide_eq_true c47;clear c47;by_cases c48 : (ji46) < (l1_3.length : Int)
            ·rw [if_pos c48] at H
             have c48b0 : decide ((ji46) < (l1_3.length : Int)) = true := decide_eq_true c48;clear c48;replace H := Option.bind_eq_some_iff.mp H;obtain ⟨t728, A490, H⟩ := H;(try dsimp only at H);have A49 := Aside0.mk A490;clear A490;have H' := Aside0.mk H;clear H;have hnb50 := NB723_722.out;have hnc50 := NB722_723.out;have hcz51_0 : wc.cell? ⟨gb723, 0, none⟩ = some (.int .i64 a1_0) := (blk_cell BK723.out 0).trans rfl;have hcz51_1 : wc.cell? ⟨gb723, 1, none⟩ = some (.slice A1_1 l1_1.length c1_1) := (blk_cell BK723.out 1).trans rfl;have hcz51_2 : wc.cell? ⟨gb723, 2, none⟩ = some (.slice A1_2 l1_2.length c1_2) := (blk_cell BK723.out 2).trans rfl;have hcz51_3 : wc.cell? ⟨gb723, 3, none⟩ = some (.slice A1_3 l1_3.length c1_3) := (blk_cell BK723.out 3).trans rfl;have hfz51_0 := blk_frozen BK723.out 0;have hfz51_1 := blk_frozen BK723.out 1;have hfz51_2 := blk_frozen BK723.out 2;have hfz51_3 := blk_frozen BK723.out 3;have p725 : 0 ≤ ((l1_1.length : Int) : Int) := of_decide_eq_true qA;have q725 : (l1_1.length : Int) < (l1_3.length : Int) := of_decide_eq_true qA;obtain ⟨ad725, e725, hx725_0⟩ := Kd.at_int HR1_3.out (l1_1.length : Int) p725 q725;cases e725
             replace hx725_0 := (HB.out.cell (World.block_lt_of_cell? w _ hx725_0)).trans hx725_0;(try simp only [Go.IntWalk.toNatUp] at hx725_0);replace p725 := eq_true p725;replace q725 := eq_true q725;have p726 : 0 ≤ ((l1_1.length : Int) : Int) := of_decide_eq_true qA;have q726 : (l1_1.length : Int) < (l1_3.length : Int) := of_decide_eq_true qA;obtain ⟨ad726, e726, hx726_0⟩ := Kd.at_int HR1_3.out (l1_1.length : Int) p726 q726;obtain rfl : ad725 = ad726 := (by injection e726);replace hx726_0 := (HB.out.cell (World.block_lt_of_cell? w _ hx726_0)).trans hx726_0;(try simp only [Go.IntWalk.toNatUp] at hx726_0);replace p726 := eq_true p726;replace q726 := eq_true q726;have p727 : 0 ≤ ((ji46) : Int) := of_decide_eq_true qA;have q727 : (ji46) < (l1_3.length : Int) := of_decide_eq_true qA;obtain ⟨ad727, e727, hx727_0⟩ := Kd.at_int HR1_3.out (ji46) p727 q727;obtain rfl : ad725 = ad727 := (by injection e727);replace hx727_0 := (HB.out.cell (World.block_lt_of_cell? w _ hx727_0)).trans hx727_0;replace p727 := eq_true p727;replace q727 := eq_true q727;go_wp2_with (first | (go_at_call 71; (with_reducible refine (arboristref06_small.calls (rd l1_3 (ji46)) 1000000 t728 _ A49.out).mono ?_); rintro e w' ⟨rfl, ⟨nd, rfl⟩⟩))
             go_meet
             case rel => exact ⟨_, (!t728), (by first | rfl | (simp; done) | (simp [*]; done)), H', ⟨by have := HJ3.out; first | omega | exact Nat.le_refl _⟩, ⟨qK BK722.out⟩, ⟨qK BK723.out⟩, ⟨qB2 GE722.out GE723.out HB.out⟩⟩
            ·rw [if_neg c48] at H
             exact absurd H (by simp)
           ·rw [if_neg c47] at H
            exact absurd H (by simp)
        ·rw [if_neg c39] at H
         exact absurd H (by simp)
       ·rw [if_neg c38] at H
        exact absurd H (by simp)
      ·rw [if_neg c37] at H
       have c37b0 : ((l1_3.length : Int) == (wrap64 ((l1_1.length : Int) + 2))) = false := beq_eq_false_iff_ne.mpr c37;have c37b1 : ((l1_3.length : Int) != (wrap64 ((l1_1.length : Int) + 2))) = true := bne_iff_ne.mpr c37;(first | rw [c37b0] | (simp only [i64_w, i32_w]; rw [c37b0]) | skip);have H' := Aside0.mk H;clear H;have hnb52 := NB723_722.out;have hnc52 := NB722_723.out;have hcz53_0 : wc.cell? ⟨gb723, 0, none⟩ = some (.int .i64 a1_0) := (blk_cell BK723.out 0).trans rfl;have hcz53_1 : wc.cell? ⟨gb723, 1, none⟩ = some (.slice A1_1 l1_1.length c1_1) := (blk_cell BK723.out 1).trans rfl;have hcz53_2 : wc.cell? ⟨gb723, 2, none⟩ = some (.slice A1_2 l1_2.length c1_2) := (blk_cell BK723.out 2).trans rfl;have hcz53_3 : wc.cell? ⟨gb723, 3, none⟩ = some (.slice A1_3 l1_3.length c1_3) := (blk_cell BK723.out 3).trans rfl;have hfz53_0 := blk_frozen BK723.out 0;have hfz53_1 := blk_frozen BK723.out 1;have hfz53_2 := blk_frozen BK723.out 2;have hfz53_3 := blk_frozen BK723.out 3;go_wp2
       go_meet
       case rel => exact ⟨_, (true), (by first | rfl | (simp; done) | (simp [*]; done)), H', ⟨by have := HJ3.out; first | omega | exact Nat.le_refl _⟩, ⟨qK BK722.out⟩, ⟨qK BK723.out⟩, ⟨qB2 GE722.out GE723.out HB.out⟩⟩
     case rest =>
      clear HC34;try clear c1
      try clear c2
      try clear p2
      try clear c3
      try clear c4
      try clear c5
      try clear p6
      try clear c7
      try clear p7
      try clear q7
      try clear hx7
      try clear c11
      try clear c12
      try clear c12b0
      try clear c13
      try clear c15
      try clear c15b0
      try clear c16
      try clear c18
      try clear c18b0
      try clear c19
      try clear c19b0
      try clear c19b1
      try clear c20
      try clear c22
      try clear c22b0
      try clear c22b1
      try clear c23
      try clear c25
      try clear c27
      try clear c27b0
      try clear c27b1
      try clear c28
      try clear c30
      try clear c32
      try clear c33
      try clear c33b0
      try clear c33b1
      try clear c35
      try clear c37
      try clear c37b0
      try clear c37b1
      try clear c38
      try clear c38b0
      try clear c38b1
      try clear c39
      try clear c39b0
      try clear c39b1
      try clear c40
      try clear c40b0
      try clear c41
      try clear c43
      try clear c43b0
      try clear c44
      try clear c47
      try clear c47b0
      try clear c48
      try clear c48b0
      try clear c50
      try clear c52
      try clear hcz14_0
      try clear hcz14_1
      try clear hcz14_2
      try clear hcz14_3
      try clear hcz17_0
      try clear hcz17_1
      try clear hcz17_2
      try clear hcz17_3
      try clear hcz21_0
      try clear hcz21_1
      try clear hcz21_2
      try clear hcz21_3
      try clear hcz24_0
      try clear hcz24_1
      try clear hcz24_2
      try clear hcz24_3
      try clear hcz26_0
      try clear hcz26_1
      try clear hcz26_2
      try clear hcz26_3
      try clear hcz29_0
      try clear hcz29_1
      try clear hcz29_2
      try clear hcz29_3
      try clear hcz31_0
      try clear hcz31_1
      try clear hcz31_2
      try clear hcz31_3
      try clear hcz36_0
      try clear hcz36_1
      try clear hcz36_2
      try clear hcz36_3
      try clear hcz42_0
      try clear hcz42_1
      try clear hcz42_2
      try clear hcz42_3
      try clear hcz45_0
      try clear hcz45_1
      try clear hcz45_2
      try clear hcz45_3
      try clear hcz51_0
      try clear hcz51_1
      try clear hcz51_2
      try clear hcz51_3
      try clear hcz53_0
      try clear hcz53_1
      try clear hcz53_2
      try clear hcz53_3
      try clear hcz8_0
      try clear hcz8_1
      try clear hcz8_2
      try clear hcz9_0
      try clear hcz9_1
      try clear hcz9_2
      try clear hcz9_3
      try clear hfz14_0
      try clear hfz14_1
      try clear hfz14_2
      try clear hfz14_3
      try clear hfz17_0
      try clear hfz17_1
      try clear hfz17_2
      try clear hfz17_3
      try clear hfz21_0
      try clear hfz21_1
      try clear hfz21_2
      try clear hfz21_3
      try clear hfz24_0
      try clear hfz24_1
      try clear hfz24_2
      try clear hfz24_3
      try clear hfz26_0
      try clear hfz26_1
      try clear hfz26_2
      try clear hfz26_3
      try clear hfz29_0
      try clear hfz29_1
      try clear hfz29_2
      try clear hfz29_3
      try clear hfz31_0
      try clear hfz31_1
      try clear hfz31_2
      try clear hfz31_3
      try clear hfz36_0
      try clear hfz36_1
      try clear hfz36_2
      try clear hfz36_3
      try clear hfz42_0
      try clear hfz42_1
      try clear hfz42_2
      try clear hfz42_3
      try clear hfz45_0
      try clear hfz45_1
      try clear hfz45_2
      try clear hfz45_3
      try clear hfz51_0
      try clear hfz51_1
      try clear hfz51_2
      try clear hfz51_3
      try clear hfz53_0
      try clear hfz53_1
      try clear hfz53_2
      try clear hfz53_3
      try clear hfz8_0
      try clear hfz8_1
      try clear hfz8_2
      try clear hfz9_0
      try clear hfz9_1
      try clear hfz9_2
      try clear hfz9_3
      try clear hx725_0
      try clear hx726_0
      try clear hx727_0
      try clear p2
      try clear p725
      try clear p726
      try clear p727
      try clear q725
      try clear q726
      try clear q727
      obtain ⟨kq, x83_33, rfl, HA, HJ33, BK722, BK723, HB⟩ := hcut;cases kq with
      | zero => exact absurd HA.out (by simp [arboristref06_hard.j1])
      | succ kj33 =>
       have H := HA.out;clear HA;simp only [arboristref06_hard.j1] at H
       by_cases c54 : x83_33 = true
       ·subst c54;replace H : (some false) = some r := by rw [if_pos rfl] at H; exact H
        obtain rfl := Option.some.inj H;go_wp2
        go_ret
        exact ⟨by first | rfl | (simp [errW_none, errW_some] <;> rfl) | (simp [*, errW_none, errW_some] <;> rfl), by repeat (first | (with_reducible first | exact HB.out | apply below_alloc | apply pw_below_drewN | apply below_drew1 | refine below_set ?_ GE722.out | refine below_set ?_ GE723.out) | exact HB.out)⟩
       ·replace c54 := Bool.eq_false_iff.mpr c54;subst c54;replace H : (arboristref06_hard.l0 kj33 (l1_1.length : Int) 0 l0_0 l0_1 l0_2 a1_0 l1_1 l1_2 l1_3) = some r := by rw [if_neg (show ¬ (false = true) by decide)] at H; exact H
        have H' := Aside0.mk H;clear H;go_wp2
        go_loopg [7] kj33 (fun kq v7 w' => ∃ (x7_3 : Int), v7 = .int .i64 x7_3 ∧ Aside0 (arboristref06_hard.l0 kq (l1_1.length : Int) x7_3 l0_0 l0_1 l0_2 a1_0 l1_1 l1_2 l1_3 = some r) ∧ Aside0 (kq ≤ kj33) ∧ Aside0 (w'.heap[gb722]? = some (.cells #[(.slice A0_0 l0_0.length c0_0), (.slice A0_1 l0_1.length c0_1), (.slice A0_2 l0_2.length c0_2)] 49 (0, 0))) ∧ Aside0 (w'.heap[gb723]? = some (.cells #[.int .i64 a1_0, (.slice A1_1 l1_1.length c1_1), (.slice A1_2 l1_2.length c1_2), (.slice A1_3 l1_3.length c1_3)] 69 (0, 0))) ∧ Aside0 (Below w.heap.size w w'))
        case atStart => exact ⟨(0), (by first | rfl | (simp; done) | (simp [*]; done)), H', ⟨Nat.le_refl _⟩, ⟨qK BK722.out⟩, ⟨qK BK723.out⟩, ⟨qB2 GE722.out GE723.out HB.out⟩⟩
        case round =>
         clear H';try clear c1
         try clear c2
         try clear p2
         try clear c3
         try clear c4
         try clear c5
         try clear p6
         try clear c7
         try clear p7
         try clear q7
         try clear hx7
         try clear c11
         try clear c12
         try clear c12b0
         try clear c13
         try clear c15
         try clear c15b0
         try clear c16
         try clear c18
         try clear c18b0
         try clear c19
         try clear c19b0
         try clear c19b1
         try clear c20
         try clear c22
         try clear c22b0
         try clear c22b1
         try clear c23
         try clear c25
         try clear c27
         try clear c27b0
         try clear c27b1
         try clear c28
         try clear c30
         try clear c32
         try clear c33
         try clear c33b0
         try clear c33b1
         try clear c35
         try clear c37
         try clear c37b0
         try clear c37b1
         try clear c38
         try clear c38b0
         try clear c38b1
         try clear c39
         try clear c39b0
         try clear c39b1
         try clear c40
         try clear c40b0
         try clear c41
         try clear c43
         try clear c43b0
         try clear c44
         try clear c47
         try clear c47b0
         try clear c48
         try clear c48b0
         try clear c50
         try clear c52
         try clear c54
         try clear hcz14_0
         try clear hcz14_1
         try clear hcz14_2
         try clear hcz14_3
         try clear hcz17_0
         try clear hcz17_1
         try clear hcz17_2
         try clear hcz17_3
         try clear hcz21_0
         try clear hcz21_1
         try clear hcz21_2
         try clear hcz21_3
         try clear hcz24_0
         try clear hcz24_1
         try clear hcz24_2
         try clear hcz24_3
         try clear hcz26_0
         try clear hcz26_1
         try clear hcz26_2
         try clear hcz26_3
         try clear hcz29_0
         try clear hcz29_1
         try clear hcz29_2
         try clear hcz29_3
         try clear hcz31_0
         try clear hcz31_1
         try clear hcz31_2
         try clear hcz31_3
         try clear hcz36_0
         try clear hcz36_1
         try clear hcz36_2
         try clear hcz36_3
         try clear hcz42_0
         try clear hcz42_1
         try clear hcz42_2
         try clear hcz42_3
         try clear hcz45_0
         try clear hcz45_1
         try clear hcz45_2
         try clear hcz45_3
         try clear hcz51_0
         try clear hcz51_1
         try clear hcz51_2
         try clear hcz51_3
         try clear hcz53_0
         try clear hcz53_1
         try clear hcz53_2
         try clear hcz53_3
         try clear hcz8_0
         try clear hcz8_1
         try clear hcz8_2
         try clear hcz9_0
         try clear hcz9_1
         try clear hcz9_2
         try clear hcz9_3
         try clear hfz14_0
         try clear hfz14_1
         try clear hfz14_2
         try clear hfz14_3
         try clear hfz17_0
         try clear hfz17_1
         try clear hfz17_2
         try clear hfz17_3
         try clear hfz21_0
         try clear hfz21_1
         try clear hfz21_2
         try clear hfz21_3
         try clear hfz24_0
         try clear hfz24_1
         try clear hfz24_2
         try clear hfz24_3
         try clear hfz26_0
         try clear hfz26_1
         try clear hfz26_2
         try clear hfz26_3
         try clear hfz29_0
         try clear hfz29_1
         try clear hfz29_2
         try clear hfz29_3
         try clear hfz31_0
         try clear hfz31_1
         try clear hfz31_2
         try clear hfz31_3
         try clear hfz36_0
         try clear hfz36_1
         try clear hfz36_2
         try clear hfz36_3
         try clear hfz42_0
         try clear hfz42_1
         try clear hfz42_2
         try clear hfz42_3
         try clear hfz45_0
         try clear hfz45_1
         try clear hfz45_2
         try clear hfz45_3
         try clear hfz51_0
         try clear hfz51_1
         try clear hfz51_2
         try clear hfz51_3
         try clear hfz53_0
         try clear hfz53_1
         try clear hfz53_2
         try clear hfz53_3
         try clear hfz8_0
         try clear hfz8_1
         try clear hfz8_2
         try clear hfz9_0
         try clear hfz9_1
         try clear hfz9_2
         try clear hfz9_3
         try clear hx725_0
         try clear hx726_0
         try clear hx727_0
         try clear p2
         try clear p6
         try clear p7
         try clear p725
         try clear p726
         try clear p727
         try clear q7
         try clear q725
         try clear q726
         try clear q727
         obtain ⟨x7_3, rfl, HA, HK3, BK722, BK723, HB⟩ := hrel;cases gk with
         | zero => exact absurd HA.out (by simp [arboristref06_hard.l0])
         | succ k3 =>
          have H := HA.out;clear HA;simp only [arboristref06_hard.l0] at H
          by_cases c55 : x7_3 < (l1_1.length : Int)
          ·rw [if_pos c55] at H
           have c55b0 : decide (x7_3 < (l1_1.length : Int)) = true := decide_eq_true c55;clear c55;by_cases c56 : 0 ≤ x7_3
           ·rw [if_pos c56] at H
            have c56b0 : decide (0 ≤ x7_3) = true := decide_eq_true c56;clear c56;by_cases c57 : x7_3 < (l1_3.length : Int)
            ·rw [if_pos c57] at H
             have c57b0 : decide (x7_3 < (l1_3.length : Int)) = true := decide_eq_true c57;clear c57;by_cases c58 : (rd l1_3 x7_3) = 0
             ·rw [if_pos c58] at H
              have c58b0 : ((rd l1_3 x7_3) == 0) = true := beq_iff_eq.mpr c58;have c58b1 : ((rd l1_3 x7_3) != 0) = false := bne_eq_false_iff_eq.mpr c58;clear c58;obtain rfl := Option.some.inj H;have hnb59 := NB723_722.out;have hnc59 := NB722_723.out;have hcz60_0 : wr.cell? ⟨gb723, 0, none⟩ = some (.int .i64 a1_0) := (blk_cell BK723.out 0).trans rfl;have hcz60_1 : wr.cell? ⟨gb723, 1, none⟩ = some (.slice A1_1 l1_1.length c1_1) := (blk_cell BK723.out 1).trans rfl;have hcz60_2 : wr.cell? ⟨gb723, 2, none⟩ = some (.slice A1_2 l1_2.length c1_2) := (blk_cell BK723.out 2).trans rfl;have hcz60_3 : wr.cell? ⟨gb723, 3, none⟩ = some (.slice A1_3 l1_3.length c1_3) := (blk_cell BK723.out 3).trans rfl;have hfz60_0 := blk_frozen BK723.out 0;have hfz60_1 := blk_frozen BK723.out 1;have hfz60_2 := blk_frozen BK723.out 2;have hfz60_3 := blk_frozen BK723.out 3;have p729 : 0 ≤ (x7_3 : Int) := of_decide_eq_true qA;have q729 : x7_3 < (l1_3.length : Int) := of_decide_eq_true qA;obtain ⟨ad729, e729, hx729_0⟩ := Kd.at_int HR1_3.out x7_3 p729 q729;cases e729
              replace hx729_0 := (HB.out.cell (World.block_lt_of_cell? w _ hx729_0)).trans hx729_0;replace p729 := eq_true p729;replace q729 := eq_true q729;go_wp2
              go_ret
              exact ⟨by first | rfl | (simp [errW_none, errW_some] <;> rfl) | (simp [*, errW_none, errW_some] <;> rfl), by repeat (first | (with_reducible first | exact HB.out | apply below_alloc | apply pw_below_drewN | apply below_drew1 | refine below_set ?_ GE722.out | refine below_set ?_ GE723.out) | exact HB.out)⟩
             ·rw [if_neg c58] at H
              have c58b0 : ((rd l1_3 x7_3) == 0) = false := beq_eq_false_iff_ne.mpr c58;have c58b1 : ((rd l1_3 x7_3) != 0) = true := bne_iff_ne.mpr c58;replace H := Option.bind_eq_some_iff.mp H;obtain ⟨t731, A610, H⟩ := H;(try dsimp only at H);have A61 := Aside0.mk A610;clear A610;by_cases c62 : t731 = true
              ·subst c62;replace H : (arboristref06_hard.l0 k3 (l1_1.length : Int) (wrap64 (x7_3 + 1)) l0_0 l0_1 l0_2 a1_0 l1_1 l1_2 l1_3) = some r := by rw [if_pos rfl] at H; exact H
               have H' := Aside0.mk H;clear H;have hnb63 := NB723_722.out;have hnc63 := NB722_723.out;have hcz64_0 : wr.cell? ⟨gb723, 0, none⟩ = some (.int .i64 a1_0) := (blk_cell BK723.out 0).trans rfl;have hcz64_1 : wr.cell? ⟨gb723, 1, none⟩ = some (.slice A1_1 l1_1.length c1_1) := (blk_cell BK723.out 1).trans rfl;have hcz64_2 : wr.cell? ⟨gb723, 2, none⟩ = some (.slice A1_2 l1_2.length c1_2) := (blk_cell BK723.out 2).trans rfl;have hcz64_3 : wr.cell? ⟨gb723, 3, none⟩ = some (.slice A1_3 l1_3.length c1_3) := (blk_cell BK723.out 3).trans rfl;have hfz64_0 := blk_frozen BK723.out 0;have hfz64_1 := blk_frozen BK723.out 1;have hfz64_2 := blk_frozen BK723.out 2;have hfz64_3 := blk_frozen BK723.out 3;have p729 : 0 ≤ (x7_3 : Int) := of_decide_eq_true qA;have q729 : x7_3 < (l1_3.length : Int) := of_decide_eq_true qA;obtain ⟨ad729, e729, hx729_0⟩ := Kd.at_int HR1_3.out x7_3 p729 q729;cases e729
               replace hx729_0 := (HB.out.cell (World.block_lt_of_cell? w _ hx729_0)).trans hx729_0;replace p729 := eq_true p729;replace q729 := eq_true q729;have p730 : 0 ≤ (x7_3 : Int) := of_decide_eq_true qA;have q730 : x7_3 < (l1_3.length : Int) := of_decide_eq_true qA;obtain ⟨ad730, e730, hx730_0⟩ := Kd.at_int HR1_3.out x7_3 p730 q730;obtain rfl : ad729 = ad730 := (by injection e730);replace hx730_0 := (HB.out.cell (World.block_lt_of_cell? w _ hx730_0)).trans hx730_0;replace p730 := eq_true p730;replace q730 := eq_true q730;go_wp2_with (first | (go_at_call 71; (with_reducible refine (arboristref06_small.calls (rd l1_3 x7_3) 1000000 true _ A61.out).mono ?_); rintro e w' ⟨rfl, ⟨nd, rfl⟩⟩))
               go_roundg k3
               case measure => have := HJ3.out; have := HJ33.out; have := HK3.out; omega
               case rel => exact ⟨(wrap64 (x7_3 + 1)), (by first | rfl | (simp; done) | (simp [*]; done)), H', ⟨by have := HJ3.out; have := HJ33.out; have := HK3.out; omega⟩, ⟨qK BK722.out⟩, ⟨qK BK723.out⟩, ⟨qB2 GE722.out GE723.out HB.out⟩⟩
              ·replace c62 := Bool.eq_false_iff.mpr c62;subst c62;replace H : (some false) = some r := by rw [if_neg (show ¬ (false = true) by decide)] at H; exact H
               obtain rfl := Option.some.inj H;have hnb65 := NB723_722.out;have hnc65 := NB722_723.out;have hcz66_0 : wr.cell? ⟨gb723, 0, none⟩ = some (.int .i64 a1_0) := (blk_cell BK723.out 0).trans rfl;have hcz66_1 : wr.cell? ⟨gb723, 1, none⟩ = some (.slice A1_1 l1_1.length c1_1) := (blk_cell BK723.out 1).trans rfl;have hcz66_2 : wr.cell? ⟨gb723, 2, none⟩ = some (.slice A1_2 l1_2.length c1_2) := (blk_cell BK723.out 2).trans rfl;have hcz66_3 : wr.cell? ⟨gb723, 3, none⟩ = some (.slice A1_3 l1_3.length c1_3) := (blk_cell BK723.out 3).trans rfl;have hfz66_0 := blk_frozen BK723.out 0;have hfz66_1 := blk_frozen BK723.out 1;have hfz66_2 := blk_frozen BK723.out 2;have hfz66_3 := blk_frozen BK723.out 3;have p729 : 0 ≤ (x7_3 : Int) := of_decide_eq_true qA;have q729 : x7_3 < (l1_3.length : Int) := of_decide_eq_true qA;obtain ⟨ad729, e729, hx729_0⟩ := Kd.at_int HR1_3.out x7_3 p729 q729;cases e729
               replace hx729_0 := (HB.out.cell (World.block_lt_of_cell? w _ hx729_0)).trans hx729_0;replace p729 := eq_true p729;replace q729 := eq_true q729;have p730 : 0 ≤ (x7_3 : Int) := of_decide_eq_true qA;have q730 : x7_3 < (l1_3.length : Int) := of_decide_eq_true qA;obtain ⟨ad730, e730, hx730_0⟩ := Kd.at_int HR1_3.out x7_3 p730 q730;obtain rfl : ad729 = ad730 := (by injection e730);replace hx730_0 := (HB.out.cell (World.block_lt_of_cell? w _ hx730_0)).trans hx730_0;replace p730 := eq_true p730;replace q730 := eq_true q730;go_wp2_with (first | (go_at_call 71; (with_reducible refine (arboristref06_small.calls (rd l1_3 x7_3) 1000000 false _ A61.out).mono ?_); rintro e w' ⟨rfl, ⟨nd, rfl⟩⟩))
               go_ret
               exact ⟨by first | rfl | (simp [errW_none, errW_some] <;> rfl) | (simp [*, errW_none, errW_some] <;> rfl), by repeat (first | (with_reducible first | exact HB.out | apply below_alloc | apply pw_below_drewN | apply below_drew1 | refine below_set ?_ GE722.out | refine below_set ?_ GE723.out) | exact HB.out)⟩
            ·rw [if_neg c57] at H
             exact absurd H (by simp)
           ·rw [if_neg c56] at H
            exact absurd H (by simp)
          ·rw [if_neg c55] at H
           have c55b0 : decide (x7_3 < (l1_1.length : Int)) = false := decide_eq_false c55;clear c55;replace H := Option.bind_eq_some_iff.mp H;obtain ⟨t732, A670, H⟩ := H;replace H : (some t732) = some r := H;have A67 := Aside0.mk A670;clear A670;obtain rfl := Option.some.inj H;have hnb68 := NB722_723.out;have hnc68 := NB723_722.out;have hcz69_0 : wr.cell? ⟨gb722, 0, none⟩ = some (.slice A0_0 l0_0.length c0_0) := (blk_cell BK722.out 0).trans rfl;have hcz69_1 : wr.cell? ⟨gb722, 1, none⟩ = some (.slice A0_1 l0_1.length c0_1) := (blk_cell BK722.out 1).trans rfl;have hcz69_2 : wr.cell? ⟨gb722, 2, none⟩ = some (.slice A0_2 l0_2.length c0_2) := (blk_cell BK722.out 2).trans rfl;have hfz69_0 := blk_frozen BK722.out 0;have hfz69_1 := blk_frozen BK722.out 1;have hfz69_2 := blk_frozen BK722.out 2;have hcz70_0 : wr.cell? ⟨gb723, 0, none⟩ = some (.int .i64 a1_0) := (blk_cell BK723.out 0).trans rfl;have hcz70_1 : wr.cell? ⟨gb723, 1, none⟩ = some (.slice A1_1 l1_1.length c1_1) := (blk_cell BK723.out 1).trans rfl;have hcz70_2 : wr.cell? ⟨gb723, 2, none⟩ = some (.slice A1_2 l1_2.length c1_2) := (blk_cell BK723.out 2).trans rfl;have hcz70_3 : wr.cell? ⟨gb723, 3, none⟩ = some (.slice A1_3 l1_3.length c1_3) := (blk_cell BK723.out 3).trans rfl;have hfz70_0 := blk_frozen BK723.out 0;have hfz70_1 := blk_frozen BK723.out 1;have hfz70_2 := blk_frozen BK723.out 2;have hfz70_3 := blk_frozen BK723.out 3;go_wp2_with (first | ((with_reducible refine gate_callee (f := 80) rfl ?_); refine goesL_ (some 109) rfl rfl Try.func80 (by kernel_rfl) rfl #[.agg #[.slice A0_0 l0_0.length c0_0, .slice A0_1 l0_1.length c0_1, .slice A0_2 l0_2.length c0_2], .slice A1_1 l1_1.length c1_1, .slice A1_2 l1_2.length c1_2] rfl qM ?_; (with_reducible refine (arboristref06_rows.calls k3 _ _ l0_0 _ _ l0_1 _ _ l0_2 _ _ l1_1 _ _ l1_2 t732 _ ?side1 ?side2 ?side3 ?side4 ?side5 ?side6 ?side7 ?side8 ?side9 ?side10 A67.out).mono ?_); (case side1 => exact qC (Kd.C_below HR0_0.out HB.out)); (case side2 => exact HC0_0.out); (case side3 => exact qC (Kd.C_below HR0_1.out HB.out)); (case side4 => exact HC0_1.out); (case side5 => exact qC (Kd.C_below HR0_2.out HB.out)); (case side6 => exact HC0_2.out); (case side7 => exact qC (Kd.C_below HR1_1.out HB.out)); (case side8 => exact HC1_1.out); (case side9 => exact qC (Kd.C_below HR1_2.out HB.out)); (case side10 => exact HC1_2.out); rintro e w71 ⟨rfl, hb⟩; refine ⟨_, rfl, ?_⟩; have n0_ := Aside0.mk (blk_below (g := gb722) (o := .cells #[.slice A0_0 l0_0.length c0_0, .slice A0_1 l0_1.length c0_1, .slice A0_2 l0_2.length c0_2] 49 (0, 0)) (qK BK722.out) hb); have n1_ := Aside0.mk (blk_below (g := gb723) (o := .cells #[.int .i64 a1_0, .slice A1_1 l1_1.length c1_1, .slice A1_2 l1_2.length c1_2, .slice A1_3 l1_3.length c1_3] 69 (0, 0)) (qK BK723.out) hb); have n2_ := Aside0.mk (below_step (by repeat (first | (with_reducible first | exact HB.out | apply below_alloc | apply pw_below_drewN | apply below_drew1 | refine below_set ?_ GE722.out | refine below_set ?_ GE723.out) | exact HB.out)) hb); clear BK722; clear BK723; clear HB; have BK722 := n0_; have BK723 := n1_; have HB := n2_; clear n0_ n1_ n2_; (try clear hb); (try clear hb2); (try clear hk); (try clear hi)))
           go_ret
           exact ⟨by first | rfl | (simp [errW_none, errW_some] <;> rfl) | (simp [*, errW_none, errW_some] <;> rfl), by repeat (first | (with_reducible first | exact HB.out | apply below_alloc | apply pw_below_drewN | apply below_drew1 | refine below_set ?_ GE722.out | refine below_set ?_ GE723.out) | exact HB.out)⟩
    ·rw [if_neg c33] at H
     have c33b0 : (a1_0 == 6) = false := beq_eq_false_iff_ne.mpr c33;have c33b1 : (a1_0 != 6) = true := bne_iff_ne.mpr c33;replace H := Option.bind_eq_some_iff.mp H;obtain ⟨t733, A720, H⟩ := H;replace H : (some t733) = some r := H;have A72 := Aside0.mk A720;clear A720;obtain rfl := Option.some.inj H;have hnb73 := NB723_722.out;have hnc73 := NB722_723.out;have hcz74_0 : wc.cell? ⟨gb723, 0, none⟩ = some (.int .i64 a1_0) := (blk_cell BK723.out 0).trans rfl;have hcz74_1 : wc.cell? ⟨gb723, 1, none⟩ = some (.slice A1_1 l1_1.length c1_1) := (blk_cell BK723.out 1).trans rfl;have hcz74_2 : wc.cell? ⟨gb723, 2, none⟩ = some (.slice A1_2 l1_2.length c1_2) := (blk_cell BK723.out 2).trans rfl;have hcz74_3 : wc.cell? ⟨gb723, 3, none⟩ = some (.slice A1_3 l1_3.length c1_3) := (blk_cell BK723.out 3).trans rfl;have hfz74_0 := blk_frozen BK723.out 0;have hfz74_1 := blk_frozen BK723.out 1;have hfz74_2 := blk_frozen BK723.out 2;have hfz74_3 := blk_frozen BK723.out 3;have hcz75_0 : wc.cell? ⟨gb722, 0, none⟩ = some (.slice A0_0 l0_0.length c0_0) := (blk_cell BK722.out 0).trans rfl;have hcz75_1 : wc.cell? ⟨gb722, 1, none⟩ = some (.slice A0_1 l0_1.length c0_1) := (blk_cell BK722.out 1).trans rfl;have hcz75_2 : wc.cell? ⟨gb722, 2, none⟩ = some (.slice A0_2 l0_2.length c0_2) := (blk_cell BK722.out 2).trans rfl;have hfz75_0 := blk_frozen BK722.out 0;have hfz75_1 := blk_frozen BK722.out 1;have hfz75_2 := blk_frozen BK722.out 2;go_wp2_with (first | ((with_reducible refine gate_callee (f := 80) rfl ?_); refine goesL_ (some 109) rfl rfl Try.func80 (by kernel_rfl) rfl #[.agg #[.slice A0_0 l0_0.length c0_0, .slice A0_1 l0_1.length c0_1, .slice A0_2 l0_2.length c0_2], .slice A1_1 l1_1.length c1_1, .slice A1_2 l1_2.length c1_2] rfl qM ?_; (with_reducible refine (arboristref06_rows.calls kj3 _ _ l0_0 _ _ l0_1 _ _ l0_2 _ _ l1_1 _ _ l1_2 t733 _ ?side1 ?side2 ?side3 ?side4 ?side5 ?side6 ?side7 ?side8 ?side9 ?side10 A72.out).mono ?_); (case side1 => exact qC (Kd.C_below HR0_0.out HB.out)); (case side2 => exact HC0_0.out); (case side3 => exact qC (Kd.C_below HR0_1.out HB.out)); (case side4 => exact HC0_1.out); (case side5 => exact qC (Kd.C_below HR0_2.out HB.out)); (case side6 => exact HC0_2.out); (case side7 => exact qC (Kd.C_below HR1_1.out HB.out)); (case side8 => exact HC1_1.out); (case side9 => exact qC (Kd.C_below HR1_2.out HB.out)); (case side10 => exact HC1_2.out); rintro e w76 ⟨rfl, hb⟩; refine ⟨_, rfl, ?_⟩; have n0_ := Aside0.mk (blk_below (g := gb722) (o := .cells #[.slice A0_0 l0_0.length c0_0, .slice A0_1 l0_1.length c0_1, .slice A0_2 l0_2.length c0_2] 49 (0, 0)) (qK BK722.out) hb); have n1_ := Aside0.mk (blk_below (g := gb723) (o := .cells #[.int .i64 a1_0, .slice A1_1 l1_1.length c1_1, .slice A1_2 l1_2.length c1_2, .slice A1_3 l1_3.length c1_3] 69 (0, 0)) (qK BK723.out) hb); have n2_ := Aside0.mk (below_step (by repeat (first | (with_reducible first | exact HB.out | apply below_alloc | apply pw_below_drewN | apply below_drew1 | refine below_set ?_ GE722.out | refine below_set ?_ GE723.out) | exact HB.out)) hb); clear BK722; clear BK723; clear HB; have BK722 := n0_; have BK723 := n1_; have HB := n2_; clear n0_ n1_ n2_; (try clear hb); (try clear hb2); (try clear hk); (try clear hi)))
     go_ret
     exact ⟨by first | rfl | (simp [errW_none, errW_some] <;> rfl) | (simp [*, errW_none, errW_some] <;> rfl), by repeat (first | (with_reducible first | exact HB.out | apply below_alloc | apply pw_below_drewN | apply below_drew1 | refine below_set ?_ GE722.out | refine below_set ?_ GE723.out) | exact HB.out)⟩
end Go.Proofs.Ytpmfdggbccbfaaa.Pr
namespace Go.Proofs.Ytpmfdggbccbfaaa.Pr
open Go.RowKit Go.Proofs.YtpmfdggbccbfaaaW.PrintWords Go.Proofs.YtpmfdggbccbfaaaW.PrintLast Go.Proofs.YtpmfdggbccbfaaaW.PrintMore
attribute [local go_sem] max2_int min2_int max_two min_two max_three min_three max_four min_four
set_option linter.unusedVariables false
set_option linter.unusedSimpArgs false
/-! ### arboristref06_soft: function 73 -/
mutual
def arboristref06_soft.j0 : Nat → Bool → List (List Int) → List (S69) → List (S73) → List Int → List (List Int) → List Int → Int → Option (Bool)
 | 0, _, _, _, _, _, _, _, _ => none
 | k + 1, x31, x735000, x735001, x735002, x736000, x736001, x736002, x736003 => if x31 = true then (some false) else (arboristref06_soft.l0 k 0 x735000 x735001 x735002 x736000 x736001 x736002 x736003)
def arboristref06_soft.l0 : Nat → Int → List (List Int) → List (S69) → List (S73) → List Int → List (List Int) → List Int → Int → Option (Bool)
 | 0, _, _, _, _, _, _, _, _ => none
 | k + 1, x6, x735000, x735001, x735002, x736000, x736001, x736002, x736003 => if x6 < (x736002.length : Int) then (if 0 ≤ x6 then (if (rd x736002 x6) < (-1000000000000) then (some false) else (if (rd x736002 x6) > 1000000000000 then (some false) else (arboristref06_soft.l0 k (wrap64 (x6 + 1)) x735000 x735001 x735002 x736000 x736001 x736002 x736003))) else (none)) else ((arboristref06_rows.f k x735000 x735001 x735002 x736000 x736001).bind fun t739 => (some t739))
end
def arboristref06_soft.f (k : Nat) (l0_0 : List (List Int)) (l0_1 : List (S69)) (l0_2 : List (S73)) (l1_0 : List Int) (l1_1 : List (List Int)) (l1_2 : List Int) (a1_3 : Int) : Option (Bool) := (arboristref06_scope.f k l0_0 l0_1 l0_2 l1_0).bind fun t736 => (if t736 = true then (if (l1_2.length : Int) = (l1_1.length : Int) then (if a1_3 < (-1000000000000) then (arboristref06_soft.j0 k true l0_0 l0_1 l0_2 l1_0 l1_1 l1_2 a1_3) else (arboristref06_soft.j0 k (decide (a1_3 > 1000000000000)) l0_0 l0_1 l0_2 l1_0 l1_1 l1_2 a1_3)) else (arboristref06_soft.j0 k true l0_0 l0_1 l0_2 l1_0 l1_1 l1_2 a1_3)) else (arboristref06_soft.j0 k true l0_0 l0_1 l0_2 l1_0 l1_1 l1_2 a1_3))
set_option maxHeartbeats 8000000 in
set_option maxRecDepth 100000 in
theorem arboristref06_soft.calls (k : Nat) (A0_0 : Option Addr) (c0_0 : Nat) (l0_0 : List (List Int)) (A0_1 : Option Addr) (c0_1 : Nat) (l0_1 : List (S69)) (A0_2 : Option Addr) (c0_2 : Nat) (l0_2 : List (S73)) (A1_0 : Option Addr) (c1_0 : Nat) (l1_0 : List Int) (A1_1 : Option Addr) (c1_1 : Nat) (l1_1 : List (List Int)) (A1_2 : Option Addr) (c1_2 : Nat) (l1_2 : List Int) (a1_3 : Int) (r : Bool) (w : World) (hr0_0 : Kd.C (Kd.slice 3 (Kd.int .i64)) w A0_0 l0_0.length l0_0) (hc0_0 : l0_0.length ≤ c0_0) (hr0_1 : Kd.C k69 w A0_1 l0_1.length l0_1) (hc0_1 : l0_1.length ≤ c0_1) (hr0_2 : Kd.C k73 w A0_2 l0_2.length l0_2) (hc0_2 : l0_2.length ≤ c0_2) (hr1_0 : Kd.C (Kd.int .i64) w A1_0 l1_0.length l1_0) (hc1_0 : l1_0.length ≤ c1_0) (hr1_1 : Kd.C (Kd.slice 3 (Kd.int .i64)) w A1_1 l1_1.length l1_1) (hc1_1 : l1_1.length ≤ c1_1) (hr1_2 : Kd.C (Kd.int .i64) w A1_2 l1_2.length l1_2) (hc1_2 : l1_2.length ≤ c1_2) (h : arboristref06_soft.f k l0_0 l0_1 l0_2 l1_0 l1_1 l1_2 a1_3 = some r) :
  Calls Try.prog 73 #[.agg #[.slice A0_0 l0_0.length c0_0, .slice A0_1 l0_1.length c0_1, .slice A0_2 l0_2.length c0_2], .agg #[.slice A1_0 l1_0.length c1_0, .slice A1_1 l1_1.length c1_1, .slice A1_2 l1_2.length c1_2, .int .i64 a1_3]] w fun e w' => e = .returned (.bool r) ∧ Below w.heap.size w w' := by
 have hu49 := Try.underlying49;have hu73 := Try.underlying73;have HR0_0 := Aside0.mk hr0_0;have HC0_0 := Aside0.mk hc0_0;clear hr0_0 hc0_0;have HR0_1 := Aside0.mk hr0_1;have HC0_1 := Aside0.mk hc0_1;clear hr0_1 hc0_1;have HR0_2 := Aside0.mk hr0_2;have HC0_2 := Aside0.mk hc0_2;clear hr0_2 hc0_2;have HR1_0 := Aside0.mk hr1_0;have HC1_0 := Aside0.mk hc1_0;clear hr1_0 hc1_0;have HR1_1 := Aside0.mk hr1_1;have HC1_1 := Aside0.mk hc1_1;clear hr1_1 hc1_1;have HR1_2 := Aside0.mk hr1_2;have HC1_2 := Aside0.mk hc1_2;clear hr1_2 hc1_2;have HB := Aside0.mk (Below.refl w.heap.size w);have H : ((arboristref06_scope.f k l0_0 l0_1 l0_2 l1_0).bind fun t736 => (if t736 = true then (if (l1_2.length : Int) = (l1_1.length : Int) then (if a1_3 < (-1000000000000) then (arboristref06_soft.j0 k true l0_0 l0_1 l0_2 l1_0 l1_1 l1_2 a1_3) else (arboristref06_soft.j0 k (decide (a1_3 > 1000000000000)) l0_0 l0_1 l0_2 l1_0 l1_1 l1_2 a1_3)) else (arboristref06_soft.j0 k true l0_0 l0_1 l0_2 l1_0 l1_1 l1_2 a1_3)) else (arboristref06_soft.j0 k true l0_0 l0_1 l0_2 l1_0 l1_1 l1_2 a1_3))) = some r := h;clear h;replace H := Option.bind_eq_some_iff.mp H;obtain ⟨t736, A30, H⟩ := H;(try dsimp only at H);have A3 := Aside0.mk A30;clear A30;have HC4 := Aside0.mk H;clear H;go_enter Try.func73, Try.ntmps73
 go_upto_region 2 with (first | ((with_reducible refine gate_dst (N := 2) rfl ?_); (try (refine gate_guard (by rfl) ?_; dsimp only)); refine box_event ?hg (N := 2) ?hd (cs := #[.slice A0_0 l0_0.length c0_0, .slice A0_1 l0_1.length c0_1, .slice A0_2 l0_2.length c0_2]) (t := 49) ?hr ?_; (case hd => rfl); (case hg => rfl); (case hr => first | (go_simp; done) | (go_simp; rfl)); intro gb734 hg w5 hbox hb; have n0_ := Aside0.mk (below_step (qB HB.out) hb); have n1_ := Aside0.mk (hbox); have n2_ := Aside0.mk ((by rw [hg]; exact (below_size (qB HB.out)) : w.heap.size ≤ gb734)); have n3_ := Aside0.mk ((by rw [hg]; exact (below_size (qB HB.out)) : w.heap.size ≤ gb734)); clear HB; have HB := n0_; have BK734 := n1_; have GW734 := n2_; have GE734 := n3_; clear n0_ n1_ n2_ n3_; clear hb hbox hg) | ((with_reducible refine gate_dst (N := 3) rfl ?_); (try (refine gate_guard (by rfl) ?_; dsimp only)); refine box_event ?hg (N := 3) ?hd (cs := #[.slice A1_0 l1_0.length c1_0, .slice A1_1 l1_1.length c1_1, .slice A1_2 l1_2.length c1_2, .int .i64 a1_3]) (t := 73) ?hr ?_; (case hd => rfl); (case hg => rfl); (case hr => first | (go_simp; done) | (go_simp; rfl)); intro gb735 hg w6 hbox hb; have n0_ := Aside0.mk (blk_below (g := gb734) (o := .cells #[.slice A0_0 l0_0.length c0_0, .slice A0_1 l0_1.length c0_1, .slice A0_2 l0_2.length c0_2] 49 (0, 0)) (qK BK734.out) hb); have n1_ := Aside0.mk (below_step (by repeat (first | (with_reducible first | exact HB.out | apply below_alloc | apply pw_below_drewN | apply below_drew1 | refine below_set ?_ GE734.out) | exact HB.out)) hb); have n2_ := Aside0.mk (hbox); have n3_ := Aside0.mk ((by rw [hg]; exact (below_size (by repeat (first | (with_reducible first | exact HB.out | apply below_alloc | apply pw_below_drewN | apply below_drew1 | refine below_set ?_ GE734.out) | exact HB.out))) : w.heap.size ≤ gb735)); have n4_ := Aside0.mk ((by rw [hg]; exact (below_size (by repeat (first | (with_reducible first | exact HB.out | apply below_alloc | apply pw_below_drewN | apply below_drew1 | refine below_set ?_ GE734.out) | exact HB.out))) : w.heap.size ≤ gb735)); have n5_ := Aside0.mk ((by rw [hg]; exact Nat.ne_of_lt (blk_lt (g := gb734) (o := .cells #[.slice A0_0 l0_0.length c0_0, .slice A0_1 l0_1.length c0_1, .slice A0_2 l0_2.length c0_2] 49 (0, 0)) (qK BK734.out)) : gb734 ≠ gb735)); have n6_ := Aside0.mk ((by rw [hg]; exact Nat.ne_of_gt (blk_lt (g := gb734) (o := .cells #[.slice A0_0 l0_0.length c0_0, .slice A0_1 l0_1.length c0_1, .slice A0_2 l0_2.length c0_2] 49 (0, 0)) (qK BK734.out)) : gb735 ≠ gb734)); clear BK734; clear HB; have BK734 := n0_; have HB := n1_; have BK735 := n2_; have GW735 := n3_; have GE735 := n4_; have NB734_735 := n5_; have NB735_734 := n6_; clear n0_ n1_ n2_ n3_ n4_ n5_ n6_; clear hb hbox hg; have hnb7 := NB734_735.out; have hnc7 := NB735_734.out; have hcz8_0 : w6.cell? ⟨gb734, 0, none⟩ = some (.slice A0_0 l0_0.length c0_0) := (blk_cell BK734.out 0).trans rfl; have hcz8_1 : w6.cell? ⟨gb734, 1, none⟩ = some (.slice A0_1 l0_1.length c0_1) := (blk_cell BK734.out 1).trans rfl; have hcz8_2 : w6.cell? ⟨gb734, 2, none⟩ = some (.slice A0_2 l0_2.length c0_2) := (blk_cell BK734.out 2).trans rfl; have hfz8_0 := blk_frozen BK734.out 0; have hfz8_1 := blk_frozen BK734.out 1; have hfz8_2 := blk_frozen BK734.out 2; have hcz9_0 : w6.cell? ⟨gb735, 0, none⟩ = some (.slice A1_0 l1_0.length c1_0) := (blk_cell BK735.out 0).trans rfl; have hcz9_1 : w6.cell? ⟨gb735, 1, none⟩ = some (.slice A1_1 l1_1.length c1_1) := (blk_cell BK735.out 1).trans rfl; have hcz9_2 : w6.cell? ⟨gb735, 2, none⟩ = some (.slice A1_2 l1_2.length c1_2) := (blk_cell BK735.out 2).trans rfl; have hcz9_3 : w6.cell? ⟨gb735, 3, none⟩ = some (.int .i64 a1_3) := (blk_cell BK735.out 3).trans rfl; have hfz9_0 := blk_frozen BK735.out 0; have hfz9_1 := blk_frozen BK735.out 1; have hfz9_2 := blk_frozen BK735.out 2; have hfz9_3 := blk_frozen BK735.out 3) | ((with_reducible refine gate_callee (f := 79) rfl ?_); refine goesL_ (some 10) rfl rfl Try.func79 (by kernel_rfl) rfl #[.agg #[.slice A0_0 l0_0.length c0_0, .slice A0_1 l0_1.length c0_1, .slice A0_2 l0_2.length c0_2], .slice A1_0 l1_0.length c1_0] rfl qM ?_; (with_reducible refine (arboristref06_scope.calls k _ _ l0_0 _ _ l0_1 _ _ l0_2 _ _ l1_0 t736 _ ?side1 ?side2 ?side3 ?side4 ?side5 ?side6 ?side7 ?side8 A3.out).mono ?_); (case side1 => exact qC (Kd.C_below HR0_0.out HB.out)); (case side2 => exact HC0_0.out); (case side3 => exact qC (Kd.C_below HR0_1.out HB.out)); (case side4 => exact HC0_1.out); (case side5 => exact qC (Kd.C_below HR0_2.out HB.out)); (case side6 => exact HC0_2.out); (case side7 => exact qC (Kd.C_below HR1_0.out HB.out)); (case side8 => exact HC1_0.out); rintro e w10 ⟨rfl, hb⟩; refine ⟨_, rfl, ?_⟩; have n0_ := Aside0.mk (blk_below (g := gb734) (o := .cells #[.slice A0_0 l0_0.length c0_0, .slice A0_1 l0_1.length c0_1, .slice A0_2 l0_2.length c0_2] 49 (0, 0)) (qK BK734.out) hb); have n1_ := Aside0.mk (blk_below (g := gb735) (o := .cells #[.slice A1_0 l1_0.length c1_0, .slice A1_1 l1_1.length c1_1, .slice A1_2 l1_2.length c1_2, .int .i64 a1_3] 73 (0, 0)) (qK BK735.out) hb); have n2_ := Aside0.mk (below_step (by repeat (first | (with_reducible first | exact HB.out | apply below_alloc | apply pw_below_drewN | apply below_drew1 | refine below_set ?_ GE734.out | refine below_set ?_ GE735.out) | exact HB.out)) hb); clear BK734; clear BK735; clear HB; have BK734 := n0_; have BK735 := n1_; have HB := n2_; clear n0_ n1_ n2_; (try clear hb); (try clear hb2); (try clear hk); (try clear hi)))
 (try simp only [Act.put, List.setIfInBounds_toArray, List.set_cons_zero, List.set_cons_succ]);go_cut [31] (fun v31 wc => ∃ (kq : Nat) (x31_3 : Bool), v31 = .bool x31_3 ∧ Aside0 (arboristref06_soft.j0 kq x31_3 l0_0 l0_1 l0_2 l1_0 l1_1 l1_2 a1_3 = some r) ∧ Aside0 (kq ≤ k) ∧ Aside0 (wc.heap[gb734]? = some (.cells #[(.slice A0_0 l0_0.length c0_0), (.slice A0_1 l0_1.length c0_1), (.slice A0_2 l0_2.length c0_2)] 49 (0, 0))) ∧ Aside0 (wc.heap[gb735]? = some (.cells #[(.slice A1_0 l1_0.length c1_0), (.slice A1_1 l1_1.length c1_1), (.slice A1_2 l1_2.length c1_2), .int .i64 a1_3] 73 (0, 0))) ∧ Aside0 (Below w.heap.size w wc))
 case first =>
  have H := HC4.out;clear HC4;by_cases c11 : t736 = true
  ·subst c11;replace H : (if (l1_2.length : Int) = (l1_1.length : Int) then (if a1_3 < (-1000000000000) then (arboristref06_soft.j0 k true l0_0 l0_1 l0_2 l1_0 l1_1 l1_2 a1_3) else (arboristref06_soft.j0 k (decide (a1_3 > 1000000000000)) l0_0 l0_1 l0_2 l1_0 l1_1 l1_2 a1_3)) else (arboristref06_soft.j0 k true l0_0 l0_1 l0_2 l1_0 l1_1 l1_2 a1_3)) = some r := by rw [if_pos rfl] at H; exact H
   by_cases c12 : (l1_2.length : Int) = (l1_1.length : Int)
   ·rw [if_pos c12] at H
    have c12b0 : ((l1_2.length : Int) == (l1_1.length : Int)) = true := beq_iff_eq.mpr c12;have c12b1 : ((l1_2.length : Int) != (l1_1.length : Int)) = false := bne_eq_false_iff_eq.mpr c12;have c12b2 : (l1_2.length == l1_1.length) = true := by first | simpa using c12 | (simp at c12 ⊢; omega)
    clear c12;(first | rw [c12b0] | (simp only [i64_w, i32_w]; rw [c12b0]) | skip);by_cases c13 : a1_3 < (-1000000000000)
    ·rw [if_pos c13] at H
     have c13b0 : decide (a1_3 < (-1000000000000)) = true := decide_eq_true c13;clear c13;have H' := Aside0.mk H;clear H;have hnb14 := NB735_734.out;have hnc14 := NB734_735.out;have hcz15_0 : w10.cell? ⟨gb735, 0, none⟩ = some (.slice A1_0 l1_0.length c1_0) := (blk_cell BK735.out 0).trans rfl;have hcz15_1 : w10.cell? ⟨gb735, 1, none⟩ = some (.slice A1_1 l1_1.length c1_1) := (blk_cell BK735.out 1).trans rfl;have hcz15_2 : w10.cell? ⟨gb735, 2, none⟩ = some (.slice A1_2 l1_2.length c1_2) := (blk_cell BK735.out 2).trans rfl;have hcz15_3 : w10.cell? ⟨gb735, 3, none⟩ = some (.int .i64 a1_3) := (blk_cell BK735.out 3).trans rfl;have hfz15_0 := blk_frozen BK735.out 0;have hfz15_1 := blk_frozen BK735.out 1;have hfz15_2 := blk_frozen BK735.out 2;have hfz15_3 := blk_frozen BK735.out 3;go_wp2
     go_meet
     case rel => exact ⟨_, (true), (by first | rfl | (simp; done) | (simp [*]; done)), H', ⟨by first | omega | exact Nat.le_refl _⟩, ⟨qK BK734.out⟩, ⟨qK BK735.out⟩, ⟨qB2 GE734.out GE735.out HB.out⟩⟩
    ·rw [if_neg c13] at H
     have c13b0 : decide (a1_3 < (-1000000000000)) = false := decide_eq_false c13;clear c13;have H' := Aside0.mk H;clear H;have hnb16 := NB735_734.out;have hnc16 := NB734_735.out;have hcz17_0 : w10.cell? ⟨gb735, 0, none⟩ = some (.slice A1_0 l1_0.length c1_0) := (blk_cell BK735.out 0).trans rfl;have hcz17_1 : w10.cell? ⟨gb735, 1, none⟩ = some (.slice A1_1 l1_1.length c1_1) := (blk_cell BK735.out 1).trans rfl;have hcz17_2 : w10.cell? ⟨gb735, 2, none⟩ = some (.slice A1_2 l1_2.length c1_2) := (blk_cell BK735.out 2).trans rfl;have hcz17_3 : w10.cell? ⟨gb735, 3, none⟩ = some (.int .i64 a1_3) := (blk_cell BK735.out 3).trans rfl;have hfz17_0 := blk_frozen BK735.out 0;have hfz17_1 := blk_frozen BK735.out 1;have hfz17_2 := blk_frozen BK735.out 2;have hfz17_3 := blk_frozen BK735.out 3;go_wp2
     go_meet
     case rel => exact ⟨_, (decide (a1_3 > 1000000000000)), (by first | rfl | (simp; done) | (simp [*]; done)), H', ⟨by first | omega | exact Nat.le_refl _⟩, ⟨qK BK734.out⟩, ⟨qK BK735.out⟩, ⟨qB2 GE734.out GE735.out HB.out⟩⟩
   ·rw [if_neg c12] at H
    have c12b0 : ((l1_2.length : Int) == (l1_1.length : Int)) = false := beq_eq_false_iff_ne.mpr c12;have c12b1 : ((l1_2.length : Int) != (l1_1.length : Int)) = true := bne_iff_ne.mpr c12;have c12b2 : (l1_2.length == l1_1.length) = false := by first | simpa using c12 | (simp at c12 ⊢; omega)
    (first | rw [c12b0] | (simp only [i64_w, i32_w]; rw [c12b0]) | skip);have H' := Aside0.mk H;clear H;have hnb18 := NB735_734.out;have hnc18 := NB734_735.out;have hcz19_0 : w10.cell? ⟨gb735, 0, none⟩ = some (.slice A1_0 l1_0.length c1_0) := (blk_cell BK735.out 0).trans rfl;have hcz19_1 : w10.cell? ⟨gb735, 1, none⟩ = some (.slice A1_1 l1_1.length c1_1) := (blk_cell BK735.out 1).trans rfl;have hcz19_2 : w10.cell? ⟨gb735, 2, none⟩ = some (.slice A1_2 l1_2.length c1_2) := (blk_cell BK735.out 2).trans rfl;have hcz19_3 : w10.cell? ⟨gb735, 3, none⟩ = some (.int .i64 a1_3) := (blk_cell BK735.out 3).trans rfl;have hfz19_0 := blk_frozen BK735.out 0;have hfz19_1 := blk_frozen BK735.out 1;have hfz19_2 := blk_frozen BK735.out 2;have hfz19_3 := blk_frozen BK735.out 3;go_wp2
    go_meet
    case rel => exact ⟨_, (true), (by first | rfl | (simp; done) | (simp [*]; done)), H', ⟨by first | omega | exact Nat.le_refl _⟩, ⟨qK BK734.out⟩, ⟨qK BK735.out⟩, ⟨qB2 GE734.out GE735.out HB.out⟩⟩
  ·replace c11 := Bool.eq_false_iff.mpr c11;subst c11;replace H : (arboristref06_soft.j0 k true l0_0 l0_1 l0_2 l1_0 l1_1 l1_2 a1_3) = some r := by rw [if_neg (show ¬ (false = true) by decide)] at H; exact H
   have H' := Aside0.mk H;clear H;go_wp2
   go_meet
   case rel => exact ⟨_, (true), (by first | rfl | (simp; done) | (simp [*]; done)), H', ⟨by first | omega | exact Nat.le_refl _⟩, ⟨qK BK734.out⟩, ⟨qK BK735.out⟩, ⟨qB2 GE734.out GE735.out HB.out⟩⟩
 case rest =>
  clear HC4;try clear c1
  try clear p2
  try clear c7
  try clear c11
  try clear c12
  try clear c12b0
  try clear c12b1
  try clear c12b2
  try clear c13
  try clear c13b0
  try clear c14
  try clear c16
  try clear c18
  try clear hcz15_0
  try clear hcz15_1
  try clear hcz15_2
  try clear hcz15_3
  try clear hcz17_0
  try clear hcz17_1
  try clear hcz17_2
  try clear hcz17_3
  try clear hcz19_0
  try clear hcz19_1
  try clear hcz19_2
  try clear hcz19_3
  try clear hcz8_0
  try clear hcz8_1
  try clear hcz8_2
  try clear hcz9_0
  try clear hcz9_1
  try clear hcz9_2
  try clear hcz9_3
  try clear hfz15_0
  try clear hfz15_1
  try clear hfz15_2
  try clear hfz15_3
  try clear hfz17_0
  try clear hfz17_1
  try clear hfz17_2
  try clear hfz17_3
  try clear hfz19_0
  try clear hfz19_1
  try clear hfz19_2
  try clear hfz19_3
  try clear hfz8_0
  try clear hfz8_1
  try clear hfz8_2
  try clear hfz9_0
  try clear hfz9_1
  try clear hfz9_2
  try clear hfz9_3
  obtain ⟨kq, x31_3, rfl, HA, HJ3, BK734, BK735, HB⟩ := hcut;cases kq with
  | zero => exact absurd HA.out (by simp [arboristref06_soft.j0])
  | succ kj3 =>
   have H := HA.out;clear HA;simp only [arboristref06_soft.j0] at H
   by_cases c20 : x31_3 = true
   ·subst c20;replace H : (some false) = some r := by rw [if_pos rfl] at H; exact H
    obtain rfl := Option.some.inj H;go_wp2
    go_ret
    exact ⟨by first | rfl | (simp [errW_none, errW_some] <;> rfl) | (simp [*, errW_none, errW_some] <;> rfl), by repeat (first | (with_reducible first | exact HB.out | apply below_alloc | apply pw_below_drewN | apply below_drew1 | refine below_set ?_ GE734.out | refine below_set ?_ GE735.out) | exact HB.out)⟩
   ·replace c20 := Bool.eq_false_iff.mpr c20;subst c20;replace H : (arboristref06_soft.l0 kj3 0 l0_0 l0_1 l0_2 l1_0 l1_1 l1_2 a1_3) = some r := by rw [if_neg (show ¬ (false = true) by decide)] at H; exact H
    have H' := Aside0.mk H;clear H;go_wp2
    go_loopg [6] kj3 (fun kq v6 w' => ∃ (x6_2 : Int), v6 = .int .i64 x6_2 ∧ Aside0 (arboristref06_soft.l0 kq x6_2 l0_0 l0_1 l0_2 l1_0 l1_1 l1_2 a1_3 = some r) ∧ Aside0 (kq ≤ kj3) ∧ Aside0 (w'.heap[gb734]? = some (.cells #[(.slice A0_0 l0_0.length c0_0), (.slice A0_1 l0_1.length c0_1), (.slice A0_2 l0_2.length c0_2)] 49 (0, 0))) ∧ Aside0 (w'.heap[gb735]? = some (.cells #[(.slice A1_0 l1_0.length c1_0), (.slice A1_1 l1_1.length c1_1), (.slice A1_2 l1_2.length c1_2), .int .i64 a1_3] 73 (0, 0))) ∧ Aside0 (Below w.heap.size w w'))
    case atStart => exact ⟨(0), (by first | rfl | (simp; done) | (simp [*]; done)), H', ⟨Nat.le_refl _⟩, ⟨qK BK734.out⟩, ⟨qK BK735.out⟩, ⟨qB2 GE734.out GE735.out HB.out⟩⟩
    case round =>
     clear H';try clear c1
     try clear c2
     try clear p2
     try clear c7
     try clear c11
     try clear c12
     try clear c12b0
     try clear c12b1
     try clear c12b2
     try clear c13
     try clear c13b0
     try clear c14
     try clear c16
     try clear c18
     try clear c20
     try clear hcz15_0
     try clear hcz15_1
     try clear hcz15_2
     try clear hcz15_3
     try clear hcz17_0
     try clear hcz17_1
     try clear hcz17_2
     try clear hcz17_3
     try clear hcz19_0
     try clear hcz19_1
     try clear hcz19_2
     try clear hcz19_3
     try clear hcz8_0
     try clear hcz8_1
     try clear hcz8_2
     try clear hcz9_0
     try clear hcz9_1
     try clear hcz9_2
     try clear hcz9_3
     try clear hfz15_0
     try clear hfz15_1
     try clear hfz15_2
     try clear hfz15_3
     try clear hfz17_0
     try clear hfz17_1
     try clear hfz17_2
     try clear hfz17_3
     try clear hfz19_0
     try clear hfz19_1
     try clear hfz19_2
     try clear hfz19_3
     try clear hfz8_0
     try clear hfz8_1
     try clear hfz8_2
     try clear hfz9_0
     try clear hfz9_1
     try clear hfz9_2
     try clear hfz9_3
     try clear p2
     obtain ⟨x6_2, rfl, HA, HK2, BK734, BK735, HB⟩ := hrel;cases gk with
     | zero => exact absurd HA.out (by simp [arboristref06_soft.l0])
     | succ k2 =>
      have H := HA.out;clear HA;simp only [arboristref06_soft.l0] at H
      by_cases c21 : x6_2 < (l1_2.length : Int)
      ·rw [if_pos c21] at H
       have c21b0 : decide (x6_2 < (l1_2.length : Int)) = true := decide_eq_true c21;clear c21;by_cases c22 : 0 ≤ x6_2
       ·rw [if_pos c22] at H
        have c22b0 : decide (0 ≤ x6_2) = true := decide_eq_true c22;clear c22;by_cases c23 : (rd l1_2 x6_2) < (-1000000000000)
        ·rw [if_pos c23] at H
         have c23b0 : decide ((rd l1_2 x6_2) < (-1000000000000)) = true := decide_eq_true c23;clear c23;obtain rfl := Option.some.inj H;have hnb24 := NB735_734.out;have hnc24 := NB734_735.out;have hcz25_0 : wr.cell? ⟨gb735, 0, none⟩ = some (.slice A1_0 l1_0.length c1_0) := (blk_cell BK735.out 0).trans rfl;have hcz25_1 : wr.cell? ⟨gb735, 1, none⟩ = some (.slice A1_1 l1_1.length c1_1) := (blk_cell BK735.out 1).trans rfl;have hcz25_2 : wr.cell? ⟨gb735, 2, none⟩ = some (.slice A1_2 l1_2.length c1_2) := (blk_cell BK735.out 2).trans rfl;have hcz25_3 : wr.cell? ⟨gb735, 3, none⟩ = some (.int .i64 a1_3) := (blk_cell BK735.out 3).trans rfl;have hfz25_0 := blk_frozen BK735.out 0;have hfz25_1 := blk_frozen BK735.out 1;have hfz25_2 := blk_frozen BK735.out 2;have hfz25_3 := blk_frozen BK735.out 3;have p737 : 0 ≤ (x6_2 : Int) := of_decide_eq_true qA;have q737 : x6_2 < (l1_2.length : Int) := of_decide_eq_true qA;obtain ⟨ad737, e737, hx737_0⟩ := Kd.at_int HR1_2.out x6_2 p737 q737;cases e737
         replace hx737_0 := (HB.out.cell (World.block_lt_of_cell? w _ hx737_0)).trans hx737_0;replace p737 := eq_true p737;replace q737 := eq_true q737;go_wp2
         go_ret
         exact ⟨by first | rfl | (simp [errW_none, errW_some] <;> rfl) | (simp [*, errW_none, errW_some] <;> rfl), by repeat (first | (with_reducible first | exact HB.out | apply below_alloc | apply pw_below_drewN | apply below_drew1 | refine below_set ?_ GE734.out | refine below_set ?_ GE735.out) | exact HB.out)⟩
        ·rw [if_neg c23] at H
         have c23b0 : decide ((rd l1_2 x6_2) < (-1000000000000)) = false := decide_eq_false c23;clear c23;by_cases c26 : (rd l1_2 x6_2) > 1000000000000
         ·rw [if_pos c26] at H
          have c26b0 : decide (1000000000000 < (rd l1_2 x6_2)) = true := decide_eq_true c26;clear c26;obtain rfl := Option.some.inj H;have hnb27 := NB735_734.out;have hnc27 := NB734_735.out;have hcz28_0 : wr.cell? ⟨gb735, 0, none⟩ = some (.slice A1_0 l1_0.length c1_0) := (blk_cell BK735.out 0).trans rfl;have hcz28_1 : wr.cell? ⟨gb735, 1, none⟩ = some (.slice A1_1 l1_1.length c1_1) := (blk_cell BK735.out 1).trans rfl;have hcz28_2 : wr.cell? ⟨gb735, 2, none⟩ = some (.slice A1_2 l1_2.length c1_2) := (blk_cell BK735.out 2).trans rfl;have hcz28_3 : wr.cell? ⟨gb735, 3, none⟩ = some (.int .i64 a1_3) := (blk_cell BK735.out 3).trans rfl;have hfz28_0 := blk_frozen BK735.out 0;have hfz28_1 := blk_frozen BK735.out 1;have hfz28_2 := blk_frozen BK735.out 2;have hfz28_3 := blk_frozen BK735.out 3;have p737 : 0 ≤ (x6_2 : Int) := of_decide_eq_true qA;have q737 : x6_2 < (l1_2.length : Int) := of_decide_eq_true qA;obtain ⟨ad737, e737, hx737_0⟩ := Kd.at_int HR1_2.out x6_2 p737 q737;cases e737
          replace hx737_0 := (HB.out.cell (World.block_lt_of_cell? w _ hx737_0)).trans hx737_0;replace p737 := eq_true p737;replace q737 := eq_true q737;have p738 : 0 ≤ (x6_2 : Int) := of_decide_eq_true qA;have q738 : x6_2 < (l1_2.length : Int) := of_decide_eq_true qA;obtain ⟨ad738, e738, hx738_0⟩ := Kd.at_int HR1_2.out x6_2 p738 q738;obtain rfl : ad737 = ad738 := (by injection e738);replace hx738_0 := (HB.out.cell (World.block_lt_of_cell? w _ hx738_0)).trans hx738_0;replace p738 := eq_true p738;replace q738 := eq_true q738;go_wp2
          go_ret
          exact ⟨by first | rfl | (simp [errW_none, errW_some] <;> rfl) | (simp [*, errW_none, errW_some] <;> rfl), by repeat (first | (with_reducible first | exact HB.out | apply below_alloc | apply pw_below_drewN | apply below_drew1 | refine below_set ?_ GE734.out | refine below_set ?_ GE735.out) | exact HB.out)⟩
         ·rw [if_neg c26] at H
          have c26b0 : decide (1000000000000 < (rd l1_2 x6_2)) = false := decide_eq_false c26;clear c26;have H' := Aside0.mk H;clear H;have hnb29 := NB735_734.out;have hnc29 := NB734_735.out;have hcz30_0 : wr.cell? ⟨gb735, 0, none⟩ = some (.slice A1_0 l1_0.length c1_0) := (blk_cell BK735.out 0).trans rfl;have hcz30_1 : wr.cell? ⟨gb735, 1, none⟩ = some (.slice A1_1 l1_1.length c1_1) := (blk_cell BK735.out 1).trans rfl;have hcz30_2 : wr.cell? ⟨gb735, 2, none⟩ = some (.slice A1_2 l1_2.length c1_2) := (blk_cell BK735.out 2).trans rfl;have hcz30_3 : wr.cell? ⟨gb735, 3, none⟩ = some (.int .i64 a1_3) := (blk_cell BK735.out 3).trans rfl;have hfz30_0 := blk_frozen BK735.out 0;have hfz30_1 := blk_frozen BK735.out 1;have hfz30_2 := blk_frozen BK735.out 2;have hfz30_3 := blk_frozen BK735.out 3;have p737 : 0 ≤ (x6_2 : Int) := of_decide_eq_true qA;have q737 : x6_2 < (l1_2.length : Int) := of_decide_eq_true qA;obtain ⟨ad737, e737, hx737_0⟩ := Kd.at_int HR1_2.out x6_2 p737 q737;cases e737
          replace hx737_0 := (HB.out.cell (World.block_lt_of_cell? w _ hx737_0)).trans hx737_0;replace p737 := eq_true p737;replace q737 := eq_true q737;have p738 : 0 ≤ (x6_2 : Int) := of_decide_eq_true qA;have q738 : x6_2 < (l1_2.length : Int) := of_decide_eq_true qA;obtain ⟨ad738, e738, hx738_0⟩ := Kd.at_int HR1_2.out x6_2 p738 q738;obtain rfl : ad737 = ad738 := (by injection e738);replace hx738_0 := (HB.out.cell (World.block_lt_of_cell? w _ hx738_0)).trans hx738_0;replace p738 := eq_true p738;replace q738 := eq_true q738;go_wp2
          go_roundg k2
          case measure => have := HJ3.out; have := HK2.out; omega
          case rel => exact ⟨(wrap64 (x6_2 + 1)), (by first | rfl | (simp; done) | (simp [*]; done)), H', ⟨by have := HJ3.out; have := HK2.out; omega⟩, ⟨qK BK734.out⟩, ⟨qK BK735.out⟩, ⟨qB2 GE734.out GE735.out HB.out⟩⟩
       ·rw [if_neg c22] at H
        exact absurd H (by simp)
      ·rw [if_neg c21] at H
       have c21b0 : decide (x6_2 < (l1_2.length : Int)) = false := decide_eq_false c21;clear c21;replace H := Option.bind_eq_some_iff.mp H;obtain ⟨t739, A310, H⟩ := H;replace H : (some t739) = some r := H;have A31 := Aside0.mk A310;clear A310;obtain rfl := Option.some.inj H;have hnb32 := NB735_734.out;have hnc32 := NB734_735.out;have hcz33_0 : wr.cell? ⟨gb735, 0, none⟩ = some (.slice A1_0 l1_0.length c1_0) := (blk_cell BK735.out 0).trans rfl;have hcz33_1 : wr.cell? ⟨gb735, 1, none⟩ = some (.slice A1_1 l1_1.length c1_1) := (blk_cell BK735.out 1).trans rfl;have hcz33_2 : wr.cell? ⟨gb735, 2, none⟩ = some (.slice A1_2 l1_2.length c1_2) := (blk_cell BK735.out 2).trans rfl;have hcz33_3 : wr.cell? ⟨gb735, 3, none⟩ = some (.int .i64 a1_3) := (blk_cell BK735.out 3).trans rfl;have hfz33_0 := blk_frozen BK735.out 0;have hfz33_1 := blk_frozen BK735.out 1;have hfz33_2 := blk_frozen BK735.out 2;have hfz33_3 := blk_frozen BK735.out 3;have hcz34_0 : wr.cell? ⟨gb734, 0, none⟩ = some (.slice A0_0 l0_0.length c0_0) := (blk_cell BK734.out 0).trans rfl;have hcz34_1 : wr.cell? ⟨gb734, 1, none⟩ = some (.slice A0_1 l0_1.length c0_1) := (blk_cell BK734.out 1).trans rfl;have hcz34_2 : wr.cell? ⟨gb734, 2, none⟩ = some (.slice A0_2 l0_2.length c0_2) := (blk_cell BK734.out 2).trans rfl;have hfz34_0 := blk_frozen BK734.out 0;have hfz34_1 := blk_frozen BK734.out 1;have hfz34_2 := blk_frozen BK734.out 2;go_wp2_with (first | ((with_reducible refine gate_callee (f := 80) rfl ?_); refine goesL_ (some 58) rfl rfl Try.func80 (by kernel_rfl) rfl #[.agg #[.slice A0_0 l0_0.length c0_0, .slice A0_1 l0_1.length c0_1, .slice A0_2 l0_2.length c0_2], .slice A1_0 l1_0.length c1_0, .slice A1_1 l1_1.length c1_1] rfl qM ?_; (with_reducible refine (arboristref06_rows.calls k2 _ _ l0_0 _ _ l0_1 _ _ l0_2 _ _ l1_0 _ _ l1_1 t739 _ ?side1 ?side2 ?side3 ?side4 ?side5 ?side6 ?side7 ?side8 ?side9 ?side10 A31.out).mono ?_); (case side1 => exact qC (Kd.C_below HR0_0.out HB.out)); (case side2 => exact HC0_0.out); (case side3 => exact qC (Kd.C_below HR0_1.out HB.out)); (case side4 => exact HC0_1.out); (case side5 => exact qC (Kd.C_below HR0_2.out HB.out)); (case side6 => exact HC0_2.out); (case side7 => exact qC (Kd.C_below HR1_0.out HB.out)); (case side8 => exact HC1_0.out); (case side9 => exact qC (Kd.C_below HR1_1.out HB.out)); (case side10 => exact HC1_1.out); rintro e w35 ⟨rfl, hb⟩; refine ⟨_, rfl, ?_⟩; have n0_ := Aside0.mk (blk_below (g := gb734) (o := .cells #[.slice A0_0 l0_0.length c0_0, .slice A0_1 l0_1.length c0_1, .slice A0_2 l0_2.length c0_2] 49 (0, 0)) (qK BK734.out) hb); have n1_ := Aside0.mk (blk_below (g := gb735) (o := .cells #[.slice A1_0 l1_0.length c1_0, .slice A1_1 l1_1.length c1_1, .slice A1_2 l1_2.length c1_2, .int .i64 a1_3] 73 (0, 0)) (qK BK735.out) hb); have n2_ := Aside0.mk (below_step (by repeat (first | (with_reducible first | exact HB.out | apply below_alloc | apply pw_below_drewN | apply below_drew1 | refine below_set ?_ GE734.out | refine below_set ?_ GE735.out) | exact HB.out)) hb); clear BK734; clear BK735; clear HB; have BK734 := n0_; have BK735 := n1_; have HB := n2_; clear n0_ n1_ n2_; (try clear hb); (try clear hb2); (try clear hk); (try clear hi)))
       go_ret
       exact ⟨by first | rfl | (simp [errW_none, errW_some] <;> rfl) | (simp [*, errW_none, errW_some] <;> rfl), by repeat (first | (with_reducible first | exact HB.out | apply below_alloc | apply pw_below_drewN | apply below_drew1 | refine below_set ?_ GE734.out | refine below_set ?_ GE735.out) | exact HB.out)⟩
end Go.Proofs.Ytpmfdggbccbfaaa.Pr
