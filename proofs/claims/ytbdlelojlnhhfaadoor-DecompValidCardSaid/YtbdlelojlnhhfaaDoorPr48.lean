-- Printed by a program of this session's own (wip/tools/pp.py) over the kit's print.py; Lean checks it.
import Derived.Test.YtbdlelojlnhhfaaDoorPr0
import Derived.Test.YtbdlelojlnhhfaaDoorPr36
import Derived.Test.YtbdlelojlnhhfaaDoorPr47
namespace Go.Proofs.YtbdlelojlnhhfaaDoor.Pr
open Go.RowKit Go.Proofs.YtbdlelojlnhhfaaDoorW.PrintWords Go.Proofs.YtbdlelojlnhhfaaDoorW.PrintLast Go.Proofs.YtbdlelojlnhhfaaDoorW.PrintMore
attribute [local go_sem] max2_int min2_int max_two min_two max_three min_three max_four min_four
set_option linter.unusedVariables false
set_option linter.unusedSimpArgs false
/-! ### arboristlaw11_hangs: function 20 -/
mutual
def arboristlaw11_hangs.l0 : Nat → List (List Bool) → Int → List Int → Int → List (List Int) → List Int → Option (Bool)
 | 0, _, _, _, _, _, _ => none
 | k + 1, x0, x5, x6, x7, x642000, x642001 => if x7 < x5 then (arboristlaw11_hangs.l1 k x0 x5 x6 x7 x7 0 x642000 x642001) else (arboristlaw11_hangs.l3 k x0 x5 x6 0 x642000 x642001)
def arboristlaw11_hangs.l1 : Nat → List (List Bool) → Int → List Int → Int → Int → Int → List (List Int) → List Int → Option (Bool)
 | 0, _, _, _, _, _, _, _, _ => none
 | k + 1, x0, x5, x6, x7, x8, x9, x642000, x642001 => if x9 < x5 then (arboristlaw11_hangs.j2 k x0 x5 x6 x7 x8 x9 (decide (x8 ≥ 0)) x642000 x642001) else (arboristlaw11_hangs.j2 k x0 x5 x6 x7 x8 x9 false x642000 x642001)
def arboristlaw11_hangs.j2 : Nat → List (List Bool) → Int → List Int → Int → Int → Int → Bool → List (List Int) → List Int → Option (Bool)
 | 0, _, _, _, _, _, _, _, _, _ => none
 | k + 1, x0, x5, x6, x7, x8, x9, x41, x642000, x642001 => if x41 = true then (if 0 ≤ x8 then (if x8 < (x642001.length : Int) then (if (rd x642001 x8) < (-1) then (some false) else (if (rd x642001 x8) ≥ x5 then (some false) else (if ((decide ((rd x642001 x8) < 0)) != (x8 == 0)) = true then (some false) else (arboristlaw11_hangs.l1 k x0 x5 x6 x7 (rd x642001 x8) (wrap64 (x9 + 1)) x642000 x642001)))) else (none)) else (none)) else (if x8 ≥ 0 then (arboristlaw11_hangs.j3 k x0 x5 x6 x7 true x642000 x642001) else (if 0 ≤ x7 then (if x7 < (x642000.length : Int) then ((arboristref01_Rising.f k (rd_L1 x642000 x7)).bind fun t650 => (arboristlaw11_hangs.j3 k x0 x5 x6 x7 (!t650) x642000 x642001)) else (none)) else (none)))
def arboristlaw11_hangs.j3 : Nat → List (List Bool) → Int → List Int → Int → Bool → List (List Int) → List Int → Option (Bool)
 | 0, _, _, _, _, _, _, _ => none
 | k + 1, x0, x5, x6, x7, x85, x642000, x642001 => if x85 = true then (some false) else (arboristlaw11_hangs.l2 k x0 x5 x6 x7 0 x642000 x642001)
def arboristlaw11_hangs.l2 : Nat → List (List Bool) → Int → List Int → Int → Int → List (List Int) → List Int → Option (Bool)
 | 0, _, _, _, _, _, _, _ => none
 | k + 1, x0, x5, x6, x7, x10, x642000, x642001 => if 0 ≤ x7 then (if x7 < (x642000.length : Int) then (if x10 < ((rd_L1 x642000 x7).length : Int) then (if 0 ≤ x10 then (if (rd (rd_L1 x642000 x7) x10) < 0 then (arboristlaw11_hangs.j5 k x0 x5 x6 x7 x10 (rd (rd_L1 x642000 x7) x10) true x642000 x642001) else (arboristlaw11_hangs.j5 k x0 x5 x6 x7 x10 (rd (rd_L1 x642000 x7) x10) (decide ((rd (rd_L1 x642000 x7) x10) ≥ (x0.length : Int))) x642000 x642001)) else (none)) else (arboristlaw11_hangs.l0 k x0 x5 x6 (wrap64 (x7 + 1)) x642000 x642001)) else (none)) else (none)
def arboristlaw11_hangs.j5 : Nat → List (List Bool) → Int → List Int → Int → Int → Int → Bool → List (List Int) → List Int → Option (Bool)
 | 0, _, _, _, _, _, _, _, _, _ => none
 | k + 1, x0, x5, x6, x7, x10, x11, x111, x642000, x642001 => if x111 = true then (some false) else (if 0 ≤ x7 then (if x7 < (x642001.length : Int) then (if (rd x642001 x7) ≥ 0 then (if 0 ≤ (rd x642001 x7) then (if (rd x642001 x7) < (x642000.length : Int) then ((arboristref01_In.f k (rd_L1 x642000 (rd x642001 x7)) x11).bind fun t657 => (if t657 = true then (arboristlaw11_hangs.l2 k x0 x5 x6 x7 (wrap64 (x10 + 1)) x642000 x642001) else (if 0 ≤ x11 then (if x11 < (x6.length : Int) then (arboristlaw11_hangs.l2 k x0 x5 (x6.set (x11 : Int).toNat (wrap64 ((rd x6 x11) + 1))) x7 (wrap64 (x10 + 1)) x642000 x642001) else (none)) else (none)))) else (none)) else (none)) else (if 0 ≤ x11 then (if x11 < (x6.length : Int) then (arboristlaw11_hangs.l2 k x0 x5 (x6.set (x11 : Int).toNat (wrap64 ((rd x6 x11) + 1))) x7 (wrap64 (x10 + 1)) x642000 x642001) else (none)) else (none))) else (none)) else (none))
def arboristlaw11_hangs.l3 : Nat → List (List Bool) → Int → List Int → Int → List (List Int) → List Int → Option (Bool)
 | 0, _, _, _, _, _, _ => none
 | k + 1, x0, x5, x6, x13, x642000, x642001 => if x13 < (x0.length : Int) then (if 0 ≤ x13 then (if x13 < (x6.length : Int) then (if (rd x6 x13) = 1 then (arboristlaw11_hangs.l4 k x0 x5 x6 x13 0 x642000 x642001) else (some false)) else (none)) else (none)) else (some true)
def arboristlaw11_hangs.l4 : Nat → List (List Bool) → Int → List Int → Int → Int → List (List Int) → List Int → Option (Bool)
 | 0, _, _, _, _, _, _, _ => none
 | k + 1, x0, x5, x6, x13, x14, x642000, x642001 => if x14 < x13 then (if 0 ≤ x13 then (if x13 < (x0.length : Int) then (if 0 ≤ x14 then (if x14 < ((rd_L8 x0 x13).length : Int) then (arboristlaw11_hangs.l5 k x0 x5 x6 x13 x14 (!(rdOf false (rd_L8 x0 x13) x14)) 0 x642000 x642001) else (none)) else (none)) else (none)) else (none)) else (arboristlaw11_hangs.l3 k x0 x5 x6 (wrap64 (x13 + 1)) x642000 x642001)
def arboristlaw11_hangs.l5 : Nat → List (List Bool) → Int → List Int → Int → Int → Bool → Int → List (List Int) → List Int → Option (Bool)
 | 0, _, _, _, _, _, _, _, _, _ => none
 | k + 1, x0, x5, x6, x13, x14, x15, x16, x642000, x642001 => if x16 < x5 then (if 0 ≤ x16 then (if x16 < (x642000.length : Int) then ((arboristref01_Meet.f k (([x14, x13] : List Int)) (rd_L1 x642000 x16)).bind fun t669 => (if x15 = true then (arboristlaw11_hangs.l5 k x0 x5 x6 x13 x14 true (wrap64 (x16 + 1)) x642000 x642001) else (arboristlaw11_hangs.l5 k x0 x5 x6 x13 x14 ((t669.length : Int) == 2) (wrap64 (x16 + 1)) x642000 x642001))) else (none)) else (none)) else (if x15 = true then (arboristlaw11_hangs.l4 k x0 x5 x6 x13 (wrap64 (x14 + 1)) x642000 x642001) else (some false))
end
def arboristlaw11_hangs.f (k : Nat) (l0 : List (List Bool)) (l1_0 : List (List Int)) (l1_1 : List Int) : Option (Bool) := if (l1_1.length : Int) = (l1_0.length : Int) then (if 0 ≤ (l0.length : Int) then (if ((l0.length : Int) : Int).toNat ≤ 35184372088832 then (arboristlaw11_hangs.l0 k l0 (l1_0.length : Int) (List.replicate ((l0.length : Int) : Int).toNat 0) 0 l1_0 l1_1) else (none)) else (none)) else (some false)
theorem arboristlaw11_hangs.mono_l : ∀ k, (∀ y0 y1 y2 y3 y4 y5, LeO (arboristlaw11_hangs.l0 k y0 y1 y2 y3 y4 y5) (arboristlaw11_hangs.l0 (k + 1) y0 y1 y2 y3 y4 y5)) ∧ (∀ y0 y1 y2 y3 y4 y5 y6 y7, LeO (arboristlaw11_hangs.l1 k y0 y1 y2 y3 y4 y5 y6 y7) (arboristlaw11_hangs.l1 (k + 1) y0 y1 y2 y3 y4 y5 y6 y7)) ∧ (∀ y0 y1 y2 y3 y4 y5 y6 y7 y8, LeO (arboristlaw11_hangs.j2 k y0 y1 y2 y3 y4 y5 y6 y7 y8) (arboristlaw11_hangs.j2 (k + 1) y0 y1 y2 y3 y4 y5 y6 y7 y8)) ∧ (∀ y0 y1 y2 y3 y4 y5 y6, LeO (arboristlaw11_hangs.j3 k y0 y1 y2 y3 y4 y5 y6) (arboristlaw11_hangs.j3 (k + 1) y0 y1 y2 y3 y4 y5 y6)) ∧ (∀ y0 y1 y2 y3 y4 y5 y6, LeO (arboristlaw11_hangs.l2 k y0 y1 y2 y3 y4 y5 y6) (arboristlaw11_hangs.l2 (k + 1) y0 y1 y2 y3 y4 y5 y6)) ∧ (∀ y0 y1 y2 y3 y4 y5 y6 y7 y8, LeO (arboristlaw11_hangs.j5 k y0 y1 y2 y3 y4 y5 y6 y7 y8) (arboristlaw11_hangs.j5 (k + 1) y0 y1 y2 y3 y4 y5 y6 y7 y8)) ∧ (∀ y0 y1 y2 y3 y4 y5, LeO (arboristlaw11_hangs.l3 k y0 y1 y2 y3 y4 y5) (arboristlaw11_hangs.l3 (k + 1) y0 y1 y2 y3 y4 y5)) ∧ (∀ y0 y1 y2 y3 y4 y5 y6, LeO (arboristlaw11_hangs.l4 k y0 y1 y2 y3 y4 y5 y6) (arboristlaw11_hangs.l4 (k + 1) y0 y1 y2 y3 y4 y5 y6)) ∧ (∀ y0 y1 y2 y3 y4 y5 y6 y7 y8, LeO (arboristlaw11_hangs.l5 k y0 y1 y2 y3 y4 y5 y6 y7 y8) (arboristlaw11_hangs.l5 (k + 1) y0 y1 y2 y3 y4 y5 y6 y7 y8))
 | 0 => ⟨fun _ _ _ _ _ _ r h => by simp [arboristlaw11_hangs.l0] at h, fun _ _ _ _ _ _ _ _ r h => by simp [arboristlaw11_hangs.l1] at h, fun _ _ _ _ _ _ _ _ _ r h => by simp [arboristlaw11_hangs.j2] at h, fun _ _ _ _ _ _ _ r h => by simp [arboristlaw11_hangs.j3] at h, fun _ _ _ _ _ _ _ r h => by simp [arboristlaw11_hangs.l2] at h, fun _ _ _ _ _ _ _ _ _ r h => by simp [arboristlaw11_hangs.j5] at h, fun _ _ _ _ _ _ r h => by simp [arboristlaw11_hangs.l3] at h, fun _ _ _ _ _ _ _ r h => by simp [arboristlaw11_hangs.l4] at h, fun _ _ _ _ _ _ _ _ _ r h => by simp [arboristlaw11_hangs.l5] at h⟩
 | k + 1 => by
  obtain ⟨ih0, ih1, ih2, ih3, ih4, ih5, ih6, ih7, ih8⟩ := arboristlaw11_hangs.mono_l k;refine ⟨?_, ?_, ?_, ?_, ?_, ?_, ?_, ?_, ?_⟩;all_goals intros
  all_goals (first | unfold arboristlaw11_hangs.l0 | unfold arboristlaw11_hangs.l1 | unfold arboristlaw11_hangs.j2 | unfold arboristlaw11_hangs.j3 | unfold arboristlaw11_hangs.l2 | unfold arboristlaw11_hangs.j5 | unfold arboristlaw11_hangs.l3 | unfold arboristlaw11_hangs.l4 | unfold arboristlaw11_hangs.l5)
  all_goals repeat' first
  | (with_reducible first | exact ih0 _ _ _ _ _ _ | exact ih1 _ _ _ _ _ _ _ _ | exact ih2 _ _ _ _ _ _ _ _ _ | exact ih3 _ _ _ _ _ _ _ | exact ih4 _ _ _ _ _ _ _ | exact ih5 _ _ _ _ _ _ _ _ _ | exact ih6 _ _ _ _ _ _ | exact ih7 _ _ _ _ _ _ _ | exact ih8 _ _ _ _ _ _ _ _ _ | exact arboristref01_In.mono _ _ _ | exact arboristref01_Meet.mono _ _ _ | exact arboristref01_Rising.mono _ _ | exact LeO.refl _ | exact LeO.none _ | refine LeO.ite ?_ ?_ | refine LeO.bind ?_ (fun _ => ?_))
  | exact ih0 _ _ _ _ _ _
  | exact ih1 _ _ _ _ _ _ _ _
  | exact ih2 _ _ _ _ _ _ _ _ _
  | exact ih3 _ _ _ _ _ _ _
  | exact ih4 _ _ _ _ _ _ _
  | exact ih5 _ _ _ _ _ _ _ _ _
  | exact ih6 _ _ _ _ _ _
  | exact ih7 _ _ _ _ _ _ _
  | exact ih8 _ _ _ _ _ _ _ _ _
  | exact arboristref01_In.mono _ _ _
  | exact arboristref01_Meet.mono _ _ _
  | exact arboristref01_Rising.mono _ _
  | exact LeO.none _
  | refine LeO.ite ?_ ?_
  | refine LeO.bind ?_ (fun _ => ?_)
theorem arboristlaw11_hangs.mono : ∀ a0 a1 a2 k, LeO (arboristlaw11_hangs.f k a0 a1 a2) (arboristlaw11_hangs.f (k + 1) a0 a1 a2) := by
 intro a0 a1 a2 k
 obtain ⟨ih0, ih1, ih2, ih3, ih4, ih5, ih6, ih7, ih8⟩ := arboristlaw11_hangs.mono_l k;unfold arboristlaw11_hangs.f
 repeat' first
   | (with_reducible first | exact ih0 _ _ _ _ _ _ | exact ih1 _ _ _ _ _ _ _ _ | exact ih2 _ _ _ _ _ _ _ _ _ | exact ih3 _ _ _ _ _ _ _ | exact ih4 _ _ _ _ _ _ _ | exact ih5 _ _ _ _ _ _ _ _ _ | exact ih6 _ _ _ _ _ _ | exact ih7 _ _ _ _ _ _ _ | exact ih8 _ _ _ _ _ _ _ _ _ | exact arboristref01_In.mono _ _ _ | exact arboristref01_Meet.mono _ _ _ | exact arboristref01_Rising.mono _ _ | exact LeO.refl _ | exact LeO.none _ | refine LeO.ite ?_ ?_ | refine LeO.bind ?_ (fun _ => ?_))
   | exact ih0 _ _ _ _ _ _
   | exact ih1 _ _ _ _ _ _ _ _
   | exact ih2 _ _ _ _ _ _ _ _ _
   | exact ih3 _ _ _ _ _ _ _
   | exact ih4 _ _ _ _ _ _ _
   | exact ih5 _ _ _ _ _ _ _ _ _
   | exact ih6 _ _ _ _ _ _
   | exact ih7 _ _ _ _ _ _ _
   | exact ih8 _ _ _ _ _ _ _ _ _
   | exact arboristref01_In.mono _ _ _
   | exact arboristref01_Meet.mono _ _ _
   | exact arboristref01_Rising.mono _ _
   | exact LeO.none _
   | refine LeO.ite ?_ ?_
   | refine LeO.bind ?_ (fun _ => ?_)
set_option maxHeartbeats 8000000 in
set_option maxRecDepth 100000 in
theorem arboristlaw11_hangs.calls (k : Nat) (A0 : Option Addr) (c0 : Nat) (l0 : List (List Bool)) (A1_0 : Option Addr) (c1_0 : Nat) (l1_0 : List (List Int)) (A1_1 : Option Addr) (c1_1 : Nat) (l1_1 : List Int) (r : Bool) (w : World) (hr0 : Kd.C (Kd.slice 4 Kd.bool) w A0 l0.length l0) (hc0 : l0.length ≤ c0) (hr1_0 : Kd.C (Kd.slice 3 (Kd.int .i64)) w A1_0 l1_0.length l1_0) (hc1_0 : l1_0.length ≤ c1_0) (hr1_1 : Kd.C (Kd.int .i64) w A1_1 l1_1.length l1_1) (hc1_1 : l1_1.length ≤ c1_1) (h : arboristlaw11_hangs.f k l0 l1_0 l1_1 = some r) :
  Calls Tryd.prog 20 #[.slice A0 l0.length c0, .agg #[.slice A1_0 l1_0.length c1_0, .slice A1_1 l1_1.length c1_1]] w fun e w' => e = .returned (.bool r) ∧ Below w.heap.size w w' := by
 have hu28 := Tryd.underlying28;have HR0 := Aside0.mk hr0;have HC0 := Aside0.mk hc0;clear hr0 hc0;have HR1_0 := Aside0.mk hr1_0;have HC1_0 := Aside0.mk hc1_0;clear hr1_0 hc1_0;have HR1_1 := Aside0.mk hr1_1;have HC1_1 := Aside0.mk hc1_1;clear hr1_1 hc1_1;have HB := Aside0.mk (Below.refl w.heap.size w);have H : (if (l1_1.length : Int) = (l1_0.length : Int) then (if 0 ≤ (l0.length : Int) then (if ((l0.length : Int) : Int).toNat ≤ 35184372088832 then (arboristlaw11_hangs.l0 k l0 (l1_0.length : Int) (List.replicate ((l0.length : Int) : Int).toNat 0) 0 l1_0 l1_1) else (none)) else (none)) else (some false)) = some r := h;clear h;by_cases c3 : (l1_1.length : Int) = (l1_0.length : Int)
 ·rw [if_pos c3] at H
  have c3b0 : ((l1_1.length : Int) == (l1_0.length : Int)) = true := beq_iff_eq.mpr c3;have c3b1 : ((l1_1.length : Int) != (l1_0.length : Int)) = false := bne_eq_false_iff_eq.mpr c3;have c3b2 : (l1_1.length == l1_0.length) = true := by first | simpa using c3 | (simp at c3 ⊢; omega)
  clear c3;by_cases c4 : 0 ≤ (l0.length : Int)
  ·rw [if_pos c4] at H
   have c4b0 := eq_true c4;have c4b1 : decide (0 ≤ (l0.length : Int)) = true := decide_eq_true c4;clear c4;by_cases c5 : ((l0.length : Int) : Int).toNat ≤ 35184372088832
   ·rw [if_pos c5] at H
    have c5b0 := eq_true c5;have c5b1 : decide (((l0.length : Int) : Int).toNat ≤ 35184372088832) = true := decide_eq_true c5;clear c5;obtain ⟨y642, hy642⟩ : ∃ y_ : List Int, y_ = (List.replicate ((l0.length : Int) : Int).toNat 0) := ⟨_, rfl⟩;replace H : (arboristlaw11_hangs.l0 k l0 (l1_0.length : Int) y642 0 l1_0 l1_1) = some r := by first | (rw [hy642]; with_reducible exact H) | (have H2_ := (Option.bind_some _ _).symm.trans H; rw [hy642]; with_reducible exact H2_) | (have H2_ := (Option.bind_some _ _).symm.trans H; with_reducible exact H2_) | with_reducible exact H | (rw [hy642]; exact H) | exact H
    have Ny642 := Aside0.mk hy642;clear hy642;have H' := Aside0.mk H;clear H;go_enter Tryd.func20, Tryd.ntmps20
    go_wp2_with (first | ((with_reducible refine gate_dst (N := 3) rfl ?_); (try (refine gate_guard (by rfl) ?_; dsimp only)); refine box_event ?hg (N := 3) ?hd (cs := #[.slice A1_0 l1_0.length c1_0, .slice A1_1 l1_1.length c1_1]) (t := 28) ?hr ?_; (case hd => rfl); (case hg => rfl); (case hr => first | (go_simp; done) | (go_simp; rfl)); intro gb641 hg w6 hbox hb; have n0_ := Aside0.mk (below_step (qB HB.out) hb); have n1_ := Aside0.mk (hbox); have n2_ := Aside0.mk ((by rw [hg]; exact (below_size (qB HB.out)) : w.heap.size ≤ gb641)); have n3_ := Aside0.mk ((by rw [hg]; exact (below_size (qB HB.out)) : w.heap.size ≤ gb641)); clear HB; have HB := n0_; have BK641 := n1_; have GW641 := n2_; have GE641 := n3_; clear n0_ n1_ n2_ n3_; clear hb hbox hg; have hcz7_0 : w6.cell? ⟨gb641, 0, none⟩ = some (.slice A1_0 l1_0.length c1_0) := (blk_cell BK641.out 0).trans rfl; have hcz7_1 : w6.cell? ⟨gb641, 1, none⟩ = some (.slice A1_1 l1_1.length c1_1) := (blk_cell BK641.out 1).trans rfl; have hfz7_0 := blk_frozen BK641.out 0; have hfz7_1 := blk_frozen BK641.out 1) | ((with_reducible refine gate_dst (N := 28) rfl ?_); (try (refine gate_guard (by rfl) ?_; dsimp only)); refine Kd.R_make (Kd.int .i64) _ 3 rfl (N := 28) rfl 23 _ _ rfl (l0.length : Int) rfl rfl Tryd.underlying23 (.int .i64 0) 8 info3 rfl (by decide) (by omega) 0 (ok := fun _ => True) (okp := fun _ => True) rfl (fun _ hk => hk) trivial (of_decide_eq_true qA) (Nat.le_trans (Nat.mul_le_mul_right _ (of_decide_eq_true qA : (l0.length : Int).toNat ≤ 35184372088832)) (by omega)) (Below.refl _ _) (Nat.le_refl _) ?_; intro v643 w8 ho9 hb hg_ hnew_; clear hg_ hnew_; (first | rw [← Ny642.out] at ho9 | (simp only [Int.reduceToNat] at ho9; rw [← Ny642.out] at ho9)); have n0_ := Aside0.mk (Kd.R_lower ho9 (below_size (by repeat (first | (with_reducible first | exact HB.out | apply below_alloc | apply pw_below_drewN | apply below_drew1 | refine below_set ?_ GE641.out) | exact HB.out)))); have n1_ := Aside0.mk (blk_below (g := gb641) (o := .cells #[.slice A1_0 l1_0.length c1_0, .slice A1_1 l1_1.length c1_1] 28 (0, 0)) (qK BK641.out) hb); have n2_ := Aside0.mk (below_step (by repeat (first | (with_reducible first | exact HB.out | apply below_alloc | apply pw_below_drewN | apply below_drew1 | refine below_set ?_ GE641.out) | exact HB.out)) hb); clear BK641; clear HB; have HO644 := n0_; have BK641 := n1_; have HB := n2_; clear n0_ n1_ n2_; clear hb ho9))
    repeat (go_quiet (first | ((with_reducible refine gate_dst (N := 3) rfl ?_); (try (refine gate_guard (by rfl) ?_; dsimp only)); refine box_event ?hg (N := 3) ?hd (cs := #[.slice A1_0 l1_0.length c1_0, .slice A1_1 l1_1.length c1_1]) (t := 28) ?hr ?_; (case hd => rfl); (case hg => rfl); (case hr => first | (go_simp; done) | (go_simp; rfl)); intro gb641 hg w6 hbox hb; have n0_ := Aside0.mk (below_step (qB HB.out) hb); have n1_ := Aside0.mk (hbox); have n2_ := Aside0.mk ((by rw [hg]; exact (below_size (qB HB.out)) : w.heap.size ≤ gb641)); have n3_ := Aside0.mk ((by rw [hg]; exact (below_size (qB HB.out)) : w.heap.size ≤ gb641)); clear HB; have HB := n0_; have BK641 := n1_; have GW641 := n2_; have GE641 := n3_; clear n0_ n1_ n2_ n3_; clear hb hbox hg; have hcz7_0 : w6.cell? ⟨gb641, 0, none⟩ = some (.slice A1_0 l1_0.length c1_0) := (blk_cell BK641.out 0).trans rfl; have hcz7_1 : w6.cell? ⟨gb641, 1, none⟩ = some (.slice A1_1 l1_1.length c1_1) := (blk_cell BK641.out 1).trans rfl; have hfz7_0 := blk_frozen BK641.out 0; have hfz7_1 := blk_frozen BK641.out 1) | ((with_reducible refine gate_dst (N := 28) rfl ?_); (try (refine gate_guard (by rfl) ?_; dsimp only)); refine Kd.R_make (Kd.int .i64) _ 3 rfl (N := 28) rfl 23 _ _ rfl (l0.length : Int) rfl rfl Tryd.underlying23 (.int .i64 0) 8 info3 rfl (by decide) (by omega) 0 (ok := fun _ => True) (okp := fun _ => True) rfl (fun _ hk => hk) trivial (of_decide_eq_true qA) (Nat.le_trans (Nat.mul_le_mul_right _ (of_decide_eq_true qA : (l0.length : Int).toNat ≤ 35184372088832)) (by omega)) (Below.refl _ _) (Nat.le_refl _) ?_; intro v643 w8 ho9 hb hg_ hnew_; clear hg_ hnew_; (first | rw [← Ny642.out] at ho9 | (simp only [Int.reduceToNat] at ho9; rw [← Ny642.out] at ho9)); have n0_ := Aside0.mk (Kd.R_lower ho9 (below_size (by repeat (first | (with_reducible first | exact HB.out | apply below_alloc | apply pw_below_drewN | apply below_drew1 | refine below_set ?_ GE641.out) | exact HB.out)))); have n1_ := Aside0.mk (blk_below (g := gb641) (o := .cells #[.slice A1_0 l1_0.length c1_0, .slice A1_1 l1_1.length c1_1] 28 (0, 0)) (qK BK641.out) hb); have n2_ := Aside0.mk (below_step (by repeat (first | (with_reducible first | exact HB.out | apply below_alloc | apply pw_below_drewN | apply below_drew1 | refine below_set ?_ GE641.out) | exact HB.out)) hb); clear BK641; clear HB; have HO644 := n0_; have BK641 := n1_; have HB := n2_; clear n0_ n1_ n2_; clear hb ho9)); try go_wp2_with (first | ((with_reducible refine gate_dst (N := 3) rfl ?_); (try (refine gate_guard (by rfl) ?_; dsimp only)); refine box_event ?hg (N := 3) ?hd (cs := #[.slice A1_0 l1_0.length c1_0, .slice A1_1 l1_1.length c1_1]) (t := 28) ?hr ?_; (case hd => rfl); (case hg => rfl); (case hr => first | (go_simp; done) | (go_simp; rfl)); intro gb641 hg w6 hbox hb; have n0_ := Aside0.mk (below_step (qB HB.out) hb); have n1_ := Aside0.mk (hbox); have n2_ := Aside0.mk ((by rw [hg]; exact (below_size (qB HB.out)) : w.heap.size ≤ gb641)); have n3_ := Aside0.mk ((by rw [hg]; exact (below_size (qB HB.out)) : w.heap.size ≤ gb641)); clear HB; have HB := n0_; have BK641 := n1_; have GW641 := n2_; have GE641 := n3_; clear n0_ n1_ n2_ n3_; clear hb hbox hg; have hcz7_0 : w6.cell? ⟨gb641, 0, none⟩ = some (.slice A1_0 l1_0.length c1_0) := (blk_cell BK641.out 0).trans rfl; have hcz7_1 : w6.cell? ⟨gb641, 1, none⟩ = some (.slice A1_1 l1_1.length c1_1) := (blk_cell BK641.out 1).trans rfl; have hfz7_0 := blk_frozen BK641.out 0; have hfz7_1 := blk_frozen BK641.out 1) | ((with_reducible refine gate_dst (N := 28) rfl ?_); (try (refine gate_guard (by rfl) ?_; dsimp only)); refine Kd.R_make (Kd.int .i64) _ 3 rfl (N := 28) rfl 23 _ _ rfl (l0.length : Int) rfl rfl Tryd.underlying23 (.int .i64 0) 8 info3 rfl (by decide) (by omega) 0 (ok := fun _ => True) (okp := fun _ => True) rfl (fun _ hk => hk) trivial (of_decide_eq_true qA) (Nat.le_trans (Nat.mul_le_mul_right _ (of_decide_eq_true qA : (l0.length : Int).toNat ≤ 35184372088832)) (by omega)) (Below.refl _ _) (Nat.le_refl _) ?_; intro v643 w8 ho9 hb hg_ hnew_; clear hg_ hnew_; (first | rw [← Ny642.out] at ho9 | (simp only [Int.reduceToNat] at ho9; rw [← Ny642.out] at ho9)); have n0_ := Aside0.mk (Kd.R_lower ho9 (below_size (by repeat (first | (with_reducible first | exact HB.out | apply below_alloc | apply pw_below_drewN | apply below_drew1 | refine below_set ?_ GE641.out) | exact HB.out)))); have n1_ := Aside0.mk (blk_below (g := gb641) (o := .cells #[.slice A1_0 l1_0.length c1_0, .slice A1_1 l1_1.length c1_1] 28 (0, 0)) (qK BK641.out) hb); have n2_ := Aside0.mk (below_step (by repeat (first | (with_reducible first | exact HB.out | apply below_alloc | apply pw_below_drewN | apply below_drew1 | refine below_set ?_ GE641.out) | exact HB.out)) hb); clear BK641; clear HB; have HO644 := n0_; have BK641 := n1_; have HB := n2_; clear n0_ n1_ n2_; clear hb ho9)))
    go_loopg [7] k (fun kq v7 w' => ∃ (x6_1 : List Int) (x7_1 : Int), v7 = .int .i64 x7_1 ∧ Aside0 (arboristlaw11_hangs.l0 kq l0 (l1_0.length : Int) x6_1 x7_1 l1_0 l1_1 = some r) ∧ Aside0 (kq ≤ k) ∧ Aside0 (Kd.R (Kd.int .i64) 3 w' w.heap.size (fun _ => True) v643 x6_1) ∧ Aside0 (w'.heap[gb641]? = some (.cells #[(.slice A1_0 l1_0.length c1_0), (.slice A1_1 l1_1.length c1_1)] 28 (0, 0))) ∧ Aside0 (Below w.heap.size w w'))
    case atStart => exact ⟨(y642), (0), (by first | rfl | (simp; done) | (simp [*]; done)), H', ⟨Nat.le_refl _⟩, ⟨by (with_reducible repeat (first | apply Kd.R_alloc | apply Kd.R_drewN | apply Kd.R_drew)); exact HO644.out⟩, ⟨by (with_reducible repeat (first | refine blk_drewN ?_ _ | refine blk_drew ?_ | refine blk_alloc ?_ _)); exact BK641.out⟩, ⟨by repeat (first | (with_reducible first | exact HB.out | apply below_alloc | apply pw_below_drewN | apply below_drew1 | refine below_set ?_ GE641.out) | exact HB.out)⟩⟩
    case round =>
     clear H';try clear c1
     try clear c2
     try clear p2
     try clear c3
     try clear c3b0
     try clear c3b1
     try clear c3b2
     try clear c4
     try clear c4b0
     try clear c4b1
     try clear c5
     try clear c5b0
     try clear c5b1
     try clear hcz7_0
     try clear hcz7_1
     try clear hfz7_0
     try clear hfz7_1
     obtain ⟨x6_1, x7_1, rfl, HA, HK1, HO_6, BK641, HB⟩ := hrel;cases gk with
     | zero => exact absurd HA.out (by simp [arboristlaw11_hangs.l0])
     | succ k1 =>
      have H := HA.out;clear HA;simp only [arboristlaw11_hangs.l0] at H
      by_cases c10 : x7_1 < (l1_0.length : Int)
      ·rw [if_pos c10] at H
       have c10b0 : decide (x7_1 < (l1_0.length : Int)) = true := decide_eq_true c10;clear c10;have H' := Aside0.mk H;clear H;go_wp2
       repeat (go_quiet (fail); try go_wp2)
       go_loopg [8, 9] k1 (fun kq v8 v9 w' => ∃ (x8_2 : Int) (x9_2 : Int), v8 = .int .i64 x8_2 ∧ v9 = .int .i64 x9_2 ∧ Aside0 (arboristlaw11_hangs.l1 kq l0 (l1_0.length : Int) x6_1 x7_1 x8_2 x9_2 l1_0 l1_1 = some r) ∧ Aside0 (kq ≤ k1) ∧ Aside0 (Kd.R (Kd.int .i64) 3 w' w.heap.size (fun _ => True) v643 x6_1) ∧ Aside0 (w'.heap[gb641]? = some (.cells #[(.slice A1_0 l1_0.length c1_0), (.slice A1_1 l1_1.length c1_1)] 28 (0, 0))) ∧ Aside0 (Below w.heap.size w w'))
       case atStart => exact ⟨(x7_1), (0), (by first | rfl | (simp; done) | (simp [*]; done)), (by first | rfl | (simp; done) | (simp [*]; done)), H', ⟨Nat.le_refl _⟩, ⟨by (with_reducible repeat (first | apply Kd.R_alloc | apply Kd.R_drewN | apply Kd.R_drew)); exact HO_6.out⟩, ⟨by (with_reducible repeat (first | refine blk_drewN ?_ _ | refine blk_drew ?_ | refine blk_alloc ?_ _)); exact BK641.out⟩, ⟨by repeat (first | (with_reducible first | exact HB.out | apply below_alloc | apply pw_below_drewN | apply below_drew1 | refine below_set ?_ GE641.out) | exact HB.out)⟩⟩
       case round =>
        clear H';try clear c1
        try clear c2
        try clear p2
        try clear c3
        try clear c3b0
        try clear c3b1
        try clear c3b2
        try clear c4
        try clear c4b0
        try clear c4b1
        try clear c5
        try clear c5b0
        try clear c5b1
        try clear c10
        try clear c10b0
        try clear hcz7_0
        try clear hcz7_1
        try clear hfz7_0
        try clear hfz7_1
        try clear p2
        obtain ⟨x8_2, x9_2, rfl, rfl, HA, HK2, HO_6, BK641, HB⟩ := hrel;cases gk with
        | zero => exact absurd HA.out (by simp [arboristlaw11_hangs.l1])
        | succ k2 =>
         have H := HA.out;clear HA;simp only [arboristlaw11_hangs.l1] at H
         have HC11 := Aside0.mk H;clear H;go_upto_region 10 with (fail)
         repeat (go_quiet (fail); go_upto_region 10 with (fail))
         go_cut [41] (fun v41 wc => ∃ (kq : Nat) (x41_10 : Bool), v41 = .bool x41_10 ∧ Aside0 (arboristlaw11_hangs.j2 kq l0 (l1_0.length : Int) x6_1 x7_1 x8_2 x9_2 x41_10 l1_0 l1_1 = some r) ∧ Aside0 (kq ≤ k2) ∧ Aside0 (Kd.R (Kd.int .i64) 3 wc w.heap.size (fun _ => True) v643 x6_1) ∧ Aside0 (wc.heap[gb641]? = some (.cells #[(.slice A1_0 l1_0.length c1_0), (.slice A1_1 l1_1.length c1_1)] 28 (0, 0))) ∧ Aside0 (Below w.heap.size w wc))
         case first =>
          have H := HC11.out;clear HC11;by_cases c12 : x9_2 < (l1_0.length : Int)
          ·rw [if_pos c12] at H
           have c12b0 : decide (x9_2 < (l1_0.length : Int)) = true := decide_eq_true c12;clear c12;(first | rw [c12b0] | (simp only [i64_w, i32_w]; rw [c12b0]) | skip);have H' := Aside0.mk H;clear H;go_wp2
           repeat (go_quiet (fail); try go_wp2)
           go_meet
           case rel => exact ⟨_, (decide (x8_2 ≥ 0)), (by first | rfl | (simp; done) | (simp [*]; done)), H', ⟨by have := HK1.out; have := HK2.out; first | omega | exact Nat.le_refl _⟩, ⟨by (with_reducible repeat (first | apply Kd.R_alloc | apply Kd.R_drewN | apply Kd.R_drew)); exact HO_6.out⟩, ⟨by (with_reducible repeat (first | refine blk_drewN ?_ _ | refine blk_drew ?_ | refine blk_alloc ?_ _)); exact BK641.out⟩, ⟨by repeat (first | (with_reducible first | exact HB.out | apply below_alloc | apply pw_below_drewN | apply below_drew1 | refine below_set ?_ GE641.out) | exact HB.out)⟩⟩
          ·rw [if_neg c12] at H
           have c12b0 : decide (x9_2 < (l1_0.length : Int)) = false := decide_eq_false c12;clear c12;(first | rw [c12b0] | (simp only [i64_w, i32_w]; rw [c12b0]) | skip);have H' := Aside0.mk H;clear H;go_wp2
           repeat (go_quiet (fail); try go_wp2)
           go_meet
           case rel => exact ⟨_, (false), (by first | rfl | (simp; done) | (simp [*]; done)), H', ⟨by have := HK1.out; have := HK2.out; first | omega | exact Nat.le_refl _⟩, ⟨by (with_reducible repeat (first | apply Kd.R_alloc | apply Kd.R_drewN | apply Kd.R_drew)); exact HO_6.out⟩, ⟨by (with_reducible repeat (first | refine blk_drewN ?_ _ | refine blk_drew ?_ | refine blk_alloc ?_ _)); exact BK641.out⟩, ⟨by repeat (first | (with_reducible first | exact HB.out | apply below_alloc | apply pw_below_drewN | apply below_drew1 | refine below_set ?_ GE641.out) | exact HB.out)⟩⟩
         case rest =>
          clear HC11;try clear c1
          try clear c2
          try clear p2
          try clear c3
          try clear c3b0
          try clear c3b1
          try clear c3b2
          try clear c4
          try clear c4b0
          try clear c4b1
          try clear c5
          try clear c5b0
          try clear c5b1
          try clear c10
          try clear c10b0
          try clear c12
          try clear c12b0
          try clear hcz7_0
          try clear hcz7_1
          try clear hfz7_0
          try clear hfz7_1
          try clear p2
          obtain ⟨kq, x41_10, rfl, HA, HJ10, HO_6, BK641, HB⟩ := hcut;cases kq with
          | zero => exact absurd HA.out (by simp [arboristlaw11_hangs.j2])
          | succ kj10 =>
           have H := HA.out;clear HA;simp only [arboristlaw11_hangs.j2] at H
           by_cases c13 : x41_10 = true
           ·subst c13;replace H : (if 0 ≤ x8_2 then (if x8_2 < (l1_1.length : Int) then (if (rd l1_1 x8_2) < (-1) then (some false) else (if (rd l1_1 x8_2) ≥ (l1_0.length : Int) then (some false) else (if ((decide ((rd l1_1 x8_2) < 0)) != (x8_2 == 0)) = true then (some false) else (arboristlaw11_hangs.l1 kj10 l0 (l1_0.length : Int) x6_1 x7_1 (rd l1_1 x8_2) (wrap64 (x9_2 + 1)) l1_0 l1_1)))) else (none)) else (none)) = some r := by rw [if_pos rfl] at H; exact H
            by_cases c14 : 0 ≤ x8_2
            ·rw [if_pos c14] at H
             have c14b0 : decide (0 ≤ x8_2) = true := decide_eq_true c14;clear c14;by_cases c15 : x8_2 < (l1_1.length : Int)
             ·rw [if_pos c15] at H
              have c15b0 : decide (x8_2 < (l1_1.length : Int)) = true := decide_eq_true c15;clear c15;by_cases c16 : (rd l1_1 x8_2) < (-1)
              ·rw [if_pos c16] at H
               have c16b0 : decide ((rd l1_1 x8_2) < (-1)) = true := decide_eq_true c16;clear c16;obtain rfl := Option.some.inj H;have hcz17_0 : wc.cell? ⟨gb641, 0, none⟩ = some (.slice A1_0 l1_0.length c1_0) := (blk_cell BK641.out 0).trans rfl;have hcz17_1 : wc.cell? ⟨gb641, 1, none⟩ = some (.slice A1_1 l1_1.length c1_1) := (blk_cell BK641.out 1).trans rfl;have hfz17_0 := blk_frozen BK641.out 0;have hfz17_1 := blk_frozen BK641.out 1;have p645 : 0 ≤ (x8_2 : Int) := of_decide_eq_true qA;have q645 : x8_2 < (l1_1.length : Int) := of_decide_eq_true qA;obtain ⟨ad645, e645, hx645_0⟩ := Kd.at_int HR1_1.out x8_2 p645 q645;cases e645
               replace hx645_0 := (HB.out.cell (World.block_lt_of_cell? w _ hx645_0)).trans hx645_0;replace p645 := eq_true p645;replace q645 := eq_true q645;go_wp2
               repeat (go_quiet (fail); try go_wp2)
               go_ret
               exact ⟨by first | rfl | (simp [errW_none, errW_some] <;> rfl) | (simp [*, errW_none, errW_some] <;> rfl), by repeat (first | (with_reducible first | exact HB.out | apply below_alloc | apply pw_below_drewN | apply below_drew1 | refine below_set ?_ GE641.out) | exact HB.out)⟩
              ·rw [if_neg c16] at H
               have c16b0 : decide ((rd l1_1 x8_2) < (-1)) = false := decide_eq_false c16;clear c16;by_cases c18 : (rd l1_1 x8_2) ≥ (l1_0.length : Int)
               ·rw [if_pos c18] at H
                have c18b0 : decide ((l1_0.length : Int) ≤ (rd l1_1 x8_2)) = true := decide_eq_true c18;clear c18;obtain rfl := Option.some.inj H;have hcz19_0 : wc.cell? ⟨gb641, 0, none⟩ = some (.slice A1_0 l1_0.length c1_0) := (blk_cell BK641.out 0).trans rfl;have hcz19_1 : wc.cell? ⟨gb641, 1, none⟩ = some (.slice A1_1 l1_1.length c1_1) := (blk_cell BK641.out 1).trans rfl;have hfz19_0 := blk_frozen BK641.out 0;have hfz19_1 := blk_frozen BK641.out 1;have p645 : 0 ≤ (x8_2 : Int) := of_decide_eq_true qA;have q645 : x8_2 < (l1_1.length : Int) := of_decide_eq_true qA;obtain ⟨ad645, e645, hx645_0⟩ := Kd.at_int HR1_1.out x8_2 p645 q645;cases e645
                replace hx645_0 := (HB.out.cell (World.block_lt_of_cell? w _ hx645_0)).trans hx645_0;replace p645 := eq_true p645;replace q645 := eq_true q645;have p646 : 0 ≤ (x8_2 : Int) := of_decide_eq_true qA;have q646 : x8_2 < (l1_1.length : Int) := of_decide_eq_true qA;obtain ⟨ad646, e646, hx646_0⟩ := Kd.at_int HR1_1.out x8_2 p646 q646;obtain rfl : ad645 = ad646 := (by injection e646);replace hx646_0 := (HB.out.cell (World.block_lt_of_cell? w _ hx646_0)).trans hx646_0;replace p646 := eq_true p646;replace q646 := eq_true q646;go_wp2
                repeat (go_quiet (fail); try go_wp2)
                go_ret
                exact ⟨by first | rfl | (simp [errW_none, errW_some] <;> rfl) | (simp [*, errW_none, errW_some] <;> rfl), by repeat (first | (with_reducible first | exact HB.out | apply below_alloc | apply pw_below_drewN | apply below_drew1 | refine below_set ?_ GE641.out) | exact HB.out)⟩
               ·rw [if_neg c18] at H
                have c18b0 : decide ((l1_0.length : Int) ≤ (rd l1_1 x8_2)) = false := decide_eq_false c18;clear c18;by_cases c20 : ((decide ((rd l1_1 x8_2) < 0)) != (x8_2 == 0)) = true
                ·rw [if_pos c20] at H
                 have c20b0 : ((decide ((rd l1_1 x8_2) < 0)) != (x8_2 == 0)) = true := c20;(try (have c20b1 : decide ((decide ((rd l1_1 x8_2) < 0)) = (x8_2 == 0)) = false := by simpa using c20));(try (have c20b2 : ((decide ((rd l1_1 x8_2) < 0)) == (x8_2 == 0)) = false := by simpa using c20));(try (have c20b3 : ¬ ((decide ((rd l1_1 x8_2) < 0)) = (x8_2 == 0)) := by simpa using c20));clear c20;obtain rfl := Option.some.inj H;have hcz21_0 : wc.cell? ⟨gb641, 0, none⟩ = some (.slice A1_0 l1_0.length c1_0) := (blk_cell BK641.out 0).trans rfl;have hcz21_1 : wc.cell? ⟨gb641, 1, none⟩ = some (.slice A1_1 l1_1.length c1_1) := (blk_cell BK641.out 1).trans rfl;have hfz21_0 := blk_frozen BK641.out 0;have hfz21_1 := blk_frozen BK641.out 1;have p645 : 0 ≤ (x8_2 : Int) := of_decide_eq_true qA;have q645 : x8_2 < (l1_1.length : Int) := of_decide_eq_true qA;obtain ⟨ad645, e645, hx645_0⟩ := Kd.at_int HR1_1.out x8_2 p645 q645;cases e645
                 replace hx645_0 := (HB.out.cell (World.block_lt_of_cell? w _ hx645_0)).trans hx645_0;replace p645 := eq_true p645;replace q645 := eq_true q645;have p646 : 0 ≤ (x8_2 : Int) := of_decide_eq_true qA;have q646 : x8_2 < (l1_1.length : Int) := of_decide_eq_true qA;obtain ⟨ad646, e646, hx646_0⟩ := Kd.at_int HR1_1.out x8_2 p646 q646;obtain rfl : ad645 = ad646 := (by injection e646);replace hx646_0 := (HB.out.cell (World.block_lt_of_cell? w _ hx646_0)).trans hx646_0;replace p646 := eq_true p646;replace q646 := eq_true q646;have p647 : 0 ≤ (x8_2 : Int) := of_decide_eq_true qA;have q647 : x8_2 < (l1_1.length : Int) := of_decide_eq_true qA;obtain ⟨ad647, e647, hx647_0⟩ := Kd.at_int HR1_1.out x8_2 p647 q647;obtain rfl : ad645 = ad647 := (by injection e647);replace hx647_0 := (HB.out.cell (World.block_lt_of_cell? w _ hx647_0)).trans hx647_0;replace p647 := eq_true p647;replace q647 := eq_true q647;go_wp2
                 repeat (go_quiet (fail); try go_wp2)
                 go_ret
                 exact ⟨by first | rfl | (simp [errW_none, errW_some] <;> rfl) | (simp [*, errW_none, errW_some] <;> rfl), by repeat (first | (with_reducible first | exact HB.out | apply below_alloc | apply pw_below_drewN | apply below_drew1 | refine below_set ?_ GE641.out) | exact HB.out)⟩
                ·rw [if_neg c20] at H
                 have c20b0 : ((decide ((rd l1_1 x8_2) < 0)) != (x8_2 == 0)) = false := by simpa using c20
                 (try (have c20b1 : decide ((decide ((rd l1_1 x8_2) < 0)) = (x8_2 == 0)) = true := by simpa using c20));(try (have c20b2 : ((decide ((rd l1_1 x8_2) < 0)) == (x8_2 == 0)) = true := by simpa using c20));clear c20;have H' := Aside0.mk H;clear H;have hcz22_0 : wc.cell? ⟨gb641, 0, none⟩ = some (.slice A1_0 l1_0.length c1_0) := (blk_cell BK641.out 0).trans rfl;have hcz22_1 : wc.cell? ⟨gb641, 1, none⟩ = some (.slice A1_1 l1_1.length c1_1) := (blk_cell BK641.out 1).trans rfl;have hfz22_0 := blk_frozen BK641.out 0;have hfz22_1 := blk_frozen BK641.out 1;have p645 : 0 ≤ (x8_2 : Int) := of_decide_eq_true qA;have q645 : x8_2 < (l1_1.length : Int) := of_decide_eq_true qA;obtain ⟨ad645, e645, hx645_0⟩ := Kd.at_int HR1_1.out x8_2 p645 q645;cases e645
                 replace hx645_0 := (HB.out.cell (World.block_lt_of_cell? w _ hx645_0)).trans hx645_0;replace p645 := eq_true p645;replace q645 := eq_true q645;have p646 : 0 ≤ (x8_2 : Int) := of_decide_eq_true qA;have q646 : x8_2 < (l1_1.length : Int) := of_decide_eq_true qA;obtain ⟨ad646, e646, hx646_0⟩ := Kd.at_int HR1_1.out x8_2 p646 q646;obtain rfl : ad645 = ad646 := (by injection e646);replace hx646_0 := (HB.out.cell (World.block_lt_of_cell? w _ hx646_0)).trans hx646_0;replace p646 := eq_true p646;replace q646 := eq_true q646;have p647 : 0 ≤ (x8_2 : Int) := of_decide_eq_true qA;have q647 : x8_2 < (l1_1.length : Int) := of_decide_eq_true qA;obtain ⟨ad647, e647, hx647_0⟩ := Kd.at_int HR1_1.out x8_2 p647 q647;obtain rfl : ad645 = ad647 := (by injection e647);replace hx647_0 := (HB.out.cell (World.block_lt_of_cell? w _ hx647_0)).trans hx647_0;replace p647 := eq_true p647;replace q647 := eq_true q647;have p648 : 0 ≤ (x8_2 : Int) := of_decide_eq_true qA;have q648 : x8_2 < (l1_1.length : Int) := of_decide_eq_true qA;obtain ⟨ad648, e648, hx648_0⟩ := Kd.at_int HR1_1.out x8_2 p648 q648;obtain rfl : ad645 = ad648 := (by injection e648);replace hx648_0 := (HB.out.cell (World.block_lt_of_cell? w _ hx648_0)).trans hx648_0;replace p648 := eq_true p648;replace q648 := eq_true q648;go_wp2
                 repeat (go_quiet (fail); try go_wp2)
                 go_roundg kj10
                 case measure => have := HK1.out; have := HK2.out; have := HJ10.out; omega
                 case rel => exact ⟨(rd l1_1 x8_2), (wrap64 (x9_2 + 1)), (by first | rfl | (simp; done) | (simp [*]; done)), (by first | rfl | (simp; done) | (simp [*]; done)), H', ⟨by have := HK1.out; have := HK2.out; have := HJ10.out; omega⟩, ⟨by (with_reducible repeat (first | apply Kd.R_alloc | apply Kd.R_drewN | apply Kd.R_drew)); exact HO_6.out⟩, ⟨by (with_reducible repeat (first | refine blk_drewN ?_ _ | refine blk_drew ?_ | refine blk_alloc ?_ _)); exact BK641.out⟩, ⟨by repeat (first | (with_reducible first | exact HB.out | apply below_alloc | apply pw_below_drewN | apply below_drew1 | refine below_set ?_ GE641.out) | exact HB.out)⟩⟩
             ·rw [if_neg c15] at H
              exact absurd H (by simp)
            ·rw [if_neg c14] at H
             exact absurd H (by simp)
           ·replace c13 := Bool.eq_false_iff.mpr c13;subst c13;replace H : (if x8_2 ≥ 0 then (arboristlaw11_hangs.j3 kj10 l0 (l1_0.length : Int) x6_1 x7_1 true l1_0 l1_1) else (if 0 ≤ x7_1 then (if x7_1 < (l1_0.length : Int) then ((arboristref01_Rising.f kj10 (rd_L1 l1_0 x7_1)).bind fun t650 => (arboristlaw11_hangs.j3 kj10 l0 (l1_0.length : Int) x6_1 x7_1 (!t650) l1_0 l1_1)) else (none)) else (none))) = some r := by rw [if_neg (show ¬ (false = true) by decide)] at H; exact H
            have HC23 := Aside0.mk H;clear H;go_upto_region 15 with (fail)
            repeat (go_quiet (fail); go_upto_region 15 with (fail))
            go_cut [85] (fun v85 wc => ∃ (kq : Nat) (x85_22 : Bool), v85 = .bool x85_22 ∧ Aside0 (arboristlaw11_hangs.j3 kq l0 (l1_0.length : Int) x6_1 x7_1 x85_22 l1_0 l1_1 = some r) ∧ Aside0 (kq ≤ kj10) ∧ Aside0 (Kd.R (Kd.int .i64) 3 wc w.heap.size (fun _ => True) v643 x6_1) ∧ Aside0 (wc.heap[gb641]? = some (.cells #[(.slice A1_0 l1_0.length c1_0), (.slice A1_1 l1_1.length c1_1)] 28 (0, 0))) ∧ Aside0 (Below w.heap.size w wc))
            case first =>
             have H := HC23.out;clear HC23;by_cases c24 : x8_2 ≥ 0
             ·rw [if_pos c24] at H
              have c24b0 : decide (0 ≤ x8_2) = true := decide_eq_true c24;clear c24;(first | rw [c24b0] | (simp only [i64_w, i32_w]; rw [c24b0]) | skip);have H' := Aside0.mk H;clear H;go_wp2
              repeat (go_quiet (fail); try go_wp2)
              go_meet
              case rel => exact ⟨_, (true), (by first | rfl | (simp; done) | (simp [*]; done)), H', ⟨by have := HK1.out; have := HK2.out; have := HJ10.out; first | omega | exact Nat.le_refl _⟩, ⟨by (with_reducible repeat (first | apply Kd.R_alloc | apply Kd.R_drewN | apply Kd.R_drew)); exact HO_6.out⟩, ⟨by (with_reducible repeat (first | refine blk_drewN ?_ _ | refine blk_drew ?_ | refine blk_alloc ?_ _)); exact BK641.out⟩, ⟨by repeat (first | (with_reducible first | exact HB.out | apply below_alloc | apply pw_below_drewN | apply below_drew1 | refine below_set ?_ GE641.out) | exact HB.out)⟩⟩
             ·rw [if_neg c24] at H
              have c24b0 : decide (0 ≤ x8_2) = false := decide_eq_false c24;clear c24;(first | rw [c24b0] | (simp only [i64_w, i32_w]; rw [c24b0]) | skip);by_cases c25 : 0 ≤ x7_1
              ·rw [if_pos c25] at H
               have c25b0 : decide (0 ≤ x7_1) = true := decide_eq_true c25;clear c25;by_cases c26 : x7_1 < (l1_0.length : Int)
               ·rw [if_pos c26] at H
                have c26b0 : decide (x7_1 < (l1_0.length : Int)) = true := decide_eq_true c26;clear c26;replace H := Option.bind_eq_some_iff.mp H;obtain ⟨t650, A270, H⟩ := H;(try dsimp only at H);have A27 := Aside0.mk A270;clear A270;have H' := Aside0.mk H;clear H;have hcz28_0 : wc.cell? ⟨gb641, 0, none⟩ = some (.slice A1_0 l1_0.length c1_0) := (blk_cell BK641.out 0).trans rfl;have hcz28_1 : wc.cell? ⟨gb641, 1, none⟩ = some (.slice A1_1 l1_1.length c1_1) := (blk_cell BK641.out 1).trans rfl;have hfz28_0 := blk_frozen BK641.out 0;have hfz28_1 := blk_frozen BK641.out 1;have p649 : 0 ≤ (x7_1 : Int) := of_decide_eq_true qA;have q649 : x7_1 < (l1_0.length : Int) := of_decide_eq_true qA;obtain ⟨ad649, A649_0, c649_0, e649, hx649_0, hl649_0, hi649_0⟩ := at_L1 HR1_0.out x7_1 p649 q649;cases e649
                replace hx649_0 := (HB.out.cell (World.block_lt_of_cell? w _ hx649_0)).trans hx649_0;have HR649_0 := Aside0.mk hi649_0;have HC649_0 := Aside0.mk hl649_0;clear hi649_0 hl649_0;replace p649 := eq_true p649;replace q649 := eq_true q649;go_wp2_with (first | (go_at_call 35; (with_reducible refine (arboristref01_Rising.calls kj10 _ _ (rd_L1 l1_0 x7_1) t650 _ ?side1 ?side2 A27.out).mono ?_); (case side1 => repeat (first | exact (Kd.C_below HR649_0.out HB.out) | (with_reducible refine Kd.C_alloc ?_ _) | (with_reducible refine Kd.C_drewN ?_ _) | (with_reducible refine Kd.C_drew ?_))); (case side2 => exact HC649_0.out); rintro e w' ⟨rfl, ⟨nd, rfl⟩⟩; (try first | exact ⟨rfl, _, World.drewN_drewN _ _ _⟩ | exact ⟨rfl, _, Eq.trans (World.drewN_drewN _ _ _) (congrArg (World.drewN _) (Nat.add_assoc _ _ _))⟩)))
                repeat (go_quiet (first | (go_at_call 35; (with_reducible refine (arboristref01_Rising.calls kj10 _ _ (rd_L1 l1_0 x7_1) t650 _ ?side1 ?side2 A27.out).mono ?_); (case side1 => repeat (first | exact (Kd.C_below HR649_0.out HB.out) | (with_reducible refine Kd.C_alloc ?_ _) | (with_reducible refine Kd.C_drewN ?_ _) | (with_reducible refine Kd.C_drew ?_))); (case side2 => exact HC649_0.out); rintro e w' ⟨rfl, ⟨nd, rfl⟩⟩; (try first | exact ⟨rfl, _, World.drewN_drewN _ _ _⟩ | exact ⟨rfl, _, Eq.trans (World.drewN_drewN _ _ _) (congrArg (World.drewN _) (Nat.add_assoc _ _ _))⟩))); try go_wp2_with (first | (go_at_call 35; (with_reducible refine (arboristref01_Rising.calls kj10 _ _ (rd_L1 l1_0 x7_1) t650 _ ?side1 ?side2 A27.out).mono ?_); (case side1 => repeat (first | exact (Kd.C_below HR649_0.out HB.out) | (with_reducible refine Kd.C_alloc ?_ _) | (with_reducible refine Kd.C_drewN ?_ _) | (with_reducible refine Kd.C_drew ?_))); (case side2 => exact HC649_0.out); rintro e w' ⟨rfl, ⟨nd, rfl⟩⟩; (try first | exact ⟨rfl, _, World.drewN_drewN _ _ _⟩ | exact ⟨rfl, _, Eq.trans (World.drewN_drewN _ _ _) (congrArg (World.drewN _) (Nat.add_assoc _ _ _))⟩))))
                go_meet
                case rel => exact ⟨_, (!t650), (by first | rfl | (simp; done) | (simp [*]; done)), H', ⟨by have := HK1.out; have := HK2.out; have := HJ10.out; first | omega | exact Nat.le_refl _⟩, ⟨by (with_reducible repeat (first | apply Kd.R_alloc | apply Kd.R_drewN | apply Kd.R_drew)); exact HO_6.out⟩, ⟨by (with_reducible repeat (first | refine blk_drewN ?_ _ | refine blk_drew ?_ | refine blk_alloc ?_ _)); exact BK641.out⟩, ⟨by repeat (first | (with_reducible first | exact HB.out | apply below_alloc | apply pw_below_drewN | apply below_drew1 | refine below_set ?_ GE641.out) | exact HB.out)⟩⟩
               ·rw [if_neg c26] at H
                exact absurd H (by simp)
              ·rw [if_neg c25] at H
               exact absurd H (by simp)
            case rest =>
             clear HC23;try clear c1
             try clear c2
             try clear p2
             try clear c3
             try clear c3b0
             try clear c3b1
             try clear c3b2
             try clear c4
             try clear c4b0
             try clear c4b1
             try clear c5
             try clear c5b0
             try clear c5b1
             try clear c6
             try clear p6
             try clear q6
             try clear hx6
             try clear c10
             try clear c10b0
             try clear c12
             try clear c12b0
             try clear c13
             try clear c14
             try clear c14b0
             try clear c15
             try clear c15b0
             try clear c16
             try clear c16b0
             try clear c18
             try clear c18b0
             try clear c20
             try clear c20b0
             try clear c20b1
             try clear c20b2
             try clear c24
             try clear c24b0
             try clear c25
             try clear c25b0
             try clear c26
             try clear c26b0
             try clear hcz17_0
             try clear hcz17_1
             try clear hcz19_0
             try clear hcz19_1
             try clear hcz21_0
             try clear hcz21_1
             try clear hcz22_0
             try clear hcz22_1
             try clear hcz28_0
             try clear hcz28_1
             try clear hcz7_0
             try clear hcz7_1
             try clear hfz17_0
             try clear hfz17_1
             try clear hfz19_0
             try clear hfz19_1
             try clear hfz21_0
             try clear hfz21_1
             try clear hfz22_0
             try clear hfz22_1
             try clear hfz28_0
             try clear hfz28_1
             try clear hfz7_0
             try clear hfz7_1
             try clear hx645_0
             try clear hx646_0
             try clear hx647_0
             try clear hx648_0
             try clear hx649_0
             try clear p2
             try clear p645
             try clear p646
             try clear p647
             try clear p648
             try clear p649
             try clear q645
             try clear q646
             try clear q647
             try clear q648
             try clear q649
             obtain ⟨kq, x85_22, rfl, HA, HJ22, HO_6, BK641, HB⟩ := hcut;cases kq with
             | zero => exact absurd HA.out (by simp [arboristlaw11_hangs.j3])
             | succ kj22 =>
              have H := HA.out;clear HA;simp only [arboristlaw11_hangs.j3] at H
              by_cases c29 : x85_22 = true
              ·subst c29;replace H : (some false) = some r := by rw [if_pos rfl] at H; exact H
               obtain rfl := Option.some.inj H;go_wp2
               repeat (go_quiet (fail); try go_wp2)
               go_ret
               exact ⟨by first | rfl | (simp [errW_none, errW_some] <;> rfl) | (simp [*, errW_none, errW_some] <;> rfl), by repeat (first | (with_reducible first | exact HB.out | apply below_alloc | apply pw_below_drewN | apply below_drew1 | refine below_set ?_ GE641.out) | exact HB.out)⟩
              ·replace c29 := Bool.eq_false_iff.mpr c29;subst c29;replace H : (arboristlaw11_hangs.l2 kj22 l0 (l1_0.length : Int) x6_1 x7_1 0 l1_0 l1_1) = some r := by rw [if_neg (show ¬ (false = true) by decide)] at H; exact H
               have H' := Aside0.mk H;clear H;go_wp2
               repeat (go_quiet (fail); try go_wp2)
               go_loopg [10] kj22 (fun kq v10 w' => ∃ (x6_5 : List Int) (x10_5 : Int), v10 = .int .i64 x10_5 ∧ Aside0 (arboristlaw11_hangs.l2 kq l0 (l1_0.length : Int) x6_5 x7_1 x10_5 l1_0 l1_1 = some r) ∧ Aside0 (kq ≤ kj22) ∧ Aside0 (Kd.R (Kd.int .i64) 3 w' w.heap.size (fun _ => True) v643 x6_5) ∧ Aside0 (w'.heap[gb641]? = some (.cells #[(.slice A1_0 l1_0.length c1_0), (.slice A1_1 l1_1.length c1_1)] 28 (0, 0))) ∧ Aside0 (Below w.heap.size w w'))
               case atStart => exact ⟨(x6_1), (0), (by first | rfl | (simp; done) | (simp [*]; done)), H', ⟨Nat.le_refl _⟩, ⟨by (with_reducible repeat (first | apply Kd.R_alloc | apply Kd.R_drewN | apply Kd.R_drew)); exact HO_6.out⟩, ⟨by (with_reducible repeat (first | refine blk_drewN ?_ _ | refine blk_drew ?_ | refine blk_alloc ?_ _)); exact BK641.out⟩, ⟨by repeat (first | (with_reducible first | exact HB.out | apply below_alloc | apply pw_below_drewN | apply below_drew1 | refine below_set ?_ GE641.out) | exact HB.out)⟩⟩
               case round =>
                clear H';try clear c1
                try clear c2
                try clear p2
                try clear c3
                try clear c3b0
                try clear c3b1
                try clear c3b2
                try clear c4
                try clear c4b0
                try clear c4b1
                try clear c5
                try clear c5b0
                try clear c5b1
                try clear c6
                try clear p6
                try clear q6
                try clear hx6
                try clear c10
                try clear c10b0
                try clear c12
                try clear c12b0
                try clear c13
                try clear c14
                try clear c14b0
                try clear c15
                try clear c15b0
                try clear c16
                try clear c16b0
                try clear c18
                try clear c18b0
                try clear c20
                try clear c20b0
                try clear c20b1
                try clear c20b2
                try clear c24
                try clear c24b0
                try clear c25
                try clear c25b0
                try clear c26
                try clear c26b0
                try clear c29
                try clear hcz17_0
                try clear hcz17_1
                try clear hcz19_0
                try clear hcz19_1
                try clear hcz21_0
                try clear hcz21_1
                try clear hcz22_0
                try clear hcz22_1
                try clear hcz28_0
                try clear hcz28_1
                try clear hcz7_0
                try clear hcz7_1
                try clear hfz17_0
                try clear hfz17_1
                try clear hfz19_0
                try clear hfz19_1
                try clear hfz21_0
                try clear hfz21_1
                try clear hfz22_0
                try clear hfz22_1
                try clear hfz28_0
                try clear hfz28_1
                try clear hfz7_0
                try clear hfz7_1
                try clear hx645_0
                try clear hx646_0
                try clear hx647_0
                try clear hx648_0
                try clear hx649_0
                try clear p2
                try clear p6
                try clear p645
                try clear p646
                try clear p647
                try clear p648
                try clear p649
                try clear q6
                try clear q645
                try clear q646
                try clear q647
                try clear q648
                try clear q649
                obtain ⟨x6_5, x10_5, rfl, HA, HK5, HO_6, BK641, HB⟩ := hrel;cases gk with
                | zero => exact absurd HA.out (by simp [arboristlaw11_hangs.l2])
                | succ k5 =>
                 have H := HA.out;clear HA;simp only [arboristlaw11_hangs.l2] at H
                 by_cases c30 : 0 ≤ x7_1
                 ·rw [if_pos c30] at H
                  have c30b0 : decide (0 ≤ x7_1) = true := decide_eq_true c30;clear c30;by_cases c31 : x7_1 < (l1_0.length : Int)
                  ·rw [if_pos c31] at H
                   have c31b0 : decide (x7_1 < (l1_0.length : Int)) = true := decide_eq_true c31;clear c31;by_cases c32 : x10_5 < ((rd_L1 l1_0 x7_1).length : Int)
                   ·rw [if_pos c32] at H
                    have c32b0 : decide (x10_5 < ((rd_L1 l1_0 x7_1).length : Int)) = true := decide_eq_true c32;clear c32;by_cases c33 : 0 ≤ x10_5
                    ·rw [if_pos c33] at H
                     have c33b0 : decide (0 ≤ x10_5) = true := decide_eq_true c33;clear c33;have HC34 := Aside0.mk H;clear H;have hcz35_0 : wr.cell? ⟨gb641, 0, none⟩ = some (.slice A1_0 l1_0.length c1_0) := (blk_cell BK641.out 0).trans rfl;have hcz35_1 : wr.cell? ⟨gb641, 1, none⟩ = some (.slice A1_1 l1_1.length c1_1) := (blk_cell BK641.out 1).trans rfl;have hfz35_0 := blk_frozen BK641.out 0;have hfz35_1 := blk_frozen BK641.out 1;have p651 : 0 ≤ (x7_1 : Int) := of_decide_eq_true qA;have q651 : x7_1 < (l1_0.length : Int) := of_decide_eq_true qA;obtain ⟨ad651, A651_0, c651_0, e651, hx651_0, hl651_0, hi651_0⟩ := at_L1 HR1_0.out x7_1 p651 q651;cases e651
                     replace hx651_0 := (HB.out.cell (World.block_lt_of_cell? w _ hx651_0)).trans hx651_0;have HR651_0 := Aside0.mk hi651_0;have HC651_0 := Aside0.mk hl651_0;clear hi651_0 hl651_0;replace p651 := eq_true p651;replace q651 := eq_true q651;have p652 : 0 ≤ (x7_1 : Int) := of_decide_eq_true qA;have q652 : x7_1 < (l1_0.length : Int) := of_decide_eq_true qA;obtain ⟨ad652, A652_0, c652_0, e652, hx652_0, hl652_0, hi652_0⟩ := at_L1 HR1_0.out x7_1 p652 q652;obtain rfl : ad651 = ad652 := (by injection e652);replace hx652_0 := (HB.out.cell (World.block_lt_of_cell? w _ hx652_0)).trans hx652_0;have HR652_0 := Aside0.mk hi652_0;have HC652_0 := Aside0.mk hl652_0;clear hi652_0 hl652_0;replace p652 := eq_true p652;replace q652 := eq_true q652;have ea_ := Option.some.inj (hx651_0.symm.trans hx652_0);injection ea_ with ea_ en_ ec_
                     subst ea_;subst ec_;clear en_;have p653 : 0 ≤ (x10_5 : Int) := of_decide_eq_true qA;have q653 : x10_5 < ((rd_L1 l1_0 x7_1).length : Int) := of_decide_eq_true qA;obtain ⟨ad653, e653, hx653_0⟩ := Kd.at_int HR652_0.out x10_5 p653 q653;cases e653
                     replace hx653_0 := (HB.out.cell (World.block_lt_of_cell? w _ hx653_0)).trans hx653_0;replace p653 := eq_true p653;replace q653 := eq_true q653;go_upto_region 21 with (fail)
                     repeat (go_quiet (fail); go_upto_region 21 with (fail))
                     go_cut [111] (fun v111 wc => ∃ (kq : Nat) (x111_33 : Bool), v111 = .bool x111_33 ∧ Aside0 (arboristlaw11_hangs.j5 kq l0 (l1_0.length : Int) x6_5 x7_1 x10_5 (rd (rd_L1 l1_0 x7_1) x10_5) x111_33 l1_0 l1_1 = some r) ∧ Aside0 (kq ≤ k5) ∧ Aside0 (Kd.R (Kd.int .i64) 3 wc w.heap.size (fun _ => True) v643 x6_5) ∧ Aside0 (wc.heap[gb641]? = some (.cells #[(.slice (some ad651) l1_0.length c1_0), (.slice A1_1 l1_1.length c1_1)] 28 (0, 0))) ∧ Aside0 (Below w.heap.size w wc))
                     case first =>
                      have H := HC34.out;clear HC34;by_cases c36 : (rd (rd_L1 l1_0 x7_1) x10_5) < 0
                      ·rw [if_pos c36] at H
                       have c36b0 : decide ((rd (rd_L1 l1_0 x7_1) x10_5) < 0) = true := decide_eq_true c36;clear c36;(first | rw [c36b0] | (simp only [i64_w, i32_w]; rw [c36b0]) | skip);have H' := Aside0.mk H;clear H;go_wp2
                       repeat (go_quiet (fail); try go_wp2)
                       go_meet
                       case rel => exact ⟨_, (true), (by first | rfl | (simp; done) | (simp [*]; done)), H', ⟨by have := HK1.out; have := HK2.out; have := HJ10.out; have := HJ22.out; have := HK5.out; first | omega | exact Nat.le_refl _⟩, ⟨by (with_reducible repeat (first | apply Kd.R_alloc | apply Kd.R_drewN | apply Kd.R_drew)); exact HO_6.out⟩, ⟨by (with_reducible repeat (first | refine blk_drewN ?_ _ | refine blk_drew ?_ | refine blk_alloc ?_ _)); exact BK641.out⟩, ⟨by repeat (first | (with_reducible first | exact HB.out | apply below_alloc | apply pw_below_drewN | apply below_drew1 | refine below_set ?_ GE641.out) | exact HB.out)⟩⟩
                      ·rw [if_neg c36] at H
                       have c36b0 : decide ((rd (rd_L1 l1_0 x7_1) x10_5) < 0) = false := decide_eq_false c36;clear c36;(first | rw [c36b0] | (simp only [i64_w, i32_w]; rw [c36b0]) | skip);have H' := Aside0.mk H;clear H;go_wp2
                       repeat (go_quiet (fail); try go_wp2)
                       go_meet
                       case rel => exact ⟨_, (decide ((rd (rd_L1 l1_0 x7_1) x10_5) ≥ (l0.length : Int))), (by first | rfl | (simp; done) | (simp [*]; done)), H', ⟨by have := HK1.out; have := HK2.out; have := HJ10.out; have := HJ22.out; have := HK5.out; first | omega | exact Nat.le_refl _⟩, ⟨by (with_reducible repeat (first | apply Kd.R_alloc | apply Kd.R_drewN | apply Kd.R_drew)); exact HO_6.out⟩, ⟨by (with_reducible repeat (first | refine blk_drewN ?_ _ | refine blk_drew ?_ | refine blk_alloc ?_ _)); exact BK641.out⟩, ⟨by repeat (first | (with_reducible first | exact HB.out | apply below_alloc | apply pw_below_drewN | apply below_drew1 | refine below_set ?_ GE641.out) | exact HB.out)⟩⟩
                     case rest =>
                      clear HC34;try clear c1
                      try clear c2
                      try clear p2
                      try clear c3
                      try clear c3b0
                      try clear c3b1
                      try clear c3b2
                      try clear c4
                      try clear c4b0
                      try clear c4b1
                      try clear c5
                      try clear c5b0
                      try clear c5b1
                      try clear c6
                      try clear p6
                      try clear q6
                      try clear hx6
                      try clear c10
                      try clear c10b0
                      try clear c12
                      try clear c12b0
                      try clear c13
                      try clear c14
                      try clear c14b0
                      try clear c15
                      try clear c15b0
                      try clear c16
                      try clear c16b0
                      try clear c18
                      try clear c18b0
                      try clear c20
                      try clear c20b0
                      try clear c20b1
                      try clear c20b2
                      try clear c24
                      try clear c24b0
                      try clear c25
                      try clear c25b0
                      try clear c26
                      try clear c26b0
                      try clear c29
                      try clear c30
                      try clear c30b0
                      try clear c31
                      try clear c31b0
                      try clear c32
                      try clear c32b0
                      try clear c33
                      try clear c33b0
                      try clear c36
                      try clear c36b0
                      try clear hcz17_0
                      try clear hcz17_1
                      try clear hcz19_0
                      try clear hcz19_1
                      try clear hcz21_0
                      try clear hcz21_1
                      try clear hcz22_0
                      try clear hcz22_1
                      try clear hcz28_0
                      try clear hcz28_1
                      try clear hcz35_0
                      try clear hcz35_1
                      try clear hcz7_0
                      try clear hcz7_1
                      try clear hfz17_0
                      try clear hfz17_1
                      try clear hfz19_0
                      try clear hfz19_1
                      try clear hfz21_0
                      try clear hfz21_1
                      try clear hfz22_0
                      try clear hfz22_1
                      try clear hfz28_0
                      try clear hfz28_1
                      try clear hfz35_0
                      try clear hfz35_1
                      try clear hfz7_0
                      try clear hfz7_1
                      try clear hx645_0
                      try clear hx646_0
                      try clear hx647_0
                      try clear hx648_0
                      try clear hx649_0
                      try clear hx651_0
                      try clear hx652_0
                      try clear hx653_0
                      try clear p2
                      try clear p6
                      try clear p645
                      try clear p646
                      try clear p647
                      try clear p648
                      try clear p649
                      try clear p651
                      try clear p652
                      try clear p653
                      try clear q6
                      try clear q645
                      try clear q646
                      try clear q647
                      try clear q648
                      try clear q649
                      try clear q651
                      try clear q652
                      try clear q653
                      obtain ⟨kq, x111_33, rfl, HA, HJ33, HO_6, BK641, HB⟩ := hcut;cases kq with
                      | zero => exact absurd HA.out (by simp [arboristlaw11_hangs.j5])
                      | succ kj33 =>
                       have H := HA.out;clear HA;simp only [arboristlaw11_hangs.j5] at H
                       by_cases c37 : x111_33 = true
                       ·subst c37;replace H : (some false) = some r := by rw [if_pos rfl] at H; exact H
                        obtain rfl := Option.some.inj H;go_wp2
                        repeat (go_quiet (fail); try go_wp2)
                        go_ret
                        exact ⟨by first | rfl | (simp [errW_none, errW_some] <;> rfl) | (simp [*, errW_none, errW_some] <;> rfl), by repeat (first | (with_reducible first | exact HB.out | apply below_alloc | apply pw_below_drewN | apply below_drew1 | refine below_set ?_ GE641.out) | exact HB.out)⟩
                       ·replace c37 := Bool.eq_false_iff.mpr c37;subst c37;replace H : (if 0 ≤ x7_1 then (if x7_1 < (l1_1.length : Int) then (if (rd l1_1 x7_1) ≥ 0 then (if 0 ≤ (rd l1_1 x7_1) then (if (rd l1_1 x7_1) < (l1_0.length : Int) then ((arboristref01_In.f kj33 (rd_L1 l1_0 (rd l1_1 x7_1)) (rd (rd_L1 l1_0 x7_1) x10_5)).bind fun t657 => (if t657 = true then (arboristlaw11_hangs.l2 kj33 l0 (l1_0.length : Int) x6_5 x7_1 (wrap64 (x10_5 + 1)) l1_0 l1_1) else (if 0 ≤ (rd (rd_L1 l1_0 x7_1) x10_5) then (if (rd (rd_L1 l1_0 x7_1) x10_5) < (x6_5.length : Int) then (arboristlaw11_hangs.l2 kj33 l0 (l1_0.length : Int) (x6_5.set ((rd (rd_L1 l1_0 x7_1) x10_5) : Int).toNat (wrap64 ((rd x6_5 (rd (rd_L1 l1_0 x7_1) x10_5)) + 1))) x7_1 (wrap64 (x10_5 + 1)) l1_0 l1_1) else (none)) else (none)))) else (none)) else (none)) else (if 0 ≤ (rd (rd_L1 l1_0 x7_1) x10_5) then (if (rd (rd_L1 l1_0 x7_1) x10_5) < (x6_5.length : Int) then (arboristlaw11_hangs.l2 kj33 l0 (l1_0.length : Int) (x6_5.set ((rd (rd_L1 l1_0 x7_1) x10_5) : Int).toNat (wrap64 ((rd x6_5 (rd (rd_L1 l1_0 x7_1) x10_5)) + 1))) x7_1 (wrap64 (x10_5 + 1)) l1_0 l1_1) else (none)) else (none))) else (none)) else (none)) = some r := by rw [if_neg (show ¬ (false = true) by decide)] at H; exact H
                        by_cases c38 : 0 ≤ x7_1
                        ·rw [if_pos c38] at H
                         have c38b0 : decide (0 ≤ x7_1) = true := decide_eq_true c38;clear c38;by_cases c39 : x7_1 < (l1_1.length : Int)
                         ·rw [if_pos c39] at H
                          have c39b0 : decide (x7_1 < (l1_1.length : Int)) = true := decide_eq_true c39;clear c39;by_cases c40 : (rd l1_1 x7_1) ≥ 0
                          ·rw [if_pos c40] at H
                           have c40b0 : decide (0 ≤ (rd l1_1 x7_1)) = true := decide_eq_true c40;clear c40;by_cases c41 : 0 ≤ (rd l1_1 x7_1)
                           ·rw [if_pos c41] at H
                            have c41b0 : decide (0 ≤ (rd l1_1 x7_1)) = true := decide_eq_true c41;clear c41;by_cases c42 : (rd l1_1 x7_1) < (l1_0.length : Int)
                            ·rw [if_pos c42] at H
                             have c42b0 : decide ((rd l1_1 x7_1) < (l1_0.length : Int)) = true := decide_eq_true c42;clear c42;replace H := Option.bind_eq_some_iff.mp H;obtain ⟨t657, A430, H⟩ := H;(try dsimp only at H);have A43 := Aside0.mk A430;clear A430;by_cases c44 : t657 = true
                             ·subst c44;replace H : (arboristlaw11_hangs.l2 kj33 l0 (l1_0.length : Int) x6_5 x7_1 (wrap64 (x10_5 + 1)) l1_0 l1_1) = some r := by rw [if_pos rfl] at H; exact H
                              have H' := Aside0.mk H;clear H;have hcz45_0 : wc.cell? ⟨gb641, 0, none⟩ = some (.slice (some ad651) l1_0.length c1_0) := (blk_cell BK641.out 0).trans rfl;have hcz45_1 : wc.cell? ⟨gb641, 1, none⟩ = some (.slice A1_1 l1_1.length c1_1) := (blk_cell BK641.out 1).trans rfl;have hfz45_0 := blk_frozen BK641.out 0;have hfz45_1 := blk_frozen BK641.out 1;have p654 : 0 ≤ (x7_1 : Int) := of_decide_eq_true qA;have q654 : x7_1 < (l1_1.length : Int) := of_decide_eq_true qA;obtain ⟨ad654, e654, hx654_0⟩ := Kd.at_int HR1_1.out x7_1 p654 q654;cases e654
                              replace hx654_0 := (HB.out.cell (World.block_lt_of_cell? w _ hx654_0)).trans hx654_0;replace p654 := eq_true p654;replace q654 := eq_true q654;have p655 : 0 ≤ (x7_1 : Int) := of_decide_eq_true qA;have q655 : x7_1 < (l1_1.length : Int) := of_decide_eq_true qA;obtain ⟨ad655, e655, hx655_0⟩ := Kd.at_int HR1_1.out x7_1 p655 q655;obtain rfl : ad654 = ad655 := (by injection e655);replace hx655_0 := (HB.out.cell (World.block_lt_of_cell? w _ hx655_0)).trans hx655_0;replace p655 := eq_true p655;replace q655 := eq_true q655;have p656 : 0 ≤ ((rd l1_1 x7_1) : Int) := of_decide_eq_true qA;have q656 : (rd l1_1 x7_1) < (l1_0.length : Int) := of_decide_eq_true qA;obtain ⟨ad656, A656_0, c656_0, e656, hx656_0, hl656_0, hi656_0⟩ := at_L1 HR1_0.out (rd l1_1 x7_1) p656 q656;obtain rfl : ad651 = ad656 := (by injection e656);replace hx656_0 := (HB.out.cell (World.block_lt_of_cell? w _ hx656_0)).trans hx656_0;have HR656_0 := Aside0.mk hi656_0;have HC656_0 := Aside0.mk hl656_0;clear hi656_0 hl656_0;replace p656 := eq_true p656;replace q656 := eq_true q656;go_wp2_with (first | (go_at_call 34; (with_reducible refine (arboristref01_In.calls kj33 _ _ (rd_L1 l1_0 (rd l1_1 x7_1)) (rd (rd_L1 l1_0 x7_1) x10_5) true _ ?side1 ?side2 A43.out).mono ?_); (case side1 => repeat (first | exact (Kd.C_below HR656_0.out HB.out) | (with_reducible refine Kd.C_alloc ?_ _) | (with_reducible refine Kd.C_drewN ?_ _) | (with_reducible refine Kd.C_drew ?_))); (case side2 => exact HC656_0.out); rintro e w' ⟨rfl, ⟨nd, rfl⟩⟩; (try first | exact ⟨rfl, _, World.drewN_drewN _ _ _⟩ | exact ⟨rfl, _, Eq.trans (World.drewN_drewN _ _ _) (congrArg (World.drewN _) (Nat.add_assoc _ _ _))⟩)))
                              repeat (go_quiet (first | (go_at_call 34; (with_reducible refine (arboristref01_In.calls kj33 _ _ (rd_L1 l1_0 (rd l1_1 x7_1)) (rd (rd_L1 l1_0 x7_1) x10_5) true _ ?side1 ?side2 A43.out).mono ?_); (case side1 => repeat (first | exact (Kd.C_below HR656_0.out HB.out) | (with_reducible refine Kd.C_alloc ?_ _) | (with_reducible refine Kd.C_drewN ?_ _) | (with_reducible refine Kd.C_drew ?_))); (case side2 => exact HC656_0.out); rintro e w' ⟨rfl, ⟨nd, rfl⟩⟩; (try first | exact ⟨rfl, _, World.drewN_drewN _ _ _⟩ | exact ⟨rfl, _, Eq.trans (World.drewN_drewN _ _ _) (congrArg (World.drewN _) (Nat.add_assoc _ _ _))⟩))); try go_wp2_with (first | (go_at_call 34; (with_reducible refine (arboristref01_In.calls kj33 _ _ (rd_L1 l1_0 (rd l1_1 x7_1)) (rd (rd_L1 l1_0 x7_1) x10_5) true _ ?side1 ?side2 A43.out).mono ?_); (case side1 => repeat (first | exact (Kd.C_below HR656_0.out HB.out) | (with_reducible refine Kd.C_alloc ?_ _) | (with_reducible refine Kd.C_drewN ?_ _) | (with_reducible refine Kd.C_drew ?_))); (case side2 => exact HC656_0.out); rintro e w' ⟨rfl, ⟨nd, rfl⟩⟩; (try first | exact ⟨rfl, _, World.drewN_drewN _ _ _⟩ | exact ⟨rfl, _, Eq.trans (World.drewN_drewN _ _ _) (congrArg (World.drewN _) (Nat.add_assoc _ _ _))⟩))))
                              go_roundg kj33
                              case measure => have := HK1.out; have := HK2.out; have := HJ10.out; have := HJ22.out; have := HK5.out; have := HJ33.out; omega
                              case rel => exact ⟨(x6_5), (wrap64 (x10_5 + 1)), (by first | rfl | (simp; done) | (simp [*]; done)), H', ⟨by have := HK1.out; have := HK2.out; have := HJ10.out; have := HJ22.out; have := HK5.out; have := HJ33.out; omega⟩, ⟨by (with_reducible repeat (first | apply Kd.R_alloc | apply Kd.R_drewN | apply Kd.R_drew)); exact HO_6.out⟩, ⟨by (with_reducible repeat (first | refine blk_drewN ?_ _ | refine blk_drew ?_ | refine blk_alloc ?_ _)); exact BK641.out⟩, ⟨by repeat (first | (with_reducible first | exact HB.out | apply below_alloc | apply pw_below_drewN | apply below_drew1 | refine below_set ?_ GE641.out) | exact HB.out)⟩⟩
                             ·replace c44 := Bool.eq_false_iff.mpr c44;subst c44;replace H : (if 0 ≤ (rd (rd_L1 l1_0 x7_1) x10_5) then (if (rd (rd_L1 l1_0 x7_1) x10_5) < (x6_5.length : Int) then (arboristlaw11_hangs.l2 kj33 l0 (l1_0.length : Int) (x6_5.set ((rd (rd_L1 l1_0 x7_1) x10_5) : Int).toNat (wrap64 ((rd x6_5 (rd (rd_L1 l1_0 x7_1) x10_5)) + 1))) x7_1 (wrap64 (x10_5 + 1)) l1_0 l1_1) else (none)) else (none)) = some r := by rw [if_neg (show ¬ (false = true) by decide)] at H; exact H
                              by_cases c46 : 0 ≤ (rd (rd_L1 l1_0 x7_1) x10_5)
                              ·rw [if_pos c46] at H
                               have c46b0 : decide (0 ≤ (rd (rd_L1 l1_0 x7_1) x10_5)) = true := decide_eq_true c46;clear c46;by_cases c47 : (rd (rd_L1 l1_0 x7_1) x10_5) < (x6_5.length : Int)
                               ·rw [if_pos c47] at H
                                have c47b0 : decide ((rd (rd_L1 l1_0 x7_1) x10_5) < (x6_5.length : Int)) = true := decide_eq_true c47;clear c47;obtain ⟨y659, hy659⟩ : ∃ y_ : List Int, y_ = (x6_5.set ((rd (rd_L1 l1_0 x7_1) x10_5) : Int).toNat (wrap64 ((rd x6_5 (rd (rd_L1 l1_0 x7_1) x10_5)) + 1))) := ⟨_, rfl⟩;replace H : (arboristlaw11_hangs.l2 kj33 l0 (l1_0.length : Int) y659 x7_1 (wrap64 (x10_5 + 1)) l1_0 l1_1) = some r := by first | (rw [hy659]; with_reducible exact H) | (have H2_ := (Option.bind_some _ _).symm.trans H; rw [hy659]; with_reducible exact H2_) | (have H2_ := (Option.bind_some _ _).symm.trans H; with_reducible exact H2_) | with_reducible exact H | (rw [hy659]; exact H) | exact H
                                have Ny659 := Aside0.mk hy659;clear hy659;have H' := Aside0.mk H;clear H;have hcz49_0 : wc.cell? ⟨gb641, 0, none⟩ = some (.slice (some ad651) l1_0.length c1_0) := (blk_cell BK641.out 0).trans rfl;have hcz49_1 : wc.cell? ⟨gb641, 1, none⟩ = some (.slice A1_1 l1_1.length c1_1) := (blk_cell BK641.out 1).trans rfl;have hfz49_0 := blk_frozen BK641.out 0;have hfz49_1 := blk_frozen BK641.out 1;have p654 : 0 ≤ (x7_1 : Int) := of_decide_eq_true qA;have q654 : x7_1 < (l1_1.length : Int) := of_decide_eq_true qA;obtain ⟨ad654, e654, hx654_0⟩ := Kd.at_int HR1_1.out x7_1 p654 q654;cases e654
                                replace hx654_0 := (HB.out.cell (World.block_lt_of_cell? w _ hx654_0)).trans hx654_0;replace p654 := eq_true p654;replace q654 := eq_true q654;have p655 : 0 ≤ (x7_1 : Int) := of_decide_eq_true qA;have q655 : x7_1 < (l1_1.length : Int) := of_decide_eq_true qA;obtain ⟨ad655, e655, hx655_0⟩ := Kd.at_int HR1_1.out x7_1 p655 q655;obtain rfl : ad654 = ad655 := (by injection e655);replace hx655_0 := (HB.out.cell (World.block_lt_of_cell? w _ hx655_0)).trans hx655_0;replace p655 := eq_true p655;replace q655 := eq_true q655;have p656 : 0 ≤ ((rd l1_1 x7_1) : Int) := of_decide_eq_true qA;have q656 : (rd l1_1 x7_1) < (l1_0.length : Int) := of_decide_eq_true qA;obtain ⟨ad656, A656_0, c656_0, e656, hx656_0, hl656_0, hi656_0⟩ := at_L1 HR1_0.out (rd l1_1 x7_1) p656 q656;obtain rfl : ad651 = ad656 := (by injection e656);replace hx656_0 := (HB.out.cell (World.block_lt_of_cell? w _ hx656_0)).trans hx656_0;have HR656_0 := Aside0.mk hi656_0;have HC656_0 := Aside0.mk hl656_0;clear hi656_0 hl656_0;replace p656 := eq_true p656;replace q656 := eq_true q656;go_wp2_with (fail)
                                go_quiet (first | (go_at_call 34; (with_reducible refine (arboristref01_In.calls kj33 _ _ (rd_L1 l1_0 (rd l1_1 x7_1)) (rd (rd_L1 l1_0 x7_1) x10_5) false _ ?side1 ?side2 A43.out).mono ?_); (case side1 => repeat (first | exact (Kd.C_below HR656_0.out HB.out) | (with_reducible refine Kd.C_alloc ?_ _) | (with_reducible refine Kd.C_drewN ?_ _) | (with_reducible refine Kd.C_drew ?_))); (case side2 => exact HC656_0.out); rintro e w' ⟨rfl, ⟨nd, rfl⟩⟩; (try first | exact ⟨rfl, _, World.drewN_drewN _ _ _⟩ | exact ⟨rfl, _, Eq.trans (World.drewN_drewN _ _ _) (congrArg (World.drewN _) (Nat.add_assoc _ _ _))⟩)))
                                (try (rw [drewN_self wc]; generalize hq_ : World.drewN wc _ = wc; have n0_ := Aside0.mk (Kd.R_at hq_ HO_6.out); have n1_ := Aside0.mk (blk_at hq_ BK641.out); have n2_ := Aside0.mk (below_at hq_ HB.out); clear hq_ HO_6 BK641 HB; have HO_6 := n0_; have BK641 := n1_; have HB := n2_; clear n0_ n1_ n2_));(obtain ⟨Ao50, co50, eo50⟩ := Kd.R_slice HO_6.out; subst eo50; have p658 : 0 ≤ ((rd (rd_L1 l1_0 x7_1) x10_5) : Int) := of_decide_eq_true qA; have q658 : (rd (rd_L1 l1_0 x7_1) x10_5) < (x6_5.length : Int) := of_decide_eq_true qA; obtain ⟨ad658, e658, hx658_0⟩ := Kd.at_int (Kd.R_reads' HO_6.out).2.2 (rd (rd_L1 l1_0 x7_1) x10_5) p658 q658; cases e658; replace p658 := eq_true p658; replace q658 := eq_true q658; have p48 : 0 ≤ ((rd (rd_L1 l1_0 x7_1) x10_5) : Int) := of_decide_eq_true qA; have q48 : ((rd (rd_L1 l1_0 x7_1) x10_5) : Int) < ((x6_5.length : Int) : Int) := of_decide_eq_true qA; obtain ⟨go48, co48, eo48, gb48, gl48, cl48, HG48⟩ := Kd.R_form HO_6.out (by omega); (first | cases eo48 | (injection eo48 with ea_ en_ ec_; (first | subst ea_ | (injection ea_ with ea_; subst ea_)); subst ec_; clear en_)); have GB48 := Aside0.mk gb48; have GG48 := Aside0.mk HG48; clear gb48 gl48 HG48; (first | simp only [add_plain] at hx658_0 | skip); obtain ⟨hx48_0, hf48_0⟩ := Kd.R_celln 0 HO_6.out ((rd (rd_L1 l1_0 x7_1) x10_5) : Int) p48 q48; replace p48 := eq_true p48; replace q48 := eq_true q48; obtain ⟨hy51_, hz51_⟩ := Kd.R_celln 0 HO_6.out ((rd (rd_L1 l1_0 x7_1) x10_5) : Int) (of_decide_eq_true qA) (of_decide_eq_true qA); have HP51 := Kd.R_putg HO_6.out ((rd (rd_L1 l1_0 x7_1) x10_5) : Int) (wrap64 ((rd x6_5 (rd (rd_L1 l1_0 x7_1) x10_5)) + 1)))
                                go_wp2_with (first | ((with_reducible refine gate_store (t := 3) (p := 136) rfl ?_); (try (rw [drewN_self wc]; generalize hq_ : World.drewN wc _ = wc; have n0_ := Aside0.mk (Kd.R_at hq_ HO_6.out); have n1_ := Aside0.mk (blk_at hq_ BK641.out); have n2_ := Aside0.mk (below_at hq_ HB.out); clear hq_ HO_6 BK641 HB; have HO_6 := n0_; have BK641 := n1_; have HB := n2_; clear n0_ n1_ n2_; (try (obtain ⟨hy51_, hz51_⟩ := Kd.R_celln 0 HO_6.out ((rd (rd_L1 l1_0 x7_1) x10_5) : Int) (of_decide_eq_true qA) (of_decide_eq_true qA))); (try (have HP51 := Kd.R_putg HO_6.out ((rd (rd_L1 l1_0 x7_1) x10_5) : Int) (wrap64 ((rd x6_5 (rd (rd_L1 l1_0 x7_1) x10_5)) + 1)))))); refine store_event (t := 3) (p := 136) (v := ?vo_w52) (w1 := (wc.setCell ⟨go48, ((rd (rd_L1 l1_0 x7_1) x10_5) : Int).toNat, none⟩ (.int .i64 (wrap64 ((rd x6_5 (rd (rd_L1 l1_0 x7_1) x10_5)) + 1))))) ?hg ?ho ?hn ?hr ?_; (case ho => rfl); (case hg => rfl); (case hn => rfl); (case hr => first | (go_simp; done) | (go_simp; rfl)); intro w52 hw; have hg : wc.grownBy w52 (some go48) := (by rw [hw]; exact HP51.2); have hp_ : Kd.R (Kd.int .i64) 3 w52 w.heap.size (fun _ => True) (.slice (some ⟨go48, 0, none⟩) x6_5.length co50) y659 := (by rw [hw, Ny659.out]; exact HP51.1); clear HP51; have n0_ := Aside0.mk (hp_); have n1_ := Aside0.mk (blk_grown (g := gb641) (o := .cells #[.slice (some ad651) l1_0.length c1_0, .slice (some ad654) l1_1.length c1_1] 28 (0, 0)) (qK BK641.out) hg (Kd.R_ne HO_6.out BK641.out (by decide))); have n2_ := Aside0.mk ((by rw [hw]; exact below_set (HB.out) GB48.out : Below w.heap.size w w52)); clear HO_6; clear BK641; clear HB; have HO_6 := n0_; have BK641 := n1_; have HB := n2_; clear n0_ n1_ n2_; clear hg hw hp_))
                                go_roundg kj33
                                case measure => have := HK1.out; have := HK2.out; have := HJ10.out; have := HJ22.out; have := HK5.out; have := HJ33.out; omega
                                case rel => exact ⟨(y659), (wrap64 (x10_5 + 1)), (by first | rfl | (simp; done) | (simp [*]; done)), H', ⟨by have := HK1.out; have := HK2.out; have := HJ10.out; have := HJ22.out; have := HK5.out; have := HJ33.out; omega⟩, ⟨by (with_reducible repeat (first | apply Kd.R_alloc | apply Kd.R_drewN | apply Kd.R_drew)); exact HO_6.out⟩, ⟨by (with_reducible repeat (first | refine blk_drewN ?_ _ | refine blk_drew ?_ | refine blk_alloc ?_ _)); exact BK641.out⟩, ⟨by repeat (first | (with_reducible first | exact HB.out | apply below_alloc | apply pw_below_drewN | apply below_drew1 | refine below_set ?_ GE641.out) | exact HB.out)⟩⟩
                               ·rw [if_neg c47] at H
                                exact absurd H (by simp)
                              ·rw [if_neg c46] at H
                               exact absurd H (by simp)
                            ·rw [if_neg c42] at H
                             exact absurd H (by simp)
                           ·rw [if_neg c41] at H
                            exact absurd H (by simp)
                          ·rw [if_neg c40] at H
                           have c40b0 : decide (0 ≤ (rd l1_1 x7_1)) = false := decide_eq_false c40;clear c40;by_cases c53 : 0 ≤ (rd (rd_L1 l1_0 x7_1) x10_5)
                           ·rw [if_pos c53] at H
                            have c53b0 : decide (0 ≤ (rd (rd_L1 l1_0 x7_1) x10_5)) = true := decide_eq_true c53;clear c53;by_cases c54 : (rd (rd_L1 l1_0 x7_1) x10_5) < (x6_5.length : Int)
                            ·rw [if_pos c54] at H
                             have c54b0 : decide ((rd (rd_L1 l1_0 x7_1) x10_5) < (x6_5.length : Int)) = true := decide_eq_true c54;clear c54;obtain ⟨y661, hy661⟩ : ∃ y_ : List Int, y_ = (x6_5.set ((rd (rd_L1 l1_0 x7_1) x10_5) : Int).toNat (wrap64 ((rd x6_5 (rd (rd_L1 l1_0 x7_1) x10_5)) + 1))) := ⟨_, rfl⟩;replace H : (arboristlaw11_hangs.l2 kj33 l0 (l1_0.length : Int) y661 x7_1 (wrap64 (x10_5 + 1)) l1_0 l1_1) = some r := by first | (rw [hy661]; with_reducible exact H) | (have H2_ := (Option.bind_some _ _).symm.trans H; rw [hy661]; with_reducible exact H2_) | (have H2_ := (Option.bind_some _ _).symm.trans H; with_reducible exact H2_) | with_reducible exact H | (rw [hy661]; exact H) | exact H
                             have Ny661 := Aside0.mk hy661;clear hy661;have H' := Aside0.mk H;clear H;have hcz56_0 : wc.cell? ⟨gb641, 0, none⟩ = some (.slice (some ad651) l1_0.length c1_0) := (blk_cell BK641.out 0).trans rfl;have hcz56_1 : wc.cell? ⟨gb641, 1, none⟩ = some (.slice A1_1 l1_1.length c1_1) := (blk_cell BK641.out 1).trans rfl;have hfz56_0 := blk_frozen BK641.out 0;have hfz56_1 := blk_frozen BK641.out 1;have p654 : 0 ≤ (x7_1 : Int) := of_decide_eq_true qA;have q654 : x7_1 < (l1_1.length : Int) := of_decide_eq_true qA;obtain ⟨ad654, e654, hx654_0⟩ := Kd.at_int HR1_1.out x7_1 p654 q654;cases e654
                             replace hx654_0 := (HB.out.cell (World.block_lt_of_cell? w _ hx654_0)).trans hx654_0;replace p654 := eq_true p654;replace q654 := eq_true q654;obtain ⟨Ao57, co57, eo57⟩ := Kd.R_slice HO_6.out;subst eo57;have p660 : 0 ≤ ((rd (rd_L1 l1_0 x7_1) x10_5) : Int) := of_decide_eq_true qA;have q660 : (rd (rd_L1 l1_0 x7_1) x10_5) < (x6_5.length : Int) := of_decide_eq_true qA;obtain ⟨ad660, e660, hx660_0⟩ := Kd.at_int (Kd.R_reads' HO_6.out).2.2 (rd (rd_L1 l1_0 x7_1) x10_5) p660 q660;cases e660
                             replace p660 := eq_true p660;replace q660 := eq_true q660;have p55 : 0 ≤ ((rd (rd_L1 l1_0 x7_1) x10_5) : Int) := of_decide_eq_true qA;have q55 : ((rd (rd_L1 l1_0 x7_1) x10_5) : Int) < ((x6_5.length : Int) : Int) := of_decide_eq_true qA;obtain ⟨go55, co55, eo55, gb55, gl55, cl55, HG55⟩ := Kd.R_form HO_6.out (by omega);(first | cases eo55 | (injection eo55 with ea_ en_ ec_; (first | subst ea_ | (injection ea_ with ea_; subst ea_)); subst ec_; clear en_));have GB55 := Aside0.mk gb55;have GG55 := Aside0.mk HG55;clear gb55 gl55 HG55;(first | simp only [add_plain] at hx660_0 | skip);obtain ⟨hx55_0, hf55_0⟩ := Kd.R_celln 0 HO_6.out ((rd (rd_L1 l1_0 x7_1) x10_5) : Int) p55 q55;replace p55 := eq_true p55;replace q55 := eq_true q55;have HP58 := Kd.R_putg HO_6.out ((rd (rd_L1 l1_0 x7_1) x10_5) : Int) (wrap64 ((rd x6_5 (rd (rd_L1 l1_0 x7_1) x10_5)) + 1));go_wp2_with (first | ((with_reducible refine gate_store (t := 3) (p := 136) rfl ?_); (try (rw [drewN_self wc]; generalize hq_ : World.drewN wc _ = wc; have n0_ := Aside0.mk (Kd.R_at hq_ HO_6.out); have n1_ := Aside0.mk (blk_at hq_ BK641.out); have n2_ := Aside0.mk (below_at hq_ HB.out); clear hq_ HO_6 BK641 HB; have HO_6 := n0_; have BK641 := n1_; have HB := n2_; clear n0_ n1_ n2_; (try (have HP58 := Kd.R_putg HO_6.out ((rd (rd_L1 l1_0 x7_1) x10_5) : Int) (wrap64 ((rd x6_5 (rd (rd_L1 l1_0 x7_1) x10_5)) + 1)))))); refine store_event (t := 3) (p := 136) (v := ?vo_w59) (w1 := (wc.setCell ⟨go55, ((rd (rd_L1 l1_0 x7_1) x10_5) : Int).toNat, none⟩ (.int .i64 (wrap64 ((rd x6_5 (rd (rd_L1 l1_0 x7_1) x10_5)) + 1))))) ?hg ?ho ?hn ?hr ?_; (case ho => rfl); (case hg => rfl); (case hn => rfl); (case hr => first | (go_simp; done) | (go_simp; rfl)); intro w59 hw; have hg : wc.grownBy w59 (some go55) := (by rw [hw]; exact HP58.2); have hp_ : Kd.R (Kd.int .i64) 3 w59 w.heap.size (fun _ => True) (.slice (some ⟨go55, 0, none⟩) x6_5.length co57) y661 := (by rw [hw, Ny661.out]; exact HP58.1); clear HP58; have n0_ := Aside0.mk (hp_); have n1_ := Aside0.mk (blk_grown (g := gb641) (o := .cells #[.slice (some ad651) l1_0.length c1_0, .slice (some ad654) l1_1.length c1_1] 28 (0, 0)) (qK BK641.out) hg (Kd.R_ne HO_6.out BK641.out (by decide))); have n2_ := Aside0.mk ((by rw [hw]; exact below_set (HB.out) GB55.out : Below w.heap.size w w59)); clear HO_6; clear BK641; clear HB; have HO_6 := n0_; have BK641 := n1_; have HB := n2_; clear n0_ n1_ n2_; clear hg hw hp_))
                             repeat (go_quiet (first | ((with_reducible refine gate_store (t := 3) (p := 136) rfl ?_); (try (rw [drewN_self wc]; generalize hq_ : World.drewN wc _ = wc; have n0_ := Aside0.mk (Kd.R_at hq_ HO_6.out); have n1_ := Aside0.mk (blk_at hq_ BK641.out); have n2_ := Aside0.mk (below_at hq_ HB.out); clear hq_ HO_6 BK641 HB; have HO_6 := n0_; have BK641 := n1_; have HB := n2_; clear n0_ n1_ n2_; (try (have HP58 := Kd.R_putg HO_6.out ((rd (rd_L1 l1_0 x7_1) x10_5) : Int) (wrap64 ((rd x6_5 (rd (rd_L1 l1_0 x7_1) x10_5)) + 1)))))); refine store_event (t := 3) (p := 136) (v := ?vo_w59) (w1 := (wc.setCell ⟨go55, ((rd (rd_L1 l1_0 x7_1) x10_5) : Int).toNat, none⟩ (.int .i64 (wrap64 ((rd x6_5 (rd (rd_L1 l1_0 x7_1) x10_5)) + 1))))) ?hg ?ho ?hn ?hr ?_; (case ho => rfl); (case hg => rfl); (case hn => rfl); (case hr => first | (go_simp; done) | (go_simp; rfl)); intro w59 hw; have hg : wc.grownBy w59 (some go55) := (by rw [hw]; exact HP58.2); have hp_ : Kd.R (Kd.int .i64) 3 w59 w.heap.size (fun _ => True) (.slice (some ⟨go55, 0, none⟩) x6_5.length co57) y661 := (by rw [hw, Ny661.out]; exact HP58.1); clear HP58; have n0_ := Aside0.mk (hp_); have n1_ := Aside0.mk (blk_grown (g := gb641) (o := .cells #[.slice (some ad651) l1_0.length c1_0, .slice (some ad654) l1_1.length c1_1] 28 (0, 0)) (qK BK641.out) hg (Kd.R_ne HO_6.out BK641.out (by decide))); have n2_ := Aside0.mk ((by rw [hw]; exact below_set (HB.out) GB55.out : Below w.heap.size w w59)); clear HO_6; clear BK641; clear HB; have HO_6 := n0_; have BK641 := n1_; have HB := n2_; clear n0_ n1_ n2_; clear hg hw hp_)); try go_wp2_with (first | ((with_reducible refine gate_store (t := 3) (p := 136) rfl ?_); (try (rw [drewN_self wc]; generalize hq_ : World.drewN wc _ = wc; have n0_ := Aside0.mk (Kd.R_at hq_ HO_6.out); have n1_ := Aside0.mk (blk_at hq_ BK641.out); have n2_ := Aside0.mk (below_at hq_ HB.out); clear hq_ HO_6 BK641 HB; have HO_6 := n0_; have BK641 := n1_; have HB := n2_; clear n0_ n1_ n2_; (try (have HP58 := Kd.R_putg HO_6.out ((rd (rd_L1 l1_0 x7_1) x10_5) : Int) (wrap64 ((rd x6_5 (rd (rd_L1 l1_0 x7_1) x10_5)) + 1)))))); refine store_event (t := 3) (p := 136) (v := ?vo_w59) (w1 := (wc.setCell ⟨go55, ((rd (rd_L1 l1_0 x7_1) x10_5) : Int).toNat, none⟩ (.int .i64 (wrap64 ((rd x6_5 (rd (rd_L1 l1_0 x7_1) x10_5)) + 1))))) ?hg ?ho ?hn ?hr ?_; (case ho => rfl); (case hg => rfl); (case hn => rfl); (case hr => first | (go_simp; done) | (go_simp; rfl)); intro w59 hw; have hg : wc.grownBy w59 (some go55) := (by rw [hw]; exact HP58.2); have hp_ : Kd.R (Kd.int .i64) 3 w59 w.heap.size (fun _ => True) (.slice (some ⟨go55, 0, none⟩) x6_5.length co57) y661 := (by rw [hw, Ny661.out]; exact HP58.1); clear HP58; have n0_ := Aside0.mk (hp_); have n1_ := Aside0.mk (blk_grown (g := gb641) (o := .cells #[.slice (some ad651) l1_0.length c1_0, .slice (some ad654) l1_1.length c1_1] 28 (0, 0)) (qK BK641.out) hg (Kd.R_ne HO_6.out BK641.out (by decide))); have n2_ := Aside0.mk ((by rw [hw]; exact below_set (HB.out) GB55.out : Below w.heap.size w w59)); clear HO_6; clear BK641; clear HB; have HO_6 := n0_; have BK641 := n1_; have HB := n2_; clear n0_ n1_ n2_; clear hg hw hp_)))
                             go_roundg kj33
                             case measure => have := HK1.out; have := HK2.out; have := HJ10.out; have := HJ22.out; have := HK5.out; have := HJ33.out; omega
                             case rel => exact ⟨(y661), (wrap64 (x10_5 + 1)), (by first | rfl | (simp; done) | (simp [*]; done)), H', ⟨by have := HK1.out; have := HK2.out; have := HJ10.out; have := HJ22.out; have := HK5.out; have := HJ33.out; omega⟩, ⟨by (with_reducible repeat (first | apply Kd.R_alloc | apply Kd.R_drewN | apply Kd.R_drew)); exact HO_6.out⟩, ⟨by (with_reducible repeat (first | refine blk_drewN ?_ _ | refine blk_drew ?_ | refine blk_alloc ?_ _)); exact BK641.out⟩, ⟨by repeat (first | (with_reducible first | exact HB.out | apply below_alloc | apply pw_below_drewN | apply below_drew1 | refine below_set ?_ GE641.out) | exact HB.out)⟩⟩
                            ·rw [if_neg c54] at H
                             exact absurd H (by simp)
                           ·rw [if_neg c53] at H
                            exact absurd H (by simp)
                         ·rw [if_neg c39] at H
                          exact absurd H (by simp)
                        ·rw [if_neg c38] at H
                         exact absurd H (by simp)
                    ·rw [if_neg c33] at H
                     exact absurd H (by simp)
                   ·rw [if_neg c32] at H
                    have c32b0 : decide (x10_5 < ((rd_L1 l1_0 x7_1).length : Int)) = false := decide_eq_false c32;clear c32;have H' := Aside0.mk H;clear H;have hcz60_0 : wr.cell? ⟨gb641, 0, none⟩ = some (.slice A1_0 l1_0.length c1_0) := (blk_cell BK641.out 0).trans rfl;have hcz60_1 : wr.cell? ⟨gb641, 1, none⟩ = some (.slice A1_1 l1_1.length c1_1) := (blk_cell BK641.out 1).trans rfl;have hfz60_0 := blk_frozen BK641.out 0;have hfz60_1 := blk_frozen BK641.out 1;have p651 : 0 ≤ (x7_1 : Int) := of_decide_eq_true qA;have q651 : x7_1 < (l1_0.length : Int) := of_decide_eq_true qA;obtain ⟨ad651, A651_0, c651_0, e651, hx651_0, hl651_0, hi651_0⟩ := at_L1 HR1_0.out x7_1 p651 q651;cases e651
                    replace hx651_0 := (HB.out.cell (World.block_lt_of_cell? w _ hx651_0)).trans hx651_0;have HR651_0 := Aside0.mk hi651_0;have HC651_0 := Aside0.mk hl651_0;clear hi651_0 hl651_0;replace p651 := eq_true p651;replace q651 := eq_true q651;go_wp2
                    repeat (go_quiet (fail); try go_wp2)
                    go_roundg k5
                    case measure => have := HK1.out; have := HK2.out; have := HJ10.out; have := HJ22.out; have := HK5.out; omega
                    case rel => exact ⟨(x6_5), (wrap64 (x7_1 + 1)), (by first | rfl | (simp; done) | (simp [*]; done)), H', ⟨by have := HK1.out; have := HK2.out; have := HJ10.out; have := HJ22.out; have := HK5.out; omega⟩, ⟨by (with_reducible repeat (first | apply Kd.R_alloc | apply Kd.R_drewN | apply Kd.R_drew)); exact HO_6.out⟩, ⟨by (with_reducible repeat (first | refine blk_drewN ?_ _ | refine blk_drew ?_ | refine blk_alloc ?_ _)); exact BK641.out⟩, ⟨by repeat (first | (with_reducible first | exact HB.out | apply below_alloc | apply pw_below_drewN | apply below_drew1 | refine below_set ?_ GE641.out) | exact HB.out)⟩⟩
                  ·rw [if_neg c31] at H
                   exact absurd H (by simp)
                 ·rw [if_neg c30] at H
                  exact absurd H (by simp)
      ·rw [if_neg c10] at H
       have c10b0 : decide (x7_1 < (l1_0.length : Int)) = false := decide_eq_false c10;clear c10;have H' := Aside0.mk H;clear H;go_wp2
       repeat (go_quiet (fail); try go_wp2)
       go_loopg [13] k1 (fun kq v13 w' => ∃ (x13_2 : Int), v13 = .int .i64 x13_2 ∧ Aside0 (arboristlaw11_hangs.l3 kq l0 (l1_0.length : Int) x6_1 x13_2 l1_0 l1_1 = some r) ∧ Aside0 (kq ≤ k1) ∧ Aside0 (Kd.R (Kd.int .i64) 3 w' w.heap.size (fun _ => True) v643 x6_1) ∧ Aside0 (w'.heap[gb641]? = some (.cells #[(.slice A1_0 l1_0.length c1_0), (.slice A1_1 l1_1.length c1_1)] 28 (0, 0))) ∧ Aside0 (Below w.heap.size w w'))
       case atStart => exact ⟨(0), (by first | rfl | (simp; done) | (simp [*]; done)), H', ⟨Nat.le_refl _⟩, ⟨by (with_reducible repeat (first | apply Kd.R_alloc | apply Kd.R_drewN | apply Kd.R_drew)); exact HO_6.out⟩, ⟨by (with_reducible repeat (first | refine blk_drewN ?_ _ | refine blk_drew ?_ | refine blk_alloc ?_ _)); exact BK641.out⟩, ⟨by repeat (first | (with_reducible first | exact HB.out | apply below_alloc | apply pw_below_drewN | apply below_drew1 | refine below_set ?_ GE641.out) | exact HB.out)⟩⟩
       case round =>
        clear H';try clear c1
        try clear c2
        try clear p2
        try clear c3
        try clear c3b0
        try clear c3b1
        try clear c3b2
        try clear c4
        try clear c4b0
        try clear c4b1
        try clear p4
        try clear q4
        try clear hx4
        try clear hf4
        try clear c5
        try clear c5b0
        try clear c5b1
        try clear p5
        try clear q5
        try clear hx5
        try clear hf5
        try clear c6
        try clear p6
        try clear q6
        try clear hx6
        try clear c10
        try clear c10b0
        try clear c12
        try clear c12b0
        try clear c13
        try clear c14
        try clear c14b0
        try clear c15
        try clear c15b0
        try clear c16
        try clear c16b0
        try clear c18
        try clear c18b0
        try clear c20
        try clear c20b0
        try clear c20b1
        try clear c20b2
        try clear c24
        try clear c24b0
        try clear c25
        try clear c25b0
        try clear c26
        try clear c26b0
        try clear c29
        try clear c30
        try clear c30b0
        try clear c31
        try clear c31b0
        try clear c32
        try clear c32b0
        try clear c33
        try clear c33b0
        try clear c36
        try clear c36b0
        try clear c37
        try clear c38
        try clear c38b0
        try clear c39
        try clear c39b0
        try clear c40
        try clear c40b0
        try clear c41
        try clear c41b0
        try clear c42
        try clear c42b0
        try clear c44
        try clear c46
        try clear c46b0
        try clear c47
        try clear c47b0
        try clear p48
        try clear q48
        try clear hx48
        try clear hf48
        try clear c53
        try clear c53b0
        try clear c54
        try clear c54b0
        try clear p55
        try clear q55
        try clear hx55
        try clear hf55
        try clear hcz17_0
        try clear hcz17_1
        try clear hcz19_0
        try clear hcz19_1
        try clear hcz21_0
        try clear hcz21_1
        try clear hcz22_0
        try clear hcz22_1
        try clear hcz28_0
        try clear hcz28_1
        try clear hcz35_0
        try clear hcz35_1
        try clear hcz45_0
        try clear hcz45_1
        try clear hcz49_0
        try clear hcz49_1
        try clear hcz56_0
        try clear hcz56_1
        try clear hcz60_0
        try clear hcz60_1
        try clear hcz7_0
        try clear hcz7_1
        try clear hfz17_0
        try clear hfz17_1
        try clear hfz19_0
        try clear hfz19_1
        try clear hfz21_0
        try clear hfz21_1
        try clear hfz22_0
        try clear hfz22_1
        try clear hfz28_0
        try clear hfz28_1
        try clear hfz35_0
        try clear hfz35_1
        try clear hfz45_0
        try clear hfz45_1
        try clear hfz49_0
        try clear hfz49_1
        try clear hfz56_0
        try clear hfz56_1
        try clear hfz60_0
        try clear hfz60_1
        try clear hfz7_0
        try clear hfz7_1
        try clear hx48_0
        try clear hx55_0
        try clear hx645_0
        try clear hx646_0
        try clear hx647_0
        try clear hx648_0
        try clear hx649_0
        try clear hx651_0
        try clear hx652_0
        try clear hx653_0
        try clear hx654_0
        try clear hx655_0
        try clear hx656_0
        try clear hx658_0
        try clear hx660_0
        try clear p2
        try clear p48
        try clear p55
        try clear p6
        try clear p645
        try clear p646
        try clear p647
        try clear p648
        try clear p649
        try clear p651
        try clear p652
        try clear p653
        try clear p654
        try clear p655
        try clear p656
        try clear p658
        try clear p660
        try clear q48
        try clear q55
        try clear q6
        try clear q645
        try clear q646
        try clear q647
        try clear q648
        try clear q649
        try clear q651
        try clear q652
        try clear q653
        try clear q654
        try clear q655
        try clear q656
        try clear q658
        try clear q660
        obtain ⟨x13_2, rfl, HA, HK2, HO_6, BK641, HB⟩ := hrel;cases gk with
        | zero => exact absurd HA.out (by simp [arboristlaw11_hangs.l3])
        | succ k2 =>
         have H := HA.out;clear HA;simp only [arboristlaw11_hangs.l3] at H
         by_cases c61 : x13_2 < (l0.length : Int)
         ·rw [if_pos c61] at H
          have c61b0 : decide (x13_2 < (l0.length : Int)) = true := decide_eq_true c61;clear c61;by_cases c62 : 0 ≤ x13_2
          ·rw [if_pos c62] at H
           have c62b0 : decide (0 ≤ x13_2) = true := decide_eq_true c62;clear c62;by_cases c63 : x13_2 < (x6_1.length : Int)
           ·rw [if_pos c63] at H
            have c63b0 : decide (x13_2 < (x6_1.length : Int)) = true := decide_eq_true c63;clear c63;by_cases c64 : (rd x6_1 x13_2) = 1
            ·rw [if_pos c64] at H
             have c64b0 : ((rd x6_1 x13_2) == 1) = true := beq_iff_eq.mpr c64;have c64b1 : ((rd x6_1 x13_2) != 1) = false := bne_eq_false_iff_eq.mpr c64;clear c64;have H' := Aside0.mk H;clear H;obtain ⟨Ao65, co65, eo65⟩ := Kd.R_slice HO_6.out;subst eo65;have p662 : 0 ≤ (x13_2 : Int) := of_decide_eq_true qA;have q662 : x13_2 < (x6_1.length : Int) := of_decide_eq_true qA;obtain ⟨ad662, e662, hx662_0⟩ := Kd.at_int (Kd.R_reads' HO_6.out).2.2 x13_2 p662 q662;cases e662
             replace p662 := eq_true p662;replace q662 := eq_true q662;go_wp2
             repeat (go_quiet (fail); try go_wp2)
             go_loopg [14] k2 (fun kq v14 w' => ∃ (x14_3 : Int), v14 = .int .i64 x14_3 ∧ Aside0 (arboristlaw11_hangs.l4 kq l0 (l1_0.length : Int) x6_1 x13_2 x14_3 l1_0 l1_1 = some r) ∧ Aside0 (kq ≤ k2) ∧ Aside0 (Kd.R (Kd.int .i64) 3 w' w.heap.size (fun _ => True) (.slice (some ad662) x6_1.length co65) x6_1) ∧ Aside0 (w'.heap[gb641]? = some (.cells #[(.slice A1_0 l1_0.length c1_0), (.slice A1_1 l1_1.length c1_1)] 28 (0, 0))) ∧ Aside0 (Below w.heap.size w w'))
             case atStart => exact ⟨(0), (by first | rfl | (simp; done) | (simp [*]; done)), H', ⟨Nat.le_refl _⟩, ⟨by (with_reducible repeat (first | apply Kd.R_alloc | apply Kd.R_drewN | apply Kd.R_drew)); exact HO_6.out⟩, ⟨by (with_reducible repeat (first | refine blk_drewN ?_ _ | refine blk_drew ?_ | refine blk_alloc ?_ _)); exact BK641.out⟩, ⟨by repeat (first | (with_reducible first | exact HB.out | apply below_alloc | apply pw_below_drewN | apply below_drew1 | refine below_set ?_ GE641.out) | exact HB.out)⟩⟩
             case round =>
              clear H';try clear c1
              try clear c2
              try clear p2
              try clear c3
              try clear c3b0
              try clear c3b1
              try clear c3b2
              try clear c4
              try clear c4b0
              try clear c4b1
              try clear p4
              try clear q4
              try clear hx4
              try clear hf4
              try clear c5
              try clear c5b0
              try clear c5b1
              try clear p5
              try clear q5
              try clear hx5
              try clear hf5
              try clear c6
              try clear p6
              try clear q6
              try clear hx6
              try clear c10
              try clear c10b0
              try clear c12
              try clear c12b0
              try clear c13
              try clear c14
              try clear c14b0
              try clear c15
              try clear c15b0
              try clear c16
              try clear c16b0
              try clear c18
              try clear c18b0
              try clear c20
              try clear c20b0
              try clear c20b1
              try clear c20b2
              try clear c24
              try clear c24b0
              try clear c25
              try clear c25b0
              try clear c26
              try clear c26b0
              try clear c29
              try clear c30
              try clear c30b0
              try clear c31
              try clear c31b0
              try clear c32
              try clear c32b0
              try clear c33
              try clear c33b0
              try clear c36
              try clear c36b0
              try clear c37
              try clear c38
              try clear c38b0
              try clear c39
              try clear c39b0
              try clear c40
              try clear c40b0
              try clear c41
              try clear c41b0
              try clear c42
              try clear c42b0
              try clear c44
              try clear c46
              try clear c46b0
              try clear c47
              try clear c47b0
              try clear p48
              try clear q48
              try clear hx48
              try clear hf48
              try clear c53
              try clear c53b0
              try clear c54
              try clear c54b0
              try clear p55
              try clear q55
              try clear hx55
              try clear hf55
              try clear c61
              try clear c61b0
              try clear c62
              try clear c62b0
              try clear c63
              try clear c63b0
              try clear c64
              try clear c64b0
              try clear c64b1
              try clear p64
              try clear q64
              try clear hx64
              try clear c65
              try clear p65
              try clear q65
              try clear hx65
              try clear hcz17_0
              try clear hcz17_1
              try clear hcz19_0
              try clear hcz19_1
              try clear hcz21_0
              try clear hcz21_1
              try clear hcz22_0
              try clear hcz22_1
              try clear hcz28_0
              try clear hcz28_1
              try clear hcz35_0
              try clear hcz35_1
              try clear hcz45_0
              try clear hcz45_1
              try clear hcz49_0
              try clear hcz49_1
              try clear hcz56_0
              try clear hcz56_1
              try clear hcz60_0
              try clear hcz60_1
              try clear hcz7_0
              try clear hcz7_1
              try clear hfz17_0
              try clear hfz17_1
              try clear hfz19_0
              try clear hfz19_1
              try clear hfz21_0
              try clear hfz21_1
              try clear hfz22_0
              try clear hfz22_1
              try clear hfz28_0
              try clear hfz28_1
              try clear hfz35_0
              try clear hfz35_1
              try clear hfz45_0
              try clear hfz45_1
              try clear hfz49_0
              try clear hfz49_1
              try clear hfz56_0
              try clear hfz56_1
              try clear hfz60_0
              try clear hfz60_1
              try clear hfz7_0
              try clear hfz7_1
              try clear hx48_0
              try clear hx55_0
              try clear hx645_0
              try clear hx646_0
              try clear hx647_0
              try clear hx648_0
              try clear hx649_0
              try clear hx651_0
              try clear hx652_0
              try clear hx653_0
              try clear hx654_0
              try clear hx655_0
              try clear hx656_0
              try clear hx658_0
              try clear hx660_0
              try clear hx662_0
              try clear p2
              try clear p4
              try clear p48
              try clear p5
              try clear p55
              try clear p6
              try clear p645
              try clear p646
              try clear p647
              try clear p648
              try clear p649
              try clear p651
              try clear p652
              try clear p653
              try clear p654
              try clear p655
              try clear p656
              try clear p658
              try clear p660
              try clear p662
              try clear q4
              try clear q48
              try clear q5
              try clear q55
              try clear q6
              try clear q645
              try clear q646
              try clear q647
              try clear q648
              try clear q649
              try clear q651
              try clear q652
              try clear q653
              try clear q654
              try clear q655
              try clear q656
              try clear q658
              try clear q660
              try clear q662
              obtain ⟨x14_3, rfl, HA, HK3, HO_6, BK641, HB⟩ := hrel;cases gk with
              | zero => exact absurd HA.out (by simp [arboristlaw11_hangs.l4])
              | succ k3 =>
               have H := HA.out;clear HA;simp only [arboristlaw11_hangs.l4] at H
               by_cases c66 : x14_3 < x13_2
               ·rw [if_pos c66] at H
                have c66b0 : decide (x14_3 < x13_2) = true := decide_eq_true c66;clear c66;by_cases c67 : 0 ≤ x13_2
                ·rw [if_pos c67] at H
                 have c67b0 : decide (0 ≤ x13_2) = true := decide_eq_true c67;clear c67;by_cases c68 : x13_2 < (l0.length : Int)
                 ·rw [if_pos c68] at H
                  have c68b0 : decide (x13_2 < (l0.length : Int)) = true := decide_eq_true c68;clear c68;by_cases c69 : 0 ≤ x14_3
                  ·rw [if_pos c69] at H
                   have c69b0 : decide (0 ≤ x14_3) = true := decide_eq_true c69;clear c69;by_cases c70 : x14_3 < ((rd_L8 l0 x13_2).length : Int)
                   ·rw [if_pos c70] at H
                    have c70b0 : decide (x14_3 < ((rd_L8 l0 x13_2).length : Int)) = true := decide_eq_true c70;clear c70;have H' := Aside0.mk H;clear H;have p663 : 0 ≤ (x13_2 : Int) := of_decide_eq_true qA;have q663 : x13_2 < (l0.length : Int) := of_decide_eq_true qA;obtain ⟨ad663, A663_0, c663_0, e663, hx663_0, hl663_0, hi663_0⟩ := at_L8 HR0.out x13_2 p663 q663;cases e663
                    replace hx663_0 := (HB.out.cell (World.block_lt_of_cell? w _ hx663_0)).trans hx663_0;have HR663_0 := Aside0.mk hi663_0;have HC663_0 := Aside0.mk hl663_0;clear hi663_0 hl663_0;replace p663 := eq_true p663;replace q663 := eq_true q663;have p664 : 0 ≤ (x14_3 : Int) := of_decide_eq_true qA;have q664 : x14_3 < ((rd_L8 l0 x13_2).length : Int) := of_decide_eq_true qA;obtain ⟨ad664, e664, hx664_0⟩ := Kd.at_bool HR663_0.out x14_3 p664 q664;cases e664
                    replace hx664_0 := (HB.out.cell (World.block_lt_of_cell? w _ hx664_0)).trans hx664_0;replace p664 := eq_true p664;replace q664 := eq_true q664;go_wp2
                    repeat (go_quiet (fail); try go_wp2)
                    go_loopg [15, 16] k3 (fun kq v15 v16 w' => ∃ (x15_4 : Bool) (x16_4 : Int), v15 = .bool x15_4 ∧ v16 = .int .i64 x16_4 ∧ Aside0 (arboristlaw11_hangs.l5 kq l0 (l1_0.length : Int) x6_1 x13_2 x14_3 x15_4 x16_4 l1_0 l1_1 = some r) ∧ Aside0 (kq ≤ k3) ∧ Aside0 (Kd.R (Kd.int .i64) 3 w' w.heap.size (fun _ => True) (.slice (some ad662) x6_1.length co65) x6_1) ∧ Aside0 (w'.heap[gb641]? = some (.cells #[(.slice A1_0 l1_0.length c1_0), (.slice A1_1 l1_1.length c1_1)] 28 (0, 0))) ∧ Aside0 (Below w.heap.size w w'))
                    case atStart => exact ⟨(!(rdOf false (rd_L8 l0 x13_2) x14_3)), (0), (by first | rfl | (simp; done) | (simp [*]; done)), (by first | rfl | (simp; done) | (simp [*]; done)), H', ⟨Nat.le_refl _⟩, ⟨by (with_reducible repeat (first | apply Kd.R_alloc | apply Kd.R_drewN | apply Kd.R_drew)); exact HO_6.out⟩, ⟨by (with_reducible repeat (first | refine blk_drewN ?_ _ | refine blk_drew ?_ | refine blk_alloc ?_ _)); exact BK641.out⟩, ⟨by repeat (first | (with_reducible first | exact HB.out | apply below_alloc | apply pw_below_drewN | apply below_drew1 | refine below_set ?_ GE641.out) | exact HB.out)⟩⟩
                    case round =>
                     clear H';try clear c1
                     try clear c2
                     try clear p2
                     try clear c3
                     try clear c3b0
                     try clear c3b1
                     try clear c3b2
                     try clear c4
                     try clear c4b0
                     try clear c4b1
                     try clear p4
                     try clear q4
                     try clear hx4
                     try clear hf4
                     try clear c5
                     try clear c5b0
                     try clear c5b1
                     try clear p5
                     try clear q5
                     try clear hx5
                     try clear hf5
                     try clear c6
                     try clear p6
                     try clear q6
                     try clear hx6
                     try clear c7
                     try clear c10
                     try clear c10b0
                     try clear c12
                     try clear c12b0
                     try clear c13
                     try clear c14
                     try clear c14b0
                     try clear c15
                     try clear c15b0
                     try clear c16
                     try clear c16b0
                     try clear c18
                     try clear c18b0
                     try clear c20
                     try clear c20b0
                     try clear c20b1
                     try clear c20b2
                     try clear c24
                     try clear c24b0
                     try clear c25
                     try clear c25b0
                     try clear c26
                     try clear c26b0
                     try clear c29
                     try clear c30
                     try clear c30b0
                     try clear c31
                     try clear c31b0
                     try clear c32
                     try clear c32b0
                     try clear c33
                     try clear c33b0
                     try clear c36
                     try clear c36b0
                     try clear c37
                     try clear c38
                     try clear c38b0
                     try clear c39
                     try clear c39b0
                     try clear c40
                     try clear c40b0
                     try clear c41
                     try clear c41b0
                     try clear c42
                     try clear c42b0
                     try clear c44
                     try clear c46
                     try clear c46b0
                     try clear c47
                     try clear c47b0
                     try clear p48
                     try clear q48
                     try clear hx48
                     try clear hf48
                     try clear c53
                     try clear c53b0
                     try clear c54
                     try clear c54b0
                     try clear p55
                     try clear q55
                     try clear hx55
                     try clear hf55
                     try clear c61
                     try clear c61b0
                     try clear c62
                     try clear c62b0
                     try clear c63
                     try clear c63b0
                     try clear c64
                     try clear c64b0
                     try clear c64b1
                     try clear p64
                     try clear q64
                     try clear hx64
                     try clear c65
                     try clear p65
                     try clear q65
                     try clear hx65
                     try clear c66
                     try clear c66b0
                     try clear p66
                     try clear q66
                     try clear hx66
                     try clear c67
                     try clear c67b0
                     try clear c68
                     try clear c68b0
                     try clear c69
                     try clear c69b0
                     try clear c70
                     try clear c70b0
                     try clear hcz17_0
                     try clear hcz17_1
                     try clear hcz19_0
                     try clear hcz19_1
                     try clear hcz21_0
                     try clear hcz21_1
                     try clear hcz22_0
                     try clear hcz22_1
                     try clear hcz28_0
                     try clear hcz28_1
                     try clear hcz35_0
                     try clear hcz35_1
                     try clear hcz45_0
                     try clear hcz45_1
                     try clear hcz49_0
                     try clear hcz49_1
                     try clear hcz56_0
                     try clear hcz56_1
                     try clear hcz60_0
                     try clear hcz60_1
                     try clear hcz7_0
                     try clear hcz7_1
                     try clear hfz17_0
                     try clear hfz17_1
                     try clear hfz19_0
                     try clear hfz19_1
                     try clear hfz21_0
                     try clear hfz21_1
                     try clear hfz22_0
                     try clear hfz22_1
                     try clear hfz28_0
                     try clear hfz28_1
                     try clear hfz35_0
                     try clear hfz35_1
                     try clear hfz45_0
                     try clear hfz45_1
                     try clear hfz49_0
                     try clear hfz49_1
                     try clear hfz56_0
                     try clear hfz56_1
                     try clear hfz60_0
                     try clear hfz60_1
                     try clear hfz7_0
                     try clear hfz7_1
                     try clear hx48_0
                     try clear hx55_0
                     try clear hx645_0
                     try clear hx646_0
                     try clear hx647_0
                     try clear hx648_0
                     try clear hx649_0
                     try clear hx651_0
                     try clear hx652_0
                     try clear hx653_0
                     try clear hx654_0
                     try clear hx655_0
                     try clear hx656_0
                     try clear hx658_0
                     try clear hx660_0
                     try clear hx662_0
                     try clear hx663_0
                     try clear hx664_0
                     try clear p2
                     try clear p4
                     try clear p48
                     try clear p5
                     try clear p55
                     try clear p6
                     try clear p64
                     try clear p645
                     try clear p646
                     try clear p647
                     try clear p648
                     try clear p649
                     try clear p65
                     try clear p651
                     try clear p652
                     try clear p653
                     try clear p654
                     try clear p655
                     try clear p656
                     try clear p658
                     try clear p660
                     try clear p662
                     try clear p663
                     try clear p664
                     try clear q4
                     try clear q48
                     try clear q5
                     try clear q55
                     try clear q6
                     try clear q64
                     try clear q645
                     try clear q646
                     try clear q647
                     try clear q648
                     try clear q649
                     try clear q65
                     try clear q651
                     try clear q652
                     try clear q653
                     try clear q654
                     try clear q655
                     try clear q656
                     try clear q658
                     try clear q660
                     try clear q662
                     try clear q663
                     try clear q664
                     obtain ⟨x15_4, x16_4, rfl, rfl, HA, HK4, HO_6, BK641, HB⟩ := hrel;cases gk with
                     | zero => exact absurd HA.out (by simp [arboristlaw11_hangs.l5])
                     | succ k4 =>
                      have H := HA.out;clear HA;simp only [arboristlaw11_hangs.l5] at H
                      by_cases c71 : x16_4 < (l1_0.length : Int)
                      ·rw [if_pos c71] at H
                       have c71b0 : decide (x16_4 < (l1_0.length : Int)) = true := decide_eq_true c71;clear c71;obtain ⟨y665, hy665⟩ : ∃ y_ : List Int, y_ = (([x14_3, x13_2] : List Int)) := ⟨_, rfl⟩;replace H : (if 0 ≤ x16_4 then (if x16_4 < (l1_0.length : Int) then ((arboristref01_Meet.f k4 y665 (rd_L1 l1_0 x16_4)).bind fun t669 => (if x15_4 = true then (arboristlaw11_hangs.l5 k4 l0 (l1_0.length : Int) x6_1 x13_2 x14_3 true (wrap64 (x16_4 + 1)) l1_0 l1_1) else (arboristlaw11_hangs.l5 k4 l0 (l1_0.length : Int) x6_1 x13_2 x14_3 ((t669.length : Int) == 2) (wrap64 (x16_4 + 1)) l1_0 l1_1))) else (none)) else (none)) = some r := by first | (rw [hy665]; with_reducible exact H) | (have H2_ := (Option.bind_some _ _).symm.trans H; rw [hy665]; with_reducible exact H2_) | (have H2_ := (Option.bind_some _ _).symm.trans H; with_reducible exact H2_) | with_reducible exact H | (rw [hy665]; exact H) | exact H
                       have Ny665 := Aside0.mk hy665;clear hy665;by_cases c72 : 0 ≤ x16_4
                       ·rw [if_pos c72] at H
                        have c72b0 : decide (0 ≤ x16_4) = true := decide_eq_true c72;clear c72;by_cases c73 : x16_4 < (l1_0.length : Int)
                        ·rw [if_pos c73] at H
                         have c73b0 : decide (x16_4 < (l1_0.length : Int)) = true := decide_eq_true c73;clear c73;replace H := Option.bind_eq_some_iff.mp H;obtain ⟨t669, A740, H⟩ := H;(try dsimp only at H);have A74 := Aside0.mk A740;clear A740;by_cases c75 : x15_4 = true
                         ·subst c75;replace H : (arboristlaw11_hangs.l5 k4 l0 (l1_0.length : Int) x6_1 x13_2 x14_3 true (wrap64 (x16_4 + 1)) l1_0 l1_1) = some r := by rw [if_pos rfl] at H; exact H
                          have H' := Aside0.mk H;clear H;go_wp2_with (first | ((with_reducible refine gate_dst (N := 168) rfl ?_); (try (refine gate_guard (by rfl) ?_; dsimp only)); refine Kd.R_lit (Kd.int .i64) _ 3 ?hg (N := 168) ?hd (xs := ([x14_3, x13_2] : List Int)) (inner := [.int .i64 x14_3, .int .i64 x13_2]) (ok := fun _ => True) (okp := fun _ => True) ?hr ?hp (fun _ hk => hk) trivial (Below.refl _ _) (Nat.le_refl _) (by simp) ?_; (case hd => rfl); (case hg => rfl); (case hr => first | (go_simp; done) | (go_simp; rfl)); (case hp => exact (Reps.one (show Kd.M (Kd.int .i64) _ _ _ x14_3 [.int .i64 x14_3] from rfl) (Reps.one (show Kd.M (Kd.int .i64) _ _ _ x13_2 [.int .i64 x13_2] from rfl) (Reps.none _ _)))); intro v666 w76 ho77 hb hg_ hnew_; clear hg_ hnew_; (first | rw [← Ny665.out] at ho77 | (simp only [Int.reduceToNat] at ho77; rw [← Ny665.out] at ho77)); have n0_ := Aside0.mk (Kd.R_elder' (qR HO_6.out) (Kd.R_base ho77) hb); have n1_ := Aside0.mk (Kd.R_lower (Kd.R_new' ho77 (Kd.R_lt (qR HO_6.out))) (below_size (by repeat (first | (with_reducible first | exact HB.out | apply below_alloc | apply pw_below_drewN | apply below_drew1 | refine below_set ?_ GE641.out) | exact HB.out)))); have n2_ := Aside0.mk (blk_below (g := gb641) (o := .cells #[.slice A1_0 l1_0.length c1_0, .slice A1_1 l1_1.length c1_1] 28 (0, 0)) (qK BK641.out) hb); have n3_ := Aside0.mk (below_step (by repeat (first | (with_reducible first | exact HB.out | apply below_alloc | apply pw_below_drewN | apply below_drew1 | refine below_set ?_ GE641.out) | exact HB.out)) hb); clear HO_6; clear BK641; clear HB; have HO_6 := n0_; have HO667 := n1_; have BK641 := n2_; have HB := n3_; clear n0_ n1_ n2_ n3_; clear hb ho77; have hcz78_0 : w76.cell? ⟨gb641, 0, none⟩ = some (.slice A1_0 l1_0.length c1_0) := (blk_cell BK641.out 0).trans rfl; have hcz78_1 : w76.cell? ⟨gb641, 1, none⟩ = some (.slice A1_1 l1_1.length c1_1) := (blk_cell BK641.out 1).trans rfl; have hfz78_0 := blk_frozen BK641.out 0; have hfz78_1 := blk_frozen BK641.out 1; have p668 : 0 ≤ (x16_4 : Int) := of_decide_eq_true qA; have q668 : x16_4 < (l1_0.length : Int) := of_decide_eq_true qA; obtain ⟨ad668, A668_0, c668_0, e668, hx668_0, hl668_0, hi668_0⟩ := at_L1 HR1_0.out x16_4 p668 q668; cases e668; replace hx668_0 := (HB.out.cell (World.block_lt_of_cell? w _ hx668_0)).trans hx668_0; have HR668_0 := Aside0.mk hi668_0; have HC668_0 := Aside0.mk hl668_0; clear hi668_0 hl668_0; replace p668 := eq_true p668; replace q668 := eq_true q668; obtain ⟨Ao79, co79, eo79⟩ := Kd.R_slice HO667.out; subst eo79) | (go_at_call 15; (with_reducible refine (arboristref01_Meet.calls k4 _ _ y665 _ _ (rd_L1 l1_0 x16_4) t669 _ ?side1 ?side2 ?side3 ?side4 A74.out).mono ?_); (case side1 => repeat (first | exact (Kd.R_reads' HO667.out).2.2 | (with_reducible refine Kd.C_alloc ?_ _) | (with_reducible refine Kd.C_drewN ?_ _) | (with_reducible refine Kd.C_drew ?_))); (case side2 => exact (Kd.R_reads' HO667.out).2.1); (case side3 => repeat (first | exact (Kd.C_below HR668_0.out HB.out) | (with_reducible refine Kd.C_alloc ?_ _) | (with_reducible refine Kd.C_drewN ?_ _) | (with_reducible refine Kd.C_drew ?_))); (case side4 => exact HC668_0.out); rintro e w80 ⟨v670, rfl, ho0, hb⟩; have n0_ := Aside0.mk (Kd.R_elder' (qR HO_6.out) (Kd.R_base ho0) hb); have n1_ := Aside0.mk (Kd.R_elder' (qR HO667.out) (Kd.R_base ho0) hb); have n2_ := Aside0.mk (Kd.R_lower (Kd.R_new' (Kd.R_new' ho0 (Kd.R_lt (qR HO_6.out))) (Kd.R_lt (qR HO667.out))) (below_size (by repeat (first | (with_reducible first | exact HB.out | apply below_alloc | apply pw_below_drewN | apply below_drew1 | refine below_set ?_ GE641.out) | exact HB.out)))); have n3_ := Aside0.mk (blk_below (g := gb641) (o := .cells #[.slice (some ad668) l1_0.length c1_0, .slice A1_1 l1_1.length c1_1] 28 (0, 0)) (qK BK641.out) hb); have n4_ := Aside0.mk (below_step (by repeat (first | (with_reducible first | exact HB.out | apply below_alloc | apply pw_below_drewN | apply below_drew1 | refine below_set ?_ GE641.out) | exact HB.out)) hb); clear HO_6; clear HO667; clear BK641; clear HB; have HO_6 := n0_; have HO667 := n1_; have HO671 := n2_; have BK641 := n3_; have HB := n4_; clear n0_ n1_ n2_ n3_ n4_; (try clear hb); (try clear hb2); (try clear hk); (try clear hi); (try clear ho0); obtain ⟨Ao81, co81, eo81⟩ := Kd.R_slice HO671.out; subst eo81))
                          repeat (go_quiet (first | ((with_reducible refine gate_dst (N := 168) rfl ?_); (try (refine gate_guard (by rfl) ?_; dsimp only)); refine Kd.R_lit (Kd.int .i64) _ 3 ?hg (N := 168) ?hd (xs := ([x14_3, x13_2] : List Int)) (inner := [.int .i64 x14_3, .int .i64 x13_2]) (ok := fun _ => True) (okp := fun _ => True) ?hr ?hp (fun _ hk => hk) trivial (Below.refl _ _) (Nat.le_refl _) (by simp) ?_; (case hd => rfl); (case hg => rfl); (case hr => first | (go_simp; done) | (go_simp; rfl)); (case hp => exact (Reps.one (show Kd.M (Kd.int .i64) _ _ _ x14_3 [.int .i64 x14_3] from rfl) (Reps.one (show Kd.M (Kd.int .i64) _ _ _ x13_2 [.int .i64 x13_2] from rfl) (Reps.none _ _)))); intro v666 w76 ho77 hb hg_ hnew_; clear hg_ hnew_; (first | rw [← Ny665.out] at ho77 | (simp only [Int.reduceToNat] at ho77; rw [← Ny665.out] at ho77)); have n0_ := Aside0.mk (Kd.R_elder' (qR HO_6.out) (Kd.R_base ho77) hb); have n1_ := Aside0.mk (Kd.R_lower (Kd.R_new' ho77 (Kd.R_lt (qR HO_6.out))) (below_size (by repeat (first | (with_reducible first | exact HB.out | apply below_alloc | apply pw_below_drewN | apply below_drew1 | refine below_set ?_ GE641.out) | exact HB.out)))); have n2_ := Aside0.mk (blk_below (g := gb641) (o := .cells #[.slice A1_0 l1_0.length c1_0, .slice A1_1 l1_1.length c1_1] 28 (0, 0)) (qK BK641.out) hb); have n3_ := Aside0.mk (below_step (by repeat (first | (with_reducible first | exact HB.out | apply below_alloc | apply pw_below_drewN | apply below_drew1 | refine below_set ?_ GE641.out) | exact HB.out)) hb); clear HO_6; clear BK641; clear HB; have HO_6 := n0_; have HO667 := n1_; have BK641 := n2_; have HB := n3_; clear n0_ n1_ n2_ n3_; clear hb ho77; have hcz78_0 : w76.cell? ⟨gb641, 0, none⟩ = some (.slice A1_0 l1_0.length c1_0) := (blk_cell BK641.out 0).trans rfl; have hcz78_1 : w76.cell? ⟨gb641, 1, none⟩ = some (.slice A1_1 l1_1.length c1_1) := (blk_cell BK641.out 1).trans rfl; have hfz78_0 := blk_frozen BK641.out 0; have hfz78_1 := blk_frozen BK641.out 1; have p668 : 0 ≤ (x16_4 : Int) := of_decide_eq_true qA; have q668 : x16_4 < (l1_0.length : Int) := of_decide_eq_true qA; obtain ⟨ad668, A668_0, c668_0, e668, hx668_0, hl668_0, hi668_0⟩ := at_L1 HR1_0.out x16_4 p668 q668; cases e668; replace hx668_0 := (HB.out.cell (World.block_lt_of_cell? w _ hx668_0)).trans hx668_0; have HR668_0 := Aside0.mk hi668_0; have HC668_0 := Aside0.mk hl668_0; clear hi668_0 hl668_0; replace p668 := eq_true p668; replace q668 := eq_true q668; obtain ⟨Ao79, co79, eo79⟩ := Kd.R_slice HO667.out; subst eo79) | (go_at_call 15; (with_reducible refine (arboristref01_Meet.calls k4 _ _ y665 _ _ (rd_L1 l1_0 x16_4) t669 _ ?side1 ?side2 ?side3 ?side4 A74.out).mono ?_); (case side1 => repeat (first | exact (Kd.R_reads' HO667.out).2.2 | (with_reducible refine Kd.C_alloc ?_ _) | (with_reducible refine Kd.C_drewN ?_ _) | (with_reducible refine Kd.C_drew ?_))); (case side2 => exact (Kd.R_reads' HO667.out).2.1); (case side3 => repeat (first | exact (Kd.C_below HR668_0.out HB.out) | (with_reducible refine Kd.C_alloc ?_ _) | (with_reducible refine Kd.C_drewN ?_ _) | (with_reducible refine Kd.C_drew ?_))); (case side4 => exact HC668_0.out); rintro e w80 ⟨v670, rfl, ho0, hb⟩; have n0_ := Aside0.mk (Kd.R_elder' (qR HO_6.out) (Kd.R_base ho0) hb); have n1_ := Aside0.mk (Kd.R_elder' (qR HO667.out) (Kd.R_base ho0) hb); have n2_ := Aside0.mk (Kd.R_lower (Kd.R_new' (Kd.R_new' ho0 (Kd.R_lt (qR HO_6.out))) (Kd.R_lt (qR HO667.out))) (below_size (by repeat (first | (with_reducible first | exact HB.out | apply below_alloc | apply pw_below_drewN | apply below_drew1 | refine below_set ?_ GE641.out) | exact HB.out)))); have n3_ := Aside0.mk (blk_below (g := gb641) (o := .cells #[.slice (some ad668) l1_0.length c1_0, .slice A1_1 l1_1.length c1_1] 28 (0, 0)) (qK BK641.out) hb); have n4_ := Aside0.mk (below_step (by repeat (first | (with_reducible first | exact HB.out | apply below_alloc | apply pw_below_drewN | apply below_drew1 | refine below_set ?_ GE641.out) | exact HB.out)) hb); clear HO_6; clear HO667; clear BK641; clear HB; have HO_6 := n0_; have HO667 := n1_; have HO671 := n2_; have BK641 := n3_; have HB := n4_; clear n0_ n1_ n2_ n3_ n4_; (try clear hb); (try clear hb2); (try clear hk); (try clear hi); (try clear ho0); obtain ⟨Ao81, co81, eo81⟩ := Kd.R_slice HO671.out; subst eo81)); try go_wp2_with (first | ((with_reducible refine gate_dst (N := 168) rfl ?_); (try (refine gate_guard (by rfl) ?_; dsimp only)); refine Kd.R_lit (Kd.int .i64) _ 3 ?hg (N := 168) ?hd (xs := ([x14_3, x13_2] : List Int)) (inner := [.int .i64 x14_3, .int .i64 x13_2]) (ok := fun _ => True) (okp := fun _ => True) ?hr ?hp (fun _ hk => hk) trivial (Below.refl _ _) (Nat.le_refl _) (by simp) ?_; (case hd => rfl); (case hg => rfl); (case hr => first | (go_simp; done) | (go_simp; rfl)); (case hp => exact (Reps.one (show Kd.M (Kd.int .i64) _ _ _ x14_3 [.int .i64 x14_3] from rfl) (Reps.one (show Kd.M (Kd.int .i64) _ _ _ x13_2 [.int .i64 x13_2] from rfl) (Reps.none _ _)))); intro v666 w76 ho77 hb hg_ hnew_; clear hg_ hnew_; (first | rw [← Ny665.out] at ho77 | (simp only [Int.reduceToNat] at ho77; rw [← Ny665.out] at ho77)); have n0_ := Aside0.mk (Kd.R_elder' (qR HO_6.out) (Kd.R_base ho77) hb); have n1_ := Aside0.mk (Kd.R_lower (Kd.R_new' ho77 (Kd.R_lt (qR HO_6.out))) (below_size (by repeat (first | (with_reducible first | exact HB.out | apply below_alloc | apply pw_below_drewN | apply below_drew1 | refine below_set ?_ GE641.out) | exact HB.out)))); have n2_ := Aside0.mk (blk_below (g := gb641) (o := .cells #[.slice A1_0 l1_0.length c1_0, .slice A1_1 l1_1.length c1_1] 28 (0, 0)) (qK BK641.out) hb); have n3_ := Aside0.mk (below_step (by repeat (first | (with_reducible first | exact HB.out | apply below_alloc | apply pw_below_drewN | apply below_drew1 | refine below_set ?_ GE641.out) | exact HB.out)) hb); clear HO_6; clear BK641; clear HB; have HO_6 := n0_; have HO667 := n1_; have BK641 := n2_; have HB := n3_; clear n0_ n1_ n2_ n3_; clear hb ho77; have hcz78_0 : w76.cell? ⟨gb641, 0, none⟩ = some (.slice A1_0 l1_0.length c1_0) := (blk_cell BK641.out 0).trans rfl; have hcz78_1 : w76.cell? ⟨gb641, 1, none⟩ = some (.slice A1_1 l1_1.length c1_1) := (blk_cell BK641.out 1).trans rfl; have hfz78_0 := blk_frozen BK641.out 0; have hfz78_1 := blk_frozen BK641.out 1; have p668 : 0 ≤ (x16_4 : Int) := of_decide_eq_true qA; have q668 : x16_4 < (l1_0.length : Int) := of_decide_eq_true qA; obtain ⟨ad668, A668_0, c668_0, e668, hx668_0, hl668_0, hi668_0⟩ := at_L1 HR1_0.out x16_4 p668 q668; cases e668; replace hx668_0 := (HB.out.cell (World.block_lt_of_cell? w _ hx668_0)).trans hx668_0; have HR668_0 := Aside0.mk hi668_0; have HC668_0 := Aside0.mk hl668_0; clear hi668_0 hl668_0; replace p668 := eq_true p668; replace q668 := eq_true q668; obtain ⟨Ao79, co79, eo79⟩ := Kd.R_slice HO667.out; subst eo79) | (go_at_call 15; (with_reducible refine (arboristref01_Meet.calls k4 _ _ y665 _ _ (rd_L1 l1_0 x16_4) t669 _ ?side1 ?side2 ?side3 ?side4 A74.out).mono ?_); (case side1 => repeat (first | exact (Kd.R_reads' HO667.out).2.2 | (with_reducible refine Kd.C_alloc ?_ _) | (with_reducible refine Kd.C_drewN ?_ _) | (with_reducible refine Kd.C_drew ?_))); (case side2 => exact (Kd.R_reads' HO667.out).2.1); (case side3 => repeat (first | exact (Kd.C_below HR668_0.out HB.out) | (with_reducible refine Kd.C_alloc ?_ _) | (with_reducible refine Kd.C_drewN ?_ _) | (with_reducible refine Kd.C_drew ?_))); (case side4 => exact HC668_0.out); rintro e w80 ⟨v670, rfl, ho0, hb⟩; have n0_ := Aside0.mk (Kd.R_elder' (qR HO_6.out) (Kd.R_base ho0) hb); have n1_ := Aside0.mk (Kd.R_elder' (qR HO667.out) (Kd.R_base ho0) hb); have n2_ := Aside0.mk (Kd.R_lower (Kd.R_new' (Kd.R_new' ho0 (Kd.R_lt (qR HO_6.out))) (Kd.R_lt (qR HO667.out))) (below_size (by repeat (first | (with_reducible first | exact HB.out | apply below_alloc | apply pw_below_drewN | apply below_drew1 | refine below_set ?_ GE641.out) | exact HB.out)))); have n3_ := Aside0.mk (blk_below (g := gb641) (o := .cells #[.slice (some ad668) l1_0.length c1_0, .slice A1_1 l1_1.length c1_1] 28 (0, 0)) (qK BK641.out) hb); have n4_ := Aside0.mk (below_step (by repeat (first | (with_reducible first | exact HB.out | apply below_alloc | apply pw_below_drewN | apply below_drew1 | refine below_set ?_ GE641.out) | exact HB.out)) hb); clear HO_6; clear HO667; clear BK641; clear HB; have HO_6 := n0_; have HO667 := n1_; have HO671 := n2_; have BK641 := n3_; have HB := n4_; clear n0_ n1_ n2_ n3_ n4_; (try clear hb); (try clear hb2); (try clear hk); (try clear hi); (try clear ho0); obtain ⟨Ao81, co81, eo81⟩ := Kd.R_slice HO671.out; subst eo81)))
                          go_roundg k4
                          case measure => have := HK1.out; have := HK2.out; have := HK3.out; have := HK4.out; omega
                          case rel => exact ⟨(true), (wrap64 (x16_4 + 1)), (by first | rfl | (simp; done) | (simp [*]; done)), (by first | rfl | (simp; done) | (simp [*]; done)), H', ⟨by have := HK1.out; have := HK2.out; have := HK3.out; have := HK4.out; omega⟩, ⟨by (with_reducible repeat (first | apply Kd.R_alloc | apply Kd.R_drewN | apply Kd.R_drew)); exact Kd.R_mono HO_6.out (fun _ hk => trivial)⟩, ⟨by (with_reducible repeat (first | refine blk_drewN ?_ _ | refine blk_drew ?_ | refine blk_alloc ?_ _)); exact BK641.out⟩, ⟨by repeat (first | (with_reducible first | exact HB.out | apply below_alloc | apply pw_below_drewN | apply below_drew1 | refine below_set ?_ GE641.out) | exact HB.out)⟩⟩
                         ·replace c75 := Bool.eq_false_iff.mpr c75;subst c75;replace H : (arboristlaw11_hangs.l5 k4 l0 (l1_0.length : Int) x6_1 x13_2 x14_3 ((t669.length : Int) == 2) (wrap64 (x16_4 + 1)) l1_0 l1_1) = some r := by rw [if_neg (show ¬ (false = true) by decide)] at H; exact H
                          have H' := Aside0.mk H;clear H;go_wp2_with (first | ((with_reducible refine gate_dst (N := 168) rfl ?_); (try (refine gate_guard (by rfl) ?_; dsimp only)); refine Kd.R_lit (Kd.int .i64) _ 3 ?hg (N := 168) ?hd (xs := ([x14_3, x13_2] : List Int)) (inner := [.int .i64 x14_3, .int .i64 x13_2]) (ok := fun _ => True) (okp := fun _ => True) ?hr ?hp (fun _ hk => hk) trivial (Below.refl _ _) (Nat.le_refl _) (by simp) ?_; (case hd => rfl); (case hg => rfl); (case hr => first | (go_simp; done) | (go_simp; rfl)); (case hp => exact (Reps.one (show Kd.M (Kd.int .i64) _ _ _ x14_3 [.int .i64 x14_3] from rfl) (Reps.one (show Kd.M (Kd.int .i64) _ _ _ x13_2 [.int .i64 x13_2] from rfl) (Reps.none _ _)))); intro v666 w82 ho83 hb hg_ hnew_; clear hg_ hnew_; (first | rw [← Ny665.out] at ho83 | (simp only [Int.reduceToNat] at ho83; rw [← Ny665.out] at ho83)); have n0_ := Aside0.mk (Kd.R_elder' (qR HO_6.out) (Kd.R_base ho83) hb); have n1_ := Aside0.mk (Kd.R_lower (Kd.R_new' ho83 (Kd.R_lt (qR HO_6.out))) (below_size (by repeat (first | (with_reducible first | exact HB.out | apply below_alloc | apply pw_below_drewN | apply below_drew1 | refine below_set ?_ GE641.out) | exact HB.out)))); have n2_ := Aside0.mk (blk_below (g := gb641) (o := .cells #[.slice A1_0 l1_0.length c1_0, .slice A1_1 l1_1.length c1_1] 28 (0, 0)) (qK BK641.out) hb); have n3_ := Aside0.mk (below_step (by repeat (first | (with_reducible first | exact HB.out | apply below_alloc | apply pw_below_drewN | apply below_drew1 | refine below_set ?_ GE641.out) | exact HB.out)) hb); clear HO_6; clear BK641; clear HB; have HO_6 := n0_; have HO667 := n1_; have BK641 := n2_; have HB := n3_; clear n0_ n1_ n2_ n3_; clear hb ho83; have hcz84_0 : w82.cell? ⟨gb641, 0, none⟩ = some (.slice A1_0 l1_0.length c1_0) := (blk_cell BK641.out 0).trans rfl; have hcz84_1 : w82.cell? ⟨gb641, 1, none⟩ = some (.slice A1_1 l1_1.length c1_1) := (blk_cell BK641.out 1).trans rfl; have hfz84_0 := blk_frozen BK641.out 0; have hfz84_1 := blk_frozen BK641.out 1; have p668 : 0 ≤ (x16_4 : Int) := of_decide_eq_true qA; have q668 : x16_4 < (l1_0.length : Int) := of_decide_eq_true qA; obtain ⟨ad668, A668_0, c668_0, e668, hx668_0, hl668_0, hi668_0⟩ := at_L1 HR1_0.out x16_4 p668 q668; cases e668; replace hx668_0 := (HB.out.cell (World.block_lt_of_cell? w _ hx668_0)).trans hx668_0; have HR668_0 := Aside0.mk hi668_0; have HC668_0 := Aside0.mk hl668_0; clear hi668_0 hl668_0; replace p668 := eq_true p668; replace q668 := eq_true q668; obtain ⟨Ao85, co85, eo85⟩ := Kd.R_slice HO667.out; subst eo85) | (go_at_call 15; (with_reducible refine (arboristref01_Meet.calls k4 _ _ y665 _ _ (rd_L1 l1_0 x16_4) t669 _ ?side1 ?side2 ?side3 ?side4 A74.out).mono ?_); (case side1 => repeat (first | exact (Kd.R_reads' HO667.out).2.2 | (with_reducible refine Kd.C_alloc ?_ _) | (with_reducible refine Kd.C_drewN ?_ _) | (with_reducible refine Kd.C_drew ?_))); (case side2 => exact (Kd.R_reads' HO667.out).2.1); (case side3 => repeat (first | exact (Kd.C_below HR668_0.out HB.out) | (with_reducible refine Kd.C_alloc ?_ _) | (with_reducible refine Kd.C_drewN ?_ _) | (with_reducible refine Kd.C_drew ?_))); (case side4 => exact HC668_0.out); rintro e w86 ⟨v670, rfl, ho0, hb⟩; have n0_ := Aside0.mk (Kd.R_elder' (qR HO_6.out) (Kd.R_base ho0) hb); have n1_ := Aside0.mk (Kd.R_elder' (qR HO667.out) (Kd.R_base ho0) hb); have n2_ := Aside0.mk (Kd.R_lower (Kd.R_new' (Kd.R_new' ho0 (Kd.R_lt (qR HO_6.out))) (Kd.R_lt (qR HO667.out))) (below_size (by repeat (first | (with_reducible first | exact HB.out | apply below_alloc | apply pw_below_drewN | apply below_drew1 | refine below_set ?_ GE641.out) | exact HB.out)))); have n3_ := Aside0.mk (blk_below (g := gb641) (o := .cells #[.slice (some ad668) l1_0.length c1_0, .slice A1_1 l1_1.length c1_1] 28 (0, 0)) (qK BK641.out) hb); have n4_ := Aside0.mk (below_step (by repeat (first | (with_reducible first | exact HB.out | apply below_alloc | apply pw_below_drewN | apply below_drew1 | refine below_set ?_ GE641.out) | exact HB.out)) hb); clear HO_6; clear HO667; clear BK641; clear HB; have HO_6 := n0_; have HO667 := n1_; have HO671 := n2_; have BK641 := n3_; have HB := n4_; clear n0_ n1_ n2_ n3_ n4_; (try clear hb); (try clear hb2); (try clear hk); (try clear hi); (try clear ho0); obtain ⟨Ao87, co87, eo87⟩ := Kd.R_slice HO671.out; subst eo87))
                          repeat (go_quiet (first | ((with_reducible refine gate_dst (N := 168) rfl ?_); (try (refine gate_guard (by rfl) ?_; dsimp only)); refine Kd.R_lit (Kd.int .i64) _ 3 ?hg (N := 168) ?hd (xs := ([x14_3, x13_2] : List Int)) (inner := [.int .i64 x14_3, .int .i64 x13_2]) (ok := fun _ => True) (okp := fun _ => True) ?hr ?hp (fun _ hk => hk) trivial (Below.refl _ _) (Nat.le_refl _) (by simp) ?_; (case hd => rfl); (case hg => rfl); (case hr => first | (go_simp; done) | (go_simp; rfl)); (case hp => exact (Reps.one (show Kd.M (Kd.int .i64) _ _ _ x14_3 [.int .i64 x14_3] from rfl) (Reps.one (show Kd.M (Kd.int .i64) _ _ _ x13_2 [.int .i64 x13_2] from rfl) (Reps.none _ _)))); intro v666 w82 ho83 hb hg_ hnew_; clear hg_ hnew_; (first | rw [← Ny665.out] at ho83 | (simp only [Int.reduceToNat] at ho83; rw [← Ny665.out] at ho83)); have n0_ := Aside0.mk (Kd.R_elder' (qR HO_6.out) (Kd.R_base ho83) hb); have n1_ := Aside0.mk (Kd.R_lower (Kd.R_new' ho83 (Kd.R_lt (qR HO_6.out))) (below_size (by repeat (first | (with_reducible first | exact HB.out | apply below_alloc | apply pw_below_drewN | apply below_drew1 | refine below_set ?_ GE641.out) | exact HB.out)))); have n2_ := Aside0.mk (blk_below (g := gb641) (o := .cells #[.slice A1_0 l1_0.length c1_0, .slice A1_1 l1_1.length c1_1] 28 (0, 0)) (qK BK641.out) hb); have n3_ := Aside0.mk (below_step (by repeat (first | (with_reducible first | exact HB.out | apply below_alloc | apply pw_below_drewN | apply below_drew1 | refine below_set ?_ GE641.out) | exact HB.out)) hb); clear HO_6; clear BK641; clear HB; have HO_6 := n0_; have HO667 := n1_; have BK641 := n2_; have HB := n3_; clear n0_ n1_ n2_ n3_; clear hb ho83; have hcz84_0 : w82.cell? ⟨gb641, 0, none⟩ = some (.slice A1_0 l1_0.length c1_0) := (blk_cell BK641.out 0).trans rfl; have hcz84_1 : w82.cell? ⟨gb641, 1, none⟩ = some (.slice A1_1 l1_1.length c1_1) := (blk_cell BK641.out 1).trans rfl; have hfz84_0 := blk_frozen BK641.out 0; have hfz84_1 := blk_frozen BK641.out 1; have p668 : 0 ≤ (x16_4 : Int) := of_decide_eq_true qA; have q668 : x16_4 < (l1_0.length : Int) := of_decide_eq_true qA; obtain ⟨ad668, A668_0, c668_0, e668, hx668_0, hl668_0, hi668_0⟩ := at_L1 HR1_0.out x16_4 p668 q668; cases e668; replace hx668_0 := (HB.out.cell (World.block_lt_of_cell? w _ hx668_0)).trans hx668_0; have HR668_0 := Aside0.mk hi668_0; have HC668_0 := Aside0.mk hl668_0; clear hi668_0 hl668_0; replace p668 := eq_true p668; replace q668 := eq_true q668; obtain ⟨Ao85, co85, eo85⟩ := Kd.R_slice HO667.out; subst eo85) | (go_at_call 15; (with_reducible refine (arboristref01_Meet.calls k4 _ _ y665 _ _ (rd_L1 l1_0 x16_4) t669 _ ?side1 ?side2 ?side3 ?side4 A74.out).mono ?_); (case side1 => repeat (first | exact (Kd.R_reads' HO667.out).2.2 | (with_reducible refine Kd.C_alloc ?_ _) | (with_reducible refine Kd.C_drewN ?_ _) | (with_reducible refine Kd.C_drew ?_))); (case side2 => exact (Kd.R_reads' HO667.out).2.1); (case side3 => repeat (first | exact (Kd.C_below HR668_0.out HB.out) | (with_reducible refine Kd.C_alloc ?_ _) | (with_reducible refine Kd.C_drewN ?_ _) | (with_reducible refine Kd.C_drew ?_))); (case side4 => exact HC668_0.out); rintro e w86 ⟨v670, rfl, ho0, hb⟩; have n0_ := Aside0.mk (Kd.R_elder' (qR HO_6.out) (Kd.R_base ho0) hb); have n1_ := Aside0.mk (Kd.R_elder' (qR HO667.out) (Kd.R_base ho0) hb); have n2_ := Aside0.mk (Kd.R_lower (Kd.R_new' (Kd.R_new' ho0 (Kd.R_lt (qR HO_6.out))) (Kd.R_lt (qR HO667.out))) (below_size (by repeat (first | (with_reducible first | exact HB.out | apply below_alloc | apply pw_below_drewN | apply below_drew1 | refine below_set ?_ GE641.out) | exact HB.out)))); have n3_ := Aside0.mk (blk_below (g := gb641) (o := .cells #[.slice (some ad668) l1_0.length c1_0, .slice A1_1 l1_1.length c1_1] 28 (0, 0)) (qK BK641.out) hb); have n4_ := Aside0.mk (below_step (by repeat (first | (with_reducible first | exact HB.out | apply below_alloc | apply pw_below_drewN | apply below_drew1 | refine below_set ?_ GE641.out) | exact HB.out)) hb); clear HO_6; clear HO667; clear BK641; clear HB; have HO_6 := n0_; have HO667 := n1_; have HO671 := n2_; have BK641 := n3_; have HB := n4_; clear n0_ n1_ n2_ n3_ n4_; (try clear hb); (try clear hb2); (try clear hk); (try clear hi); (try clear ho0); obtain ⟨Ao87, co87, eo87⟩ := Kd.R_slice HO671.out; subst eo87)); try go_wp2_with (first | ((with_reducible refine gate_dst (N := 168) rfl ?_); (try (refine gate_guard (by rfl) ?_; dsimp only)); refine Kd.R_lit (Kd.int .i64) _ 3 ?hg (N := 168) ?hd (xs := ([x14_3, x13_2] : List Int)) (inner := [.int .i64 x14_3, .int .i64 x13_2]) (ok := fun _ => True) (okp := fun _ => True) ?hr ?hp (fun _ hk => hk) trivial (Below.refl _ _) (Nat.le_refl _) (by simp) ?_; (case hd => rfl); (case hg => rfl); (case hr => first | (go_simp; done) | (go_simp; rfl)); (case hp => exact (Reps.one (show Kd.M (Kd.int .i64) _ _ _ x14_3 [.int .i64 x14_3] from rfl) (Reps.one (show Kd.M (Kd.int .i64) _ _ _ x13_2 [.int .i64 x13_2] from rfl) (Reps.none _ _)))); intro v666 w82 ho83 hb hg_ hnew_; clear hg_ hnew_; (first | rw [← Ny665.out] at ho83 | (simp only [Int.reduceToNat] at ho83; rw [← Ny665.out] at ho83)); have n0_ := Aside0.mk (Kd.R_elder' (qR HO_6.out) (Kd.R_base ho83) hb); have n1_ := Aside0.mk (Kd.R_lower (Kd.R_new' ho83 (Kd.R_lt (qR HO_6.out))) (below_size (by repeat (first | (with_reducible first | exact HB.out | apply below_alloc | apply pw_below_drewN | apply below_drew1 | refine below_set ?_ GE641.out) | exact HB.out)))); have n2_ := Aside0.mk (blk_below (g := gb641) (o := .cells #[.slice A1_0 l1_0.length c1_0, .slice A1_1 l1_1.length c1_1] 28 (0, 0)) (qK BK641.out) hb); have n3_ := Aside0.mk (below_step (by repeat (first | (with_reducible first | exact HB.out | apply below_alloc | apply pw_below_drewN | apply below_drew1 | refine below_set ?_ GE641.out) | exact HB.out)) hb); clear HO_6; clear BK641; clear HB; have HO_6 := n0_; have HO667 := n1_; have BK641 := n2_; have HB := n3_; clear n0_ n1_ n2_ n3_; clear hb ho83; have hcz84_0 : w82.cell? ⟨gb641, 0, none⟩ = some (.slice A1_0 l1_0.length c1_0) := (blk_cell BK641.out 0).trans rfl; have hcz84_1 : w82.cell? ⟨gb641, 1, none⟩ = some (.slice A1_1 l1_1.length c1_1) := (blk_cell BK641.out 1).trans rfl; have hfz84_0 := blk_frozen BK641.out 0; have hfz84_1 := blk_frozen BK641.out 1; have p668 : 0 ≤ (x16_4 : Int) := of_decide_eq_true qA; have q668 : x16_4 < (l1_0.length : Int) := of_decide_eq_true qA; obtain ⟨ad668, A668_0, c668_0, e668, hx668_0, hl668_0, hi668_0⟩ := at_L1 HR1_0.out x16_4 p668 q668; cases e668; replace hx668_0 := (HB.out.cell (World.block_lt_of_cell? w _ hx668_0)).trans hx668_0; have HR668_0 := Aside0.mk hi668_0; have HC668_0 := Aside0.mk hl668_0; clear hi668_0 hl668_0; replace p668 := eq_true p668; replace q668 := eq_true q668; obtain ⟨Ao85, co85, eo85⟩ := Kd.R_slice HO667.out; subst eo85) | (go_at_call 15; (with_reducible refine (arboristref01_Meet.calls k4 _ _ y665 _ _ (rd_L1 l1_0 x16_4) t669 _ ?side1 ?side2 ?side3 ?side4 A74.out).mono ?_); (case side1 => repeat (first | exact (Kd.R_reads' HO667.out).2.2 | (with_reducible refine Kd.C_alloc ?_ _) | (with_reducible refine Kd.C_drewN ?_ _) | (with_reducible refine Kd.C_drew ?_))); (case side2 => exact (Kd.R_reads' HO667.out).2.1); (case side3 => repeat (first | exact (Kd.C_below HR668_0.out HB.out) | (with_reducible refine Kd.C_alloc ?_ _) | (with_reducible refine Kd.C_drewN ?_ _) | (with_reducible refine Kd.C_drew ?_))); (case side4 => exact HC668_0.out); rintro e w86 ⟨v670, rfl, ho0, hb⟩; have n0_ := Aside0.mk (Kd.R_elder' (qR HO_6.out) (Kd.R_base ho0) hb); have n1_ := Aside0.mk (Kd.R_elder' (qR HO667.out) (Kd.R_base ho0) hb); have n2_ := Aside0.mk (Kd.R_lower (Kd.R_new' (Kd.R_new' ho0 (Kd.R_lt (qR HO_6.out))) (Kd.R_lt (qR HO667.out))) (below_size (by repeat (first | (with_reducible first | exact HB.out | apply below_alloc | apply pw_below_drewN | apply below_drew1 | refine below_set ?_ GE641.out) | exact HB.out)))); have n3_ := Aside0.mk (blk_below (g := gb641) (o := .cells #[.slice (some ad668) l1_0.length c1_0, .slice A1_1 l1_1.length c1_1] 28 (0, 0)) (qK BK641.out) hb); have n4_ := Aside0.mk (below_step (by repeat (first | (with_reducible first | exact HB.out | apply below_alloc | apply pw_below_drewN | apply below_drew1 | refine below_set ?_ GE641.out) | exact HB.out)) hb); clear HO_6; clear HO667; clear BK641; clear HB; have HO_6 := n0_; have HO667 := n1_; have HO671 := n2_; have BK641 := n3_; have HB := n4_; clear n0_ n1_ n2_ n3_ n4_; (try clear hb); (try clear hb2); (try clear hk); (try clear hi); (try clear ho0); obtain ⟨Ao87, co87, eo87⟩ := Kd.R_slice HO671.out; subst eo87)))
                          go_roundg k4
                          case measure => have := HK1.out; have := HK2.out; have := HK3.out; have := HK4.out; omega
                          case rel => exact ⟨(((t669.length : Int) == 2)), (wrap64 (x16_4 + 1)), (by first | rfl | (simp; done) | (simp [*]; done)), (by first | rfl | (simp; done) | (simp [*]; done)), H', ⟨by have := HK1.out; have := HK2.out; have := HK3.out; have := HK4.out; omega⟩, ⟨by (with_reducible repeat (first | apply Kd.R_alloc | apply Kd.R_drewN | apply Kd.R_drew)); exact Kd.R_mono HO_6.out (fun _ hk => trivial)⟩, ⟨by (with_reducible repeat (first | refine blk_drewN ?_ _ | refine blk_drew ?_ | refine blk_alloc ?_ _)); exact BK641.out⟩, ⟨by repeat (first | (with_reducible first | exact HB.out | apply below_alloc | apply pw_below_drewN | apply below_drew1 | refine below_set ?_ GE641.out) | exact HB.out)⟩⟩
                        ·rw [if_neg c73] at H
                         exact absurd H (by simp)
                       ·rw [if_neg c72] at H
                        exact absurd H (by simp)
                      ·rw [if_neg c71] at H
                       have c71b0 : decide (x16_4 < (l1_0.length : Int)) = false := decide_eq_false c71;clear c71;by_cases c88 : x15_4 = true
                       ·subst c88;replace H : (arboristlaw11_hangs.l4 k4 l0 (l1_0.length : Int) x6_1 x13_2 (wrap64 (x14_3 + 1)) l1_0 l1_1) = some r := by rw [if_pos rfl] at H; exact H
                        have H' := Aside0.mk H;clear H;go_wp2
                        repeat (go_quiet (fail); try go_wp2)
                        go_roundg k4
                        case measure => have := HK1.out; have := HK2.out; have := HK3.out; have := HK4.out; omega
                        case rel => exact ⟨(wrap64 (x14_3 + 1)), (by first | rfl | (simp; done) | (simp [*]; done)), H', ⟨by have := HK1.out; have := HK2.out; have := HK3.out; have := HK4.out; omega⟩, ⟨by (with_reducible repeat (first | apply Kd.R_alloc | apply Kd.R_drewN | apply Kd.R_drew)); exact HO_6.out⟩, ⟨by (with_reducible repeat (first | refine blk_drewN ?_ _ | refine blk_drew ?_ | refine blk_alloc ?_ _)); exact BK641.out⟩, ⟨by repeat (first | (with_reducible first | exact HB.out | apply below_alloc | apply pw_below_drewN | apply below_drew1 | refine below_set ?_ GE641.out) | exact HB.out)⟩⟩
                       ·replace c88 := Bool.eq_false_iff.mpr c88;subst c88;replace H : (some false) = some r := by rw [if_neg (show ¬ (false = true) by decide)] at H; exact H
                        obtain rfl := Option.some.inj H;go_wp2
                        repeat (go_quiet (fail); try go_wp2)
                        go_ret
                        exact ⟨by first | rfl | (simp [errW_none, errW_some] <;> rfl) | (simp [*, errW_none, errW_some] <;> rfl), by repeat (first | (with_reducible first | exact HB.out | apply below_alloc | apply pw_below_drewN | apply below_drew1 | refine below_set ?_ GE641.out) | exact HB.out)⟩
                   ·rw [if_neg c70] at H
                    exact absurd H (by simp)
                  ·rw [if_neg c69] at H
                   exact absurd H (by simp)
                 ·rw [if_neg c68] at H
                  exact absurd H (by simp)
                ·rw [if_neg c67] at H
                 exact absurd H (by simp)
               ·rw [if_neg c66] at H
                have c66b0 : decide (x14_3 < x13_2) = false := decide_eq_false c66;clear c66;have H' := Aside0.mk H;clear H;go_wp2
                repeat (go_quiet (fail); try go_wp2)
                go_roundg k3
                case measure => have := HK1.out; have := HK2.out; have := HK3.out; omega
                case rel => exact ⟨(wrap64 (x13_2 + 1)), (by first | rfl | (simp; done) | (simp [*]; done)), H', ⟨by have := HK1.out; have := HK2.out; have := HK3.out; omega⟩, ⟨by (with_reducible repeat (first | apply Kd.R_alloc | apply Kd.R_drewN | apply Kd.R_drew)); exact HO_6.out⟩, ⟨by (with_reducible repeat (first | refine blk_drewN ?_ _ | refine blk_drew ?_ | refine blk_alloc ?_ _)); exact BK641.out⟩, ⟨by repeat (first | (with_reducible first | exact HB.out | apply below_alloc | apply pw_below_drewN | apply below_drew1 | refine below_set ?_ GE641.out) | exact HB.out)⟩⟩
            ·rw [if_neg c64] at H
             have c64b0 : ((rd x6_1 x13_2) == 1) = false := beq_eq_false_iff_ne.mpr c64;have c64b1 : ((rd x6_1 x13_2) != 1) = true := bne_iff_ne.mpr c64;obtain rfl := Option.some.inj H;obtain ⟨Ao89, co89, eo89⟩ := Kd.R_slice HO_6.out;subst eo89;have p662 : 0 ≤ (x13_2 : Int) := of_decide_eq_true qA;have q662 : x13_2 < (x6_1.length : Int) := of_decide_eq_true qA;obtain ⟨ad662, e662, hx662_0⟩ := Kd.at_int (Kd.R_reads' HO_6.out).2.2 x13_2 p662 q662;cases e662
             replace p662 := eq_true p662;replace q662 := eq_true q662;go_wp2
             repeat (go_quiet (fail); try go_wp2)
             go_ret
             exact ⟨by first | rfl | (simp [errW_none, errW_some] <;> rfl) | (simp [*, errW_none, errW_some] <;> rfl), by repeat (first | (with_reducible first | exact HB.out | apply below_alloc | apply pw_below_drewN | apply below_drew1 | refine below_set ?_ GE641.out) | exact HB.out)⟩
           ·rw [if_neg c63] at H
            exact absurd H (by simp)
          ·rw [if_neg c62] at H
           exact absurd H (by simp)
         ·rw [if_neg c61] at H
          have c61b0 : decide (x13_2 < (l0.length : Int)) = false := decide_eq_false c61;clear c61;obtain rfl := Option.some.inj H;go_wp2
          repeat (go_quiet (fail); try go_wp2)
          go_ret
          exact ⟨by first | rfl | (simp [errW_none, errW_some] <;> rfl) | (simp [*, errW_none, errW_some] <;> rfl), by repeat (first | (with_reducible first | exact HB.out | apply below_alloc | apply pw_below_drewN | apply below_drew1 | refine below_set ?_ GE641.out) | exact HB.out)⟩
   ·rw [if_neg c5] at H
    exact absurd H (by simp)
  ·rw [if_neg c4] at H
   exact absurd H (by simp)
 ·rw [if_neg c3] at H
  have c3b0 : ((l1_1.length : Int) == (l1_0.length : Int)) = false := beq_eq_false_iff_ne.mpr c3;have c3b1 : ((l1_1.length : Int) != (l1_0.length : Int)) = true := bne_iff_ne.mpr c3;have c3b2 : (l1_1.length == l1_0.length) = false := by first | simpa using c3 | (simp at c3 ⊢; omega)
  obtain rfl := Option.some.inj H;go_enter Tryd.func20, Tryd.ntmps20
  go_wp2_with (first | ((with_reducible refine gate_dst (N := 3) rfl ?_); (try (refine gate_guard (by rfl) ?_; dsimp only)); refine box_event ?hg (N := 3) ?hd (cs := #[.slice A1_0 l1_0.length c1_0, .slice A1_1 l1_1.length c1_1]) (t := 28) ?hr ?_; (case hd => rfl); (case hg => rfl); (case hr => first | (go_simp; done) | (go_simp; rfl)); intro gb641 hg w90 hbox hb; have n0_ := Aside0.mk (below_step (qB HB.out) hb); have n1_ := Aside0.mk (hbox); have n2_ := Aside0.mk ((by rw [hg]; exact (below_size (qB HB.out)) : w.heap.size ≤ gb641)); have n3_ := Aside0.mk ((by rw [hg]; exact (below_size (qB HB.out)) : w.heap.size ≤ gb641)); clear HB; have HB := n0_; have BK641 := n1_; have GW641 := n2_; have GE641 := n3_; clear n0_ n1_ n2_ n3_; clear hb hbox hg; have hcz91_0 : w90.cell? ⟨gb641, 0, none⟩ = some (.slice A1_0 l1_0.length c1_0) := (blk_cell BK641.out 0).trans rfl; have hcz91_1 : w90.cell? ⟨gb641, 1, none⟩ = some (.slice A1_1 l1_1.length c1_1) := (blk_cell BK641.out 1).trans rfl; have hfz91_0 := blk_frozen BK641.out 0; have hfz91_1 := blk_frozen BK641.out 1))
  repeat (go_quiet (first | ((with_reducible refine gate_dst (N := 3) rfl ?_); (try (refine gate_guard (by rfl) ?_; dsimp only)); refine box_event ?hg (N := 3) ?hd (cs := #[.slice A1_0 l1_0.length c1_0, .slice A1_1 l1_1.length c1_1]) (t := 28) ?hr ?_; (case hd => rfl); (case hg => rfl); (case hr => first | (go_simp; done) | (go_simp; rfl)); intro gb641 hg w90 hbox hb; have n0_ := Aside0.mk (below_step (qB HB.out) hb); have n1_ := Aside0.mk (hbox); have n2_ := Aside0.mk ((by rw [hg]; exact (below_size (qB HB.out)) : w.heap.size ≤ gb641)); have n3_ := Aside0.mk ((by rw [hg]; exact (below_size (qB HB.out)) : w.heap.size ≤ gb641)); clear HB; have HB := n0_; have BK641 := n1_; have GW641 := n2_; have GE641 := n3_; clear n0_ n1_ n2_ n3_; clear hb hbox hg; have hcz91_0 : w90.cell? ⟨gb641, 0, none⟩ = some (.slice A1_0 l1_0.length c1_0) := (blk_cell BK641.out 0).trans rfl; have hcz91_1 : w90.cell? ⟨gb641, 1, none⟩ = some (.slice A1_1 l1_1.length c1_1) := (blk_cell BK641.out 1).trans rfl; have hfz91_0 := blk_frozen BK641.out 0; have hfz91_1 := blk_frozen BK641.out 1)); try go_wp2_with (first | ((with_reducible refine gate_dst (N := 3) rfl ?_); (try (refine gate_guard (by rfl) ?_; dsimp only)); refine box_event ?hg (N := 3) ?hd (cs := #[.slice A1_0 l1_0.length c1_0, .slice A1_1 l1_1.length c1_1]) (t := 28) ?hr ?_; (case hd => rfl); (case hg => rfl); (case hr => first | (go_simp; done) | (go_simp; rfl)); intro gb641 hg w90 hbox hb; have n0_ := Aside0.mk (below_step (qB HB.out) hb); have n1_ := Aside0.mk (hbox); have n2_ := Aside0.mk ((by rw [hg]; exact (below_size (qB HB.out)) : w.heap.size ≤ gb641)); have n3_ := Aside0.mk ((by rw [hg]; exact (below_size (qB HB.out)) : w.heap.size ≤ gb641)); clear HB; have HB := n0_; have BK641 := n1_; have GW641 := n2_; have GE641 := n3_; clear n0_ n1_ n2_ n3_; clear hb hbox hg; have hcz91_0 : w90.cell? ⟨gb641, 0, none⟩ = some (.slice A1_0 l1_0.length c1_0) := (blk_cell BK641.out 0).trans rfl; have hcz91_1 : w90.cell? ⟨gb641, 1, none⟩ = some (.slice A1_1 l1_1.length c1_1) := (blk_cell BK641.out 1).trans rfl; have hfz91_0 := blk_frozen BK641.out 0; have hfz91_1 := blk_frozen BK641.out 1)))
  go_ret
  exact ⟨by first | rfl | (simp [errW_none, errW_some] <;> rfl) | (simp [*, errW_none, errW_some] <;> rfl), by repeat (first | (with_reducible first | exact HB.out | apply below_alloc | apply pw_below_drewN | apply below_drew1 | refine below_set ?_ GE641.out) | exact HB.out)⟩
end Go.Proofs.YtbdlelojlnhhfaaDoor.Pr
