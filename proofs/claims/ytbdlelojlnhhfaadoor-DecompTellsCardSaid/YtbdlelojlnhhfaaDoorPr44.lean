-- Printed by a program of this session's own (wip/tools/pp.py) over the kit's print.py; Lean checks it.
import Derived.Test.YtbdlelojlnhhfaaDoorPr1
import Derived.Test.YtbdlelojlnhhfaaDoorPr0
import Derived.Test.YtbdlelojlnhhfaaDoorPr36
import Derived.Test.YtbdlelojlnhhfaaDoorPr39
namespace Go.Proofs.YtbdlelojlnhhfaaDoor.Pr
open Go.RowKit Go.Proofs.YtbdlelojlnhhfaaDoorW.PrintWords Go.Proofs.YtbdlelojlnhhfaaDoorW.PrintLast Go.Proofs.YtbdlelojlnhhfaaDoorW.PrintMore
attribute [local go_sem] max2_int min2_int max_two min_two max_three min_three max_four min_four
set_option linter.unusedVariables false
set_option linter.unusedSimpArgs false
/-! ### arboristref11_Build: function 18 -/
mutual
def arboristref11_Build.l0 : Nat → List (List Int) → Int → List (List Int) → List Int → Option ((List (List Int)) × List Int)
 | 0, _, _, _, _ => none
 | k + 1, x5, x7, x558000, x558001 => if x7 < (x5.length : Int) then (arboristref11_Build.l1 k x5 x7 true 0 x558000 x558001) else (if 0 ≤ (x558000.length : Int) then (if ((x558000.length : Int) : Int).toNat ≤ 281474976710656 then (arboristref11_Build.l2 k (List.replicate ((x558000.length : Int) : Int).toNat false) 0 x558000 x558001) else (none)) else (none))
def arboristref11_Build.l1 : Nat → List (List Int) → Int → Bool → Int → List (List Int) → List Int → Option ((List (List Int)) × List Int)
 | 0, _, _, _, _, _, _ => none
 | k + 1, x5, x7, x8, x9, x558000, x558001 => if x9 < x7 then (if 0 ≤ x7 then (if x7 < (x5.length : Int) then (if 0 ≤ x9 then (if x9 < (x5.length : Int) then ((arboristref01_Within.f k (rd_L1 x5 x7) (rd_L1 x5 x9)).bind fun t560 => (if x8 = true then (arboristref11_Build.l1 k x5 x7 (!t560) (wrap64 (x9 + 1)) x558000 x558001) else (arboristref11_Build.l1 k x5 x7 false (wrap64 (x9 + 1)) x558000 x558001))) else (none)) else (none)) else (none)) else (none)) else (if x8 = true then (if 0 ≤ x7 then (if x7 < (x5.length : Int) then (if x558000.length < 5864062014805 then (if x558001.length < 17592186044416 then (arboristref11_Build.l0 k x5 (wrap64 (x7 + 1)) (x558000 ++ [rd_L1 x5 x7]) (x558001 ++ [(-1)])) else (none)) else (none)) else (none)) else (none)) else (arboristref11_Build.l0 k x5 (wrap64 (x7 + 1)) x558000 x558001))
def arboristref11_Build.l2 : Nat → List Bool → Int → List (List Int) → List Int → Option ((List (List Int)) × List Int)
 | 0, _, _, _, _ => none
 | k + 1, x11, x12, x558000, x558001 => if x12 < (x558000.length : Int) then (if x12 = 0 then (if 0 < (x11.length : Int) then (arboristref11_Build.l2 k (x11.set (0 : Int).toNat true) (wrap64 (x12 + 1)) x558000 x558001) else (none)) else (arboristref11_Build.l3 k x11 x12 (-1) (-1) (-1) 0 x558000 x558001)) else (some (x558000, x558001))
def arboristref11_Build.l3 : Nat → List Bool → Int → Int → Int → Int → Int → List (List Int) → List Int → Option ((List (List Int)) × List Int)
 | 0, _, _, _, _, _, _, _, _ => none
 | k + 1, x11, x12, x13, x14, x15, x16, x558000, x558001 => if x16 < (x558000.length : Int) then (arboristref11_Build.l4 k x11 x12 x13 x14 x15 x16 0 x558000 x558001) else (if 0 ≤ x13 then (if x13 < (x11.length : Int) then (if x13 < (x558001.length : Int) then (arboristref11_Build.l2 k (x11.set (x13 : Int).toNat true) (wrap64 (x12 + 1)) x558000 (x558001.set (x13 : Int).toNat x14)) else (none)) else (none)) else (none))
def arboristref11_Build.l4 : Nat → List Bool → Int → Int → Int → Int → Int → Int → List (List Int) → List Int → Option ((List (List Int)) × List Int)
 | 0, _, _, _, _, _, _, _, _, _ => none
 | k + 1, x11, x12, x13, x14, x15, x16, x17, x558000, x558001 => if x17 < (x558000.length : Int) then (if 0 ≤ x16 then (if x16 < (x11.length : Int) then (if rdOf false x11 x16 = true then (arboristref11_Build.j5 k x11 x12 x13 x14 x15 x16 x17 true x558000 x558001) else (if 0 ≤ x17 then (if x17 < (x11.length : Int) then (arboristref11_Build.j5 k x11 x12 x13 x14 x15 x16 x17 (!(rdOf false x11 x17)) x558000 x558001) else (none)) else (none))) else (none)) else (none)) else (arboristref11_Build.l3 k x11 x12 x13 x14 x15 (wrap64 (x16 + 1)) x558000 x558001)
def arboristref11_Build.j5 : Nat → List Bool → Int → Int → Int → Int → Int → Int → Bool → List (List Int) → List Int → Option ((List (List Int)) × List Int)
 | 0, _, _, _, _, _, _, _, _, _, _ => none
 | k + 1, x11, x12, x13, x14, x15, x16, x17, x102, x558000, x558001 => if x102 = true then (arboristref11_Build.l4 k x11 x12 x13 x14 x15 x16 (wrap64 (x17 + 1)) x558000 x558001) else (if 0 ≤ x16 then (if x16 < (x558000.length : Int) then (if 0 ≤ x17 then (if x17 < (x558000.length : Int) then ((arboristref01_Meet.f k (rd_L1 x558000 x16) (rd_L1 x558000 x17)).bind fun t578 => (if (t578.length : Int) > x15 then (arboristref11_Build.l4 k x11 x12 x16 x17 (t578.length : Int) x16 (wrap64 (x17 + 1)) x558000 x558001) else (arboristref11_Build.l4 k x11 x12 x13 x14 x15 x16 (wrap64 (x17 + 1)) x558000 x558001))) else (none)) else (none)) else (none)) else (none))
end
def arboristref11_Build.f (k : Nat) (l0 : List (List Bool)) (l1 : List Int) : Option ((List (List Int)) × List Int) := (arboristref10_Bags.f k l0 l1).bind fun t554 => (arboristref11_Build.l0 k t554 0 ([] : List (List Int)) ([] : List Int))
theorem arboristref11_Build.mono_l : ∀ k, (∀ y0 y1 y2 y3, LeO (arboristref11_Build.l0 k y0 y1 y2 y3) (arboristref11_Build.l0 (k + 1) y0 y1 y2 y3)) ∧ (∀ y0 y1 y2 y3 y4 y5, LeO (arboristref11_Build.l1 k y0 y1 y2 y3 y4 y5) (arboristref11_Build.l1 (k + 1) y0 y1 y2 y3 y4 y5)) ∧ (∀ y0 y1 y2 y3, LeO (arboristref11_Build.l2 k y0 y1 y2 y3) (arboristref11_Build.l2 (k + 1) y0 y1 y2 y3)) ∧ (∀ y0 y1 y2 y3 y4 y5 y6 y7, LeO (arboristref11_Build.l3 k y0 y1 y2 y3 y4 y5 y6 y7) (arboristref11_Build.l3 (k + 1) y0 y1 y2 y3 y4 y5 y6 y7)) ∧ (∀ y0 y1 y2 y3 y4 y5 y6 y7 y8, LeO (arboristref11_Build.l4 k y0 y1 y2 y3 y4 y5 y6 y7 y8) (arboristref11_Build.l4 (k + 1) y0 y1 y2 y3 y4 y5 y6 y7 y8)) ∧ (∀ y0 y1 y2 y3 y4 y5 y6 y7 y8 y9, LeO (arboristref11_Build.j5 k y0 y1 y2 y3 y4 y5 y6 y7 y8 y9) (arboristref11_Build.j5 (k + 1) y0 y1 y2 y3 y4 y5 y6 y7 y8 y9))
 | 0 => ⟨fun _ _ _ _ r h => by simp [arboristref11_Build.l0] at h, fun _ _ _ _ _ _ r h => by simp [arboristref11_Build.l1] at h, fun _ _ _ _ r h => by simp [arboristref11_Build.l2] at h, fun _ _ _ _ _ _ _ _ r h => by simp [arboristref11_Build.l3] at h, fun _ _ _ _ _ _ _ _ _ r h => by simp [arboristref11_Build.l4] at h, fun _ _ _ _ _ _ _ _ _ _ r h => by simp [arboristref11_Build.j5] at h⟩
 | k + 1 => by
  obtain ⟨ih0, ih1, ih2, ih3, ih4, ih5⟩ := arboristref11_Build.mono_l k;refine ⟨?_, ?_, ?_, ?_, ?_, ?_⟩;all_goals intros
  all_goals (first | unfold arboristref11_Build.l0 | unfold arboristref11_Build.l1 | unfold arboristref11_Build.l2 | unfold arboristref11_Build.l3 | unfold arboristref11_Build.l4 | unfold arboristref11_Build.j5)
  all_goals repeat' first
  | (with_reducible first | exact ih0 _ _ _ _ | exact ih1 _ _ _ _ _ _ | exact ih2 _ _ _ _ | exact ih3 _ _ _ _ _ _ _ _ | exact ih4 _ _ _ _ _ _ _ _ _ | exact ih5 _ _ _ _ _ _ _ _ _ _ | exact arboristref01_Meet.mono _ _ _ | exact arboristref01_Within.mono _ _ _ | exact arboristref10_Bags.mono _ _ _ | exact LeO.refl _ | exact LeO.none _ | refine LeO.ite ?_ ?_ | refine LeO.bind ?_ (fun _ => ?_))
  | exact ih0 _ _ _ _
  | exact ih1 _ _ _ _ _ _
  | exact ih2 _ _ _ _
  | exact ih3 _ _ _ _ _ _ _ _
  | exact ih4 _ _ _ _ _ _ _ _ _
  | exact ih5 _ _ _ _ _ _ _ _ _ _
  | exact arboristref01_Meet.mono _ _ _
  | exact arboristref01_Within.mono _ _ _
  | exact arboristref10_Bags.mono _ _ _
  | exact LeO.none _
  | refine LeO.ite ?_ ?_
  | refine LeO.bind ?_ (fun _ => ?_)
theorem arboristref11_Build.mono : ∀ a0 a1 k, LeO (arboristref11_Build.f k a0 a1) (arboristref11_Build.f (k + 1) a0 a1) := by
 intro a0 a1 k
 obtain ⟨ih0, ih1, ih2, ih3, ih4, ih5⟩ := arboristref11_Build.mono_l k;unfold arboristref11_Build.f
 repeat' first
   | (with_reducible first | exact ih0 _ _ _ _ | exact ih1 _ _ _ _ _ _ | exact ih2 _ _ _ _ | exact ih3 _ _ _ _ _ _ _ _ | exact ih4 _ _ _ _ _ _ _ _ _ | exact ih5 _ _ _ _ _ _ _ _ _ _ | exact arboristref01_Meet.mono _ _ _ | exact arboristref01_Within.mono _ _ _ | exact arboristref10_Bags.mono _ _ _ | exact LeO.refl _ | exact LeO.none _ | refine LeO.ite ?_ ?_ | refine LeO.bind ?_ (fun _ => ?_))
   | exact ih0 _ _ _ _
   | exact ih1 _ _ _ _ _ _
   | exact ih2 _ _ _ _
   | exact ih3 _ _ _ _ _ _ _ _
   | exact ih4 _ _ _ _ _ _ _ _ _
   | exact ih5 _ _ _ _ _ _ _ _ _ _
   | exact arboristref01_Meet.mono _ _ _
   | exact arboristref01_Within.mono _ _ _
   | exact arboristref10_Bags.mono _ _ _
   | exact LeO.none _
   | refine LeO.ite ?_ ?_
   | refine LeO.bind ?_ (fun _ => ?_)
def arboristref11_Build.T10 : Bool × List (List Nat × List Nat) := (true, [([], []), ([], []), ([0, 1], [0, 1]), ([2], [2]), ([], []), ([], []), ([4, 5], [4, 5]), ([6], [6]), ([3, 7], [3, 7]), ([8, 8, 0, 1, 2, 3, 4, 5, 6, 7, 8], [8])])
def arboristref11_Build.B10 : List Nat := [0, 0, 3, 7, 0, 0, 48, 112, 255, 511]
theorem arboristref11_Build.tab10 : rtab .any (opsOf Tryd.f18 10) = arboristref11_Build.T10 := by kernel_rfl
theorem arboristref11_Build.bits10 : waitsOk arboristref11_Build.T10.2 arboristref11_Build.B10 = true := by kernel_rfl
def arboristref11_Build.T13 : Bool × List (List Nat × List Nat) := (true, [([], []), ([0], [0]), ([], []), ([], []), ([2, 3], [2, 3]), ([4], [4]), ([5], [5]), ([1, 6], [1, 6]), ([0, 1, 2, 3, 4, 5, 6, 7], []), ([8, 7, 7, 0, 1, 2, 3, 4, 5, 6, 7], [7, 8])])
def arboristref11_Build.B13 : List Nat := [0, 1, 0, 0, 12, 28, 60, 127, 255, 511]
theorem arboristref11_Build.tab13 : rtab .any (opsOf Tryd.f18 13) = arboristref11_Build.T13 := by kernel_rfl
theorem arboristref11_Build.bits13 : waitsOk arboristref11_Build.T13.2 arboristref11_Build.B13 = true := by kernel_rfl
def arboristref11_Build.T31 : Bool × List (List Nat × List Nat) := (true, [([], []), ([0], [0]), ([], []), ([1, 2], [1, 2]), ([3], [3]), ([], []), ([5], [5]), ([], []), ([6, 7], [6, 7]), ([8], [8]), ([4, 9], [4, 9]), ([10], [10]), ([11, 10, 0, 1, 2, 3, 4, 5, 6, 7, 8, 9, 10, 11], [11])])
def arboristref11_Build.B31 : List Nat := [0, 1, 0, 7, 15, 0, 32, 0, 224, 480, 1023, 2047, 4095]
theorem arboristref11_Build.tab31 : rtab .any (opsOf Tryd.f18 31) = arboristref11_Build.T31 := by kernel_rfl
theorem arboristref11_Build.bits31 : waitsOk arboristref11_Build.T31.2 arboristref11_Build.B31 = true := by kernel_rfl
set_option maxHeartbeats 8000000 in
set_option maxRecDepth 100000 in
theorem arboristref11_Build.calls (k : Nat) (A0 : Option Addr) (c0 : Nat) (l0 : List (List Bool)) (A1 : Option Addr) (c1 : Nat) (l1 : List Int) (r1 : List (List Int)) (r2 : List Int) (w : World) (hr0 : Kd.C (Kd.slice 4 Kd.bool) w A0 l0.length l0) (hc0 : l0.length ≤ c0) (hr1 : Kd.C (Kd.int .i64) w A1 l1.length l1) (hc1 : l1.length ≤ c1) (h : arboristref11_Build.f k l0 l1 = some (r1, r2)) :
  Calls Tryd.prog 18 #[.slice A0 l0.length c0, .slice A1 l1.length c1] w fun e w' => ∃ v0_ v1_ : Value, e = .returned (.agg #[v0_, v1_]) ∧ Kd.N (Kd.slice 3 (Kd.int .i64)) 23 w' w.heap.size (fun k_ => (w.heap.size ≤ k_) ∧ some k_ ≠ (v1_ : Value).ownBlock) v0_ r1 ∧ Kd.R (Kd.int .i64) 3 w' w.heap.size (fun k_ => (w.heap.size ≤ k_)) v1_ r2 ∧ Below w.heap.size w w' := by
 have hu28 := Tryd.underlying28;have HR0 := Aside0.mk hr0;have HC0 := Aside0.mk hc0;clear hr0 hc0;have HR1 := Aside0.mk hr1;have HC1 := Aside0.mk hc1;clear hr1 hc1;have HB := Aside0.mk (Below.refl w.heap.size w);have H : ((arboristref10_Bags.f k l0 l1).bind fun t554 => (arboristref11_Build.l0 k t554 0 ([] : List (List Int)) ([] : List Int))) = some (r1, r2) := h;clear h;replace H := Option.bind_eq_some_iff.mp H;obtain ⟨t554, A30, H⟩ := H;(try dsimp only at H);have A3 := Aside0.mk A30;clear A30;have H' := Aside0.mk H;clear H;go_enter Tryd.func18, Tryd.ntmps18
 go_wp2_with (first | ((with_reducible refine gate_dst (N := 4) rfl ?_); refine box_event ?hg (N := 4) ?hd (cs := #[.slice none 0 0, .slice none 0 0]) (t := 28) ?hr ?_; (case hd => rfl); (case hg => rfl); (case hr => first | (go_simp; done) | (go_simp; rfl)); intro gb553 hg w4 hbox hb; have n0_ := Aside0.mk (below_step (qB HB.out) hb); have n1_ := Aside0.mk (hbox); have n2_ := Aside0.mk ((by rw [hg]; exact (below_size (qB HB.out)) : w.heap.size ≤ gb553)); have n3_ := Aside0.mk ((by rw [hg]; exact (below_size (qB HB.out)) : w.heap.size ≤ gb553)); clear HB; have HB := n0_; have BK553 := n1_; have GW553 := n2_; have GE553 := n3_; clear n0_ n1_ n2_ n3_; clear hb hbox hg) | ((with_reducible refine gate_callee (f := 26) rfl ?_); refine goesL_ (some 21) rfl rfl Tryd.func26 (by kernel_rfl) rfl #[.slice A0 l0.length c0, .slice A1 l1.length c1] rfl qM ?_; (with_reducible refine (arboristref10_Bags.calls k _ _ l0 _ _ l1 t554 _ ?side1 ?side2 ?side3 ?side4 A3.out).mono ?_); (case side1 => repeat (first | exact (Kd.C_below HR0.out HB.out) | (with_reducible refine Kd.C_alloc ?_ _) | (with_reducible refine Kd.C_drewN ?_ _) | (with_reducible refine Kd.C_drew ?_))); (case side2 => exact HC0.out); (case side3 => repeat (first | exact (Kd.C_below HR1.out HB.out) | (with_reducible refine Kd.C_alloc ?_ _) | (with_reducible refine Kd.C_drewN ?_ _) | (with_reducible refine Kd.C_drew ?_))); (case side4 => exact HC1.out); rintro e w5 ⟨v555, rfl, ho0, hb⟩; refine ⟨_, rfl, ?_⟩; have n0_ := Aside0.mk (Kd.N_lower (Kd.N_mono (ok' := fun k_ => (w.heap.size ≤ k_) ∧ k_ ≠ gb553) (Kd.S_N (Kd.S_bound ho0)) (fun k_ hk_ => ⟨(Nat.le_trans (below_size (by repeat (first | (with_reducible first | exact HB.out | apply below_alloc | apply pw_below_drewN | apply below_drew1 | refine below_set ?_ GE553.out) | exact HB.out))) hk_.2.1), (Kd.freshB (g := gb553) (o := .cells #[.slice none 0 0, .slice none 0 0] 28 (0, 0)) (qK BK553.out) k_ hk_.2.1)⟩)) (below_size (by repeat (first | (with_reducible first | exact HB.out | apply below_alloc | apply pw_below_drewN | apply below_drew1 | refine below_set ?_ GE553.out) | exact HB.out)))); have n1_ := Aside0.mk (blk_below (g := gb553) (o := .cells #[.slice none 0 0, .slice none 0 0] 28 (0, 0)) (qK BK553.out) hb); have n2_ := Aside0.mk (below_step (by repeat (first | (with_reducible first | exact HB.out | apply below_alloc | apply pw_below_drewN | apply below_drew1 | refine below_set ?_ GE553.out) | exact HB.out)) hb); clear BK553; clear HB; have HO556 := n0_; have BK553 := n1_; have HB := n2_; clear n0_ n1_ n2_; (try clear hb); (try clear hb2); (try clear hk); (try clear hi); (try clear ho0)) | ((with_reducible refine gate_dst (N := 6) rfl ?_); refine box_event ?hg (N := 6) ?hd (cs := #[.slice none 0 0, .slice none 0 0]) (t := 28) ?hr ?_; (case hd => rfl); (case hg => rfl); (case hr => first | (go_simp; done) | (go_simp; rfl)); intro gb557 hg w6 hbox hb; have n0_ := Aside0.mk (Kd.N_below (Kd.N_elderB (by (with_reducible repeat (first | apply Kd.N_alloc | apply Kd.N_drewN | apply Kd.N_drew)); exact HO556.out) gb557 (Nat.le_of_eq hg.symm)) hb); have n1_ := Aside0.mk (blk_below (g := gb553) (o := .cells #[.slice none 0 0, .slice none 0 0] 28 (0, 0)) (qK BK553.out) hb); have n2_ := Aside0.mk (below_step (by repeat (first | (with_reducible first | exact HB.out | apply below_alloc | apply pw_below_drewN | apply below_drew1 | refine below_set ?_ GE553.out) | exact HB.out)) hb); have n3_ := Aside0.mk (hbox); have n4_ := Aside0.mk ((by rw [hg]; exact (below_size (by repeat (first | (with_reducible first | exact HB.out | apply below_alloc | apply pw_below_drewN | apply below_drew1 | refine below_set ?_ GE553.out) | exact HB.out))) : w.heap.size ≤ gb557)); have n5_ := Aside0.mk ((by rw [hg]; exact (below_size (by repeat (first | (with_reducible first | exact HB.out | apply below_alloc | apply pw_below_drewN | apply below_drew1 | refine below_set ?_ GE553.out) | exact HB.out))) : w.heap.size ≤ gb557)); have n6_ := Aside0.mk ((by rw [hg]; exact Nat.ne_of_lt (blk_lt (g := gb553) (o := .cells #[.slice none 0 0, .slice none 0 0] 28 (0, 0)) (qK BK553.out)) : gb553 ≠ gb557)); have n7_ := Aside0.mk ((by rw [hg]; exact Nat.ne_of_gt (blk_lt (g := gb553) (o := .cells #[.slice none 0 0, .slice none 0 0] 28 (0, 0)) (qK BK553.out)) : gb557 ≠ gb553)); clear HO556; clear BK553; clear HB; have HO556 := n0_; have BK553 := n1_; have HB := n2_; have BK557 := n3_; have GW557 := n4_; have GE557 := n5_; have NB553_557 := n6_; have NB557_553 := n7_; clear n0_ n1_ n2_ n3_ n4_ n5_ n6_ n7_; clear hb hbox hg; have hnb7 := NB557_553.out; have hnc7 := NB553_557.out; have hcz8_0 : w6.cell? ⟨gb557, 0, none⟩ = some (.slice none 0 0) := (blk_cell BK557.out 0).trans rfl; have hcz8_1 : w6.cell? ⟨gb557, 1, none⟩ = some (.slice none 0 0) := (blk_cell BK557.out 1).trans rfl; have hfz8_0 := blk_frozen BK557.out 0; have hfz8_1 := blk_frozen BK557.out 1))
 go_loopg [7] k (fun kq v7 w' => ∃ (x7_1 : Int) (x558000_1 : List (List Int)) (x558001_1 : List Int) (u558000 : Value) (u558001 : Value), v7 = .int .i64 x7_1 ∧ Aside0 (arboristref11_Build.l0 kq t554 x7_1 x558000_1 x558001_1 = some (r1, r2)) ∧ Aside0 (kq ≤ k) ∧ Aside0 (Kd.N (Kd.slice 3 (Kd.int .i64)) 23 w' w.heap.size (fun k_ => (w.heap.size ≤ k_) ∧ some k_ ≠ (u558000 : Value).ownBlock ∧ some k_ ≠ (u558001 : Value).ownBlock ∧ k_ ≠ gb553 ∧ k_ ≠ gb557) v555 t554) ∧ Aside0 (Kd.N (Kd.slice 3 (Kd.int .i64)) 23 w' w.heap.size (fun k_ => (w.heap.size ≤ k_) ∧ some k_ ≠ (v555 : Value).ownBlock ∧ some k_ ≠ (u558001 : Value).ownBlock ∧ k_ ≠ gb553 ∧ k_ ≠ gb557) u558000 x558000_1) ∧ Aside0 (Kd.R (Kd.int .i64) 3 w' w.heap.size (fun k_ => (w.heap.size ≤ k_)) u558001 x558001_1) ∧ Aside0 (w'.heap[gb553]? = some (.cells #[(.slice none 0 0), (.slice none 0 0)] 28 (0, 0))) ∧ Aside0 (w'.heap[gb557]? = some (.cells #[u558000, u558001] 28 (0, 0))) ∧ Aside0 (Below w.heap.size w w'))
 case atStart => exact ⟨(0), (([] : List (List Int))), (([] : List Int)), (.slice none 0 0), (.slice none 0 0), (by first | rfl | (simp; done) | (simp [*]; done)), H', ⟨Nat.le_refl _⟩, ⟨by (with_reducible repeat (first | apply Kd.N_alloc | apply Kd.N_drewN | apply Kd.N_drew)); exact Kd.N_mono (Kd.N_far (p := ⟨gb557, 1, none⟩) (Kd.N_far (p := ⟨gb557, 0, none⟩) (Kd.N_mono HO556.out (fun k_ hk => (⟨hk, hk.2⟩ : _ ∧ k_ ≠ gb557))) (fun _ hk => hk.2) (.slice none 0 0)) (fun _ hk => hk.2) (.slice none 0 0)) (fun _ hk => ⟨hk.1.1.1, ⟨(by simp [Value.ownBlock]), ⟨(by simp [Value.ownBlock]), ⟨hk.1.1.2, hk.1.2⟩⟩⟩⟩)⟩, ⟨by first | exact Kd.S_nil _ _ _ _ _ | exact Kd.N_nil _ _ _ _ _ | exact Kd.V_nil _ _ _ _ _ | exact Kd.Q_nil _ _ _ _ _ | exact Kd.R_nil _ _ _ _ _⟩, ⟨by first | exact Kd.R_nil _ _ _ _ _ | exact Kd.N_nil _ _ _ _ _ | exact Kd.V_nil _ _ _ _ _ | exact Kd.Q_nil _ _ _ _ _ | exact Kd.S_nil _ _ _ _ _⟩, ⟨by (with_reducible repeat (first | refine blk_drewN ?_ _ | refine blk_drew ?_ | refine blk_alloc ?_ _)); refine blk_far ?_ NB553_557.out _; (with_reducible repeat (first | refine blk_drewN ?_ _ | refine blk_drew ?_ | refine blk_alloc ?_ _)); refine blk_far ?_ NB553_557.out _; (with_reducible repeat (first | refine blk_drewN ?_ _ | refine blk_drew ?_ | refine blk_alloc ?_ _)); exact BK553.out⟩, ⟨by (with_reducible repeat (first | refine blk_drewN ?_ _ | refine blk_drew ?_ | refine blk_alloc ?_ _)); refine blk_put (cs := #[.slice none 0 0, .slice none 0 0]) ?_ 1 _ rfl; (with_reducible repeat (first | refine blk_drewN ?_ _ | refine blk_drew ?_ | refine blk_alloc ?_ _)); refine blk_put (cs := #[.slice none 0 0, .slice none 0 0]) ?_ 0 _ rfl; (with_reducible repeat (first | refine blk_drewN ?_ _ | refine blk_drew ?_ | refine blk_alloc ?_ _)); exact BK557.out⟩, ⟨by repeat (first | (with_reducible first | exact HB.out | apply below_alloc | apply pw_below_drewN | apply below_drew1 | refine below_set ?_ GE553.out | refine below_set ?_ GE557.out) | exact HB.out)⟩⟩
 case round =>
  clear H';try clear c1
  try clear c2
  try clear p2
  try clear c7
  try clear hcz8_0
  try clear hcz8_1
  try clear hfz8_0
  try clear hfz8_1
  obtain ⟨x7_1, x558000_1, x558001_1, u558000, u558001, rfl, HA, HK1, HO_5, HO_558000, HO_558001, BK553, BK557, HB⟩ := hrel;cases gk with
  | zero => exact absurd HA.out (by simp [arboristref11_Build.l0])
  | succ k1 =>
   have H := HA.out;clear HA;simp only [arboristref11_Build.l0] at H
   by_cases c9 : x7_1 < (t554.length : Int)
   ·rw [if_pos c9] at H
    have c9b0 : decide (x7_1 < (t554.length : Int)) = true := decide_eq_true c9;clear c9;have H' := Aside0.mk H;clear H;obtain ⟨Ao10, co10, eo10⟩ := Kd.N_slice HO_5.out;subst eo10;go_wp2
    go_loopg [8, 9] k1 (fun kq v8 v9 w' => ∃ (x8_2 : Bool) (x9_2 : Int), v8 = .bool x8_2 ∧ v9 = .int .i64 x9_2 ∧ Aside0 (arboristref11_Build.l1 kq t554 x7_1 x8_2 x9_2 x558000_1 x558001_1 = some (r1, r2)) ∧ Aside0 (kq ≤ k1) ∧ Aside0 (Kd.N (Kd.slice 3 (Kd.int .i64)) 23 w' w.heap.size (fun k_ => (w.heap.size ≤ k_) ∧ some k_ ≠ (u558000 : Value).ownBlock ∧ some k_ ≠ (u558001 : Value).ownBlock ∧ k_ ≠ gb553 ∧ k_ ≠ gb557) (.slice Ao10 t554.length co10) t554) ∧ Aside0 (Kd.N (Kd.slice 3 (Kd.int .i64)) 23 w' w.heap.size (fun k_ => (w.heap.size ≤ k_) ∧ some k_ ≠ ((.slice Ao10 t554.length co10) : Value).ownBlock ∧ some k_ ≠ (u558001 : Value).ownBlock ∧ k_ ≠ gb553 ∧ k_ ≠ gb557) u558000 x558000_1) ∧ Aside0 (Kd.R (Kd.int .i64) 3 w' w.heap.size (fun k_ => (w.heap.size ≤ k_)) u558001 x558001_1) ∧ Aside0 (w'.heap[gb553]? = some (.cells #[(.slice none 0 0), (.slice none 0 0)] 28 (0, 0))) ∧ Aside0 (w'.heap[gb557]? = some (.cells #[u558000, u558001] 28 (0, 0))) ∧ Aside0 (Below w.heap.size w w'))
    case atStart => exact ⟨(true), (0), (by first | rfl | (simp; done) | (simp [*]; done)), (by first | rfl | (simp; done) | (simp [*]; done)), H', ⟨Nat.le_refl _⟩, ⟨by (with_reducible repeat (first | apply Kd.N_alloc | apply Kd.N_drewN | apply Kd.N_drew)); exact HO_5.out⟩, ⟨by (with_reducible repeat (first | apply Kd.N_alloc | apply Kd.N_drewN | apply Kd.N_drew)); exact HO_558000.out⟩, ⟨by (with_reducible repeat (first | apply Kd.R_alloc | apply Kd.R_drewN | apply Kd.R_drew)); exact HO_558001.out⟩, ⟨by (with_reducible repeat (first | refine blk_drewN ?_ _ | refine blk_drew ?_ | refine blk_alloc ?_ _)); exact BK553.out⟩, ⟨by (with_reducible repeat (first | refine blk_drewN ?_ _ | refine blk_drew ?_ | refine blk_alloc ?_ _)); exact BK557.out⟩, ⟨by repeat (first | (with_reducible first | exact HB.out | apply below_alloc | apply pw_below_drewN | apply below_drew1 | refine below_set ?_ GE553.out | refine below_set ?_ GE557.out) | exact HB.out)⟩⟩
    case round =>
     clear H';try clear c1
     try clear c2
     try clear p2
     try clear c7
     try clear c9
     try clear c9b0
     try clear hcz8_0
     try clear hcz8_1
     try clear hfz8_0
     try clear hfz8_1
     try clear p2
     obtain ⟨x8_2, x9_2, rfl, rfl, HA, HK2, HO_5, HO_558000, HO_558001, BK553, BK557, HB⟩ := hrel;cases gk with
     | zero => exact absurd HA.out (by simp [arboristref11_Build.l1])
     | succ k2 =>
      have H := HA.out;clear HA;simp only [arboristref11_Build.l1] at H
      by_cases c11 : x9_2 < x7_1
      ·rw [if_pos c11] at H
       have c11b0 : decide (x9_2 < x7_1) = true := decide_eq_true c11;clear c11;by_cases c12 : 0 ≤ x7_1
       ·rw [if_pos c12] at H
        have c12b0 : decide (0 ≤ x7_1) = true := decide_eq_true c12;clear c12;by_cases c13 : x7_1 < (t554.length : Int)
        ·rw [if_pos c13] at H
         have c13b0 : decide (x7_1 < (t554.length : Int)) = true := decide_eq_true c13;clear c13;by_cases c14 : 0 ≤ x9_2
         ·rw [if_pos c14] at H
          have c14b0 : decide (0 ≤ x9_2) = true := decide_eq_true c14;clear c14;by_cases c15 : x9_2 < (t554.length : Int)
          ·rw [if_pos c15] at H
           have c15b0 : decide (x9_2 < (t554.length : Int)) = true := decide_eq_true c15;clear c15;replace H := Option.bind_eq_some_iff.mp H;obtain ⟨t560, A160, H⟩ := H;(try dsimp only at H);have A16 := Aside0.mk A160;clear A160;by_cases c17 : x8_2 = true
           ·subst c17;replace H : (arboristref11_Build.l1 k2 t554 x7_1 (!t560) (wrap64 (x9_2 + 1)) x558000_1 x558001_1) = some (r1, r2) := by rw [if_pos rfl] at H; exact H
            have H' := Aside0.mk H;clear H;try go_wp2
            replace HO_5 := Aside0.mk (Kd.N_drew HO_5.out);replace HO_558000 := Aside0.mk (Kd.N_drew HO_558000.out);replace HO_558001 := Aside0.mk (Kd.R_drew HO_558001.out);replace BK553 := Aside0.mk (blk_drew BK553.out);replace BK557 := Aside0.mk (blk_drew BK557.out);replace HB := Aside0.mk (below_drew1 HB.out);have p558 : 0 ≤ (x7_1 : Int) := of_decide_eq_true qA;have q558 : x7_1 < (t554.length : Int) := of_decide_eq_true qA;obtain ⟨ad558, A558_0, c558_0, e558, hx558_0, hl558_0, hi558_0⟩ := at_L1 (Kd.N_reads' HO_5.out).2.2 x7_1 p558 q558;cases e558
            obtain ⟨ce558, hce558, hMe558, hcc558⟩ := Kd.N_get HO_5.out [] x7_1 p558 (by first | exact q558 | exact of_decide_eq_true qA | (have e_ := (Kd.N_reads' HO_5.out).1; omega));obtain ⟨ua558_0, uc558_0, rfl, ul558_0, ge558_0⟩ := Kd.FK_slice_open hMe558;have hv558_0 := hcc558 0 _ rfl;rw [Nat.add_zero, show ((Kd.slice 3 (Kd.int .i64))).sz = 1 from rfl, Nat.mul_one] at hv558_0
            replace hv558_0 := Option.some.inj (hv558_0.symm.trans hx558_0);injection hv558_0 with hva_ hvn_ hvc_
            rw [hva_] at ge558_0
            rw [hvc_] at ul558_0
            have HL558_0 := Aside0.mk (show Kd.V (Kd.int .i64) 3 _ w.heap.size _ _ (rd_L1 t554 x7_1) from Kd.V_mk ul558_0 ge558_0);clear hva_ hvn_ hvc_ ge558_0 ul558_0;clear hcc558 hce558;have HR558_0 := Aside0.mk hi558_0;have HC558_0 := Aside0.mk hl558_0;clear hi558_0 hl558_0;replace p558 := eq_true p558;replace q558 := eq_true q558;have p559 : 0 ≤ (x9_2 : Int) := of_decide_eq_true qA;have q559 : x9_2 < (t554.length : Int) := of_decide_eq_true qA;obtain ⟨ad559, A559_0, c559_0, e559, hx559_0, hl559_0, hi559_0⟩ := at_L1 (Kd.N_reads' HO_5.out).2.2 x9_2 p559 q559;obtain rfl : ad558 = ad559 := (by injection e559);obtain ⟨ce559, hce559, hMe559, hcc559⟩ := Kd.N_get HO_5.out [] x9_2 p559 (by first | exact q559 | exact of_decide_eq_true qA | (have e_ := (Kd.N_reads' HO_5.out).1; omega));obtain ⟨ua559_0, uc559_0, rfl, ul559_0, ge559_0⟩ := Kd.FK_slice_open hMe559;have hv559_0 := hcc559 0 _ rfl;rw [Nat.add_zero, show ((Kd.slice 3 (Kd.int .i64))).sz = 1 from rfl, Nat.mul_one] at hv559_0
            replace hv559_0 := Option.some.inj (hv559_0.symm.trans hx559_0);injection hv559_0 with hva_ hvn_ hvc_
            rw [hva_] at ge559_0
            rw [hvc_] at ul559_0
            have HL559_0 := Aside0.mk (show Kd.V (Kd.int .i64) 3 _ w.heap.size _ _ (rd_L1 t554 x9_2) from Kd.V_mk ul559_0 ge559_0);clear hva_ hvn_ hvc_ ge559_0 ul559_0;clear hcc559 hce559;have HR559_0 := Aside0.mk hi559_0;have HC559_0 := Aside0.mk hl559_0;clear hi559_0 hl559_0;replace p559 := eq_true p559;replace q559 := eq_true q559;refine start_ (n := 10) (S := fun w' => w'.cell? (ad558.add (x7_1).toNat) = some (.slice A558_0 (rd_L1 t554 x7_1).length c558_0) ∧ w'.cell? (ad558.add (x9_2).toNat) = some (.slice A559_0 (rd_L1 t554 x9_2).length c559_0)) (ds := []) (bs 10 0) (by kernel_rfl) rfl rfl ⟨hx558_0, hx559_0⟩ (fun hHeld => ?_); refine with_tabW arboristref11_Build.tab10 arboristref11_Build.bits10 (fun HT_ HW_ => ?_)
            generalize wr.drew = w18 at HO_5 HO_558000 HO_558001 BK553 BK557 HB HL558_0 HL559_0 HR558_0 HR559_0 hx558_0 hx559_0 hHeld ⊢
            refine qP 0 (some 34) (bs 10 1) HT_.out ?_;refine qP 1 (some 35) (bs 10 3) HT_.out ?_;refine qP 2 (some 36) (bs 10 7) HT_.out ?_;refine qP 4 (some 38) (bs 10 23) HT_.out ?_;refine qP 5 (some 39) (bs 10 55) HT_.out ?_;refine qP 6 (some 40) (bs 10 119) HT_.out ?_;refine take_ (i := 3) (N := some 37) (v := ?_) (a' := ?_) (bs 10 127) rfl rfl (take_ofW HT_.out HW_.out (by kernel_rfl)) (fun _ _ _ h => h) (Or.inl ⟨by rfl, ?_⟩) hHeld ?_ ?_;rotate_left
            ·rintro w' ⟨s0, s1⟩
             go_simp
             with_reducible rfl
            rotate_left; (simp only [Act.put, List.setIfInBounds_toArray, List.set_cons_zero, List.set_cons_succ, i64_w, i32_w]; rfl)
            refine take_ (i := 7) (N := some 41) (v := ?_) (a' := ?_) (bs 10 255) rfl rfl (take_ofW HT_.out HW_.out (by kernel_rfl)) (fun _ _ _ h => h) (Or.inl ⟨by rfl, ?_⟩) hHeld ?_ ?_;rotate_left
            ·rintro w' ⟨s0, s1⟩
             go_simp
             with_reducible rfl
            rotate_left; (simp only [Act.put, List.setIfInBounds_toArray, List.set_cons_zero, List.set_cons_succ, i64_w, i32_w]; rfl)
            refine one_ (i := 8) (N := some 42) (bs 10 511) rfl rfl (one_of HT_.out (by kernel_rfl)) (by decide) (fun K hK => ?_);refine goes_ Tryd.func21 (by kernel_rfl) rfl #[.slice A558_0 (rd_L1 t554 x7_1).length c558_0, .slice A559_0 (rd_L1 t554 x9_2).length c559_0] (by rfl) rfl rfl qM ?_;with_reducible refine (arboristref01_Within.calls k2 _ _ (rd_L1 t554 x7_1) _ _ (rd_L1 t554 x9_2) t560 _ ?side1 ?side2 ?side3 ?side4 A16.out).mono ?_
            (case side1 => repeat (first | exact (by repeat (first | (with_reducible exact HR558_0.out) | (with_reducible refine Kd.C_alloc ?_ _) | (with_reducible refine Kd.C_drewN ?_ _) | (with_reducible refine Kd.C_drew ?_) | exact HR558_0.out)) | (with_reducible refine Kd.C_alloc ?_ _) | (with_reducible refine Kd.C_drewN ?_ _) | (with_reducible refine Kd.C_drew ?_)));(case side2 => exact HC558_0.out);(case side3 => repeat (first | exact (by repeat (first | (with_reducible exact HR559_0.out) | (with_reducible refine Kd.C_alloc ?_ _) | (with_reducible refine Kd.C_drewN ?_ _) | (with_reducible refine Kd.C_drew ?_) | exact HR559_0.out)) | (with_reducible refine Kd.C_alloc ?_ _) | (with_reducible refine Kd.C_drewN ?_ _) | (with_reducible refine Kd.C_drew ?_)));(case side4 => exact HC559_0.out);rintro e w19 ⟨rfl, hb⟩
            have HS0_ := (hb.cell (World.block_lt_of_cell? _ _ (hHeld.1))).trans (hHeld.1);have HS1_ := (hb.cell (World.block_lt_of_cell? _ _ (hHeld.2))).trans (hHeld.2);refine ⟨_, rfl, ?_⟩;replace HO_5 := Aside0.mk (Kd.N_below (by (with_reducible repeat (first | apply Kd.N_alloc | apply Kd.N_drewN | apply Kd.N_drew)); exact HO_5.out) hb);replace HO_558000 := Aside0.mk (Kd.N_below (by (with_reducible repeat (first | apply Kd.N_alloc | apply Kd.N_drewN | apply Kd.N_drew)); exact HO_558000.out) hb);replace HO_558001 := Aside0.mk (Kd.R_below (qR HO_558001.out) hb);replace HL558_0 := Aside0.mk (Kd.V_below (by (with_reducible repeat (first | apply Kd.V_alloc | apply Kd.V_drewN | apply Kd.V_drew)); exact HL558_0.out) hb);replace HL559_0 := Aside0.mk (Kd.V_below (by (with_reducible repeat (first | apply Kd.V_alloc | apply Kd.V_drewN | apply Kd.V_drew)); exact HL559_0.out) hb);replace BK553 := Aside0.mk (blk_below (g := gb553) (o := .cells #[.slice none 0 0, .slice none 0 0] 28 (0, 0)) (qK BK553.out) hb);replace BK557 := Aside0.mk (blk_below (g := gb557) (o := .cells #[u558000, u558001] 28 (0, 0)) (qK BK557.out) hb);replace HR558_0 := Aside0.mk (Kd.C_below (by repeat (first | (with_reducible exact HR558_0.out) | (with_reducible refine Kd.C_alloc ?_ _) | (with_reducible refine Kd.C_drewN ?_ _) | (with_reducible refine Kd.C_drew ?_) | exact HR558_0.out)) hb);replace HR559_0 := Aside0.mk (Kd.C_below (by repeat (first | (with_reducible exact HR559_0.out) | (with_reducible refine Kd.C_alloc ?_ _) | (with_reducible refine Kd.C_drewN ?_ _) | (with_reducible refine Kd.C_drew ?_) | exact HR559_0.out)) hb);replace HB := Aside0.mk (below_step (qB2 GE553.out GE557.out HB.out) hb);(try clear hb);(try clear hb2);(try clear hk);(try clear hi);refine hK.out _ _ ⟨HS0_, HS1_⟩ (fun hHeld => ?_);clear hK K;refine norm_ (a' := ?_) ?_ ?_;rotate_left
            ·show Act.put _ (some 42) _ = _
             simp only [Act.put, List.setIfInBounds_toArray, List.set_cons_zero, List.set_cons_succ, i64_w, i32_w]
             rfl
            refine qP 9 (some 10) (bs 10 1023) HT_.out ?_;refine done_ (done_of HT_.out (by kernel_rfl)) ?_;try go_wp2
            go_roundg k2
            case measure => have := HK1.out; have := HK2.out; omega
            case rel => exact ⟨(!t560), (wrap64 (x9_2 + 1)), (by first | rfl | (simp; done) | (simp [*]; done)), (by first | rfl | (simp; done) | (simp [*]; done)), H', ⟨by have := HK1.out; have := HK2.out; omega⟩, ⟨by (with_reducible repeat (first | apply Kd.N_alloc | apply Kd.N_drewN | apply Kd.N_drew)); exact HO_5.out⟩, ⟨by (with_reducible repeat (first | apply Kd.N_alloc | apply Kd.N_drewN | apply Kd.N_drew)); exact HO_558000.out⟩, ⟨by (with_reducible repeat (first | apply Kd.R_alloc | apply Kd.R_drewN | apply Kd.R_drew)); exact HO_558001.out⟩, ⟨by (with_reducible repeat (first | refine blk_drewN ?_ _ | refine blk_drew ?_ | refine blk_alloc ?_ _)); exact BK553.out⟩, ⟨by (with_reducible repeat (first | refine blk_drewN ?_ _ | refine blk_drew ?_ | refine blk_alloc ?_ _)); exact BK557.out⟩, ⟨by repeat (first | (with_reducible first | exact HB.out | apply below_alloc | apply pw_below_drewN | apply below_drew1 | refine below_set ?_ GE553.out | refine below_set ?_ GE557.out) | exact HB.out)⟩⟩
           ·replace c17 := Bool.eq_false_iff.mpr c17;subst c17;replace H : (arboristref11_Build.l1 k2 t554 x7_1 false (wrap64 (x9_2 + 1)) x558000_1 x558001_1) = some (r1, r2) := by rw [if_neg (show ¬ (false = true) by decide)] at H; exact H
            have H' := Aside0.mk H;clear H;try go_wp2
            replace HO_5 := Aside0.mk (Kd.N_drew HO_5.out);replace HO_558000 := Aside0.mk (Kd.N_drew HO_558000.out);replace HO_558001 := Aside0.mk (Kd.R_drew HO_558001.out);replace BK553 := Aside0.mk (blk_drew BK553.out);replace BK557 := Aside0.mk (blk_drew BK557.out);replace HB := Aside0.mk (below_drew1 HB.out);have p558 : 0 ≤ (x7_1 : Int) := of_decide_eq_true qA;have q558 : x7_1 < (t554.length : Int) := of_decide_eq_true qA;obtain ⟨ad558, A558_0, c558_0, e558, hx558_0, hl558_0, hi558_0⟩ := at_L1 (Kd.N_reads' HO_5.out).2.2 x7_1 p558 q558;cases e558
            obtain ⟨ce558, hce558, hMe558, hcc558⟩ := Kd.N_get HO_5.out [] x7_1 p558 (by first | exact q558 | exact of_decide_eq_true qA | (have e_ := (Kd.N_reads' HO_5.out).1; omega));obtain ⟨ua558_0, uc558_0, rfl, ul558_0, ge558_0⟩ := Kd.FK_slice_open hMe558;have hv558_0 := hcc558 0 _ rfl;rw [Nat.add_zero, show ((Kd.slice 3 (Kd.int .i64))).sz = 1 from rfl, Nat.mul_one] at hv558_0
            replace hv558_0 := Option.some.inj (hv558_0.symm.trans hx558_0);injection hv558_0 with hva_ hvn_ hvc_
            rw [hva_] at ge558_0
            rw [hvc_] at ul558_0
            have HL558_0 := Aside0.mk (show Kd.V (Kd.int .i64) 3 _ w.heap.size _ _ (rd_L1 t554 x7_1) from Kd.V_mk ul558_0 ge558_0);clear hva_ hvn_ hvc_ ge558_0 ul558_0;clear hcc558 hce558;have HR558_0 := Aside0.mk hi558_0;have HC558_0 := Aside0.mk hl558_0;clear hi558_0 hl558_0;replace p558 := eq_true p558;replace q558 := eq_true q558;have p559 : 0 ≤ (x9_2 : Int) := of_decide_eq_true qA;have q559 : x9_2 < (t554.length : Int) := of_decide_eq_true qA;obtain ⟨ad559, A559_0, c559_0, e559, hx559_0, hl559_0, hi559_0⟩ := at_L1 (Kd.N_reads' HO_5.out).2.2 x9_2 p559 q559;obtain rfl : ad558 = ad559 := (by injection e559);obtain ⟨ce559, hce559, hMe559, hcc559⟩ := Kd.N_get HO_5.out [] x9_2 p559 (by first | exact q559 | exact of_decide_eq_true qA | (have e_ := (Kd.N_reads' HO_5.out).1; omega));obtain ⟨ua559_0, uc559_0, rfl, ul559_0, ge559_0⟩ := Kd.FK_slice_open hMe559;have hv559_0 := hcc559 0 _ rfl;rw [Nat.add_zero, show ((Kd.slice 3 (Kd.int .i64))).sz = 1 from rfl, Nat.mul_one] at hv559_0
            replace hv559_0 := Option.some.inj (hv559_0.symm.trans hx559_0);injection hv559_0 with hva_ hvn_ hvc_
            rw [hva_] at ge559_0
            rw [hvc_] at ul559_0
            have HL559_0 := Aside0.mk (show Kd.V (Kd.int .i64) 3 _ w.heap.size _ _ (rd_L1 t554 x9_2) from Kd.V_mk ul559_0 ge559_0);clear hva_ hvn_ hvc_ ge559_0 ul559_0;clear hcc559 hce559;have HR559_0 := Aside0.mk hi559_0;have HC559_0 := Aside0.mk hl559_0;clear hi559_0 hl559_0;replace p559 := eq_true p559;replace q559 := eq_true q559;refine start_ (n := 10) (S := fun w' => w'.cell? (ad558.add (x7_1).toNat) = some (.slice A558_0 (rd_L1 t554 x7_1).length c558_0) ∧ w'.cell? (ad558.add (x9_2).toNat) = some (.slice A559_0 (rd_L1 t554 x9_2).length c559_0)) (ds := []) (bs 10 0) (by kernel_rfl) rfl rfl ⟨hx558_0, hx559_0⟩ (fun hHeld => ?_); refine with_tabW arboristref11_Build.tab10 arboristref11_Build.bits10 (fun HT_ HW_ => ?_)
            generalize wr.drew = w20 at HO_5 HO_558000 HO_558001 BK553 BK557 HB HL558_0 HL559_0 HR558_0 HR559_0 hx558_0 hx559_0 hHeld ⊢
            refine qP 0 (some 34) (bs 10 1) HT_.out ?_;refine qP 1 (some 35) (bs 10 3) HT_.out ?_;refine qP 2 (some 36) (bs 10 7) HT_.out ?_;refine qP 4 (some 38) (bs 10 23) HT_.out ?_;refine qP 5 (some 39) (bs 10 55) HT_.out ?_;refine qP 6 (some 40) (bs 10 119) HT_.out ?_;refine take_ (i := 3) (N := some 37) (v := ?_) (a' := ?_) (bs 10 127) rfl rfl (take_ofW HT_.out HW_.out (by kernel_rfl)) (fun _ _ _ h => h) (Or.inl ⟨by rfl, ?_⟩) hHeld ?_ ?_;rotate_left
            ·rintro w' ⟨s0, s1⟩
             go_simp
             with_reducible rfl
            rotate_left; (simp only [Act.put, List.setIfInBounds_toArray, List.set_cons_zero, List.set_cons_succ, i64_w, i32_w]; rfl)
            refine take_ (i := 7) (N := some 41) (v := ?_) (a' := ?_) (bs 10 255) rfl rfl (take_ofW HT_.out HW_.out (by kernel_rfl)) (fun _ _ _ h => h) (Or.inl ⟨by rfl, ?_⟩) hHeld ?_ ?_;rotate_left
            ·rintro w' ⟨s0, s1⟩
             go_simp
             with_reducible rfl
            rotate_left; (simp only [Act.put, List.setIfInBounds_toArray, List.set_cons_zero, List.set_cons_succ, i64_w, i32_w]; rfl)
            refine one_ (i := 8) (N := some 42) (bs 10 511) rfl rfl (one_of HT_.out (by kernel_rfl)) (by decide) (fun K hK => ?_);refine goes_ Tryd.func21 (by kernel_rfl) rfl #[.slice A558_0 (rd_L1 t554 x7_1).length c558_0, .slice A559_0 (rd_L1 t554 x9_2).length c559_0] (by rfl) rfl rfl qM ?_;with_reducible refine (arboristref01_Within.calls k2 _ _ (rd_L1 t554 x7_1) _ _ (rd_L1 t554 x9_2) t560 _ ?side1 ?side2 ?side3 ?side4 A16.out).mono ?_
            (case side1 => repeat (first | exact (by repeat (first | (with_reducible exact HR558_0.out) | (with_reducible refine Kd.C_alloc ?_ _) | (with_reducible refine Kd.C_drewN ?_ _) | (with_reducible refine Kd.C_drew ?_) | exact HR558_0.out)) | (with_reducible refine Kd.C_alloc ?_ _) | (with_reducible refine Kd.C_drewN ?_ _) | (with_reducible refine Kd.C_drew ?_)));(case side2 => exact HC558_0.out);(case side3 => repeat (first | exact (by repeat (first | (with_reducible exact HR559_0.out) | (with_reducible refine Kd.C_alloc ?_ _) | (with_reducible refine Kd.C_drewN ?_ _) | (with_reducible refine Kd.C_drew ?_) | exact HR559_0.out)) | (with_reducible refine Kd.C_alloc ?_ _) | (with_reducible refine Kd.C_drewN ?_ _) | (with_reducible refine Kd.C_drew ?_)));(case side4 => exact HC559_0.out);rintro e w21 ⟨rfl, hb⟩
            have HS0_ := (hb.cell (World.block_lt_of_cell? _ _ (hHeld.1))).trans (hHeld.1);have HS1_ := (hb.cell (World.block_lt_of_cell? _ _ (hHeld.2))).trans (hHeld.2);refine ⟨_, rfl, ?_⟩;replace HO_5 := Aside0.mk (Kd.N_below (by (with_reducible repeat (first | apply Kd.N_alloc | apply Kd.N_drewN | apply Kd.N_drew)); exact HO_5.out) hb);replace HO_558000 := Aside0.mk (Kd.N_below (by (with_reducible repeat (first | apply Kd.N_alloc | apply Kd.N_drewN | apply Kd.N_drew)); exact HO_558000.out) hb);replace HO_558001 := Aside0.mk (Kd.R_below (qR HO_558001.out) hb);replace HL558_0 := Aside0.mk (Kd.V_below (by (with_reducible repeat (first | apply Kd.V_alloc | apply Kd.V_drewN | apply Kd.V_drew)); exact HL558_0.out) hb);replace HL559_0 := Aside0.mk (Kd.V_below (by (with_reducible repeat (first | apply Kd.V_alloc | apply Kd.V_drewN | apply Kd.V_drew)); exact HL559_0.out) hb);replace BK553 := Aside0.mk (blk_below (g := gb553) (o := .cells #[.slice none 0 0, .slice none 0 0] 28 (0, 0)) (qK BK553.out) hb);replace BK557 := Aside0.mk (blk_below (g := gb557) (o := .cells #[u558000, u558001] 28 (0, 0)) (qK BK557.out) hb);replace HR558_0 := Aside0.mk (Kd.C_below (by repeat (first | (with_reducible exact HR558_0.out) | (with_reducible refine Kd.C_alloc ?_ _) | (with_reducible refine Kd.C_drewN ?_ _) | (with_reducible refine Kd.C_drew ?_) | exact HR558_0.out)) hb);replace HR559_0 := Aside0.mk (Kd.C_below (by repeat (first | (with_reducible exact HR559_0.out) | (with_reducible refine Kd.C_alloc ?_ _) | (with_reducible refine Kd.C_drewN ?_ _) | (with_reducible refine Kd.C_drew ?_) | exact HR559_0.out)) hb);replace HB := Aside0.mk (below_step (qB2 GE553.out GE557.out HB.out) hb);(try clear hb);(try clear hb2);(try clear hk);(try clear hi);refine hK.out _ _ ⟨HS0_, HS1_⟩ (fun hHeld => ?_);clear hK K;refine norm_ (a' := ?_) ?_ ?_;rotate_left
            ·show Act.put _ (some 42) _ = _
             simp only [Act.put, List.setIfInBounds_toArray, List.set_cons_zero, List.set_cons_succ, i64_w, i32_w]
             rfl
            refine qP 9 (some 10) (bs 10 1023) HT_.out ?_;refine done_ (done_of HT_.out (by kernel_rfl)) ?_;try go_wp2
            go_roundg k2
            case measure => have := HK1.out; have := HK2.out; omega
            case rel => exact ⟨(false), (wrap64 (x9_2 + 1)), (by first | rfl | (simp; done) | (simp [*]; done)), (by first | rfl | (simp; done) | (simp [*]; done)), H', ⟨by have := HK1.out; have := HK2.out; omega⟩, ⟨by (with_reducible repeat (first | apply Kd.N_alloc | apply Kd.N_drewN | apply Kd.N_drew)); exact HO_5.out⟩, ⟨by (with_reducible repeat (first | apply Kd.N_alloc | apply Kd.N_drewN | apply Kd.N_drew)); exact HO_558000.out⟩, ⟨by (with_reducible repeat (first | apply Kd.R_alloc | apply Kd.R_drewN | apply Kd.R_drew)); exact HO_558001.out⟩, ⟨by (with_reducible repeat (first | refine blk_drewN ?_ _ | refine blk_drew ?_ | refine blk_alloc ?_ _)); exact BK553.out⟩, ⟨by (with_reducible repeat (first | refine blk_drewN ?_ _ | refine blk_drew ?_ | refine blk_alloc ?_ _)); exact BK557.out⟩, ⟨by repeat (first | (with_reducible first | exact HB.out | apply below_alloc | apply pw_below_drewN | apply below_drew1 | refine below_set ?_ GE553.out | refine below_set ?_ GE557.out) | exact HB.out)⟩⟩
          ·rw [if_neg c15] at H
           exact absurd H (by simp)
         ·rw [if_neg c14] at H
          exact absurd H (by simp)
        ·rw [if_neg c13] at H
         exact absurd H (by simp)
       ·rw [if_neg c12] at H
        exact absurd H (by simp)
      ·rw [if_neg c11] at H
       have c11b0 : decide (x9_2 < x7_1) = false := decide_eq_false c11;clear c11;by_cases c22 : x8_2 = true
       ·subst c22;replace H : (if 0 ≤ x7_1 then (if x7_1 < (t554.length : Int) then (if x558000_1.length < 5864062014805 then (if x558001_1.length < 17592186044416 then (arboristref11_Build.l0 k2 t554 (wrap64 (x7_1 + 1)) (x558000_1 ++ [rd_L1 t554 x7_1]) (x558001_1 ++ [(-1)])) else (none)) else (none)) else (none)) else (none)) = some (r1, r2) := by rw [if_pos rfl] at H; exact H
        by_cases c23 : 0 ≤ x7_1
        ·rw [if_pos c23] at H
         have c23b0 : decide (0 ≤ x7_1) = true := decide_eq_true c23;clear c23;by_cases c24 : x7_1 < (t554.length : Int)
         ·rw [if_pos c24] at H
          have c24b0 : decide (x7_1 < (t554.length : Int)) = true := decide_eq_true c24;clear c24;by_cases c25 : x558000_1.length < 5864062014805
          ·rw [if_pos c25] at H
           have LMc25 := Aside0.mk c25;clear c25;obtain ⟨y562, hy562⟩ : ∃ y_ : List (List Int), y_ = (x558000_1 ++ [rd_L1 t554 x7_1]) := ⟨_, rfl⟩;replace H : (if x558001_1.length < 17592186044416 then (arboristref11_Build.l0 k2 t554 (wrap64 (x7_1 + 1)) y562 (x558001_1 ++ [(-1)])) else (none)) = some (r1, r2) := by first | (rw [hy562]; with_reducible exact H) | (have H2_ := (Option.bind_some _ _).symm.trans H; rw [hy562]; with_reducible exact H2_) | (have H2_ := (Option.bind_some _ _).symm.trans H; with_reducible exact H2_) | with_reducible exact H | (rw [hy562]; exact H) | exact H
           have Ny562 := Aside0.mk hy562;clear hy562;by_cases c26 : x558001_1.length < 17592186044416
           ·rw [if_pos c26] at H
            have LMc26 := Aside0.mk c26;clear c26;obtain ⟨y565, hy565⟩ : ∃ y_ : List Int, y_ = (x558001_1 ++ [(-1)]) := ⟨_, rfl⟩;replace H : (arboristref11_Build.l0 k2 t554 (wrap64 (x7_1 + 1)) y562 y565) = some (r1, r2) := by first | (rw [hy565]; with_reducible exact H) | (have H2_ := (Option.bind_some _ _).symm.trans H; rw [hy565]; with_reducible exact H2_) | (have H2_ := (Option.bind_some _ _).symm.trans H; with_reducible exact H2_) | with_reducible exact H | (rw [hy565]; exact H) | exact H
            have Ny565 := Aside0.mk hy565;clear hy565;have H' := Aside0.mk H;clear H;try go_wp2
            replace HO_5 := Aside0.mk (Kd.N_drew HO_5.out);replace HO_558000 := Aside0.mk (Kd.N_drew HO_558000.out);replace HO_558001 := Aside0.mk (Kd.R_drew HO_558001.out);replace BK553 := Aside0.mk (blk_drew BK553.out);replace BK557 := Aside0.mk (blk_drew BK557.out);replace HB := Aside0.mk (below_drew1 HB.out);have p561 : 0 ≤ (x7_1 : Int) := of_decide_eq_true qA;have q561 : x7_1 < (t554.length : Int) := of_decide_eq_true qA;obtain ⟨ad561, A561_0, c561_0, e561, hx561_0, hl561_0, hi561_0⟩ := at_L1 (Kd.N_reads' HO_5.out).2.2 x7_1 p561 q561;cases e561
            obtain ⟨ce561, hce561, hMe561, hcc561⟩ := Kd.N_get HO_5.out [] x7_1 p561 (by first | exact q561 | exact of_decide_eq_true qA | (have e_ := (Kd.N_reads' HO_5.out).1; omega));obtain ⟨ua561_0, uc561_0, rfl, ul561_0, ge561_0⟩ := Kd.FK_slice_open hMe561;have hv561_0 := hcc561 0 _ rfl;rw [Nat.add_zero, show ((Kd.slice 3 (Kd.int .i64))).sz = 1 from rfl, Nat.mul_one] at hv561_0
            replace hv561_0 := Option.some.inj (hv561_0.symm.trans hx561_0);injection hv561_0 with hva_ hvn_ hvc_
            rw [hva_] at ge561_0
            rw [hvc_] at ul561_0
            have HL561_0 := Aside0.mk (show Kd.V (Kd.int .i64) 3 _ w.heap.size _ _ (rd_L1 t554 x7_1) from Kd.V_mk ul561_0 ge561_0);clear hva_ hvn_ hvc_ ge561_0 ul561_0;clear hcc561 hce561;have HR561_0 := Aside0.mk hi561_0;have HC561_0 := Aside0.mk hl561_0;clear hi561_0 hl561_0;replace p561 := eq_true p561;replace q561 := eq_true q561;refine start_ (n := 10) (S := fun w' => w'.cell? ⟨gb557, 0, none⟩ = some (u558000) ∧ w'.cell? ⟨gb557, 1, none⟩ = some (u558001) ∧ w'.cell? (ad561.add (x7_1).toNat) = some (.slice A561_0 (rd_L1 t554 x7_1).length c561_0)) (ds := [7, 9]) (bs 10 0) (by kernel_rfl) rfl rfl ⟨(blk_cell BK557.out 0).trans rfl, (blk_cell BK557.out 1).trans rfl, hx561_0⟩ (fun hHeld => ?_); refine with_tabW arboristref11_Build.tab13 arboristref11_Build.bits13 (fun HT_ HW_ => ?_)
            generalize wr.drew = w27 at HO_5 HO_558000 HO_558001 BK553 BK557 HB HL561_0 HR561_0 hx561_0 hHeld ⊢
            refine qP 0 (some 49) (bs 10 1) HT_.out ?_;refine qP 2 (some 51) (bs 10 5) HT_.out ?_;refine qP 3 (some 52) (bs 10 13) HT_.out ?_;refine qP 4 (some 53) (bs 10 29) HT_.out ?_;refine take_ (i := 1) (N := some 50) (v := ?_) (a' := ?_) (bs 10 31) rfl rfl (take_ofW HT_.out HW_.out (by kernel_rfl)) (fun _ _ _ h => h) (Or.inl ⟨by rfl, ?_⟩) hHeld ?_ ?_;rotate_left
            ·rintro w' ⟨s0, s1, s2⟩
             go_simp
             with_reducible rfl
            rotate_left; (simp only [Act.put, List.setIfInBounds_toArray, List.set_cons_zero, List.set_cons_succ, i64_w, i32_w]; rfl)
            refine take_ (i := 5) (N := some 54) (v := ?_) (a' := ?_) (bs 10 63) rfl rfl (take_ofW HT_.out HW_.out (by kernel_rfl)) (fun _ _ _ h => h) (Or.inl ⟨by rfl, ?_⟩) hHeld ?_ ?_;rotate_left
            ·rintro w' ⟨s0, s1, s2⟩
             go_simp
             with_reducible rfl
            rotate_left; (simp only [Act.put, List.setIfInBounds_toArray, List.set_cons_zero, List.set_cons_succ, i64_w, i32_w]; rfl)
            refine one_ (i := 6) (N := some 55) (bs 10 127) rfl rfl (one_of HT_.out (by kernel_rfl)) (by decide) (fun K hK => ?_);refine value_ (w1 := ?_) (v := ?_) (by rfl) rfl ?_ ?_;rotate_left 2
            ·go_simp
             constructor
             ·rfl
             ·rfl
            refine hK.out _ _ ⟨(blk_cell (blk_alloc BK557.out _) 0).trans rfl, (blk_cell (blk_alloc BK557.out _) 1).trans rfl, (World.cell?_alloc_lt _ _ _ (World.block_lt_of_cell? _ _ (hHeld.2.2))).trans (hHeld.2.2)⟩ (fun hHeld => ?_);clear hK K;refine norm_ (a' := ?_) ?_ ?_;rotate_left
            ·show Act.put _ (some 55) _ = _
             simp only [Act.put, List.setIfInBounds_toArray, List.set_cons_zero, List.set_cons_succ, i64_w, i32_w]
             rfl
            refine last_ (i := 7) (N := some 56) (bs 10 255) rfl rfl (one_of HT_.out (by kernel_rfl)) (by decide) (fun K hK => ?_);refine Kd.N_append_step (Kd.slice 3 (Kd.int .i64)) (w0 := w) w.heap.size (by rfl) (.tmp 50) (.tmp 55) 22 23 (.slice none 0 0) 24 rfl Tryd.underlying22 info23 rfl (by decide) (by omega) u558000 x558000_1 (rd_L1 t554 x7_1) [.slice A561_0 (rd_L1 t554 x7_1).length c561_0] (fun k_ => (w.heap.size ≤ k_) ∧ some k_ ≠ (.slice (some ad561) t554.length co10 : Value).ownBlock ∧ some k_ ≠ (u558001 : Value).ownBlock ∧ k_ ≠ gb553 ∧ k_ ≠ gb557) (fun k_ => ((fun k_ => (w.heap.size ≤ k_) ∧ some k_ ≠ (.slice (some ad561) t554.length co10 : Value).ownBlock ∧ some k_ ≠ (u558001 : Value).ownBlock ∧ k_ ≠ gb553 ∧ k_ ≠ gb557)) k_ ∧ some k_ ≠ (u558000 : Value).ownBlock) rfl rfl ?aP (fun _ hk => hk) ?aF ?aO ?aB ?aS ?aL ?_;(case aP => exact (Kd.FK_slice_mk (Kd.V_reads' (Kd.V_mono (ok' := (fun k_ => ((fun k_ => (w.heap.size ≤ k_) ∧ some k_ ≠ (.slice (some ad561) t554.length co10 : Value).ownBlock ∧ some k_ ≠ (u558001 : Value).ownBlock ∧ k_ ≠ gb553 ∧ k_ ≠ gb557)) k_ ∧ some k_ ≠ (u558000 : Value).ownBlock)) (HL561_0.out) (fun k_ hk => ⟨⟨hk.1.1, ⟨hk.2, ⟨hk.1.2.2.1, ⟨hk.1.2.2.2.1, hk.1.2.2.2.2⟩⟩⟩⟩, hk.1.2.1⟩))).2.1 (Kd.V_F (Kd.V_mono (ok' := (fun k_ => ((fun k_ => (w.heap.size ≤ k_) ∧ some k_ ≠ (.slice (some ad561) t554.length co10 : Value).ownBlock ∧ some k_ ≠ (u558001 : Value).ownBlock ∧ k_ ≠ gb553 ∧ k_ ≠ gb557)) k_ ∧ some k_ ≠ (u558000 : Value).ownBlock)) (HL561_0.out) (fun k_ hk => ⟨⟨hk.1.1, ⟨hk.2, ⟨hk.1.2.2.1, ⟨hk.1.2.2.2.1, hk.1.2.2.2.2⟩⟩⟩⟩, hk.1.2.1⟩)))));(case aB => exact (qB2 GE553.out GE557.out HB.out));(case aF => exact (fun k_ hk => ⟨(Nat.le_trans (below_size (qB2 GE553.out GE557.out HB.out)) hk), Kd.fresh' (Kd.N_lt (by (with_reducible repeat (first | apply Kd.N_alloc | apply Kd.N_drewN | apply Kd.N_drew)); exact HO_5.out)) k_ hk, Kd.fresh' (Kd.R_lt (qR HO_558001.out)) k_ hk, Kd.freshB (g := gb553) (o := .cells #[.slice none 0 0, .slice none 0 0] 28 (0, 0)) (qK BK553.out) k_ hk, Kd.freshB (g := gb557) (o := .cells #[u558000, u558001] 28 (0, 0)) (qK BK557.out) k_ hk⟩));(case aO => exact (by (with_reducible repeat (first | apply Kd.N_alloc | apply Kd.N_drewN | apply Kd.N_drew)); exact HO_558000.out));(case aS => exact (below_size (qB2 GE553.out GE557.out HB.out)));(case aL => have := LMc25.out; omega);intro v563 w28 ho hb hg hat
            rw [← Ny562.out] at ho
            have n0_ := Aside0.mk (Kd.N_afterv (ok := (fun k_ => (w.heap.size ≤ k_) ∧ some k_ ≠ (u558001 : Value).ownBlock ∧ k_ ≠ gb553 ∧ k_ ≠ gb557)) (by (with_reducible repeat (first | apply Kd.N_alloc | apply Kd.N_drewN | apply Kd.N_drew)); exact Kd.N_mono HO_5.out (fun _ hk => ⟨⟨hk.1, ⟨hk.2.2.1, ⟨hk.2.2.2.1, hk.2.2.2.2⟩⟩⟩, hk.2.1⟩)) hg hat);have n1_ := Aside0.mk (Kd.R_over' (qR HO_558001.out) (Kd.N_typed (by (with_reducible repeat (first | apply Kd.N_alloc | apply Kd.N_drewN | apply Kd.N_drew)); exact HO_558000.out)) (by decide) hg);have n2_ := Aside0.mk (blk_grown (g := gb553) (o := .cells #[.slice none 0 0, .slice none 0 0] 28 (0, 0)) (qK BK553.out) hg (Kd.N_ne HO_558000.out BK553.out (by decide)));have n3_ := Aside0.mk (blk_grown (g := gb557) (o := .cells #[u558000, u558001] 28 (0, 0)) (qK BK557.out) hg (Kd.N_ne HO_558000.out BK557.out (by decide)));have n4_ := Aside0.mk (Kd.V_afterv (ok := (fun k_ => (w.heap.size ≤ k_) ∧ some k_ ≠ (.slice (some ad561) t554.length co10 : Value).ownBlock ∧ some k_ ≠ (u558001 : Value).ownBlock ∧ k_ ≠ gb553 ∧ k_ ≠ gb557)) (by (with_reducible repeat (first | apply Kd.V_alloc | apply Kd.V_drewN | apply Kd.V_drew)); exact Kd.V_mono HL561_0.out (fun _ hk => ⟨⟨hk.1.1, ⟨hk.2, ⟨hk.1.2.2.1, ⟨hk.1.2.2.2.1, hk.1.2.2.2.2⟩⟩⟩⟩, hk.1.2.1⟩)) hg hat);have n5_ := Aside0.mk (hb);have n6_ := Aside0.mk (ho);clear HO_5;clear HO_558001;clear BK553;clear BK557;clear HL561_0;clear HB;clear HO_558000;have HO_5 := n0_;have HO_558001 := n1_;have BK553 := n2_;have BK557 := n3_;have HL561_0 := n4_;have HB := n5_;have HO564 := n6_;clear n0_ n1_ n2_ n3_ n4_ n5_ n6_;clear ho hb hg hat;obtain ⟨Ao29, co29, eo29⟩ := Kd.N_slice HO564.out;(first | subst eo29 | (injection eo29 with f1_ f2_ f3_; have f4_ := f1_.symm; have f5_ := f3_.symm; clear f1_ f2_ f3_; subst f4_; subst f5_));refine hK.out _ _ ?_;clear hK K;refine norm_ (a' := ?_) ?_ ?_;rotate_left
            ·show Act.put _ (some 56) _ = _
             simp only [Act.put, List.setIfInBounds_toArray, List.set_cons_zero, List.set_cons_succ, i64_w, i32_w]
             rfl
            refine qP 8 (some 57) (bs 10 511) HT_.out ?_;refine last_ (i := 9) (N := none) (bs 10 1023) rfl rfl (one_of HT_.out (by kernel_rfl)) (by decide) (fun K hK => ?_);have hs30 : w28.cell? ⟨gb557, 0, none⟩ = some (u558000) := (blk_cell BK557.out 0).trans rfl;have hfs30 := blk_frozen BK557.out 0;have hns30_0 := NB553_557.out;have hms30_0 := NB557_553.out;refine skip_ (w1 := ?_) (by rfl) rfl ?_ ?_;rotate_left
            ·go_simp
             rfl
            refine hK.out _ _ ?_;clear hK K;refine done_ (done_of HT_.out (by kernel_rfl)) ?_;have hnb31 := NB557_553.out;have hnc31 := NB553_557.out;have hcz32_0 : w28.cell? ⟨gb557, 0, none⟩ = some (u558000) := (blk_cell BK557.out 0).trans rfl;have hcz32_1 : w28.cell? ⟨gb557, 1, none⟩ = some (u558001) := (blk_cell BK557.out 1).trans rfl;have hfz32_0 := blk_frozen BK557.out 0;have hfz32_1 := blk_frozen BK557.out 1;try go_wp2_with (first | ((with_reducible refine gate_builtin (b := .append) (xs := #[.tmp 59, .tmp 60]) rfl ?_); at_builtin; refine Kd.R_append (Kd.int .i64) (w0 := w) w.heap.size rfl (.tmp 59) (.tmp 60) 23 3 (.int .i64 0) 8 rfl Tryd.underlying23 info3 rfl (by decide) (by omega) u558001 x558001_1 (-1) [.int .i64 (-1)] (fun k_ => (w.heap.size ≤ k_)) (fun _ => False) rfl (by first | (go_simp; done) | (go_simp; rfl)) ?aP (fun _ hk => hk.elim) ?aF ?aO ?aB ?aS ?aL ?_; (case aP => exact rfl); (case aB => exact (by repeat (first | (with_reducible first | exact HB.out | apply below_alloc | apply pw_below_drewN | apply below_drew1 | refine below_set ?_ GE553.out | refine below_set ?_ GE557.out) | exact HB.out))); (case aF => exact (fun k_ hk => (Nat.le_trans (below_size (by repeat (first | (with_reducible first | exact HB.out | apply below_alloc | apply pw_below_drewN | apply below_drew1 | refine below_set ?_ GE553.out | refine below_set ?_ GE557.out) | exact HB.out))) hk))); (case aO => exact (by (with_reducible repeat (first | apply Kd.R_alloc | apply Kd.R_drewN | apply Kd.R_drew)); exact Kd.R_mono (Kd.R_far (p := ⟨gb557, 0, none⟩) (Kd.R_types HO_558001.out BK557.out (by decide)) (fun _ hk => hk.2) (.slice Ao29 y562.length co29)) (fun _ hk => hk.1))); (case aS => exact (below_size (by repeat (first | (with_reducible first | exact HB.out | apply below_alloc | apply pw_below_drewN | apply below_drew1 | refine below_set ?_ GE553.out | refine below_set ?_ GE557.out) | exact HB.out)))); (case aL => have := LMc26.out; omega); intro v566 w33 ho hb hg hat; rw [← Ny565.out] at ho; have n0_ := Aside0.mk (Kd.N_afterv (ok := (fun k_ => (w.heap.size ≤ k_) ∧ some k_ ≠ (.slice Ao29 y562.length co29 : Value).ownBlock ∧ k_ ≠ gb553 ∧ k_ ≠ gb557)) (by (with_reducible repeat (first | apply Kd.N_alloc | apply Kd.N_drewN | apply Kd.N_drew)); exact Kd.N_mono (Kd.N_far (p := ⟨gb557, 0, none⟩) (Kd.N_mono HO_5.out (fun k_ hk => (⟨hk, hk.1.2.2.2⟩ : _ ∧ k_ ≠ gb557))) (fun _ hk => hk.2) (.slice Ao29 y562.length co29)) (fun _ hk => ⟨⟨hk.1.1.1, ⟨hk.1.2, ⟨hk.1.1.2.2.1, hk.1.1.2.2.2⟩⟩⟩, hk.1.1.2.1⟩)) hg hat); have n1_ := Aside0.mk (blk_grown (g := gb553) (o := .cells #[.slice none 0 0, .slice none 0 0] 28 (0, 0)) (by (with_reducible repeat (first | refine blk_drewN ?_ _ | refine blk_drew ?_ | refine blk_alloc ?_ _)); refine blk_far ?_ NB553_557.out _; (with_reducible repeat (first | refine blk_drewN ?_ _ | refine blk_drew ?_ | refine blk_alloc ?_ _)); exact BK553.out) hg (Kd.R_ne HO_558001.out BK553.out (by decide))); have n2_ := Aside0.mk (blk_grown (g := gb557) (o := .cells #[.slice Ao29 y562.length co29, u558001] 28 (0, 0)) (by (with_reducible repeat (first | refine blk_drewN ?_ _ | refine blk_drew ?_ | refine blk_alloc ?_ _)); refine blk_put (cs := #[u558000, u558001]) ?_ 0 _ rfl; (with_reducible repeat (first | refine blk_drewN ?_ _ | refine blk_drew ?_ | refine blk_alloc ?_ _)); exact BK557.out) hg (Kd.R_ne HO_558001.out BK557.out (by decide))); have n3_ := Aside0.mk (Kd.V_afterv (ok := (fun k_ => (w.heap.size ≤ k_) ∧ some k_ ≠ (.slice (some ad561) t554.length co10 : Value).ownBlock ∧ some k_ ≠ (.slice Ao29 y562.length co29 : Value).ownBlock ∧ k_ ≠ gb553 ∧ k_ ≠ gb557)) (by (with_reducible repeat (first | apply Kd.V_alloc | apply Kd.V_drewN | apply Kd.V_drew)); exact Kd.V_mono (Kd.V_far (p := ⟨gb557, 0, none⟩) (Kd.V_mono HL561_0.out (fun k_ hk => (⟨hk, hk.1.2.2.2.2⟩ : _ ∧ k_ ≠ gb557))) (fun _ hk => hk.2) (.slice Ao29 y562.length co29)) (fun _ hk => ⟨⟨hk.1.1.1, ⟨hk.1.1.2.1, ⟨hk.1.2, ⟨hk.1.1.2.2.2.1, hk.1.1.2.2.2.2⟩⟩⟩⟩, hk.1.1.2.2.1⟩)) hg hat); have n4_ := Aside0.mk (Kd.N_afterv (ok := (fun k_ => (w.heap.size ≤ k_) ∧ some k_ ≠ (.slice (some ad561) t554.length co10 : Value).ownBlock ∧ k_ ≠ gb553 ∧ k_ ≠ gb557)) (by (with_reducible repeat (first | apply Kd.N_alloc | apply Kd.N_drewN | apply Kd.N_drew)); exact Kd.N_mono (Kd.N_far (p := ⟨gb557, 0, none⟩) (Kd.N_mono HO564.out (fun k_ hk => (⟨hk, hk.2.2.2.2⟩ : _ ∧ k_ ≠ gb557))) (fun _ hk => hk.2) (.slice Ao29 y562.length co29)) (fun _ hk => ⟨⟨hk.1.1, ⟨hk.1.2.1, ⟨hk.1.2.2.2.1, hk.1.2.2.2.2⟩⟩⟩, hk.1.2.2.1⟩)) hg hat); have n5_ := Aside0.mk (hb); have n6_ := Aside0.mk (ho); clear HO_5; clear BK553; clear BK557; clear HL561_0; clear HO564; clear HB; clear HO_558001; have HO_5 := n0_; have BK553 := n1_; have BK557 := n2_; have HL561_0 := n3_; have HO564 := n4_; have HB := n5_; have HO567 := n6_; clear n0_ n1_ n2_ n3_ n4_ n5_ n6_; clear ho hb hg hat; obtain ⟨Ao34, co34, eo34⟩ := Kd.R_slice HO567.out; subst eo34; have hcz35_0 : w33.cell? ⟨gb557, 0, none⟩ = some (.slice Ao29 y562.length co29) := (blk_cell BK557.out 0).trans rfl; have hcz35_1 : w33.cell? ⟨gb557, 1, none⟩ = some (u558001) := (blk_cell BK557.out 1).trans rfl; have hfz35_0 := blk_frozen BK557.out 0; have hfz35_1 := blk_frozen BK557.out 1))
            go_roundg k2
            case measure => have := HK1.out; have := HK2.out; omega
            case rel => exact ⟨(wrap64 (x7_1 + 1)), (y562), (y565), (.slice Ao29 y562.length co29), (.slice Ao34 y565.length co34), (by first | rfl | (simp; done) | (simp [*]; done)), H', ⟨by have := HK1.out; have := HK2.out; omega⟩, ⟨by (with_reducible repeat (first | apply Kd.N_alloc | apply Kd.N_drewN | apply Kd.N_drew)); exact Kd.N_mono (Kd.N_far (p := ⟨gb557, 1, none⟩) (Kd.N_mono HO_5.out (fun k_ hk => (⟨hk, hk.1.2.2.2⟩ : _ ∧ k_ ≠ gb557))) (fun _ hk => hk.2) (.slice Ao34 y565.length co34)) (fun _ hk => ⟨hk.1.1.1, ⟨hk.1.1.2.1, ⟨hk.1.2, ⟨hk.1.1.2.2.1, hk.1.1.2.2.2⟩⟩⟩⟩)⟩, ⟨by (with_reducible repeat (first | apply Kd.N_alloc | apply Kd.N_drewN | apply Kd.N_drew)); exact Kd.N_mono (Kd.N_far (p := ⟨gb557, 1, none⟩) (Kd.N_mono HO564.out (fun k_ hk => (⟨hk, hk.1.2.2.2⟩ : _ ∧ k_ ≠ gb557))) (fun _ hk => hk.2) (.slice Ao34 y565.length co34)) (fun _ hk => ⟨hk.1.1.1, ⟨hk.1.1.2.1, ⟨hk.1.2, ⟨hk.1.1.2.2.1, hk.1.1.2.2.2⟩⟩⟩⟩)⟩, ⟨by (with_reducible repeat (first | apply Kd.R_alloc | apply Kd.R_drewN | apply Kd.R_drew)); exact Kd.R_mono (Kd.R_far (p := ⟨gb557, 1, none⟩) (Kd.R_types HO567.out BK557.out (by decide)) (fun _ hk => hk.2) (.slice Ao34 y565.length co34)) (fun _ hk => hk.1)⟩, ⟨by (with_reducible repeat (first | refine blk_drewN ?_ _ | refine blk_drew ?_ | refine blk_alloc ?_ _)); refine blk_far ?_ NB553_557.out _; (with_reducible repeat (first | refine blk_drewN ?_ _ | refine blk_drew ?_ | refine blk_alloc ?_ _)); exact BK553.out⟩, ⟨by (with_reducible repeat (first | refine blk_drewN ?_ _ | refine blk_drew ?_ | refine blk_alloc ?_ _)); refine blk_put (cs := #[.slice Ao29 y562.length co29, u558001]) ?_ 1 _ rfl; (with_reducible repeat (first | refine blk_drewN ?_ _ | refine blk_drew ?_ | refine blk_alloc ?_ _)); exact BK557.out⟩, ⟨by repeat (first | (with_reducible first | exact HB.out | apply below_alloc | apply pw_below_drewN | apply below_drew1 | refine below_set ?_ GE553.out | refine below_set ?_ GE557.out) | exact HB.out)⟩⟩
           ·rw [if_neg c26] at H
            exact absurd H (by simp)
          ·rw [if_neg c25] at H
           exact absurd H (by simp)
         ·rw [if_neg c24] at H
          exact absurd H (by simp)
        ·rw [if_neg c23] at H
         exact absurd H (by simp)
       ·replace c22 := Bool.eq_false_iff.mpr c22;subst c22;replace H : (arboristref11_Build.l0 k2 t554 (wrap64 (x7_1 + 1)) x558000_1 x558001_1) = some (r1, r2) := by rw [if_neg (show ¬ (false = true) by decide)] at H; exact H
        have H' := Aside0.mk H;clear H;go_wp2
        go_roundg k2
        case measure => have := HK1.out; have := HK2.out; omega
        case rel => exact ⟨(wrap64 (x7_1 + 1)), (x558000_1), (x558001_1), (u558000), (u558001), (by first | rfl | (simp; done) | (simp [*]; done)), H', ⟨by have := HK1.out; have := HK2.out; omega⟩, ⟨by (with_reducible repeat (first | apply Kd.N_alloc | apply Kd.N_drewN | apply Kd.N_drew)); exact HO_5.out⟩, ⟨by (with_reducible repeat (first | apply Kd.N_alloc | apply Kd.N_drewN | apply Kd.N_drew)); exact HO_558000.out⟩, ⟨by (with_reducible repeat (first | apply Kd.R_alloc | apply Kd.R_drewN | apply Kd.R_drew)); exact HO_558001.out⟩, ⟨by (with_reducible repeat (first | refine blk_drewN ?_ _ | refine blk_drew ?_ | refine blk_alloc ?_ _)); exact BK553.out⟩, ⟨by (with_reducible repeat (first | refine blk_drewN ?_ _ | refine blk_drew ?_ | refine blk_alloc ?_ _)); exact BK557.out⟩, ⟨by repeat (first | (with_reducible first | exact HB.out | apply below_alloc | apply pw_below_drewN | apply below_drew1 | refine below_set ?_ GE553.out | refine below_set ?_ GE557.out) | exact HB.out)⟩⟩
   ·rw [if_neg c9] at H
    have c9b0 : decide (x7_1 < (t554.length : Int)) = false := decide_eq_false c9;clear c9;by_cases c36 : 0 ≤ (x558000_1.length : Int)
    ·rw [if_pos c36] at H
     have c36b0 := eq_true c36;have c36b1 : decide (0 ≤ (x558000_1.length : Int)) = true := decide_eq_true c36;clear c36;by_cases c37 : ((x558000_1.length : Int) : Int).toNat ≤ 281474976710656
     ·rw [if_pos c37] at H
      have c37b0 := eq_true c37;have c37b1 : decide (((x558000_1.length : Int) : Int).toNat ≤ 281474976710656) = true := decide_eq_true c37;clear c37;obtain ⟨y568, hy568⟩ : ∃ y_ : List Bool, y_ = (List.replicate ((x558000_1.length : Int) : Int).toNat false) := ⟨_, rfl⟩;replace H : (arboristref11_Build.l2 k1 y568 0 x558000_1 x558001_1) = some (r1, r2) := by first | (rw [hy568]; with_reducible exact H) | (have H2_ := (Option.bind_some _ _).symm.trans H; rw [hy568]; with_reducible exact H2_) | (have H2_ := (Option.bind_some _ _).symm.trans H; with_reducible exact H2_) | with_reducible exact H | (rw [hy568]; exact H) | exact H
      have Ny568 := Aside0.mk hy568;clear hy568;have H' := Aside0.mk H;clear H;obtain ⟨Ao38, co38, eo38⟩ := Kd.N_slice HO_5.out;subst eo38;have hnb39 := NB557_553.out;have hnc39 := NB553_557.out;have hcz40_0 : wr.cell? ⟨gb557, 0, none⟩ = some (u558000) := (blk_cell BK557.out 0).trans rfl;have hcz40_1 : wr.cell? ⟨gb557, 1, none⟩ = some (u558001) := (blk_cell BK557.out 1).trans rfl;have hfz40_0 := blk_frozen BK557.out 0;have hfz40_1 := blk_frozen BK557.out 1;obtain ⟨Ao41, co41, eo41⟩ := Kd.N_slice HO_558000.out;subst eo41;go_wp2_with (first | ((with_reducible refine gate_dst (N := 66) rfl ?_); refine Kd.R_make Kd.bool _ 4 rfl (N := 66) rfl 40 _ _ rfl (x558000_1.length : Int) rfl rfl Tryd.underlying40 (.bool false) 1 info4 rfl (by decide) (by omega) false (ok := fun _ => True) (okp := fun _ => True) rfl (fun _ hk => hk) trivial (of_decide_eq_true qA) (Nat.le_trans (Nat.mul_le_mul_right _ (of_decide_eq_true qA : (x558000_1.length : Int).toNat ≤ 281474976710656)) (by omega)) (Below.refl _ _) (Nat.le_refl _) ?_; intro v569 w42 ho43 hb hg_ hnew_; clear hg_ hnew_; (first | rw [← Ny568.out] at ho43 | (simp only [Int.reduceToNat] at ho43; rw [← Ny568.out] at ho43)); have n0_ := Aside0.mk (Kd.N_elder' (by (with_reducible repeat (first | apply Kd.N_alloc | apply Kd.N_drewN | apply Kd.N_drew)); exact HO_5.out) (Kd.R_base ho43) hb); have n1_ := Aside0.mk (Kd.N_elder' (by (with_reducible repeat (first | apply Kd.N_alloc | apply Kd.N_drewN | apply Kd.N_drew)); exact HO_558000.out) (Kd.R_base ho43) hb); have n2_ := Aside0.mk (Kd.R_below (qR HO_558001.out) hb); have n3_ := Aside0.mk (Kd.R_lower (Kd.R_newM (M := fun k_ => (w.heap.size ≤ k_)) ho43 (below_size (by repeat (first | (with_reducible first | exact HB.out | apply below_alloc | apply pw_below_drewN | apply below_drew1 | refine below_set ?_ GE553.out | refine below_set ?_ GE557.out) | exact HB.out))) (fun k_ h_ => h_)) (below_size (by repeat (first | (with_reducible first | exact HB.out | apply below_alloc | apply pw_below_drewN | apply below_drew1 | refine below_set ?_ GE553.out | refine below_set ?_ GE557.out) | exact HB.out)))); have n4_ := Aside0.mk (blk_below (g := gb553) (o := .cells #[.slice none 0 0, .slice none 0 0] 28 (0, 0)) (qK BK553.out) hb); have n5_ := Aside0.mk (blk_below (g := gb557) (o := .cells #[.slice Ao41 x558000_1.length co41, u558001] 28 (0, 0)) (qK BK557.out) hb); have n6_ := Aside0.mk (below_step (by repeat (first | (with_reducible first | exact HB.out | apply below_alloc | apply pw_below_drewN | apply below_drew1 | refine below_set ?_ GE553.out | refine below_set ?_ GE557.out) | exact HB.out)) hb); clear HO_5; clear HO_558000; clear HO_558001; clear BK553; clear BK557; clear HB; have HO_5 := n0_; have HO_558000 := n1_; have HO_558001 := n2_; have HO570 := n3_; have BK553 := n4_; have BK557 := n5_; have HB := n6_; clear n0_ n1_ n2_ n3_ n4_ n5_ n6_; clear hb ho43))
      go_loopg [12] k1 (fun kq v12 w' => ∃ (x11_2 : List Bool) (x12_2 : Int) (x558001_2 : List Int) (u558001 : Value), v12 = .int .i64 x12_2 ∧ Aside0 (arboristref11_Build.l2 kq x11_2 x12_2 x558000_1 x558001_2 = some (r1, r2)) ∧ Aside0 (kq ≤ k1) ∧ Aside0 (Kd.R Kd.bool 4 w' w.heap.size (fun k_ => (w.heap.size ≤ k_)) v569 x11_2) ∧ Aside0 (Kd.N (Kd.slice 3 (Kd.int .i64)) 23 w' w.heap.size (fun k_ => (w.heap.size ≤ k_) ∧ some k_ ≠ (v569 : Value).ownBlock ∧ some k_ ≠ (u558001 : Value).ownBlock ∧ k_ ≠ gb553 ∧ k_ ≠ gb557) (.slice Ao41 x558000_1.length co41) x558000_1) ∧ Aside0 (Kd.R (Kd.int .i64) 3 w' w.heap.size (fun k_ => (w.heap.size ≤ k_)) u558001 x558001_2) ∧ Aside0 (w'.heap[gb553]? = some (.cells #[(.slice none 0 0), (.slice none 0 0)] 28 (0, 0))) ∧ Aside0 (w'.heap[gb557]? = some (.cells #[(.slice Ao41 x558000_1.length co41), u558001] 28 (0, 0))) ∧ Aside0 (Below w.heap.size w w'))
      case atStart => exact ⟨(y568), (0), (x558001_1), (u558001), (by first | rfl | (simp; done) | (simp [*]; done)), H', ⟨Nat.le_refl _⟩, ⟨by (with_reducible repeat (first | apply Kd.R_alloc | apply Kd.R_drewN | apply Kd.R_drew)); exact Kd.R_mono HO570.out (fun _ hk => hk.1)⟩, ⟨by (with_reducible repeat (first | apply Kd.N_alloc | apply Kd.N_drewN | apply Kd.N_drew)); exact Kd.N_mono HO_558000.out (fun _ hk => ⟨hk.1.1, ⟨hk.2, ⟨hk.1.2.2.1, ⟨hk.1.2.2.2.1, hk.1.2.2.2.2⟩⟩⟩⟩)⟩, ⟨by (with_reducible repeat (first | apply Kd.R_alloc | apply Kd.R_drewN | apply Kd.R_drew)); exact HO_558001.out⟩, ⟨by (with_reducible repeat (first | refine blk_drewN ?_ _ | refine blk_drew ?_ | refine blk_alloc ?_ _)); exact BK553.out⟩, ⟨by (with_reducible repeat (first | refine blk_drewN ?_ _ | refine blk_drew ?_ | refine blk_alloc ?_ _)); exact BK557.out⟩, ⟨by repeat (first | (with_reducible first | exact HB.out | apply below_alloc | apply pw_below_drewN | apply below_drew1 | refine below_set ?_ GE553.out | refine below_set ?_ GE557.out) | exact HB.out)⟩⟩
      case round =>
       clear H';try clear c1
       try clear c2
       try clear p2
       try clear c3
       try clear c5
       try clear p5
       try clear q5
       try clear hx5
       try clear p6
       try clear c9
       try clear c9b0
       try clear c11
       try clear c11b0
       try clear c12
       try clear c13
       try clear c14
       try clear c15
       try clear c17
       try clear c21
       try clear c22
       try clear c23
       try clear c23b0
       try clear c24
       try clear c24b0
       try clear c25
       try clear c26
       try clear c31
       try clear c36
       try clear c36b0
       try clear c36b1
       try clear c37
       try clear c37b0
       try clear c37b1
       try clear c39
       try clear hcz32_0
       try clear hcz32_1
       try clear hcz35_0
       try clear hcz35_1
       try clear hcz40_0
       try clear hcz40_1
       try clear hfz32_0
       try clear hfz32_1
       try clear hfz35_0
       try clear hfz35_1
       try clear hfz40_0
       try clear hfz40_1
       try clear hx558_0
       try clear hx559_0
       try clear hx561_0
       try clear p558
       try clear p559
       try clear p561
       try clear q558
       try clear q559
       try clear q561
       obtain ⟨x11_2, x12_2, x558001_2, u558001, rfl, HA, HK2, HO_11, HO_558000, HO_558001, BK553, BK557, HB⟩ := hrel;cases gk with
       | zero => exact absurd HA.out (by simp [arboristref11_Build.l2])
       | succ k2 =>
        have H := HA.out;clear HA;simp only [arboristref11_Build.l2] at H
        by_cases c44 : x12_2 < (x558000_1.length : Int)
        ·rw [if_pos c44] at H
         have c44b0 : decide (x12_2 < (x558000_1.length : Int)) = true := decide_eq_true c44;clear c44;by_cases c45 : x12_2 = 0
         ·rw [if_pos c45] at H
          have c45b0 : (x12_2 == 0) = true := beq_iff_eq.mpr c45;have c45b1 : (x12_2 != 0) = false := bne_eq_false_iff_eq.mpr c45;clear c45;by_cases c46 : 0 < (x11_2.length : Int)
          ·rw [if_pos c46] at H
           have c46b0 : decide (0 < (x11_2.length : Int)) = true := decide_eq_true c46;have c46b1 : decide (0 < x11_2.length) = true := decide_eq_true (by omega);clear c46;obtain ⟨y571, hy571⟩ : ∃ y_ : List Bool, y_ = (x11_2.set (0 : Int).toNat true) := ⟨_, rfl⟩;replace H : (arboristref11_Build.l2 k2 y571 (wrap64 (x12_2 + 1)) x558000_1 x558001_2) = some (r1, r2) := by first | (rw [hy571]; with_reducible exact H) | (have H2_ := (Option.bind_some _ _).symm.trans H; rw [hy571]; with_reducible exact H2_) | (have H2_ := (Option.bind_some _ _).symm.trans H; with_reducible exact H2_) | with_reducible exact H | (rw [hy571]; exact H) | exact H
           have Ny571 := Aside0.mk hy571;clear hy571;have H' := Aside0.mk H;clear H;have hnb48 := NB557_553.out;have hnc48 := NB553_557.out;have hcz49_0 : wr.cell? ⟨gb557, 0, none⟩ = some (.slice Ao41 x558000_1.length co41) := (blk_cell BK557.out 0).trans rfl;have hcz49_1 : wr.cell? ⟨gb557, 1, none⟩ = some (u558001) := (blk_cell BK557.out 1).trans rfl;have hfz49_0 := blk_frozen BK557.out 0;have hfz49_1 := blk_frozen BK557.out 1;have p47 : 0 ≤ (0 : Int) := (by omega);have q47 : (0 : Int) < ((x11_2.length : Int) : Int) := of_decide_eq_true qA;have qi47 : (0 < x11_2.length) = True := eq_true (by omega);obtain ⟨go47, co47, eo47, gb47, gl47, cl47, HG47⟩ := Kd.R_form HO_11.out (by omega);(first | cases eo47 | (injection eo47 with ea_ en_ ec_; (first | subst ea_ | (injection ea_ with ea_; subst ea_)); subst ec_; clear en_));have GB47 := Aside0.mk gb47;have GG47 := Aside0.mk HG47;clear gb47 gl47 HG47;obtain ⟨hx47_0, hf47_0⟩ := Kd.R_celln false HO_11.out (0 : Int) p47 q47;(try rw [show ((0 : Int)).toNat = 0 from rfl] at hx47_0);(try simp only [Nat.reduceMul, Nat.zero_mul, Nat.zero_add, Nat.reduceAdd] at hx47_0);(try rw [show ((0 : Int)).toNat = 0 from rfl] at hf47_0);(try simp only [Nat.reduceMul, Nat.zero_mul, Nat.zero_add, Nat.reduceAdd] at hf47_0);replace p47 := eq_true p47;replace q47 := eq_true q47;have HP50 := Kd.R_putg HO_11.out (0 : Int) true;go_wp2_with (first | ((with_reducible refine gate_store (t := 4) (p := 77) rfl ?_); refine store_event (t := 4) (p := 77) (v := ?vo_w51) (w1 := (wr.setCell ⟨go47, (0 : Int).toNat, none⟩ (.bool true))) ?hg ?ho ?hn ?hr ?_; (case ho => rfl); (case hg => rfl); (case hn => rfl); (case hr => first | (go_simp; done) | (go_simp; rfl)); intro w51 hw; have hg : wr.grownBy w51 (some go47) := (by rw [hw]; exact HP50.2); have hp_ : Kd.R Kd.bool 4 w51 w.heap.size (fun k_ => (w.heap.size ≤ k_)) (.slice (some ⟨go47, 0, none⟩) x11_2.length co47) y571 := (by rw [hw, Ny571.out]; exact HP50.1); clear HP50; have n0_ := Aside0.mk (hp_); have n1_ := Aside0.mk (Kd.N_afterv (v := (.slice (some ⟨go47, 0, none⟩) x11_2.length co47)) (v1 := (.slice (some ⟨go47, 0, none⟩) x11_2.length co47)) (ok := (fun k_ => (w.heap.size ≤ k_) ∧ some k_ ≠ (u558001 : Value).ownBlock ∧ k_ ≠ gb553 ∧ k_ ≠ gb557)) (by (with_reducible repeat (first | apply Kd.N_alloc | apply Kd.N_drewN | apply Kd.N_drew)); exact Kd.N_mono HO_558000.out (fun _ hk => ⟨⟨hk.1, ⟨hk.2.2.1, ⟨hk.2.2.2.1, hk.2.2.2.2⟩⟩⟩, hk.2.1⟩)) hg (.inl rfl)); have n2_ := Aside0.mk (Kd.R_over' (v := (.slice (some ⟨go47, 0, none⟩) x11_2.length co47)) (qR HO_558001.out) (Kd.R_typed HO_11.out) (by decide) hg); have n3_ := Aside0.mk (blk_grown (g := gb553) (o := .cells #[.slice none 0 0, .slice none 0 0] 28 (0, 0)) (qK BK553.out) hg (Kd.R_ne HO_11.out BK553.out (by decide))); have n4_ := Aside0.mk (blk_grown (g := gb557) (o := .cells #[.slice Ao41 x558000_1.length co41, u558001] 28 (0, 0)) (qK BK557.out) hg (Kd.R_ne HO_11.out BK557.out (by decide))); have n5_ := Aside0.mk ((by rw [hw]; exact below_set (HB.out) GB47.out : Below w.heap.size w w51)); clear HO_11; clear HO_558000; clear HO_558001; clear BK553; clear BK557; clear HB; have HO_11 := n0_; have HO_558000 := n1_; have HO_558001 := n2_; have BK553 := n3_; have BK557 := n4_; have HB := n5_; clear n0_ n1_ n2_ n3_ n4_ n5_; clear hg hw hp_))
           go_roundg k2
           case measure => have := HK1.out; have := HK2.out; omega
           case rel => exact ⟨(y571), (wrap64 (x12_2 + 1)), (x558001_2), (u558001), (by first | rfl | (simp; done) | (simp [*]; done)), H', ⟨by have := HK1.out; have := HK2.out; omega⟩, ⟨by (with_reducible repeat (first | apply Kd.R_alloc | apply Kd.R_drewN | apply Kd.R_drew)); exact HO_11.out⟩, ⟨by (with_reducible repeat (first | apply Kd.N_alloc | apply Kd.N_drewN | apply Kd.N_drew)); exact Kd.N_mono HO_558000.out (fun _ hk => ⟨hk.1.1, ⟨hk.2, ⟨hk.1.2.1, ⟨hk.1.2.2.1, hk.1.2.2.2⟩⟩⟩⟩)⟩, ⟨by (with_reducible repeat (first | apply Kd.R_alloc | apply Kd.R_drewN | apply Kd.R_drew)); exact HO_558001.out⟩, ⟨by (with_reducible repeat (first | refine blk_drewN ?_ _ | refine blk_drew ?_ | refine blk_alloc ?_ _)); exact BK553.out⟩, ⟨by (with_reducible repeat (first | refine blk_drewN ?_ _ | refine blk_drew ?_ | refine blk_alloc ?_ _)); exact BK557.out⟩, ⟨by repeat (first | (with_reducible first | exact HB.out | apply below_alloc | apply pw_below_drewN | apply below_drew1 | refine below_set ?_ GE553.out | refine below_set ?_ GE557.out) | exact HB.out)⟩⟩
          ·rw [if_neg c46] at H
           exact absurd H (by simp)
         ·rw [if_neg c45] at H
          have c45b0 : (x12_2 == 0) = false := beq_eq_false_iff_ne.mpr c45;have c45b1 : (x12_2 != 0) = true := bne_iff_ne.mpr c45;have H' := Aside0.mk H;clear H;have hnb52 := NB557_553.out;have hnc52 := NB553_557.out;have hcz53_0 : wr.cell? ⟨gb557, 0, none⟩ = some (.slice Ao41 x558000_1.length co41) := (blk_cell BK557.out 0).trans rfl;have hcz53_1 : wr.cell? ⟨gb557, 1, none⟩ = some (u558001) := (blk_cell BK557.out 1).trans rfl;have hfz53_0 := blk_frozen BK557.out 0;have hfz53_1 := blk_frozen BK557.out 1;go_wp2
          go_loopg [13, 14, 15, 16] k2 (fun kq v13 v14 v15 v16 w' => ∃ (x13_3 : Int) (x14_3 : Int) (x15_3 : Int) (x16_3 : Int), v13 = .int .i64 x13_3 ∧ v14 = .int .i64 x14_3 ∧ v15 = .int .i64 x15_3 ∧ v16 = .int .i64 x16_3 ∧ Aside0 (arboristref11_Build.l3 kq x11_2 x12_2 x13_3 x14_3 x15_3 x16_3 x558000_1 x558001_2 = some (r1, r2)) ∧ Aside0 (kq ≤ k2) ∧ Aside0 (Kd.R Kd.bool 4 w' w.heap.size (fun k_ => (w.heap.size ≤ k_)) v569 x11_2) ∧ Aside0 (Kd.N (Kd.slice 3 (Kd.int .i64)) 23 w' w.heap.size (fun k_ => (w.heap.size ≤ k_) ∧ some k_ ≠ (v569 : Value).ownBlock ∧ some k_ ≠ (u558001 : Value).ownBlock ∧ k_ ≠ gb553 ∧ k_ ≠ gb557) (.slice Ao41 x558000_1.length co41) x558000_1) ∧ Aside0 (Kd.R (Kd.int .i64) 3 w' w.heap.size (fun k_ => (w.heap.size ≤ k_)) u558001 x558001_2) ∧ Aside0 (w'.heap[gb553]? = some (.cells #[(.slice none 0 0), (.slice none 0 0)] 28 (0, 0))) ∧ Aside0 (w'.heap[gb557]? = some (.cells #[(.slice Ao41 x558000_1.length co41), u558001] 28 (0, 0))) ∧ Aside0 (Below w.heap.size w w'))
          case atStart => exact ⟨((-1)), ((-1)), ((-1)), (0), (by first | rfl | (simp; done) | (simp [*]; done)), (by first | rfl | (simp; done) | (simp [*]; done)), (by first | rfl | (simp; done) | (simp [*]; done)), (by first | rfl | (simp; done) | (simp [*]; done)), H', ⟨Nat.le_refl _⟩, ⟨by (with_reducible repeat (first | apply Kd.R_alloc | apply Kd.R_drewN | apply Kd.R_drew)); exact HO_11.out⟩, ⟨by (with_reducible repeat (first | apply Kd.N_alloc | apply Kd.N_drewN | apply Kd.N_drew)); exact HO_558000.out⟩, ⟨by (with_reducible repeat (first | apply Kd.R_alloc | apply Kd.R_drewN | apply Kd.R_drew)); exact HO_558001.out⟩, ⟨by (with_reducible repeat (first | refine blk_drewN ?_ _ | refine blk_drew ?_ | refine blk_alloc ?_ _)); exact BK553.out⟩, ⟨by (with_reducible repeat (first | refine blk_drewN ?_ _ | refine blk_drew ?_ | refine blk_alloc ?_ _)); exact BK557.out⟩, ⟨by repeat (first | (with_reducible first | exact HB.out | apply below_alloc | apply pw_below_drewN | apply below_drew1 | refine below_set ?_ GE553.out | refine below_set ?_ GE557.out) | exact HB.out)⟩⟩
          case round =>
           clear H';try clear c1
           try clear c2
           try clear p2
           try clear c3
           try clear c4
           try clear p4
           try clear q4
           try clear hx4
           try clear qi4
           try clear hf4
           try clear c5
           try clear p5
           try clear q5
           try clear hx5
           try clear p6
           try clear c9
           try clear c9b0
           try clear c11
           try clear c11b0
           try clear c12
           try clear c13
           try clear c14
           try clear c15
           try clear c17
           try clear c21
           try clear c22
           try clear c23
           try clear c23b0
           try clear c24
           try clear c24b0
           try clear c25
           try clear c26
           try clear c31
           try clear c36
           try clear c36b0
           try clear c36b1
           try clear c37
           try clear c37b0
           try clear c37b1
           try clear c39
           try clear c44
           try clear c44b0
           try clear c45
           try clear c45b0
           try clear c45b1
           try clear c46
           try clear c46b0
           try clear c46b1
           try clear p47
           try clear q47
           try clear hx47
           try clear qi47
           try clear hf47
           try clear c48
           try clear c52
           try clear hcz32_0
           try clear hcz32_1
           try clear hcz35_0
           try clear hcz35_1
           try clear hcz40_0
           try clear hcz40_1
           try clear hcz49_0
           try clear hcz49_1
           try clear hcz53_0
           try clear hcz53_1
           try clear hfz32_0
           try clear hfz32_1
           try clear hfz35_0
           try clear hfz35_1
           try clear hfz40_0
           try clear hfz40_1
           try clear hfz49_0
           try clear hfz49_1
           try clear hfz53_0
           try clear hfz53_1
           try clear hx47_0
           try clear hx558_0
           try clear hx559_0
           try clear hx561_0
           try clear p2
           try clear p47
           try clear p5
           try clear p558
           try clear p559
           try clear p561
           try clear p6
           try clear q47
           try clear q5
           try clear q558
           try clear q559
           try clear q561
           obtain ⟨x13_3, x14_3, x15_3, x16_3, rfl, rfl, rfl, rfl, HA, HK3, HO_11, HO_558000, HO_558001, BK553, BK557, HB⟩ := hrel;cases gk with
           | zero => exact absurd HA.out (by simp [arboristref11_Build.l3])
           | succ k3 =>
            have H := HA.out;clear HA;simp only [arboristref11_Build.l3] at H
            by_cases c54 : x16_3 < (x558000_1.length : Int)
            ·rw [if_pos c54] at H
             have c54b0 : decide (x16_3 < (x558000_1.length : Int)) = true := decide_eq_true c54;clear c54;have H' := Aside0.mk H;clear H;have hnb55 := NB557_553.out;have hnc55 := NB553_557.out;have hcz56_0 : wr.cell? ⟨gb557, 0, none⟩ = some (.slice Ao41 x558000_1.length co41) := (blk_cell BK557.out 0).trans rfl;have hcz56_1 : wr.cell? ⟨gb557, 1, none⟩ = some (u558001) := (blk_cell BK557.out 1).trans rfl;have hfz56_0 := blk_frozen BK557.out 0;have hfz56_1 := blk_frozen BK557.out 1;go_wp2
             go_loopg [13, 14, 15, 17] k3 (fun kq v13 v14 v15 v17 w' => ∃ (x13_4 : Int) (x14_4 : Int) (x15_4 : Int) (x17_4 : Int), v13 = .int .i64 x13_4 ∧ v14 = .int .i64 x14_4 ∧ v15 = .int .i64 x15_4 ∧ v17 = .int .i64 x17_4 ∧ Aside0 (arboristref11_Build.l4 kq x11_2 x12_2 x13_4 x14_4 x15_4 x16_3 x17_4 x558000_1 x558001_2 = some (r1, r2)) ∧ Aside0 (kq ≤ k3) ∧ Aside0 (Kd.R Kd.bool 4 w' w.heap.size (fun k_ => (w.heap.size ≤ k_)) v569 x11_2) ∧ Aside0 (Kd.N (Kd.slice 3 (Kd.int .i64)) 23 w' w.heap.size (fun k_ => (w.heap.size ≤ k_) ∧ some k_ ≠ (v569 : Value).ownBlock ∧ some k_ ≠ (u558001 : Value).ownBlock ∧ k_ ≠ gb553 ∧ k_ ≠ gb557) (.slice Ao41 x558000_1.length co41) x558000_1) ∧ Aside0 (Kd.R (Kd.int .i64) 3 w' w.heap.size (fun k_ => (w.heap.size ≤ k_)) u558001 x558001_2) ∧ Aside0 (w'.heap[gb553]? = some (.cells #[(.slice none 0 0), (.slice none 0 0)] 28 (0, 0))) ∧ Aside0 (w'.heap[gb557]? = some (.cells #[(.slice Ao41 x558000_1.length co41), u558001] 28 (0, 0))) ∧ Aside0 (Below w.heap.size w w'))
             case atStart => exact ⟨(x13_3), (x14_3), (x15_3), (0), (by first | rfl | (simp; done) | (simp [*]; done)), (by first | rfl | (simp; done) | (simp [*]; done)), (by first | rfl | (simp; done) | (simp [*]; done)), (by first | rfl | (simp; done) | (simp [*]; done)), H', ⟨Nat.le_refl _⟩, ⟨by (with_reducible repeat (first | apply Kd.R_alloc | apply Kd.R_drewN | apply Kd.R_drew)); exact HO_11.out⟩, ⟨by (with_reducible repeat (first | apply Kd.N_alloc | apply Kd.N_drewN | apply Kd.N_drew)); exact HO_558000.out⟩, ⟨by (with_reducible repeat (first | apply Kd.R_alloc | apply Kd.R_drewN | apply Kd.R_drew)); exact HO_558001.out⟩, ⟨by (with_reducible repeat (first | refine blk_drewN ?_ _ | refine blk_drew ?_ | refine blk_alloc ?_ _)); exact BK553.out⟩, ⟨by (with_reducible repeat (first | refine blk_drewN ?_ _ | refine blk_drew ?_ | refine blk_alloc ?_ _)); exact BK557.out⟩, ⟨by repeat (first | (with_reducible first | exact HB.out | apply below_alloc | apply pw_below_drewN | apply below_drew1 | refine below_set ?_ GE553.out | refine below_set ?_ GE557.out) | exact HB.out)⟩⟩
             case round =>
              clear H';try clear c1
              try clear c2
              try clear p2
              try clear c3
              try clear c4
              try clear p4
              try clear q4
              try clear hx4
              try clear qi4
              try clear hf4
              try clear c5
              try clear p5
              try clear q5
              try clear hx5
              try clear p6
              try clear c9
              try clear c9b0
              try clear c11
              try clear c11b0
              try clear c12
              try clear c13
              try clear c14
              try clear c15
              try clear c17
              try clear c21
              try clear c22
              try clear c23
              try clear c23b0
              try clear c24
              try clear c24b0
              try clear c25
              try clear c26
              try clear c31
              try clear c36
              try clear c36b0
              try clear c36b1
              try clear c37
              try clear c37b0
              try clear c37b1
              try clear c39
              try clear c44
              try clear c44b0
              try clear c45
              try clear c45b0
              try clear c45b1
              try clear c46
              try clear c46b0
              try clear c46b1
              try clear p47
              try clear q47
              try clear hx47
              try clear qi47
              try clear hf47
              try clear c48
              try clear c52
              try clear c54
              try clear c54b0
              try clear c55
              try clear p55
              try clear q55
              try clear hx55
              try clear c56
              try clear p56
              try clear q56
              try clear hx56
              try clear hcz32_0
              try clear hcz32_1
              try clear hcz35_0
              try clear hcz35_1
              try clear hcz40_0
              try clear hcz40_1
              try clear hcz49_0
              try clear hcz49_1
              try clear hcz53_0
              try clear hcz53_1
              try clear hcz56_0
              try clear hcz56_1
              try clear hfz32_0
              try clear hfz32_1
              try clear hfz35_0
              try clear hfz35_1
              try clear hfz40_0
              try clear hfz40_1
              try clear hfz49_0
              try clear hfz49_1
              try clear hfz53_0
              try clear hfz53_1
              try clear hfz56_0
              try clear hfz56_1
              try clear hx47_0
              try clear hx558_0
              try clear hx559_0
              try clear hx561_0
              try clear p2
              try clear p4
              try clear p47
              try clear p5
              try clear p558
              try clear p559
              try clear p561
              try clear p6
              try clear q4
              try clear q47
              try clear q5
              try clear q558
              try clear q559
              try clear q561
              obtain ⟨x13_4, x14_4, x15_4, x17_4, rfl, rfl, rfl, rfl, HA, HK4, HO_11, HO_558000, HO_558001, BK553, BK557, HB⟩ := hrel;cases gk with
              | zero => exact absurd HA.out (by simp [arboristref11_Build.l4])
              | succ k4 =>
               have H := HA.out;clear HA;simp only [arboristref11_Build.l4] at H
               by_cases c57 : x17_4 < (x558000_1.length : Int)
               ·rw [if_pos c57] at H
                have c57b0 : decide (x17_4 < (x558000_1.length : Int)) = true := decide_eq_true c57;clear c57;have HC58 := Aside0.mk H;clear H;have hnb59 := NB557_553.out;have hnc59 := NB553_557.out;have hcz60_0 : wr.cell? ⟨gb557, 0, none⟩ = some (.slice Ao41 x558000_1.length co41) := (blk_cell BK557.out 0).trans rfl;have hcz60_1 : wr.cell? ⟨gb557, 1, none⟩ = some (u558001) := (blk_cell BK557.out 1).trans rfl;have hfz60_0 := blk_frozen BK557.out 0;have hfz60_1 := blk_frozen BK557.out 1;go_upto_region 30 with (fail)
                go_cut [102] (fun v102 wc => ∃ (kq : Nat) (x102_57 : Bool), v102 = .bool x102_57 ∧ Aside0 (arboristref11_Build.j5 kq x11_2 x12_2 x13_4 x14_4 x15_4 x16_3 x17_4 x102_57 x558000_1 x558001_2 = some (r1, r2)) ∧ Aside0 (kq ≤ k4) ∧ Aside0 (Kd.R Kd.bool 4 wc w.heap.size (fun k_ => (w.heap.size ≤ k_)) v569 x11_2) ∧ Aside0 (Kd.N (Kd.slice 3 (Kd.int .i64)) 23 wc w.heap.size (fun k_ => (w.heap.size ≤ k_) ∧ some k_ ≠ (v569 : Value).ownBlock ∧ some k_ ≠ (u558001 : Value).ownBlock ∧ k_ ≠ gb553 ∧ k_ ≠ gb557) (.slice Ao41 x558000_1.length co41) x558000_1) ∧ Aside0 (Kd.R (Kd.int .i64) 3 wc w.heap.size (fun k_ => (w.heap.size ≤ k_)) u558001 x558001_2) ∧ Aside0 (wc.heap[gb553]? = some (.cells #[(.slice none 0 0), (.slice none 0 0)] 28 (0, 0))) ∧ Aside0 (wc.heap[gb557]? = some (.cells #[(.slice Ao41 x558000_1.length co41), u558001] 28 (0, 0))) ∧ Aside0 (Below w.heap.size w wc))
                case first =>
                 have H := HC58.out;clear HC58;by_cases c61 : 0 ≤ x16_3
                 ·rw [if_pos c61] at H
                  have c61b0 : decide (0 ≤ x16_3) = true := decide_eq_true c61;clear c61;(first | rw [c61b0] | (simp only [i64_w, i32_w]; rw [c61b0]) | skip);by_cases c62 : x16_3 < (x11_2.length : Int)
                  ·rw [if_pos c62] at H
                   have c62b0 : decide (x16_3 < (x11_2.length : Int)) = true := decide_eq_true c62;clear c62;obtain ⟨bq63, hbq63⟩ : ∃ b_ : Bool, b_ = (rdOf false x11_2 x16_3) := ⟨_, rfl⟩;replace H : (if bq63 = true then (arboristref11_Build.j5 k4 x11_2 x12_2 x13_4 x14_4 x15_4 x16_3 x17_4 true x558000_1 x558001_2) else (if 0 ≤ x17_4 then (if x17_4 < (x11_2.length : Int) then (arboristref11_Build.j5 k4 x11_2 x12_2 x13_4 x14_4 x15_4 x16_3 x17_4 (!(rdOf false x11_2 x17_4)) x558000_1 x558001_2) else (none)) else (none))) = some (r1, r2) := by rw [← hbq63] at H; exact H
                   have Nbq63 := Aside0.mk hbq63;clear hbq63;by_cases c64 : bq63 = true
                   ·subst c64;replace H : (arboristref11_Build.j5 k4 x11_2 x12_2 x13_4 x14_4 x15_4 x16_3 x17_4 true x558000_1 x558001_2) = some (r1, r2) := by rw [if_pos rfl] at H; exact H
                    have H' := Aside0.mk H;clear H;obtain ⟨Ao65, co65, eo65⟩ := Kd.R_slice HO_11.out;subst eo65;have p574 : 0 ≤ (x16_3 : Int) := of_decide_eq_true qA;have q574 : x16_3 < (x11_2.length : Int) := of_decide_eq_true qA;obtain ⟨ad574, e574, hx574_0⟩ := Kd.at_bool (Kd.R_reads' HO_11.out).2.2 x16_3 p574 q574;(try rw [← Nbq63.out] at hx574_0);cases e574
                    replace p574 := eq_true p574;replace q574 := eq_true q574;go_wp2
                    go_meet
                    case rel => exact ⟨_, (true), (by first | rfl | (simp; done) | (simp [*]; done)), H', ⟨by have := HK1.out; have := HK2.out; have := HK3.out; have := HK4.out; first | omega | exact Nat.le_refl _⟩, ⟨by (with_reducible repeat (first | apply Kd.R_alloc | apply Kd.R_drewN | apply Kd.R_drew)); exact HO_11.out⟩, ⟨by (with_reducible repeat (first | apply Kd.N_alloc | apply Kd.N_drewN | apply Kd.N_drew)); exact HO_558000.out⟩, ⟨by (with_reducible repeat (first | apply Kd.R_alloc | apply Kd.R_drewN | apply Kd.R_drew)); exact HO_558001.out⟩, ⟨by (with_reducible repeat (first | refine blk_drewN ?_ _ | refine blk_drew ?_ | refine blk_alloc ?_ _)); exact BK553.out⟩, ⟨by (with_reducible repeat (first | refine blk_drewN ?_ _ | refine blk_drew ?_ | refine blk_alloc ?_ _)); exact BK557.out⟩, ⟨by repeat (first | (with_reducible first | exact HB.out | apply below_alloc | apply pw_below_drewN | apply below_drew1 | refine below_set ?_ GE553.out | refine below_set ?_ GE557.out) | exact HB.out)⟩⟩
                   ·replace c64 := Bool.eq_false_iff.mpr c64;subst c64;replace H : (if 0 ≤ x17_4 then (if x17_4 < (x11_2.length : Int) then (arboristref11_Build.j5 k4 x11_2 x12_2 x13_4 x14_4 x15_4 x16_3 x17_4 (!(rdOf false x11_2 x17_4)) x558000_1 x558001_2) else (none)) else (none)) = some (r1, r2) := by rw [if_neg (show ¬ (false = true) by decide)] at H; exact H
                    by_cases c66 : 0 ≤ x17_4
                    ·rw [if_pos c66] at H
                     have c66b0 : decide (0 ≤ x17_4) = true := decide_eq_true c66;clear c66;by_cases c67 : x17_4 < (x11_2.length : Int)
                     ·rw [if_pos c67] at H
                      have c67b0 : decide (x17_4 < (x11_2.length : Int)) = true := decide_eq_true c67;clear c67;have H' := Aside0.mk H;clear H;obtain ⟨Ao68, co68, eo68⟩ := Kd.R_slice HO_11.out;subst eo68;have p574 : 0 ≤ (x16_3 : Int) := of_decide_eq_true qA;have q574 : x16_3 < (x11_2.length : Int) := of_decide_eq_true qA;obtain ⟨ad574, e574, hx574_0⟩ := Kd.at_bool (Kd.R_reads' HO_11.out).2.2 x16_3 p574 q574;(try rw [← Nbq63.out] at hx574_0);cases e574
                      replace p574 := eq_true p574;replace q574 := eq_true q574;have p575 : 0 ≤ (x17_4 : Int) := of_decide_eq_true qA;have q575 : x17_4 < (x11_2.length : Int) := of_decide_eq_true qA;obtain ⟨ad575, e575, hx575_0⟩ := Kd.at_bool (Kd.R_reads' HO_11.out).2.2 x17_4 p575 q575;(try rw [← Nbq63.out] at hx575_0);obtain rfl : ad574 = ad575 := (by injection e575);replace p575 := eq_true p575;replace q575 := eq_true q575;go_wp2
                      go_meet
                      case rel => exact ⟨_, (!(rdOf false x11_2 x17_4)), (by first | rfl | (simp; done) | (simp [*]; done)), H', ⟨by have := HK1.out; have := HK2.out; have := HK3.out; have := HK4.out; first | omega | exact Nat.le_refl _⟩, ⟨by (with_reducible repeat (first | apply Kd.R_alloc | apply Kd.R_drewN | apply Kd.R_drew)); exact HO_11.out⟩, ⟨by (with_reducible repeat (first | apply Kd.N_alloc | apply Kd.N_drewN | apply Kd.N_drew)); exact HO_558000.out⟩, ⟨by (with_reducible repeat (first | apply Kd.R_alloc | apply Kd.R_drewN | apply Kd.R_drew)); exact HO_558001.out⟩, ⟨by (with_reducible repeat (first | refine blk_drewN ?_ _ | refine blk_drew ?_ | refine blk_alloc ?_ _)); exact BK553.out⟩, ⟨by (with_reducible repeat (first | refine blk_drewN ?_ _ | refine blk_drew ?_ | refine blk_alloc ?_ _)); exact BK557.out⟩, ⟨by repeat (first | (with_reducible first | exact HB.out | apply below_alloc | apply pw_below_drewN | apply below_drew1 | refine below_set ?_ GE553.out | refine below_set ?_ GE557.out) | exact HB.out)⟩⟩
                     ·rw [if_neg c67] at H
                      exact absurd H (by simp)
                    ·rw [if_neg c66] at H
                     exact absurd H (by simp)
                  ·rw [if_neg c62] at H
                   exact absurd H (by simp)
                 ·rw [if_neg c61] at H
                  exact absurd H (by simp)
                case rest =>
                 clear HC58;try clear c1
                 try clear c2
                 try clear p2
                 try clear c3
                 try clear c4
                 try clear p4
                 try clear q4
                 try clear hx4
                 try clear qi4
                 try clear hf4
                 try clear c5
                 try clear p5
                 try clear q5
                 try clear hx5
                 try clear c6
                 try clear p6
                 try clear q6
                 try clear c9
                 try clear c9b0
                 try clear c11
                 try clear c11b0
                 try clear c12
                 try clear c13
                 try clear c14
                 try clear c15
                 try clear c17
                 try clear c21
                 try clear c22
                 try clear c23
                 try clear c23b0
                 try clear c24
                 try clear c24b0
                 try clear c25
                 try clear c26
                 try clear c31
                 try clear c36
                 try clear c36b0
                 try clear c36b1
                 try clear c37
                 try clear c37b0
                 try clear c37b1
                 try clear c39
                 try clear c44
                 try clear c44b0
                 try clear c45
                 try clear c45b0
                 try clear c45b1
                 try clear c46
                 try clear c46b0
                 try clear c46b1
                 try clear p47
                 try clear q47
                 try clear hx47
                 try clear qi47
                 try clear hf47
                 try clear c48
                 try clear c52
                 try clear c54
                 try clear c54b0
                 try clear c55
                 try clear p55
                 try clear q55
                 try clear hx55
                 try clear c56
                 try clear p56
                 try clear q56
                 try clear hx56
                 try clear c57
                 try clear c57b0
                 try clear p57
                 try clear q57
                 try clear hx57
                 try clear c59
                 try clear c61
                 try clear c61b0
                 try clear c62
                 try clear c62b0
                 try clear q63
                 try clear c64
                 try clear p64
                 try clear c66
                 try clear c66b0
                 try clear c67
                 try clear c67b0
                 try clear hcz32_0
                 try clear hcz32_1
                 try clear hcz35_0
                 try clear hcz35_1
                 try clear hcz40_0
                 try clear hcz40_1
                 try clear hcz49_0
                 try clear hcz49_1
                 try clear hcz53_0
                 try clear hcz53_1
                 try clear hcz56_0
                 try clear hcz56_1
                 try clear hcz60_0
                 try clear hcz60_1
                 try clear hfz32_0
                 try clear hfz32_1
                 try clear hfz35_0
                 try clear hfz35_1
                 try clear hfz40_0
                 try clear hfz40_1
                 try clear hfz49_0
                 try clear hfz49_1
                 try clear hfz53_0
                 try clear hfz53_1
                 try clear hfz56_0
                 try clear hfz56_1
                 try clear hfz60_0
                 try clear hfz60_1
                 try clear hx47_0
                 try clear hx558_0
                 try clear hx559_0
                 try clear hx561_0
                 try clear hx574_0
                 try clear hx575_0
                 try clear p2
                 try clear p4
                 try clear p47
                 try clear p5
                 try clear p55
                 try clear p558
                 try clear p559
                 try clear p56
                 try clear p561
                 try clear p574
                 try clear p575
                 try clear p6
                 try clear q4
                 try clear q47
                 try clear q5
                 try clear q55
                 try clear q558
                 try clear q559
                 try clear q56
                 try clear q561
                 try clear q574
                 try clear q575
                 obtain ⟨kq, x102_57, rfl, HA, HJ57, HO_11, HO_558000, HO_558001, BK553, BK557, HB⟩ := hcut;cases kq with
                 | zero => exact absurd HA.out (by simp [arboristref11_Build.j5])
                 | succ kj57 =>
                  have H := HA.out;clear HA;simp only [arboristref11_Build.j5] at H
                  by_cases c69 : x102_57 = true
                  ·subst c69;replace H : (arboristref11_Build.l4 kj57 x11_2 x12_2 x13_4 x14_4 x15_4 x16_3 (wrap64 (x17_4 + 1)) x558000_1 x558001_2) = some (r1, r2) := by rw [if_pos rfl] at H; exact H
                   have H' := Aside0.mk H;clear H;go_wp2
                   go_roundg kj57
                   case measure => have := HK1.out; have := HK2.out; have := HK3.out; have := HK4.out; have := HJ57.out; omega
                   case rel => exact ⟨(x13_4), (x14_4), (x15_4), (wrap64 (x17_4 + 1)), (by first | rfl | (simp; done) | (simp [*]; done)), (by first | rfl | (simp; done) | (simp [*]; done)), (by first | rfl | (simp; done) | (simp [*]; done)), (by first | rfl | (simp; done) | (simp [*]; done)), H', ⟨by have := HK1.out; have := HK2.out; have := HK3.out; have := HK4.out; have := HJ57.out; omega⟩, ⟨by (with_reducible repeat (first | apply Kd.R_alloc | apply Kd.R_drewN | apply Kd.R_drew)); exact HO_11.out⟩, ⟨by (with_reducible repeat (first | apply Kd.N_alloc | apply Kd.N_drewN | apply Kd.N_drew)); exact HO_558000.out⟩, ⟨by (with_reducible repeat (first | apply Kd.R_alloc | apply Kd.R_drewN | apply Kd.R_drew)); exact HO_558001.out⟩, ⟨by (with_reducible repeat (first | refine blk_drewN ?_ _ | refine blk_drew ?_ | refine blk_alloc ?_ _)); exact BK553.out⟩, ⟨by (with_reducible repeat (first | refine blk_drewN ?_ _ | refine blk_drew ?_ | refine blk_alloc ?_ _)); exact BK557.out⟩, ⟨by repeat (first | (with_reducible first | exact HB.out | apply below_alloc | apply pw_below_drewN | apply below_drew1 | refine below_set ?_ GE553.out | refine below_set ?_ GE557.out) | exact HB.out)⟩⟩
                  ·replace c69 := Bool.eq_false_iff.mpr c69;subst c69;replace H : (if 0 ≤ x16_3 then (if x16_3 < (x558000_1.length : Int) then (if 0 ≤ x17_4 then (if x17_4 < (x558000_1.length : Int) then ((arboristref01_Meet.f kj57 (rd_L1 x558000_1 x16_3) (rd_L1 x558000_1 x17_4)).bind fun t578 => (if (t578.length : Int) > x15_4 then (arboristref11_Build.l4 kj57 x11_2 x12_2 x16_3 x17_4 (t578.length : Int) x16_3 (wrap64 (x17_4 + 1)) x558000_1 x558001_2) else (arboristref11_Build.l4 kj57 x11_2 x12_2 x13_4 x14_4 x15_4 x16_3 (wrap64 (x17_4 + 1)) x558000_1 x558001_2))) else (none)) else (none)) else (none)) else (none)) = some (r1, r2) := by rw [if_neg (show ¬ (false = true) by decide)] at H; exact H
                   by_cases c70 : 0 ≤ x16_3
                   ·rw [if_pos c70] at H
                    have c70b0 : decide (0 ≤ x16_3) = true := decide_eq_true c70;clear c70;by_cases c71 : x16_3 < (x558000_1.length : Int)
                    ·rw [if_pos c71] at H
                     have c71b0 : decide (x16_3 < (x558000_1.length : Int)) = true := decide_eq_true c71;clear c71;by_cases c72 : 0 ≤ x17_4
                     ·rw [if_pos c72] at H
                      have c72b0 : decide (0 ≤ x17_4) = true := decide_eq_true c72;clear c72;by_cases c73 : x17_4 < (x558000_1.length : Int)
                      ·rw [if_pos c73] at H
                       have c73b0 : decide (x17_4 < (x558000_1.length : Int)) = true := decide_eq_true c73;clear c73;replace H := Option.bind_eq_some_iff.mp H;obtain ⟨t578, A740, H⟩ := H;(try dsimp only at H);have A74 := Aside0.mk A740;clear A740;by_cases c75 : (t578.length : Int) > x15_4
                       ·rw [if_pos c75] at H
                        have c75b0 : decide (x15_4 < (t578.length : Int)) = true := decide_eq_true c75;clear c75;have H' := Aside0.mk H;clear H;try go_wp2
                        replace HO_11 := Aside0.mk (Kd.R_drew HO_11.out);replace HO_558000 := Aside0.mk (Kd.N_drew HO_558000.out);replace HO_558001 := Aside0.mk (Kd.R_drew HO_558001.out);replace BK553 := Aside0.mk (blk_drew BK553.out);replace BK557 := Aside0.mk (blk_drew BK557.out);replace HB := Aside0.mk (below_drew1 HB.out);have p576 : 0 ≤ (x16_3 : Int) := of_decide_eq_true qA;have q576 : x16_3 < (x558000_1.length : Int) := of_decide_eq_true qA;obtain ⟨ad576, A576_0, c576_0, e576, hx576_0, hl576_0, hi576_0⟩ := at_L1 (Kd.N_reads' HO_558000.out).2.2 x16_3 p576 q576;cases e576
                        obtain ⟨ce576, hce576, hMe576, hcc576⟩ := Kd.N_get HO_558000.out [] x16_3 p576 (by first | exact q576 | exact of_decide_eq_true qA | (have e_ := (Kd.N_reads' HO_558000.out).1; omega));obtain ⟨ua576_0, uc576_0, rfl, ul576_0, ge576_0⟩ := Kd.FK_slice_open hMe576;have hv576_0 := hcc576 0 _ rfl;rw [Nat.add_zero, show ((Kd.slice 3 (Kd.int .i64))).sz = 1 from rfl, Nat.mul_one] at hv576_0
                        replace hv576_0 := Option.some.inj (hv576_0.symm.trans hx576_0);injection hv576_0 with hva_ hvn_ hvc_
                        rw [hva_] at ge576_0
                        rw [hvc_] at ul576_0
                        have HL576_0 := Aside0.mk (show Kd.V (Kd.int .i64) 3 _ w.heap.size _ _ (rd_L1 x558000_1 x16_3) from Kd.V_mk ul576_0 ge576_0);clear hva_ hvn_ hvc_ ge576_0 ul576_0;clear hcc576 hce576;have HR576_0 := Aside0.mk hi576_0;have HC576_0 := Aside0.mk hl576_0;clear hi576_0 hl576_0;replace p576 := eq_true p576;replace q576 := eq_true q576;have p577 : 0 ≤ (x17_4 : Int) := of_decide_eq_true qA;have q577 : x17_4 < (x558000_1.length : Int) := of_decide_eq_true qA;obtain ⟨ad577, A577_0, c577_0, e577, hx577_0, hl577_0, hi577_0⟩ := at_L1 (Kd.N_reads' HO_558000.out).2.2 x17_4 p577 q577;obtain rfl : ad576 = ad577 := (by injection e577);obtain ⟨ce577, hce577, hMe577, hcc577⟩ := Kd.N_get HO_558000.out [] x17_4 p577 (by first | exact q577 | exact of_decide_eq_true qA | (have e_ := (Kd.N_reads' HO_558000.out).1; omega));obtain ⟨ua577_0, uc577_0, rfl, ul577_0, ge577_0⟩ := Kd.FK_slice_open hMe577;have hv577_0 := hcc577 0 _ rfl;rw [Nat.add_zero, show ((Kd.slice 3 (Kd.int .i64))).sz = 1 from rfl, Nat.mul_one] at hv577_0
                        replace hv577_0 := Option.some.inj (hv577_0.symm.trans hx577_0);injection hv577_0 with hva_ hvn_ hvc_
                        rw [hva_] at ge577_0
                        rw [hvc_] at ul577_0
                        have HL577_0 := Aside0.mk (show Kd.V (Kd.int .i64) 3 _ w.heap.size _ _ (rd_L1 x558000_1 x17_4) from Kd.V_mk ul577_0 ge577_0);clear hva_ hvn_ hvc_ ge577_0 ul577_0;clear hcc577 hce577;have HR577_0 := Aside0.mk hi577_0;have HC577_0 := Aside0.mk hl577_0;clear hi577_0 hl577_0;replace p577 := eq_true p577;replace q577 := eq_true q577;refine start_ (n := 13) (S := fun w' => w'.cell? ⟨gb557, 0, none⟩ = some (.slice (some ad576) x558000_1.length co41) ∧ w'.cell? ⟨gb557, 1, none⟩ = some (u558001) ∧ w'.cell? (ad576.add (x16_3).toNat) = some (.slice A576_0 (rd_L1 x558000_1 x16_3).length c576_0) ∧ w'.cell? (ad576.add (x17_4).toNat) = some (.slice A577_0 (rd_L1 x558000_1 x17_4).length c577_0)) (ds := []) (bs 13 0) (by kernel_rfl) rfl rfl ⟨(blk_cell BK557.out 0).trans rfl, (blk_cell BK557.out 1).trans rfl, hx576_0, hx577_0⟩ (fun hHeld => ?_); refine with_tabW arboristref11_Build.tab31 arboristref11_Build.bits31 (fun HT_ HW_ => ?_)
                        generalize wc.drew = w76 at HO_11 HO_558000 HO_558001 BK553 BK557 HB HL576_0 HL577_0 HR576_0 HR577_0 hx576_0 hx577_0 hHeld ⊢
                        refine qP 0 (some 103) (bs 13 1) HT_.out ?_;refine qP 2 (some 105) (bs 13 5) HT_.out ?_;refine qP 5 (some 108) (bs 13 37) HT_.out ?_;refine qP 7 (some 110) (bs 13 165) HT_.out ?_;refine take_ (i := 1) (N := some 104) (v := ?_) (a' := ?_) (bs 13 167) rfl rfl (take_ofW HT_.out HW_.out (by kernel_rfl)) (fun _ _ _ h => h) (Or.inl ⟨by rfl, ?_⟩) hHeld ?_ ?_;rotate_left
                        ·rintro w' ⟨s0, s1, s2, s3⟩
                         go_simp
                         with_reducible rfl
                        rotate_left; (simp only [Act.put, List.setIfInBounds_toArray, List.set_cons_zero, List.set_cons_succ, i64_w, i32_w]; rfl)
                        refine qP 3 (some 106) (bs 13 175) HT_.out ?_;refine take_ (i := 4) (N := some 107) (v := ?_) (a' := ?_) (bs 13 191) rfl rfl (take_ofW HT_.out HW_.out (by kernel_rfl)) (fun _ _ _ h => h) (Or.inl ⟨by rfl, ?_⟩) hHeld ?_ ?_;rotate_left
                        ·rintro w' ⟨s0, s1, s2, s3⟩
                         go_simp
                         with_reducible rfl
                        rotate_left; (simp only [Act.put, List.setIfInBounds_toArray, List.set_cons_zero, List.set_cons_succ, i64_w, i32_w]; rfl)
                        refine take_ (i := 6) (N := some 109) (v := ?_) (a' := ?_) (bs 13 255) rfl rfl (take_ofW HT_.out HW_.out (by kernel_rfl)) (fun _ _ _ h => h) (Or.inl ⟨by rfl, ?_⟩) hHeld ?_ ?_;rotate_left
                        ·rintro w' ⟨s0, s1, s2, s3⟩
                         go_simp
                         with_reducible rfl
                        rotate_left; (simp only [Act.put, List.setIfInBounds_toArray, List.set_cons_zero, List.set_cons_succ, i64_w, i32_w]; rfl)
                        refine qP 8 (some 111) (bs 13 511) HT_.out ?_;refine take_ (i := 9) (N := some 112) (v := ?_) (a' := ?_) (bs 13 1023) rfl rfl (take_ofW HT_.out HW_.out (by kernel_rfl)) (fun _ _ _ h => h) (Or.inl ⟨by rfl, ?_⟩) hHeld ?_ ?_;rotate_left
                        ·rintro w' ⟨s0, s1, s2, s3⟩
                         go_simp
                         with_reducible rfl
                        rotate_left; (simp only [Act.put, List.setIfInBounds_toArray, List.set_cons_zero, List.set_cons_succ, i64_w, i32_w]; rfl)
                        refine one_ (i := 10) (N := some 113) (bs 13 2047) rfl rfl (one_of HT_.out (by kernel_rfl)) (by decide) (fun K hK => ?_);refine goes_ Tryd.func15 (by kernel_rfl) rfl #[.slice A576_0 (rd_L1 x558000_1 x16_3).length c576_0, .slice A577_0 (rd_L1 x558000_1 x17_4).length c577_0] (by rfl) rfl rfl qM ?_;with_reducible refine (arboristref01_Meet.calls kj57 _ _ (rd_L1 x558000_1 x16_3) _ _ (rd_L1 x558000_1 x17_4) t578 _ ?side1 ?side2 ?side3 ?side4 A74.out).mono ?_
                        (case side1 => repeat (first | exact (by repeat (first | (with_reducible exact HR576_0.out) | (with_reducible refine Kd.C_alloc ?_ _) | (with_reducible refine Kd.C_drewN ?_ _) | (with_reducible refine Kd.C_drew ?_) | exact HR576_0.out)) | (with_reducible refine Kd.C_alloc ?_ _) | (with_reducible refine Kd.C_drewN ?_ _) | (with_reducible refine Kd.C_drew ?_)));(case side2 => exact HC576_0.out);(case side3 => repeat (first | exact (by repeat (first | (with_reducible exact HR577_0.out) | (with_reducible refine Kd.C_alloc ?_ _) | (with_reducible refine Kd.C_drewN ?_ _) | (with_reducible refine Kd.C_drew ?_) | exact HR577_0.out)) | (with_reducible refine Kd.C_alloc ?_ _) | (with_reducible refine Kd.C_drewN ?_ _) | (with_reducible refine Kd.C_drew ?_)));(case side4 => exact HC577_0.out);rintro e w77 ⟨v579, rfl, ho0, hb⟩
                        have HS2_ := (hb.cell (World.block_lt_of_cell? _ _ (hHeld.2.2.1))).trans (hHeld.2.2.1);have HS3_ := (hb.cell (World.block_lt_of_cell? _ _ (hHeld.2.2.2))).trans (hHeld.2.2.2);refine ⟨_, rfl, ?_⟩;have HO580 := Aside0.mk (Kd.R_lower (Kd.R_new' (Kd.R_newM (M := fun k_ => (w.heap.size ≤ k_)) ho0 (below_size (qB2 GE553.out GE557.out HB.out)) (fun k_ h_ => h_)) (Kd.R_lt (qR HO_558001.out))) (below_size (qB2 GE553.out GE557.out HB.out)));replace HO_11 := Aside0.mk (Kd.R_below (qR HO_11.out) hb);replace HO_558000 := Aside0.mk (Kd.N_elder' (by (with_reducible repeat (first | apply Kd.N_alloc | apply Kd.N_drewN | apply Kd.N_drew)); exact HO_558000.out) (Kd.R_base ho0) hb);replace HO_558001 := Aside0.mk (Kd.R_elder' (qR HO_558001.out) (Kd.R_base ho0) hb);replace HL576_0 := Aside0.mk (Kd.V_elder' (by (with_reducible repeat (first | apply Kd.V_alloc | apply Kd.V_drewN | apply Kd.V_drew)); exact HL576_0.out) (Kd.R_base ho0) hb);replace HL577_0 := Aside0.mk (Kd.V_elder' (by (with_reducible repeat (first | apply Kd.V_alloc | apply Kd.V_drewN | apply Kd.V_drew)); exact HL577_0.out) (Kd.R_base ho0) hb);replace BK553 := Aside0.mk (blk_below (g := gb553) (o := .cells #[.slice none 0 0, .slice none 0 0] 28 (0, 0)) (qK BK553.out) hb);replace BK557 := Aside0.mk (blk_below (g := gb557) (o := .cells #[.slice (some ad576) x558000_1.length co41, u558001] 28 (0, 0)) (qK BK557.out) hb);replace HR576_0 := Aside0.mk (Kd.C_below (by repeat (first | (with_reducible exact HR576_0.out) | (with_reducible refine Kd.C_alloc ?_ _) | (with_reducible refine Kd.C_drewN ?_ _) | (with_reducible refine Kd.C_drew ?_) | exact HR576_0.out)) hb);replace HR577_0 := Aside0.mk (Kd.C_below (by repeat (first | (with_reducible exact HR577_0.out) | (with_reducible refine Kd.C_alloc ?_ _) | (with_reducible refine Kd.C_drewN ?_ _) | (with_reducible refine Kd.C_drew ?_) | exact HR577_0.out)) hb);replace HB := Aside0.mk (below_step (qB2 GE553.out GE557.out HB.out) hb);(try clear hb);(try clear hb2);(try clear hk);(try clear hi);(try clear ho0);obtain ⟨Ao78, co78, eo78⟩ := Kd.R_slice HO580.out;(first | subst eo78 | (injection eo78 with f1_ f2_ f3_; have f4_ := f1_.symm; have f5_ := f3_.symm; clear f1_ f2_ f3_; subst f4_; subst f5_));refine hK.out _ _ ⟨(blk_cell BK557.out 0).trans rfl, (blk_cell BK557.out 1).trans rfl, HS2_, HS3_⟩ (fun hHeld => ?_);clear hK K;refine norm_ (a' := ?_) ?_ ?_;rotate_left
                        ·show Act.put _ (some 113) _ = _
                         simp only [Act.put, List.setIfInBounds_toArray, List.set_cons_zero, List.set_cons_succ, i64_w, i32_w]
                         rfl
                        refine qP 11 (some 114) (bs 13 4095) HT_.out ?_;refine qP 12 (some 18) (bs 13 8191) HT_.out ?_;refine done_ (done_of HT_.out (by kernel_rfl)) ?_;try go_wp2
                        go_roundg kj57
                        case measure => have := HK1.out; have := HK2.out; have := HK3.out; have := HK4.out; have := HJ57.out; omega
                        case rel => exact ⟨(x16_3), (x17_4), ((t578.length : Int)), (wrap64 (x17_4 + 1)), (by first | rfl | (simp; done) | (simp [*]; done)), (by first | rfl | (simp; done) | (simp [*]; done)), (by first | rfl | (simp; done) | (simp [*]; done)), (by first | rfl | (simp; done) | (simp [*]; done)), H', ⟨by have := HK1.out; have := HK2.out; have := HK3.out; have := HK4.out; have := HJ57.out; omega⟩, ⟨by (with_reducible repeat (first | apply Kd.R_alloc | apply Kd.R_drewN | apply Kd.R_drew)); exact HO_11.out⟩, ⟨by (with_reducible repeat (first | apply Kd.N_alloc | apply Kd.N_drewN | apply Kd.N_drew)); exact Kd.N_mono HO_558000.out (fun _ hk => ⟨hk.1.1, ⟨hk.1.2.1, ⟨hk.1.2.2.1, ⟨hk.1.2.2.2.1, hk.1.2.2.2.2⟩⟩⟩⟩)⟩, ⟨by (with_reducible repeat (first | apply Kd.R_alloc | apply Kd.R_drewN | apply Kd.R_drew)); exact Kd.R_mono HO_558001.out (fun _ hk => hk.1)⟩, ⟨by (with_reducible repeat (first | refine blk_drewN ?_ _ | refine blk_drew ?_ | refine blk_alloc ?_ _)); exact BK553.out⟩, ⟨by (with_reducible repeat (first | refine blk_drewN ?_ _ | refine blk_drew ?_ | refine blk_alloc ?_ _)); exact BK557.out⟩, ⟨by repeat (first | (with_reducible first | exact HB.out | apply below_alloc | apply pw_below_drewN | apply below_drew1 | refine below_set ?_ GE553.out | refine below_set ?_ GE557.out) | exact HB.out)⟩⟩
                       ·rw [if_neg c75] at H
                        have c75b0 : decide (x15_4 < (t578.length : Int)) = false := decide_eq_false c75;clear c75;have H' := Aside0.mk H;clear H;try go_wp2
                        replace HO_11 := Aside0.mk (Kd.R_drew HO_11.out);replace HO_558000 := Aside0.mk (Kd.N_drew HO_558000.out);replace HO_558001 := Aside0.mk (Kd.R_drew HO_558001.out);replace BK553 := Aside0.mk (blk_drew BK553.out);replace BK557 := Aside0.mk (blk_drew BK557.out);replace HB := Aside0.mk (below_drew1 HB.out);have p576 : 0 ≤ (x16_3 : Int) := of_decide_eq_true qA;have q576 : x16_3 < (x558000_1.length : Int) := of_decide_eq_true qA;obtain ⟨ad576, A576_0, c576_0, e576, hx576_0, hl576_0, hi576_0⟩ := at_L1 (Kd.N_reads' HO_558000.out).2.2 x16_3 p576 q576;cases e576
                        obtain ⟨ce576, hce576, hMe576, hcc576⟩ := Kd.N_get HO_558000.out [] x16_3 p576 (by first | exact q576 | exact of_decide_eq_true qA | (have e_ := (Kd.N_reads' HO_558000.out).1; omega));obtain ⟨ua576_0, uc576_0, rfl, ul576_0, ge576_0⟩ := Kd.FK_slice_open hMe576;have hv576_0 := hcc576 0 _ rfl;rw [Nat.add_zero, show ((Kd.slice 3 (Kd.int .i64))).sz = 1 from rfl, Nat.mul_one] at hv576_0
                        replace hv576_0 := Option.some.inj (hv576_0.symm.trans hx576_0);injection hv576_0 with hva_ hvn_ hvc_
                        rw [hva_] at ge576_0
                        rw [hvc_] at ul576_0
                        have HL576_0 := Aside0.mk (show Kd.V (Kd.int .i64) 3 _ w.heap.size _ _ (rd_L1 x558000_1 x16_3) from Kd.V_mk ul576_0 ge576_0);clear hva_ hvn_ hvc_ ge576_0 ul576_0;clear hcc576 hce576;have HR576_0 := Aside0.mk hi576_0;have HC576_0 := Aside0.mk hl576_0;clear hi576_0 hl576_0;replace p576 := eq_true p576;replace q576 := eq_true q576;have p577 : 0 ≤ (x17_4 : Int) := of_decide_eq_true qA;have q577 : x17_4 < (x558000_1.length : Int) := of_decide_eq_true qA;obtain ⟨ad577, A577_0, c577_0, e577, hx577_0, hl577_0, hi577_0⟩ := at_L1 (Kd.N_reads' HO_558000.out).2.2 x17_4 p577 q577;obtain rfl : ad576 = ad577 := (by injection e577);obtain ⟨ce577, hce577, hMe577, hcc577⟩ := Kd.N_get HO_558000.out [] x17_4 p577 (by first | exact q577 | exact of_decide_eq_true qA | (have e_ := (Kd.N_reads' HO_558000.out).1; omega));obtain ⟨ua577_0, uc577_0, rfl, ul577_0, ge577_0⟩ := Kd.FK_slice_open hMe577;have hv577_0 := hcc577 0 _ rfl;rw [Nat.add_zero, show ((Kd.slice 3 (Kd.int .i64))).sz = 1 from rfl, Nat.mul_one] at hv577_0
                        replace hv577_0 := Option.some.inj (hv577_0.symm.trans hx577_0);injection hv577_0 with hva_ hvn_ hvc_
                        rw [hva_] at ge577_0
                        rw [hvc_] at ul577_0
                        have HL577_0 := Aside0.mk (show Kd.V (Kd.int .i64) 3 _ w.heap.size _ _ (rd_L1 x558000_1 x17_4) from Kd.V_mk ul577_0 ge577_0);clear hva_ hvn_ hvc_ ge577_0 ul577_0;clear hcc577 hce577;have HR577_0 := Aside0.mk hi577_0;have HC577_0 := Aside0.mk hl577_0;clear hi577_0 hl577_0;replace p577 := eq_true p577;replace q577 := eq_true q577;refine start_ (n := 13) (S := fun w' => w'.cell? ⟨gb557, 0, none⟩ = some (.slice (some ad576) x558000_1.length co41) ∧ w'.cell? ⟨gb557, 1, none⟩ = some (u558001) ∧ w'.cell? (ad576.add (x16_3).toNat) = some (.slice A576_0 (rd_L1 x558000_1 x16_3).length c576_0) ∧ w'.cell? (ad576.add (x17_4).toNat) = some (.slice A577_0 (rd_L1 x558000_1 x17_4).length c577_0)) (ds := []) (bs 13 0) (by kernel_rfl) rfl rfl ⟨(blk_cell BK557.out 0).trans rfl, (blk_cell BK557.out 1).trans rfl, hx576_0, hx577_0⟩ (fun hHeld => ?_); refine with_tabW arboristref11_Build.tab31 arboristref11_Build.bits31 (fun HT_ HW_ => ?_)
                        generalize wc.drew = w79 at HO_11 HO_558000 HO_558001 BK553 BK557 HB HL576_0 HL577_0 HR576_0 HR577_0 hx576_0 hx577_0 hHeld ⊢
                        refine qP 0 (some 103) (bs 13 1) HT_.out ?_;refine qP 2 (some 105) (bs 13 5) HT_.out ?_;refine qP 5 (some 108) (bs 13 37) HT_.out ?_;refine qP 7 (some 110) (bs 13 165) HT_.out ?_;refine take_ (i := 1) (N := some 104) (v := ?_) (a' := ?_) (bs 13 167) rfl rfl (take_ofW HT_.out HW_.out (by kernel_rfl)) (fun _ _ _ h => h) (Or.inl ⟨by rfl, ?_⟩) hHeld ?_ ?_;rotate_left
                        ·rintro w' ⟨s0, s1, s2, s3⟩
                         go_simp
                         with_reducible rfl
                        rotate_left; (simp only [Act.put, List.setIfInBounds_toArray, List.set_cons_zero, List.set_cons_succ, i64_w, i32_w]; rfl)
                        refine qP 3 (some 106) (bs 13 175) HT_.out ?_;refine take_ (i := 4) (N := some 107) (v := ?_) (a' := ?_) (bs 13 191) rfl rfl (take_ofW HT_.out HW_.out (by kernel_rfl)) (fun _ _ _ h => h) (Or.inl ⟨by rfl, ?_⟩) hHeld ?_ ?_;rotate_left
                        ·rintro w' ⟨s0, s1, s2, s3⟩
                         go_simp
                         with_reducible rfl
                        rotate_left; (simp only [Act.put, List.setIfInBounds_toArray, List.set_cons_zero, List.set_cons_succ, i64_w, i32_w]; rfl)
                        refine take_ (i := 6) (N := some 109) (v := ?_) (a' := ?_) (bs 13 255) rfl rfl (take_ofW HT_.out HW_.out (by kernel_rfl)) (fun _ _ _ h => h) (Or.inl ⟨by rfl, ?_⟩) hHeld ?_ ?_;rotate_left
                        ·rintro w' ⟨s0, s1, s2, s3⟩
                         go_simp
                         with_reducible rfl
                        rotate_left; (simp only [Act.put, List.setIfInBounds_toArray, List.set_cons_zero, List.set_cons_succ, i64_w, i32_w]; rfl)
                        refine qP 8 (some 111) (bs 13 511) HT_.out ?_;refine take_ (i := 9) (N := some 112) (v := ?_) (a' := ?_) (bs 13 1023) rfl rfl (take_ofW HT_.out HW_.out (by kernel_rfl)) (fun _ _ _ h => h) (Or.inl ⟨by rfl, ?_⟩) hHeld ?_ ?_;rotate_left
                        ·rintro w' ⟨s0, s1, s2, s3⟩
                         go_simp
                         with_reducible rfl
                        rotate_left; (simp only [Act.put, List.setIfInBounds_toArray, List.set_cons_zero, List.set_cons_succ, i64_w, i32_w]; rfl)
                        refine one_ (i := 10) (N := some 113) (bs 13 2047) rfl rfl (one_of HT_.out (by kernel_rfl)) (by decide) (fun K hK => ?_);refine goes_ Tryd.func15 (by kernel_rfl) rfl #[.slice A576_0 (rd_L1 x558000_1 x16_3).length c576_0, .slice A577_0 (rd_L1 x558000_1 x17_4).length c577_0] (by rfl) rfl rfl qM ?_;with_reducible refine (arboristref01_Meet.calls kj57 _ _ (rd_L1 x558000_1 x16_3) _ _ (rd_L1 x558000_1 x17_4) t578 _ ?side1 ?side2 ?side3 ?side4 A74.out).mono ?_
                        (case side1 => repeat (first | exact (by repeat (first | (with_reducible exact HR576_0.out) | (with_reducible refine Kd.C_alloc ?_ _) | (with_reducible refine Kd.C_drewN ?_ _) | (with_reducible refine Kd.C_drew ?_) | exact HR576_0.out)) | (with_reducible refine Kd.C_alloc ?_ _) | (with_reducible refine Kd.C_drewN ?_ _) | (with_reducible refine Kd.C_drew ?_)));(case side2 => exact HC576_0.out);(case side3 => repeat (first | exact (by repeat (first | (with_reducible exact HR577_0.out) | (with_reducible refine Kd.C_alloc ?_ _) | (with_reducible refine Kd.C_drewN ?_ _) | (with_reducible refine Kd.C_drew ?_) | exact HR577_0.out)) | (with_reducible refine Kd.C_alloc ?_ _) | (with_reducible refine Kd.C_drewN ?_ _) | (with_reducible refine Kd.C_drew ?_)));(case side4 => exact HC577_0.out);rintro e w80 ⟨v579, rfl, ho0, hb⟩
                        have HS2_ := (hb.cell (World.block_lt_of_cell? _ _ (hHeld.2.2.1))).trans (hHeld.2.2.1);have HS3_ := (hb.cell (World.block_lt_of_cell? _ _ (hHeld.2.2.2))).trans (hHeld.2.2.2);refine ⟨_, rfl, ?_⟩;have HO580 := Aside0.mk (Kd.R_lower (Kd.R_new' (Kd.R_newM (M := fun k_ => (w.heap.size ≤ k_)) ho0 (below_size (qB2 GE553.out GE557.out HB.out)) (fun k_ h_ => h_)) (Kd.R_lt (qR HO_558001.out))) (below_size (qB2 GE553.out GE557.out HB.out)));replace HO_11 := Aside0.mk (Kd.R_below (qR HO_11.out) hb);replace HO_558000 := Aside0.mk (Kd.N_elder' (by (with_reducible repeat (first | apply Kd.N_alloc | apply Kd.N_drewN | apply Kd.N_drew)); exact HO_558000.out) (Kd.R_base ho0) hb);replace HO_558001 := Aside0.mk (Kd.R_elder' (qR HO_558001.out) (Kd.R_base ho0) hb);replace HL576_0 := Aside0.mk (Kd.V_elder' (by (with_reducible repeat (first | apply Kd.V_alloc | apply Kd.V_drewN | apply Kd.V_drew)); exact HL576_0.out) (Kd.R_base ho0) hb);replace HL577_0 := Aside0.mk (Kd.V_elder' (by (with_reducible repeat (first | apply Kd.V_alloc | apply Kd.V_drewN | apply Kd.V_drew)); exact HL577_0.out) (Kd.R_base ho0) hb);replace BK553 := Aside0.mk (blk_below (g := gb553) (o := .cells #[.slice none 0 0, .slice none 0 0] 28 (0, 0)) (qK BK553.out) hb);replace BK557 := Aside0.mk (blk_below (g := gb557) (o := .cells #[.slice (some ad576) x558000_1.length co41, u558001] 28 (0, 0)) (qK BK557.out) hb);replace HR576_0 := Aside0.mk (Kd.C_below (by repeat (first | (with_reducible exact HR576_0.out) | (with_reducible refine Kd.C_alloc ?_ _) | (with_reducible refine Kd.C_drewN ?_ _) | (with_reducible refine Kd.C_drew ?_) | exact HR576_0.out)) hb);replace HR577_0 := Aside0.mk (Kd.C_below (by repeat (first | (with_reducible exact HR577_0.out) | (with_reducible refine Kd.C_alloc ?_ _) | (with_reducible refine Kd.C_drewN ?_ _) | (with_reducible refine Kd.C_drew ?_) | exact HR577_0.out)) hb);replace HB := Aside0.mk (below_step (qB2 GE553.out GE557.out HB.out) hb);(try clear hb);(try clear hb2);(try clear hk);(try clear hi);(try clear ho0);obtain ⟨Ao81, co81, eo81⟩ := Kd.R_slice HO580.out;(first | subst eo81 | (injection eo81 with f1_ f2_ f3_; have f4_ := f1_.symm; have f5_ := f3_.symm; clear f1_ f2_ f3_; subst f4_; subst f5_));refine hK.out _ _ ⟨(blk_cell BK557.out 0).trans rfl, (blk_cell BK557.out 1).trans rfl, HS2_, HS3_⟩ (fun hHeld => ?_);clear hK K;refine norm_ (a' := ?_) ?_ ?_;rotate_left
                        ·show Act.put _ (some 113) _ = _
                         simp only [Act.put, List.setIfInBounds_toArray, List.set_cons_zero, List.set_cons_succ, i64_w, i32_w]
                         rfl
                        refine qP 11 (some 114) (bs 13 4095) HT_.out ?_;refine qP 12 (some 18) (bs 13 8191) HT_.out ?_;refine done_ (done_of HT_.out (by kernel_rfl)) ?_;try go_wp2
                        go_roundg kj57
                        case measure => have := HK1.out; have := HK2.out; have := HK3.out; have := HK4.out; have := HJ57.out; omega
                        case rel => exact ⟨(x13_4), (x14_4), (x15_4), (wrap64 (x17_4 + 1)), (by first | rfl | (simp; done) | (simp [*]; done)), (by first | rfl | (simp; done) | (simp [*]; done)), (by first | rfl | (simp; done) | (simp [*]; done)), (by first | rfl | (simp; done) | (simp [*]; done)), H', ⟨by have := HK1.out; have := HK2.out; have := HK3.out; have := HK4.out; have := HJ57.out; omega⟩, ⟨by (with_reducible repeat (first | apply Kd.R_alloc | apply Kd.R_drewN | apply Kd.R_drew)); exact HO_11.out⟩, ⟨by (with_reducible repeat (first | apply Kd.N_alloc | apply Kd.N_drewN | apply Kd.N_drew)); exact Kd.N_mono HO_558000.out (fun _ hk => ⟨hk.1.1, ⟨hk.1.2.1, ⟨hk.1.2.2.1, ⟨hk.1.2.2.2.1, hk.1.2.2.2.2⟩⟩⟩⟩)⟩, ⟨by (with_reducible repeat (first | apply Kd.R_alloc | apply Kd.R_drewN | apply Kd.R_drew)); exact Kd.R_mono HO_558001.out (fun _ hk => hk.1)⟩, ⟨by (with_reducible repeat (first | refine blk_drewN ?_ _ | refine blk_drew ?_ | refine blk_alloc ?_ _)); exact BK553.out⟩, ⟨by (with_reducible repeat (first | refine blk_drewN ?_ _ | refine blk_drew ?_ | refine blk_alloc ?_ _)); exact BK557.out⟩, ⟨by repeat (first | (with_reducible first | exact HB.out | apply below_alloc | apply pw_below_drewN | apply below_drew1 | refine below_set ?_ GE553.out | refine below_set ?_ GE557.out) | exact HB.out)⟩⟩
                      ·rw [if_neg c73] at H
                       exact absurd H (by simp)
                     ·rw [if_neg c72] at H
                      exact absurd H (by simp)
                    ·rw [if_neg c71] at H
                     exact absurd H (by simp)
                   ·rw [if_neg c70] at H
                    exact absurd H (by simp)
               ·rw [if_neg c57] at H
                have c57b0 : decide (x17_4 < (x558000_1.length : Int)) = false := decide_eq_false c57;clear c57;have H' := Aside0.mk H;clear H;have hnb82 := NB557_553.out;have hnc82 := NB553_557.out;have hcz83_0 : wr.cell? ⟨gb557, 0, none⟩ = some (.slice Ao41 x558000_1.length co41) := (blk_cell BK557.out 0).trans rfl;have hcz83_1 : wr.cell? ⟨gb557, 1, none⟩ = some (u558001) := (blk_cell BK557.out 1).trans rfl;have hfz83_0 := blk_frozen BK557.out 0;have hfz83_1 := blk_frozen BK557.out 1;go_wp2
                go_roundg k4
                case measure => have := HK1.out; have := HK2.out; have := HK3.out; have := HK4.out; omega
                case rel => exact ⟨(x13_4), (x14_4), (x15_4), (wrap64 (x16_3 + 1)), (by first | rfl | (simp; done) | (simp [*]; done)), (by first | rfl | (simp; done) | (simp [*]; done)), (by first | rfl | (simp; done) | (simp [*]; done)), (by first | rfl | (simp; done) | (simp [*]; done)), H', ⟨by have := HK1.out; have := HK2.out; have := HK3.out; have := HK4.out; omega⟩, ⟨by (with_reducible repeat (first | apply Kd.R_alloc | apply Kd.R_drewN | apply Kd.R_drew)); exact HO_11.out⟩, ⟨by (with_reducible repeat (first | apply Kd.N_alloc | apply Kd.N_drewN | apply Kd.N_drew)); exact HO_558000.out⟩, ⟨by (with_reducible repeat (first | apply Kd.R_alloc | apply Kd.R_drewN | apply Kd.R_drew)); exact HO_558001.out⟩, ⟨by (with_reducible repeat (first | refine blk_drewN ?_ _ | refine blk_drew ?_ | refine blk_alloc ?_ _)); exact BK553.out⟩, ⟨by (with_reducible repeat (first | refine blk_drewN ?_ _ | refine blk_drew ?_ | refine blk_alloc ?_ _)); exact BK557.out⟩, ⟨by repeat (first | (with_reducible first | exact HB.out | apply below_alloc | apply pw_below_drewN | apply below_drew1 | refine below_set ?_ GE553.out | refine below_set ?_ GE557.out) | exact HB.out)⟩⟩
            ·rw [if_neg c54] at H
             have c54b0 : decide (x16_3 < (x558000_1.length : Int)) = false := decide_eq_false c54;clear c54;by_cases c84 : 0 ≤ x13_3
             ·rw [if_pos c84] at H
              have c84b0 : decide (0 ≤ x13_3) = true := decide_eq_true c84;clear c84;by_cases c85 : x13_3 < (x11_2.length : Int)
              ·rw [if_pos c85] at H
               have c85b0 : decide (x13_3 < (x11_2.length : Int)) = true := decide_eq_true c85;clear c85;obtain ⟨y572, hy572⟩ : ∃ y_ : List Bool, y_ = (x11_2.set (x13_3 : Int).toNat true) := ⟨_, rfl⟩;replace H : (if x13_3 < (x558001_2.length : Int) then (arboristref11_Build.l2 k3 y572 (wrap64 (x12_2 + 1)) x558000_1 (x558001_2.set (x13_3 : Int).toNat x14_3)) else (none)) = some (r1, r2) := by first | (rw [hy572]; with_reducible exact H) | (have H2_ := (Option.bind_some _ _).symm.trans H; rw [hy572]; with_reducible exact H2_) | (have H2_ := (Option.bind_some _ _).symm.trans H; with_reducible exact H2_) | with_reducible exact H | (rw [hy572]; exact H) | exact H
               have Ny572 := Aside0.mk hy572;clear hy572;by_cases c87 : x13_3 < (x558001_2.length : Int)
               ·rw [if_pos c87] at H
                have c87b0 : decide (x13_3 < (x558001_2.length : Int)) = true := decide_eq_true c87;clear c87;obtain ⟨y573, hy573⟩ : ∃ y_ : List Int, y_ = (x558001_2.set (x13_3 : Int).toNat x14_3) := ⟨_, rfl⟩;replace H : (arboristref11_Build.l2 k3 y572 (wrap64 (x12_2 + 1)) x558000_1 y573) = some (r1, r2) := by first | (rw [hy573]; with_reducible exact H) | (have H2_ := (Option.bind_some _ _).symm.trans H; rw [hy573]; with_reducible exact H2_) | (have H2_ := (Option.bind_some _ _).symm.trans H; with_reducible exact H2_) | with_reducible exact H | (rw [hy573]; exact H) | exact H
                have Ny573 := Aside0.mk hy573;clear hy573;have H' := Aside0.mk H;clear H;have hnb89 := NB557_553.out;have hnc89 := NB553_557.out;have hcz90_0 : wr.cell? ⟨gb557, 0, none⟩ = some (.slice Ao41 x558000_1.length co41) := (blk_cell BK557.out 0).trans rfl;have hcz90_1 : wr.cell? ⟨gb557, 1, none⟩ = some (u558001) := (blk_cell BK557.out 1).trans rfl;have hfz90_0 := blk_frozen BK557.out 0;have hfz90_1 := blk_frozen BK557.out 1;have p86 : 0 ≤ (x13_3 : Int) := of_decide_eq_true qA;have q86 : (x13_3 : Int) < ((x11_2.length : Int) : Int) := of_decide_eq_true qA;obtain ⟨go86, co86, eo86, gb86, gl86, cl86, HG86⟩ := Kd.R_form HO_11.out (by omega);(first | cases eo86 | (injection eo86 with ea_ en_ ec_; (first | subst ea_ | (injection ea_ with ea_; subst ea_)); subst ec_; clear en_));have GB86 := Aside0.mk gb86;have GG86 := Aside0.mk HG86;clear gb86 gl86 HG86;obtain ⟨hx86_0, hf86_0⟩ := Kd.R_celln false HO_11.out (x13_3 : Int) p86 q86;replace p86 := eq_true p86;replace q86 := eq_true q86;have HP91 := Kd.R_putg HO_11.out (x13_3 : Int) true;go_wp2_with (first | ((with_reducible refine gate_store (t := 4) (p := 123) rfl ?_); refine store_event (t := 4) (p := 123) (v := ?vo_w92) (w1 := (wr.setCell ⟨go86, (x13_3 : Int).toNat, none⟩ (.bool true))) ?hg ?ho ?hn ?hr ?_; (case ho => rfl); (case hg => rfl); (case hn => rfl); (case hr => first | (go_simp; done) | (go_simp; rfl)); intro w92 hw; have hg : wr.grownBy w92 (some go86) := (by rw [hw]; exact HP91.2); have hp_ : Kd.R Kd.bool 4 w92 w.heap.size (fun k_ => (w.heap.size ≤ k_)) (.slice (some ⟨go86, 0, none⟩) x11_2.length co86) y572 := (by rw [hw, Ny572.out]; exact HP91.1); clear HP91; have n0_ := Aside0.mk (hp_); have n1_ := Aside0.mk (Kd.N_afterv (v := (.slice (some ⟨go86, 0, none⟩) x11_2.length co86)) (v1 := (.slice (some ⟨go86, 0, none⟩) x11_2.length co86)) (ok := (fun k_ => (w.heap.size ≤ k_) ∧ some k_ ≠ (u558001 : Value).ownBlock ∧ k_ ≠ gb553 ∧ k_ ≠ gb557)) (by (with_reducible repeat (first | apply Kd.N_alloc | apply Kd.N_drewN | apply Kd.N_drew)); exact Kd.N_mono HO_558000.out (fun _ hk => ⟨⟨hk.1, ⟨hk.2.2.1, ⟨hk.2.2.2.1, hk.2.2.2.2⟩⟩⟩, hk.2.1⟩)) hg (.inl rfl)); have n2_ := Aside0.mk (Kd.R_over' (v := (.slice (some ⟨go86, 0, none⟩) x11_2.length co86)) (qR HO_558001.out) (Kd.R_typed HO_11.out) (by decide) hg); have n3_ := Aside0.mk (blk_grown (g := gb553) (o := .cells #[.slice none 0 0, .slice none 0 0] 28 (0, 0)) (qK BK553.out) hg (Kd.R_ne HO_11.out BK553.out (by decide))); have n4_ := Aside0.mk (blk_grown (g := gb557) (o := .cells #[.slice Ao41 x558000_1.length co41, u558001] 28 (0, 0)) (qK BK557.out) hg (Kd.R_ne HO_11.out BK557.out (by decide))); have n5_ := Aside0.mk ((by rw [hw]; exact below_set (HB.out) GB86.out : Below w.heap.size w w92)); clear HO_11; clear HO_558000; clear HO_558001; clear BK553; clear BK557; clear HB; have HO_11 := n0_; have HO_558000 := n1_; have HO_558001 := n2_; have BK553 := n3_; have BK557 := n4_; have HB := n5_; clear n0_ n1_ n2_ n3_ n4_ n5_; clear hg hw hp_; have hcz93_0 : w92.cell? ⟨gb557, 0, none⟩ = some (.slice Ao41 x558000_1.length co41) := (blk_cell BK557.out 0).trans rfl; have hcz93_1 : w92.cell? ⟨gb557, 1, none⟩ = some (u558001) := (blk_cell BK557.out 1).trans rfl; have hfz93_0 := blk_frozen BK557.out 0; have hfz93_1 := blk_frozen BK557.out 1; have p88 : 0 ≤ (x13_3 : Int) := of_decide_eq_true qA; have q88 : (x13_3 : Int) < ((x558001_2.length : Int) : Int) := of_decide_eq_true qA; obtain ⟨go88, co88, eo88, gb88, gl88, cl88, HG88⟩ := Kd.R_form HO_558001.out (by omega); (first | cases eo88 | (injection eo88 with ea_ en_ ec_; (first | subst ea_ | (injection ea_ with ea_; subst ea_)); subst ec_; clear en_)); have GB88 := Aside0.mk gb88; have GG88 := Aside0.mk HG88; clear gb88 gl88 HG88; obtain ⟨hx88_0, hf88_0⟩ := Kd.R_celln 0 HO_558001.out (x13_3 : Int) p88 q88; replace p88 := eq_true p88; replace q88 := eq_true q88; obtain ⟨hy94_, hz94_⟩ := Kd.R_celln 0 HO_558001.out (x13_3 : Int) (of_decide_eq_true qA) (of_decide_eq_true qA); have HP94 := Kd.R_putg HO_558001.out (x13_3 : Int) x14_3) | ((with_reducible refine gate_store (t := 3) (p := 128) rfl ?_); refine store_event (t := 3) (p := 128) (v := ?vo_w95) (w1 := (w92.setCell ⟨go88, (x13_3 : Int).toNat, none⟩ (.int .i64 x14_3))) ?hg ?ho ?hn ?hr ?_; (case ho => rfl); (case hg => rfl); (case hn => rfl); (case hr => first | (go_simp; done) | (go_simp; rfl)); intro w95 hw; have hg : w92.grownBy w95 (some go88) := (by rw [hw]; exact HP94.2); have hp_ : Kd.R (Kd.int .i64) 3 w95 w.heap.size (fun k_ => (w.heap.size ≤ k_)) (.slice (some ⟨go88, 0, none⟩) x558001_2.length co88) y573 := (by rw [hw, Ny573.out]; exact HP94.1); clear HP94; have n0_ := Aside0.mk (Kd.R_over' (v := (.slice (some ⟨go88, 0, none⟩) x558001_2.length co88)) (qR HO_11.out) (Kd.R_typed HO_558001.out) (by decide) hg); have n1_ := Aside0.mk (Kd.N_afterv (v := (.slice (some ⟨go88, 0, none⟩) x558001_2.length co88)) (v1 := (.slice (some ⟨go88, 0, none⟩) x558001_2.length co88)) (ok := (fun k_ => (w.heap.size ≤ k_) ∧ some k_ ≠ (.slice (some ⟨go86, 0, none⟩) x11_2.length co86 : Value).ownBlock ∧ k_ ≠ gb553 ∧ k_ ≠ gb557)) (by (with_reducible repeat (first | apply Kd.N_alloc | apply Kd.N_drewN | apply Kd.N_drew)); exact Kd.N_mono HO_558000.out (fun _ hk => ⟨⟨hk.1.1, ⟨hk.2, ⟨hk.1.2.2.1, hk.1.2.2.2⟩⟩⟩, hk.1.2.1⟩)) hg (.inl rfl)); have n2_ := Aside0.mk (hp_); have n3_ := Aside0.mk (blk_grown (g := gb553) (o := .cells #[.slice none 0 0, .slice none 0 0] 28 (0, 0)) (qK BK553.out) hg (Kd.R_ne HO_558001.out BK553.out (by decide))); have n4_ := Aside0.mk (blk_grown (g := gb557) (o := .cells #[.slice Ao41 x558000_1.length co41, .slice (some ⟨go88, 0, none⟩) x558001_2.length co88] 28 (0, 0)) (qK BK557.out) hg (Kd.R_ne HO_558001.out BK557.out (by decide))); have n5_ := Aside0.mk ((by rw [hw]; exact below_set (HB.out) GB88.out : Below w.heap.size w w95)); clear HO_11; clear HO_558000; clear HO_558001; clear BK553; clear BK557; clear HB; have HO_11 := n0_; have HO_558000 := n1_; have HO_558001 := n2_; have BK553 := n3_; have BK557 := n4_; have HB := n5_; clear n0_ n1_ n2_ n3_ n4_ n5_; clear hg hw hp_))
                go_roundg k3
                case measure => have := HK1.out; have := HK2.out; have := HK3.out; omega
                case rel => exact ⟨(y572), (wrap64 (x12_2 + 1)), (y573), (.slice (some ⟨go88, 0, none⟩) x558001_2.length co88), (by first | rfl | (simp; done) | (simp [*]; done)), H', ⟨by have := HK1.out; have := HK2.out; have := HK3.out; omega⟩, ⟨by (with_reducible repeat (first | apply Kd.R_alloc | apply Kd.R_drewN | apply Kd.R_drew)); exact HO_11.out⟩, ⟨by (with_reducible repeat (first | apply Kd.N_alloc | apply Kd.N_drewN | apply Kd.N_drew)); exact Kd.N_mono HO_558000.out (fun _ hk => ⟨hk.1.1, ⟨hk.1.2.1, ⟨hk.2, ⟨hk.1.2.2.1, hk.1.2.2.2⟩⟩⟩⟩)⟩, ⟨by (with_reducible repeat (first | apply Kd.R_alloc | apply Kd.R_drewN | apply Kd.R_drew)); exact HO_558001.out⟩, ⟨by (with_reducible repeat (first | refine blk_drewN ?_ _ | refine blk_drew ?_ | refine blk_alloc ?_ _)); exact BK553.out⟩, ⟨by (with_reducible repeat (first | refine blk_drewN ?_ _ | refine blk_drew ?_ | refine blk_alloc ?_ _)); exact BK557.out⟩, ⟨by repeat (first | (with_reducible first | exact HB.out | apply below_alloc | apply pw_below_drewN | apply below_drew1 | refine below_set ?_ GE553.out | refine below_set ?_ GE557.out) | exact HB.out)⟩⟩
               ·rw [if_neg c87] at H
                exact absurd H (by simp)
              ·rw [if_neg c85] at H
               exact absurd H (by simp)
             ·rw [if_neg c84] at H
              exact absurd H (by simp)
        ·rw [if_neg c44] at H
         have c44b0 : decide (x12_2 < (x558000_1.length : Int)) = false := decide_eq_false c44;clear c44;simp only [Option.some.injEq, Prod.mk.injEq] at H
         obtain ⟨rfl, rfl⟩ := H;have hnb96 := NB557_553.out;have hnc96 := NB553_557.out;have hcz97_0 : wr.cell? ⟨gb557, 0, none⟩ = some (.slice Ao41 x558000_1.length co41) := (blk_cell BK557.out 0).trans rfl;have hcz97_1 : wr.cell? ⟨gb557, 1, none⟩ = some (u558001) := (blk_cell BK557.out 1).trans rfl;have hfz97_0 := blk_frozen BK557.out 0;have hfz97_1 := blk_frozen BK557.out 1;have hcz98_0 : wr.cell? ⟨gb553, 0, none⟩ = some (.slice none 0 0) := (blk_cell BK553.out 0).trans rfl;have hcz98_1 : wr.cell? ⟨gb553, 1, none⟩ = some (.slice none 0 0) := (blk_cell BK553.out 1).trans rfl;have hfz98_0 := blk_frozen BK553.out 0;have hfz98_1 := blk_frozen BK553.out 1;obtain ⟨Ao99, co99, eo99⟩ := Kd.R_slice HO_558001.out;subst eo99;go_wp2
         refine bodyPost_ret (results_cell_row rfl _ _ gb553 28 #[.slice Ao41 x558000_1.length co41, .slice Ao99 x558001_2.length co99] (0, 0) _ rfl (by (with_reducible repeat (first | refine blk_drewN ?_ _ | refine blk_drew ?_ | refine blk_alloc ?_ _)); refine blk_put (cs := #[.slice Ao41 x558000_1.length co41, .slice none 0 0]) ?_ 1 _ rfl; (with_reducible repeat (first | refine blk_drewN ?_ _ | refine blk_drew ?_ | refine blk_alloc ?_ _)); refine blk_put (cs := #[.slice none 0 0, .slice none 0 0]) ?_ 0 _ rfl; (with_reducible repeat (first | refine blk_drewN ?_ _ | refine blk_drew ?_ | refine blk_alloc ?_ _)); exact BK553.out) Tryd.underlying28 rfl (by kernel_rfl)) rfl ?_;exact ⟨_, _, by first | rfl | (simp [errW_none, errW_some] <;> rfl) | (simp [*, errW_none, errW_some] <;> rfl), by (with_reducible repeat (first | apply Kd.N_alloc | apply Kd.N_drewN | apply Kd.N_drew)); exact Kd.N_mono (Kd.N_far (p := ⟨gb553, 1, none⟩) (Kd.N_far (p := ⟨gb553, 0, none⟩) (Kd.N_mono HO_558000.out (fun k_ hk => (⟨hk, hk.2.2.2.1⟩ : _ ∧ k_ ≠ gb553))) (fun _ hk => hk.2) (.slice Ao41 x558000_1.length co41)) (fun _ hk => hk.2) (.slice Ao99 x558001_2.length co99)) (fun _ hk => ⟨hk.1.1, hk.1.2.2.1⟩), by (with_reducible repeat (first | apply Kd.R_alloc | apply Kd.R_drewN | apply Kd.R_drew)); exact Kd.R_mono (Kd.R_far (p := ⟨gb553, 1, none⟩) (Kd.R_far (p := ⟨gb553, 0, none⟩) (Kd.R_types HO_558001.out BK553.out (by decide)) (fun _ hk => hk.2) (.slice Ao41 x558000_1.length co41)) (fun _ hk => hk.2) (.slice Ao99 x558001_2.length co99)) (fun _ hk => hk.1), by repeat (first | (with_reducible first | exact HB.out | apply below_alloc | apply pw_below_drewN | apply below_drew1 | refine below_set ?_ GE553.out | refine below_set ?_ GE557.out) | exact HB.out)⟩
     ·rw [if_neg c37] at H
      exact absurd H (by simp)
    ·rw [if_neg c36] at H
     exact absurd H (by simp)
end Go.Proofs.YtbdlelojlnhhfaaDoor.Pr
