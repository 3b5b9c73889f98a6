-- Printed by a program of this session's own (wip/tools/pp.py) over the kit's print.py; Lean checks it.
import Derived.Test.YtpmfdggbccbfaaaPr1
import Derived.Test.YtpmfdggbccbfaaaPr0
import Derived.Test.YtpmfdggbccbfaaaPr17
import Derived.Test.YtpmfdggbccbfaaaPr42
import Derived.Test.YtpmfdggbccbfaaaPr58
namespace Go.Proofs.Ytpmfdggbccbfaaa.Pr
open Go.RowKit Go.Proofs.YtpmfdggbccbfaaaW.PrintWords Go.Proofs.YtpmfdggbccbfaaaW.PrintLast Go.Proofs.YtpmfdggbccbfaaaW.PrintMore
attribute [local go_sem] max2_int min2_int max_two min_two max_three min_three max_four min_four
set_option linter.unusedVariables false
set_option linter.unusedSimpArgs false
/-! ### arboristref11_Build: function 63 -/
mutual
def arboristref11_Build.l0 : Nat → List (List Int) → Int → List (List Int) → List Int → Option ((List (List Int)) × List Int)
 | 0, _, _, _, _ => none
 | k + 1, x5, x7, x836000, x836001 => if x7 < (x5.length : Int) then (arboristref11_Build.l1 k x5 x7 true 0 x836000 x836001) else (if 0 ≤ (x836000.length : Int) then (if ((x836000.length : Int) : Int).toNat ≤ 281474976710656 then (arboristref11_Build.l2 k (List.replicate ((x836000.length : Int) : Int).toNat false) 0 x836000 x836001) else (none)) else (none))
def arboristref11_Build.l1 : Nat → List (List Int) → Int → Bool → Int → List (List Int) → List Int → Option ((List (List Int)) × List Int)
 | 0, _, _, _, _, _, _ => none
 | k + 1, x5, x7, x8, x9, x836000, x836001 => if x9 < x7 then (if 0 ≤ x7 then (if x7 < (x5.length : Int) then (if 0 ≤ x9 then (if x9 < (x5.length : Int) then ((arboristref01_Within.f k (rd_L1 x5 x7) (rd_L1 x5 x9)).bind fun t838 => (if x8 = true then (arboristref11_Build.l1 k x5 x7 (!t838) (wrap64 (x9 + 1)) x836000 x836001) else (arboristref11_Build.l1 k x5 x7 false (wrap64 (x9 + 1)) x836000 x836001))) else (none)) else (none)) else (none)) else (none)) else (if x8 = true then (if 0 ≤ x7 then (if x7 < (x5.length : Int) then (if x836000.length < 5864062014805 then (if x836001.length < 17592186044416 then (arboristref11_Build.l0 k x5 (wrap64 (x7 + 1)) (x836000 ++ [rd_L1 x5 x7]) (x836001 ++ [(-1)])) else (none)) else (none)) else (none)) else (none)) else (arboristref11_Build.l0 k x5 (wrap64 (x7 + 1)) x836000 x836001))
def arboristref11_Build.l2 : Nat → List Bool → Int → List (List Int) → List Int → Option ((List (List Int)) × List Int)
 | 0, _, _, _, _ => none
 | k + 1, x11, x12, x836000, x836001 => if x12 < (x836000.length : Int) then (if x12 = 0 then (if 0 < (x11.length : Int) then (arboristref11_Build.l2 k (x11.set (0 : Int).toNat true) (wrap64 (x12 + 1)) x836000 x836001) else (none)) else (arboristref11_Build.l3 k x11 x12 (-1) (-1) (-1) 0 x836000 x836001)) else (some (x836000, x836001))
def arboristref11_Build.l3 : Nat → List Bool → Int → Int → Int → Int → Int → List (List Int) → List Int → Option ((List (List Int)) × List Int)
 | 0, _, _, _, _, _, _, _, _ => none
 | k + 1, x11, x12, x13, x14, x15, x16, x836000, x836001 => if x16 < (x836000.length : Int) then (arboristref11_Build.l4 k x11 x12 x13 x14 x15 x16 0 x836000 x836001) else (if 0 ≤ x13 then (if x13 < (x11.length : Int) then (if x13 < (x836001.length : Int) then (arboristref11_Build.l2 k (x11.set (x13 : Int).toNat true) (wrap64 (x12 + 1)) x836000 (x836001.set (x13 : Int).toNat x14)) else (none)) else (none)) else (none))
def arboristref11_Build.l4 : Nat → List Bool → Int → Int → Int → Int → Int → Int → List (List Int) → List Int → Option ((List (List Int)) × List Int)
 | 0, _, _, _, _, _, _, _, _, _ => none
 | k + 1, x11, x12, x13, x14, x15, x16, x17, x836000, x836001 => if x17 < (x836000.length : Int) then (if 0 ≤ x16 then (if x16 < (x11.length : Int) then (if rdOf false x11 x16 = true then (arboristref11_Build.j5 k x11 x12 x13 x14 x15 x16 x17 true x836000 x836001) else (if 0 ≤ x17 then (if x17 < (x11.length : Int) then (arboristref11_Build.j5 k x11 x12 x13 x14 x15 x16 x17 (!(rdOf false x11 x17)) x836000 x836001) else (none)) else (none))) else (none)) else (none)) else (arboristref11_Build.l3 k x11 x12 x13 x14 x15 (wrap64 (x16 + 1)) x836000 x836001)
def arboristref11_Build.j5 : Nat → List Bool → Int → Int → Int → Int → Int → Int → Bool → List (List Int) → List Int → Option ((List (List Int)) × List Int)
 | 0, _, _, _, _, _, _, _, _, _, _ => none
 | k + 1, x11, x12, x13, x14, x15, x16, x17, x102, x836000, x836001 => if x102 = true then (arboristref11_Build.l4 k x11 x12 x13 x14 x15 x16 (wrap64 (x17 + 1)) x836000 x836001) else (if 0 ≤ x16 then (if x16 < (x836000.length : Int) then (if 0 ≤ x17 then (if x17 < (x836000.length : Int) then ((arboristref01_Meet.f k (rd_L1 x836000 x16) (rd_L1 x836000 x17)).bind fun t856 => (if (t856.length : Int) > x15 then (arboristref11_Build.l4 k x11 x12 x16 x17 (t856.length : Int) x16 (wrap64 (x17 + 1)) x836000 x836001) else (arboristref11_Build.l4 k x11 x12 x13 x14 x15 x16 (wrap64 (x17 + 1)) x836000 x836001))) else (none)) else (none)) else (none)) else (none))
end
def arboristref11_Build.f (k : Nat) (l0 : List (List Bool)) (l1 : List Int) : Option ((List (List Int)) × List Int) := (arboristref10_Bags.f k l0 l1).bind fun t832 => (arboristref11_Build.l0 k t832 0 ([] : List (List Int)) ([] : List Int))
def arboristref11_Build.T10 : Bool × List (List Nat × List Nat) := (true, [([], []), ([], []), ([0, 1], [0, 1]), ([2], [2]), ([], []), ([], []), ([4, 5], [4, 5]), ([6], [6]), ([3, 7], [3, 7]), ([8, 8, 0, 1, 2, 3, 4, 5, 6, 7, 8], [8])])
def arboristref11_Build.B10 : List Nat := [0, 0, 3, 7, 0, 0, 48, 112, 255, 511]
theorem arboristref11_Build.tab10 : rtab .any (opsOf Try.f63 10) = arboristref11_Build.T10 := by kernel_rfl
theorem arboristref11_Build.bits10 : waitsOk arboristref11_Build.T10.2 arboristref11_Build.B10 = true := by kernel_rfl
def arboristref11_Build.T13 : Bool × List (List Nat × List Nat) := (true, [([], []), ([0], [0]), ([], []), ([], []), ([2, 3], [2, 3]), ([4], [4]), ([5], [5]), ([1, 6], [1, 6]), ([0, 1, 2, 3, 4, 5, 6, 7], []), ([8, 7, 7, 0, 1, 2, 3, 4, 5, 6, 7], [7, 8])])
def arboristref11_Build.B13 : List Nat := [0, 1, 0, 0, 12, 28, 60, 127, 255, 511]
theorem arboristref11_Build.tab13 : rtab .any (opsOf Try.f63 13) = arboristref11_Build.T13 := by kernel_rfl
theorem arboristref11_Build.bits13 : waitsOk arboristref11_Build.T13.2 arboristref11_Build.B13 = true := by kernel_rfl
def arboristref11_Build.T31 : Bool × List (List Nat × List Nat) := (true, [([], []), ([0], [0]), ([], []), ([1, 2], [1, 2]), ([3], [3]), ([], []), ([5], [5]), ([], []), ([6, 7], [6, 7]), ([8], [8]), ([4, 9], [4, 9]), ([10], [10]), ([11, 10, 0, 1, 2, 3, 4, 5, 6, 7, 8, 9, 10, 11], [11])])
def arboristref11_Build.B31 : List Nat := [0, 1, 0, 7, 15, 0, 32, 0, 224, 480, 1023, 2047, 4095]
theorem arboristref11_Build.tab31 : rtab .any (opsOf Try.f63 31) = arboristref11_Build.T31 := by kernel_rfl
theorem arboristref11_Build.bits31 : waitsOk arboristref11_Build.T31.2 arboristref11_Build.B31 = true := by kernel_rfl
set_option maxHeartbeats 8000000 in
set_option maxRecDepth 100000 in
theorem arboristref11_Build.calls (k : Nat) (A0 : Option Addr) (c0 : Nat) (l0 : List (List Bool)) (A1 : Option Addr) (c1 : Nat) (l1 : List Int) (r1 : List (List Int)) (r2 : List Int) (w : World) (hr0 : Kd.C (Kd.slice 4 Kd.bool) w A0 l0.length l0) (hc0 : l0.length ≤ c0) (hr1 : Kd.C (Kd.int .i64) w A1 l1.length l1) (hc1 : l1.length ≤ c1) (h : arboristref11_Build.f k l0 l1 = some (r1, r2)) :
  Calls Try.prog 63 #[.slice A0 l0.length c0, .slice A1 l1.length c1] w fun e w' => ∃ v0_ v1_ : Value, e = .returned (.agg #[v0_, v1_]) ∧ Kd.N (Kd.slice 3 (Kd.int .i64)) 23 w' w.heap.size (fun k_ => (w.heap.size ≤ k_) ∧ some k_ ≠ (v1_ : Value).ownBlock) v0_ r1 ∧ Kd.R (Kd.int .i64) 3 w' w.heap.size (fun k_ => (w.heap.size ≤ k_)) v1_ r2 ∧ Below w.heap.size w w' := by
 have hu25 := Try.underlying25;have HR0 := Aside0.mk hr0;have HC0 := Aside0.mk hc0;clear hr0 hc0;have HR1 := Aside0.mk hr1;have HC1 := Aside0.mk hc1;clear hr1 hc1;have HB := Aside0.mk (Below.refl w.heap.size w);have H : ((arboristref10_Bags.f k l0 l1).bind fun t832 => (arboristref11_Build.l0 k t832 0 ([] : List (List Int)) ([] : List Int))) = some (r1, r2) := h;clear h;replace H := Option.bind_eq_some_iff.mp H;obtain ⟨t832, A30, H⟩ := H;(try dsimp only at H);have A3 := Aside0.mk A30;clear A30;have H' := Aside0.mk H;clear H;go_enter Try.func63, Try.ntmps63
 go_wp2_with (first | ((with_reducible refine gate_dst (N := 4) rfl ?_); refine box_event ?hg (N := 4) ?hd (cs := #[.slice none 0 0, .slice none 0 0]) (t := 25) ?hr ?_; (case hd => rfl); (case hg => rfl); (case hr => first | (go_simp; done) | (go_simp; rfl)); intro gb831 hg w4 hbox hb; have n0_ := Aside0.mk (below_step (qB HB.out) hb); have n1_ := Aside0.mk (hbox); have n2_ := Aside0.mk ((by rw [hg]; exact (below_size (qB HB.out)) : w.heap.size ≤ gb831)); have n3_ := Aside0.mk ((by rw [hg]; exact (below_size (qB HB.out)) : w.heap.size ≤ gb831)); clear HB; have HB := n0_; have BK831 := n1_; have GW831 := n2_; have GE831 := n3_; clear n0_ n1_ n2_ n3_; clear hb hbox hg) | ((with_reducible refine gate_callee (f := 74) rfl ?_); refine goesL_ (some 21) rfl rfl Try.func74 (by kernel_rfl) rfl #[.slice A0 l0.length c0, .slice A1 l1.length c1] rfl qM ?_; (with_reducible refine (arboristref10_Bags.calls k _ _ l0 _ _ l1 t832 _ ?side1 ?side2 ?side3 ?side4 A3.out).mono ?_); (case side1 => exact qC (Kd.C_below HR0.out HB.out)); (case side2 => exact HC0.out); (case side3 => exact qC (Kd.C_below HR1.out HB.out)); (case side4 => exact HC1.out); rintro e w5 ⟨v833, rfl, ho0, hb⟩; refine ⟨_, rfl, ?_⟩; have n0_ := Aside0.mk (Kd.N_lower (Kd.N_mono (ok' := fun k_ => (w.heap.size ≤ k_) ∧ k_ ≠ gb831) (Kd.S_N (Kd.S_bound ho0)) (fun k_ hk_ => ⟨(Nat.le_trans (below_size (by repeat (first | (with_reducible first | exact HB.out | apply below_alloc | apply pw_below_drewN | apply below_drew1 | refine below_set ?_ GE831.out) | exact HB.out))) hk_.2.1), (Kd.freshB (g := gb831) (o := .cells #[.slice none 0 0, .slice none 0 0] 25 (0, 0)) (qK BK831.out) k_ hk_.2.1)⟩)) (below_size (by repeat (first | (with_reducible first | exact HB.out | apply below_alloc | apply pw_below_drewN | apply below_drew1 | refine below_set ?_ GE831.out) | exact HB.out)))); have n1_ := Aside0.mk (blk_below (g := gb831) (o := .cells #[.slice none 0 0, .slice none 0 0] 25 (0, 0)) (qK BK831.out) hb); have n2_ := Aside0.mk (below_step (by repeat (first | (with_reducible first | exact HB.out | apply below_alloc | apply pw_below_drewN | apply below_drew1 | refine below_set ?_ GE831.out) | exact HB.out)) hb); clear BK831; clear HB; have HO834 := n0_; have BK831 := n1_; have HB := n2_; clear n0_ n1_ n2_; (try clear hb); (try clear hb2); (try clear hk); (try clear hi); (try clear ho0)) | ((with_reducible refine gate_dst (N := 6) rfl ?_); refine box_event ?hg (N := 6) ?hd (cs := #[.slice none 0 0, .slice none 0 0]) (t := 25) ?hr ?_; (case hd => rfl); (case hg => rfl); (case hr => first | (go_simp; done) | (go_simp; rfl)); intro gb835 hg w6 hbox hb; have n0_ := Aside0.mk (Kd.N_below (Kd.N_elderB (qN HO834.out) gb835 (Nat.le_of_eq hg.symm)) hb); have n1_ := Aside0.mk (blk_below (g := gb831) (o := .cells #[.slice none 0 0, .slice none 0 0] 25 (0, 0)) (qK BK831.out) hb); have n2_ := Aside0.mk (below_step (by repeat (first | (with_reducible first | exact HB.out | apply below_alloc | apply pw_below_drewN | apply below_drew1 | refine below_set ?_ GE831.out) | exact HB.out)) hb); have n3_ := Aside0.mk (hbox); have n4_ := Aside0.mk ((by rw [hg]; exact (below_size (by repeat (first | (with_reducible first | exact HB.out | apply below_alloc | apply pw_below_drewN | apply below_drew1 | refine below_set ?_ GE831.out) | exact HB.out))) : w.heap.size ≤ gb835)); have n5_ := Aside0.mk ((by rw [hg]; exact (below_size (by repeat (first | (with_reducible first | exact HB.out | apply below_alloc | apply pw_below_drewN | apply below_drew1 | refine below_set ?_ GE831.out) | exact HB.out))) : w.heap.size ≤ gb835)); have n6_ := Aside0.mk ((by rw [hg]; exact Nat.ne_of_lt (blk_lt (g := gb831) (o := .cells #[.slice none 0 0, .slice none 0 0] 25 (0, 0)) (qK BK831.out)) : gb831 ≠ gb835)); have n7_ := Aside0.mk ((by rw [hg]; exact Nat.ne_of_gt (blk_lt (g := gb831) (o := .cells #[.slice none 0 0, .slice none 0 0] 25 (0, 0)) (qK BK831.out)) : gb835 ≠ gb831)); clear HO834; clear BK831; clear HB; have HO834 := n0_; have BK831 := n1_; have HB := n2_; have BK835 := n3_; have GW835 := n4_; have GE835 := n5_; have NB831_835 := n6_; have NB835_831 := n7_; clear n0_ n1_ n2_ n3_ n4_ n5_ n6_ n7_; clear hb hbox hg; have hnb7 := NB835_831.out; have hnc7 := NB831_835.out; have hcz8_0 : w6.cell? ⟨gb835, 0, none⟩ = some (.slice none 0 0) := (blk_cell BK835.out 0).trans rfl; have hcz8_1 : w6.cell? ⟨gb835, 1, none⟩ = some (.slice none 0 0) := (blk_cell BK835.out 1).trans rfl; have hfz8_0 := blk_frozen BK835.out 0; have hfz8_1 := blk_frozen BK835.out 1))
 go_loopg [7] k (fun kq v7 w' => ∃ (x7_1 : Int) (x836000_1 : List (List Int)) (x836001_1 : List Int) (u836000 : Value) (u836001 : Value), v7 = .int .i64 x7_1 ∧ Aside0 (arboristref11_Build.l0 kq t832 x7_1 x836000_1 x836001_1 = some (r1, r2)) ∧ Aside0 (kq ≤ k) ∧ Aside0 (Kd.N (Kd.slice 3 (Kd.int .i64)) 23 w' w.heap.size (fun k_ => (w.heap.size ≤ k_) ∧ some k_ ≠ (u836000 : Value).ownBlock ∧ some k_ ≠ (u836001 : Value).ownBlock ∧ k_ ≠ gb831 ∧ k_ ≠ gb835) v833 t832) ∧ Aside0 (Kd.N (Kd.slice 3 (Kd.int .i64)) 23 w' w.heap.size (fun k_ => (w.heap.size ≤ k_) ∧ some k_ ≠ (v833 : Value).ownBlock ∧ some k_ ≠ (u836001 : Value).ownBlock ∧ k_ ≠ gb831 ∧ k_ ≠ gb835) u836000 x836000_1) ∧ Aside0 (Kd.R (Kd.int .i64) 3 w' w.heap.size (fun k_ => (w.heap.size ≤ k_)) u836001 x836001_1) ∧ Aside0 (w'.heap[gb831]? = some (.cells #[(.slice none 0 0), (.slice none 0 0)] 25 (0, 0))) ∧ Aside0 (w'.heap[gb835]? = some (.cells #[u836000, u836001] 25 (0, 0))) ∧ Aside0 (Below w.heap.size w w'))
 case atStart => exact ⟨(0), (([] : List (List Int))), (([] : List Int)), (.slice none 0 0), (.slice none 0 0), (by first | rfl | (simp; done) | (simp [*]; done)), H', ⟨Nat.le_refl _⟩, ⟨by (with_reducible repeat (first | apply Kd.N_alloc | apply Kd.N_drewN | apply Kd.N_drew)); exact Kd.N_mono (Kd.N_far (p := ⟨gb835, 1, none⟩) (Kd.N_far (p := ⟨gb835, 0, none⟩) (Kd.N_mono HO834.out (fun k_ hk => (⟨hk, hk.2⟩ : _ ∧ k_ ≠ gb835))) (fun _ hk => hk.2) (.slice none 0 0)) (fun _ hk => hk.2) (.slice none 0 0)) (fun _ hk => ⟨hk.1.1.1, ⟨(by simp [Value.ownBlock]), ⟨(by simp [Value.ownBlock]), ⟨hk.1.1.2, hk.1.2⟩⟩⟩⟩)⟩, ⟨by first | exact Kd.S_nil _ _ _ _ _ | exact Kd.N_nil _ _ _ _ _ | exact Kd.V_nil _ _ _ _ _ | exact Kd.Q_nil _ _ _ _ _ | exact Kd.R_nil _ _ _ _ _⟩, ⟨by first | exact Kd.R_nil _ _ _ _ _ | exact Kd.N_nil _ _ _ _ _ | exact Kd.V_nil _ _ _ _ _ | exact Kd.Q_nil _ _ _ _ _ | exact Kd.S_nil _ _ _ _ _⟩, ⟨by (with_reducible repeat (first | refine blk_drewN ?_ _ | refine blk_drew ?_ | refine blk_alloc ?_ _)); refine blk_far ?_ NB831_835.out _; (with_reducible repeat (first | refine blk_drewN ?_ _ | refine blk_drew ?_ | refine blk_alloc ?_ _)); refine blk_far ?_ NB831_835.out _; (with_reducible repeat (first | refine blk_drewN ?_ _ | refine blk_drew ?_ | refine blk_alloc ?_ _)); exact BK831.out⟩, ⟨by (with_reducible repeat (first | refine blk_drewN ?_ _ | refine blk_drew ?_ | refine blk_alloc ?_ _)); refine blk_put (cs := #[.slice none 0 0, .slice none 0 0]) ?_ 1 _ rfl; (with_reducible repeat (first | refine blk_drewN ?_ _ | refine blk_drew ?_ | refine blk_alloc ?_ _)); refine blk_put (cs := #[.slice none 0 0, .slice none 0 0]) ?_ 0 _ rfl; (with_reducible repeat (first | refine blk_drewN ?_ _ | refine blk_drew ?_ | refine blk_alloc ?_ _)); exact BK835.out⟩, ⟨qB2 GE831.out GE835.out HB.out⟩⟩
 case round =>
  clear H';try clear c1
  try clear p2
  try clear c6
  try clear c7
  try clear hcz8_0
  try clear hcz8_1
  try clear hfz8_0
  try clear hfz8_1
  obtain ⟨x7_1, x836000_1, x836001_1, u836000, u836001, rfl, HA, HK1, HO_5, HO_836000, HO_836001, BK831, BK835, HB⟩ := hrel;cases gk with
  | zero => exact absurd HA.out (by simp [arboristref11_Build.l0])
  | succ k1 =>
   have H := HA.out;clear HA;simp only [arboristref11_Build.l0] at H
   by_cases c9 : x7_1 < (t832.length : Int)
   ·rw [if_pos c9] at H
    have c9b0 : decide (x7_1 < (t832.length : Int)) = true := decide_eq_true c9;clear c9;have H' := Aside0.mk H;clear H;obtain ⟨Ao10, co10, eo10⟩ := Kd.N_slice HO_5.out;subst eo10;go_wp2
    go_loopg [8, 9] k1 (fun kq v8 v9 w' => ∃ (x8_2 : Bool) (x9_2 : Int), v8 = .bool x8_2 ∧ v9 = .int .i64 x9_2 ∧ Aside0 (arboristref11_Build.l1 kq t832 x7_1 x8_2 x9_2 x836000_1 x836001_1 = some (r1, r2)) ∧ Aside0 (kq ≤ k1) ∧ Aside0 (Kd.N (Kd.slice 3 (Kd.int .i64)) 23 w' w.heap.size (fun k_ => (w.heap.size ≤ k_) ∧ some k_ ≠ (u836000 : Value).ownBlock ∧ some k_ ≠ (u836001 : Value).ownBlock ∧ k_ ≠ gb831 ∧ k_ ≠ gb835) (.slice Ao10 t832.length co10) t832) ∧ Aside0 (Kd.N (Kd.slice 3 (Kd.int .i64)) 23 w' w.heap.size (fun k_ => (w.heap.size ≤ k_) ∧ some k_ ≠ ((.slice Ao10 t832.length co10) : Value).ownBlock ∧ some k_ ≠ (u836001 : Value).ownBlock ∧ k_ ≠ gb831 ∧ k_ ≠ gb835) u836000 x836000_1) ∧ Aside0 (Kd.R (Kd.int .i64) 3 w' w.heap.size (fun k_ => (w.heap.size ≤ k_)) u836001 x836001_1) ∧ Aside0 (w'.heap[gb831]? = some (.cells #[(.slice none 0 0), (.slice none 0 0)] 25 (0, 0))) ∧ Aside0 (w'.heap[gb835]? = some (.cells #[u836000, u836001] 25 (0, 0))) ∧ Aside0 (Below w.heap.size w w'))
    case atStart => exact ⟨(true), (0), (by first | rfl | (simp; done) | (simp [*]; done)), (by first | rfl | (simp; done) | (simp [*]; done)), H', ⟨Nat.le_refl _⟩, ⟨qN HO_5.out⟩, ⟨qN HO_836000.out⟩, ⟨qR HO_836001.out⟩, ⟨qK BK831.out⟩, ⟨qK BK835.out⟩, ⟨qB2 GE831.out GE835.out HB.out⟩⟩
    case round =>
     clear H';try clear c1
     try clear p2
     try clear c6
     try clear c7
     try clear c9
     try clear c9b0
     try clear hcz8_0
     try clear hcz8_1
     try clear hfz8_0
     try clear hfz8_1
     try clear p2
     obtain ⟨x8_2, x9_2, rfl, rfl, HA, HK2, HO_5, HO_836000, HO_836001, BK831, BK835, HB⟩ := hrel;cases gk with
     | zero => exact absurd HA.out (by simp [arboristref11_Build.l1])
     | succ k2 =>
      have H := HA.out;clear HA;simp only [arboristref11_Build.l1] at H
      by_cases c11 : x9_2 < x7_1
      ·rw [if_pos c11] at H
       have c11b0 : decide (x9_2 < x7_1) = true := decide_eq_true c11;clear c11;by_cases c12 : 0 ≤ x7_1
       ·rw [if_pos c12] at H
        have c12b0 : decide (0 ≤ x7_1) = true := decide_eq_true c12;clear c12;by_cases c13 : x7_1 < (t832.length : Int)
        ·rw [if_pos c13] at H
         have c13b0 : decide (x7_1 < (t832.length : Int)) = true := decide_eq_true c13;clear c13;by_cases c14 : 0 ≤ x9_2
         ·rw [if_pos c14] at H
          have c14b0 : decide (0 ≤ x9_2) = true := decide_eq_true c14;clear c14;by_cases c15 : x9_2 < (t832.length : Int)
          ·rw [if_pos c15] at H
           have c15b0 : decide (x9_2 < (t832.length : Int)) = true := decide_eq_true c15;clear c15;replace H := Option.bind_eq_some_iff.mp H;obtain ⟨t838, A160, H⟩ := H;(try dsimp only at H);have A16 := Aside0.mk A160;clear A160;by_cases c17 : x8_2 = true
           ·subst c17;replace H : (arboristref11_Build.l1 k2 t832 x7_1 (!t838) (wrap64 (x9_2 + 1)) x836000_1 x836001_1) = some (r1, r2) := by rw [if_pos rfl] at H; exact H
            have H' := Aside0.mk H;clear H;try go_wp2
            replace HO_5 := Aside0.mk (Kd.N_drew HO_5.out);replace HO_836000 := Aside0.mk (Kd.N_drew HO_836000.out);replace HO_836001 := Aside0.mk (Kd.R_drew HO_836001.out);replace BK831 := Aside0.mk (blk_drew BK831.out);replace BK835 := Aside0.mk (blk_drew BK835.out);replace HB := Aside0.mk (below_drew1 HB.out);have p836 : 0 ≤ (x7_1 : Int) := of_decide_eq_true qA;have q836 : x7_1 < (t832.length : Int) := of_decide_eq_true qA;obtain ⟨ad836, A836_0, c836_0, e836, hx836_0, hl836_0, hi836_0⟩ := at_L1 (Kd.N_reads' HO_5.out).2.2 x7_1 p836 q836;cases e836
            obtain ⟨ce836, hce836, hMe836, hcc836⟩ := Kd.N_get HO_5.out [] x7_1 p836 (by first | exact q836 | exact of_decide_eq_true qA | (have e_ := (Kd.N_reads' HO_5.out).1; omega));obtain ⟨ua836_0, uc836_0, rfl, ul836_0, ge836_0⟩ := Kd.FK_slice_open hMe836;have hv836_0 := hcc836 0 _ rfl;rw [Nat.add_zero, show ((Kd.slice 3 (Kd.int .i64))).sz = 1 from rfl, Nat.mul_one] at hv836_0
            replace hv836_0 := Option.some.inj (hv836_0.symm.trans hx836_0);injection hv836_0 with hva_ hvn_ hvc_
            rw [hva_] at ge836_0
            rw [hvc_] at ul836_0
            have HL836_0 := Aside0.mk (show Kd.V (Kd.int .i64) 3 _ w.heap.size _ _ (rd_L1 t832 x7_1) from Kd.V_mk ul836_0 ge836_0);clear hva_ hvn_ hvc_ ge836_0 ul836_0;clear hcc836 hce836;have HR836_0 := Aside0.mk hi836_0;have HC836_0 := Aside0.mk hl836_0;clear hi836_0 hl836_0;replace p836 := eq_true p836;replace q836 := eq_true q836;have p837 : 0 ≤ (x9_2 : Int) := of_decide_eq_true qA;have q837 : x9_2 < (t832.length : Int) := of_decide_eq_true qA;obtain ⟨ad837, A837_0, c837_0, e837, hx837_0, hl837_0, hi837_0⟩ := at_L1 (Kd.N_reads' HO_5.out).2.2 x9_2 p837 q837;obtain rfl : ad836 = ad837 := (by injection e837);obtain ⟨ce837, hce837, hMe837, hcc837⟩ := Kd.N_get HO_5.out [] x9_2 p837 (by first | exact q837 | exact of_decide_eq_true qA | (have e_ := (Kd.N_reads' HO_5.out).1; omega));obtain ⟨ua837_0, uc837_0, rfl, ul837_0, ge837_0⟩ := Kd.FK_slice_open hMe837;have hv837_0 := hcc837 0 _ rfl;rw [Nat.add_zero, show ((Kd.slice 3 (Kd.int .i64))).sz = 1 from rfl, Nat.mul_one] at hv837_0
            replace hv837_0 := Option.some.inj (hv837_0.symm.trans hx837_0);injection hv837_0 with hva_ hvn_ hvc_
            rw [hva_] at ge837_0
            rw [hvc_] at ul837_0
            have HL837_0 := Aside0.mk (show Kd.V (Kd.int .i64) 3 _ w.heap.size _ _ (rd_L1 t832 x9_2) from Kd.V_mk ul837_0 ge837_0);clear hva_ hvn_ hvc_ ge837_0 ul837_0;clear hcc837 hce837;have HR837_0 := Aside0.mk hi837_0;have HC837_0 := Aside0.mk hl837_0;clear hi837_0 hl837_0;replace p837 := eq_true p837;replace q837 := eq_true q837;refine start_ (n := 10) (S := fun w' => w'.cell? (ad836.add (x7_1).toNat) = some (.slice A836_0 (rd_L1 t832 x7_1).length c836_0) ∧ w'.cell? (ad836.add (x9_2).toNat) = some (.slice A837_0 (rd_L1 t832 x9_2).length c837_0)) (ds := []) (bs 10 0) (by kernel_rfl) rfl rfl ⟨hx836_0, hx837_0⟩ (fun hHeld => ?_); refine with_tabW arboristref11_Build.tab10 arboristref11_Build.bits10 (fun HT_ HW_ => ?_)
            generalize wr.drew = w18 at HO_5 HO_836000 HO_836001 BK831 BK835 HB HL836_0 HL837_0 HR836_0 HR837_0 hx836_0 hx837_0 hHeld ⊢
            refine qP 0 (some 34) (bs 10 1) HT_.out ?_;refine qP 1 (some 35) (bs 10 3) HT_.out ?_;refine qP 2 (some 36) (bs 10 7) HT_.out ?_;refine qP 4 (some 38) (bs 10 23) HT_.out ?_;refine qP 5 (some 39) (bs 10 55) HT_.out ?_;refine qP 6 (some 40) (bs 10 119) HT_.out ?_;refine take_ (i := 3) (N := some 37) (v := ?_) (a' := ?_) (bs 10 127) rfl rfl (take_ofW HT_.out HW_.out (by kernel_rfl)) (fun _ _ _ h => h) (Or.inl ⟨by rfl, ?_⟩) hHeld ?_ ?_;rotate_left
            ·rintro w' ⟨s0, s1⟩
             go_simp
             with_reducible rfl
            rotate_left; (simp only [Act.put, List.setIfInBounds_toArray, List.set_cons_zero, List.set_cons_succ, i64_w, i32_w]; rfl)
            refine take_ (i := 7) (N := some 41) (v := ?_) (a' := ?_) (bs 10 255) rfl rfl (take_ofW HT_.out HW_.out (by kernel_rfl)) (fun _ _ _ h => h) (Or.inl ⟨by rfl, ?_⟩) hHeld ?_ ?_;rotate_left
            ·rintro w' ⟨s0, s1⟩
             go_simp
             with_reducible rfl
            rotate_left; (simp only [Act.put, List.setIfInBounds_toArray, List.set_cons_zero, List.set_cons_succ, i64_w, i32_w]; rfl)
            refine one_ (i := 8) (N := some 42) (bs 10 511) rfl rfl (one_of HT_.out (by kernel_rfl)) (by decide) (fun K hK => ?_);refine goes_ Try.func43 (by kernel_rfl) rfl #[.slice A836_0 (rd_L1 t832 x7_1).length c836_0, .slice A837_0 (rd_L1 t832 x9_2).length c837_0] (by rfl) rfl rfl qM ?_;with_reducible refine (arboristref01_Within.calls k2 _ _ (rd_L1 t832 x7_1) _ _ (rd_L1 t832 x9_2) t838 _ ?side1 ?side2 ?side3 ?side4 A16.out).mono ?_
            (case side1 => exact qC HR836_0.out);(case side2 => exact HC836_0.out);(case side3 => exact qC HR837_0.out);(case side4 => exact HC837_0.out);rintro e w19 ⟨rfl, hb⟩
            have HS0_ := (hb.cell (World.block_lt_of_cell? _ _ (hHeld.1))).trans (hHeld.1);have HS1_ := (hb.cell (World.block_lt_of_cell? _ _ (hHeld.2))).trans (hHeld.2);refine ⟨_, rfl, ?_⟩;replace HO_5 := Aside0.mk (Kd.N_below (qN HO_5.out) hb);replace HO_836000 := Aside0.mk (Kd.N_below (qN HO_836000.out) hb);replace HO_836001 := Aside0.mk (Kd.R_below (qR HO_836001.out) hb);replace HL836_0 := Aside0.mk (Kd.V_below (by (with_reducible repeat (first | apply Kd.V_alloc | apply Kd.V_drewN | apply Kd.V_drew)); exact HL836_0.out) hb);replace HL837_0 := Aside0.mk (Kd.V_below (by (with_reducible repeat (first | apply Kd.V_alloc | apply Kd.V_drewN | apply Kd.V_drew)); exact HL837_0.out) hb);replace BK831 := Aside0.mk (blk_below (g := gb831) (o := .cells #[.slice none 0 0, .slice none 0 0] 25 (0, 0)) (qK BK831.out) hb);replace BK835 := Aside0.mk (blk_below (g := gb835) (o := .cells #[u836000, u836001] 25 (0, 0)) (qK BK835.out) hb);replace HR836_0 := Aside0.mk (Kd.C_below (by repeat (first | (with_reducible exact HR836_0.out) | (with_reducible refine Kd.C_alloc ?_ _) | (with_reducible refine Kd.C_drewN ?_ _) | (with_reducible refine Kd.C_drew ?_) | exact HR836_0.out)) hb);replace HR837_0 := Aside0.mk (Kd.C_below (by repeat (first | (with_reducible exact HR837_0.out) | (with_reducible refine Kd.C_alloc ?_ _) | (with_reducible refine Kd.C_drewN ?_ _) | (with_reducible refine Kd.C_drew ?_) | exact HR837_0.out)) hb);replace HB := Aside0.mk (below_step (qB2 GE831.out GE835.out HB.out) hb);(try clear hb);(try clear hb2);(try clear hk);(try clear hi);refine hK.out _ _ ⟨HS0_, HS1_⟩ (fun hHeld => ?_);clear hK K;refine norm_ (a' := ?_) ?_ ?_;rotate_left
            ·show Act.put _ (some 42) _ = _
             simp only [Act.put, List.setIfInBounds_toArray, List.set_cons_zero, List.set_cons_succ, i64_w, i32_w]
             rfl
            refine qP 9 (some 10) (bs 10 1023) HT_.out ?_;refine done_ (done_of HT_.out (by kernel_rfl)) ?_;try go_wp2
            go_roundg k2
            case measure => have := HK1.out; have := HK2.out; omega
            case rel => exact ⟨(!t838), (wrap64 (x9_2 + 1)), (by first | rfl | (simp; done) | (simp [*]; done)), (by first | rfl | (simp; done) | (simp [*]; done)), H', ⟨by have := HK1.out; have := HK2.out; omega⟩, ⟨qN HO_5.out⟩, ⟨qN HO_836000.out⟩, ⟨qR HO_836001.out⟩, ⟨qK BK831.out⟩, ⟨qK BK835.out⟩, ⟨qB2 GE831.out GE835.out HB.out⟩⟩
           ·replace c17 := Bool.eq_false_iff.mpr c17;subst c17;replace H : (arboristref11_Build.l1 k2 t832 x7_1 false (wrap64 (x9_2 + 1)) x836000_1 x836001_1) = some (r1, r2) := by rw [if_neg (show ¬ (false = true) by decide)] at H; exact H
            have H' := Aside0.mk H;clear H;try go_wp2
            replace HO_5 := Aside0.mk (Kd.N_drew HO_5.out);replace HO_836000 := Aside0.mk (Kd.N_drew HO_836000.out);replace HO_836001 := Aside0.mk (Kd.R_drew HO_836001.out);replace BK831 := Aside0.mk (blk_drew BK831.out);replace BK835 := Aside0.mk (blk_drew BK835.out);replace HB := Aside0.mk (below_drew1 HB.out);have p836 : 0 ≤ (x7_1 : Int) := of_decide_eq_true qA;have q836 : x7_1 < (t832.length : Int) := of_decide_eq_true qA;obtain ⟨ad836, A836_0, c836_0, e836, hx836_0, hl836_0, hi836_0⟩ := at_L1 (Kd.N_reads' HO_5.out).2.2 x7_1 p836 q836;cases e836
            obtain ⟨ce836, hce836, hMe836, hcc836⟩ := Kd.N_get HO_5.out [] x7_1 p836 (by first | exact q836 | exact of_decide_eq_true qA | (have e_ := (Kd.N_reads' HO_5.out).1; omega));obtain ⟨ua836_0, uc836_0, rfl, ul836_0, ge836_0⟩ := Kd.FK_slice_open hMe836;have hv836_0 := hcc836 0 _ rfl;rw [Nat.add_zero, show ((Kd.slice 3 (Kd.int .i64))).sz = 1 from rfl, Nat.mul_one] at hv836_0
            replace hv836_0 := Option.some.inj (hv836_0.symm.trans hx836_0);injection hv836_0 with hva_ hvn_ hvc_
            rw [hva_] at ge836_0
            rw [hvc_] at ul836_0
            have HL836_0 := Aside0.mk (show Kd.V (Kd.int .i64) 3 _ w.heap.size _ _ (rd_L1 t832 x7_1) from Kd.V_mk ul836_0 ge836_0);clear hva_ hvn_ hvc_ ge836_0 ul836_0;clear hcc836 hce836;have HR836_0 := Aside0.mk hi836_0;have HC836_0 := Aside0.mk hl836_0;clear hi836_0 hl836_0;replace p836 := eq_true p836;replace q836 := eq_true q836;have p837 : 0 ≤ (x9_2 : Int) := of_decide_eq_true qA;have q837 : x9_2 < (t832.length : Int) := of_decide_eq_true qA;obtain ⟨ad837, A837_0, c837_0, e837, hx837_0, hl837_0, hi837_0⟩ := at_L1 (Kd.N_reads' HO_5.out).2.2 x9_2 p837 q837;obtain rfl : ad836 = ad837 := (by injection e837);obtain ⟨ce837, hce837, hMe837, hcc837⟩ := Kd.N_get HO_5.out [] x9_2 p837 (by first | exact q837 | exact of_decide_eq_true qA | (have e_ := (Kd.N_reads' HO_5.out).1; omega));obtain ⟨ua837_0, uc837_0, rfl, ul837_0, ge837_0⟩ := Kd.FK_slice_open hMe837;have hv837_0 := hcc837 0 _ rfl;rw [Nat.add_zero, show ((Kd.slice 3 (Kd.int .i64))).sz = 1 from rfl, Nat.mul_one] at hv837_0
            replace hv837_0 := Option.some.inj (hv837_0.symm.trans hx837_0);injection hv837_0 with hva_ hvn_ hvc_
            rw [hva_] at ge837_0
            rw [hvc_] at ul837_0
            have HL837_0 := Aside0.mk (show Kd.V (Kd.int .i64) 3 _ w.heap.size _ _ (rd_L1 t832 x9_2) from Kd.V_mk ul837_0 ge837_0);clear hva_ hvn_ hvc_ ge837_0 ul837_0;clear hcc837 hce837;have HR837_0 := Aside0.mk hi837_0;have HC837_0 := Aside0.mk hl837_0;clear hi837_0 hl837_0;replace p837 := eq_true p837;replace q837 := eq_true q837;refine start_ (n := 10) (S := fun w' => w'.cell? (ad836.add (x7_1).toNat) = some (.slice A836_0 (rd_L1 t832 x7_1).length c836_0) ∧ w'.cell? (ad836.add (x9_2).toNat) = some (.slice A837_0 (rd_L1 t832 x9_2).length c837_0)) (ds := []) (bs 10 0) (by kernel_rfl) rfl rfl ⟨hx836_0, hx837_0⟩ (fun hHeld => ?_); refine with_tabW arboristref11_Build.tab10 arboristref11_Build.bits10 (fun HT_ HW_ => ?_)
            generalize wr.drew = w20 at HO_5 HO_836000 HO_836001 BK831 BK835 HB HL836_0 HL837_0 HR836_0 HR837_0 hx836_0 hx837_0 hHeld ⊢
            refine qP 0 (some 34) (bs 10 1) HT_.out ?_;refine qP 1 (some 35) (bs 10 3) HT_.out ?_;refine qP 2 (some 36) (bs 10 7) HT_.out ?_;refine qP 4 (some 38) (bs 10 23) HT_.out ?_;refine qP 5 (some 39) (bs 10 55) HT_.out ?_;refine qP 6 (some 40) (bs 10 119) HT_.out ?_;refine take_ (i := 3) (N := some 37) (v := ?_) (a' := ?_) (bs 10 127) rfl rfl (take_ofW HT_.out HW_.out (by kernel_rfl)) (fun _ _ _ h => h) (Or.inl ⟨by rfl, ?_⟩) hHeld ?_ ?_;rotate_left
            ·rintro w' ⟨s0, s1⟩
             go_simp
             with_reducible rfl
            rotate_left; (simp only [Act.put, List.setIfInBounds_toArray, List.set_cons_zero, List.set_cons_succ, i64_w, i32_w]; rfl)
            refine take_ (i := 7) (N := some 41) (v := ?_) (a' := ?_) (bs 10 255) rfl rfl (take_ofW HT_.out HW_.out (by kernel_rfl)) (fun _ _ _ h => h) (Or.inl ⟨by rfl, ?_⟩) hHeld ?_ ?_;rotate_left
            ·rintro w' ⟨s0, s1⟩
             go_simp
             with_reducible rfl
            rotate_left; (simp only [Act.put, List.setIfInBounds_toArray, List.set_cons_zero, List.set_cons_succ, i64_w, i32_w]; rfl)
            refine one_ (i := 8) (N := some 42) (bs 10 511) rfl rfl (one_of HT_.out (by kernel_rfl)) (by decide) (fun K hK => ?_);refine goes_ Try.func43 (by kernel_rfl) rfl #[.slice A836_0 (rd_L1 t832 x7_1).length c836_0, .slice A837_0 (rd_L1 t832 x9_2).length c837_0] (by rfl) rfl rfl qM ?_;with_reducible refine (arboristref01_Within.calls k2 _ _ (rd_L1 t832 x7_1) _ _ (rd_L1 t832 x9_2) t838 _ ?side1 ?side2 ?side3 ?side4 A16.out).mono ?_
            (case side1 => exact qC HR836_0.out);(case side2 => exact HC836_0.out);(case side3 => exact qC HR837_0.out);(case side4 => exact HC837_0.out);rintro e w21 ⟨rfl, hb⟩
            have HS0_ := (hb.cell (World.block_lt_of_cell? _ _ (hHeld.1))).trans (hHeld.1);have HS1_ := (hb.cell (World.block_lt_of_cell? _ _ (hHeld.2))).trans (hHeld.2);refine ⟨_, rfl, ?_⟩;replace HO_5 := Aside0.mk (Kd.N_below (qN HO_5.out) hb);replace HO_836000 := Aside0.mk (Kd.N_below (qN HO_836000.out) hb);replace HO_836001 := Aside0.mk (Kd.R_below (qR HO_836001.out) hb);replace HL836_0 := Aside0.mk (Kd.V_below (by (with_reducible repeat (first | apply Kd.V_alloc | apply Kd.V_drewN | apply Kd.V_drew)); exact HL836_0.out) hb);replace HL837_0 := Aside0.mk (Kd.V_below (by (with_reducible repeat (first | apply Kd.V_alloc | apply Kd.V_drewN | apply Kd.V_drew)); exact HL837_0.out) hb);replace BK831 := Aside0.mk (blk_below (g := gb831) (o := .cells #[.slice none 0 0, .slice none 0 0] 25 (0, 0)) (qK BK831.out) hb);replace BK835 := Aside0.mk (blk_below (g := gb835) (o := .cells #[u836000, u836001] 25 (0, 0)) (qK BK835.out) hb);replace HR836_0 := Aside0.mk (Kd.C_below (by repeat (first | (with_reducible exact HR836_0.out) | (with_reducible refine Kd.C_alloc ?_ _) | (with_reducible refine Kd.C_drewN ?_ _) | (with_reducible refine Kd.C_drew ?_) | exact HR836_0.out)) hb);replace HR837_0 := Aside0.mk (Kd.C_below (by repeat (first | (with_reducible exact HR837_0.out) | (with_reducible refine Kd.C_alloc ?_ _) | (with_reducible refine Kd.C_drewN ?_ _) | (with_reducible refine Kd.C_drew ?_) | exact HR837_0.out)) hb);replace HB := Aside0.mk (below_step (qB2 GE831.out GE835.out HB.out) hb);(try clear hb);(try clear hb2);(try clear hk);(try clear hi);refine hK.out _ _ ⟨HS0_, HS1_⟩ (fun hHeld => ?_);clear hK K;refine norm_ (a' := ?_) ?_ ?_;rotate_left
            ·show Act.put _ (some 42) _ = _
             simp only [Act.put, List.setIfInBounds_toArray, List.set_cons_zero, List.set_cons_succ, i64_w, i32_w]
             rfl
            refine qP 9 (some 10) (bs 10 1023) HT_.out ?_;refine done_ (done_of HT_.out (by kernel_rfl)) ?_;try go_wp2
            go_roundg k2
            case measure => have := HK1.out; have := HK2.out; omega
            case rel => exact ⟨(false), (wrap64 (x9_2 + 1)), (by first | rfl | (simp; done) | (simp [*]; done)), (by first | rfl | (simp; done) | (simp [*]; done)), H', ⟨by have := HK1.out; have := HK2.out; omega⟩, ⟨qN HO_5.out⟩, ⟨qN HO_836000.out⟩, ⟨qR HO_836001.out⟩, ⟨qK BK831.out⟩, ⟨qK BK835.out⟩, ⟨qB2 GE831.out GE835.out HB.out⟩⟩
          ·rw [if_neg c15] at H
           exact absurd H (by simp)
         ·rw [if_neg c14] at H
          exact absurd H (by simp)
        ·rw [if_neg c13] at H
         exact absurd H (by simp)
       ·rw [if_neg c12] at H
        exact absurd H (by simp)
      ·rw [if_neg c11] at H
       have c11b0 : decide (x9_2 < x7_1) = false := decide_eq_false c11;clear c11;by_cases c22 : x8_2 = true
       ·subst c22;replace H : (if 0 ≤ x7_1 then (if x7_1 < (t832.length : Int) then (if x836000_1.length < 5864062014805 then (if x836001_1.length < 17592186044416 then (arboristref11_Build.l0 k2 t832 (wrap64 (x7_1 + 1)) (x836000_1 ++ [rd_L1 t832 x7_1]) (x836001_1 ++ [(-1)])) else (none)) else (none)) else (none)) else (none)) = some (r1, r2) := by rw [if_pos rfl] at H; exact H
        by_cases c23 : 0 ≤ x7_1
        ·rw [if_pos c23] at H
         have c23b0 : decide (0 ≤ x7_1) = true := decide_eq_true c23;clear c23;by_cases c24 : x7_1 < (t832.length : Int)
         ·rw [if_pos c24] at H
          have c24b0 : decide (x7_1 < (t832.length : Int)) = true := decide_eq_true c24;clear c24;by_cases c25 : x836000_1.length < 5864062014805
          ·rw [if_pos c25] at H
           have LMc25 := Aside0.mk c25;clear c25;obtain ⟨y840, hy840⟩ : ∃ y_ : List (List Int), y_ = (x836000_1 ++ [rd_L1 t832 x7_1]) := ⟨_, rfl⟩;replace H : (if x836001_1.length < 17592186044416 then (arboristref11_Build.l0 k2 t832 (wrap64 (x7_1 + 1)) y840 (x836001_1 ++ [(-1)])) else (none)) = some (r1, r2) := by first | (rw [hy840]; with_reducible exact H) | (have H2_ := (Option.bind_some _ _).symm.trans H; rw [hy840]; with_reducible exact H2_) | (have H2_ := (Option.bind_some _ _).symm.trans H; with_reducible exact H2_) | with_reducible exact H | (rw [hy840]; exact H) | exact H
           have Ny840 := Aside0.mk hy840;clear hy840;by_cases c26 : x836001_1.length < 17592186044416
           ·rw [if_pos c26] at H
            have LMc26 := Aside0.mk c26;clear c26;obtain ⟨y843, hy843⟩ : ∃ y_ : List Int, y_ = (x836001_1 ++ [(-1)]) := ⟨_, rfl⟩;replace H : (arboristref11_Build.l0 k2 t832 (wrap64 (x7_1 + 1)) y840 y843) = some (r1, r2) := by first | (rw [hy843]; with_reducible exact H) | (have H2_ := (Option.bind_some _ _).symm.trans H; rw [hy843]; with_reducible exact H2_) | (have H2_ := (Option.bind_some _ _).symm.trans H; with_reducible exact H2_) | with_reducible exact H | (rw [hy843]; exact H) | exact H
            have Ny843 := Aside0.mk hy843;clear hy843;have H' := Aside0.mk H;clear H;try go_wp2
            replace HO_5 := Aside0.mk (Kd.N_drew HO_5.out);replace HO_836000 := Aside0.mk (Kd.N_drew HO_836000.out);replace HO_836001 := Aside0.mk (Kd.R_drew HO_836001.out);replace BK831 := Aside0.mk (blk_drew BK831.out);replace BK835 := Aside0.mk (blk_drew BK835.out);replace HB := Aside0.mk (below_drew1 HB.out);have p839 : 0 ≤ (x7_1 : Int) := of_decide_eq_true qA;have q839 : x7_1 < (t832.length : Int) := of_decide_eq_true qA;obtain ⟨ad839, A839_0, c839_0, e839, hx839_0, hl839_0, hi839_0⟩ := at_L1 (Kd.N_reads' HO_5.out).2.2 x7_1 p839 q839;cases e839
            obtain ⟨ce839, hce839, hMe839, hcc839⟩ := Kd.N_get HO_5.out [] x7_1 p839 (by first | exact q839 | exact of_decide_eq_true qA | (have e_ := (Kd.N_reads' HO_5.out).1; omega));obtain ⟨ua839_0, uc839_0, rfl, ul839_0, ge839_0⟩ := Kd.FK_slice_open hMe839;have hv839_0 := hcc839 0 _ rfl;rw [Nat.add_zero, show ((Kd.slice 3 (Kd.int .i64))).sz = 1 from rfl, Nat.mul_one] at hv839_0
            replace hv839_0 := Option.some.inj (hv839_0.symm.trans hx839_0);injection hv839_0 with hva_ hvn_ hvc_
            rw [hva_] at ge839_0
            rw [hvc_] at ul839_0
            have HL839_0 := Aside0.mk (show Kd.V (Kd.int .i64) 3 _ w.heap.size _ _ (rd_L1 t832 x7_1) from Kd.V_mk ul839_0 ge839_0);clear hva_ hvn_ hvc_ ge839_0 ul839_0;clear hcc839 hce839;have HR839_0 := Aside0.mk hi839_0;have HC839_0 := Aside0.mk hl839_0;clear hi839_0 hl839_0;replace p839 := eq_true p839;replace q839 := eq_true q839;refine start_ (n := 10) (S := fun w' => w'.cell? ⟨gb835, 0, none⟩ = some (u836000) ∧ w'.cell? ⟨gb835, 1, none⟩ = some (u836001) ∧ w'.cell? (ad839.add (x7_1).toNat) = some (.slice A839_0 (rd_L1 t832 x7_1).length c839_0)) (ds := [7, 9]) (bs 10 0) (by kernel_rfl) rfl rfl ⟨(blk_cell BK835.out 0).trans rfl, (blk_cell BK835.out 1).trans rfl, hx839_0⟩ (fun hHeld => ?_); refine with_tabW arboristref11_Build.tab13 arboristref11_Build.bits13 (fun HT_ HW_ => ?_)
            generalize wr.drew = w27 at HO_5 HO_836000 HO_836001 BK831 BK835 HB HL839_0 HR839_0 hx839_0 hHeld ⊢
            refine qP 0 (some 49) (bs 10 1) HT_.out ?_;refine qP 2 (some 51) (bs 10 5) HT_.out ?_;refine qP 3 (some 52) (bs 10 13) HT_.out ?_;refine qP 4 (some 53) (bs 10 29) HT_.out ?_;refine take_ (i := 1) (N := some 50) (v := ?_) (a' := ?_) (bs 10 31) rfl rfl (take_ofW HT_.out HW_.out (by kernel_rfl)) (fun _ _ _ h => h) (Or.inl ⟨by rfl, ?_⟩) hHeld ?_ ?_;rotate_left
            ·rintro w' ⟨s0, s1, s2⟩
             go_simp
             with_reducible rfl
            rotate_left; (simp only [Act.put, List.setIfInBounds_toArray, List.set_cons_zero, List.set_cons_succ, i64_w, i32_w]; rfl)
            refine take_ (i := 5) (N := some 54) (v := ?_) (a' := ?_) (bs 10 63) rfl rfl (take_ofW HT_.out HW_.out (by kernel_rfl)) (fun _ _ _ h => h) (Or.inl ⟨by rfl, ?_⟩) hHeld ?_ ?_;rotate_left
            ·rintro w' ⟨s0, s1, s2⟩
             go_simp
             with_reducible rfl
            rotate_left; (simp only [Act.put, List.setIfInBounds_toArray, List.set_cons_zero, List.set_cons_succ, i64_w, i32_w]; rfl)
            refine one_ (i := 6) (N := some 55) (bs 10 127) rfl rfl (one_of HT_.out (by kernel_rfl)) (by decide) (fun K hK => ?_);refine value_ (w1 := ?_) (v := ?_) (by rfl) rfl ?_ ?_;rotate_left 2
            ·go_simp
             constructor
             ·rfl
             ·rfl
            refine hK.out _ _ ⟨(blk_cell (blk_alloc BK835.out _) 0).trans rfl, (blk_cell (blk_alloc BK835.out _) 1).trans rfl, (World.cell?_alloc_lt _ _ _ (World.block_lt_of_cell? _ _ (hHeld.2.2))).trans (hHeld.2.2)⟩ (fun hHeld => ?_);clear hK K;refine norm_ (a' := ?_) ?_ ?_;rotate_left
            ·show Act.put _ (some 55) _ = _
             simp only [Act.put, List.setIfInBounds_toArray, List.set_cons_zero, List.set_cons_succ, i64_w, i32_w]
             rfl
            refine last_ (i := 7) (N := some 56) (bs 10 255) rfl rfl (one_of HT_.out (by kernel_rfl)) (by decide) (fun K hK => ?_);refine Kd.N_append_step (Kd.slice 3 (Kd.int .i64)) (w0 := w) w.heap.size (by rfl) (.tmp 50) (.tmp 55) 22 23 (.slice none 0 0) 24 rfl Try.underlying22 info23 rfl (by decide) (by omega) u836000 x836000_1 (rd_L1 t832 x7_1) [.slice A839_0 (rd_L1 t832 x7_1).length c839_0] (fun k_ => (w.heap.size ≤ k_) ∧ some k_ ≠ (.slice (some ad839) t832.length co10 : Value).ownBlock ∧ some k_ ≠ (u836001 : Value).ownBlock ∧ k_ ≠ gb831 ∧ k_ ≠ gb835) (fun k_ => ((fun k_ => (w.heap.size ≤ k_) ∧ some k_ ≠ (.slice (some ad839) t832.length co10 : Value).ownBlock ∧ some k_ ≠ (u836001 : Value).ownBlock ∧ k_ ≠ gb831 ∧ k_ ≠ gb835)) k_ ∧ some k_ ≠ (u836000 : Value).ownBlock) rfl rfl ?aP (fun _ hk => hk) ?aF ?aO ?aB ?aS ?aL ?_;(case aP => exact (Kd.FK_slice_mk (Kd.V_reads' (Kd.V_mono (ok' := (fun k_ => ((fun k_ => (w.heap.size ≤ k_) ∧ some k_ ≠ (.slice (some ad839) t832.length co10 : Value).ownBlock ∧ some k_ ≠ (u836001 : Value).ownBlock ∧ k_ ≠ gb831 ∧ k_ ≠ gb835)) k_ ∧ some k_ ≠ (u836000 : Value).ownBlock)) (HL839_0.out) (fun k_ hk => ⟨⟨hk.1.1, ⟨hk.2, ⟨hk.1.2.2.1, ⟨hk.1.2.2.2.1, hk.1.2.2.2.2⟩⟩⟩⟩, hk.1.2.1⟩))).2.1 (Kd.V_F (Kd.V_mono (ok' := (fun k_ => ((fun k_ => (w.heap.size ≤ k_) ∧ some k_ ≠ (.slice (some ad839) t832.length co10 : Value).ownBlock ∧ some k_ ≠ (u836001 : Value).ownBlock ∧ k_ ≠ gb831 ∧ k_ ≠ gb835)) k_ ∧ some k_ ≠ (u836000 : Value).ownBlock)) (HL839_0.out) (fun k_ hk => ⟨⟨hk.1.1, ⟨hk.2, ⟨hk.1.2.2.1, ⟨hk.1.2.2.2.1, hk.1.2.2.2.2⟩⟩⟩⟩, hk.1.2.1⟩)))));(case aB => exact (qB2 GE831.out GE835.out HB.out));(case aF => exact (fun k_ hk => ⟨(Nat.le_trans (below_size (qB2 GE831.out GE835.out HB.out)) hk), Kd.fresh' (Kd.N_lt (qN HO_5.out)) k_ hk, Kd.fresh' (Kd.R_lt (qR HO_836001.out)) k_ hk, Kd.freshB (g := gb831) (o := .cells #[.slice none 0 0, .slice none 0 0] 25 (0, 0)) (qK BK831.out) k_ hk, Kd.freshB (g := gb835) (o := .cells #[u836000, u836001] 25 (0, 0)) (qK BK835.out) k_ hk⟩));(case aO => exact (qN HO_836000.out));(case aS => exact (below_size (qB2 GE831.out GE835.out HB.out)));(case aL => have := LMc25.out; omega);intro v841 w28 ho hb hg hat
            rw [← Ny840.out] at ho
            have n0_ := Aside0.mk (Kd.N_afterv (ok := (fun k_ => (w.heap.size ≤ k_) ∧ some k_ ≠ (u836001 : Value).ownBlock ∧ k_ ≠ gb831 ∧ k_ ≠ gb835)) (by (with_reducible repeat (first | apply Kd.N_alloc | apply Kd.N_drewN | apply Kd.N_drew)); exact Kd.N_mono HO_5.out (fun _ hk => ⟨⟨hk.1, ⟨hk.2.2.1, ⟨hk.2.2.2.1, hk.2.2.2.2⟩⟩⟩, hk.2.1⟩)) hg hat);have n1_ := Aside0.mk (Kd.R_over' (qR HO_836001.out) (Kd.N_typed (qN HO_836000.out)) (by decide) hg);have n2_ := Aside0.mk (blk_grown (g := gb831) (o := .cells #[.slice none 0 0, .slice none 0 0] 25 (0, 0)) (qK BK831.out) hg (Kd.N_ne HO_836000.out BK831.out (by decide)));have n3_ := Aside0.mk (blk_grown (g := gb835) (o := .cells #[u836000, u836001] 25 (0, 0)) (qK BK835.out) hg (Kd.N_ne HO_836000.out BK835.out (by decide)));have n4_ := Aside0.mk (Kd.V_afterv (ok := (fun k_ => (w.heap.size ≤ k_) ∧ some k_ ≠ (.slice (some ad839) t832.length co10 : Value).ownBlock ∧ some k_ ≠ (u836001 : Value).ownBlock ∧ k_ ≠ gb831 ∧ k_ ≠ gb835)) (by (with_reducible repeat (first | apply Kd.V_alloc | apply Kd.V_drewN | apply Kd.V_drew)); exact Kd.V_mono HL839_0.out (fun _ hk => ⟨⟨hk.1.1, ⟨hk.2, ⟨hk.1.2.2.1, ⟨hk.1.2.2.2.1, hk.1.2.2.2.2⟩⟩⟩⟩, hk.1.2.1⟩)) hg hat);have n5_ := Aside0.mk (hb);have n6_ := Aside0.mk (ho);clear HO_5;clear HO_836001;clear BK831;clear BK835;clear HL839_0;clear HB;clear HO_836000;have HO_5 := n0_;have HO_836001 := n1_;have BK831 := n2_;have BK835 := n3_;have HL839_0 := n4_;have HB := n5_;have HO842 := n6_;clear n0_ n1_ n2_ n3_ n4_ n5_ n6_;clear ho hb hg hat;obtain ⟨Ao29, co29, eo29⟩ := Kd.N_slice HO842.out;(first | subst eo29 | (injection eo29 with f1_ f2_ f3_; have f4_ := f1_.symm; have f5_ := f3_.symm; clear f1_ f2_ f3_; subst f4_; subst f5_));refine hK.out _ _ ?_;clear hK K;refine norm_ (a' := ?_) ?_ ?_;rotate_left
            ·show Act.put _ (some 56) _ = _
             simp only [Act.put, List.setIfInBounds_toArray, List.set_cons_zero, List.set_cons_succ, i64_w, i32_w]
             rfl
            refine qP 8 (some 57) (bs 10 511) HT_.out ?_;refine last_ (i := 9) (N := none) (bs 10 1023) rfl rfl (one_of HT_.out (by kernel_rfl)) (by decide) (fun K hK => ?_);have hs30 : w28.cell? ⟨gb835, 0, none⟩ = some (u836000) := (blk_cell BK835.out 0).trans rfl;have hfs30 := blk_frozen BK835.out 0;have hns30_0 := NB831_835.out;have hms30_0 := NB835_831.out;refine skip_ (w1 := ?_) (by rfl) rfl ?_ ?_;rotate_left
            ·go_simp
             rfl
            refine hK.out _ _ ?_;clear hK K;refine done_ (done_of HT_.out (by kernel_rfl)) ?_;have hnb31 := NB835_831.out;have hnc31 := NB831_835.out;have hcz32_0 : w28.cell? ⟨gb835, 0, none⟩ = some (u836000) := (blk_cell BK835.out 0).trans rfl;have hcz32_1 : w28.cell? ⟨gb835, 1, none⟩ = some (u836001) := (blk_cell BK835.out 1).trans rfl;have hfz32_0 := blk_frozen BK835.out 0;have hfz32_1 := blk_frozen BK835.out 1;try go_wp2_with (first | ((with_reducible refine gate_builtin (b := .append) (xs := #[.tmp 59, .tmp 60]) rfl ?_); at_builtin; refine Kd.R_append (Kd.int .i64) (w0 := w) w.heap.size rfl (.tmp 59) (.tmp 60) 23 3 (.int .i64 0) 8 rfl Try.underlying23 info3 rfl (by decide) (by omega) u836001 x836001_1 (-1) [.int .i64 (-1)] (fun k_ => (w.heap.size ≤ k_)) (fun _ => False) rfl (by first | (go_simp; done) | (go_simp; rfl)) ?aP (fun _ hk => hk.elim) ?aF ?aO ?aB ?aS ?aL ?_; (case aP => exact rfl); (case aB => exact (by repeat (first | (with_reducible first | exact HB.out | apply below_alloc | apply pw_below_drewN | apply below_drew1 | refine below_set ?_ GE831.out | refine below_set ?_ GE835.out) | exact HB.out))); (case aF => exact (fun k_ hk => (Nat.le_trans (below_size (by repeat (first | (with_reducible first | exact HB.out | apply below_alloc | apply pw_below_drewN | apply below_drew1 | refine below_set ?_ GE831.out | refine below_set ?_ GE835.out) | exact HB.out))) hk))); (case aO => exact (by (with_reducible repeat (first | apply Kd.R_alloc | apply Kd.R_drewN | apply Kd.R_drew)); exact Kd.R_mono (Kd.R_far (p := ⟨gb835, 0, none⟩) (Kd.R_types HO_836001.out BK835.out (by decide)) (fun _ hk => hk.2) (.slice Ao29 y840.length co29)) (fun _ hk => hk.1))); (case aS => exact (below_size (by repeat (first | (with_reducible first | exact HB.out | apply below_alloc | apply pw_below_drewN | apply below_drew1 | refine below_set ?_ GE831.out | refine below_set ?_ GE835.out) | exact HB.out)))); (case aL => have := LMc26.out; omega); intro v844 w33 ho hb hg hat; rw [← Ny843.out] at ho; have n0_ := Aside0.mk (Kd.N_afterv (ok := (fun k_ => (w.heap.size ≤ k_) ∧ some k_ ≠ (.slice Ao29 y840.length co29 : Value).ownBlock ∧ k_ ≠ gb831 ∧ k_ ≠ gb835)) (by (with_reducible repeat (first | apply Kd.N_alloc | apply Kd.N_drewN | apply Kd.N_drew)); exact Kd.N_mono (Kd.N_far (p := ⟨gb835, 0, none⟩) (Kd.N_mono HO_5.out (fun k_ hk => (⟨hk, hk.1.2.2.2⟩ : _ ∧ k_ ≠ gb835))) (fun _ hk => hk.2) (.slice Ao29 y840.length co29)) (fun _ hk => ⟨⟨hk.1.1.1, ⟨hk.1.2, ⟨hk.1.1.2.2.1, hk.1.1.2.2.2⟩⟩⟩, hk.1.1.2.1⟩)) hg hat); have n1_ := Aside0.mk (blk_grown (g := gb831) (o := .cells #[.slice none 0 0, .slice none 0 0] 25 (0, 0)) (by (with_reducible repeat (first | refine blk_drewN ?_ _ | refine blk_drew ?_ | refine blk_alloc ?_ _)); refine blk_far ?_ NB831_835.out _; (with_reducible repeat (first | refine blk_drewN ?_ _ | refine blk_drew ?_ | refine blk_alloc ?_ _)); exact BK831.out) hg (Kd.R_ne HO_836001.out BK831.out (by decide))); have n2_ := Aside0.mk (blk_grown (g := gb835) (o := .cells #[.slice Ao29 y840.length co29, u836001] 25 (0, 0)) (by (with_reducible repeat (first | refine blk_drewN ?_ _ | refine blk_drew ?_ | refine blk_alloc ?_ _)); refine blk_put (cs := #[u836000, u836001]) ?_ 0 _ rfl; (with_reducible repeat (first | refine blk_drewN ?_ _ | refine blk_drew ?_ | refine blk_alloc ?_ _)); exact BK835.out) hg (Kd.R_ne HO_836001.out BK835.out (by decide))); have n3_ := Aside0.mk (Kd.V_afterv (ok := (fun k_ => (w.heap.size ≤ k_) ∧ some k_ ≠ (.slice (some ad839) t832.length co10 : Value).ownBlock ∧ some k_ ≠ (.slice Ao29 y840.length co29 : Value).ownBlock ∧ k_ ≠ gb831 ∧ k_ ≠ gb835)) (by (with_reducible repeat (first | apply Kd.V_alloc | apply Kd.V_drewN | apply Kd.V_drew)); exact Kd.V_mono (Kd.V_far (p := ⟨gb835, 0, none⟩) (Kd.V_mono HL839_0.out (fun k_ hk => (⟨hk, hk.1.2.2.2.2⟩ : _ ∧ k_ ≠ gb835))) (fun _ hk => hk.2) (.slice Ao29 y840.length co29)) (fun _ hk => ⟨⟨hk.1.1.1, ⟨hk.1.1.2.1, ⟨hk.1.2, ⟨hk.1.1.2.2.2.1, hk.1.1.2.2.2.2⟩⟩⟩⟩, hk.1.1.2.2.1⟩)) hg hat); have n4_ := Aside0.mk (Kd.N_afterv (ok := (fun k_ => (w.heap.size ≤ k_) ∧ some k_ ≠ (.slice (some ad839) t832.length co10 : Value).ownBlock ∧ k_ ≠ gb831 ∧ k_ ≠ gb835)) (by (with_reducible repeat (first | apply Kd.N_alloc | apply Kd.N_drewN | apply Kd.N_drew)); exact Kd.N_mono (Kd.N_far (p := ⟨gb835, 0, none⟩) (Kd.N_mono HO842.out (fun k_ hk => (⟨hk, hk.2.2.2.2⟩ : _ ∧ k_ ≠ gb835))) (fun _ hk => hk.2) (.slice Ao29 y840.length co29)) (fun _ hk => ⟨⟨hk.1.1, ⟨hk.1.2.1, ⟨hk.1.2.2.2.1, hk.1.2.2.2.2⟩⟩⟩, hk.1.2.2.1⟩)) hg hat); have n5_ := Aside0.mk (hb); have n6_ := Aside0.mk (ho); clear HO_5; clear BK831; clear BK835; clear HL839_0; clear HO842; clear HB; clear HO_836001; have HO_5 := n0_; have BK831 := n1_; have BK835 := n2_; have HL839_0 := n3_; have HO842 := n4_; have HB := n5_; have HO845 := n6_; clear n0_ n1_ n2_ n3_ n4_ n5_ n6_; clear ho hb hg hat; obtain ⟨Ao34, co34, eo34⟩ := Kd.R_slice HO845.out; subst eo34; have hcz35_0 : w33.cell? ⟨gb835, 0, none⟩ = some (.slice Ao29 y840.length co29) := (blk_cell BK835.out 0).trans rfl; have hcz35_1 : w33.cell? ⟨gb835, 1, none⟩ = some (u836001) := (blk_cell BK835.out 1).trans rfl; have hfz35_0 := blk_frozen BK835.out 0; have hfz35_1 := blk_frozen BK835.out 1))
            go_roundg k2
            case measure => have := HK1.out; have := HK2.out; omega
            case rel => exact ⟨(wrap64 (x7_1 + 1)), (y840), (y843), (.slice Ao29 y840.length co29), (.slice Ao34 y843.length co34), (by first | rfl | (simp; done) | (simp [*]; done)), H', ⟨by have := HK1.out; have := HK2.out; omega⟩, ⟨by (with_reducible repeat (first | apply Kd.N_alloc | apply Kd.N_drewN | apply Kd.N_drew)); exact Kd.N_mono (Kd.N_far (p := ⟨gb835, 1, none⟩) (Kd.N_mono HO_5.out (fun k_ hk => (⟨hk, hk.1.2.2.2⟩ : _ ∧ k_ ≠ gb835))) (fun _ hk => hk.2) (.slice Ao34 y843.length co34)) (fun _ hk => ⟨hk.1.1.1, ⟨hk.1.1.2.1, ⟨hk.1.2, ⟨hk.1.1.2.2.1, hk.1.1.2.2.2⟩⟩⟩⟩)⟩, ⟨by (with_reducible repeat (first | apply Kd.N_alloc | apply Kd.N_drewN | apply Kd.N_drew)); exact Kd.N_mono (Kd.N_far (p := ⟨gb835, 1, none⟩) (Kd.N_mono HO842.out (fun k_ hk => (⟨hk, hk.1.2.2.2⟩ : _ ∧ k_ ≠ gb835))) (fun _ hk => hk.2) (.slice Ao34 y843.length co34)) (fun _ hk => ⟨hk.1.1.1, ⟨hk.1.1.2.1, ⟨hk.1.2, ⟨hk.1.1.2.2.1, hk.1.1.2.2.2⟩⟩⟩⟩)⟩, ⟨by (with_reducible repeat (first | apply Kd.R_alloc | apply Kd.R_drewN | apply Kd.R_drew)); exact Kd.R_mono (Kd.R_far (p := ⟨gb835, 1, none⟩) (Kd.R_types HO845.out BK835.out (by decide)) (fun _ hk => hk.2) (.slice Ao34 y843.length co34)) (fun _ hk => hk.1)⟩, ⟨by (with_reducible repeat (first | refine blk_drewN ?_ _ | refine blk_drew ?_ | refine blk_alloc ?_ _)); refine blk_far ?_ NB831_835.out _; (with_reducible repeat (first | refine blk_drewN ?_ _ | refine blk_drew ?_ | refine blk_alloc ?_ _)); exact BK831.out⟩, ⟨by (with_reducible repeat (first | refine blk_drewN ?_ _ | refine blk_drew ?_ | refine blk_alloc ?_ _)); refine blk_put (cs := #[.slice Ao29 y840.length co29, u836001]) ?_ 1 _ rfl; (with_reducible repeat (first | refine blk_drewN ?_ _ | refine blk_drew ?_ | refine blk_alloc ?_ _)); exact BK835.out⟩, ⟨qB2 GE831.out GE835.out HB.out⟩⟩
           ·rw [if_neg c26] at H
            exact absurd H (by simp)
          ·rw [if_neg c25] at H
           exact absurd H (by simp)
         ·rw [if_neg c24] at H
          exact absurd H (by simp)
        ·rw [if_neg c23] at H
         exact absurd H (by simp)
       ·replace c22 := Bool.eq_false_iff.mpr c22;subst c22;replace H : (arboristref11_Build.l0 k2 t832 (wrap64 (x7_1 + 1)) x836000_1 x836001_1) = some (r1, r2) := by rw [if_neg (show ¬ (false = true) by decide)] at H; exact H
        have H' := Aside0.mk H;clear H;go_wp2
        go_roundg k2
        case measure => have := HK1.out; have := HK2.out; omega
        case rel => exact ⟨(wrap64 (x7_1 + 1)), (x836000_1), (x836001_1), (u836000), (u836001), (by first | rfl | (simp; done) | (simp [*]; done)), H', ⟨by have := HK1.out; have := HK2.out; omega⟩, ⟨qN HO_5.out⟩, ⟨qN HO_836000.out⟩, ⟨qR HO_836001.out⟩, ⟨qK BK831.out⟩, ⟨qK BK835.out⟩, ⟨qB2 GE831.out GE835.out HB.out⟩⟩
   ·rw [if_neg c9] at H
    have c9b0 : decide (x7_1 < (t832.length : Int)) = false := decide_eq_false c9;clear c9;by_cases c36 : 0 ≤ (x836000_1.length : Int)
    ·rw [if_pos c36] at H
     have c36b0 := eq_true c36;have c36b1 : decide (0 ≤ (x836000_1.length : Int)) = true := decide_eq_true c36;clear c36;by_cases c37 : ((x836000_1.length : Int) : Int).toNat ≤ 281474976710656
     ·rw [if_pos c37] at H
      have c37b0 := eq_true c37;have c37b1 : decide (((x836000_1.length : Int) : Int).toNat ≤ 281474976710656) = true := decide_eq_true c37;clear c37;obtain ⟨y846, hy846⟩ : ∃ y_ : List Bool, y_ = (List.replicate ((x836000_1.length : Int) : Int).toNat false) := ⟨_, rfl⟩;replace H : (arboristref11_Build.l2 k1 y846 0 x836000_1 x836001_1) = some (r1, r2) := by first | (rw [hy846]; with_reducible exact H) | (have H2_ := (Option.bind_some _ _).symm.trans H; rw [hy846]; with_reducible exact H2_) | (have H2_ := (Option.bind_some _ _).symm.trans H; with_reducible exact H2_) | with_reducible exact H | (rw [hy846]; exact H) | exact H
      have Ny846 := Aside0.mk hy846;clear hy846;have H' := Aside0.mk H;clear H;obtain ⟨Ao38, co38, eo38⟩ := Kd.N_slice HO_5.out;subst eo38;have hnb39 := NB835_831.out;have hnc39 := NB831_835.out;have hcz40_0 : wr.cell? ⟨gb835, 0, none⟩ = some (u836000) := (blk_cell BK835.out 0).trans rfl;have hcz40_1 : wr.cell? ⟨gb835, 1, none⟩ = some (u836001) := (blk_cell BK835.out 1).trans rfl;have hfz40_0 := blk_frozen BK835.out 0;have hfz40_1 := blk_frozen BK835.out 1;obtain ⟨Ao41, co41, eo41⟩ := Kd.N_slice HO_836000.out;subst eo41;go_wp2_with (first | ((with_reducible refine gate_dst (N := 66) rfl ?_); refine Kd.R_make Kd.bool _ 4 rfl (N := 66) rfl 58 _ _ rfl (x836000_1.length : Int) rfl rfl Try.underlying58 (.bool false) 1 info4 rfl (by decide) (by omega) false (ok := fun _ => True) (okp := fun _ => True) rfl (fun _ hk => hk) trivial (of_decide_eq_true qA) (Nat.le_trans (Nat.mul_le_mul_right _ (of_decide_eq_true qA : (x836000_1.length : Int).toNat ≤ 281474976710656)) (by omega)) (Below.refl _ _) (Nat.le_refl _) ?_; intro v847 w42 ho43 hb hg_ hnew_; clear hg_ hnew_; (first | rw [← Ny846.out] at ho43 | (simp only [Int.reduceToNat] at ho43; rw [← Ny846.out] at ho43)); have n0_ := Aside0.mk (Kd.N_elder' (qN HO_5.out) (Kd.R_base ho43) hb); have n1_ := Aside0.mk (Kd.N_elder' (qN HO_836000.out) (Kd.R_base ho43) hb); have n2_ := Aside0.mk (Kd.R_below (qR HO_836001.out) hb); have n3_ := Aside0.mk (Kd.R_lower (Kd.R_newM (M := fun k_ => (w.heap.size ≤ k_)) ho43 (below_size (by repeat (first | (with_reducible first | exact HB.out | apply below_alloc | apply pw_below_drewN | apply below_drew1 | refine below_set ?_ GE831.out | refine below_set ?_ GE835.out) | exact HB.out))) (fun k_ h_ => h_)) (below_size (by repeat (first | (with_reducible first | exact HB.out | apply below_alloc | apply pw_below_drewN | apply below_drew1 | refine below_set ?_ GE831.out | refine below_set ?_ GE835.out) | exact HB.out)))); have n4_ := Aside0.mk (blk_below (g := gb831) (o := .cells #[.slice none 0 0, .slice none 0 0] 25 (0, 0)) (qK BK831.out) hb); have n5_ := Aside0.mk (blk_below (g := gb835) (o := .cells #[.slice Ao41 x836000_1.length co41, u836001] 25 (0, 0)) (qK BK835.out) hb); have n6_ := Aside0.mk (below_step (by repeat (first | (with_reducible first | exact HB.out | apply below_alloc | apply pw_below_drewN | apply below_drew1 | refine below_set ?_ GE831.out | refine below_set ?_ GE835.out) | exact HB.out)) hb); clear HO_5; clear HO_836000; clear HO_836001; clear BK831; clear BK835; clear HB; have HO_5 := n0_; have HO_836000 := n1_; have HO_836001 := n2_; have HO848 := n3_; have BK831 := n4_; have BK835 := n5_; have HB := n6_; clear n0_ n1_ n2_ n3_ n4_ n5_ n6_; clear hb ho43))
      go_loopg [12] k1 (fun kq v12 w' => ∃ (x11_2 : List Bool) (x12_2 : Int) (x836001_2 : List Int) (u836001 : Value), v12 = .int .i64 x12_2 ∧ Aside0 (arboristref11_Build.l2 kq x11_2 x12_2 x836000_1 x836001_2 = some (r1, r2)) ∧ Aside0 (kq ≤ k1) ∧ Aside0 (Kd.R Kd.bool 4 w' w.heap.size (fun k_ => (w.heap.size ≤ k_)) v847 x11_2) ∧ Aside0 (Kd.N (Kd.slice 3 (Kd.int .i64)) 23 w' w.heap.size (fun k_ => (w.heap.size ≤ k_) ∧ some k_ ≠ (v847 : Value).ownBlock ∧ some k_ ≠ (u836001 : Value).ownBlock ∧ k_ ≠ gb831 ∧ k_ ≠ gb835) (.slice Ao41 x836000_1.length co41) x836000_1) ∧ Aside0 (Kd.R (Kd.int .i64) 3 w' w.heap.size (fun k_ => (w.heap.size ≤ k_)) u836001 x836001_2) ∧ Aside0 (w'.heap[gb831]? = some (.cells #[(.slice none 0 0), (.slice none 0 0)] 25 (0, 0))) ∧ Aside0 (w'.heap[gb835]? = some (.cells #[(.slice Ao41 x836000_1.length co41), u836001] 25 (0, 0))) ∧ Aside0 (Below w.heap.size w w'))
      case atStart => exact ⟨(y846), (0), (x836001_1), (u836001), (by first | rfl | (simp; done) | (simp [*]; done)), H', ⟨Nat.le_refl _⟩, ⟨by (with_reducible repeat (first | apply Kd.R_alloc | apply Kd.R_drewN | apply Kd.R_drew)); exact Kd.R_mono HO848.out (fun _ hk => hk.1)⟩, ⟨by (with_reducible repeat (first | apply Kd.N_alloc | apply Kd.N_drewN | apply Kd.N_drew)); exact Kd.N_mono HO_836000.out (fun _ hk => ⟨hk.1.1, ⟨hk.2, ⟨hk.1.2.2.1, ⟨hk.1.2.2.2.1, hk.1.2.2.2.2⟩⟩⟩⟩)⟩, ⟨qR HO_836001.out⟩, ⟨qK BK831.out⟩, ⟨qK BK835.out⟩, ⟨qB2 GE831.out GE835.out HB.out⟩⟩
      case round =>
       clear H';try clear c1
       try clear c2
       try clear p2
       try clear c3
       try clear c4
       try clear p6
       try clear c8
       try clear p8
       try clear q8
       try clear hx8
       try clear c9
       try clear c9b0
       try clear c11
       try clear c11b0
       try clear c12
       try clear c13
       try clear c14
       try clear c15
       try clear c17
       try clear c22
       try clear c23
       try clear c23b0
       try clear c24
       try clear c24b0
       try clear c25
       try clear c26
       try clear c31
       try clear c36
       try clear c36b0
       try clear c36b1
       try clear c37
       try clear c37b0
       try clear c37b1
       try clear c39
       try clear c43
       try clear hcz32_0
       try clear hcz32_1
       try clear hcz35_0
       try clear hcz35_1
       try clear hcz40_0
       try clear hcz40_1
       try clear hfz32_0
       try clear hfz32_1
       try clear hfz35_0
       try clear hfz35_1
       try clear hfz40_0
       try clear hfz40_1
       try clear hx836_0
       try clear hx837_0
       try clear hx839_0
       try clear p836
       try clear p837
       try clear p839
       try clear q836
       try clear q837
       try clear q839
       obtain ⟨x11_2, x12_2, x836001_2, u836001, rfl, HA, HK2, HO_11, HO_836000, HO_836001, BK831, BK835, HB⟩ := hrel;cases gk with
       | zero => exact absurd HA.out (by simp [arboristref11_Build.l2])
       | succ k2 =>
        have H := HA.out;clear HA;simp only [arboristref11_Build.l2] at H
        by_cases c44 : x12_2 < (x836000_1.length : Int)
        ·rw [if_pos c44] at H
         have c44b0 : decide (x12_2 < (x836000_1.length : Int)) = true := decide_eq_true c44;clear c44;by_cases c45 : x12_2 = 0
         ·rw [if_pos c45] at H
          have c45b0 : (x12_2 == 0) = true := beq_iff_eq.mpr c45;have c45b1 : (x12_2 != 0) = false := bne_eq_false_iff_eq.mpr c45;clear c45;by_cases c46 : 0 < (x11_2.length : Int)
          ·rw [if_pos c46] at H
           have c46b0 : decide (0 < (x11_2.length : Int)) = true := decide_eq_true c46;have c46b1 : decide (0 < x11_2.length) = true := decide_eq_true (by omega);clear c46;obtain ⟨y849, hy849⟩ : ∃ y_ : List Bool, y_ = (x11_2.set (0 : Int).toNat true) := ⟨_, rfl⟩;replace H : (arboristref11_Build.l2 k2 y849 (wrap64 (x12_2 + 1)) x836000_1 x836001_2) = some (r1, r2) := by first | (rw [hy849]; with_reducible exact H) | (have H2_ := (Option.bind_some _ _).symm.trans H; rw [hy849]; with_reducible exact H2_) | (have H2_ := (Option.bind_some _ _).symm.trans H; with_reducible exact H2_) | with_reducible exact H | (rw [hy849]; exact H) | exact H
           have Ny849 := Aside0.mk hy849;clear hy849;have H' := Aside0.mk H;clear H;have hnb48 := NB835_831.out;have hnc48 := NB831_835.out;have hcz49_0 : wr.cell? ⟨gb835, 0, none⟩ = some (.slice Ao41 x836000_1.length co41) := (blk_cell BK835.out 0).trans rfl;have hcz49_1 : wr.cell? ⟨gb835, 1, none⟩ = some (u836001) := (blk_cell BK835.out 1).trans rfl;have hfz49_0 := blk_frozen BK835.out 0;have hfz49_1 := blk_frozen BK835.out 1;have p47 : 0 ≤ (0 : Int) := (by omega);have q47 : (0 : Int) < ((x11_2.length : Int) : Int) := of_decide_eq_true qA;have qi47 : (0 < x11_2.length) = True := eq_true (by omega);obtain ⟨go47, co47, eo47, gb47, gl47, cl47, HG47⟩ := Kd.R_form HO_11.out (by omega);(first | cases eo47 | (injection eo47 with ea_ en_ ec_; (first | subst ea_ | (injection ea_ with ea_; subst ea_)); subst ec_; clear en_));have GB47 := Aside0.mk gb47;have GG47 := Aside0.mk HG47;clear gb47 gl47 HG47;obtain ⟨hx47_0, hf47_0⟩ := Kd.R_celln false HO_11.out (0 : Int) p47 q47;(try rw [show ((0 : Int)).toNat = 0 from rfl] at hx47_0);(try simp only [Nat.reduceMul, Nat.zero_mul, Nat.zero_add, Nat.reduceAdd] at hx47_0);(try rw [show ((0 : Int)).toNat = 0 from rfl] at hf47_0);(try simp only [Nat.reduceMul, Nat.zero_mul, Nat.zero_add, Nat.reduceAdd] at hf47_0);replace p47 := eq_true p47;replace q47 := eq_true q47;have HP50 := Kd.R_putg HO_11.out (0 : Int) true;go_wp2_with (first | ((with_reducible refine gate_store (t := 4) (p := 77) rfl ?_); refine store_event (t := 4) (p := 77) (v := ?vo_w51) (w1 := (wr.setCell ⟨go47, (0 : Int).toNat, none⟩ (.bool true))) ?hg ?ho ?hn ?hr ?_; (case ho => rfl); (case hg => rfl); (case hn => rfl); (case hr => first | (go_simp; done) | (go_simp; rfl)); intro w51 hw; have hg : wr.grownBy w51 (some go47) := (by rw [hw]; exact HP50.2); have hp_ : Kd.R Kd.bool 4 w51 w.heap.size (fun k_ => (w.heap.size ≤ k_)) (.slice (some ⟨go47, 0, none⟩) x11_2.length co47) y849 := (by rw [hw, Ny849.out]; exact HP50.1); clear HP50; have n0_ := Aside0.mk (hp_); have n1_ := Aside0.mk (Kd.N_afterv (v := (.slice (some ⟨go47, 0, none⟩) x11_2.length co47)) (v1 := (.slice (some ⟨go47, 0, none⟩) x11_2.length co47)) (ok := (fun k_ => (w.heap.size ≤ k_) ∧ some k_ ≠ (u836001 : Value).ownBlock ∧ k_ ≠ gb831 ∧ k_ ≠ gb835)) (by (with_reducible repeat (first | apply Kd.N_alloc | apply Kd.N_drewN | apply Kd.N_drew)); exact Kd.N_mono HO_836000.out (fun _ hk => ⟨⟨hk.1, ⟨hk.2.2.1, ⟨hk.2.2.2.1, hk.2.2.2.2⟩⟩⟩, hk.2.1⟩)) hg (.inl rfl)); have n2_ := Aside0.mk (Kd.R_over' (v := (.slice (some ⟨go47, 0, none⟩) x11_2.length co47)) (qR HO_836001.out) (Kd.R_typed HO_11.out) (by decide) hg); have n3_ := Aside0.mk (blk_grown (g := gb831) (o := .cells #[.slice none 0 0, .slice none 0 0] 25 (0, 0)) (qK BK831.out) hg (Kd.R_ne HO_11.out BK831.out (by decide))); have n4_ := Aside0.mk (blk_grown (g := gb835) (o := .cells #[.slice Ao41 x836000_1.length co41, u836001] 25 (0, 0)) (qK BK835.out) hg (Kd.R_ne HO_11.out BK835.out (by decide))); have n5_ := Aside0.mk ((by rw [hw]; exact below_set (HB.out) GB47.out : Below w.heap.size w w51)); clear HO_11; clear HO_836000; clear HO_836001; clear BK831; clear BK835; clear HB; have HO_11 := n0_; have HO_836000 := n1_; have HO_836001 := n2_; have BK831 := n3_; have BK835 := n4_; have HB := n5_; clear n0_ n1_ n2_ n3_ n4_ n5_; clear hg hw hp_))
           go_roundg k2
           case measure => have := HK1.out; have := HK2.out; omega
           case rel => exact ⟨(y849), (wrap64 (x12_2 + 1)), (x836001_2), (u836001), (by first | rfl | (simp; done) | (simp [*]; done)), H', ⟨by have := HK1.out; have := HK2.out; omega⟩, ⟨qR HO_11.out⟩, ⟨by (with_reducible repeat (first | apply Kd.N_alloc | apply Kd.N_drewN | apply Kd.N_drew)); exact Kd.N_mono HO_836000.out (fun _ hk => ⟨hk.1.1, ⟨hk.2, ⟨hk.1.2.1, ⟨hk.1.2.2.1, hk.1.2.2.2⟩⟩⟩⟩)⟩, ⟨qR HO_836001.out⟩, ⟨qK BK831.out⟩, ⟨qK BK835.out⟩, ⟨qB2 GE831.out GE835.out HB.out⟩⟩
          ·rw [if_neg c46] at H
           exact absurd H (by simp)
         ·rw [if_neg c45] at H
          have c45b0 : (x12_2 == 0) = false := beq_eq_false_iff_ne.mpr c45;have c45b1 : (x12_2 != 0) = true := bne_iff_ne.mpr c45;have H' := Aside0.mk H;clear H;have hnb52 := NB835_831.out;have hnc52 := NB831_835.out;have hcz53_0 : wr.cell? ⟨gb835, 0, none⟩ = some (.slice Ao41 x836000_1.length co41) := (blk_cell BK835.out 0).trans rfl;have hcz53_1 : wr.cell? ⟨gb835, 1, none⟩ = some (u836001) := (blk_cell BK835.out 1).trans rfl;have hfz53_0 := blk_frozen BK835.out 0;have hfz53_1 := blk_frozen BK835.out 1;go_wp2
          go_loopg [13, 14, 15, 16] k2 (fun kq v13 v14 v15 v16 w' => ∃ (x13_3 : Int) (x14_3 : Int) (x15_3 : Int) (x16_3 : Int), v13 = .int .i64 x13_3 ∧ v14 = .int .i64 x14_3 ∧ v15 = .int .i64 x15_3 ∧ v16 = .int .i64 x16_3 ∧ Aside0 (arboristref11_Build.l3 kq x11_2 x12_2 x13_3 x14_3 x15_3 x16_3 x836000_1 x836001_2 = some (r1, r2)) ∧ Aside0 (kq ≤ k2) ∧ Aside0 (Kd.R Kd.bool 4 w' w.heap.size (fun k_ => (w.heap.size ≤ k_)) v847 x11_2) ∧ Aside0 (Kd.N (Kd.slice 3 (Kd.int .i64)) 23 w' w.heap.size (fun k_ => (w.heap.size ≤ k_) ∧ some k_ ≠ (v847 : Value).ownBlock ∧ some k_ ≠ (u836001 : Value).ownBlock ∧ k_ ≠ gb831 ∧ k_ ≠ gb835) (.slice Ao41 x836000_1.length co41) x836000_1) ∧ Aside0 (Kd.R (Kd.int .i64) 3 w' w.heap.size (fun k_ => (w.heap.size ≤ k_)) u836001 x836001_2) ∧ Aside0 (w'.heap[gb831]? = some (.cells #[(.slice none 0 0), (.slice none 0 0)] 25 (0, 0))) ∧ Aside0 (w'.heap[gb835]? = some (.cells #[(.slice Ao41 x836000_1.length co41), u836001] 25 (0, 0))) ∧ Aside0 (Below w.heap.size w w'))
          case atStart => exact ⟨((-1)), ((-1)), ((-1)), (0), (by first | rfl | (simp; done) | (simp [*]; done)), (by first | rfl | (simp; done) | (simp [*]; done)), (by first | rfl | (simp; done) | (simp [*]; done)), (by first | rfl | (simp; done) | (simp [*]; done)), H', ⟨Nat.le_refl _⟩, ⟨qR HO_11.out⟩, ⟨qN HO_836000.out⟩, ⟨qR HO_836001.out⟩, ⟨qK BK831.out⟩, ⟨qK BK835.out⟩, ⟨qB2 GE831.out GE835.out HB.out⟩⟩
          case round =>
           clear H';try clear c1
           try clear c2
           try clear p2
           try clear c3
           try clear c4
           try clear p4
           try clear q4
           try clear hx4
           try clear qi4
           try clear hf4
           try clear c5
           try clear p6
           try clear c8
           try clear p8
           try clear q8
           try clear hx8
           try clear c9
           try clear c9b0
           try clear c11
           try clear c11b0
           try clear c12
           try clear c13
           try clear c14
           try clear c15
           try clear c17
           try clear c22
           try clear c23
           try clear c23b0
           try clear c24
           try clear c24b0
           try clear c25
           try clear c26
           try clear c31
           try clear c36
           try clear c36b0
           try clear c36b1
           try clear c37
           try clear c37b0
           try clear c37b1
           try clear c39
           try clear c43
           try clear c44
           try clear c44b0
           try clear c45
           try clear c45b0
           try clear c45b1
           try clear c46
           try clear c46b0
           try clear c46b1
           try clear p47
           try clear q47
           try clear hx47
           try clear qi47
           try clear hf47
           try clear c48
           try clear c52
           try clear hcz32_0
           try clear hcz32_1
           try clear hcz35_0
           try clear hcz35_1
           try clear hcz40_0
           try clear hcz40_1
           try clear hcz49_0
           try clear hcz49_1
           try clear hcz53_0
           try clear hcz53_1
           try clear hfz32_0
           try clear hfz32_1
           try clear hfz35_0
           try clear hfz35_1
           try clear hfz40_0
           try clear hfz40_1
           try clear hfz49_0
           try clear hfz49_1
           try clear hfz53_0
           try clear hfz53_1
           try clear hx47_0
           try clear hx836_0
           try clear hx837_0
           try clear hx839_0
           try clear p2
           try clear p47
           try clear p6
           try clear p8
           try clear p836
           try clear p837
           try clear p839
           try clear q47
           try clear q8
           try clear q836
           try clear q837
           try clear q839
           obtain ⟨x13_3, x14_3, x15_3, x16_3, rfl, rfl, rfl, rfl, HA, HK3, HO_11, HO_836000, HO_836001, BK831, BK835, HB⟩ := hrel;cases gk with
           | zero => exact absurd HA.out (by simp [arboristref11_Build.l3])
           | succ k3 =>
            have H := HA.out;clear HA;simp only [arboristref11_Build.l3] at H
            by_cases c54 : x16_3 < (x836000_1.length : Int)
            ·rw [if_pos c54] at H
             have c54b0 : decide (x16_3 < (x836000_1.length : Int)) = true := decide_eq_true c54;clear c54;have H' := Aside0.mk H;clear H;have hnb55 := NB835_831.out;have hnc55 := NB831_835.out;have hcz56_0 : wr.cell? ⟨gb835, 0, none⟩ = some (.slice Ao41 x836000_1.length co41) := (blk_cell BK835.out 0).trans rfl;have hcz56_1 : wr.cell? ⟨gb835, 1, none⟩ = some (u836001) := (blk_cell BK835.out 1).trans rfl;have hfz56_0 := blk_frozen BK835.out 0;have hfz56_1 := blk_frozen BK835.out 1;go_wp2
             go_loopg [13, 14, 15, 17] k3 (fun kq v13 v14 v15 v17 w' => ∃ (x13_4 : Int) (x14_4 : Int) (x15_4 : Int) (x17_4 : Int), v13 = .int .i64 x13_4 ∧ v14 = .int .i64 x14_4 ∧ v15 = .int .i64 x15_4 ∧ v17 = .int .i64 x17_4 ∧ Aside0 (arboristref11_Build.l4 kq x11_2 x12_2 x13_4 x14_4 x15_4 x16_3 x17_4 x836000_1 x836001_2 = some (r1, r2)) ∧ Aside0 (kq ≤ k3) ∧ Aside0 (Kd.R Kd.bool 4 w' w.heap.size (fun k_ => (w.heap.size ≤ k_)) v847 x11_2) ∧ Aside0 (Kd.N (Kd.slice 3 (Kd.int .i64)) 23 w' w.heap.size (fun k_ => (w.heap.size ≤ k_) ∧ some k_ ≠ (v847 : Value).ownBlock ∧ some k_ ≠ (u836001 : Value).ownBlock ∧ k_ ≠ gb831 ∧ k_ ≠ gb835) (.slice Ao41 x836000_1.length co41) x836000_1) ∧ Aside0 (Kd.R (Kd.int .i64) 3 w' w.heap.size (fun k_ => (w.heap.size ≤ k_)) u836001 x836001_2) ∧ Aside0 (w'.heap[gb831]? = some (.cells #[(.slice none 0 0), (.slice none 0 0)] 25 (0, 0))) ∧ Aside0 (w'.heap[gb835]? = some (.cells #[(.slice Ao41 x836000_1.length co41), u836001] 25 (0, 0))) ∧ Aside0 (Below w.heap.size w w'))
             case atStart => exact ⟨(x13_3), (x14_3), (x15_3), (0), (by first | rfl | (simp; done) | (simp [*]; done)), (by first | rfl | (simp; done) | (simp [*]; done)), (by first | rfl | (simp; done) | (simp [*]; done)), (by first | rfl | (simp; done) | (simp [*]; done)), H', ⟨Nat.le_refl _⟩, ⟨qR HO_11.out⟩, ⟨qN HO_836000.out⟩, ⟨qR HO_836001.out⟩, ⟨qK BK831.out⟩, ⟨qK BK835.out⟩, ⟨qB2 GE831.out GE835.out HB.out⟩⟩
             case round =>
              clear H';try clear c1
              try clear c2
              try clear p2
              try clear c3
              try clear c4
              try clear p4
              try clear q4
              try clear hx4
              try clear qi4
              try clear hf4
              try clear c5
              try clear p6
              try clear c8
              try clear p8
              try clear q8
              try clear hx8
              try clear c9
              try clear c9b0
              try clear c11
              try clear c11b0
              try clear c12
              try clear c13
              try clear c14
              try clear c15
              try clear c17
              try clear c22
              try clear c23
              try clear c23b0
              try clear c24
              try clear c24b0
              try clear c25
              try clear c26
              try clear c31
              try clear c36
              try clear c36b0
              try clear c36b1
              try clear c37
              try clear c37b0
              try clear c37b1
              try clear c39
              try clear c43
              try clear c44
              try clear c44b0
              try clear c45
              try clear c45b0
              try clear c45b1
              try clear c46
              try clear c46b0
              try clear c46b1
              try clear p47
              try clear q47
              try clear hx47
              try clear qi47
              try clear hf47
              try clear c48
              try clear c52
              try clear c54
              try clear c54b0
              try clear c55
              try clear hcz32_0
              try clear hcz32_1
              try clear hcz35_0
              try clear hcz35_1
              try clear hcz40_0
              try clear hcz40_1
              try clear hcz49_0
              try clear hcz49_1
              try clear hcz53_0
              try clear hcz53_1
              try clear hcz56_0
              try clear hcz56_1
              try clear hfz32_0
              try clear hfz32_1
              try clear hfz35_0
              try clear hfz35_1
              try clear hfz40_0
              try clear hfz40_1
              try clear hfz49_0
              try clear hfz49_1
              try clear hfz53_0
              try clear hfz53_1
              try clear hfz56_0
              try clear hfz56_1
              try clear hx47_0
              try clear hx836_0
              try clear hx837_0
              try clear hx839_0
              try clear p2
              try clear p4
              try clear p47
              try clear p6
              try clear p8
              try clear p836
              try clear p837
              try clear p839
              try clear q4
              try clear q47
              try clear q8
              try clear q836
              try clear q837
              try clear q839
              obtain ⟨x13_4, x14_4, x15_4, x17_4, rfl, rfl, rfl, rfl, HA, HK4, HO_11, HO_836000, HO_836001, BK831, BK835, HB⟩ := hrel;cases gk with
              | zero => exact absurd HA.out (by simp [arboristref11_Build.l4])
              | succ k4 =>
               have H := HA.out;clear HA;simp only [arboristref11_Build.l4] at H
               by_cases c57 : x17_4 < (x836000_1.length : Int)
               ·rw [if_pos c57] at H
                have c57b0 : decide (x17_4 < (x836000_1.length : Int)) = true := decide_eq_true c57;clear c57;have HC58 := Aside0.mk H;clear H;have hnb59 := NB835_831.out;have hnc59 := NB831_835.out;have hcz60_0 : wr.cell? ⟨gb835, 0, none⟩ = some (.slice Ao41 x836000_1.length co41) := (blk_cell BK835.out 0).trans rfl;have hcz60_1 : wr.cell? ⟨gb835, 1, none⟩ = some (u836001) := (blk_cell BK835.out 1).trans rfl;have hfz60_0 := blk_frozen BK835.out 0;have hfz60_1 := blk_frozen BK835.out 1;go_upto_region 30 with (fail)
                go_cut [102] (fun v102 wc => ∃ (kq : Nat) (x102_57 : Bool), v102 = .bool x102_57 ∧ Aside0 (arboristref11_Build.j5 kq x11_2 x12_2 x13_4 x14_4 x15_4 x16_3 x17_4 x102_57 x836000_1 x836001_2 = some (r1, r2)) ∧ Aside0 (kq ≤ k4) ∧ Aside0 (Kd.R Kd.bool 4 wc w.heap.size (fun k_ => (w.heap.size ≤ k_)) v847 x11_2) ∧ Aside0 (Kd.N (Kd.slice 3 (Kd.int .i64)) 23 wc w.heap.size (fun k_ => (w.heap.size ≤ k_) ∧ some k_ ≠ (v847 : Value).ownBlock ∧ some k_ ≠ (u836001 : Value).ownBlock ∧ k_ ≠ gb831 ∧ k_ ≠ gb835) (.slice Ao41 x836000_1.length co41) x836000_1) ∧ Aside0 (Kd.R (Kd.int .i64) 3 wc w.heap.size (fun k_ => (w.heap.size ≤ k_)) u836001 x836001_2) ∧ Aside0 (wc.heap[gb831]? = some (.cells #[(.slice none 0 0), (.slice none 0 0)] 25 (0, 0))) ∧ Aside0 (wc.heap[gb835]? = some (.cells #[(.slice Ao41 x836000_1.length co41), u836001] 25 (0, 0))) ∧ Aside0 (Below w.heap.size w wc))
                case first =>
                 have H := HC58.out;clear HC58;by_cases c61 : 0 ≤ x16_3
                 ·rw [if_pos c61] at H
                  have c61b0 : decide (0 ≤ x16_3) = true := decide_eq_true c61;clear c61;(first | rw [c61b0] | (simp only [i64_w, i32_w]; rw [c61b0]) | skip);by_cases c62 : x16_3 < (x11_2.length : Int)
                  ·rw [if_pos c62] at H
                   have c62b0 : decide (x16_3 < (x11_2.length : Int)) = true := decide_eq_true c62;clear c62;obtain ⟨bq63, hbq63⟩ : ∃ b_ : Bool, b_ = (rdOf false x11_2 x16_3) := ⟨_, rfl⟩;replace H : (if bq63 = true then (arboristref11_Build.j5 k4 x11_2 x12_2 x13_4 x14_4 x15_4 x16_3 x17_4 true x836000_1 x836001_2) else (if 0 ≤ x17_4 then (if x17_4 < (x11_2.length : Int) then (arboristref11_Build.j5 k4 x11_2 x12_2 x13_4 x14_4 x15_4 x16_3 x17_4 (!(rdOf false x11_2 x17_4)) x836000_1 x836001_2) else (none)) else (none))) = some (r1, r2) := by rw [← hbq63] at H; exact H
                   have Nbq63 := Aside0.mk hbq63;clear hbq63;by_cases c64 : bq63 = true
                   ·subst c64;replace H : (arboristref11_Build.j5 k4 x11_2 x12_2 x13_4 x14_4 x15_4 x16_3 x17_4 true x836000_1 x836001_2) = some (r1, r2) := by rw [if_pos rfl] at H; exact H
                    have H' := Aside0.mk H;clear H;obtain ⟨Ao65, co65, eo65⟩ := Kd.R_slice HO_11.out;subst eo65;have p852 : 0 ≤ (x16_3 : Int) := of_decide_eq_true qA;have q852 : x16_3 < (x11_2.length : Int) := of_decide_eq_true qA;obtain ⟨ad852, e852, hx852_0⟩ := Kd.at_bool (Kd.R_reads' HO_11.out).2.2 x16_3 p852 q852;(try rw [← Nbq63.out] at hx852_0);cases e852
                    replace p852 := eq_true p852;replace q852 := eq_true q852;go_wp2
                    go_meet
                    case rel => exact ⟨_, (true), (by first | rfl | (simp; done) | (simp [*]; done)), H', ⟨by have := HK1.out; have := HK2.out; have := HK3.out; have := HK4.out; first | omega | exact Nat.le_refl _⟩, ⟨qR HO_11.out⟩, ⟨qN HO_836000.out⟩, ⟨qR HO_836001.out⟩, ⟨qK BK831.out⟩, ⟨qK BK835.out⟩, ⟨qB2 GE831.out GE835.out HB.out⟩⟩
                   ·replace c64 := Bool.eq_false_iff.mpr c64;subst c64;replace H : (if 0 ≤ x17_4 then (if x17_4 < (x11_2.length : Int) then (arboristref11_Build.j5 k4 x11_2 x12_2 x13_4 x14_4 x15_4 x16_3 x17_4 (!(rdOf false x11_2 x17_4)) x836000_1 x836001_2) else (none)) else (none)) = some (r1, r2) := by rw [if_neg (show ¬ (false = true) by decide)] at H; exact H
                    by_cases c66 : 0 ≤ x17_4
                    ·rw [if_pos c66] at H
                     have c66b0 : decide (0 ≤ x17_4) = true := decide_eq_true c66;clear c66;by_cases c67 : x17_4 < (x11_2.length : Int)
                     ·rw [if_pos c67] at H
                      have c67b0 : decide (x17_4 < (x11_2.length : Int)) = true := decide_eq_true c67;clear c67;have H' := Aside0.mk H;clear H;obtain ⟨Ao68, co68, eo68⟩ := Kd.R_slice HO_11.out;subst eo68;have p852 : 0 ≤ (x16_3 : Int) := of_decide_eq_true qA;have q852 : x16_3 < (x11_2.length : Int) := of_decide_eq_true qA;obtain ⟨ad852, e852, hx852_0⟩ := Kd.at_bool (Kd.R_reads' HO_11.out).2.2 x16_3 p852 q852;(try rw [← Nbq63.out] at hx852_0);cases e852
                      replace p852 := eq_true p852;replace q852 := eq_true q852;have p853 : 0 ≤ (x17_4 : Int) := of_decide_eq_true qA;have q853 : x17_4 < (x11_2.length : Int) := of_decide_eq_true qA;obtain ⟨ad853, e853, hx853_0⟩ := Kd.at_bool (Kd.R_reads' HO_11.out).2.2 x17_4 p853 q853;(try rw [← Nbq63.out] at hx853_0);obtain rfl : ad852 = ad853 := (by injection e853);replace p853 := eq_true p853;replace q853 := eq_true q853;go_wp2
                      go_meet
                      case rel => exact ⟨_, (!(rdOf false x11_2 x17_4)), (by first | rfl | (simp; done) | (simp [*]; done)), H', ⟨by have := HK1.out; have := HK2.out; have := HK3.out; have := HK4.out; first | omega | exact Nat.le_refl _⟩, ⟨qR HO_11.out⟩, ⟨qN HO_836000.out⟩, ⟨qR HO_836001.out⟩, ⟨qK BK831.out⟩, ⟨qK BK835.out⟩, ⟨qB2 GE831.out GE835.out HB.out⟩⟩
                     ·rw [if_neg c67] at H
                      exact absurd H (by simp)
                    ·rw [if_neg c66] at H
                     exact absurd H (by simp)
                  ·rw [if_neg c62] at H
                   exact absurd H (by simp)
                 ·rw [if_neg c61] at H
                  exact absurd H (by simp)
                case rest =>
                 clear HC58;try clear c1
                 try clear c2
                 try clear p2
                 try clear c3
                 try clear c4
                 try clear p4
                 try clear q4
                 try clear hx4
                 try clear qi4
                 try clear hf4
                 try clear c5
                 try clear c6
                 try clear p6
                 try clear q6
                 try clear c8
                 try clear p8
                 try clear q8
                 try clear hx8
                 try clear c9
                 try clear c9b0
                 try clear c11
                 try clear c11b0
                 try clear c12
                 try clear c13
                 try clear c14
                 try clear c15
                 try clear c17
                 try clear c22
                 try clear c23
                 try clear c23b0
                 try clear c24
                 try clear c24b0
                 try clear c25
                 try clear c26
                 try clear c31
                 try clear c36
                 try clear c36b0
                 try clear c36b1
                 try clear c37
                 try clear c37b0
                 try clear c37b1
                 try clear c39
                 try clear c43
                 try clear c44
                 try clear c44b0
                 try clear c45
                 try clear c45b0
                 try clear c45b1
                 try clear c46
                 try clear c46b0
                 try clear c46b1
                 try clear p47
                 try clear q47
                 try clear hx47
                 try clear qi47
                 try clear hf47
                 try clear c48
                 try clear c52
                 try clear c54
                 try clear c54b0
                 try clear c55
                 try clear c57
                 try clear c57b0
                 try clear c59
                 try clear c61
                 try clear c61b0
                 try clear c62
                 try clear c62b0
                 try clear q63
                 try clear c64
                 try clear p64
                 try clear c66
                 try clear c66b0
                 try clear c67
                 try clear c67b0
                 try clear hcz32_0
                 try clear hcz32_1
                 try clear hcz35_0
                 try clear hcz35_1
                 try clear hcz40_0
                 try clear hcz40_1
                 try clear hcz49_0
                 try clear hcz49_1
                 try clear hcz53_0
                 try clear hcz53_1
                 try clear hcz56_0
                 try clear hcz56_1
                 try clear hcz60_0
                 try clear hcz60_1
                 try clear hfz32_0
                 try clear hfz32_1
                 try clear hfz35_0
                 try clear hfz35_1
                 try clear hfz40_0
                 try clear hfz40_1
                 try clear hfz49_0
                 try clear hfz49_1
                 try clear hfz53_0
                 try clear hfz53_1
                 try clear hfz56_0
                 try clear hfz56_1
                 try clear hfz60_0
                 try clear hfz60_1
                 try clear hx47_0
                 try clear hx836_0
                 try clear hx837_0
                 try clear hx839_0
                 try clear hx852_0
                 try clear hx853_0
                 try clear p2
                 try clear p4
                 try clear p47
                 try clear p6
                 try clear p8
                 try clear p836
                 try clear p837
                 try clear p839
                 try clear p852
                 try clear p853
                 try clear q4
                 try clear q47
                 try clear q8
                 try clear q836
                 try clear q837
                 try clear q839
                 try clear q852
                 try clear q853
                 obtain ⟨kq, x102_57, rfl, HA, HJ57, HO_11, HO_836000, HO_836001, BK831, BK835, HB⟩ := hcut;cases kq with
                 | zero => exact absurd HA.out (by simp [arboristref11_Build.j5])
                 | succ kj57 =>
                  have H := HA.out;clear HA;simp only [arboristref11_Build.j5] at H
                  by_cases c69 : x102_57 = true
                  ·subst c69;replace H : (arboristref11_Build.l4 kj57 x11_2 x12_2 x13_4 x14_4 x15_4 x16_3 (wrap64 (x17_4 + 1)) x836000_1 x836001_2) = some (r1, r2) := by rw [if_pos rfl] at H; exact H
                   have H' := Aside0.mk H;clear H;go_wp2
                   go_roundg kj57
                   case measure => have := HK1.out; have := HK2.out; have := HK3.out; have := HK4.out; have := HJ57.out; omega
                   case rel => exact ⟨(x13_4), (x14_4), (x15_4), (wrap64 (x17_4 + 1)), (by first | rfl | (simp; done) | (simp [*]; done)), (by first | rfl | (simp; done) | (simp [*]; done)), (by first | rfl | (simp; done) | (simp [*]; done)), (by first | rfl | (simp; done) | (simp [*]; done)), H', ⟨by have := HK1.out; have := HK2.out; have := HK3.out; have := HK4.out; have := HJ57.out; omega⟩, ⟨qR HO_11.out⟩, ⟨qN HO_836000.out⟩, ⟨qR HO_836001.out⟩, ⟨qK BK831.out⟩, ⟨qK BK835.out⟩, ⟨qB2 GE831.out GE835.out HB.out⟩⟩
                  ·replace c69 := Bool.eq_false_iff.mpr c69;subst c69;replace H : (if 0 ≤ x16_3 then (if x16_3 < (x836000_1.length : Int) then (if 0 ≤ x17_4 then (if x17_4 < (x836000_1.length : Int) then ((arboristref01_Meet.f kj57 (rd_L1 x836000_1 x16_3) (rd_L1 x836000_1 x17_4)).bind fun t856 => (if (t856.length : Int) > x15_4 then (arboristref11_Build.l4 kj57 x11_2 x12_2 x16_3 x17_4 (t856.length : Int) x16_3 (wrap64 (x17_4 + 1)) x836000_1 x836001_2) else (arboristref11_Build.l4 kj57 x11_2 x12_2 x13_4 x14_4 x15_4 x16_3 (wrap64 (x17_4 + 1)) x836000_1 x836001_2))) else (none)) else (none)) else (none)) else (none)) = some (r1, r2) := by rw [if_neg (show ¬ (false = true) by decide)] at H; exact H
                   by_cases c70 : 0 ≤ x16_3
                   ·rw [if_pos c70] at H
                    have c70b0 : decide (0 ≤ x16_3) = true := decide_eq_true c70;clear c70;by_cases c71 : x16_3 < (x836000_1.length : Int)
                    ·rw [if_pos c71] at H
                     have c71b0 : decide (x16_3 < (x836000_1.length : Int)) = true := decide_eq_true c71;clear c71;by_cases c72 : 0 ≤ x17_4
                     ·rw [if_pos c72] at H
                      have c72b0 : decide (0 ≤ x17_4) = true := decide_eq_true c72;clear c72;by_cases c73 : x17_4 < (x836000_1.length : Int)
                      ·rw [if_pos c73] at H
                       have c73b0 : decide (x17_4 < (x836000_1.length : Int)) = true := decide_eq_true c73;clear c73;replace H := Option.bind_eq_some_iff.mp H;obtain ⟨t856, A740, H⟩ := H;(try dsimp only at H);have A74 := Aside0.mk A740;clear A740;by_cases c75 : (t856.length : Int) > x15_4
                       ·rw [if_pos c75] at H
                        have c75b0 : decide (x15_4 < (t856.length : Int)) = true := decide_eq_true c75;clear c75;have H' := Aside0.mk H;clear H;try go_wp2
                        replace HO_11 := Aside0.mk (Kd.R_drew HO_11.out);replace HO_836000 := Aside0.mk (Kd.N_drew HO_836000.out);replace HO_836001 := Aside0.mk (Kd.R_drew HO_836001.out);replace BK831 := Aside0.mk (blk_drew BK831.out);replace BK835 := Aside0.mk (blk_drew BK835.out);replace HB := Aside0.mk (below_drew1 HB.out);have p854 : 0 ≤ (x16_3 : Int) := of_decide_eq_true qA;have q854 : x16_3 < (x836000_1.length : Int) := of_decide_eq_true qA;obtain ⟨ad854, A854_0, c854_0, e854, hx854_0, hl854_0, hi854_0⟩ := at_L1 (Kd.N_reads' HO_836000.out).2.2 x16_3 p854 q854;cases e854
                        obtain ⟨ce854, hce854, hMe854, hcc854⟩ := Kd.N_get HO_836000.out [] x16_3 p854 (by first | exact q854 | exact of_decide_eq_true qA | (have e_ := (Kd.N_reads' HO_836000.out).1; omega));obtain ⟨ua854_0, uc854_0, rfl, ul854_0, ge854_0⟩ := Kd.FK_slice_open hMe854;have hv854_0 := hcc854 0 _ rfl;rw [Nat.add_zero, show ((Kd.slice 3 (Kd.int .i64))).sz = 1 from rfl, Nat.mul_one] at hv854_0
                        replace hv854_0 := Option.some.inj (hv854_0.symm.trans hx854_0);injection hv854_0 with hva_ hvn_ hvc_
                        rw [hva_] at ge854_0
                        rw [hvc_] at ul854_0
                        have HL854_0 := Aside0.mk (show Kd.V (Kd.int .i64) 3 _ w.heap.size _ _ (rd_L1 x836000_1 x16_3) from Kd.V_mk ul854_0 ge854_0);clear hva_ hvn_ hvc_ ge854_0 ul854_0;clear hcc854 hce854;have HR854_0 := Aside0.mk hi854_0;have HC854_0 := Aside0.mk hl854_0;clear hi854_0 hl854_0;replace p854 := eq_true p854;replace q854 := eq_true q854;have p855 : 0 ≤ (x17_4 : Int) := of_decide_eq_true qA;have q855 : x17_4 < (x836000_1.length : Int) := of_decide_eq_true qA;obtain ⟨ad855, A855_0, c855_0, e855, hx855_0, hl855_0, hi855_0⟩ := at_L1 (Kd.N_reads' HO_836000.out).2.2 x17_4 p855 q855;obtain rfl : ad854 = ad855 := (by injection e855);obtain ⟨ce855, hce855, hMe855, hcc855⟩ := Kd.N_get HO_836000.out [] x17_4 p855 (by first | exact q855 | exact of_decide_eq_true qA | (have e_ := (Kd.N_reads' HO_836000.out).1; omega));obtain ⟨ua855_0, uc855_0, rfl, ul855_0, ge855_0⟩ := Kd.FK_slice_open hMe855;have hv855_0 := hcc855 0 _ rfl;rw [Nat.add_zero, show ((Kd.slice 3 (Kd.int .i64))).sz = 1 from rfl, Nat.mul_one] at hv855_0
                        replace hv855_0 := Option.some.inj (hv855_0.symm.trans hx855_0);injection hv855_0 with hva_ hvn_ hvc_
                        rw [hva_] at ge855_0
                        rw [hvc_] at ul855_0
                        have HL855_0 := Aside0.mk (show Kd.V (Kd.int .i64) 3 _ w.heap.size _ _ (rd_L1 x836000_1 x17_4) from Kd.V_mk ul855_0 ge855_0);clear hva_ hvn_ hvc_ ge855_0 ul855_0;clear hcc855 hce855;have HR855_0 := Aside0.mk hi855_0;have HC855_0 := Aside0.mk hl855_0;clear hi855_0 hl855_0;replace p855 := eq_true p855;replace q855 := eq_true q855;refine start_ (n := 13) (S := fun w' => w'.cell? ⟨gb835, 0, none⟩ = some (.slice (some ad854) x836000_1.length co41) ∧ w'.cell? ⟨gb835, 1, none⟩ = some (u836001) ∧ w'.cell? (ad854.add (x16_3).toNat) = some (.slice A854_0 (rd_L1 x836000_1 x16_3).length c854_0) ∧ w'.cell? (ad854.add (x17_4).toNat) = some (.slice A855_0 (rd_L1 x836000_1 x17_4).length c855_0)) (ds := []) (bs 13 0) (by kernel_rfl) rfl rfl ⟨(blk_cell BK835.out 0).trans rfl, (blk_cell BK835.out 1).trans rfl, hx854_0, hx855_0⟩ (fun hHeld => ?_); refine with_tabW arboristref11_Build.tab31 arboristref11_Build.bits31 (fun HT_ HW_ => ?_)
                        generalize wc.drew = w76 at HO_11 HO_836000 HO_836001 BK831 BK835 HB HL854_0 HL855_0 HR854_0 HR855_0 hx854_0 hx855_0 hHeld ⊢
                        refine qP 0 (some 103) (bs 13 1) HT_.out ?_;refine qP 2 (some 105) (bs 13 5) HT_.out ?_;refine qP 5 (some 108) (bs 13 37) HT_.out ?_;refine qP 7 (some 110) (bs 13 165) HT_.out ?_;refine take_ (i := 1) (N := some 104) (v := ?_) (a' := ?_) (bs 13 167) rfl rfl (take_ofW HT_.out HW_.out (by kernel_rfl)) (fun _ _ _ h => h) (Or.inl ⟨by rfl, ?_⟩) hHeld ?_ ?_;rotate_left
                        ·rintro w' ⟨s0, s1, s2, s3⟩
                         go_simp
                         with_reducible rfl
                        rotate_left; (simp only [Act.put, List.setIfInBounds_toArray, List.set_cons_zero, List.set_cons_succ, i64_w, i32_w]; rfl)
                        refine qP 3 (some 106) (bs 13 175) HT_.out ?_;refine take_ (i := 4) (N := some 107) (v := ?_) (a' := ?_) (bs 13 191) rfl rfl (take_ofW HT_.out HW_.out (by kernel_rfl)) (fun _ _ _ h => h) (Or.inl ⟨by rfl, ?_⟩) hHeld ?_ ?_;rotate_left
                        ·rintro w' ⟨s0, s1, s2, s3⟩
                         go_simp
                         with_reducible rfl
                        rotate_left; (simp only [Act.put, List.setIfInBounds_toArray, List.set_cons_zero, List.set_cons_succ, i64_w, i32_w]; rfl)
                        refine take_ (i := 6) (N := some 109) (v := ?_) (a' := ?_) (bs 13 255) rfl rfl (take_ofW HT_.out HW_.out (by kernel_rfl)) (fun _ _ _ h => h) (Or.inl ⟨by rfl, ?_⟩) hHeld ?_ ?_;rotate_left
                        ·rintro w' ⟨s0, s1, s2, s3⟩
                         go_simp
                         with_reducible rfl
                        rotate_left; (simp only [Act.put, List.setIfInBounds_toArray, List.set_cons_zero, List.set_cons_succ, i64_w, i32_w]; rfl)
                        refine qP 8 (some 111) (bs 13 511) HT_.out ?_;refine take_ (i := 9) (N := some 112) (v := ?_) (a' := ?_) (bs 13 1023) rfl rfl (take_ofW HT_.out HW_.out (by kernel_rfl)) (fun _ _ _ h => h) (Or.inl ⟨by rfl, ?_⟩) hHeld ?_ ?_;rotate_left
                        ·rintro w' ⟨s0, s1, s2, s3⟩
                         go_simp
                         with_reducible rfl
                        rotate_left; (simp only [Act.put, List.setIfInBounds_toArray, List.set_cons_zero, List.set_cons_succ, i64_w, i32_w]; rfl)
                        refine one_ (i := 10) (N := some 113) (bs 13 2047) rfl rfl (one_of HT_.out (by kernel_rfl)) (by decide) (fun K hK => ?_);refine goes_ Try.func56 (by kernel_rfl) rfl #[.slice A854_0 (rd_L1 x836000_1 x16_3).length c854_0, .slice A855_0 (rd_L1 x836000_1 x17_4).length c855_0] (by rfl) rfl rfl qM ?_;with_reducible refine (arboristref01_Meet.calls kj57 _ _ (rd_L1 x836000_1 x16_3) _ _ (rd_L1 x836000_1 x17_4) t856 _ ?side1 ?side2 ?side3 ?side4 A74.out).mono ?_
                        (case side1 => exact qC HR854_0.out);(case side2 => exact HC854_0.out);(case side3 => exact qC HR855_0.out);(case side4 => exact HC855_0.out);rintro e w77 ⟨v857, rfl, ho0, hb⟩
                        have HS2_ := (hb.cell (World.block_lt_of_cell? _ _ (hHeld.2.2.1))).trans (hHeld.2.2.1);have HS3_ := (hb.cell (World.block_lt_of_cell? _ _ (hHeld.2.2.2))).trans (hHeld.2.2.2);refine ⟨_, rfl, ?_⟩;have HO858 := Aside0.mk (Kd.R_lower (Kd.R_new' (Kd.R_newM (M := fun k_ => (w.heap.size ≤ k_)) ho0 (below_size (qB2 GE831.out GE835.out HB.out)) (fun k_ h_ => h_)) (Kd.R_lt (qR HO_836001.out))) (below_size (qB2 GE831.out GE835.out HB.out)));replace HO_11 := Aside0.mk (Kd.R_below (qR HO_11.out) hb);replace HO_836000 := Aside0.mk (Kd.N_elder' (qN HO_836000.out) (Kd.R_base ho0) hb);replace HO_836001 := Aside0.mk (Kd.R_elder' (qR HO_836001.out) (Kd.R_base ho0) hb);replace HL854_0 := Aside0.mk (Kd.V_elder' (by (with_reducible repeat (first | apply Kd.V_alloc | apply Kd.V_drewN | apply Kd.V_drew)); exact HL854_0.out) (Kd.R_base ho0) hb);replace HL855_0 := Aside0.mk (Kd.V_elder' (by (with_reducible repeat (first | apply Kd.V_alloc | apply Kd.V_drewN | apply Kd.V_drew)); exact HL855_0.out) (Kd.R_base ho0) hb);replace BK831 := Aside0.mk (blk_below (g := gb831) (o := .cells #[.slice none 0 0, .slice none 0 0] 25 (0, 0)) (qK BK831.out) hb);replace BK835 := Aside0.mk (blk_below (g := gb835) (o := .cells #[.slice (some ad854) x836000_1.length co41, u836001] 25 (0, 0)) (qK BK835.out) hb);replace HR854_0 := Aside0.mk (Kd.C_below (by repeat (first | (with_reducible exact HR854_0.out) | (with_reducible refine Kd.C_alloc ?_ _) | (with_reducible refine Kd.C_drewN ?_ _) | (with_reducible refine Kd.C_drew ?_) | exact HR854_0.out)) hb);replace HR855_0 := Aside0.mk (Kd.C_below (by repeat (first | (with_reducible exact HR855_0.out) | (with_reducible refine Kd.C_alloc ?_ _) | (with_reducible refine Kd.C_drewN ?_ _) | (with_reducible refine Kd.C_drew ?_) | exact HR855_0.out)) hb);replace HB := Aside0.mk (below_step (qB2 GE831.out GE835.out HB.out) hb);(try clear hb);(try clear hb2);(try clear hk);(try clear hi);(try clear ho0);obtain ⟨Ao78, co78, eo78⟩ := Kd.R_slice HO858.out;(first | subst eo78 | (injection eo78 with f1_ f2_ f3_; have f4_ := f1_.symm; have f5_ := f3_.symm; clear f1_ f2_ f3_; subst f4_; subst f5_));refine hK.out _ _ ⟨(blk_cell BK835.out 0).trans rfl, (blk_cell BK835.out 1).trans rfl, HS2_, HS3_⟩ (fun hHeld => ?_);clear hK K;refine norm_ (a' := ?_) ?_ ?_;rotate_left
                        ·show Act.put _ (some 113) _ = _
                         simp only [Act.put, List.setIfInBounds_toArray, List.set_cons_zero, List.set_cons_succ, i64_w, i32_w]
                         rfl
                        refine qP 11 (some 114) (bs 13 4095) HT_.out ?_;refine qP 12 (some 18) (bs 13 8191) HT_.out ?_;refine done_ (done_of HT_.out (by kernel_rfl)) ?_;try go_wp2
                        go_roundg kj57
                        case measure => have := HK1.out; have := HK2.out; have := HK3.out; have := HK4.out; have := HJ57.out; omega
                        case rel => exact ⟨(x16_3), (x17_4), ((t856.length : Int)), (wrap64 (x17_4 + 1)), (by first | rfl | (simp; done) | (simp [*]; done)), (by first | rfl | (simp; done) | (simp [*]; done)), (by first | rfl | (simp; done) | (simp [*]; done)), (by first | rfl | (simp; done) | (simp [*]; done)), H', ⟨by have := HK1.out; have := HK2.out; have := HK3.out; have := HK4.out; have := HJ57.out; omega⟩, ⟨qR HO_11.out⟩, ⟨by (with_reducible repeat (first | apply Kd.N_alloc | apply Kd.N_drewN | apply Kd.N_drew)); exact Kd.N_mono HO_836000.out (fun _ hk => ⟨hk.1.1, ⟨hk.1.2.1, ⟨hk.1.2.2.1, ⟨hk.1.2.2.2.1, hk.1.2.2.2.2⟩⟩⟩⟩)⟩, ⟨by (with_reducible repeat (first | apply Kd.R_alloc | apply Kd.R_drewN | apply Kd.R_drew)); exact Kd.R_mono HO_836001.out (fun _ hk => hk.1)⟩, ⟨qK BK831.out⟩, ⟨qK BK835.out⟩, ⟨qB2 GE831.out GE835.out HB.out⟩⟩
                       ·rw [if_neg c75] at H
                        have c75b0 : decide (x15_4 < (t856.length : Int)) = false := decide_eq_false c75;clear c75;have H' := Aside0.mk H;clear H;try go_wp2
                        replace HO_11 := Aside0.mk (Kd.R_drew HO_11.out);replace HO_836000 := Aside0.mk (Kd.N_drew HO_836000.out);replace HO_836001 := Aside0.mk (Kd.R_drew HO_836001.out);replace BK831 := Aside0.mk (blk_drew BK831.out);replace BK835 := Aside0.mk (blk_drew BK835.out);replace HB := Aside0.mk (below_drew1 HB.out);have p854 : 0 ≤ (x16_3 : Int) := of_decide_eq_true qA;have q854 : x16_3 < (x836000_1.length : Int) := of_decide_eq_true qA;obtain ⟨ad854, A854_0, c854_0, e854, hx854_0, hl854_0, hi854_0⟩ := at_L1 (Kd.N_reads' HO_836000.out).2.2 x16_3 p854 q854;cases e854
                        obtain ⟨ce854, hce854, hMe854, hcc854⟩ := Kd.N_get HO_836000.out [] x16_3 p854 (by first | exact q854 | exact of_decide_eq_true qA | (have e_ := (Kd.N_reads' HO_836000.out).1; omega));obtain ⟨ua854_0, uc854_0, rfl, ul854_0, ge854_0⟩ := Kd.FK_slice_open hMe854;have hv854_0 := hcc854 0 _ rfl;rw [Nat.add_zero, show ((Kd.slice 3 (Kd.int .i64))).sz = 1 from rfl, Nat.mul_one] at hv854_0
                        replace hv854_0 := Option.some.inj (hv854_0.symm.trans hx854_0);injection hv854_0 with hva_ hvn_ hvc_
                        rw [hva_] at ge854_0
                        rw [hvc_] at ul854_0
                        have HL854_0 := Aside0.mk (show Kd.V (Kd.int .i64) 3 _ w.heap.size _ _ (rd_L1 x836000_1 x16_3) from Kd.V_mk ul854_0 ge854_0);clear hva_ hvn_ hvc_ ge854_0 ul854_0;clear hcc854 hce854;have HR854_0 := Aside0.mk hi854_0;have HC854_0 := Aside0.mk hl854_0;clear hi854_0 hl854_0;replace p854 := eq_true p854;replace q854 := eq_true q854;have p855 : 0 ≤ (x17_4 : Int) := of_decide_eq_true qA;have q855 : x17_4 < (x836000_1.length : Int) := of_decide_eq_true qA;obtain ⟨ad855, A855_0, c855_0, e855, hx855_0, hl855_0, hi855_0⟩ := at_L1 (Kd.N_reads' HO_836000.out).2.2 x17_4 p855 q855;obtain rfl : ad854 = ad855 := (by injection e855);obtain ⟨ce855, hce855, hMe855, hcc855⟩ := Kd.N_get HO_836000.out [] x17_4 p855 (by first | exact q855 | exact of_decide_eq_true qA | (have e_ := (Kd.N_reads' HO_836000.out).1; omega));obtain ⟨ua855_0, uc855_0, rfl, ul855_0, ge855_0⟩ := Kd.FK_slice_open hMe855;have hv855_0 := hcc855 0 _ rfl;rw [Nat.add_zero, show ((Kd.slice 3 (Kd.int .i64))).sz = 1 from rfl, Nat.mul_one] at hv855_0
                        replace hv855_0 := Option.some.inj (hv855_0.symm.trans hx855_0);injection hv855_0 with hva_ hvn_ hvc_
                        rw [hva_] at ge855_0
                        rw [hvc_] at ul855_0
                        have HL855_0 := Aside0.mk (show Kd.V (Kd.int .i64) 3 _ w.heap.size _ _ (rd_L1 x836000_1 x17_4) from Kd.V_mk ul855_0 ge855_0);clear hva_ hvn_ hvc_ ge855_0 ul855_0;clear hcc855 hce855;have HR855_0 := Aside0.mk hi855_0;have HC855_0 := Aside0.mk hl855_0;clear hi855_0 hl855_0;replace p855 := eq_true p855;replace q855 := eq_true q855;refine start_ (n := 13) (S := fun w' => w'.cell? ⟨gb835, 0, none⟩ = some (.slice (some ad854) x836000_1.length co41) ∧ w'.cell? ⟨gb835, 1, none⟩ = some (u836001) ∧ w'.cell? (ad854.add (x16_3).toNat) = some (.slice A854_0 (rd_L1 x836000_1 x16_3).length c854_0) ∧ w'.cell? (ad854.add (x17_4).toNat) = some (.slice A855_0 (rd_L1 x836000_1 x17_4).length c855_0)) (ds := []) (bs 13 0) (by kernel_rfl) rfl rfl ⟨(blk_cell BK835.out 0).trans rfl, (blk_cell BK835.out 1).trans rfl, hx854_0, hx855_0⟩ (fun hHeld => ?_); refine with_tabW arboristref11_Build.tab31 arboristref11_Build.bits31 (fun HT_ HW_ => ?_)
                        generalize wc.drew = w79 at HO_11 HO_836000 HO_836001 BK831 BK835 HB HL854_0 HL855_0 HR854_0 HR855_0 hx854_0 hx855_0 hHeld ⊢
                        refine qP 0 (some 103) (bs 13 1) HT_.out ?_;refine qP 2 (some 105) (bs 13 5) HT_.out ?_;refine qP 5 (some 108) (bs 13 37) HT_.out ?_;refine qP 7 (some 110) (bs 13 165) HT_.out ?_;refine take_ (i := 1) (N := some 104) (v := ?_) (a' := ?_) (bs 13 167) rfl rfl (take_ofW HT_.out HW_.out (by kernel_rfl)) (fun _ _ _ h => h) (Or.inl ⟨by rfl, ?_⟩) hHeld ?_ ?_;rotate_left
                        ·rintro w' ⟨s0, s1, s2, s3⟩
                         go_simp
                         with_reducible rfl
                        rotate_left; (simp only [Act.put, List.setIfInBounds_toArray, List.set_cons_zero, List.set_cons_succ, i64_w, i32_w]; rfl)
                        refine qP 3 (some 106) (bs 13 175) HT_.out ?_;refine take_ (i := 4) (N := some 107) (v := ?_) (a' := ?_) (bs 13 191) rfl rfl (take_ofW HT_.out HW_.out (by kernel_rfl)) (fun _ _ _ h => h) (Or.inl ⟨by rfl, ?_⟩) hHeld ?_ ?_;rotate_left
                        ·rintro w' ⟨s0, s1, s2, s3⟩
                         go_simp
                         with_reducible rfl
                        rotate_left; (simp only [Act.put, List.setIfInBounds_toArray, List.set_cons_zero, List.set_cons_succ, i64_w, i32_w]; rfl)
                        refine take_ (i := 6) (N := some 109) (v := ?_) (a' := ?_) (bs 13 255) rfl rfl (take_ofW HT_.out HW_.out (by kernel_rfl)) (fun _ _ _ h => h) (Or.inl ⟨by rfl, ?_⟩) hHeld ?_ ?_;rotate_left
                        ·rintro w' ⟨s0, s1, s2, s3⟩
                         go_simp
                         with_reducible rfl
                        rotate_left; (simp only [Act.put, List.setIfInBounds_toArray, List.set_cons_zero, List.set_cons_succ, i64_w, i32_w]; rfl)
                        refine qP 8 (some 111) (bs 13 511) HT_.out ?_;refine take_ (i := 9) (N := some 112) (v := ?_) (a' := ?_) (bs 13 1023) rfl rfl (take_ofW HT_.out HW_.out (by kernel_rfl)) (fun _ _ _ h => h) (Or.inl ⟨by rfl, ?_⟩) hHeld ?_ ?_;rotate_left
                        ·rintro w' ⟨s0, s1, s2, s3⟩
                         go_simp
                         with_reducible rfl
                        rotate_left; (simp only [Act.put, List.setIfInBounds_toArray, List.set_cons_zero, List.set_cons_succ, i64_w, i32_w]; rfl)
                        refine one_ (i := 10) (N := some 113) (bs 13 2047) rfl rfl (one_of HT_.out (by kernel_rfl)) (by decide) (fun K hK => ?_);refine goes_ Try.func56 (by kernel_rfl) rfl #[.slice A854_0 (rd_L1 x836000_1 x16_3).length c854_0, .slice A855_0 (rd_L1 x836000_1 x17_4).length c855_0] (by rfl) rfl rfl qM ?_;with_reducible refine (arboristref01_Meet.calls kj57 _ _ (rd_L1 x836000_1 x16_3) _ _ (rd_L1 x836000_1 x17_4) t856 _ ?side1 ?side2 ?side3 ?side4 A74.out).mono ?_
                        (case side1 => exact qC HR854_0.out);(case side2 => exact HC854_0.out);(case side3 => exact qC HR855_0.out);(case side4 => exact HC855_0.out);rintro e w80 ⟨v857, rfl, ho0, hb⟩
                        have HS2_ := (hb.cell (World.block_lt_of_cell? _ _ (hHeld.2.2.1))).trans (hHeld.2.2.1);have HS3_ := (hb.cell (World.block_lt_of_cell? _ _ (hHeld.2.2.2))).trans (hHeld.2.2.2);refine ⟨_, rfl, ?_⟩;have HO858 := Aside0.mk (Kd.R_lower (Kd.R_new' (Kd.R_newM (M := fun k_ => (w.heap.size ≤ k_)) ho0 (below_size (qB2 GE831.out GE835.out HB.out)) (fun k_ h_ => h_)) (Kd.R_lt (qR HO_836001.out))) (below_size (qB2 GE831.out GE835.out HB.out)));replace HO_11 := Aside0.mk (Kd.R_below (qR HO_11.out) hb);replace HO_836000 := Aside0.mk (Kd.N_elder' (qN HO_836000.out) (Kd.R_base ho0) hb);replace HO_836001 := Aside0.mk (Kd.R_elder' (qR HO_836001.out) (Kd.R_base ho0) hb);replace HL854_0 := Aside0.mk (Kd.V_elder' (by (with_reducible repeat (first | apply Kd.V_alloc | apply Kd.V_drewN | apply Kd.V_drew)); exact HL854_0.out) (Kd.R_base ho0) hb);replace HL855_0 := Aside0.mk (Kd.V_elder' (by (with_reducible repeat (first | apply Kd.V_alloc | apply Kd.V_drewN | apply Kd.V_drew)); exact HL855_0.out) (Kd.R_base ho0) hb);replace BK831 := Aside0.mk (blk_below (g := gb831) (o := .cells #[.slice none 0 0, .slice none 0 0] 25 (0, 0)) (qK BK831.out) hb);replace BK835 := Aside0.mk (blk_below (g := gb835) (o := .cells #[.slice (some ad854) x836000_1.length co41, u836001] 25 (0, 0)) (qK BK835.out) hb);replace HR854_0 := Aside0.mk (Kd.C_below (by repeat (first | (with_reducible exact HR854_0.out) | (with_reducible refine Kd.C_alloc ?_ _) | (with_reducible refine Kd.C_drewN ?_ _) | (with_reducible refine Kd.C_drew ?_) | exact HR854_0.out)) hb);replace HR855_0 := Aside0.mk (Kd.C_below (by repeat (first | (with_reducible exact HR855_0.out) | (with_reducible refine Kd.C_alloc ?_ _) | (with_reducible refine Kd.C_drewN ?_ _) | (with_reducible refine Kd.C_drew ?_) | exact HR855_0.out)) hb);replace HB := Aside0.mk (below_step (qB2 GE831.out GE835.out HB.out) hb);(try clear hb);(try clear hb2);(try clear hk);(try clear hi);(try clear ho0);obtain ⟨Ao81, co81, eo81⟩ := Kd.R_slice HO858.out;(first | subst eo81 | (injection eo81 with f1_ f2_ f3_; have f4_ := f1_.symm; have f5_ := f3_.symm; clear f1_ f2_ f3_; subst f4_; subst f5_));refine hK.out _ _ ⟨(blk_cell BK835.out 0).trans rfl, (blk_cell BK835.out 1).trans rfl, HS2_, HS3_⟩ (fun hHeld => ?_);clear hK K;refine norm_ (a' := ?_) ?_ ?_;rotate_left
                        ·show Act.put _ (some 113) _ = _
                         simp only [Act.put, List.setIfInBounds_toArray, List.set_cons_zero, List.set_cons_succ, i64_w, i32_w]
                         rfl
                        refine qP 11 (some 114) (bs 13 4095) HT_.out ?_;refine qP 12 (some 18) (bs 13 8191) HT_.out ?_;refine done_ (done_of HT_.out (by kernel_rfl)) ?_;try go_wp2
                        go_roundg kj57
                        case measure => have := HK1.out; have := HK2.out; have := HK3.out; have := HK4.out; have := HJ57.out; omega
                        case rel => exact ⟨(x13_4), (x14_4), (x15_4), (wrap64 (x17_4 + 1)), (by first | rfl | (simp; done) | (simp [*]; done)), (by first | rfl | (simp; done) | (simp [*]; done)), (by first | rfl | (simp; done) | (simp [*]; done)), (by first | rfl | (simp; done) | (simp [*]; done)), H', ⟨by have := HK1.out; have := HK2.out; have := HK3.out; have := HK4.out; have := HJ57.out; omega⟩, ⟨qR HO_11.out⟩, ⟨by (with_reducible repeat (first | apply Kd.N_alloc | apply Kd.N_drewN | apply Kd.N_drew)); exact Kd.N_mono HO_836000.out (fun _ hk => ⟨hk.1.1, ⟨hk.1.2.1, ⟨hk.1.2.2.1, ⟨hk.1.2.2.2.1, hk.1.2.2.2.2⟩⟩⟩⟩)⟩, ⟨by (with_reducible repeat (first | apply Kd.R_alloc | apply Kd.R_drewN | apply Kd.R_drew)); exact Kd.R_mono HO_836001.out (fun _ hk => hk.1)⟩, ⟨qK BK831.out⟩, ⟨qK BK835.out⟩, ⟨qB2 GE831.out GE835.out HB.out⟩⟩
                      ·rw [if_neg c73] at H
                       exact absurd H (by simp)
                     ·rw [if_neg c72] at H
                      exact absurd H (by simp)
                    ·rw [if_neg c71] at H
                     exact absurd H (by simp)
                   ·rw [if_neg c70] at H
                    exact absurd H (by simp)
               ·rw [if_neg c57] at H
                have c57b0 : decide (x17_4 < (x836000_1.length : Int)) = false := decide_eq_false c57;clear c57;have H' := Aside0.mk H;clear H;have hnb82 := NB835_831.out;have hnc82 := NB831_835.out;have hcz83_0 : wr.cell? ⟨gb835, 0, none⟩ = some (.slice Ao41 x836000_1.length co41) := (blk_cell BK835.out 0).trans rfl;have hcz83_1 : wr.cell? ⟨gb835, 1, none⟩ = some (u836001) := (blk_cell BK835.out 1).trans rfl;have hfz83_0 := blk_frozen BK835.out 0;have hfz83_1 := blk_frozen BK835.out 1;go_wp2
                go_roundg k4
                case measure => have := HK1.out; have := HK2.out; have := HK3.out; have := HK4.out; omega
                case rel => exact ⟨(x13_4), (x14_4), (x15_4), (wrap64 (x16_3 + 1)), (by first | rfl | (simp; done) | (simp [*]; done)), (by first | rfl | (simp; done) | (simp [*]; done)), (by first | rfl | (simp; done) | (simp [*]; done)), (by first | rfl | (simp; done) | (simp [*]; done)), H', ⟨by have := HK1.out; have := HK2.out; have := HK3.out; have := HK4.out; omega⟩, ⟨qR HO_11.out⟩, ⟨qN HO_836000.out⟩, ⟨qR HO_836001.out⟩, ⟨qK BK831.out⟩, ⟨qK BK835.out⟩, ⟨qB2 GE831.out GE835.out HB.out⟩⟩
            ·rw [if_neg c54] at H
             have c54b0 : decide (x16_3 < (x836000_1.length : Int)) = false := decide_eq_false c54;clear c54;by_cases c84 : 0 ≤ x13_3
             ·rw [if_pos c84] at H
              have c84b0 : decide (0 ≤ x13_3) = true := decide_eq_true c84;clear c84;by_cases c85 : x13_3 < (x11_2.length : Int)
              ·rw [if_pos c85] at H
               have c85b0 : decide (x13_3 < (x11_2.length : Int)) = true := decide_eq_true c85;clear c85;obtain ⟨y850, hy850⟩ : ∃ y_ : List Bool, y_ = (x11_2.set (x13_3 : Int).toNat true) := ⟨_, rfl⟩;replace H : (if x13_3 < (x836001_2.length : Int) then (arboristref11_Build.l2 k3 y850 (wrap64 (x12_2 + 1)) x836000_1 (x836001_2.set (x13_3 : Int).toNat x14_3)) else (none)) = some (r1, r2) := by first | (rw [hy850]; with_reducible exact H) | (have H2_ := (Option.bind_some _ _).symm.trans H; rw [hy850]; with_reducible exact H2_) | (have H2_ := (Option.bind_some _ _).symm.trans H; with_reducible exact H2_) | with_reducible exact H | (rw [hy850]; exact H) | exact H
               have Ny850 := Aside0.mk hy850;clear hy850;by_cases c87 : x13_3 < (x836001_2.length : Int)
               ·rw [if_pos c87] at H
                have c87b0 : decide (x13_3 < (x836001_2.length : Int)) = true := decide_eq_true c87;clear c87;obtain ⟨y851, hy851⟩ : ∃ y_ : List Int, y_ = (x836001_2.set (x13_3 : Int).toNat x14_3) := ⟨_, rfl⟩;replace H : (arboristref11_Build.l2 k3 y850 (wrap64 (x12_2 + 1)) x836000_1 y851) = some (r1, r2) := by first | (rw [hy851]; with_reducible exact H) | (have H2_ := (Option.bind_some _ _).symm.trans H; rw [hy851]; with_reducible exact H2_) | (have H2_ := (Option.bind_some _ _).symm.trans H; with_reducible exact H2_) | with_reducible exact H | (rw [hy851]; exact H) | exact H
                have Ny851 := Aside0.mk hy851;clear hy851;have H' := Aside0.mk H;clear H;have hnb89 := NB835_831.out;have hnc89 := NB831_835.out;have hcz90_0 : wr.cell? ⟨gb835, 0, none⟩ = some (.slice Ao41 x836000_1.length co41) := (blk_cell BK835.out 0).trans rfl;have hcz90_1 : wr.cell? ⟨gb835, 1, none⟩ = some (u836001) := (blk_cell BK835.out 1).trans rfl;have hfz90_0 := blk_frozen BK835.out 0;have hfz90_1 := blk_frozen BK835.out 1;have p86 : 0 ≤ (x13_3 : Int) := of_decide_eq_true qA;have q86 : (x13_3 : Int) < ((x11_2.length : Int) : Int) := of_decide_eq_true qA;obtain ⟨go86, co86, eo86, gb86, gl86, cl86, HG86⟩ := Kd.R_form HO_11.out (by omega);(first | cases eo86 | (injection eo86 with ea_ en_ ec_; (first | subst ea_ | (injection ea_ with ea_; subst ea_)); subst ec_; clear en_));have GB86 := Aside0.mk gb86;have GG86 := Aside0.mk HG86;clear gb86 gl86 HG86;obtain ⟨hx86_0, hf86_0⟩ := Kd.R_celln false HO_11.out (x13_3 : Int) p86 q86;replace p86 := eq_true p86;replace q86 := eq_true q86;have HP91 := Kd.R_putg HO_11.out (x13_3 : Int) true;go_wp2_with (first | ((with_reducible refine gate_store (t := 4) (p := 123) rfl ?_); refine store_event (t := 4) (p := 123) (v := ?vo_w92) (w1 := (wr.setCell ⟨go86, (x13_3 : Int).toNat, none⟩ (.bool true))) ?hg ?ho ?hn ?hr ?_; (case ho => rfl); (case hg => rfl); (case hn => rfl); (case hr => first | (go_simp; done) | (go_simp; rfl)); intro w92 hw; have hg : wr.grownBy w92 (some go86) := (by rw [hw]; exact HP91.2); have hp_ : Kd.R Kd.bool 4 w92 w.heap.size (fun k_ => (w.heap.size ≤ k_)) (.slice (some ⟨go86, 0, none⟩) x11_2.length co86) y850 := (by rw [hw, Ny850.out]; exact HP91.1); clear HP91; have n0_ := Aside0.mk (hp_); have n1_ := Aside0.mk (Kd.N_afterv (v := (.slice (some ⟨go86, 0, none⟩) x11_2.length co86)) (v1 := (.slice (some ⟨go86, 0, none⟩) x11_2.length co86)) (ok := (fun k_ => (w.heap.size ≤ k_) ∧ some k_ ≠ (u836001 : Value).ownBlock ∧ k_ ≠ gb831 ∧ k_ ≠ gb835)) (by (with_reducible repeat (first | apply Kd.N_alloc | apply Kd.N_drewN | apply Kd.N_drew)); exact Kd.N_mono HO_836000.out (fun _ hk => ⟨⟨hk.1, ⟨hk.2.2.1, ⟨hk.2.2.2.1, hk.2.2.2.2⟩⟩⟩, hk.2.1⟩)) hg (.inl rfl)); have n2_ := Aside0.mk (Kd.R_over' (v := (.slice (some ⟨go86, 0, none⟩) x11_2.length co86)) (qR HO_836001.out) (Kd.R_typed HO_11.out) (by decide) hg); have n3_ := Aside0.mk (blk_grown (g := gb831) (o := .cells #[.slice none 0 0, .slice none 0 0] 25 (0, 0)) (qK BK831.out) hg (Kd.R_ne HO_11.out BK831.out (by decide))); have n4_ := Aside0.mk (blk_grown (g := gb835) (o := .cells #[.slice Ao41 x836000_1.length co41, u836001] 25 (0, 0)) (qK BK835.out) hg (Kd.R_ne HO_11.out BK835.out (by decide))); have n5_ := Aside0.mk ((by rw [hw]; exact below_set (HB.out) GB86.out : Below w.heap.size w w92)); clear HO_11; clear HO_836000; clear HO_836001; clear BK831; clear BK835; clear HB; have HO_11 := n0_; have HO_836000 := n1_; have HO_836001 := n2_; have BK831 := n3_; have BK835 := n4_; have HB := n5_; clear n0_ n1_ n2_ n3_ n4_ n5_; clear hg hw hp_; have hcz93_0 : w92.cell? ⟨gb835, 0, none⟩ = some (.slice Ao41 x836000_1.length co41) := (blk_cell BK835.out 0).trans rfl; have hcz93_1 : w92.cell? ⟨gb835, 1, none⟩ = some (u836001) := (blk_cell BK835.out 1).trans rfl; have hfz93_0 := blk_frozen BK835.out 0; have hfz93_1 := blk_frozen BK835.out 1; have p88 : 0 ≤ (x13_3 : Int) := of_decide_eq_true qA; have q88 : (x13_3 : Int) < ((x836001_2.length : Int) : Int) := of_decide_eq_true qA; obtain ⟨go88, co88, eo88, gb88, gl88, cl88, HG88⟩ := Kd.R_form HO_836001.out (by omega); (first | cases eo88 | (injection eo88 with ea_ en_ ec_; (first | subst ea_ | (injection ea_ with ea_; subst ea_)); subst ec_; clear en_)); have GB88 := Aside0.mk gb88; have GG88 := Aside0.mk HG88; clear gb88 gl88 HG88; obtain ⟨hx88_0, hf88_0⟩ := Kd.R_celln 0 HO_836001.out (x13_3 : Int) p88 q88; replace p88 := eq_true p88; replace q88 := eq_true q88; obtain ⟨hy94_, hz94_⟩ := Kd.R_celln 0 HO_836001.out (x13_3 : Int) (of_decide_eq_true qA) (of_decide_eq_true qA); have HP94 := Kd.R_putg HO_836001.out (x13_3 : Int) x14_3) | ((with_reducible refine gate_store (t := 3) (p := 128) rfl ?_); refine store_event (t := 3) (p := 128) (v := ?vo_w95) (w1 := (w92.setCell ⟨go88, (x13_3 : Int).toNat, none⟩ (.int .i64 x14_3))) ?hg ?ho ?hn ?hr ?_; (case ho => rfl); (case hg => rfl); (case hn => rfl); (case hr => first | (go_simp; done) | (go_simp; rfl)); intro w95 hw; have hg : w92.grownBy w95 (some go88) := (by rw [hw]; exact HP94.2); have hp_ : Kd.R (Kd.int .i64) 3 w95 w.heap.size (fun k_ => (w.heap.size ≤ k_)) (.slice (some ⟨go88, 0, none⟩) x836001_2.length co88) y851 := (by rw [hw, Ny851.out]; exact HP94.1); clear HP94; have n0_ := Aside0.mk (Kd.R_over' (v := (.slice (some ⟨go88, 0, none⟩) x836001_2.length co88)) (qR HO_11.out) (Kd.R_typed HO_836001.out) (by decide) hg); have n1_ := Aside0.mk (Kd.N_afterv (v := (.slice (some ⟨go88, 0, none⟩) x836001_2.length co88)) (v1 := (.slice (some ⟨go88, 0, none⟩) x836001_2.length co88)) (ok := (fun k_ => (w.heap.size ≤ k_) ∧ some k_ ≠ (.slice (some ⟨go86, 0, none⟩) x11_2.length co86 : Value).ownBlock ∧ k_ ≠ gb831 ∧ k_ ≠ gb835)) (by (with_reducible repeat (first | apply Kd.N_alloc | apply Kd.N_drewN | apply Kd.N_drew)); exact Kd.N_mono HO_836000.out (fun _ hk => ⟨⟨hk.1.1, ⟨hk.2, ⟨hk.1.2.2.1, hk.1.2.2.2⟩⟩⟩, hk.1.2.1⟩)) hg (.inl rfl)); have n2_ := Aside0.mk (hp_); have n3_ := Aside0.mk (blk_grown (g := gb831) (o := .cells #[.slice none 0 0, .slice none 0 0] 25 (0, 0)) (qK BK831.out) hg (Kd.R_ne HO_836001.out BK831.out (by decide))); have n4_ := Aside0.mk (blk_grown (g := gb835) (o := .cells #[.slice Ao41 x836000_1.length co41, .slice (some ⟨go88, 0, none⟩) x836001_2.length co88] 25 (0, 0)) (qK BK835.out) hg (Kd.R_ne HO_836001.out BK835.out (by decide))); have n5_ := Aside0.mk ((by rw [hw]; exact below_set (HB.out) GB88.out : Below w.heap.size w w95)); clear HO_11; clear HO_836000; clear HO_836001; clear BK831; clear BK835; clear HB; have HO_11 := n0_; have HO_836000 := n1_; have HO_836001 := n2_; have BK831 := n3_; have BK835 := n4_; have HB := n5_; clear n0_ n1_ n2_ n3_ n4_ n5_; clear hg hw hp_))
                go_roundg k3
                case measure => have := HK1.out; have := HK2.out; have := HK3.out; omega
                case rel => exact ⟨(y850), (wrap64 (x12_2 + 1)), (y851), (.slice (some ⟨go88, 0, none⟩) x836001_2.length co88), (by first | rfl | (simp; done) | (simp [*]; done)), H', ⟨by have := HK1.out; have := HK2.out; have := HK3.out; omega⟩, ⟨qR HO_11.out⟩, ⟨by (with_reducible repeat (first | apply Kd.N_alloc | apply Kd.N_drewN | apply Kd.N_drew)); exact Kd.N_mono HO_836000.out (fun _ hk => ⟨hk.1.1, ⟨hk.1.2.1, ⟨hk.2, ⟨hk.1.2.2.1, hk.1.2.2.2⟩⟩⟩⟩)⟩, ⟨qR HO_836001.out⟩, ⟨qK BK831.out⟩, ⟨qK BK835.out⟩, ⟨qB2 GE831.out GE835.out HB.out⟩⟩
               ·rw [if_neg c87] at H
                exact absurd H (by simp)
              ·rw [if_neg c85] at H
               exact absurd H (by simp)
             ·rw [if_neg c84] at H
              exact absurd H (by simp)
        ·rw [if_neg c44] at H
         have c44b0 : decide (x12_2 < (x836000_1.length : Int)) = false := decide_eq_false c44;clear c44;simp only [Option.some.injEq, Prod.mk.injEq] at H
         obtain ⟨rfl, rfl⟩ := H;have hnb96 := NB835_831.out;have hnc96 := NB831_835.out;have hcz97_0 : wr.cell? ⟨gb835, 0, none⟩ = some (.slice Ao41 x836000_1.length co41) := (blk_cell BK835.out 0).trans rfl;have hcz97_1 : wr.cell? ⟨gb835, 1, none⟩ = some (u836001) := (blk_cell BK835.out 1).trans rfl;have hfz97_0 := blk_frozen BK835.out 0;have hfz97_1 := blk_frozen BK835.out 1;have hcz98_0 : wr.cell? ⟨gb831, 0, none⟩ = some (.slice none 0 0) := (blk_cell BK831.out 0).trans rfl;have hcz98_1 : wr.cell? ⟨gb831, 1, none⟩ = some (.slice none 0 0) := (blk_cell BK831.out 1).trans rfl;have hfz98_0 := blk_frozen BK831.out 0;have hfz98_1 := blk_frozen BK831.out 1;obtain ⟨Ao99, co99, eo99⟩ := Kd.R_slice HO_836001.out;subst eo99;go_wp2
         refine bodyPost_ret (results_cell_row rfl _ _ gb831 25 #[.slice Ao41 x836000_1.length co41, .slice Ao99 x836001_2.length co99] (0, 0) _ rfl (by (with_reducible repeat (first | refine blk_drewN ?_ _ | refine blk_drew ?_ | refine blk_alloc ?_ _)); refine blk_put (cs := #[.slice Ao41 x836000_1.length co41, .slice none 0 0]) ?_ 1 _ rfl; (with_reducible repeat (first | refine blk_drewN ?_ _ | refine blk_drew ?_ | refine blk_alloc ?_ _)); refine blk_put (cs := #[.slice none 0 0, .slice none 0 0]) ?_ 0 _ rfl; (with_reducible repeat (first | refine blk_drewN ?_ _ | refine blk_drew ?_ | refine blk_alloc ?_ _)); exact BK831.out) Try.underlying25 rfl (by kernel_rfl)) rfl ?_;exact ⟨_, _, by first | rfl | (simp [errW_none, errW_some] <;> rfl) | (simp [*, errW_none, errW_some] <;> rfl), by (with_reducible repeat (first | apply Kd.N_alloc | apply Kd.N_drewN | apply Kd.N_drew)); exact Kd.N_mono (Kd.N_far (p := ⟨gb831, 1, none⟩) (Kd.N_far (p := ⟨gb831, 0, none⟩) (Kd.N_mono HO_836000.out (fun k_ hk => (⟨hk, hk.2.2.2.1⟩ : _ ∧ k_ ≠ gb831))) (fun _ hk => hk.2) (.slice Ao41 x836000_1.length co41)) (fun _ hk => hk.2) (.slice Ao99 x836001_2.length co99)) (fun _ hk => ⟨hk.1.1, hk.1.2.2.1⟩), by (with_reducible repeat (first | apply Kd.R_alloc | apply Kd.R_drewN | apply Kd.R_drew)); exact Kd.R_mono (Kd.R_far (p := ⟨gb831, 1, none⟩) (Kd.R_far (p := ⟨gb831, 0, none⟩) (Kd.R_types HO_836001.out BK831.out (by decide)) (fun _ hk => hk.2) (.slice Ao41 x836000_1.length co41)) (fun _ hk => hk.2) (.slice Ao99 x836001_2.length co99)) (fun _ hk => hk.1), by repeat (first | (with_reducible first | exact HB.out | apply below_alloc | apply pw_below_drewN | apply below_drew1 | refine below_set ?_ GE831.out | refine below_set ?_ GE835.out) | exact HB.out)⟩
     ·rw [if_neg c37] at H
      exact absurd H (by simp)
    ·rw [if_neg c36] at H
     exact absurd H (by simp)
end Go.Proofs.Ytpmfdggbccbfaaa.Pr
