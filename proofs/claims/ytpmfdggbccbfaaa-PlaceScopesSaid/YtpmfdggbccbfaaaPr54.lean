-- Printed by wip/tools/pp.py over the kit's print.py, several texts in one (wip/tools/mergepr.py); Lean checks it.
import Derived.Test.YtpmfdggbccbfaaaPr1
import Derived.Test.YtpmfdggbccbfaaaPr0
import Derived.Test.YtpmfdggbccbfaaaPr17
import Derived.Test.YtpmfdggbccbfaaaPr50
import Derived.Test.YtpmfdggbccbfaaaPr52
namespace Go.Proofs.Ytpmfdggbccbfaaa.Pr
open Go.RowKit Go.Proofs.YtpmfdggbccbfaaaW.PrintWords Go.Proofs.YtpmfdggbccbfaaaW.PrintLast Go.Proofs.YtpmfdggbccbfaaaW.PrintMore
attribute [local go_sem] max2_int min2_int max_two min_two max_three min_three max_four min_four
set_option linter.unusedVariables false
set_option linter.unusedSimpArgs false
/-! ### arboristref06_Right: function 60 -/
mutual
def arboristref06_Right.j0 : Nat → Bool → List (List Int) → List (S69) → List (S73) → Option (Bool)
 | 0, _, _, _, _ => none
 | k + 1, x25, x741000, x741001, x741002 => if x25 = true then (some false) else (arboristref06_Right.l0 k 0 x741000 x741001 x741002)
def arboristref06_Right.l0 : Nat → Int → List (List Int) → List (S69) → List (S73) → Option (Bool)
 | 0, _, _, _, _ => none
 | k + 1, x3, x741000, x741001, x741002 => if x3 < (x741000.length : Int) then (if 0 ≤ x3 then (if ((rd_L1 x741000 x3).length : Int) < 1 then (some false) else (if ((rd_L1 x741000 x3).length : Int) > 16 then (some false) else ((arboristref01_Rising.f k (rd_L1 x741000 x3)).bind fun t742 => (if t742 = true then (if 0 < ((rd_L1 x741000 x3).length : Int) then ((arboristref06_small.f (rd (rd_L1 x741000 x3) 0) 1000000).bind fun t744 => (if t744 = true then (if 0 ≤ (wrap64 (((rd_L1 x741000 x3).length : Int) - 1)) then (if (wrap64 (((rd_L1 x741000 x3).length : Int) - 1)) < ((rd_L1 x741000 x3).length : Int) then ((arboristref06_small.f (rd (rd_L1 x741000 x3) (wrap64 (((rd_L1 x741000 x3).length : Int) - 1))) 1000000).bind fun t746 => (if t746 = true then (arboristref06_Right.l0 k (wrap64 (x3 + 1)) x741000 x741001 x741002) else (some false))) else (none)) else (none)) else (some false))) else (none)) else (some false))))) else (none)) else (arboristref06_Right.l1 k true 0 x741000 x741001 x741002)
def arboristref06_Right.l1 : Nat → Bool → Int → List (List Int) → List (S69) → List (S73) → Option (Bool)
 | 0, _, _, _, _, _ => none
 | k + 1, x5, x6, x741000, x741001, x741002 => if x6 < (x741001.length : Int) then (if 0 ≤ x6 then ((arboristref06_hard.f k x741000 x741001 x741002 ((rd_T69 x741001 x6).f0) ((rd_T69 x741001 x6).f1) ((rd_T69 x741001 x6).f2) ((rd_T69 x741001 x6).f3)).bind fun t748 => (if x5 = true then (arboristref06_Right.l1 k t748 (wrap64 (x6 + 1)) x741000 x741001 x741002) else (arboristref06_Right.l1 k false (wrap64 (x6 + 1)) x741000 x741001 x741002))) else (none)) else (arboristref06_Right.l2 k x5 0 x741000 x741001 x741002)
def arboristref06_Right.l2 : Nat → Bool → Int → List (List Int) → List (S69) → List (S73) → Option (Bool)
 | 0, _, _, _, _, _ => none
 | k + 1, x5, x8, x741000, x741001, x741002 => if x8 < (x741002.length : Int) then (if 0 ≤ x8 then ((arboristref06_soft.f k x741000 x741001 x741002 ((rd_T73 x741002 x8).f0) ((rd_T73 x741002 x8).f1) ((rd_T73 x741002 x8).f2) ((rd_T73 x741002 x8).f3)).bind fun t750 => (if x5 = true then (arboristref06_Right.l2 k t750 (wrap64 (x8 + 1)) x741000 x741001 x741002) else (arboristref06_Right.l2 k false (wrap64 (x8 + 1)) x741000 x741001 x741002))) else (none)) else (some x5)
end
def arboristref06_Right.f (k : Nat) (l0_0 : List (List Int)) (l0_1 : List (S69)) (l0_2 : List (S73)) : Option (Bool) := if (l0_0.length : Int) > 40 then (arboristref06_Right.j0 k true l0_0 l0_1 l0_2) else (if (l0_1.length : Int) > 200 then (arboristref06_Right.j0 k true l0_0 l0_1 l0_2) else (arboristref06_Right.j0 k (decide ((l0_2.length : Int) > 200)) l0_0 l0_1 l0_2))
def arboristref06_Right.T13 : Bool × List (List Nat × List Nat) := (true, [([], []), ([], []), ([1], [1]), ([], []), ([2, 3], [2, 3]), ([4], [4]), ([0, 5], [0, 5]), ([6, 6, 0, 1, 2, 3, 4, 5, 6], [6])])
def arboristref06_Right.B13 : List Nat := [0, 0, 2, 0, 14, 30, 63, 127]
theorem arboristref06_Right.tab13 : rtab .any (opsOf Try.f60 13) = arboristref06_Right.T13 := by kernel_rfl
theorem arboristref06_Right.bits13 : waitsOk arboristref06_Right.T13.2 arboristref06_Right.B13 = true := by kernel_rfl
def arboristref06_Right.T18 : Bool × List (List Nat × List Nat) := (true, [([], []), ([], []), ([1], [1]), ([], []), ([2, 3], [2, 3]), ([4], [4]), ([0, 5], [0, 5]), ([6, 6, 0, 1, 2, 3, 4, 5, 6], [6])])
def arboristref06_Right.B18 : List Nat := [0, 0, 2, 0, 14, 30, 63, 127]
theorem arboristref06_Right.tab18 : rtab .any (opsOf Try.f60 18) = arboristref06_Right.T18 := by kernel_rfl
theorem arboristref06_Right.bits18 : waitsOk arboristref06_Right.T18.2 arboristref06_Right.B18 = true := by kernel_rfl
set_option maxHeartbeats 8000000 in
set_option maxRecDepth 100000 in
theorem arboristref06_Right.calls (k : Nat) (A0_0 : Option Addr) (c0_0 : Nat) (l0_0 : List (List Int)) (A0_1 : Option Addr) (c0_1 : Nat) (l0_1 : List (S69)) (A0_2 : Option Addr) (c0_2 : Nat) (l0_2 : List (S73)) (r : Bool) (w : World) (hr0_0 : Kd.C (Kd.slice 3 (Kd.int .i64)) w A0_0 l0_0.length l0_0) (hc0_0 : l0_0.length ≤ c0_0) (hr0_1 : Kd.C k69 w A0_1 l0_1.length l0_1) (hc0_1 : l0_1.length ≤ c0_1) (hr0_2 : Kd.C k73 w A0_2 l0_2.length l0_2) (hc0_2 : l0_2.length ≤ c0_2) (h : arboristref06_Right.f k l0_0 l0_1 l0_2 = some r) :
  Calls Try.prog 60 #[.agg #[.slice A0_0 l0_0.length c0_0, .slice A0_1 l0_1.length c0_1, .slice A0_2 l0_2.length c0_2]] w fun e w' => e = .returned (.bool r) ∧ Below w.heap.size w w' := by
 have hu49 := Try.underlying49;have hu69 := Try.underlying69;have hu73 := Try.underlying73;have HR0_0 := Aside0.mk hr0_0;have HC0_0 := Aside0.mk hc0_0;clear hr0_0 hc0_0;have HR0_1 := Aside0.mk hr0_1;have HC0_1 := Aside0.mk hc0_1;clear hr0_1 hc0_1;have HR0_2 := Aside0.mk hr0_2;have HC0_2 := Aside0.mk hc0_2;clear hr0_2 hc0_2;have HB := Aside0.mk (Below.refl w.heap.size w);have H : (if (l0_0.length : Int) > 40 then (arboristref06_Right.j0 k true l0_0 l0_1 l0_2) else (if (l0_1.length : Int) > 200 then (arboristref06_Right.j0 k true l0_0 l0_1 l0_2) else (arboristref06_Right.j0 k (decide ((l0_2.length : Int) > 200)) l0_0 l0_1 l0_2))) = some r := h;clear h;have HC2 := Aside0.mk H;clear H;go_enter Try.func60, Try.ntmps60
 go_upto_region 1 with (first | ((with_reducible refine gate_dst (N := 1) rfl ?_); (try (refine gate_guard (by rfl) ?_; dsimp only)); refine box_event ?hg (N := 1) ?hd (cs := #[.slice A0_0 l0_0.length c0_0, .slice A0_1 l0_1.length c0_1, .slice A0_2 l0_2.length c0_2]) (t := 49) ?hr ?_; (case hd => rfl); (case hg => rfl); (case hr => first | (go_simp; done) | (go_simp; rfl)); intro gb740 hg w3 hbox hb; have n0_ := Aside0.mk (below_step (qB HB.out) hb); have n1_ := Aside0.mk (hbox); have n2_ := Aside0.mk ((by rw [hg]; exact (below_size (qB HB.out)) : w.heap.size ≤ gb740)); have n3_ := Aside0.mk ((by rw [hg]; exact (below_size (qB HB.out)) : w.heap.size ≤ gb740)); clear HB; have HB := n0_; have BK740 := n1_; have GW740 := n2_; have GE740 := n3_; clear n0_ n1_ n2_ n3_; clear hb hbox hg))
 (try simp only [Act.put, List.setIfInBounds_toArray, List.set_cons_zero, List.set_cons_succ]);go_cut [25] (fun v25 wc => ∃ (kq : Nat) (x25_1 : Bool), v25 = .bool x25_1 ∧ Aside0 (arboristref06_Right.j0 kq x25_1 l0_0 l0_1 l0_2 = some r) ∧ Aside0 (kq ≤ k) ∧ Aside0 (wc.heap[gb740]? = some (.cells #[(.slice A0_0 l0_0.length c0_0), (.slice A0_1 l0_1.length c0_1), (.slice A0_2 l0_2.length c0_2)] 49 (0, 0))) ∧ Aside0 (Below w.heap.size w wc))
 case first =>
  have H := HC2.out;clear HC2;by_cases c4 : (l0_0.length : Int) > 40
  ·rw [if_pos c4] at H
   have c4b0 : decide (40 < (l0_0.length : Int)) = true := decide_eq_true c4;have c4b1 : decide (40 < l0_0.length) = true := decide_eq_true (by omega);clear c4;(first | rw [c4b0] | (simp only [i64_w, i32_w]; rw [c4b0]) | skip);have H' := Aside0.mk H;clear H;have hcz5_0 : w3.cell? ⟨gb740, 0, none⟩ = some (.slice A0_0 l0_0.length c0_0) := (blk_cell BK740.out 0).trans rfl;have hcz5_1 : w3.cell? ⟨gb740, 1, none⟩ = some (.slice A0_1 l0_1.length c0_1) := (blk_cell BK740.out 1).trans rfl;have hcz5_2 : w3.cell? ⟨gb740, 2, none⟩ = some (.slice A0_2 l0_2.length c0_2) := (blk_cell BK740.out 2).trans rfl;have hfz5_0 := blk_frozen BK740.out 0;have hfz5_1 := blk_frozen BK740.out 1;have hfz5_2 := blk_frozen BK740.out 2;go_wp2
   go_meet
   case rel => exact ⟨_, (true), (by first | rfl | (simp; done) | (simp [*]; done)), H', ⟨by first | omega | exact Nat.le_refl _⟩, ⟨qK BK740.out⟩, ⟨qB1 GE740.out HB.out⟩⟩
  ·rw [if_neg c4] at H
   have c4b0 : decide (40 < (l0_0.length : Int)) = false := decide_eq_false c4;have c4b1 : decide (40 < l0_0.length) = false := decide_eq_false (by omega);clear c4;(first | rw [c4b0] | (simp only [i64_w, i32_w]; rw [c4b0]) | skip);by_cases c6 : (l0_1.length : Int) > 200
   ·rw [if_pos c6] at H
    have c6b0 : decide (200 < (l0_1.length : Int)) = true := decide_eq_true c6;have c6b1 : decide (200 < l0_1.length) = true := decide_eq_true (by omega);clear c6;have H' := Aside0.mk H;clear H;have hcz7_0 : w3.cell? ⟨gb740, 0, none⟩ = some (.slice A0_0 l0_0.length c0_0) := (blk_cell BK740.out 0).trans rfl;have hcz7_1 : w3.cell? ⟨gb740, 1, none⟩ = some (.slice A0_1 l0_1.length c0_1) := (blk_cell BK740.out 1).trans rfl;have hcz7_2 : w3.cell? ⟨gb740, 2, none⟩ = some (.slice A0_2 l0_2.length c0_2) := (blk_cell BK740.out 2).trans rfl;have hfz7_0 := blk_frozen BK740.out 0;have hfz7_1 := blk_frozen BK740.out 1;have hfz7_2 := blk_frozen BK740.out 2;go_wp2
    go_meet
    case rel => exact ⟨_, (true), (by first | rfl | (simp; done) | (simp [*]; done)), H', ⟨by first | omega | exact Nat.le_refl _⟩, ⟨qK BK740.out⟩, ⟨qB1 GE740.out HB.out⟩⟩
   ·rw [if_neg c6] at H
    have c6b0 : decide (200 < (l0_1.length : Int)) = false := decide_eq_false c6;have c6b1 : decide (200 < l0_1.length) = false := decide_eq_false (by omega);clear c6;have H' := Aside0.mk H;clear H;have hcz8_0 : w3.cell? ⟨gb740, 0, none⟩ = some (.slice A0_0 l0_0.length c0_0) := (blk_cell BK740.out 0).trans rfl;have hcz8_1 : w3.cell? ⟨gb740, 1, none⟩ = some (.slice A0_1 l0_1.length c0_1) := (blk_cell BK740.out 1).trans rfl;have hcz8_2 : w3.cell? ⟨gb740, 2, none⟩ = some (.slice A0_2 l0_2.length c0_2) := (blk_cell BK740.out 2).trans rfl;have hfz8_0 := blk_frozen BK740.out 0;have hfz8_1 := blk_frozen BK740.out 1;have hfz8_2 := blk_frozen BK740.out 2;go_wp2
    go_meet
    case rel => exact ⟨_, (decide ((l0_2.length : Int) > 200)), (by first | rfl | (simp; done) | (simp [*]; done)), H', ⟨by first | omega | exact Nat.le_refl _⟩, ⟨qK BK740.out⟩, ⟨qB1 GE740.out HB.out⟩⟩
 case rest =>
  clear HC2;try clear p2
  try clear c4
  try clear c4b0
  try clear c4b1
  try clear c6
  try clear c6b0
  try clear c6b1
  try clear hcz5_0
  try clear hcz5_1
  try clear hcz5_2
  try clear hcz7_0
  try clear hcz7_1
  try clear hcz7_2
  try clear hcz8_0
  try clear hcz8_1
  try clear hcz8_2
  try clear hfz5_0
  try clear hfz5_1
  try clear hfz5_2
  try clear hfz7_0
  try clear hfz7_1
  try clear hfz7_2
  try clear hfz8_0
  try clear hfz8_1
  try clear hfz8_2
  obtain ⟨kq, x25_1, rfl, HA, HJ1, BK740, HB⟩ := hcut;cases kq with
  | zero => exact absurd HA.out (by simp [arboristref06_Right.j0])
  | succ kj1 =>
   have H := HA.out;clear HA;simp only [arboristref06_Right.j0] at H
   by_cases c9 : x25_1 = true
   ·subst c9;replace H : (some false) = some r := by rw [if_pos rfl] at H; exact H
    obtain rfl := Option.some.inj H;go_wp2
    go_ret
    exact ⟨by first | rfl | (simp [errW_none, errW_some] <;> rfl) | (simp [*, errW_none, errW_some] <;> rfl), by repeat (first | (with_reducible first | exact HB.out | apply below_alloc | apply pw_below_drewN | apply below_drew1 | refine below_set ?_ GE740.out) | exact HB.out)⟩
   ·replace c9 := Bool.eq_false_iff.mpr c9;subst c9;replace H : (arboristref06_Right.l0 kj1 0 l0_0 l0_1 l0_2) = some r := by rw [if_neg (show ¬ (false = true) by decide)] at H; exact H
    have H' := Aside0.mk H;clear H;go_wp2
    go_loopg [3] kj1 (fun kq v3 w' => ∃ (x3_2 : Int), v3 = .int .i64 x3_2 ∧ Aside0 (arboristref06_Right.l0 kq x3_2 l0_0 l0_1 l0_2 = some r) ∧ Aside0 (kq ≤ kj1) ∧ Aside0 (w'.heap[gb740]? = some (.cells #[(.slice A0_0 l0_0.length c0_0), (.slice A0_1 l0_1.length c0_1), (.slice A0_2 l0_2.length c0_2)] 49 (0, 0))) ∧ Aside0 (Below w.heap.size w w'))
    case atStart => exact ⟨(0), (by first | rfl | (simp; done) | (simp [*]; done)), H', ⟨Nat.le_refl _⟩, ⟨qK BK740.out⟩, ⟨qB1 GE740.out HB.out⟩⟩
    case round =>
     clear H';try clear p2
     try clear c4
     try clear c4b0
     try clear c4b1
     try clear c6
     try clear c6b0
     try clear c6b1
     try clear c9
     try clear hcz5_0
     try clear hcz5_1
     try clear hcz5_2
     try clear hcz7_0
     try clear hcz7_1
     try clear hcz7_2
     try clear hcz8_0
     try clear hcz8_1
     try clear hcz8_2
     try clear hfz5_0
     try clear hfz5_1
     try clear hfz5_2
     try clear hfz7_0
     try clear hfz7_1
     try clear hfz7_2
     try clear hfz8_0
     try clear hfz8_1
     try clear hfz8_2
     try clear p2
     obtain ⟨x3_2, rfl, HA, HK2, BK740, HB⟩ := hrel;cases gk with
     | zero => exact absurd HA.out (by simp [arboristref06_Right.l0])
     | succ k2 =>
      have H := HA.out;clear HA;simp only [arboristref06_Right.l0] at H
      by_cases c10 : x3_2 < (l0_0.length : Int)
      ·rw [if_pos c10] at H
       have c10b0 : decide (x3_2 < (l0_0.length : Int)) = true := decide_eq_true c10;clear c10;by_cases c11 : 0 ≤ x3_2
       ·rw [if_pos c11] at H
        have c11b0 : decide (0 ≤ x3_2) = true := decide_eq_true c11;clear c11;by_cases c12 : ((rd_L1 l0_0 x3_2).length : Int) < 1
        ·rw [if_pos c12] at H
         have c12b0 : decide (((rd_L1 l0_0 x3_2).length : Int) < 1) = true := decide_eq_true c12;have c12b1 : decide ((rd_L1 l0_0 x3_2).length < 1) = true := decide_eq_true (by omega);clear c12;obtain rfl := Option.some.inj H;have hcz13_0 : wr.cell? ⟨gb740, 0, none⟩ = some (.slice A0_0 l0_0.length c0_0) := (blk_cell BK740.out 0).trans rfl;have hcz13_1 : wr.cell? ⟨gb740, 1, none⟩ = some (.slice A0_1 l0_1.length c0_1) := (blk_cell BK740.out 1).trans rfl;have hcz13_2 : wr.cell? ⟨gb740, 2, none⟩ = some (.slice A0_2 l0_2.length c0_2) := (blk_cell BK740.out 2).trans rfl;have hfz13_0 := blk_frozen BK740.out 0;have hfz13_1 := blk_frozen BK740.out 1;have hfz13_2 := blk_frozen BK740.out 2;have p741 : 0 ≤ (x3_2 : Int) := of_decide_eq_true qA;have q741 : x3_2 < (l0_0.length : Int) := of_decide_eq_true qA;obtain ⟨ad741, A741_0, c741_0, e741, hx741_0, hl741_0, hi741_0⟩ := at_L1 HR0_0.out x3_2 p741 q741;cases e741
         replace hx741_0 := (HB.out.cell (World.block_lt_of_cell? w _ hx741_0)).trans hx741_0;have HR741_0 := Aside0.mk hi741_0;have HC741_0 := Aside0.mk hl741_0;clear hi741_0 hl741_0;replace p741 := eq_true p741;replace q741 := eq_true q741;go_wp2
         go_ret
         exact ⟨by first | rfl | (simp [errW_none, errW_some] <;> rfl) | (simp [*, errW_none, errW_some] <;> rfl), by repeat (first | (with_reducible first | exact HB.out | apply below_alloc | apply pw_below_drewN | apply below_drew1 | refine below_set ?_ GE740.out) | exact HB.out)⟩
        ·rw [if_neg c12] at H
         have c12b0 : decide (((rd_L1 l0_0 x3_2).length : Int) < 1) = false := decide_eq_false c12;have c12b1 : decide ((rd_L1 l0_0 x3_2).length < 1) = false := decide_eq_false (by omega);clear c12;by_cases c14 : ((rd_L1 l0_0 x3_2).length : Int) > 16
         ·rw [if_pos c14] at H
          have c14b0 : decide (16 < ((rd_L1 l0_0 x3_2).length : Int)) = true := decide_eq_true c14;have c14b1 : decide (16 < (rd_L1 l0_0 x3_2).length) = true := decide_eq_true (by omega);clear c14;obtain rfl := Option.some.inj H;have hcz15_0 : wr.cell? ⟨gb740, 0, none⟩ = some (.slice A0_0 l0_0.length c0_0) := (blk_cell BK740.out 0).trans rfl;have hcz15_1 : wr.cell? ⟨gb740, 1, none⟩ = some (.slice A0_1 l0_1.length c0_1) := (blk_cell BK740.out 1).trans rfl;have hcz15_2 : wr.cell? ⟨gb740, 2, none⟩ = some (.slice A0_2 l0_2.length c0_2) := (blk_cell BK740.out 2).trans rfl;have hfz15_0 := blk_frozen BK740.out 0;have hfz15_1 := blk_frozen BK740.out 1;have hfz15_2 := blk_frozen BK740.out 2;have p741 : 0 ≤ (x3_2 : Int) := of_decide_eq_true qA;have q741 : x3_2 < (l0_0.length : Int) := of_decide_eq_true qA;obtain ⟨ad741, A741_0, c741_0, e741, hx741_0, hl741_0, hi741_0⟩ := at_L1 HR0_0.out x3_2 p741 q741;cases e741
          replace hx741_0 := (HB.out.cell (World.block_lt_of_cell? w _ hx741_0)).trans hx741_0;have HR741_0 := Aside0.mk hi741_0;have HC741_0 := Aside0.mk hl741_0;clear hi741_0 hl741_0;replace p741 := eq_true p741;replace q741 := eq_true q741;go_wp2
          go_ret
          exact ⟨by first | rfl | (simp [errW_none, errW_some] <;> rfl) | (simp [*, errW_none, errW_some] <;> rfl), by repeat (first | (with_reducible first | exact HB.out | apply below_alloc | apply pw_below_drewN | apply below_drew1 | refine below_set ?_ GE740.out) | exact HB.out)⟩
         ·rw [if_neg c14] at H
          have c14b0 : decide (16 < ((rd_L1 l0_0 x3_2).length : Int)) = false := decide_eq_false c14;have c14b1 : decide (16 < (rd_L1 l0_0 x3_2).length) = false := decide_eq_false (by omega);clear c14;replace H := Option.bind_eq_some_iff.mp H;obtain ⟨t742, A160, H⟩ := H;(try dsimp only at H);have A16 := Aside0.mk A160;clear A160;by_cases c17 : t742 = true
          ·subst c17;replace H : (if 0 < ((rd_L1 l0_0 x3_2).length : Int) then ((arboristref06_small.f (rd (rd_L1 l0_0 x3_2) 0) 1000000).bind fun t744 => (if t744 = true then (if 0 ≤ (wrap64 (((rd_L1 l0_0 x3_2).length : Int) - 1)) then (if (wrap64 (((rd_L1 l0_0 x3_2).length : Int) - 1)) < ((rd_L1 l0_0 x3_2).length : Int) then ((arboristref06_small.f (rd (rd_L1 l0_0 x3_2) (wrap64 (((rd_L1 l0_0 x3_2).length : Int) - 1))) 1000000).bind fun t746 => (if t746 = true then (arboristref06_Right.l0 k2 (wrap64 (x3_2 + 1)) l0_0 l0_1 l0_2) else (some false))) else (none)) else (none)) else (some false))) else (none)) = some r := by rw [if_pos rfl] at H; exact H
           by_cases c18 : 0 < ((rd_L1 l0_0 x3_2).length : Int)
           ·rw [if_pos c18] at H
            have c18b0 : decide (0 < ((rd_L1 l0_0 x3_2).length : Int)) = true := decide_eq_true c18;have c18b1 : decide (0 < (rd_L1 l0_0 x3_2).length) = true := decide_eq_true (by omega);clear c18;replace H := Option.bind_eq_some_iff.mp H;obtain ⟨t744, A190, H⟩ := H;(try dsimp only at H);have A19 := Aside0.mk A190;clear A190;by_cases c20 : t744 = true
            ·subst c20;replace H : (if 0 ≤ (wrap64 (((rd_L1 l0_0 x3_2).length : Int) - 1)) then (if (wrap64 (((rd_L1 l0_0 x3_2).length : Int) - 1)) < ((rd_L1 l0_0 x3_2).length : Int) then ((arboristref06_small.f (rd (rd_L1 l0_0 x3_2) (wrap64 (((rd_L1 l0_0 x3_2).length : Int) - 1))) 1000000).bind fun t746 => (if t746 = true then (arboristref06_Right.l0 k2 (wrap64 (x3_2 + 1)) l0_0 l0_1 l0_2) else (some false))) else (none)) else (none)) = some r := by rw [if_pos rfl] at H; exact H
             obtain ⟨ji21, hji21⟩ : ∃ j_ : Int, (wrap64 (((rd_L1 l0_0 x3_2).length : Int) - 1)) = j_ := ⟨_, rfl⟩;replace H : (if 0 ≤ (ji21) then (if (ji21) < ((rd_L1 l0_0 x3_2).length : Int) then ((arboristref06_small.f (rd (rd_L1 l0_0 x3_2) (ji21)) 1000000).bind fun t746 => (if t746 = true then (arboristref06_Right.l0 k2 (wrap64 (x3_2 + 1)) l0_0 l0_1 l0_2) else (some false))) else (none)) else (none)) = some r := by first | (rw [hji21] at H; exact H) | (simp only [hji21] at H ⊢; exact H)
             (try rw [hji21] at A16);(try rw [hji21] at A19);have hji21w : (IntKind.i64.wrap (((rd_L1 l0_0 x3_2).length : Int) - 1)) = ji21 := (i64_w _).trans hji21;by_cases c22 : 0 ≤ (ji21)
             ·rw [if_pos c22] at H
              have c22b0 : decide (0 ≤ (ji21)) = true := decide_eq_true c22;clear c22;by_cases c23 : (ji21) < ((rd_L1 l0_0 x3_2).length : Int)
              ·rw [if_pos c23] at H
               have c23b0 : decide ((ji21) < ((rd_L1 l0_0 x3_2).length : Int)) = true := decide_eq_true c23;clear c23;replace H := Option.bind_eq_some_iff.mp H;obtain ⟨t746, A240, H⟩ := H;(try dsimp only at H);have A24 := Aside0.mk A240;clear A240;by_cases c25 : t746 = true
               ·subst c25;replace H : (arboristref06_Right.l0 k2 (wrap64 (x3_2 + 1)) l0_0 l0_1 l0_2) = some r := by rw [if_pos rfl] at H; exact H
                have H' := Aside0.mk H;clear H;have hcz26_0 : wr.cell? ⟨gb740, 0, none⟩ = some (.slice A0_0 l0_0.length c0_0) := (blk_cell BK740.out 0).trans rfl;have hcz26_1 : wr.cell? ⟨gb740, 1, none⟩ = some (.slice A0_1 l0_1.length c0_1) := (blk_cell BK740.out 1).trans rfl;have hcz26_2 : wr.cell? ⟨gb740, 2, none⟩ = some (.slice A0_2 l0_2.length c0_2) := (blk_cell BK740.out 2).trans rfl;have hfz26_0 := blk_frozen BK740.out 0;have hfz26_1 := blk_frozen BK740.out 1;have hfz26_2 := blk_frozen BK740.out 2;have p741 : 0 ≤ (x3_2 : Int) := of_decide_eq_true qA;have q741 : x3_2 < (l0_0.length : Int) := of_decide_eq_true qA;obtain ⟨ad741, A741_0, c741_0, e741, hx741_0, hl741_0, hi741_0⟩ := at_L1 HR0_0.out x3_2 p741 q741;cases e741
                replace hx741_0 := (HB.out.cell (World.block_lt_of_cell? w _ hx741_0)).trans hx741_0;have HR741_0 := Aside0.mk hi741_0;have HC741_0 := Aside0.mk hl741_0;clear hi741_0 hl741_0;replace p741 := eq_true p741;replace q741 := eq_true q741;go_wp2_with (first | (go_at_call 48; (with_reducible refine (arboristref01_Rising.calls k2 _ _ (rd_L1 l0_0 x3_2) true _ ?side1 ?side2 A16.out).mono ?_); (case side1 => exact qC (Kd.C_below HR741_0.out HB.out)); (case side2 => exact HC741_0.out); rintro e w' ⟨rfl, ⟨nd, rfl⟩⟩; have p743 : 0 ≤ (0 : Int) := (by omega); have q743 : 0 < ((rd_L1 l0_0 x3_2).length : Int) := of_decide_eq_true qA; obtain ⟨ad743, e743, hx743_0⟩ := Kd.at_int HR741_0.out 0 p743 q743; cases e743; have qi743 : (0 < (rd_L1 l0_0 x3_2).length) = True := eq_true (by omega); (try rw [show ((0 : Int)).toNat = 0 from rfl] at hx743_0); (try rw [Addr.add_zero'] at hx743_0); replace hx743_0 := (HB.out.cell (World.block_lt_of_cell? w _ hx743_0)).trans hx743_0; replace p743 := eq_true p743; replace q743 := eq_true q743) | (go_at_call 71; (with_reducible refine (arboristref06_small.calls (rd (rd_L1 l0_0 x3_2) 0) 1000000 true _ A19.out).mono ?_); rintro e w' ⟨rfl, ⟨nd, rfl⟩⟩; have p745 : 0 ≤ ((ji21) : Int) := of_decide_eq_true qA; have q745 : (ji21) < ((rd_L1 l0_0 x3_2).length : Int) := of_decide_eq_true qA; obtain ⟨ad745, e745, hx745_0⟩ := Kd.at_int HR741_0.out (ji21) p745 q745; obtain rfl : ad743 = ad745 := (by injection e745); replace hx745_0 := (HB.out.cell (World.block_lt_of_cell? w _ hx745_0)).trans hx745_0; replace p745 := eq_true p745; replace q745 := eq_true q745) | (go_at_call 71; (with_reducible refine (arboristref06_small.calls (rd (rd_L1 l0_0 x3_2) (ji21)) 1000000 true _ A24.out).mono ?_); rintro e w' ⟨rfl, ⟨nd, rfl⟩⟩))
                first | go_roundg k2 | (simp only [← hji21]; (try simp only [← hji21] at H'); go_roundg k2)
                case measure => have := HJ1.out; have := HK2.out; omega
                case rel => exact ⟨(wrap64 (x3_2 + 1)), (by first | rfl | (simp; done) | (simp [*]; done)), H', ⟨by have := HJ1.out; have := HK2.out; omega⟩, ⟨qK BK740.out⟩, ⟨qB1 GE740.out HB.out⟩⟩
               ·replace c25 := Bool.eq_false_iff.mpr c25;subst c25;replace H : (some false) = some r := by rw [if_neg (show ¬ (false = true) by decide)] at H; exact H
                obtain rfl := Option.some.inj H;have hcz27_0 : wr.cell? ⟨gb740, 0, none⟩ = some (.slice A0_0 l0_0.length c0_0) := (blk_cell BK740.out 0).trans rfl;have hcz27_1 : wr.cell? ⟨gb740, 1, none⟩ = some (.slice A0_1 l0_1.length c0_1) := (blk_cell BK740.out 1).trans rfl;have hcz27_2 : wr.cell? ⟨gb740, 2, none⟩ = some (.slice A0_2 l0_2.length c0_2) := (blk_cell BK740.out 2).trans rfl;have hfz27_0 := blk_frozen BK740.out 0;have hfz27_1 := blk_frozen BK740.out 1;have hfz27_2 := blk_frozen BK740.out 2;have p741 : 0 ≤ (x3_2 : Int) := of_decide_eq_true qA;have q741 : x3_2 < (l0_0.length : Int) := of_decide_eq_true qA;obtain ⟨ad741, A741_0, c741_0, e741, hx741_0, hl741_0, hi741_0⟩ := at_L1 HR0_0.out x3_2 p741 q741;cases e741
                replace hx741_0 := (HB.out.cell (World.block_lt_of_cell? w _ hx741_0)).trans hx741_0;have HR741_0 := Aside0.mk hi741_0;have HC741_0 := Aside0.mk hl741_0;clear hi741_0 hl741_0;replace p741 := eq_true p741;replace q741 := eq_true q741;go_wp2_with (first | (go_at_call 48; (with_reducible refine (arboristref01_Rising.calls k2 _ _ (rd_L1 l0_0 x3_2) true _ ?side1 ?side2 A16.out).mono ?_); (case side1 => exact qC (Kd.C_below HR741_0.out HB.out)); (case side2 => exact HC741_0.out); rintro e w' ⟨rfl, ⟨nd, rfl⟩⟩; have p743 : 0 ≤ (0 : Int) := (by omega); have q743 : 0 < ((rd_L1 l0_0 x3_2).length : Int) := of_decide_eq_true qA; obtain ⟨ad743, e743, hx743_0⟩ := Kd.at_int HR741_0.out 0 p743 q743; cases e743; have qi743 : (0 < (rd_L1 l0_0 x3_2).length) = True := eq_true (by omega); (try rw [show ((0 : Int)).toNat = 0 from rfl] at hx743_0); (try rw [Addr.add_zero'] at hx743_0); replace hx743_0 := (HB.out.cell (World.block_lt_of_cell? w _ hx743_0)).trans hx743_0; replace p743 := eq_true p743; replace q743 := eq_true q743) | (go_at_call 71; (with_reducible refine (arboristref06_small.calls (rd (rd_L1 l0_0 x3_2) 0) 1000000 true _ A19.out).mono ?_); rintro e w' ⟨rfl, ⟨nd, rfl⟩⟩; have p745 : 0 ≤ ((ji21) : Int) := of_decide_eq_true qA; have q745 : (ji21) < ((rd_L1 l0_0 x3_2).length : Int) := of_decide_eq_true qA; obtain ⟨ad745, e745, hx745_0⟩ := Kd.at_int HR741_0.out (ji21) p745 q745; obtain rfl : ad743 = ad745 := (by injection e745); replace hx745_0 := (HB.out.cell (World.block_lt_of_cell? w _ hx745_0)).trans hx745_0; replace p745 := eq_true p745; replace q745 := eq_true q745) | (go_at_call 71; (with_reducible refine (arboristref06_small.calls (rd (rd_L1 l0_0 x3_2) (ji21)) 1000000 false _ A24.out).mono ?_); rintro e w' ⟨rfl, ⟨nd, rfl⟩⟩))
                go_ret
                exact ⟨by first | rfl | (simp [errW_none, errW_some] <;> rfl) | (simp only [← hji21]; first | rfl | (simp [errW_none, errW_some] <;> rfl)) | (simp [*, errW_none, errW_some] <;> rfl), by repeat (first | (with_reducible first | exact HB.out | apply below_alloc | apply pw_below_drewN | apply below_drew1 | refine below_set ?_ GE740.out) | exact HB.out)⟩
              ·rw [if_neg c23] at H
               exact absurd H (by simp)
             ·rw [if_neg c22] at H
              exact absurd H (by simp)
            ·replace c20 := Bool.eq_false_iff.mpr c20;subst c20;replace H : (some false) = some r := by rw [if_neg (show ¬ (false = true) by decide)] at H; exact H
             obtain rfl := Option.some.inj H;have hcz28_0 : wr.cell? ⟨gb740, 0, none⟩ = some (.slice A0_0 l0_0.length c0_0) := (blk_cell BK740.out 0).trans rfl;have hcz28_1 : wr.cell? ⟨gb740, 1, none⟩ = some (.slice A0_1 l0_1.length c0_1) := (blk_cell BK740.out 1).trans rfl;have hcz28_2 : wr.cell? ⟨gb740, 2, none⟩ = some (.slice A0_2 l0_2.length c0_2) := (blk_cell BK740.out 2).trans rfl;have hfz28_0 := blk_frozen BK740.out 0;have hfz28_1 := blk_frozen BK740.out 1;have hfz28_2 := blk_frozen BK740.out 2;have p741 : 0 ≤ (x3_2 : Int) := of_decide_eq_true qA;have q741 : x3_2 < (l0_0.length : Int) := of_decide_eq_true qA;obtain ⟨ad741, A741_0, c741_0, e741, hx741_0, hl741_0, hi741_0⟩ := at_L1 HR0_0.out x3_2 p741 q741;cases e741
             replace hx741_0 := (HB.out.cell (World.block_lt_of_cell? w _ hx741_0)).trans hx741_0;have HR741_0 := Aside0.mk hi741_0;have HC741_0 := Aside0.mk hl741_0;clear hi741_0 hl741_0;replace p741 := eq_true p741;replace q741 := eq_true q741;go_wp2_with (first | (go_at_call 48; (with_reducible refine (arboristref01_Rising.calls k2 _ _ (rd_L1 l0_0 x3_2) true _ ?side1 ?side2 A16.out).mono ?_); (case side1 => exact qC (Kd.C_below HR741_0.out HB.out)); (case side2 => exact HC741_0.out); rintro e w' ⟨rfl, ⟨nd, rfl⟩⟩; have p743 : 0 ≤ (0 : Int) := (by omega); have q743 : 0 < ((rd_L1 l0_0 x3_2).length : Int) := of_decide_eq_true qA; obtain ⟨ad743, e743, hx743_0⟩ := Kd.at_int HR741_0.out 0 p743 q743; cases e743; have qi743 : (0 < (rd_L1 l0_0 x3_2).length) = True := eq_true (by omega); (try rw [show ((0 : Int)).toNat = 0 from rfl] at hx743_0); (try rw [Addr.add_zero'] at hx743_0); replace hx743_0 := (HB.out.cell (World.block_lt_of_cell? w _ hx743_0)).trans hx743_0; replace p743 := eq_true p743; replace q743 := eq_true q743) | (go_at_call 71; (with_reducible refine (arboristref06_small.calls (rd (rd_L1 l0_0 x3_2) 0) 1000000 false _ A19.out).mono ?_); rintro e w' ⟨rfl, ⟨nd, rfl⟩⟩))
             go_ret
             exact ⟨by first | rfl | (simp [errW_none, errW_some] <;> rfl) | (simp [*, errW_none, errW_some] <;> rfl), by repeat (first | (with_reducible first | exact HB.out | apply below_alloc | apply pw_below_drewN | apply below_drew1 | refine below_set ?_ GE740.out) | exact HB.out)⟩
           ·rw [if_neg c18] at H
            exact absurd H (by simp)
          ·replace c17 := Bool.eq_false_iff.mpr c17;subst c17;replace H : (some false) = some r := by rw [if_neg (show ¬ (false = true) by decide)] at H; exact H
           obtain rfl := Option.some.inj H;have hcz29_0 : wr.cell? ⟨gb740, 0, none⟩ = some (.slice A0_0 l0_0.length c0_0) := (blk_cell BK740.out 0).trans rfl;have hcz29_1 : wr.cell? ⟨gb740, 1, none⟩ = some (.slice A0_1 l0_1.length c0_1) := (blk_cell BK740.out 1).trans rfl;have hcz29_2 : wr.cell? ⟨gb740, 2, none⟩ = some (.slice A0_2 l0_2.length c0_2) := (blk_cell BK740.out 2).trans rfl;have hfz29_0 := blk_frozen BK740.out 0;have hfz29_1 := blk_frozen BK740.out 1;have hfz29_2 := blk_frozen BK740.out 2;have p741 : 0 ≤ (x3_2 : Int) := of_decide_eq_true qA;have q741 : x3_2 < (l0_0.length : Int) := of_decide_eq_true qA;obtain ⟨ad741, A741_0, c741_0, e741, hx741_0, hl741_0, hi741_0⟩ := at_L1 HR0_0.out x3_2 p741 q741;cases e741
           replace hx741_0 := (HB.out.cell (World.block_lt_of_cell? w _ hx741_0)).trans hx741_0;have HR741_0 := Aside0.mk hi741_0;have HC741_0 := Aside0.mk hl741_0;clear hi741_0 hl741_0;replace p741 := eq_true p741;replace q741 := eq_true q741;go_wp2_with (first | (go_at_call 48; (with_reducible refine (arboristref01_Rising.calls k2 _ _ (rd_L1 l0_0 x3_2) false _ ?side1 ?side2 A16.out).mono ?_); (case side1 => exact qC (Kd.C_below HR741_0.out HB.out)); (case side2 => exact HC741_0.out); rintro e w' ⟨rfl, ⟨nd, rfl⟩⟩))
           go_ret
           exact ⟨by first | rfl | (simp [errW_none, errW_some] <;> rfl) | (simp [*, errW_none, errW_some] <;> rfl), by repeat (first | (with_reducible first | exact HB.out | apply below_alloc | apply pw_below_drewN | apply below_drew1 | refine below_set ?_ GE740.out) | exact HB.out)⟩
       ·rw [if_neg c11] at H
        exact absurd H (by simp)
      ·rw [if_neg c10] at H
       have c10b0 : decide (x3_2 < (l0_0.length : Int)) = false := decide_eq_false c10;clear c10;have H' := Aside0.mk H;clear H;have hcz30_0 : wr.cell? ⟨gb740, 0, none⟩ = some (.slice A0_0 l0_0.length c0_0) := (blk_cell BK740.out 0).trans rfl;have hcz30_1 : wr.cell? ⟨gb740, 1, none⟩ = some (.slice A0_1 l0_1.length c0_1) := (blk_cell BK740.out 1).trans rfl;have hcz30_2 : wr.cell? ⟨gb740, 2, none⟩ = some (.slice A0_2 l0_2.length c0_2) := (blk_cell BK740.out 2).trans rfl;have hfz30_0 := blk_frozen BK740.out 0;have hfz30_1 := blk_frozen BK740.out 1;have hfz30_2 := blk_frozen BK740.out 2;go_wp2
       go_loopg [5, 6] k2 (fun kq v5 v6 w' => ∃ (x5_3 : Bool) (x6_3 : Int), v5 = .bool x5_3 ∧ v6 = .int .i64 x6_3 ∧ Aside0 (arboristref06_Right.l1 kq x5_3 x6_3 l0_0 l0_1 l0_2 = some r) ∧ Aside0 (kq ≤ k2) ∧ Aside0 (w'.heap[gb740]? = some (.cells #[(.slice A0_0 l0_0.length c0_0), (.slice A0_1 l0_1.length c0_1), (.slice A0_2 l0_2.length c0_2)] 49 (0, 0))) ∧ Aside0 (Below w.heap.size w w'))
       case atStart => exact ⟨(true), (0), (by first | rfl | (simp; done) | (simp [*]; done)), (by first | rfl | (simp; done) | (simp [*]; done)), H', ⟨Nat.le_refl _⟩, ⟨qK BK740.out⟩, ⟨qB1 GE740.out HB.out⟩⟩
       case round =>
        clear H';try clear c1
        try clear c2
        try clear p2
        try clear c4
        try clear c4b0
        try clear c4b1
        try clear c6
        try clear c6b0
        try clear c6b1
        try clear p6
        try clear c7
        try clear p7
        try clear q7
        try clear hx7
        try clear qi7
        try clear c9
        try clear c10
        try clear c10b0
        try clear c11
        try clear c11b0
        try clear c12
        try clear c12b0
        try clear c12b1
        try clear c14
        try clear c14b0
        try clear c14b1
        try clear c17
        try clear c18
        try clear c18b0
        try clear c18b1
        try clear c20
        try clear c22
        try clear c22b0
        try clear c23
        try clear c23b0
        try clear c25
        try clear hcz13_0
        try clear hcz13_1
        try clear hcz13_2
        try clear hcz15_0
        try clear hcz15_1
        try clear hcz15_2
        try clear hcz26_0
        try clear hcz26_1
        try clear hcz26_2
        try clear hcz27_0
        try clear hcz27_1
        try clear hcz27_2
        try clear hcz28_0
        try clear hcz28_1
        try clear hcz28_2
        try clear hcz29_0
        try clear hcz29_1
        try clear hcz29_2
        try clear hcz30_0
        try clear hcz30_1
        try clear hcz30_2
        try clear hcz5_0
        try clear hcz5_1
        try clear hcz5_2
        try clear hcz7_0
        try clear hcz7_1
        try clear hcz7_2
        try clear hcz8_0
        try clear hcz8_1
        try clear hcz8_2
        try clear hfz13_0
        try clear hfz13_1
        try clear hfz13_2
        try clear hfz15_0
        try clear hfz15_1
        try clear hfz15_2
        try clear hfz26_0
        try clear hfz26_1
        try clear hfz26_2
        try clear hfz27_0
        try clear hfz27_1
        try clear hfz27_2
        try clear hfz28_0
        try clear hfz28_1
        try clear hfz28_2
        try clear hfz29_0
        try clear hfz29_1
        try clear hfz29_2
        try clear hfz30_0
        try clear hfz30_1
        try clear hfz30_2
        try clear hfz5_0
        try clear hfz5_1
        try clear hfz5_2
        try clear hfz7_0
        try clear hfz7_1
        try clear hfz7_2
        try clear hfz8_0
        try clear hfz8_1
        try clear hfz8_2
        try clear hx741_0
        try clear hx743_0
        try clear hx745_0
        try clear p2
        try clear p741
        try clear p743
        try clear p745
        try clear q741
        try clear q743
        try clear q745
        obtain ⟨x5_3, x6_3, rfl, rfl, HA, HK3, BK740, HB⟩ := hrel;cases gk with
        | zero => exact absurd HA.out (by simp [arboristref06_Right.l1])
        | succ k3 =>
         have H := HA.out;clear HA;simp only [arboristref06_Right.l1] at H
         by_cases c31 : x6_3 < (l0_1.length : Int)
         ·rw [if_pos c31] at H
          have c31b0 : decide (x6_3 < (l0_1.length : Int)) = true := decide_eq_true c31;clear c31;by_cases c32 : 0 ≤ x6_3
          ·rw [if_pos c32] at H
           have c32b0 : decide (0 ≤ x6_3) = true := decide_eq_true c32;clear c32;replace H := Option.bind_eq_some_iff.mp H;obtain ⟨t748, A330, H⟩ := H;(try dsimp only at H);have A33 := Aside0.mk A330;clear A330;by_cases c34 : x5_3 = true
           ·subst c34;replace H : (arboristref06_Right.l1 k3 t748 (wrap64 (x6_3 + 1)) l0_0 l0_1 l0_2) = some r := by rw [if_pos rfl] at H; exact H
            have H' := Aside0.mk H;clear H;have hcz35_0 : wr.cell? ⟨gb740, 0, none⟩ = some (.slice A0_0 l0_0.length c0_0) := (blk_cell BK740.out 0).trans rfl;have hcz35_1 : wr.cell? ⟨gb740, 1, none⟩ = some (.slice A0_1 l0_1.length c0_1) := (blk_cell BK740.out 1).trans rfl;have hcz35_2 : wr.cell? ⟨gb740, 2, none⟩ = some (.slice A0_2 l0_2.length c0_2) := (blk_cell BK740.out 2).trans rfl;have hfz35_0 := blk_frozen BK740.out 0;have hfz35_1 := blk_frozen BK740.out 1;have hfz35_2 := blk_frozen BK740.out 2;try go_wp2
            replace BK740 := Aside0.mk (blk_drew BK740.out);replace HB := Aside0.mk (below_drew1 HB.out);have p747 : 0 ≤ (x6_3 : Int) := of_decide_eq_true qA;have q747 : x6_3 < (l0_1.length : Int) := of_decide_eq_true qA;obtain ⟨ad747, A747_1, c747_1, A747_2, c747_2, A747_3, c747_3, e747, hx747_0, hx747_1, hx747_2, hx747_3, hl747_1, hi747_1, hl747_2, hi747_2, hl747_3, hi747_3⟩ := at_T69 HR0_1.out x6_3 p747 q747;have hw747_3 := hx747_3;have hw747_2 := hx747_2;have hw747_1 := hx747_1;have hw747_0 := hx747_0;cases e747
            replace hx747_0 := (HB.out.cell (World.block_lt_of_cell? w _ hx747_0)).trans hx747_0;replace hx747_1 := (HB.out.cell (World.block_lt_of_cell? w _ hx747_1)).trans hx747_1;replace hx747_2 := (HB.out.cell (World.block_lt_of_cell? w _ hx747_2)).trans hx747_2;replace hx747_3 := (HB.out.cell (World.block_lt_of_cell? w _ hx747_3)).trans hx747_3;have HR747_1 := Aside0.mk hi747_1;have HC747_1 := Aside0.mk hl747_1;clear hi747_1 hl747_1;have HR747_2 := Aside0.mk hi747_2;have HC747_2 := Aside0.mk hl747_2;clear hi747_2 hl747_2;have HR747_3 := Aside0.mk hi747_3;have HC747_3 := Aside0.mk hl747_3;clear hi747_3 hl747_3;replace p747 := eq_true p747;replace q747 := eq_true q747;refine start_ (n := 8) (S := fun w' => w'.cell? ⟨gb740, 0, none⟩ = some (.slice A0_0 l0_0.length c0_0) ∧ w'.cell? ⟨gb740, 1, none⟩ = some (.slice (some ad747) l0_1.length c0_1) ∧ w'.cell? ⟨gb740, 2, none⟩ = some (.slice A0_2 l0_2.length c0_2) ∧ w'.cell? (ad747.add ((x6_3).toNat * 4)) = some (.int .i64 ((rd_T69 l0_1 x6_3).f0)) ∧ w'.cell? ⟨(ad747.add ((x6_3).toNat * 4)).block, (ad747.add ((x6_3).toNat * 4)).off + 1, none⟩ = some (.slice A747_1 ((rd_T69 l0_1 x6_3).f1).length c747_1) ∧ w'.cell? ⟨(ad747.add ((x6_3).toNat * 4)).block, (ad747.add ((x6_3).toNat * 4)).off + 2, none⟩ = some (.slice A747_2 ((rd_T69 l0_1 x6_3).f2).length c747_2) ∧ w'.cell? ⟨(ad747.add ((x6_3).toNat * 4)).block, (ad747.add ((x6_3).toNat * 4)).off + 3, none⟩ = some (.slice A747_3 ((rd_T69 l0_1 x6_3).f3).length c747_3)) (ds := []) (bs 8 0) (by kernel_rfl) rfl rfl ⟨(blk_cell BK740.out 0).trans rfl, (blk_cell BK740.out 1).trans rfl, (blk_cell BK740.out 2).trans rfl, ((HB.out.cell (World.block_lt_of_cell? w _ hw747_0)).trans hw747_0), ((HB.out.cell (World.block_lt_of_cell? w _ hw747_1)).trans hw747_1), ((HB.out.cell (World.block_lt_of_cell? w _ hw747_2)).trans hw747_2), ((HB.out.cell (World.block_lt_of_cell? w _ hw747_3)).trans hw747_3)⟩ (fun hHeld => ?_); refine with_tabW arboristref06_Right.tab13 arboristref06_Right.bits13 (fun HT_ HW_ => ?_)
            generalize wr.drew = w36 at BK740 HB HR747_1 HR747_2 HR747_3 hx747_0 hx747_1 hx747_2 hx747_3 hHeld ⊢
            refine qP 1 (some 76) (bs 8 2) HT_.out ?_;refine qP 3 (some 78) (bs 8 10) HT_.out ?_;refine take_ (i := 0) (N := some 75) (v := ?_) (a' := ?_) (bs 8 11) rfl rfl (take_ofW HT_.out HW_.out (by kernel_rfl)) (fun _ _ _ h => h) (Or.inl ⟨by rfl, ?_⟩) hHeld ?_ ?_;rotate_left
            ·rintro w' ⟨s0, s1, s2, s3, s4, s5, s6⟩
             go_simp
             with_reducible rfl
            rotate_left; (simp only [Act.put, List.setIfInBounds_toArray, List.set_cons_zero, List.set_cons_succ, i64_w, i32_w]; rfl)
            refine take_ (i := 2) (N := some 77) (v := ?_) (a' := ?_) (bs 8 15) rfl rfl (take_ofW HT_.out HW_.out (by kernel_rfl)) (fun _ _ _ h => h) (Or.inl ⟨by rfl, ?_⟩) hHeld ?_ ?_;rotate_left
            ·rintro w' ⟨s0, s1, s2, s3, s4, s5, s6⟩
             go_simp
             with_reducible rfl
            rotate_left; (simp only [Act.put, List.setIfInBounds_toArray, List.set_cons_zero, List.set_cons_succ, i64_w, i32_w]; rfl)
            refine qP 4 (some 79) (bs 8 31) HT_.out ?_;refine take_ (i := 5) (N := some 80) (v := ?_) (a' := ?_) (bs 8 63) rfl rfl (take_ofW HT_.out HW_.out (by kernel_rfl)) (fun _ _ _ h => h) (Or.inl ⟨by rfl, ?_⟩) hHeld ?_ ?_;rotate_left
            ·rintro w' ⟨s0, s1, s2, s3, s4, s5, s6⟩
             go_simp
             with_reducible rfl
            rotate_left; (simp only [Act.put, List.setIfInBounds_toArray, List.set_cons_zero, List.set_cons_succ, i64_w, i32_w]; rfl)
            refine one_ (i := 6) (N := some 81) (bs 8 127) rfl rfl (one_of HT_.out (by kernel_rfl)) (by decide) (fun K hK => ?_);refine goes_ Try.func72 (by kernel_rfl) rfl #[.agg #[.slice A0_0 l0_0.length c0_0, .slice (some ad747) l0_1.length c0_1, .slice A0_2 l0_2.length c0_2], .agg #[.int .i64 ((rd_T69 l0_1 x6_3).f0), .slice A747_1 ((rd_T69 l0_1 x6_3).f1).length c747_1, .slice A747_2 ((rd_T69 l0_1 x6_3).f2).length c747_2, .slice A747_3 ((rd_T69 l0_1 x6_3).f3).length c747_3]] (by rfl) rfl rfl qM ?_;with_reducible refine (arboristref06_hard.calls k3 _ _ l0_0 _ _ l0_1 _ _ l0_2 ((rd_T69 l0_1 x6_3).f0) _ _ ((rd_T69 l0_1 x6_3).f1) _ _ ((rd_T69 l0_1 x6_3).f2) _ _ ((rd_T69 l0_1 x6_3).f3) t748 _ ?side1 ?side2 ?side3 ?side4 ?side5 ?side6 ?side7 ?side8 ?side9 ?side10 ?side11 ?side12 A33.out).mono ?_
            (case side1 => exact qC (Kd.C_below HR0_0.out HB.out));(case side2 => exact HC0_0.out);(case side3 => exact qC (Kd.C_below HR0_1.out HB.out));(case side4 => exact HC0_1.out);(case side5 => exact qC (Kd.C_below HR0_2.out HB.out));(case side6 => exact HC0_2.out);(case side7 => exact qC (Kd.C_below HR747_1.out HB.out));(case side8 => exact HC747_1.out);(case side9 => exact qC (Kd.C_below HR747_2.out HB.out));(case side10 => exact HC747_2.out);(case side11 => exact qC (Kd.C_below HR747_3.out HB.out));(case side12 => exact HC747_3.out);rintro e w37 ⟨rfl, hb⟩
            refine ⟨_, rfl, ?_⟩;replace BK740 := Aside0.mk (blk_below (g := gb740) (o := .cells #[.slice A0_0 l0_0.length c0_0, .slice (some ad747) l0_1.length c0_1, .slice A0_2 l0_2.length c0_2] 49 (0, 0)) (qK BK740.out) hb);replace HB := Aside0.mk (below_step (qB1 GE740.out HB.out) hb);(try clear hb);(try clear hb2);(try clear hk);(try clear hi);refine hK.out _ _ ⟨(blk_cell BK740.out 0).trans rfl, (blk_cell BK740.out 1).trans rfl, (blk_cell BK740.out 2).trans rfl, ((HB.out.cell (World.block_lt_of_cell? w _ hw747_0)).trans hw747_0), ((HB.out.cell (World.block_lt_of_cell? w _ hw747_1)).trans hw747_1), ((HB.out.cell (World.block_lt_of_cell? w _ hw747_2)).trans hw747_2), ((HB.out.cell (World.block_lt_of_cell? w _ hw747_3)).trans hw747_3)⟩ (fun hHeld => ?_);clear hK K;refine norm_ (a' := ?_) ?_ ?_;rotate_left
            ·show Act.put _ (some 81) _ = _
             simp only [Act.put, List.setIfInBounds_toArray, List.set_cons_zero, List.set_cons_succ, i64_w, i32_w]
             rfl
            refine qP 7 (some 7) (bs 8 255) HT_.out ?_;refine done_ (done_of HT_.out (by kernel_rfl)) ?_;try go_wp2
            go_roundg k3
            case measure => have := HJ1.out; have := HK2.out; have := HK3.out; omega
            case rel => exact ⟨(t748), (wrap64 (x6_3 + 1)), (by first | rfl | (simp; done) | (simp [*]; done)), (by first | rfl | (simp; done) | (simp [*]; done)), H', ⟨by have := HJ1.out; have := HK2.out; have := HK3.out; omega⟩, ⟨qK BK740.out⟩, ⟨qB1 GE740.out HB.out⟩⟩
           ·replace c34 := Bool.eq_false_iff.mpr c34;subst c34;replace H : (arboristref06_Right.l1 k3 false (wrap64 (x6_3 + 1)) l0_0 l0_1 l0_2) = some r := by rw [if_neg (show ¬ (false = true) by decide)] at H; exact H
            have H' := Aside0.mk H;clear H;have hcz38_0 : wr.cell? ⟨gb740, 0, none⟩ = some (.slice A0_0 l0_0.length c0_0) := (blk_cell BK740.out 0).trans rfl;have hcz38_1 : wr.cell? ⟨gb740, 1, none⟩ = some (.slice A0_1 l0_1.length c0_1) := (blk_cell BK740.out 1).trans rfl;have hcz38_2 : wr.cell? ⟨gb740, 2, none⟩ = some (.slice A0_2 l0_2.length c0_2) := (blk_cell BK740.out 2).trans rfl;have hfz38_0 := blk_frozen BK740.out 0;have hfz38_1 := blk_frozen BK740.out 1;have hfz38_2 := blk_frozen BK740.out 2;try go_wp2
            replace BK740 := Aside0.mk (blk_drew BK740.out);replace HB := Aside0.mk (below_drew1 HB.out);have p747 : 0 ≤ (x6_3 : Int) := of_decide_eq_true qA;have q747 : x6_3 < (l0_1.length : Int) := of_decide_eq_true qA;obtain ⟨ad747, A747_1, c747_1, A747_2, c747_2, A747_3, c747_3, e747, hx747_0, hx747_1, hx747_2, hx747_3, hl747_1, hi747_1, hl747_2, hi747_2, hl747_3, hi747_3⟩ := at_T69 HR0_1.out x6_3 p747 q747;have hw747_3 := hx747_3;have hw747_2 := hx747_2;have hw747_1 := hx747_1;have hw747_0 := hx747_0;cases e747
            replace hx747_0 := (HB.out.cell (World.block_lt_of_cell? w _ hx747_0)).trans hx747_0;replace hx747_1 := (HB.out.cell (World.block_lt_of_cell? w _ hx747_1)).trans hx747_1;replace hx747_2 := (HB.out.cell (World.block_lt_of_cell? w _ hx747_2)).trans hx747_2;replace hx747_3 := (HB.out.cell (World.block_lt_of_cell? w _ hx747_3)).trans hx747_3;have HR747_1 := Aside0.mk hi747_1;have HC747_1 := Aside0.mk hl747_1;clear hi747_1 hl747_1;have HR747_2 := Aside0.mk hi747_2;have HC747_2 := Aside0.mk hl747_2;clear hi747_2 hl747_2;have HR747_3 := Aside0.mk hi747_3;have HC747_3 := Aside0.mk hl747_3;clear hi747_3 hl747_3;replace p747 := eq_true p747;replace q747 := eq_true q747;refine start_ (n := 8) (S := fun w' => w'.cell? ⟨gb740, 0, none⟩ = some (.slice A0_0 l0_0.length c0_0) ∧ w'.cell? ⟨gb740, 1, none⟩ = some (.slice (some ad747) l0_1.length c0_1) ∧ w'.cell? ⟨gb740, 2, none⟩ = some (.slice A0_2 l0_2.length c0_2) ∧ w'.cell? (ad747.add ((x6_3).toNat * 4)) = some (.int .i64 ((rd_T69 l0_1 x6_3).f0)) ∧ w'.cell? ⟨(ad747.add ((x6_3).toNat * 4)).block, (ad747.add ((x6_3).toNat * 4)).off + 1, none⟩ = some (.slice A747_1 ((rd_T69 l0_1 x6_3).f1).length c747_1) ∧ w'.cell? ⟨(ad747.add ((x6_3).toNat * 4)).block, (ad747.add ((x6_3).toNat * 4)).off + 2, none⟩ = some (.slice A747_2 ((rd_T69 l0_1 x6_3).f2).length c747_2) ∧ w'.cell? ⟨(ad747.add ((x6_3).toNat * 4)).block, (ad747.add ((x6_3).toNat * 4)).off + 3, none⟩ = some (.slice A747_3 ((rd_T69 l0_1 x6_3).f3).length c747_3)) (ds := []) (bs 8 0) (by kernel_rfl) rfl rfl ⟨(blk_cell BK740.out 0).trans rfl, (blk_cell BK740.out 1).trans rfl, (blk_cell BK740.out 2).trans rfl, ((HB.out.cell (World.block_lt_of_cell? w _ hw747_0)).trans hw747_0), ((HB.out.cell (World.block_lt_of_cell? w _ hw747_1)).trans hw747_1), ((HB.out.cell (World.block_lt_of_cell? w _ hw747_2)).trans hw747_2), ((HB.out.cell (World.block_lt_of_cell? w _ hw747_3)).trans hw747_3)⟩ (fun hHeld => ?_); refine with_tabW arboristref06_Right.tab13 arboristref06_Right.bits13 (fun HT_ HW_ => ?_)
            generalize wr.drew = w39 at BK740 HB HR747_1 HR747_2 HR747_3 hx747_0 hx747_1 hx747_2 hx747_3 hHeld ⊢
            refine qP 1 (some 76) (bs 8 2) HT_.out ?_;refine qP 3 (some 78) (bs 8 10) HT_.out ?_;refine take_ (i := 0) (N := some 75) (v := ?_) (a' := ?_) (bs 8 11) rfl rfl (take_ofW HT_.out HW_.out (by kernel_rfl)) (fun _ _ _ h => h) (Or.inl ⟨by rfl, ?_⟩) hHeld ?_ ?_;rotate_left
            ·rintro w' ⟨s0, s1, s2, s3, s4, s5, s6⟩
             go_simp
             with_reducible rfl
            rotate_left; (simp only [Act.put, List.setIfInBounds_toArray, List.set_cons_zero, List.set_cons_succ, i64_w, i32_w]; rfl)
            refine take_ (i := 2) (N := some 77) (v := ?_) (a' := ?_) (bs 8 15) rfl rfl (take_ofW HT_.out HW_.out (by kernel_rfl)) (fun _ _ _ h => h) (Or.inl ⟨by rfl, ?_⟩) hHeld ?_ ?_;rotate_left
            ·rintro w' ⟨s0, s1, s2, s3, s4, s5, s6⟩
             go_simp
             with_reducible rfl
            rotate_left; (simp only [Act.put, List.setIfInBounds_toArray, List.set_cons_zero, List.set_cons_succ, i64_w, i32_w]; rfl)
            refine qP 4 (some 79) (bs 8 31) HT_.out ?_;refine take_ (i := 5) (N := some 80) (v := ?_) (a' := ?_) (bs 8 63) rfl rfl (take_ofW HT_.out HW_.out (by kernel_rfl)) (fun _ _ _ h => h) (Or.inl ⟨by rfl, ?_⟩) hHeld ?_ ?_;rotate_left
            ·rintro w' ⟨s0, s1, s2, s3, s4, s5, s6⟩
             go_simp
             with_reducible rfl
            rotate_left; (simp only [Act.put, List.setIfInBounds_toArray, List.set_cons_zero, List.set_cons_succ, i64_w, i32_w]; rfl)
            refine one_ (i := 6) (N := some 81) (bs 8 127) rfl rfl (one_of HT_.out (by kernel_rfl)) (by decide) (fun K hK => ?_);refine goes_ Try.func72 (by kernel_rfl) rfl #[.agg #[.slice A0_0 l0_0.length c0_0, .slice (some ad747) l0_1.length c0_1, .slice A0_2 l0_2.length c0_2], .agg #[.int .i64 ((rd_T69 l0_1 x6_3).f0), .slice A747_1 ((rd_T69 l0_1 x6_3).f1).length c747_1, .slice A747_2 ((rd_T69 l0_1 x6_3).f2).length c747_2, .slice A747_3 ((rd_T69 l0_1 x6_3).f3).length c747_3]] (by rfl) rfl rfl qM ?_;with_reducible refine (arboristref06_hard.calls k3 _ _ l0_0 _ _ l0_1 _ _ l0_2 ((rd_T69 l0_1 x6_3).f0) _ _ ((rd_T69 l0_1 x6_3).f1) _ _ ((rd_T69 l0_1 x6_3).f2) _ _ ((rd_T69 l0_1 x6_3).f3) t748 _ ?side1 ?side2 ?side3 ?side4 ?side5 ?side6 ?side7 ?side8 ?side9 ?side10 ?side11 ?side12 A33.out).mono ?_
            (case side1 => exact qC (Kd.C_below HR0_0.out HB.out));(case side2 => exact HC0_0.out);(case side3 => exact qC (Kd.C_below HR0_1.out HB.out));(case side4 => exact HC0_1.out);(case side5 => exact qC (Kd.C_below HR0_2.out HB.out));(case side6 => exact HC0_2.out);(case side7 => exact qC (Kd.C_below HR747_1.out HB.out));(case side8 => exact HC747_1.out);(case side9 => exact qC (Kd.C_below HR747_2.out HB.out));(case side10 => exact HC747_2.out);(case side11 => exact qC (Kd.C_below HR747_3.out HB.out));(case side12 => exact HC747_3.out);rintro e w40 ⟨rfl, hb⟩
            refine ⟨_, rfl, ?_⟩;replace BK740 := Aside0.mk (blk_below (g := gb740) (o := .cells #[.slice A0_0 l0_0.length c0_0, .slice (some ad747) l0_1.length c0_1, .slice A0_2 l0_2.length c0_2] 49 (0, 0)) (qK BK740.out) hb);replace HB := Aside0.mk (below_step (qB1 GE740.out HB.out) hb);(try clear hb);(try clear hb2);(try clear hk);(try clear hi);refine hK.out _ _ ⟨(blk_cell BK740.out 0).trans rfl, (blk_cell BK740.out 1).trans rfl, (blk_cell BK740.out 2).trans rfl, ((HB.out.cell (World.block_lt_of_cell? w _ hw747_0)).trans hw747_0), ((HB.out.cell (World.block_lt_of_cell? w _ hw747_1)).trans hw747_1), ((HB.out.cell (World.block_lt_of_cell? w _ hw747_2)).trans hw747_2), ((HB.out.cell (World.block_lt_of_cell? w _ hw747_3)).trans hw747_3)⟩ (fun hHeld => ?_);clear hK K;refine norm_ (a' := ?_) ?_ ?_;rotate_left
            ·show Act.put _ (some 81) _ = _
             simp only [Act.put, List.setIfInBounds_toArray, List.set_cons_zero, List.set_cons_succ, i64_w, i32_w]
             rfl
            refine qP 7 (some 7) (bs 8 255) HT_.out ?_;refine done_ (done_of HT_.out (by kernel_rfl)) ?_;try go_wp2
            go_roundg k3
            case measure => have := HJ1.out; have := HK2.out; have := HK3.out; omega
            case rel => exact ⟨(false), (wrap64 (x6_3 + 1)), (by first | rfl | (simp; done) | (simp [*]; done)), (by first | rfl | (simp; done) | (simp [*]; done)), H', ⟨by have := HJ1.out; have := HK2.out; have := HK3.out; omega⟩, ⟨qK BK740.out⟩, ⟨qB1 GE740.out HB.out⟩⟩
          ·rw [if_neg c32] at H
           exact absurd H (by simp)
         ·rw [if_neg c31] at H
          have c31b0 : decide (x6_3 < (l0_1.length : Int)) = false := decide_eq_false c31;clear c31;have H' := Aside0.mk H;clear H;have hcz41_0 : wr.cell? ⟨gb740, 0, none⟩ = some (.slice A0_0 l0_0.length c0_0) := (blk_cell BK740.out 0).trans rfl;have hcz41_1 : wr.cell? ⟨gb740, 1, none⟩ = some (.slice A0_1 l0_1.length c0_1) := (blk_cell BK740.out 1).trans rfl;have hcz41_2 : wr.cell? ⟨gb740, 2, none⟩ = some (.slice A0_2 l0_2.length c0_2) := (blk_cell BK740.out 2).trans rfl;have hfz41_0 := blk_frozen BK740.out 0;have hfz41_1 := blk_frozen BK740.out 1;have hfz41_2 := blk_frozen BK740.out 2;go_wp2
          go_loopg [5, 8] k3 (fun kq v5 v8 w' => ∃ (x5_4 : Bool) (x8_4 : Int), v5 = .bool x5_4 ∧ v8 = .int .i64 x8_4 ∧ Aside0 (arboristref06_Right.l2 kq x5_4 x8_4 l0_0 l0_1 l0_2 = some r) ∧ Aside0 (kq ≤ k3) ∧ Aside0 (w'.heap[gb740]? = some (.cells #[(.slice A0_0 l0_0.length c0_0), (.slice A0_1 l0_1.length c0_1), (.slice A0_2 l0_2.length c0_2)] 49 (0, 0))) ∧ Aside0 (Below w.heap.size w w'))
          case atStart => exact ⟨(x5_3), (0), (by first | rfl | (simp; done) | (simp [*]; done)), (by first | rfl | (simp; done) | (simp [*]; done)), H', ⟨Nat.le_refl _⟩, ⟨qK BK740.out⟩, ⟨qB1 GE740.out HB.out⟩⟩
          case round =>
           clear H';try clear c1
           try clear c2
           try clear p2
           try clear c3
           try clear c4
           try clear c4b0
           try clear c4b1
           try clear c6
           try clear c6b0
           try clear c6b1
           try clear p6
           try clear c7
           try clear p7
           try clear q7
           try clear hx7
           try clear qi7
           try clear c9
           try clear c10
           try clear c10b0
           try clear c11
           try clear c11b0
           try clear c12
           try clear c12b0
           try clear c12b1
           try clear c14
           try clear c14b0
           try clear c14b1
           try clear c17
           try clear c18
           try clear c18b0
           try clear c18b1
           try clear c20
           try clear c22
           try clear c22b0
           try clear c23
           try clear c23b0
           try clear c25
           try clear c31
           try clear c31b0
           try clear c32
           try clear c32b0
           try clear c34
           try clear hcz13_0
           try clear hcz13_1
           try clear hcz13_2
           try clear hcz15_0
           try clear hcz15_1
           try clear hcz15_2
           try clear hcz26_0
           try clear hcz26_1
           try clear hcz26_2
           try clear hcz27_0
           try clear hcz27_1
           try clear hcz27_2
           try clear hcz28_0
           try clear hcz28_1
           try clear hcz28_2
           try clear hcz29_0
           try clear hcz29_1
           try clear hcz29_2
           try clear hcz30_0
           try clear hcz30_1
           try clear hcz30_2
           try clear hcz35_0
           try clear hcz35_1
           try clear hcz35_2
           try clear hcz38_0
           try clear hcz38_1
           try clear hcz38_2
           try clear hcz41_0
           try clear hcz41_1
           try clear hcz41_2
           try clear hcz5_0
           try clear hcz5_1
           try clear hcz5_2
           try clear hcz7_0
           try clear hcz7_1
           try clear hcz7_2
           try clear hcz8_0
           try clear hcz8_1
           try clear hcz8_2
           try clear hfz13_0
           try clear hfz13_1
           try clear hfz13_2
           try clear hfz15_0
           try clear hfz15_1
           try clear hfz15_2
           try clear hfz26_0
           try clear hfz26_1
           try clear hfz26_2
           try clear hfz27_0
           try clear hfz27_1
           try clear hfz27_2
           try clear hfz28_0
           try clear hfz28_1
           try clear hfz28_2
           try clear hfz29_0
           try clear hfz29_1
           try clear hfz29_2
           try clear hfz30_0
           try clear hfz30_1
           try clear hfz30_2
           try clear hfz35_0
           try clear hfz35_1
           try clear hfz35_2
           try clear hfz38_0
           try clear hfz38_1
           try clear hfz38_2
           try clear hfz41_0
           try clear hfz41_1
           try clear hfz41_2
           try clear hfz5_0
           try clear hfz5_1
           try clear hfz5_2
           try clear hfz7_0
           try clear hfz7_1
           try clear hfz7_2
           try clear hfz8_0
           try clear hfz8_1
           try clear hfz8_2
           try clear hx741_0
           try clear hx743_0
           try clear hx745_0
           try clear hx747_0
           try clear hx747_1
           try clear hx747_2
           try clear hx747_3
           try clear p2
           try clear p6
           try clear p7
           try clear p741
           try clear p743
           try clear p745
           try clear p747
           try clear q7
           try clear q741
           try clear q743
           try clear q745
           try clear q747
           obtain ⟨x5_4, x8_4, rfl, rfl, HA, HK4, BK740, HB⟩ := hrel;cases gk with
           | zero => exact absurd HA.out (by simp [arboristref06_Right.l2])
           | succ k4 =>
            have H := HA.out;clear HA;simp only [arboristref06_Right.l2] at H
            by_cases c42 : x8_4 < (l0_2.length : Int)
            ·rw [if_pos c42] at H
             have c42b0 : decide (x8_4 < (l0_2.length : Int)) = true := decide_eq_true c42;clear c42;by_cases c43 : 0 ≤ x8_4
             ·rw [if_pos c43] at H
              have c43b0 : decide (0 ≤ x8_4) = true := decide_eq_true c43;clear c43;replace H := Option.bind_eq_some_iff.mp H;obtain ⟨t750, A440, H⟩ := H;(try dsimp only at H);have A44 := Aside0.mk A440;clear A440;by_cases c45 : x5_4 = true
              ·subst c45;replace H : (arboristref06_Right.l2 k4 t750 (wrap64 (x8_4 + 1)) l0_0 l0_1 l0_2) = some r := by rw [if_pos rfl] at H; exact H
               have H' := Aside0.mk H;clear H;have hcz46_0 : wr.cell? ⟨gb740, 0, none⟩ = some (.slice A0_0 l0_0.length c0_0) := (blk_cell BK740.out 0).trans rfl;have hcz46_1 : wr.cell? ⟨gb740, 1, none⟩ = some (.slice A0_1 l0_1.length c0_1) := (blk_cell BK740.out 1).trans rfl;have hcz46_2 : wr.cell? ⟨gb740, 2, none⟩ = some (.slice A0_2 l0_2.length c0_2) := (blk_cell BK740.out 2).trans rfl;have hfz46_0 := blk_frozen BK740.out 0;have hfz46_1 := blk_frozen BK740.out 1;have hfz46_2 := blk_frozen BK740.out 2;try go_wp2
               replace BK740 := Aside0.mk (blk_drew BK740.out);replace HB := Aside0.mk (below_drew1 HB.out);have p749 : 0 ≤ (x8_4 : Int) := of_decide_eq_true qA;have q749 : x8_4 < (l0_2.length : Int) := of_decide_eq_true qA;obtain ⟨ad749, A749_0, c749_0, A749_1, c749_1, A749_2, c749_2, e749, hx749_0, hx749_1, hx749_2, hx749_3, hl749_0, hi749_0, hl749_1, hi749_1, hl749_2, hi749_2⟩ := at_T73 HR0_2.out x8_4 p749 q749;have hw749_3 := hx749_3;have hw749_2 := hx749_2;have hw749_1 := hx749_1;have hw749_0 := hx749_0;cases e749
               replace hx749_0 := (HB.out.cell (World.block_lt_of_cell? w _ hx749_0)).trans hx749_0;replace hx749_1 := (HB.out.cell (World.block_lt_of_cell? w _ hx749_1)).trans hx749_1;replace hx749_2 := (HB.out.cell (World.block_lt_of_cell? w _ hx749_2)).trans hx749_2;replace hx749_3 := (HB.out.cell (World.block_lt_of_cell? w _ hx749_3)).trans hx749_3;have HR749_0 := Aside0.mk hi749_0;have HC749_0 := Aside0.mk hl749_0;clear hi749_0 hl749_0;have HR749_1 := Aside0.mk hi749_1;have HC749_1 := Aside0.mk hl749_1;clear hi749_1 hl749_1;have HR749_2 := Aside0.mk hi749_2;have HC749_2 := Aside0.mk hl749_2;clear hi749_2 hl749_2;replace p749 := eq_true p749;replace q749 := eq_true q749;refine start_ (n := 8) (S := fun w' => w'.cell? ⟨gb740, 0, none⟩ = some (.slice A0_0 l0_0.length c0_0) ∧ w'.cell? ⟨gb740, 1, none⟩ = some (.slice A0_1 l0_1.length c0_1) ∧ w'.cell? ⟨gb740, 2, none⟩ = some (.slice (some ad749) l0_2.length c0_2) ∧ w'.cell? (ad749.add ((x8_4).toNat * 4)) = some (.slice A749_0 ((rd_T73 l0_2 x8_4).f0).length c749_0) ∧ w'.cell? ⟨(ad749.add ((x8_4).toNat * 4)).block, (ad749.add ((x8_4).toNat * 4)).off + 1, none⟩ = some (.slice A749_1 ((rd_T73 l0_2 x8_4).f1).length c749_1) ∧ w'.cell? ⟨(ad749.add ((x8_4).toNat * 4)).block, (ad749.add ((x8_4).toNat * 4)).off + 2, none⟩ = some (.slice A749_2 ((rd_T73 l0_2 x8_4).f2).length c749_2) ∧ w'.cell? ⟨(ad749.add ((x8_4).toNat * 4)).block, (ad749.add ((x8_4).toNat * 4)).off + 3, none⟩ = some (.int .i64 ((rd_T73 l0_2 x8_4).f3))) (ds := []) (bs 8 0) (by kernel_rfl) rfl rfl ⟨(blk_cell BK740.out 0).trans rfl, (blk_cell BK740.out 1).trans rfl, (blk_cell BK740.out 2).trans rfl, ((HB.out.cell (World.block_lt_of_cell? w _ hw749_0)).trans hw749_0), ((HB.out.cell (World.block_lt_of_cell? w _ hw749_1)).trans hw749_1), ((HB.out.cell (World.block_lt_of_cell? w _ hw749_2)).trans hw749_2), ((HB.out.cell (World.block_lt_of_cell? w _ hw749_3)).trans hw749_3)⟩ (fun hHeld => ?_); refine with_tabW arboristref06_Right.tab18 arboristref06_Right.bits18 (fun HT_ HW_ => ?_)
               generalize wr.drew = w47 at BK740 HB HR749_0 HR749_1 HR749_2 hx749_0 hx749_1 hx749_2 hx749_3 hHeld ⊢
               refine qP 1 (some 94) (bs 8 2) HT_.out ?_;refine qP 3 (some 96) (bs 8 10) HT_.out ?_;refine take_ (i := 0) (N := some 93) (v := ?_) (a' := ?_) (bs 8 11) rfl rfl (take_ofW HT_.out HW_.out (by kernel_rfl)) (fun _ _ _ h => h) (Or.inl ⟨by rfl, ?_⟩) hHeld ?_ ?_;rotate_left
               ·rintro w' ⟨s0, s1, s2, s3, s4, s5, s6⟩
                go_simp
                with_reducible rfl
               rotate_left; (simp only [Act.put, List.setIfInBounds_toArray, List.set_cons_zero, List.set_cons_succ, i64_w, i32_w]; rfl)
               refine take_ (i := 2) (N := some 95) (v := ?_) (a' := ?_) (bs 8 15) rfl rfl (take_ofW HT_.out HW_.out (by kernel_rfl)) (fun _ _ _ h => h) (Or.inl ⟨by rfl, ?_⟩) hHeld ?_ ?_;rotate_left
               ·rintro w' ⟨s0, s1, s2, s3, s4, s5, s6⟩
                go_simp
                with_reducible rfl
               rotate_left; (simp only [Act.put, List.setIfInBounds_toArray, List.set_cons_zero, List.set_cons_succ, i64_w, i32_w]; rfl)
               refine qP 4 (some 97) (bs 8 31) HT_.out ?_;refine take_ (i := 5) (N := some 98) (v := ?_) (a' := ?_) (bs 8 63) rfl rfl (take_ofW HT_.out HW_.out (by kernel_rfl)) (fun _ _ _ h => h) (Or.inl ⟨by rfl, ?_⟩) hHeld ?_ ?_;rotate_left
               ·rintro w' ⟨s0, s1, s2, s3, s4, s5, s6⟩
                go_simp
                with_reducible rfl
               rotate_left; (simp only [Act.put, List.setIfInBounds_toArray, List.set_cons_zero, List.set_cons_succ, i64_w, i32_w]; rfl)
               refine one_ (i := 6) (N := some 99) (bs 8 127) rfl rfl (one_of HT_.out (by kernel_rfl)) (by decide) (fun K hK => ?_);refine goes_ Try.func73 (by kernel_rfl) rfl #[.agg #[.slice A0_0 l0_0.length c0_0, .slice A0_1 l0_1.length c0_1, .slice (some ad749) l0_2.length c0_2], .agg #[.slice A749_0 ((rd_T73 l0_2 x8_4).f0).length c749_0, .slice A749_1 ((rd_T73 l0_2 x8_4).f1).length c749_1, .slice A749_2 ((rd_T73 l0_2 x8_4).f2).length c749_2, .int .i64 ((rd_T73 l0_2 x8_4).f3)]] (by rfl) rfl rfl qM ?_;with_reducible refine (arboristref06_soft.calls k4 _ _ l0_0 _ _ l0_1 _ _ l0_2 _ _ ((rd_T73 l0_2 x8_4).f0) _ _ ((rd_T73 l0_2 x8_4).f1) _ _ ((rd_T73 l0_2 x8_4).f2) ((rd_T73 l0_2 x8_4).f3) t750 _ ?side1 ?side2 ?side3 ?side4 ?side5 ?side6 ?side7 ?side8 ?side9 ?side10 ?side11 ?side12 A44.out).mono ?_
               (case side1 => exact qC (Kd.C_below HR0_0.out HB.out));(case side2 => exact HC0_0.out);(case side3 => exact qC (Kd.C_below HR0_1.out HB.out));(case side4 => exact HC0_1.out);(case side5 => exact qC (Kd.C_below HR0_2.out HB.out));(case side6 => exact HC0_2.out);(case side7 => exact qC (Kd.C_below HR749_0.out HB.out));(case side8 => exact HC749_0.out);(case side9 => exact qC (Kd.C_below HR749_1.out HB.out));(case side10 => exact HC749_1.out);(case side11 => exact qC (Kd.C_below HR749_2.out HB.out));(case side12 => exact HC749_2.out);rintro e w48 ⟨rfl, hb⟩
               refine ⟨_, rfl, ?_⟩;replace BK740 := Aside0.mk (blk_below (g := gb740) (o := .cells #[.slice A0_0 l0_0.length c0_0, .slice A0_1 l0_1.length c0_1, .slice (some ad749) l0_2.length c0_2] 49 (0, 0)) (qK BK740.out) hb);replace HB := Aside0.mk (below_step (qB1 GE740.out HB.out) hb);(try clear hb);(try clear hb2);(try clear hk);(try clear hi);refine hK.out _ _ ⟨(blk_cell BK740.out 0).trans rfl, (blk_cell BK740.out 1).trans rfl, (blk_cell BK740.out 2).trans rfl, ((HB.out.cell (World.block_lt_of_cell? w _ hw749_0)).trans hw749_0), ((HB.out.cell (World.block_lt_of_cell? w _ hw749_1)).trans hw749_1), ((HB.out.cell (World.block_lt_of_cell? w _ hw749_2)).trans hw749_2), ((HB.out.cell (World.block_lt_of_cell? w _ hw749_3)).trans hw749_3)⟩ (fun hHeld => ?_);clear hK K;refine norm_ (a' := ?_) ?_ ?_;rotate_left
               ·show Act.put _ (some 99) _ = _
                simp only [Act.put, List.setIfInBounds_toArray, List.set_cons_zero, List.set_cons_succ, i64_w, i32_w]
                rfl
               refine qP 7 (some 9) (bs 8 255) HT_.out ?_;refine done_ (done_of HT_.out (by kernel_rfl)) ?_;try go_wp2
               go_roundg k4
               case measure => have := HJ1.out; have := HK2.out; have := HK3.out; have := HK4.out; omega
               case rel => exact ⟨(t750), (wrap64 (x8_4 + 1)), (by first | rfl | (simp; done) | (simp [*]; done)), (by first | rfl | (simp; done) | (simp [*]; done)), H', ⟨by have := HJ1.out; have := HK2.out; have := HK3.out; have := HK4.out; omega⟩, ⟨qK BK740.out⟩, ⟨qB1 GE740.out HB.out⟩⟩
              ·replace c45 := Bool.eq_false_iff.mpr c45;subst c45;replace H : (arboristref06_Right.l2 k4 false (wrap64 (x8_4 + 1)) l0_0 l0_1 l0_2) = some r := by rw [if_neg (show ¬ (false = true) by decide)] at H; exact H
               have H' := Aside0.mk H;clear H;have hcz49_0 : wr.cell? ⟨gb740, 0, none⟩ = some (.slice A0_0 l0_0.length c0_0) := (blk_cell BK740.out 0).trans rfl;have hcz49_1 : wr.cell? ⟨gb740, 1, none⟩ = some (.slice A0_1 l0_1.length c0_1) := (blk_cell BK740.out 1).trans rfl;have hcz49_2 : wr.cell? ⟨gb740, 2, none⟩ = some (.slice A0_2 l0_2.length c0_2) := (blk_cell BK740.out 2).trans rfl;have hfz49_0 := blk_frozen BK740.out 0;have hfz49_1 := blk_frozen BK740.out 1;have hfz49_2 := blk_frozen BK740.out 2;try go_wp2
               replace BK740 := Aside0.mk (blk_drew BK740.out);replace HB := Aside0.mk (below_drew1 HB.out);have p749 : 0 ≤ (x8_4 : Int) := of_decide_eq_true qA;have q749 : x8_4 < (l0_2.length : Int) := of_decide_eq_true qA;obtain ⟨ad749, A749_0, c749_0, A749_1, c749_1, A749_2, c749_2, e749, hx749_0, hx749_1, hx749_2, hx749_3, hl749_0, hi749_0, hl749_1, hi749_1, hl749_2, hi749_2⟩ := at_T73 HR0_2.out x8_4 p749 q749;have hw749_3 := hx749_3;have hw749_2 := hx749_2;have hw749_1 := hx749_1;have hw749_0 := hx749_0;cases e749
               replace hx749_0 := (HB.out.cell (World.block_lt_of_cell? w _ hx749_0)).trans hx749_0;replace hx749_1 := (HB.out.cell (World.block_lt_of_cell? w _ hx749_1)).trans hx749_1;replace hx749_2 := (HB.out.cell (World.block_lt_of_cell? w _ hx749_2)).trans hx749_2;replace hx749_3 := (HB.out.cell (World.block_lt_of_cell? w _ hx749_3)).trans hx749_3;have HR749_0 := Aside0.mk hi749_0;have HC749_0 := Aside0.mk hl749_0;clear hi749_0 hl749_0;have HR749_1 := Aside0.mk hi749_1;have HC749_1 := Aside0.mk hl749_1;clear hi749_1 hl749_1;have HR749_2 := Aside0.mk hi749_2;have HC749_2 := Aside0.mk hl749_2;clear hi749_2 hl749_2;replace p749 := eq_true p749;replace q749 := eq_true q749;refine start_ (n := 8) (S := fun w' => w'.cell? ⟨gb740, 0, none⟩ = some (.slice A0_0 l0_0.length c0_0) ∧ w'.cell? ⟨gb740, 1, none⟩ = some (.slice A0_1 l0_1.length c0_1) ∧ w'.cell? ⟨gb740, 2, none⟩ = some (.slice (some ad749) l0_2.length c0_2) ∧ w'.cell? (ad749.add ((x8_4).toNat * 4)) = some (.slice A749_0 ((rd_T73 l0_2 x8_4).f0).length c749_0) ∧ w'.cell? ⟨(ad749.add ((x8_4).toNat * 4)).block, (ad749.add ((x8_4).toNat * 4)).off + 1, none⟩ = some (.slice A749_1 ((rd_T73 l0_2 x8_4).f1).length c749_1) ∧ w'.cell? ⟨(ad749.add ((x8_4).toNat * 4)).block, (ad749.add ((x8_4).toNat * 4)).off + 2, none⟩ = some (.slice A749_2 ((rd_T73 l0_2 x8_4).f2).length c749_2) ∧ w'.cell? ⟨(ad749.add ((x8_4).toNat * 4)).block, (ad749.add ((x8_4).toNat * 4)).off + 3, none⟩ = some (.int .i64 ((rd_T73 l0_2 x8_4).f3))) (ds := []) (bs 8 0) (by kernel_rfl) rfl rfl ⟨(blk_cell BK740.out 0).trans rfl, (blk_cell BK740.out 1).trans rfl, (blk_cell BK740.out 2).trans rfl, ((HB.out.cell (World.block_lt_of_cell? w _ hw749_0)).trans hw749_0), ((HB.out.cell (World.block_lt_of_cell? w _ hw749_1)).trans hw749_1), ((HB.out.cell (World.block_lt_of_cell? w _ hw749_2)).trans hw749_2), ((HB.out.cell (World.block_lt_of_cell? w _ hw749_3)).trans hw749_3)⟩ (fun hHeld => ?_); refine with_tabW arboristref06_Right.tab18 arboristref06_Right.bits18 (fun HT_ HW_ => ?_)
               generalize wr.drew = w50 at BK740 HB HR749_0 HR749_1 HR749_2 hx749_0 hx749_1 hx749_2 hx749_3 hHeld ⊢
               refine qP 1 (some 94) (bs 8 2) HT_.out ?_;refine qP 3 (some 96) (bs 8 10) HT_.out ?_;refine take_ (i := 0) (N := some 93) (v := ?_) (a' := ?_) (bs 8 11) rfl rfl (take_ofW HT_.out HW_.out (by kernel_rfl)) (fun _ _ _ h => h) (Or.inl ⟨by rfl, ?_⟩) hHeld ?_ ?_;rotate_left
               ·rintro w' ⟨s0, s1, s2, s3, s4, s5, s6⟩
                go_simp
                with_reducible rfl
               rotate_left; (simp only [Act.put, List.setIfInBounds_toArray, List.set_cons_zero, List.set_cons_succ, i64_w, i32_w]; rfl)
               refine take_ (i := 2) (N := some 95) (v := ?_) (a' := ?_) (bs 8 15) rfl rfl (take_ofW HT_.out HW_.out (by kernel_rfl)) (fun _ _ _ h => h) (Or.inl ⟨by rfl, ?_⟩) hHeld ?_ ?_;rotate_left
               ·rintro w' ⟨s0, s1, s2, s3, s4, s5, s6⟩
                go_simp
                with_reducible rfl
               rotate_left; (simp only [Act.put, List.setIfInBounds_toArray, List.set_cons_zero, List.set_cons_succ, i64_w, i32_w]; rfl)
               refine qP 4 (some 97) (bs 8 31) HT_.out ?_;refine take_ (i := 5) (N := some 98) (v := ?_) (a' := ?_) (bs 8 63) rfl rfl (take_ofW HT_.out HW_.out (by kernel_rfl)) (fun _ _ _ h => h) (Or.inl ⟨by rfl, ?_⟩) hHeld ?_ ?_;rotate_left
               ·rintro w' ⟨s0, s1, s2, s3, s4, s5, s6⟩
                go_simp
                with_reducible rfl
               rotate_left; (simp only [Act.put, List.setIfInBounds_toArray, List.set_cons_zero, List.set_cons_succ, i64_w, i32_w]; rfl)
               refine one_ (i := 6) (N := some 99) (bs 8 127) rfl rfl (one_of HT_.out (by kernel_rfl)) (by decide) (fun K hK => ?_);refine goes_ Try.func73 (by kernel_rfl) rfl #[.agg #[.slice A0_0 l0_0.length c0_0, .slice A0_1 l0_1.length c0_1, .slice (some ad749) l0_2.length c0_2], .agg #[.slice A749_0 ((rd_T73 l0_2 x8_4).f0).length c749_0, .slice A749_1 ((rd_T73 l0_2 x8_4).f1).length c749_1, .slice A749_2 ((rd_T73 l0_2 x8_4).f2).length c749_2, .int .i64 ((rd_T73 l0_2 x8_4).f3)]] (by rfl) rfl rfl qM ?_;with_reducible refine (arboristref06_soft.calls k4 _ _ l0_0 _ _ l0_1 _ _ l0_2 _ _ ((rd_T73 l0_2 x8_4).f0) _ _ ((rd_T73 l0_2 x8_4).f1) _ _ ((rd_T73 l0_2 x8_4).f2) ((rd_T73 l0_2 x8_4).f3) t750 _ ?side1 ?side2 ?side3 ?side4 ?side5 ?side6 ?side7 ?side8 ?side9 ?side10 ?side11 ?side12 A44.out).mono ?_
               (case side1 => exact qC (Kd.C_below HR0_0.out HB.out));(case side2 => exact HC0_0.out);(case side3 => exact qC (Kd.C_below HR0_1.out HB.out));(case side4 => exact HC0_1.out);(case side5 => exact qC (Kd.C_below HR0_2.out HB.out));(case side6 => exact HC0_2.out);(case side7 => exact qC (Kd.C_below HR749_0.out HB.out));(case side8 => exact HC749_0.out);(case side9 => exact qC (Kd.C_below HR749_1.out HB.out));(case side10 => exact HC749_1.out);(case side11 => exact qC (Kd.C_below HR749_2.out HB.out));(case side12 => exact HC749_2.out);rintro e w51 ⟨rfl, hb⟩
               refine ⟨_, rfl, ?_⟩;replace BK740 := Aside0.mk (blk_below (g := gb740) (o := .cells #[.slice A0_0 l0_0.length c0_0, .slice A0_1 l0_1.length c0_1, .slice (some ad749) l0_2.length c0_2] 49 (0, 0)) (qK BK740.out) hb);replace HB := Aside0.mk (below_step (qB1 GE740.out HB.out) hb);(try clear hb);(try clear hb2);(try clear hk);(try clear hi);refine hK.out _ _ ⟨(blk_cell BK740.out 0).trans rfl, (blk_cell BK740.out 1).trans rfl, (blk_cell BK740.out 2).trans rfl, ((HB.out.cell (World.block_lt_of_cell? w _ hw749_0)).trans hw749_0), ((HB.out.cell (World.block_lt_of_cell? w _ hw749_1)).trans hw749_1), ((HB.out.cell (World.block_lt_of_cell? w _ hw749_2)).trans hw749_2), ((HB.out.cell (World.block_lt_of_cell? w _ hw749_3)).trans hw749_3)⟩ (fun hHeld => ?_);clear hK K;refine norm_ (a' := ?_) ?_ ?_;rotate_left
               ·show Act.put _ (some 99) _ = _
                simp only [Act.put, List.setIfInBounds_toArray, List.set_cons_zero, List.set_cons_succ, i64_w, i32_w]
                rfl
               refine qP 7 (some 9) (bs 8 255) HT_.out ?_;refine done_ (done_of HT_.out (by kernel_rfl)) ?_;try go_wp2
               go_roundg k4
               case measure => have := HJ1.out; have := HK2.out; have := HK3.out; have := HK4.out; omega
               case rel => exact ⟨(false), (wrap64 (x8_4 + 1)), (by first | rfl | (simp; done) | (simp [*]; done)), (by first | rfl | (simp; done) | (simp [*]; done)), H', ⟨by have := HJ1.out; have := HK2.out; have := HK3.out; have := HK4.out; omega⟩, ⟨qK BK740.out⟩, ⟨qB1 GE740.out HB.out⟩⟩
             ·rw [if_neg c43] at H
              exact absurd H (by simp)
            ·rw [if_neg c42] at H
             have c42b0 : decide (x8_4 < (l0_2.length : Int)) = false := decide_eq_false c42;clear c42;obtain rfl := Option.some.inj H;have hcz52_0 : wr.cell? ⟨gb740, 0, none⟩ = some (.slice A0_0 l0_0.length c0_0) := (blk_cell BK740.out 0).trans rfl;have hcz52_1 : wr.cell? ⟨gb740, 1, none⟩ = some (.slice A0_1 l0_1.length c0_1) := (blk_cell BK740.out 1).trans rfl;have hcz52_2 : wr.cell? ⟨gb740, 2, none⟩ = some (.slice A0_2 l0_2.length c0_2) := (blk_cell BK740.out 2).trans rfl;have hfz52_0 := blk_frozen BK740.out 0;have hfz52_1 := blk_frozen BK740.out 1;have hfz52_2 := blk_frozen BK740.out 2;go_wp2
             go_ret
             exact ⟨by first | rfl | (simp [errW_none, errW_some] <;> rfl) | (simp [*, errW_none, errW_some] <;> rfl), by repeat (first | (with_reducible first | exact HB.out | apply below_alloc | apply pw_below_drewN | apply below_drew1 | refine below_set ?_ GE740.out) | exact HB.out)⟩
end Go.Proofs.Ytpmfdggbccbfaaa.Pr
namespace Go.Proofs.Ytpmfdggbccbfaaa.Pr
open Go.RowKit Go.Proofs.YtpmfdggbccbfaaaW.PrintWords Go.Proofs.YtpmfdggbccbfaaaW.PrintLast Go.Proofs.YtpmfdggbccbfaaaW.PrintMore
attribute [local go_sem] max2_int min2_int max_two min_two max_three min_three max_four min_four
set_option linter.unusedVariables false
set_option linter.unusedSimpArgs false
/-! ### arboristref07_Few: function 61 -/
def arboristref07_Few.l0 : Nat → Int → Int → Int → List (List Int) → List (S69) → List (S73) → Option (Bool)
 | 0, _, _, _, _, _, _ => none
 | k + 1, x1, x5, x6, x752000, x752001, x752002 => if x6 < (x752000.length : Int) then (if 0 ≤ x6 then (if (wrap64 (x5 * ((rd_L1 x752000 x6).length : Int))) > x1 then (some false) else (arboristref07_Few.l0 k x1 (wrap64 (x5 * ((rd_L1 x752000 x6).length : Int))) (wrap64 (x6 + 1)) x752000 x752001 x752002)) else (none)) else (some true)
def arboristref07_Few.f (k : Nat) (l0_0 : List (List Int)) (l0_1 : List (S69)) (l0_2 : List (S73)) (a1 : Int) : Option (Bool) := arboristref07_Few.l0 k a1 1 0 l0_0 l0_1 l0_2
set_option maxHeartbeats 8000000 in
set_option maxRecDepth 100000 in
theorem arboristref07_Few.calls (k : Nat) (A0_0 : Option Addr) (c0_0 : Nat) (l0_0 : List (List Int)) (A0_1 : Option Addr) (c0_1 : Nat) (l0_1 : List (S69)) (A0_2 : Option Addr) (c0_2 : Nat) (l0_2 : List (S73)) (a1 : Int) (r : Bool) (w : World) (hr0_0 : Kd.C (Kd.slice 3 (Kd.int .i64)) w A0_0 l0_0.length l0_0) (hc0_0 : l0_0.length ≤ c0_0) (hr0_1 : Kd.C k69 w A0_1 l0_1.length l0_1) (hc0_1 : l0_1.length ≤ c0_1) (hr0_2 : Kd.C k73 w A0_2 l0_2.length l0_2) (hc0_2 : l0_2.length ≤ c0_2) (h : arboristref07_Few.f k l0_0 l0_1 l0_2 a1 = some r) :
  Calls Try.prog 61 #[.agg #[.slice A0_0 l0_0.length c0_0, .slice A0_1 l0_1.length c0_1, .slice A0_2 l0_2.length c0_2], .int .i64 a1] w fun e w' => e = .returned (.bool r) ∧ Below w.heap.size w w' := by
 have hu49 := Try.underlying49;have HR0_0 := Aside0.mk hr0_0;have HC0_0 := Aside0.mk hc0_0;clear hr0_0 hc0_0;have HR0_1 := Aside0.mk hr0_1;have HC0_1 := Aside0.mk hc0_1;clear hr0_1 hc0_1;have HR0_2 := Aside0.mk hr0_2;have HC0_2 := Aside0.mk hc0_2;clear hr0_2 hc0_2;have HB := Aside0.mk (Below.refl w.heap.size w);have H : (arboristref07_Few.l0 k a1 1 0 l0_0 l0_1 l0_2) = some r := h;clear h;have H' := Aside0.mk H;clear H;go_enter Try.func61, Try.ntmps61
 go_wp2_with (first | ((with_reducible refine gate_dst (N := 2) rfl ?_); refine box_event ?hg (N := 2) ?hd (cs := #[.slice A0_0 l0_0.length c0_0, .slice A0_1 l0_1.length c0_1, .slice A0_2 l0_2.length c0_2]) (t := 49) ?hr ?_; (case hd => rfl); (case hg => rfl); (case hr => first | (go_simp; done) | (go_simp; rfl)); intro gb751 hg w3 hbox hb; have n0_ := Aside0.mk (below_step (qB HB.out) hb); have n1_ := Aside0.mk (hbox); have n2_ := Aside0.mk ((by rw [hg]; exact (below_size (qB HB.out)) : w.heap.size ≤ gb751)); have n3_ := Aside0.mk ((by rw [hg]; exact (below_size (qB HB.out)) : w.heap.size ≤ gb751)); clear HB; have HB := n0_; have BK751 := n1_; have GW751 := n2_; have GE751 := n3_; clear n0_ n1_ n2_ n3_; clear hb hbox hg))
 go_loopg [5, 6] k (fun kq v5 v6 w' => ∃ (x5_1 : Int) (x6_1 : Int), v5 = .int .i64 x5_1 ∧ v6 = .int .i64 x6_1 ∧ Aside0 (arboristref07_Few.l0 kq a1 x5_1 x6_1 l0_0 l0_1 l0_2 = some r) ∧ Aside0 (kq ≤ k) ∧ Aside0 (w'.heap[gb751]? = some (.cells #[(.slice A0_0 l0_0.length c0_0), (.slice A0_1 l0_1.length c0_1), (.slice A0_2 l0_2.length c0_2)] 49 (0, 0))) ∧ Aside0 (Below w.heap.size w w'))
 case atStart => exact ⟨(1), (0), (by first | rfl | (simp; done) | (simp [*]; done)), (by first | rfl | (simp; done) | (simp [*]; done)), H', ⟨Nat.le_refl _⟩, ⟨qK BK751.out⟩, ⟨qB1 GE751.out HB.out⟩⟩
 case round =>
  clear H';try clear p2
  obtain ⟨x5_1, x6_1, rfl, rfl, HA, HK1, BK751, HB⟩ := hrel;cases gk with
  | zero => exact absurd HA.out (by simp [arboristref07_Few.l0])
  | succ k1 =>
   have H := HA.out;clear HA;simp only [arboristref07_Few.l0] at H
   by_cases c4 : x6_1 < (l0_0.length : Int)
   ·rw [if_pos c4] at H
    have c4b0 : decide (x6_1 < (l0_0.length : Int)) = true := decide_eq_true c4;clear c4;by_cases c5 : 0 ≤ x6_1
    ·rw [if_pos c5] at H
     have c5b0 : decide (0 ≤ x6_1) = true := decide_eq_true c5;clear c5;by_cases c6 : (wrap64 (x5_1 * ((rd_L1 l0_0 x6_1).length : Int))) > a1
     ·rw [if_pos c6] at H
      have c6b0 : decide (a1 < (wrap64 (x5_1 * ((rd_L1 l0_0 x6_1).length : Int)))) = true := decide_eq_true c6;clear c6;obtain rfl := Option.some.inj H;have hcz7_0 : wr.cell? ⟨gb751, 0, none⟩ = some (.slice A0_0 l0_0.length c0_0) := (blk_cell BK751.out 0).trans rfl;have hcz7_1 : wr.cell? ⟨gb751, 1, none⟩ = some (.slice A0_1 l0_1.length c0_1) := (blk_cell BK751.out 1).trans rfl;have hcz7_2 : wr.cell? ⟨gb751, 2, none⟩ = some (.slice A0_2 l0_2.length c0_2) := (blk_cell BK751.out 2).trans rfl;have hfz7_0 := blk_frozen BK751.out 0;have hfz7_1 := blk_frozen BK751.out 1;have hfz7_2 := blk_frozen BK751.out 2;have p752 : 0 ≤ (x6_1 : Int) := of_decide_eq_true qA;have q752 : x6_1 < (l0_0.length : Int) := of_decide_eq_true qA;obtain ⟨ad752, A752_0, c752_0, e752, hx752_0, hl752_0, hi752_0⟩ := at_L1 HR0_0.out x6_1 p752 q752;cases e752
      replace hx752_0 := (HB.out.cell (World.block_lt_of_cell? w _ hx752_0)).trans hx752_0;have HR752_0 := Aside0.mk hi752_0;have HC752_0 := Aside0.mk hl752_0;clear hi752_0 hl752_0;replace p752 := eq_true p752;replace q752 := eq_true q752;go_wp2
      go_ret
      exact ⟨by first | rfl | (simp [errW_none, errW_some] <;> rfl) | (simp [*, errW_none, errW_some] <;> rfl), by repeat (first | (with_reducible first | exact HB.out | apply below_alloc | apply pw_below_drewN | apply below_drew1 | refine below_set ?_ GE751.out) | exact HB.out)⟩
     ·rw [if_neg c6] at H
      have c6b0 : decide (a1 < (wrap64 (x5_1 * ((rd_L1 l0_0 x6_1).length : Int)))) = false := decide_eq_false c6;clear c6;have H' := Aside0.mk H;clear H;have hcz8_0 : wr.cell? ⟨gb751, 0, none⟩ = some (.slice A0_0 l0_0.length c0_0) := (blk_cell BK751.out 0).trans rfl;have hcz8_1 : wr.cell? ⟨gb751, 1, none⟩ = some (.slice A0_1 l0_1.length c0_1) := (blk_cell BK751.out 1).trans rfl;have hcz8_2 : wr.cell? ⟨gb751, 2, none⟩ = some (.slice A0_2 l0_2.length c0_2) := (blk_cell BK751.out 2).trans rfl;have hfz8_0 := blk_frozen BK751.out 0;have hfz8_1 := blk_frozen BK751.out 1;have hfz8_2 := blk_frozen BK751.out 2;have p752 : 0 ≤ (x6_1 : Int) := of_decide_eq_true qA;have q752 : x6_1 < (l0_0.length : Int) := of_decide_eq_true qA;obtain ⟨ad752, A752_0, c752_0, e752, hx752_0, hl752_0, hi752_0⟩ := at_L1 HR0_0.out x6_1 p752 q752;cases e752
      replace hx752_0 := (HB.out.cell (World.block_lt_of_cell? w _ hx752_0)).trans hx752_0;have HR752_0 := Aside0.mk hi752_0;have HC752_0 := Aside0.mk hl752_0;clear hi752_0 hl752_0;replace p752 := eq_true p752;replace q752 := eq_true q752;go_wp2
      go_roundg k1
      case measure => have := HK1.out; omega
      case rel => exact ⟨(wrap64 (x5_1 * ((rd_L1 l0_0 x6_1).length : Int))), (wrap64 (x6_1 + 1)), (by first | rfl | (simp; done) | (simp [*]; done)), (by first | rfl | (simp; done) | (simp [*]; done)), H', ⟨by have := HK1.out; omega⟩, ⟨qK BK751.out⟩, ⟨qB1 GE751.out HB.out⟩⟩
    ·rw [if_neg c5] at H
     exact absurd H (by simp)
   ·rw [if_neg c4] at H
    have c4b0 : decide (x6_1 < (l0_0.length : Int)) = false := decide_eq_false c4;clear c4;obtain rfl := Option.some.inj H;have hcz9_0 : wr.cell? ⟨gb751, 0, none⟩ = some (.slice A0_0 l0_0.length c0_0) := (blk_cell BK751.out 0).trans rfl;have hcz9_1 : wr.cell? ⟨gb751, 1, none⟩ = some (.slice A0_1 l0_1.length c0_1) := (blk_cell BK751.out 1).trans rfl;have hcz9_2 : wr.cell? ⟨gb751, 2, none⟩ = some (.slice A0_2 l0_2.length c0_2) := (blk_cell BK751.out 2).trans rfl;have hfz9_0 := blk_frozen BK751.out 0;have hfz9_1 := blk_frozen BK751.out 1;have hfz9_2 := blk_frozen BK751.out 2;go_wp2
    go_ret
    exact ⟨by first | rfl | (simp [errW_none, errW_some] <;> rfl) | (simp [*, errW_none, errW_some] <;> rfl), by repeat (first | (with_reducible first | exact HB.out | apply below_alloc | apply pw_below_drewN | apply below_drew1 | refine below_set ?_ GE751.out) | exact HB.out)⟩
/-! ### arboristlaw13_few: function 38 -/
def arboristlaw13_few.f (k : Nat) (l0_0 : List (List Int)) (l0_1 : List (S69)) (l0_2 : List (S73)) : Option (Bool) := (arboristref06_Right.f k l0_0 l0_1 l0_2).bind fun t754 => (if t754 = true then ((arboristref07_Few.f k l0_0 l0_1 l0_2 1000).bind fun t755 => (some t755)) else (some false))
set_option maxHeartbeats 8000000 in
set_option maxRecDepth 100000 in
theorem arboristlaw13_few.calls (k : Nat) (A0_0 : Option Addr) (c0_0 : Nat) (l0_0 : List (List Int)) (A0_1 : Option Addr) (c0_1 : Nat) (l0_1 : List (S69)) (A0_2 : Option Addr) (c0_2 : Nat) (l0_2 : List (S73)) (r : Bool) (w : World) (hr0_0 : Kd.C (Kd.slice 3 (Kd.int .i64)) w A0_0 l0_0.length l0_0) (hc0_0 : l0_0.length ≤ c0_0) (hr0_1 : Kd.C k69 w A0_1 l0_1.length l0_1) (hc0_1 : l0_1.length ≤ c0_1) (hr0_2 : Kd.C k73 w A0_2 l0_2.length l0_2) (hc0_2 : l0_2.length ≤ c0_2) (h : arboristlaw13_few.f k l0_0 l0_1 l0_2 = some r) :
  Calls Try.prog 38 #[.agg #[.slice A0_0 l0_0.length c0_0, .slice A0_1 l0_1.length c0_1, .slice A0_2 l0_2.length c0_2]] w fun e w' => e = .returned (.bool r) ∧ Below w.heap.size w w' := by
 have hu49 := Try.underlying49;have HR0_0 := Aside0.mk hr0_0;have HC0_0 := Aside0.mk hc0_0;clear hr0_0 hc0_0;have HR0_1 := Aside0.mk hr0_1;have HC0_1 := Aside0.mk hc0_1;clear hr0_1 hc0_1;have HR0_2 := Aside0.mk hr0_2;have HC0_2 := Aside0.mk hc0_2;clear hr0_2 hc0_2;have HB := Aside0.mk (Below.refl w.heap.size w);have H : ((arboristref06_Right.f k l0_0 l0_1 l0_2).bind fun t754 => (if t754 = true then ((arboristref07_Few.f k l0_0 l0_1 l0_2 1000).bind fun t755 => (some t755)) else (some false))) = some r := h;clear h;replace H := Option.bind_eq_some_iff.mp H;obtain ⟨t754, A20, H⟩ := H;(try dsimp only at H);have A2 := Aside0.mk A20;clear A20;by_cases c3 : t754 = true
 ·subst c3;replace H : ((arboristref07_Few.f k l0_0 l0_1 l0_2 1000).bind fun t755 => (some t755)) = some r := by rw [if_pos rfl] at H; exact H
  replace H := Option.bind_eq_some_iff.mp H;obtain ⟨t755, A40, H⟩ := H;replace H : (some t755) = some r := H;have A4 := Aside0.mk A40;clear A40;obtain rfl := Option.some.inj H;go_enter Try.func38, Try.ntmps38
  go_wp2_with (first | ((with_reducible refine gate_dst (N := 1) rfl ?_); refine box_event ?hg (N := 1) ?hd (cs := #[.slice A0_0 l0_0.length c0_0, .slice A0_1 l0_1.length c0_1, .slice A0_2 l0_2.length c0_2]) (t := 49) ?hr ?_; (case hd => rfl); (case hg => rfl); (case hr => first | (go_simp; done) | (go_simp; rfl)); intro gb753 hg w5 hbox hb; have n0_ := Aside0.mk (below_step (qB HB.out) hb); have n1_ := Aside0.mk (hbox); have n2_ := Aside0.mk ((by rw [hg]; exact (below_size (qB HB.out)) : w.heap.size ≤ gb753)); have n3_ := Aside0.mk ((by rw [hg]; exact (below_size (qB HB.out)) : w.heap.size ≤ gb753)); clear HB; have HB := n0_; have BK753 := n1_; have GW753 := n2_; have GE753 := n3_; clear n0_ n1_ n2_ n3_; clear hb hbox hg; have hcz6_0 : w5.cell? ⟨gb753, 0, none⟩ = some (.slice A0_0 l0_0.length c0_0) := (blk_cell BK753.out 0).trans rfl; have hcz6_1 : w5.cell? ⟨gb753, 1, none⟩ = some (.slice A0_1 l0_1.length c0_1) := (blk_cell BK753.out 1).trans rfl; have hcz6_2 : w5.cell? ⟨gb753, 2, none⟩ = some (.slice A0_2 l0_2.length c0_2) := (blk_cell BK753.out 2).trans rfl; have hfz6_0 := blk_frozen BK753.out 0; have hfz6_1 := blk_frozen BK753.out 1; have hfz6_2 := blk_frozen BK753.out 2) | ((with_reducible refine gate_callee (f := 60) rfl ?_); refine goesL_ (some 5) rfl rfl Try.func60 (by kernel_rfl) rfl #[.agg #[.slice A0_0 l0_0.length c0_0, .slice A0_1 l0_1.length c0_1, .slice A0_2 l0_2.length c0_2]] rfl qM ?_; (with_reducible refine (arboristref06_Right.calls k _ _ l0_0 _ _ l0_1 _ _ l0_2 true _ ?side1 ?side2 ?side3 ?side4 ?side5 ?side6 A2.out).mono ?_); (case side1 => exact qC (Kd.C_below HR0_0.out HB.out)); (case side2 => exact HC0_0.out); (case side3 => exact qC (Kd.C_below HR0_1.out HB.out)); (case side4 => exact HC0_1.out); (case side5 => exact qC (Kd.C_below HR0_2.out HB.out)); (case side6 => exact HC0_2.out); rintro e w7 ⟨rfl, hb⟩; refine ⟨_, rfl, ?_⟩; have n0_ := Aside0.mk (blk_below (g := gb753) (o := .cells #[.slice A0_0 l0_0.length c0_0, .slice A0_1 l0_1.length c0_1, .slice A0_2 l0_2.length c0_2] 49 (0, 0)) (qK BK753.out) hb); have n1_ := Aside0.mk (below_step (by repeat (first | (with_reducible first | exact HB.out | apply below_alloc | apply pw_below_drewN | apply below_drew1 | refine below_set ?_ GE753.out) | exact HB.out)) hb); clear BK753; clear HB; have BK753 := n0_; have HB := n1_; clear n0_ n1_; (try clear hb); (try clear hb2); (try clear hk); (try clear hi); have hcz8_0 : w7.cell? ⟨gb753, 0, none⟩ = some (.slice A0_0 l0_0.length c0_0) := (blk_cell BK753.out 0).trans rfl; have hcz8_1 : w7.cell? ⟨gb753, 1, none⟩ = some (.slice A0_1 l0_1.length c0_1) := (blk_cell BK753.out 1).trans rfl; have hcz8_2 : w7.cell? ⟨gb753, 2, none⟩ = some (.slice A0_2 l0_2.length c0_2) := (blk_cell BK753.out 2).trans rfl; have hfz8_0 := blk_frozen BK753.out 0; have hfz8_1 := blk_frozen BK753.out 1; have hfz8_2 := blk_frozen BK753.out 2) | ((with_reducible refine gate_callee (f := 61) rfl ?_); refine goesL_ (some 9) rfl rfl Try.func61 (by kernel_rfl) rfl #[.agg #[.slice A0_0 l0_0.length c0_0, .slice A0_1 l0_1.length c0_1, .slice A0_2 l0_2.length c0_2], .int .i64 1000] rfl qM ?_; (with_reducible refine (arboristref07_Few.calls k _ _ l0_0 _ _ l0_1 _ _ l0_2 1000 t755 _ ?side1 ?side2 ?side3 ?side4 ?side5 ?side6 A4.out).mono ?_); (case side1 => exact qC (Kd.C_below HR0_0.out HB.out)); (case side2 => exact HC0_0.out); (case side3 => exact qC (Kd.C_below HR0_1.out HB.out)); (case side4 => exact HC0_1.out); (case side5 => exact qC (Kd.C_below HR0_2.out HB.out)); (case side6 => exact HC0_2.out); rintro e w9 ⟨rfl, hb⟩; refine ⟨_, rfl, ?_⟩; have n0_ := Aside0.mk (blk_below (g := gb753) (o := .cells #[.slice A0_0 l0_0.length c0_0, .slice A0_1 l0_1.length c0_1, .slice A0_2 l0_2.length c0_2] 49 (0, 0)) (qK BK753.out) hb); have n1_ := Aside0.mk (below_step (by repeat (first | (with_reducible first | exact HB.out | apply below_alloc | apply pw_below_drewN | apply below_drew1 | refine below_set ?_ GE753.out) | exact HB.out)) hb); clear BK753; clear HB; have BK753 := n0_; have HB := n1_; clear n0_ n1_; (try clear hb); (try clear hb2); (try clear hk); (try clear hi)))
  go_ret
  exact ⟨by first | rfl | (simp [errW_none, errW_some] <;> rfl) | (simp [*, errW_none, errW_some] <;> rfl), by repeat (first | (with_reducible first | exact HB.out | apply below_alloc | apply pw_below_drewN | apply below_drew1 | refine below_set ?_ GE753.out) | exact HB.out)⟩
 ·replace c3 := Bool.eq_false_iff.mpr c3;subst c3;replace H : (some false) = some r := by rw [if_neg (show ¬ (false = true) by decide)] at H; exact H
  obtain rfl := Option.some.inj H;go_enter Try.func38, Try.ntmps38
  go_wp2_with (first | ((with_reducible refine gate_dst (N := 1) rfl ?_); refine box_event ?hg (N := 1) ?hd (cs := #[.slice A0_0 l0_0.length c0_0, .slice A0_1 l0_1.length c0_1, .slice A0_2 l0_2.length c0_2]) (t := 49) ?hr ?_; (case hd => rfl); (case hg => rfl); (case hr => first | (go_simp; done) | (go_simp; rfl)); intro gb753 hg w10 hbox hb; have n0_ := Aside0.mk (below_step (qB HB.out) hb); have n1_ := Aside0.mk (hbox); have n2_ := Aside0.mk ((by rw [hg]; exact (below_size (qB HB.out)) : w.heap.size ≤ gb753)); have n3_ := Aside0.mk ((by rw [hg]; exact (below_size (qB HB.out)) : w.heap.size ≤ gb753)); clear HB; have HB := n0_; have BK753 := n1_; have GW753 := n2_; have GE753 := n3_; clear n0_ n1_ n2_ n3_; clear hb hbox hg; have hcz11_0 : w10.cell? ⟨gb753, 0, none⟩ = some (.slice A0_0 l0_0.length c0_0) := (blk_cell BK753.out 0).trans rfl; have hcz11_1 : w10.cell? ⟨gb753, 1, none⟩ = some (.slice A0_1 l0_1.length c0_1) := (blk_cell BK753.out 1).trans rfl; have hcz11_2 : w10.cell? ⟨gb753, 2, none⟩ = some (.slice A0_2 l0_2.length c0_2) := (blk_cell BK753.out 2).trans rfl; have hfz11_0 := blk_frozen BK753.out 0; have hfz11_1 := blk_frozen BK753.out 1; have hfz11_2 := blk_frozen BK753.out 2) | ((with_reducible refine gate_callee (f := 60) rfl ?_); refine goesL_ (some 5) rfl rfl Try.func60 (by kernel_rfl) rfl #[.agg #[.slice A0_0 l0_0.length c0_0, .slice A0_1 l0_1.length c0_1, .slice A0_2 l0_2.length c0_2]] rfl qM ?_; (with_reducible refine (arboristref06_Right.calls k _ _ l0_0 _ _ l0_1 _ _ l0_2 false _ ?side1 ?side2 ?side3 ?side4 ?side5 ?side6 A2.out).mono ?_); (case side1 => exact qC (Kd.C_below HR0_0.out HB.out)); (case side2 => exact HC0_0.out); (case side3 => exact qC (Kd.C_below HR0_1.out HB.out)); (case side4 => exact HC0_1.out); (case side5 => exact qC (Kd.C_below HR0_2.out HB.out)); (case side6 => exact HC0_2.out); rintro e w12 ⟨rfl, hb⟩; refine ⟨_, rfl, ?_⟩; have n0_ := Aside0.mk (blk_below (g := gb753) (o := .cells #[.slice A0_0 l0_0.length c0_0, .slice A0_1 l0_1.length c0_1, .slice A0_2 l0_2.length c0_2] 49 (0, 0)) (qK BK753.out) hb); have n1_ := Aside0.mk (below_step (by repeat (first | (with_reducible first | exact HB.out | apply below_alloc | apply pw_below_drewN | apply below_drew1 | refine below_set ?_ GE753.out) | exact HB.out)) hb); clear BK753; clear HB; have BK753 := n0_; have HB := n1_; clear n0_ n1_; (try clear hb); (try clear hb2); (try clear hk); (try clear hi)))
  go_ret
  exact ⟨by first | rfl | (simp [errW_none, errW_some] <;> rfl) | (simp [*, errW_none, errW_some] <;> rfl), by repeat (first | (with_reducible first | exact HB.out | apply below_alloc | apply pw_below_drewN | apply below_drew1 | refine below_set ?_ GE753.out) | exact HB.out)⟩
end Go.Proofs.Ytpmfdggbccbfaaa.Pr
