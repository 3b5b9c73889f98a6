-- Printed by a program of this session's own (wip/tools/pp.py) over the kit's print.py; Lean checks it.
import Derived.Test.YtopjffgmpphdbaaDoorPr1
import Derived.Test.YtopjffgmpphdbaaDoorPr0
import Derived.Test.YtopjffgmpphdbaaDoorPr34
namespace Go.Proofs.YtopjffgmpphdbaaDoor.Pr
open Go.RowKit Go.Proofs.YtopjffgmpphdbaaDoorW.PrintWords Go.Proofs.YtopjffgmpphdbaaDoorW.PrintLast Go.Proofs.YtopjffgmpphdbaaDoorW.PrintMore
attribute [local go_sem] max2_int min2_int max_two min_two max_three min_three max_four min_four
set_option linter.unusedVariables false
set_option linter.unusedSimpArgs false
/-! ### arboristref10_Joined: function 23 -/
mutual
def arboristref10_Joined.l0 : Nat → List (List Bool) → List (List Int) → Int → Option ((List (List Bool)))
 | 0, _, _, _ => none
 | k + 1, x0, x1, x5 => if x5 < (x1.length : Int) then (arboristref10_Joined.l1 k x0 x1 x5 0) else (some x0)
def arboristref10_Joined.l1 : Nat → List (List Bool) → List (List Int) → Int → Int → Option ((List (List Bool)))
 | 0, _, _, _, _ => none
 | k + 1, x0, x1, x5, x6 => if 0 ≤ x5 then (if x5 < (x1.length : Int) then (if x6 < ((rd_L1 x1 x5).length : Int) then (arboristref10_Joined.l2 k x0 x1 x5 x6 0) else (arboristref10_Joined.l0 k x0 x1 (wrap64 (x5 + 1)))) else (none)) else (none)
def arboristref10_Joined.l2 : Nat → List (List Bool) → List (List Int) → Int → Int → Int → Option ((List (List Bool)))
 | 0, _, _, _, _, _ => none
 | k + 1, x0, x1, x5, x6, x7 => if 0 ≤ x5 then (if x5 < (x1.length : Int) then (if x7 < ((rd_L1 x1 x5).length : Int) then (if x6 = x7 then (arboristref10_Joined.l2 k x0 x1 x5 x6 (wrap64 (x7 + 1))) else (if 0 ≤ x6 then (if x6 < ((rd_L1 x1 x5).length : Int) then (if 0 ≤ (rd (rd_L1 x1 x5) x6) then (if (rd (rd_L1 x1 x5) x6) < (x0.length : Int) then (if 0 ≤ x7 then (if 0 ≤ (rd (rd_L1 x1 x5) x7) then (if (rd (rd_L1 x1 x5) x7) < ((rd_L7 x0 (rd (rd_L1 x1 x5) x6)).length : Int) then (arboristref10_Joined.l2 k (x0.set ((rd (rd_L1 x1 x5) x6) : Int).toNat ((rd_L7 x0 (rd (rd_L1 x1 x5) x6)).set ((rd (rd_L1 x1 x5) x7) : Int).toNat true)) x1 x5 x6 (wrap64 (x7 + 1))) else (none)) else (none)) else (none)) else (none)) else (none)) else (none)) else (none))) else (arboristref10_Joined.l1 k x0 x1 x5 (wrap64 (x6 + 1)))) else (none)) else (none)
end
def arboristref10_Joined.f (k : Nat) (l0 : List (List Bool)) (l1 : List (List Int)) : Option ((List (List Bool))) := (arboristref09_Copy.f k l0).bind fun t514 => (arboristref10_Joined.l0 k t514 l1 0)
def arboristref10_Joined.T12 : Bool × List (List Nat × List Nat) := (true, [([], []), ([], []), ([], []), ([1, 2], [1, 2]), ([3], [3]), ([], []), ([4, 5], [4, 5]), ([6], [6]), ([0, 7], [0, 7]), ([8], [8]), ([], []), ([], []), ([10, 11], [10, 11]), ([12], [12]), ([], []), ([13, 14], [13, 14]), ([15], [15]), ([9, 16, 0, 1, 2, 3, 4, 5, 6, 7, 8, 9, 10, 11, 12, 13, 14, 15, 16], [9, 16]), ([17, 0, 1, 2, 3, 4, 5, 6, 7, 8, 9, 10, 11, 12, 13, 14, 15, 16], [17])])
def arboristref10_Joined.B12 : List Nat := [0, 0, 0, 6, 14, 0, 62, 126, 255, 511, 0, 0, 3072, 7168, 0, 31744, 64512, 131071, 262143]
theorem arboristref10_Joined.tab12 : rtab .any (opsOf Tryd.f23 12) = arboristref10_Joined.T12 := by kernel_rfl
theorem arboristref10_Joined.bits12 : waitsOk arboristref10_Joined.T12.2 arboristref10_Joined.B12 = true := by kernel_rfl
set_option maxHeartbeats 8000000 in
set_option maxRecDepth 100000 in
theorem arboristref10_Joined.calls (k : Nat) (A0 : Option Addr) (c0 : Nat) (l0 : List (List Bool)) (A1 : Option Addr) (c1 : Nat) (l1 : List (List Int)) (r : List (List Bool)) (w : World) (hr0 : Kd.C (Kd.slice 4 Kd.bool) w A0 l0.length l0) (hc0 : l0.length ≤ c0) (hr1 : Kd.C (Kd.slice 3 (Kd.int .i64)) w A1 l1.length l1) (hc1 : l1.length ≤ c1) (h : arboristref10_Joined.f k l0 l1 = some r) :
  Calls Tryd.prog 23 #[.slice A0 l0.length c0, .slice A1 l1.length c1] w fun e w' => ∃ v0_ : Value, e = .returned (v0_) ∧ Kd.S (Kd.slice 4 Kd.bool) 55 w' w.heap.size (fun _ => True) v0_ r ∧ Below w.heap.size w w' := by
 have HR0 := Aside0.mk hr0;have HC0 := Aside0.mk hc0;clear hr0 hc0;have HR1 := Aside0.mk hr1;have HC1 := Aside0.mk hc1;clear hr1 hc1;have HB := Aside0.mk (Below.refl w.heap.size w);have H : ((arboristref09_Copy.f k l0).bind fun t514 => (arboristref10_Joined.l0 k t514 l1 0)) = some r := h;clear h;replace H := Option.bind_eq_some_iff.mp H;obtain ⟨t514, A30, H⟩ := H;(try dsimp only at H);have A3 := Aside0.mk A30;clear A30;have H' := Aside0.mk H;clear H;go_enter Tryd.func23, Tryd.ntmps23
 go_wp2_with (first | ((with_reducible refine gate_callee (f := 35) rfl ?_); refine goesL_ (some 9) rfl rfl Tryd.func35 (by kernel_rfl) rfl #[.slice A0 l0.length c0] rfl qM ?_; (with_reducible refine (arboristref09_Copy.calls k _ _ l0 t514 _ ?side1 ?side2 A3.out).mono ?_); (case side1 => repeat (first | exact HR0.out | (with_reducible refine Kd.C_alloc ?_ _) | (with_reducible refine Kd.C_drewN ?_ _) | (with_reducible refine Kd.C_drew ?_))); (case side2 => exact HC0.out); rintro e w4 ⟨v515, rfl, ho0, hb⟩; refine ⟨_, rfl, ?_⟩; have n0_ := Aside0.mk (Kd.S_lower ho0 (below_size (qB HB.out))); have n1_ := Aside0.mk (below_step (qB HB.out) hb); clear HB; have HO516 := n0_; have HB := n1_; clear n0_ n1_; (try clear hb); (try clear hb2); (try clear hk); (try clear hi); (try clear ho0)))
 go_loopg [5] k (fun kq v5 w' => ∃ (x0_1 : List (List Bool)) (x5_1 : Int), v5 = .int .i64 x5_1 ∧ Aside0 (arboristref10_Joined.l0 kq x0_1 l1 x5_1 = some r) ∧ Aside0 (kq ≤ k) ∧ Aside0 (Kd.S (Kd.slice 4 Kd.bool) 55 w' w.heap.size (fun _ => True) v515 x0_1) ∧ Aside0 (Below w.heap.size w w'))
 case atStart => exact ⟨(t514), (0), (by first | rfl | (simp; done) | (simp [*]; done)), H', ⟨Nat.le_refl _⟩, ⟨by (with_reducible repeat (first | apply Kd.S_alloc | apply Kd.S_drewN | apply Kd.S_drew)); exact HO516.out⟩, ⟨by repeat (first | (with_reducible first | exact HB.out | apply below_alloc | apply pw_below_drewN | apply below_drew1) | exact HB.out)⟩⟩
 case round =>
  clear H';try clear c1
  try clear c2
  try clear p2
  try clear c3
  obtain ⟨x0_1, x5_1, rfl, HA, HK1, HO_0, HB⟩ := hrel;cases gk with
  | zero => exact absurd HA.out (by simp [arboristref10_Joined.l0])
  | succ k1 =>
   have H := HA.out;clear HA;simp only [arboristref10_Joined.l0] at H
   by_cases c5 : x5_1 < (l1.length : Int)
   ·rw [if_pos c5] at H
    have c5b0 : decide (x5_1 < (l1.length : Int)) = true := decide_eq_true c5;clear c5;have H' := Aside0.mk H;clear H;go_wp2
    go_loopg [6] k1 (fun kq v6 w' => ∃ (x0_2 : List (List Bool)) (x6_2 : Int), v6 = .int .i64 x6_2 ∧ Aside0 (arboristref10_Joined.l1 kq x0_2 l1 x5_1 x6_2 = some r) ∧ Aside0 (kq ≤ k1) ∧ Aside0 (Kd.S (Kd.slice 4 Kd.bool) 55 w' w.heap.size (fun _ => True) v515 x0_2) ∧ Aside0 (Below w.heap.size w w'))
    case atStart => exact ⟨(x0_1), (0), (by first | rfl | (simp; done) | (simp [*]; done)), H', ⟨Nat.le_refl _⟩, ⟨by (with_reducible repeat (first | apply Kd.S_alloc | apply Kd.S_drewN | apply Kd.S_drew)); exact HO_0.out⟩, ⟨by repeat (first | (with_reducible first | exact HB.out | apply below_alloc | apply pw_below_drewN | apply below_drew1) | exact HB.out)⟩⟩
    case round =>
     clear H';try clear c1
     try clear c2
     try clear p2
     try clear c3
     try clear c5
     try clear c5b0
     try clear p2
     obtain ⟨x0_2, x6_2, rfl, HA, HK2, HO_0, HB⟩ := hrel;cases gk with
     | zero => exact absurd HA.out (by simp [arboristref10_Joined.l1])
     | succ k2 =>
      have H := HA.out;clear HA;simp only [arboristref10_Joined.l1] at H
      by_cases c6 : 0 ≤ x5_1
      ·rw [if_pos c6] at H
       have c6b0 : decide (0 ≤ x5_1) = true := decide_eq_true c6;clear c6;by_cases c7 : x5_1 < (l1.length : Int)
       ·rw [if_pos c7] at H
        have c7b0 : decide (x5_1 < (l1.length : Int)) = true := decide_eq_true c7;clear c7;by_cases c8 : x6_2 < ((rd_L1 l1 x5_1).length : Int)
        ·rw [if_pos c8] at H
         have c8b0 : decide (x6_2 < ((rd_L1 l1 x5_1).length : Int)) = true := decide_eq_true c8;clear c8;have H' := Aside0.mk H;clear H;have p517 : 0 ≤ (x5_1 : Int) := of_decide_eq_true qA;have q517 : x5_1 < (l1.length : Int) := of_decide_eq_true qA;obtain ⟨ad517, A517_0, c517_0, e517, hx517_0, hl517_0, hi517_0⟩ := at_L1 HR1.out x5_1 p517 q517;cases e517
         replace hx517_0 := (HB.out.cell (World.block_lt_of_cell? w _ hx517_0)).trans hx517_0;have HR517_0 := Aside0.mk hi517_0;have HC517_0 := Aside0.mk hl517_0;clear hi517_0 hl517_0;replace p517 := eq_true p517;replace q517 := eq_true q517;go_wp2
         go_loopg [7] k2 (fun kq v7 w' => ∃ (x0_3 : List (List Bool)) (x7_3 : Int), v7 = .int .i64 x7_3 ∧ Aside0 (arboristref10_Joined.l2 kq x0_3 l1 x5_1 x6_2 x7_3 = some r) ∧ Aside0 (kq ≤ k2) ∧ Aside0 (Kd.S (Kd.slice 4 Kd.bool) 55 w' w.heap.size (fun _ => True) v515 x0_3) ∧ Aside0 (Below w.heap.size w w'))
         case atStart => exact ⟨(x0_2), (0), (by first | rfl | (simp; done) | (simp [*]; done)), H', ⟨Nat.le_refl _⟩, ⟨by (with_reducible repeat (first | apply Kd.S_alloc | apply Kd.S_drewN | apply Kd.S_drew)); exact HO_0.out⟩, ⟨by repeat (first | (with_reducible first | exact HB.out | apply below_alloc | apply pw_below_drewN | apply below_drew1) | exact HB.out)⟩⟩
         case round =>
          clear H';try clear c1
          try clear c2
          try clear p2
          try clear c3
          try clear c5
          try clear c5b0
          try clear p5
          try clear q5
          try clear hx5
          try clear c6
          try clear c6b0
          try clear c7
          try clear c7b0
          try clear c8
          try clear c8b0
          try clear hx517_0
          try clear p2
          try clear p517
          try clear q517
          obtain ⟨x0_3, x7_3, rfl, HA, HK3, HO_0, HB⟩ := hrel;cases gk with
          | zero => exact absurd HA.out (by simp [arboristref10_Joined.l2])
          | succ k3 =>
           have H := HA.out;clear HA;simp only [arboristref10_Joined.l2] at H
           by_cases c9 : 0 ≤ x5_1
           ·rw [if_pos c9] at H
            have c9b0 : decide (0 ≤ x5_1) = true := decide_eq_true c9;clear c9;by_cases c10 : x5_1 < (l1.length : Int)
            ·rw [if_pos c10] at H
             have c10b0 : decide (x5_1 < (l1.length : Int)) = true := decide_eq_true c10;clear c10;by_cases c11 : x7_3 < ((rd_L1 l1 x5_1).length : Int)
             ·rw [if_pos c11] at H
              have c11b0 : decide (x7_3 < ((rd_L1 l1 x5_1).length : Int)) = true := decide_eq_true c11;clear c11;by_cases c12 : x6_2 = x7_3
              ·rw [if_pos c12] at H
               have c12b0 : (x6_2 == x7_3) = true := beq_iff_eq.mpr c12;have c12b1 : (x6_2 != x7_3) = false := bne_eq_false_iff_eq.mpr c12;clear c12;have H' := Aside0.mk H;clear H;have p518 : 0 ≤ (x5_1 : Int) := of_decide_eq_true qA;have q518 : x5_1 < (l1.length : Int) := of_decide_eq_true qA;obtain ⟨ad518, A518_0, c518_0, e518, hx518_0, hl518_0, hi518_0⟩ := at_L1 HR1.out x5_1 p518 q518;obtain rfl : ad517 = ad518 := (by injection e518);replace hx518_0 := (HB.out.cell (World.block_lt_of_cell? w _ hx518_0)).trans hx518_0;have HR518_0 := Aside0.mk hi518_0;have HC518_0 := Aside0.mk hl518_0;clear hi518_0 hl518_0;replace p518 := eq_true p518;replace q518 := eq_true q518;go_wp2
               go_roundg k3
               case measure => have := HK1.out; have := HK2.out; have := HK3.out; omega
               case rel => exact ⟨(x0_3), (wrap64 (x7_3 + 1)), (by first | rfl | (simp; done) | (simp [*]; done)), H', ⟨by have := HK1.out; have := HK2.out; have := HK3.out; omega⟩, ⟨by (with_reducible repeat (first | apply Kd.S_alloc | apply Kd.S_drewN | apply Kd.S_drew)); exact HO_0.out⟩, ⟨by repeat (first | (with_reducible first | exact HB.out | apply below_alloc | apply pw_below_drewN | apply below_drew1) | exact HB.out)⟩⟩
              ·rw [if_neg c12] at H
               have c12b0 : (x6_2 == x7_3) = false := beq_eq_false_iff_ne.mpr c12;have c12b1 : (x6_2 != x7_3) = true := bne_iff_ne.mpr c12;by_cases c13 : 0 ≤ x6_2
               ·rw [if_pos c13] at H
                have c13b0 : decide (0 ≤ x6_2) = true := decide_eq_true c13;clear c13;by_cases c14 : x6_2 < ((rd_L1 l1 x5_1).length : Int)
                ·rw [if_pos c14] at H
                 have c14b0 : decide (x6_2 < ((rd_L1 l1 x5_1).length : Int)) = true := decide_eq_true c14;clear c14;by_cases c15 : 0 ≤ (rd (rd_L1 l1 x5_1) x6_2)
                 ·rw [if_pos c15] at H
                  have c15b0 : decide (0 ≤ (rd (rd_L1 l1 x5_1) x6_2)) = true := decide_eq_true c15;clear c15;by_cases c16 : (rd (rd_L1 l1 x5_1) x6_2) < (x0_3.length : Int)
                  ·rw [if_pos c16] at H
                   have c16b0 : decide ((rd (rd_L1 l1 x5_1) x6_2) < (x0_3.length : Int)) = true := decide_eq_true c16;clear c16;by_cases c17 : 0 ≤ x7_3
                   ·rw [if_pos c17] at H
                    have c17b0 : decide (0 ≤ x7_3) = true := decide_eq_true c17;clear c17;by_cases c18 : 0 ≤ (rd (rd_L1 l1 x5_1) x7_3)
                    ·rw [if_pos c18] at H
                     have c18b0 : decide (0 ≤ (rd (rd_L1 l1 x5_1) x7_3)) = true := decide_eq_true c18;clear c18;by_cases c19 : (rd (rd_L1 l1 x5_1) x7_3) < ((rd_L7 x0_3 (rd (rd_L1 l1 x5_1) x6_2)).length : Int)
                     ·rw [if_pos c19] at H
                      have c19b0 : decide ((rd (rd_L1 l1 x5_1) x7_3) < ((rd_L7 x0_3 (rd (rd_L1 l1 x5_1) x6_2)).length : Int)) = true := decide_eq_true c19;clear c19;obtain ⟨y524, hy524⟩ : ∃ y_ : List Bool, y_ = ((rd_L7 x0_3 (rd (rd_L1 l1 x5_1) x6_2)).set ((rd (rd_L1 l1 x5_1) x7_3) : Int).toNat true) := ⟨_, rfl⟩;replace H : (arboristref10_Joined.l2 k3 (x0_3.set ((rd (rd_L1 l1 x5_1) x6_2) : Int).toNat y524) l1 x5_1 x6_2 (wrap64 (x7_3 + 1))) = some r := by first | (rw [hy524]; with_reducible exact H) | (have H2_ := (Option.bind_some _ _).symm.trans H; rw [hy524]; with_reducible exact H2_) | (have H2_ := (Option.bind_some _ _).symm.trans H; with_reducible exact H2_) | with_reducible exact H | (rw [hy524]; exact H) | exact H
                      have Ny524 := Aside0.mk hy524;clear hy524;obtain ⟨y526, hy526⟩ : ∃ y_ : List (List Bool), y_ = (x0_3.set ((rd (rd_L1 l1 x5_1) x6_2) : Int).toNat y524) := ⟨_, rfl⟩;replace H : (arboristref10_Joined.l2 k3 y526 l1 x5_1 x6_2 (wrap64 (x7_3 + 1))) = some r := by first | (rw [hy526]; with_reducible exact H) | (have H2_ := (Option.bind_some _ _).symm.trans H; rw [hy526]; with_reducible exact H2_) | (have H2_ := (Option.bind_some _ _).symm.trans H; with_reducible exact H2_) | with_reducible exact H | (rw [hy526]; exact H) | exact H
                      have Ny526 := Aside0.mk hy526;clear hy526;have H' := Aside0.mk H;clear H;have p518 : 0 ≤ (x5_1 : Int) := of_decide_eq_true qA;have q518 : x5_1 < (l1.length : Int) := of_decide_eq_true qA;obtain ⟨ad518, A518_0, c518_0, e518, hx518_0, hl518_0, hi518_0⟩ := at_L1 HR1.out x5_1 p518 q518;obtain rfl : ad517 = ad518 := (by injection e518);replace hx518_0 := (HB.out.cell (World.block_lt_of_cell? w _ hx518_0)).trans hx518_0;have HR518_0 := Aside0.mk hi518_0;have HC518_0 := Aside0.mk hl518_0;clear hi518_0 hl518_0;replace p518 := eq_true p518;replace q518 := eq_true q518;try go_wp2
                      replace HO_0 := Aside0.mk (Kd.S_drew HO_0.out);replace HB := Aside0.mk (below_drew1 HB.out);have p519 : 0 ≤ (x5_1 : Int) := of_decide_eq_true qA;have q519 : x5_1 < (l1.length : Int) := of_decide_eq_true qA;obtain ⟨ad519, A519_0, c519_0, e519, hx519_0, hl519_0, hi519_0⟩ := at_L1 HR1.out x5_1 p519 q519;have hw519_0 := hx519_0;obtain rfl : ad517 = ad519 := (by injection e519);replace hx519_0 := (HB.out.cell (World.block_lt_of_cell? w _ hx519_0)).trans hx519_0;have HR519_0 := Aside0.mk hi519_0;have HC519_0 := Aside0.mk hl519_0;clear hi519_0 hl519_0;replace p519 := eq_true p519;replace q519 := eq_true q519;have p520 : 0 ≤ (x6_2 : Int) := of_decide_eq_true qA;have q520 : x6_2 < ((rd_L1 l1 x5_1).length : Int) := of_decide_eq_true qA;obtain ⟨ad520, e520, hx520_0⟩ := Kd.at_int HR519_0.out x6_2 p520 q520;have hw520_0 := hx520_0;cases e520
                      replace hx520_0 := (HB.out.cell (World.block_lt_of_cell? w _ hx520_0)).trans hx520_0;replace p520 := eq_true p520;replace q520 := eq_true q520;obtain ⟨Ao22, co22, eo22⟩ := Kd.S_slice HO_0.out;(first | subst eo22 | (injection eo22 with f1_ f2_ f3_; have f4_ := f1_.symm; have f5_ := f3_.symm; clear f1_ f2_ f3_; subst f4_; subst f5_));have p521 : 0 ≤ ((rd (rd_L1 l1 x5_1) x6_2) : Int) := of_decide_eq_true qA;have q521 : (rd (rd_L1 l1 x5_1) x6_2) < (x0_3.length : Int) := of_decide_eq_true qA;obtain ⟨ad521, A521_0, c521_0, e521, hx521_0, hl521_0, hi521_0⟩ := at_L7 (Kd.S_reads' HO_0.out).2.2 (rd (rd_L1 l1 x5_1) x6_2) p521 q521;cases e521
                      obtain ⟨ce521, hce521, hMe521, hcc521⟩ := Kd.S_get HO_0.out [] (rd (rd_L1 l1 x5_1) x6_2) p521 (by first | exact q521 | exact of_decide_eq_true qA | (have e_ := (Kd.S_reads' HO_0.out).1; omega));obtain ⟨ve521_0, rfl, ge521_0⟩ := hMe521;have hv521_0 := hcc521 0 _ rfl;rw [Nat.add_zero, show ((Kd.slice 4 Kd.bool)).sz = 1 from rfl, Nat.mul_one] at hv521_0
                      replace hv521_0 := Option.some.inj (hv521_0.symm.trans hx521_0);rw [hv521_0] at ge521_0
                      have HL521_0 := Aside0.mk (show Kd.R Kd.bool 4 _ _ _ _ (rd_L7 x0_3 (rd (rd_L1 l1 x5_1) x6_2)) from ge521_0);clear hv521_0 ge521_0;have HX521_0 := Aside0.mk hx521_0;clear hcc521 hce521;have HR521_0 := Aside0.mk hi521_0;have HC521_0 := Aside0.mk hl521_0;clear hi521_0 hl521_0;replace p521 := eq_true p521;replace q521 := eq_true q521;have p522 : 0 ≤ (x5_1 : Int) := of_decide_eq_true qA;have q522 : x5_1 < (l1.length : Int) := of_decide_eq_true qA;obtain ⟨ad522, A522_0, c522_0, e522, hx522_0, hl522_0, hi522_0⟩ := at_L1 HR1.out x5_1 p522 q522;have hw522_0 := hx522_0;obtain rfl : ad517 = ad522 := (by injection e522);replace hx522_0 := (HB.out.cell (World.block_lt_of_cell? w _ hx522_0)).trans hx522_0;have HR522_0 := Aside0.mk hi522_0;have HC522_0 := Aside0.mk hl522_0;clear hi522_0 hl522_0;replace p522 := eq_true p522;replace q522 := eq_true q522;have ea_ := Option.some.inj (hx519_0.symm.trans hx522_0);injection ea_ with ea_ en_ ec_
                      subst ea_;subst ec_;clear en_;have p523 : 0 ≤ (x7_3 : Int) := of_decide_eq_true qA;have q523 : x7_3 < ((rd_L1 l1 x5_1).length : Int) := of_decide_eq_true qA;obtain ⟨ad523, e523, hx523_0⟩ := Kd.at_int HR522_0.out x7_3 p523 q523;have hw523_0 := hx523_0;cases e523
                      replace hx523_0 := (HB.out.cell (World.block_lt_of_cell? w _ hx523_0)).trans hx523_0;replace p523 := eq_true p523;replace q523 := eq_true q523;have p20 : 0 ≤ ((rd (rd_L1 l1 x5_1) x7_3) : Int) := of_decide_eq_true qA;have q20 : ((rd (rd_L1 l1 x5_1) x7_3) : Int) < (((rd_L7 x0_3 (rd (rd_L1 l1 x5_1) x6_2)).length : Int) : Int) := of_decide_eq_true qA;obtain ⟨go20, co20, eo20, gb20, gl20, cl20, HG20⟩ := Kd.R_form HL521_0.out (by omega);(first | cases eo20 | (injection eo20 with ea_ en_ ec_; (first | subst ea_ | (injection ea_ with ea_; subst ea_)); subst ec_; clear en_));have GB20 := Aside0.mk gb20;have GG20 := Aside0.mk HG20;clear gb20 gl20 HG20;obtain ⟨hx20_0, hf20_0⟩ := Kd.R_celln false HL521_0.out ((rd (rd_L1 l1 x5_1) x7_3) : Int) p20 q20;replace p20 := eq_true p20;replace q20 := eq_true q20;have hq23 : ((rd (rd_L1 l1 x5_1) x6_2) : Int) < (x0_3.length : Int) := (by have h_ : ((rd (rd_L1 l1 x5_1) x6_2) : Int) < ((x0_3.length : Int) : Int) := of_decide_eq_true qA; first | exact h_ | (have e_ := (Kd.S_reads' HO_0.out).1; omega) | simpa only [List.length_set, List.length_set] using h_);obtain ⟨oki23, ce23, hcl23, hM23, hcc23, hok23, hbk23⟩ := Kd.S_borrow HO_0.out [] ((rd (rd_L1 l1 x5_1) x6_2) : Int) (of_decide_eq_true qA) (by first | exact hq23 | (have e_ := (Kd.S_reads' HO_0.out).1; have h_ := hq23; omega));obtain ⟨ve23_0, rfl, ge23_0⟩ := hM23;have hv23 := hcc23 0 _ rfl;rw [Nat.add_zero, show ((Kd.slice 4 Kd.bool)).sz = 1 from rfl, Nat.mul_one] at hv23
                      replace hv23 := Option.some.inj (hv23.symm.trans HX521_0.out);subst hv23;clear hcc23 hcl23;replace ge23_0 := (show Kd.R Kd.bool 4 _ _ _ _ (rd_L7 x0_3 (rd (rd_L1 l1 x5_1) x6_2)) from ge23_0);have HP23 := Kd.R_putg ge23_0 ((rd (rd_L1 l1 x5_1) x7_3) : Int) true;rw [← Ny524.out] at HP23
                      have HS23 := hbk23 HP23.2 (fun k_ e_ => by injection e_ with e_; subst e_; exact ge23_0.1 _ rfl) (x' := y524) (Kd.M_row HP23.1);rw [← Ny526.out] at HS23
                      have HQ23 := Aside0.mk HS23;clear HP23 HS23 hbk23 hok23;refine start_ (n := 19) (S := fun w' => w'.cell? (ad517.add (x5_1).toNat) = some (.slice (some ad520) (rd_L1 l1 x5_1).length c519_0) ∧ w'.cell? (ad520.add (x6_2).toNat) = some (.int .i64 (rd (rd_L1 l1 x5_1) x6_2)) ∧ w'.cell? (ad521.add ((rd (rd_L1 l1 x5_1) x6_2)).toNat) = some (.slice (some ⟨go20, 0, none⟩) (rd_L7 x0_3 (rd (rd_L1 l1 x5_1) x6_2)).length c521_0) ∧ w'.cell? (ad517.add (x5_1).toNat) = some (.slice (some ad520) (rd_L1 l1 x5_1).length c519_0) ∧ w'.cell? (ad520.add (x7_3).toNat) = some (.int .i64 (rd (rd_L1 l1 x5_1) x7_3))) (ds := [18]) (bs 19 0) (by kernel_rfl) rfl rfl ⟨((HB.out.cell (World.block_lt_of_cell? w _ hw519_0)).trans hw519_0), ((HB.out.cell (World.block_lt_of_cell? w _ hw520_0)).trans hw520_0), hx521_0, ((HB.out.cell (World.block_lt_of_cell? w _ hw522_0)).trans hw522_0), ((HB.out.cell (World.block_lt_of_cell? w _ hw523_0)).trans hw523_0)⟩ (fun hHeld => ?_); refine with_tabW arboristref10_Joined.tab12 arboristref10_Joined.bits12 (fun HT_ HW_ => ?_)
                      generalize wr.drew = w21 at HO_0 HB GG20 HL521_0 HQ23 HR519_0 HR521_0 HR522_0 HX521_0 hf20_0 hx20_0 hx519_0 hx520_0 hx521_0 hx522_0 hx523_0 hHeld ⊢
                      refine qP 0 (some 37) (bs 19 1) HT_.out ?_;refine qP 1 (some 38) (bs 19 3) HT_.out ?_;refine qP 2 (some 39) (bs 19 7) HT_.out ?_;refine qP 3 (some 40) (bs 19 15) HT_.out ?_;refine qP 5 (some 42) (bs 19 47) HT_.out ?_;refine qP 10 (some 47) (bs 19 1071) HT_.out ?_;refine qP 11 (some 48) (bs 19 3119) HT_.out ?_;refine qP 12 (some 49) (bs 19 7215) HT_.out ?_;refine qP 14 (some 51) (bs 19 23599) HT_.out ?_;refine take_ (i := 4) (N := some 41) (v := ?_) (a' := ?_) (bs 19 23615) rfl rfl (take_ofW HT_.out HW_.out (by kernel_rfl)) (fun _ _ _ h => h) (Or.inl ⟨by rfl, ?_⟩) hHeld ?_ ?_;rotate_left
                      ·rintro w' ⟨s0, s1, s2, s3, s4⟩
                       go_simp
                       with_reducible rfl
                      rotate_left; (simp only [Act.put, List.setIfInBounds_toArray, List.set_cons_zero, List.set_cons_succ, i64_w, i32_w]; rfl)
                      refine qP 6 (some 43) (bs 19 23679) HT_.out ?_;refine take_ (i := 7) (N := some 44) (v := ?_) (a' := ?_) (bs 19 23807) rfl rfl (take_ofW HT_.out HW_.out (by kernel_rfl)) (fun _ _ _ h => h) (Or.inl ⟨by rfl, ?_⟩) hHeld ?_ ?_;rotate_left
                      ·rintro w' ⟨s0, s1, s2, s3, s4⟩
                       go_simp
                       with_reducible rfl
                      rotate_left; (simp only [Act.put, List.setIfInBounds_toArray, List.set_cons_zero, List.set_cons_succ, i64_w, i32_w]; rfl)
                      refine qP 8 (some 45) (bs 19 24063) HT_.out ?_;refine take_ (i := 9) (N := some 46) (v := ?_) (a' := ?_) (bs 19 24575) rfl rfl (take_ofW HT_.out HW_.out (by kernel_rfl)) (fun _ _ _ h => h) (Or.inl ⟨by rfl, ?_⟩) hHeld ?_ ?_;rotate_left
                      ·rintro w' ⟨s0, s1, s2, s3, s4⟩
                       go_simp
                       with_reducible rfl
                      rotate_left; (simp only [Act.put, List.setIfInBounds_toArray, List.set_cons_zero, List.set_cons_succ, i64_w, i32_w]; rfl)
                      refine take_ (i := 13) (N := some 50) (v := ?_) (a' := ?_) (bs 19 32767) rfl rfl (take_ofW HT_.out HW_.out (by kernel_rfl)) (fun _ _ _ h => h) (Or.inl ⟨by rfl, ?_⟩) hHeld ?_ ?_;rotate_left
                      ·rintro w' ⟨s0, s1, s2, s3, s4⟩
                       go_simp
                       with_reducible rfl
                      rotate_left; (simp only [Act.put, List.setIfInBounds_toArray, List.set_cons_zero, List.set_cons_succ, i64_w, i32_w]; rfl)
                      refine qP 15 (some 52) (bs 19 65535) HT_.out ?_;refine take_ (i := 16) (N := some 53) (v := ?_) (a' := ?_) (bs 19 131071) rfl rfl (take_ofW HT_.out HW_.out (by kernel_rfl)) (fun _ _ _ h => h) (Or.inl ⟨by rfl, ?_⟩) hHeld ?_ ?_;rotate_left
                      ·rintro w' ⟨s0, s1, s2, s3, s4⟩
                       go_simp
                       with_reducible rfl
                      rotate_left; (simp only [Act.put, List.setIfInBounds_toArray, List.set_cons_zero, List.set_cons_succ, i64_w, i32_w]; rfl)
                      refine qP 17 (some 54) (bs 19 262143) HT_.out ?_;refine last_ (i := 18) (N := none) (bs 19 524287) rfl rfl (one_of HT_.out (by kernel_rfl)) (by decide) (fun K hK => ?_);refine skip_ (w1 := ?_) (by rfl) rfl ?_ ?_;rotate_left
                      ·go_simp
                       rfl
                      refine hK.out _ _ ?_;clear hK K;refine done_ (done_of HT_.out (by kernel_rfl)) ?_;try go_wp2
                      go_roundg k3
                      case measure => have := HK1.out; have := HK2.out; have := HK3.out; omega
                      case rel => exact ⟨(y526), (wrap64 (x7_3 + 1)), (by first | rfl | (simp; done) | (simp [*]; done)), H', ⟨by have := HK1.out; have := HK2.out; have := HK3.out; omega⟩, ⟨by (with_reducible repeat (first | apply Kd.S_alloc | apply Kd.S_drewN | apply Kd.S_drew)); exact HQ23.out⟩, ⟨by repeat (first | (with_reducible first | exact HB.out | apply below_alloc | apply pw_below_drewN | apply below_drew1 | refine below_set ?_ GB20.out) | exact HB.out)⟩⟩
                     ·rw [if_neg c19] at H
                      exact absurd H (by simp)
                    ·rw [if_neg c18] at H
                     exact absurd H (by simp)
                   ·rw [if_neg c17] at H
                    exact absurd H (by simp)
                  ·rw [if_neg c16] at H
                   exact absurd H (by simp)
                 ·rw [if_neg c15] at H
                  exact absurd H (by simp)
                ·rw [if_neg c14] at H
                 exact absurd H (by simp)
               ·rw [if_neg c13] at H
                exact absurd H (by simp)
             ·rw [if_neg c11] at H
              have c11b0 : decide (x7_3 < ((rd_L1 l1 x5_1).length : Int)) = false := decide_eq_false c11;clear c11;have H' := Aside0.mk H;clear H;have p518 : 0 ≤ (x5_1 : Int) := of_decide_eq_true qA;have q518 : x5_1 < (l1.length : Int) := of_decide_eq_true qA;obtain ⟨ad518, A518_0, c518_0, e518, hx518_0, hl518_0, hi518_0⟩ := at_L1 HR1.out x5_1 p518 q518;obtain rfl : ad517 = ad518 := (by injection e518);replace hx518_0 := (HB.out.cell (World.block_lt_of_cell? w _ hx518_0)).trans hx518_0;have HR518_0 := Aside0.mk hi518_0;have HC518_0 := Aside0.mk hl518_0;clear hi518_0 hl518_0;replace p518 := eq_true p518;replace q518 := eq_true q518;go_wp2
              go_roundg k3
              case measure => have := HK1.out; have := HK2.out; have := HK3.out; omega
              case rel => exact ⟨(x0_3), (wrap64 (x6_2 + 1)), (by first | rfl | (simp; done) | (simp [*]; done)), H', ⟨by have := HK1.out; have := HK2.out; have := HK3.out; omega⟩, ⟨by (with_reducible repeat (first | apply Kd.S_alloc | apply Kd.S_drewN | apply Kd.S_drew)); exact HO_0.out⟩, ⟨by repeat (first | (with_reducible first | exact HB.out | apply below_alloc | apply pw_below_drewN | apply below_drew1) | exact HB.out)⟩⟩
            ·rw [if_neg c10] at H
             exact absurd H (by simp)
           ·rw [if_neg c9] at H
            exact absurd H (by simp)
        ·rw [if_neg c8] at H
         have c8b0 : decide (x6_2 < ((rd_L1 l1 x5_1).length : Int)) = false := decide_eq_false c8;clear c8;have H' := Aside0.mk H;clear H;have p517 : 0 ≤ (x5_1 : Int) := of_decide_eq_true qA;have q517 : x5_1 < (l1.length : Int) := of_decide_eq_true qA;obtain ⟨ad517, A517_0, c517_0, e517, hx517_0, hl517_0, hi517_0⟩ := at_L1 HR1.out x5_1 p517 q517;cases e517
         replace hx517_0 := (HB.out.cell (World.block_lt_of_cell? w _ hx517_0)).trans hx517_0;have HR517_0 := Aside0.mk hi517_0;have HC517_0 := Aside0.mk hl517_0;clear hi517_0 hl517_0;replace p517 := eq_true p517;replace q517 := eq_true q517;go_wp2
         go_roundg k2
         case measure => have := HK1.out; have := HK2.out; omega
         case rel => exact ⟨(x0_2), (wrap64 (x5_1 + 1)), (by first | rfl | (simp; done) | (simp [*]; done)), H', ⟨by have := HK1.out; have := HK2.out; omega⟩, ⟨by (with_reducible repeat (first | apply Kd.S_alloc | apply Kd.S_drewN | apply Kd.S_drew)); exact HO_0.out⟩, ⟨by repeat (first | (with_reducible first | exact HB.out | apply below_alloc | apply pw_below_drewN | apply below_drew1) | exact HB.out)⟩⟩
       ·rw [if_neg c7] at H
        exact absurd H (by simp)
      ·rw [if_neg c6] at H
       exact absurd H (by simp)
   ·rw [if_neg c5] at H
    have c5b0 : decide (x5_1 < (l1.length : Int)) = false := decide_eq_false c5;clear c5;obtain rfl := Option.some.inj H;go_wp2
    go_ret
    exact ⟨_, by first | rfl | (simp [errW_none, errW_some] <;> rfl) | (simp [*, errW_none, errW_some] <;> rfl), by (with_reducible repeat (first | apply Kd.S_alloc | apply Kd.S_drewN | apply Kd.S_drew)); exact HO_0.out, by repeat (first | (with_reducible first | exact HB.out | apply below_alloc | apply pw_below_drewN | apply below_drew1) | exact HB.out)⟩
end Go.Proofs.YtopjffgmpphdbaaDoor.Pr
