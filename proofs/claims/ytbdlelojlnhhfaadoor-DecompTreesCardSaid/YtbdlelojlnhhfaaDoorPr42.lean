-- Printed by a program of this session's own (wip/tools/pp.py) over the kit's print.py; Lean checks it.
import Derived.Test.YtbdlelojlnhhfaaDoorPr1
import Derived.Test.YtbdlelojlnhhfaaDoorPr0
import Derived.Test.YtbdlelojlnhhfaaDoorPr40
namespace Go.Proofs.YtbdlelojlnhhfaaDoor.Pr
open Go.RowKit Go.Proofs.YtbdlelojlnhhfaaDoorW.PrintWords Go.Proofs.YtbdlelojlnhhfaaDoorW.PrintLast Go.Proofs.YtbdlelojlnhhfaaDoorW.PrintMore
attribute [local go_sem] max2_int min2_int max_two min_two max_three min_three max_four min_four
set_option linter.unusedVariables false
set_option linter.unusedSimpArgs false
/-! ### arboristref09_Go: function 38 -/
mutual
def arboristref09_Go.l0 : Nat → List (List Bool) → Int → List Int → Int → Option ((List (List Bool)))
 | 0, _, _, _, _ => none
 | k + 1, x0, x1, x4, x5 => if x5 < (x4.length : Int) then (arboristref09_Go.l1 k x0 x1 x4 x5 0) else (arboristref09_Go.l2 k x0 x1 x4 0)
def arboristref09_Go.l1 : Nat → List (List Bool) → Int → List Int → Int → Int → Option ((List (List Bool)))
 | 0, _, _, _, _, _ => none
 | k + 1, x0, x1, x4, x5, x6 => if x6 < (x4.length : Int) then (if x5 = x6 then (arboristref09_Go.l1 k x0 x1 x4 x5 (wrap64 (x6 + 1))) else (if 0 ≤ x5 then (if x5 < (x4.length : Int) then (if 0 ≤ (rd x4 x5) then (if (rd x4 x5) < (x0.length : Int) then (if 0 ≤ x6 then (if 0 ≤ (rd x4 x6) then (if (rd x4 x6) < ((rd_L8 x0 (rd x4 x5)).length : Int) then (arboristref09_Go.l1 k (x0.set ((rd x4 x5) : Int).toNat ((rd_L8 x0 (rd x4 x5)).set ((rd x4 x6) : Int).toNat true)) x1 x4 x5 (wrap64 (x6 + 1))) else (none)) else (none)) else (none)) else (none)) else (none)) else (none)) else (none))) else (arboristref09_Go.l0 k x0 x1 x4 (wrap64 (x5 + 1)))
def arboristref09_Go.l2 : Nat → List (List Bool) → Int → List Int → Int → Option ((List (List Bool)))
 | 0, _, _, _, _ => none
 | k + 1, x0, x1, x4, x7 => if x7 < (x4.length : Int) then (if 0 ≤ x1 then (if x1 < (x0.length : Int) then (if 0 ≤ x7 then (if 0 ≤ (rd x4 x7) then (if (rd x4 x7) < ((rd_L8 x0 x1).length : Int) then ((some (x0.set (x1 : Int).toNat ((rd_L8 x0 x1).set ((rd x4 x7) : Int).toNat false) : List (List Bool))).bind fun y524 => (if (rd x4 x7) < (x0.length : Int) then (if x1 < ((rd_L8 y524 (rd x4 x7)).length : Int) then (arboristref09_Go.l2 k (y524.set ((rd x4 x7) : Int).toNat ((rd_L8 y524 (rd x4 x7)).set (x1 : Int).toNat false)) x1 x4 (wrap64 (x7 + 1))) else (none)) else (none))) else (none)) else (none)) else (none)) else (none)) else (none)) else (some x0)
end
def arboristref09_Go.f (k : Nat) (l0 : List (List Bool)) (a1 : Int) : Option ((List (List Bool))) := (arboristref08_Neighbors.f k l0 a1).bind fun t511 => (arboristref09_Go.l0 k l0 a1 t511 0)
theorem arboristref09_Go.mono_l : ∀ k, (∀ y0 y1 y2 y3, LeO (arboristref09_Go.l0 k y0 y1 y2 y3) (arboristref09_Go.l0 (k + 1) y0 y1 y2 y3)) ∧ (∀ y0 y1 y2 y3 y4, LeO (arboristref09_Go.l1 k y0 y1 y2 y3 y4) (arboristref09_Go.l1 (k + 1) y0 y1 y2 y3 y4)) ∧ (∀ y0 y1 y2 y3, LeO (arboristref09_Go.l2 k y0 y1 y2 y3) (arboristref09_Go.l2 (k + 1) y0 y1 y2 y3))
 | 0 => ⟨fun _ _ _ _ r h => by simp [arboristref09_Go.l0] at h, fun _ _ _ _ _ r h => by simp [arboristref09_Go.l1] at h, fun _ _ _ _ r h => by simp [arboristref09_Go.l2] at h⟩
 | k + 1 => by
  obtain ⟨ih0, ih1, ih2⟩ := arboristref09_Go.mono_l k;refine ⟨?_, ?_, ?_⟩;all_goals intros
  all_goals (first | unfold arboristref09_Go.l0 | unfold arboristref09_Go.l1 | unfold arboristref09_Go.l2)
  all_goals repeat' first
  | (with_reducible first | exact ih0 _ _ _ _ | exact ih1 _ _ _ _ _ | exact ih2 _ _ _ _ | exact arboristref08_Neighbors.mono _ _ _ | exact LeO.refl _ | exact LeO.none _ | refine LeO.ite ?_ ?_ | refine LeO.bind ?_ (fun _ => ?_))
  | exact ih0 _ _ _ _
  | exact ih1 _ _ _ _ _
  | exact ih2 _ _ _ _
  | exact arboristref08_Neighbors.mono _ _ _
  | exact LeO.none _
  | refine LeO.ite ?_ ?_
  | refine LeO.bind ?_ (fun _ => ?_)
theorem arboristref09_Go.mono : ∀ a0 a1 k, LeO (arboristref09_Go.f k a0 a1) (arboristref09_Go.f (k + 1) a0 a1) := by
 intro a0 a1 k
 obtain ⟨ih0, ih1, ih2⟩ := arboristref09_Go.mono_l k;unfold arboristref09_Go.f
 repeat' first
   | (with_reducible first | exact ih0 _ _ _ _ | exact ih1 _ _ _ _ _ | exact ih2 _ _ _ _ | exact arboristref08_Neighbors.mono _ _ _ | exact LeO.refl _ | exact LeO.none _ | refine LeO.ite ?_ ?_ | refine LeO.bind ?_ (fun _ => ?_))
   | exact ih0 _ _ _ _
   | exact ih1 _ _ _ _ _
   | exact ih2 _ _ _ _
   | exact arboristref08_Neighbors.mono _ _ _
   | exact LeO.none _
   | refine LeO.ite ?_ ?_
   | refine LeO.bind ?_ (fun _ => ?_)
def arboristref09_Go.T8 : Bool × List (List Nat × List Nat) := (true, [([], []), ([], []), ([], []), ([1, 2], [1, 2]), ([3], [3]), ([0, 4], [0, 4]), ([5], [5]), ([], []), ([], []), ([7, 8], [7, 8]), ([9], [9]), ([6, 10, 0, 1, 2, 3, 4, 5, 6, 7, 8, 9, 10], [6, 10]), ([11, 0, 1, 2, 3, 4, 5, 6, 7, 8, 9, 10], [11])])
def arboristref09_Go.B8 : List Nat := [0, 0, 0, 6, 14, 31, 63, 0, 0, 384, 896, 2047, 4095]
theorem arboristref09_Go.tab8 : rtab .any (opsOf Tryd.f38 8) = arboristref09_Go.T8 := by kernel_rfl
theorem arboristref09_Go.bits8 : waitsOk arboristref09_Go.T8.2 arboristref09_Go.B8 = true := by kernel_rfl
def arboristref09_Go.T12 : Bool × List (List Nat × List Nat) := (true, [([], []), ([], []), ([0, 1], [0, 1]), ([2], [2]), ([], []), ([], []), ([4, 5], [4, 5]), ([6], [6]), ([3, 7, 0, 1, 2, 3, 4, 5, 6, 7], [3, 7]), ([8, 0, 1, 2, 3, 4, 5, 6, 7], [8])])
def arboristref09_Go.B12 : List Nat := [0, 0, 3, 7, 0, 0, 48, 112, 255, 511]
theorem arboristref09_Go.tab12 : rtab .any (opsOf Tryd.f38 12) = arboristref09_Go.T12 := by kernel_rfl
theorem arboristref09_Go.bits12 : waitsOk arboristref09_Go.T12.2 arboristref09_Go.B12 = true := by kernel_rfl
set_option maxHeartbeats 8000000 in
set_option maxRecDepth 100000 in
theorem arboristref09_Go.calls (k : Nat) (P0_ : Nat → Prop) (u9000_ : Value) (l0 : List (List Bool)) (a1 : Int) (r : List (List Bool)) (w0 w : World) (hB : Below w0.heap.size w0 w) (ho0 : Kd.S (Kd.slice 4 Kd.bool) 40 w w0.heap.size P0_ u9000_ l0) (h : arboristref09_Go.f k l0 a1 = some r) :
  Calls Tryd.prog 38 #[u9000_, .int .i64 a1] w fun e w' => e = .returned (.tuple #[]) ∧ Kd.S (Kd.slice 4 Kd.bool) 40 w' w0.heap.size (fun k_ => (P0_ k_ ∨ w.heap.size ≤ k_)) u9000_ r ∧ Below w0.heap.size w0 w' ∧ Kept w w' (fun k_ => P0_ k_) := by
 have HO0 := Aside0.mk (show Kd.S (Kd.slice 4 Kd.bool) 40 w w0.heap.size (fun k_ => (P0_ k_ ∨ w.heap.size ≤ k_)) u9000_ l0 from Kd.S_mono ho0 (fun k_ hk => (.inl hk)));have HK := Aside0.mk (Kept.refl w (fun k_ => P0_ k_));have HW0 := Aside0.mk hB.size;have HB := Aside0.mk hB;clear hB;have H : ((arboristref08_Neighbors.f k l0 a1).bind fun t511 => (arboristref09_Go.l0 k l0 a1 t511 0)) = some r := h;clear h;replace H := Option.bind_eq_some_iff.mp H;obtain ⟨t511, A30, H⟩ := H;(try dsimp only at H);have A3 := Aside0.mk A30;clear A30;have H' := Aside0.mk H;clear H;obtain ⟨Ao4, co4, eo4⟩ := Kd.S_slice HO0.out;subst eo4;go_enter Tryd.func38, Tryd.ntmps38
 go_wp2_with (first | ((with_reducible refine gate_callee (f := 27) rfl ?_); refine goesL_ (some 10) rfl rfl Tryd.func27 (by kernel_rfl) rfl #[.slice Ao4 l0.length co4, .int .i64 a1] rfl qM ?_; (with_reducible refine (arboristref08_Neighbors.calls k _ _ l0 a1 t511 _ ?side1 ?side2 A3.out).mono ?_); (case side1 => repeat (first | exact (Kd.S_reads' HO0.out).2.2 | (with_reducible refine Kd.C_alloc ?_ _) | (with_reducible refine Kd.C_drewN ?_ _) | (with_reducible refine Kd.C_drew ?_))); (case side2 => exact (Kd.S_reads' HO0.out).2.1); rintro e w5 ⟨v512, rfl, ho0, hb⟩; refine ⟨_, rfl, ?_⟩; have n0_ := Aside0.mk (Kd.S_below (qS HO0.out) hb); have n1_ := Aside0.mk (Kd.R_lower (Kd.R_newM (M := fun k_ => (P0_ k_ ∨ w.heap.size ≤ k_)) ho0 (by first | exact HK.out.1 | exact (show Kept w _ (fun k_ => P0_ k_) from by repeat (first | (with_reducible first | exact HK.out | apply Kept.alloc | apply Kept.drewN | apply Kept.drew) | exact HK.out)).1) (fun k_ h_ => .inr h_)) (below_size (qB HB.out))); have n2_ := Aside0.mk (Kept.below (S := (fun k_ => P0_ k_)) (by repeat (first | (with_reducible first | exact HK.out | apply Kept.alloc | apply Kept.drewN | apply Kept.drew) | exact HK.out)) hb); have n3_ := Aside0.mk (below_step (qB HB.out) hb); clear HO0; clear HK; clear HB; have HO0 := n0_; have HO513 := n1_; have HK := n2_; have HB := n3_; clear n0_ n1_ n2_ n3_; (try clear hb); (try clear hb2); (try clear hk); (try clear hi); (try clear ho0)))
 go_loopg [5] k (fun kq v5 w' => ∃ (x0_1 : List (List Bool)) (x5_1 : Int), v5 = .int .i64 x5_1 ∧ Aside0 (arboristref09_Go.l0 kq x0_1 a1 t511 x5_1 = some r) ∧ Aside0 (kq ≤ k) ∧ Aside0 (Kd.S (Kd.slice 4 Kd.bool) 40 w' w0.heap.size (fun k_ => (P0_ k_ ∨ w.heap.size ≤ k_)) (.slice Ao4 l0.length co4) x0_1) ∧ Aside0 (Kd.R (Kd.int .i64) 3 w' w0.heap.size (fun k_ => (P0_ k_ ∨ w.heap.size ≤ k_)) v512 t511) ∧ Aside0 (Kept w w' (fun k_ => P0_ k_)) ∧ Aside0 (Below w0.heap.size w0 w'))
 case atStart => exact ⟨(l0), (0), (by first | rfl | (simp; done) | (simp [*]; done)), H', ⟨Nat.le_refl _⟩, ⟨by (with_reducible repeat (first | apply Kd.S_alloc | apply Kd.S_drewN | apply Kd.S_drew)); exact HO0.out⟩, ⟨by (with_reducible repeat (first | apply Kd.R_alloc | apply Kd.R_drewN | apply Kd.R_drew)); exact Kd.R_mono HO513.out (fun _ hk => hk.1)⟩, ⟨by repeat (first | (with_reducible first | exact HK.out | apply Kept.alloc | apply Kept.drewN | apply Kept.drew) | exact HK.out)⟩, ⟨by repeat (first | (with_reducible first | exact HB.out | apply below_alloc | apply pw_below_drewN | apply below_drew1) | exact HB.out)⟩⟩
 case round =>
  clear H';try clear c2
  try clear p2
  try clear c3
  obtain ⟨x0_1, x5_1, rfl, HA, HK1, HO_0, HO_4, HK, HB⟩ := hrel;have hl0_1 := (Kd.S_reads' HO_0.out).1;rw [hl0_1] at HO_0
  (try simp only [hl0_1]);(try simp only [hl0_1] at HO_4);cases gk with
  | zero => exact absurd HA.out (by simp [arboristref09_Go.l0])
  | succ k1 =>
   have H := HA.out;clear HA;simp only [arboristref09_Go.l0] at H
   by_cases c6 : x5_1 < (t511.length : Int)
   ·rw [if_pos c6] at H
    have c6b0 : decide (x5_1 < (t511.length : Int)) = true := decide_eq_true c6;clear c6;have H' := Aside0.mk H;clear H;obtain ⟨Ao7, co7, eo7⟩ := Kd.R_slice HO_4.out;subst eo7;go_wp2
    go_loopg [6] k1 (fun kq v6 w' => ∃ (x0_2 : List (List Bool)) (x6_2 : Int), v6 = .int .i64 x6_2 ∧ Aside0 (arboristref09_Go.l1 kq x0_2 a1 t511 x5_1 x6_2 = some r) ∧ Aside0 (kq ≤ k1) ∧ Aside0 (Kd.S (Kd.slice 4 Kd.bool) 40 w' w0.heap.size (fun k_ => (P0_ k_ ∨ w.heap.size ≤ k_)) (.slice Ao4 x0_1.length co4) x0_2) ∧ Aside0 (Kd.R (Kd.int .i64) 3 w' w0.heap.size (fun k_ => (P0_ k_ ∨ w.heap.size ≤ k_)) (.slice Ao7 t511.length co7) t511) ∧ Aside0 (Kept w w' (fun k_ => P0_ k_)) ∧ Aside0 (Below w0.heap.size w0 w'))
    case atStart => exact ⟨(x0_1), (0), (by first | rfl | (simp; done) | (simp [*]; done)), H', ⟨Nat.le_refl _⟩, ⟨by (try simp only [hl0_1]); (with_reducible repeat (first | apply Kd.S_alloc | apply Kd.S_drewN | apply Kd.S_drew)); exact HO_0.out⟩, ⟨by (try simp only [hl0_1]); (with_reducible repeat (first | apply Kd.R_alloc | apply Kd.R_drewN | apply Kd.R_drew)); exact HO_4.out⟩, ⟨by repeat (first | (with_reducible first | exact HK.out | apply Kept.alloc | apply Kept.drewN | apply Kept.drew) | exact HK.out)⟩, ⟨by repeat (first | (with_reducible first | exact HB.out | apply below_alloc | apply pw_below_drewN | apply below_drew1) | exact HB.out)⟩⟩
    case round =>
     clear H';try clear c2
     try clear p2
     try clear c3
     try clear c6
     try clear c6b0
     try clear p2
     obtain ⟨x0_2, x6_2, rfl, HA, HK2, HO_0, HO_4, HK, HB⟩ := hrel;have hl0_2 := (Kd.S_reads' HO_0.out).1;rw [hl0_2] at HO_0
     (try simp only [hl0_2]);(try simp only [hl0_2] at HO_4);cases gk with
     | zero => exact absurd HA.out (by simp [arboristref09_Go.l1])
     | succ k2 =>
      have H := HA.out;clear HA;simp only [arboristref09_Go.l1] at H
      by_cases c8 : x6_2 < (t511.length : Int)
      ·rw [if_pos c8] at H
       have c8b0 : decide (x6_2 < (t511.length : Int)) = true := decide_eq_true c8;clear c8;by_cases c9 : x5_1 = x6_2
       ·rw [if_pos c9] at H
        have c9b0 : (x5_1 == x6_2) = true := beq_iff_eq.mpr c9;have c9b1 : (x5_1 != x6_2) = false := bne_eq_false_iff_eq.mpr c9;clear c9;have H' := Aside0.mk H;clear H;go_wp2
        (try simp only [← hl0_2]);go_roundg k2
        case measure => have := HK1.out; have := HK2.out; omega
        case rel => exact ⟨(x0_2), (wrap64 (x6_2 + 1)), (by first | rfl | (simp; done) | (simp [*]; done)), H', ⟨by have := HK1.out; have := HK2.out; omega⟩, ⟨by (try simp only [hl0_1]); (try simp only [hl0_2]); (with_reducible repeat (first | apply Kd.S_alloc | apply Kd.S_drewN | apply Kd.S_drew)); exact HO_0.out⟩, ⟨by (try simp only [hl0_1]); (try simp only [hl0_2]); (with_reducible repeat (first | apply Kd.R_alloc | apply Kd.R_drewN | apply Kd.R_drew)); exact HO_4.out⟩, ⟨by repeat (first | (with_reducible first | exact HK.out | apply Kept.alloc | apply Kept.drewN | apply Kept.drew) | exact HK.out)⟩, ⟨by repeat (first | (with_reducible first | exact HB.out | apply below_alloc | apply pw_below_drewN | apply below_drew1) | exact HB.out)⟩⟩
       ·rw [if_neg c9] at H
        have c9b0 : (x5_1 == x6_2) = false := beq_eq_false_iff_ne.mpr c9;have c9b1 : (x5_1 != x6_2) = true := bne_iff_ne.mpr c9;by_cases c10 : 0 ≤ x5_1
        ·rw [if_pos c10] at H
         have c10b0 : decide (0 ≤ x5_1) = true := decide_eq_true c10;clear c10;by_cases c11 : x5_1 < (t511.length : Int)
         ·rw [if_pos c11] at H
          have c11b0 : decide (x5_1 < (t511.length : Int)) = true := decide_eq_true c11;clear c11;by_cases c12 : 0 ≤ (rd t511 x5_1)
          ·rw [if_pos c12] at H
           have c12b0 : decide (0 ≤ (rd t511 x5_1)) = true := decide_eq_true c12;clear c12;by_cases c13 : (rd t511 x5_1) < (x0_2.length : Int)
           ·rw [if_pos c13] at H
            have c13b0 : decide ((rd t511 x5_1) < (x0_2.length : Int)) = true := decide_eq_true c13;clear c13;by_cases c14 : 0 ≤ x6_2
            ·rw [if_pos c14] at H
             have c14b0 : decide (0 ≤ x6_2) = true := decide_eq_true c14;clear c14;by_cases c15 : 0 ≤ (rd t511 x6_2)
             ·rw [if_pos c15] at H
              have c15b0 : decide (0 ≤ (rd t511 x6_2)) = true := decide_eq_true c15;clear c15;by_cases c16 : (rd t511 x6_2) < ((rd_L8 x0_2 (rd t511 x5_1)).length : Int)
              ·rw [if_pos c16] at H
               have c16b0 : decide ((rd t511 x6_2) < ((rd_L8 x0_2 (rd t511 x5_1)).length : Int)) = true := decide_eq_true c16;clear c16;obtain ⟨y517, hy517⟩ : ∃ y_ : List Bool, y_ = ((rd_L8 x0_2 (rd t511 x5_1)).set ((rd t511 x6_2) : Int).toNat true) := ⟨_, rfl⟩;replace H : (arboristref09_Go.l1 k2 (x0_2.set ((rd t511 x5_1) : Int).toNat y517) a1 t511 x5_1 (wrap64 (x6_2 + 1))) = some r := by first | (rw [hy517]; with_reducible exact H) | (have H2_ := (Option.bind_some _ _).symm.trans H; rw [hy517]; with_reducible exact H2_) | (have H2_ := (Option.bind_some _ _).symm.trans H; with_reducible exact H2_) | with_reducible exact H | (rw [hy517]; exact H) | exact H
               have Ny517 := Aside0.mk hy517;clear hy517;obtain ⟨y519, hy519⟩ : ∃ y_ : List (List Bool), y_ = (x0_2.set ((rd t511 x5_1) : Int).toNat y517) := ⟨_, rfl⟩;replace H : (arboristref09_Go.l1 k2 y519 a1 t511 x5_1 (wrap64 (x6_2 + 1))) = some r := by first | (rw [hy519]; with_reducible exact H) | (have H2_ := (Option.bind_some _ _).symm.trans H; rw [hy519]; with_reducible exact H2_) | (have H2_ := (Option.bind_some _ _).symm.trans H; with_reducible exact H2_) | with_reducible exact H | (rw [hy519]; exact H) | exact H
               have Ny519 := Aside0.mk hy519;clear hy519;have H' := Aside0.mk H;clear H;try go_wp2
               replace HO_0 := Aside0.mk (Kd.S_drew HO_0.out);replace HO_4 := Aside0.mk (Kd.R_drew HO_4.out);replace HK := Aside0.mk (Kept.drew HK.out);replace HB := Aside0.mk (below_drew1 HB.out);have p514 : 0 ≤ (x5_1 : Int) := of_decide_eq_true qA;have q514 : x5_1 < (t511.length : Int) := of_decide_eq_true qA;obtain ⟨ad514, e514, hx514_0⟩ := Kd.at_int (Kd.R_reads' HO_4.out).2.2 x5_1 p514 q514;cases e514
               replace p514 := eq_true p514;replace q514 := eq_true q514;have p515 : 0 ≤ ((rd t511 x5_1) : Int) := of_decide_eq_true qA;have q515 : (rd t511 x5_1) < (x0_2.length : Int) := of_decide_eq_true qA;obtain ⟨ad515, A515_0, c515_0, e515, hx515_0, hl515_0, hi515_0⟩ := at_L8 (Kd.S_reads' HO_0.out).2.2 (rd t511 x5_1) p515 q515;cases e515
               obtain ⟨ce515, hce515, hMe515, hcc515⟩ := Kd.S_get HO_0.out [] (rd t511 x5_1) p515 (by first | exact q515 | exact of_decide_eq_true qA | (have e_ := (Kd.S_reads' HO_0.out).1; omega));obtain ⟨ve515_0, rfl, ge515_0⟩ := hMe515;have hv515_0 := hcc515 0 _ rfl;rw [Nat.add_zero, show ((Kd.slice 4 Kd.bool)).sz = 1 from rfl, Nat.mul_one] at hv515_0
               replace hv515_0 := Option.some.inj (hv515_0.symm.trans hx515_0);rw [hv515_0] at ge515_0
               have HL515_0 := Aside0.mk (show Kd.R Kd.bool 4 _ _ _ _ (rd_L8 x0_2 (rd t511 x5_1)) from ge515_0);clear hv515_0 ge515_0;have HX515_0 := Aside0.mk hx515_0;clear hcc515 hce515;have HR515_0 := Aside0.mk hi515_0;have HC515_0 := Aside0.mk hl515_0;clear hi515_0 hl515_0;replace p515 := eq_true p515;replace q515 := eq_true q515;have p516 : 0 ≤ (x6_2 : Int) := of_decide_eq_true qA;have q516 : x6_2 < (t511.length : Int) := of_decide_eq_true qA;obtain ⟨ad516, e516, hx516_0⟩ := Kd.at_int (Kd.R_reads' HO_4.out).2.2 x6_2 p516 q516;obtain rfl : ad514 = ad516 := (by injection e516);replace p516 := eq_true p516;replace q516 := eq_true q516;have p17 : 0 ≤ ((rd t511 x6_2) : Int) := of_decide_eq_true qA;have q17 : ((rd t511 x6_2) : Int) < (((rd_L8 x0_2 (rd t511 x5_1)).length : Int) : Int) := of_decide_eq_true qA;obtain ⟨go17, co17, eo17, gb17, gl17, cl17, HG17⟩ := Kd.R_form HL515_0.out (by omega);(first | cases eo17 | (injection eo17 with ea_ en_ ec_; (first | subst ea_ | (injection ea_ with ea_; subst ea_)); subst ec_; clear en_));have GB17 := Aside0.mk gb17;have GG17 := Aside0.mk HG17;clear gb17 gl17 HG17;have HMgo17 := Aside0.mk (show (P0_ go17 ∨ w.heap.size ≤ go17) from (HL515_0.out.1 _ rfl).1);obtain ⟨hx17_0, hf17_0⟩ := Kd.R_celln false HL515_0.out ((rd t511 x6_2) : Int) p17 q17;replace p17 := eq_true p17;replace q17 := eq_true q17;have hq19 : ((rd t511 x5_1) : Int) < (x0_2.length : Int) := (by have h_ : ((rd t511 x5_1) : Int) < ((x0_2.length : Int) : Int) := of_decide_eq_true qA; first | exact h_ | (have e_ := (Kd.S_reads' HO_0.out).1; omega) | simpa only [List.length_set, List.length_set] using h_);obtain ⟨oki19, ce19, hcl19, hM19, hcc19, hok19, hbk19⟩ := Kd.S_borrow HO_0.out [] ((rd t511 x5_1) : Int) (of_decide_eq_true qA) (by first | exact hq19 | (have e_ := (Kd.S_reads' HO_0.out).1; have h_ := hq19; omega));obtain ⟨ve19_0, rfl, ge19_0⟩ := hM19;have hv19 := hcc19 0 _ rfl;rw [Nat.add_zero, show ((Kd.slice 4 Kd.bool)).sz = 1 from rfl, Nat.mul_one] at hv19
               replace hv19 := Option.some.inj (hv19.symm.trans HX515_0.out);subst hv19;clear hcc19 hcl19;replace ge19_0 := (show Kd.R Kd.bool 4 _ _ _ _ (rd_L8 x0_2 (rd t511 x5_1)) from ge19_0);have HP19 := Kd.R_putg ge19_0 ((rd t511 x6_2) : Int) true;rw [← Ny517.out] at HP19
               have HS19 := hbk19 HP19.2 (fun k_ e_ => by injection e_ with e_; subst e_; exact ge19_0.1 _ rfl) (x' := y517) (Kd.M_row HP19.1);rw [← Ny519.out] at HS19
               have HQ19 := Aside0.mk HS19;clear HP19 HS19 hbk19 hok19;refine start_ (n := 13) (S := fun w' => w'.cell? (ad514.add (x5_1).toNat) = some (.int .i64 (rd t511 x5_1)) ∧ w'.cell? (ad515.add ((rd t511 x5_1)).toNat) = some (.slice (some ⟨go17, 0, none⟩) (rd_L8 x0_2 (rd t511 x5_1)).length c515_0) ∧ w'.cell? (ad514.add (x6_2).toNat) = some (.int .i64 (rd t511 x6_2))) (ds := [12]) (bs 13 0) (by kernel_rfl) rfl rfl ⟨hx514_0, hx515_0, hx516_0⟩ (fun hHeld => ?_); refine with_tabW arboristref09_Go.tab8 arboristref09_Go.bits8 (fun HT_ HW_ => ?_)
               generalize wr.drew = w18 at HO_0 HO_4 HK HB GG17 HL515_0 HQ19 HR515_0 HX515_0 hf17_0 hx17_0 hx514_0 hx515_0 hx516_0 hHeld ⊢
               refine qP 0 (some 26) (bs 13 1) HT_.out ?_;refine qP 1 (some 27) (bs 13 3) HT_.out ?_;refine qP 2 (some 28) (bs 13 7) HT_.out ?_;refine qP 3 (some 29) (bs 13 15) HT_.out ?_;refine qP 7 (some 33) (bs 13 143) HT_.out ?_;refine qP 8 (some 34) (bs 13 399) HT_.out ?_;refine qP 9 (some 35) (bs 13 911) HT_.out ?_;refine take_ (i := 4) (N := some 30) (v := ?_) (a' := ?_) (bs 13 927) rfl rfl (take_ofW HT_.out HW_.out (by kernel_rfl)) (fun _ _ _ h => h) (Or.inl ⟨by rfl, ?_⟩) hHeld ?_ ?_;rotate_left
               ·rintro w' ⟨s0, s1, s2⟩
                go_simp
                with_reducible rfl
               rotate_left; (simp only [Act.put, List.setIfInBounds_toArray, List.set_cons_zero, List.set_cons_succ, i64_w, i32_w]; rfl)
               refine qP 5 (some 31) (bs 13 959) HT_.out ?_;refine take_ (i := 6) (N := some 32) (v := ?_) (a' := ?_) (bs 13 1023) rfl rfl (take_ofW HT_.out HW_.out (by kernel_rfl)) (fun _ _ _ h => h) (Or.inl ⟨by rfl, ?_⟩) hHeld ?_ ?_;rotate_left
               ·rintro w' ⟨s0, s1, s2⟩
                go_simp
                with_reducible rfl
               rotate_left; (simp only [Act.put, List.setIfInBounds_toArray, List.set_cons_zero, List.set_cons_succ, i64_w, i32_w]; rfl)
               refine take_ (i := 10) (N := some 36) (v := ?_) (a' := ?_) (bs 13 2047) rfl rfl (take_ofW HT_.out HW_.out (by kernel_rfl)) (fun _ _ _ h => h) (Or.inl ⟨by rfl, ?_⟩) hHeld ?_ ?_;rotate_left
               ·rintro w' ⟨s0, s1, s2⟩
                go_simp
                with_reducible rfl
               rotate_left; (simp only [Act.put, List.setIfInBounds_toArray, List.set_cons_zero, List.set_cons_succ, i64_w, i32_w]; rfl)
               refine qP 11 (some 37) (bs 13 4095) HT_.out ?_;refine last_ (i := 12) (N := none) (bs 13 8191) rfl rfl (one_of HT_.out (by kernel_rfl)) (by decide) (fun K hK => ?_);refine skip_ (w1 := ?_) (by rfl) rfl ?_ ?_;rotate_left
               ·go_simp
                rfl
               refine hK.out _ _ ?_;clear hK K;refine done_ (done_of HT_.out (by kernel_rfl)) ?_;try go_wp2
               (try simp only [← hl0_2]);go_roundg k2
               case measure => have := HK1.out; have := HK2.out; omega
               case rel => exact ⟨(y519), (wrap64 (x6_2 + 1)), (by first | rfl | (simp; done) | (simp [*]; done)), H', ⟨by have := HK1.out; have := HK2.out; omega⟩, ⟨by (try simp only [hl0_1]); (try simp only [hl0_2]); (with_reducible repeat (first | apply Kd.S_alloc | apply Kd.S_drewN | apply Kd.S_drew)); exact HQ19.out⟩, ⟨by (try simp only [hl0_1]); (try simp only [hl0_2]); (with_reducible repeat (first | apply Kd.R_alloc | apply Kd.R_drewN | apply Kd.R_drew)); exact Kd.R_mono (Kd.R_far (p := ⟨go17, ((rd t511 x6_2) : Int).toNat, none⟩) (Kd.R_types HO_4.out GG17.out (by decide)) (fun _ hk => hk.2) (.bool true)) (fun _ hk => hk.1)⟩, ⟨by repeat (first | (with_reducible first | exact HK.out | apply Kept.alloc | apply Kept.drewN | apply Kept.drew | refine Kept.setCell ?_ HMgo17.out _) | exact HK.out)⟩, ⟨by repeat (first | (with_reducible first | exact HB.out | apply below_alloc | apply pw_below_drewN | apply below_drew1 | refine below_set ?_ GB17.out) | exact HB.out)⟩⟩
              ·rw [if_neg c16] at H
               exact absurd H (by simp)
             ·rw [if_neg c15] at H
              exact absurd H (by simp)
            ·rw [if_neg c14] at H
             exact absurd H (by simp)
           ·rw [if_neg c13] at H
            exact absurd H (by simp)
          ·rw [if_neg c12] at H
           exact absurd H (by simp)
         ·rw [if_neg c11] at H
          exact absurd H (by simp)
        ·rw [if_neg c10] at H
         exact absurd H (by simp)
      ·rw [if_neg c8] at H
       have c8b0 : decide (x6_2 < (t511.length : Int)) = false := decide_eq_false c8;clear c8;have H' := Aside0.mk H;clear H;go_wp2
       (try simp only [← hl0_1, ← hl0_2]);go_roundg k2
       case measure => have := HK1.out; have := HK2.out; omega
       case rel => exact ⟨(x0_2), (wrap64 (x5_1 + 1)), (by first | rfl | (simp; done) | (simp [*]; done)), H', ⟨by have := HK1.out; have := HK2.out; omega⟩, ⟨by (try simp only [hl0_1]); (try simp only [hl0_2]); (with_reducible repeat (first | apply Kd.S_alloc | apply Kd.S_drewN | apply Kd.S_drew)); exact HO_0.out⟩, ⟨by (try simp only [hl0_1]); (try simp only [hl0_2]); (with_reducible repeat (first | apply Kd.R_alloc | apply Kd.R_drewN | apply Kd.R_drew)); exact HO_4.out⟩, ⟨by repeat (first | (with_reducible first | exact HK.out | apply Kept.alloc | apply Kept.drewN | apply Kept.drew) | exact HK.out)⟩, ⟨by repeat (first | (with_reducible first | exact HB.out | apply below_alloc | apply pw_below_drewN | apply below_drew1) | exact HB.out)⟩⟩
   ·rw [if_neg c6] at H
    have c6b0 : decide (x5_1 < (t511.length : Int)) = false := decide_eq_false c6;clear c6;have H' := Aside0.mk H;clear H;obtain ⟨Ao21, co21, eo21⟩ := Kd.R_slice HO_4.out;subst eo21;go_wp2
    go_loopg [7] k1 (fun kq v7 w' => ∃ (x0_2 : List (List Bool)) (x7_2 : Int), v7 = .int .i64 x7_2 ∧ Aside0 (arboristref09_Go.l2 kq x0_2 a1 t511 x7_2 = some r) ∧ Aside0 (kq ≤ k1) ∧ Aside0 (Kd.S (Kd.slice 4 Kd.bool) 40 w' w0.heap.size (fun k_ => (P0_ k_ ∨ w.heap.size ≤ k_)) (.slice Ao4 x0_1.length co4) x0_2) ∧ Aside0 (Kd.R (Kd.int .i64) 3 w' w0.heap.size (fun k_ => (P0_ k_ ∨ w.heap.size ≤ k_)) (.slice Ao21 t511.length co21) t511) ∧ Aside0 (Kept w w' (fun k_ => P0_ k_)) ∧ Aside0 (Below w0.heap.size w0 w'))
    case atStart => exact ⟨(x0_1), (0), (by first | rfl | (simp; done) | (simp [*]; done)), H', ⟨Nat.le_refl _⟩, ⟨by (try simp only [hl0_1]); (with_reducible repeat (first | apply Kd.S_alloc | apply Kd.S_drewN | apply Kd.S_drew)); exact HO_0.out⟩, ⟨by (try simp only [hl0_1]); (with_reducible repeat (first | apply Kd.R_alloc | apply Kd.R_drewN | apply Kd.R_drew)); exact HO_4.out⟩, ⟨by repeat (first | (with_reducible first | exact HK.out | apply Kept.alloc | apply Kept.drewN | apply Kept.drew) | exact HK.out)⟩, ⟨by repeat (first | (with_reducible first | exact HB.out | apply below_alloc | apply pw_below_drewN | apply below_drew1) | exact HB.out)⟩⟩
    case round =>
     clear H';try clear c1
     try clear p1
     try clear q1
     try clear hx1
     try clear c2
     try clear p2
     try clear c3
     try clear c5
     try clear p5
     try clear q5
     try clear hx5
     try clear c6
     try clear c6b0
     try clear p6
     try clear c8
     try clear c8b0
     try clear c9
     try clear c9b0
     try clear c9b1
     try clear c10
     try clear c10b0
     try clear c11
     try clear c11b0
     try clear c12
     try clear c12b0
     try clear c13
     try clear c13b0
     try clear c14
     try clear c14b0
     try clear c15
     try clear c15b0
     try clear c16
     try clear c16b0
     try clear p17
     try clear q17
     try clear hx17
     try clear hf17
     try clear c19
     try clear q19
     try clear hx17_0
     try clear hx514_0
     try clear hx515_0
     try clear hx516_0
     try clear p17
     try clear p2
     try clear p514
     try clear p515
     try clear p516
     try clear q17
     try clear q514
     try clear q515
     try clear q516
     obtain ⟨x0_2, x7_2, rfl, HA, HK2, HO_0, HO_4, HK, HB⟩ := hrel;have hl0_2 := (Kd.S_reads' HO_0.out).1;rw [hl0_2] at HO_0
     (try simp only [hl0_2]);(try simp only [hl0_2] at HO_4);cases gk with
     | zero => exact absurd HA.out (by simp [arboristref09_Go.l2])
     | succ k2 =>
      have H := HA.out;clear HA;simp only [arboristref09_Go.l2] at H
      by_cases c22 : x7_2 < (t511.length : Int)
      ·rw [if_pos c22] at H
       have c22b0 : decide (x7_2 < (t511.length : Int)) = true := decide_eq_true c22;clear c22;by_cases c23 : 0 ≤ a1
       ·rw [if_pos c23] at H
        have c23b0 : decide (0 ≤ a1) = true := decide_eq_true c23;clear c23;by_cases c24 : a1 < (x0_2.length : Int)
        ·rw [if_pos c24] at H
         have c24b0 : decide (a1 < (x0_2.length : Int)) = true := decide_eq_true c24;clear c24;by_cases c25 : 0 ≤ x7_2
         ·rw [if_pos c25] at H
          have c25b0 : decide (0 ≤ x7_2) = true := decide_eq_true c25;clear c25;by_cases c26 : 0 ≤ (rd t511 x7_2)
          ·rw [if_pos c26] at H
           have c26b0 : decide (0 ≤ (rd t511 x7_2)) = true := decide_eq_true c26;clear c26;by_cases c27 : (rd t511 x7_2) < ((rd_L8 x0_2 a1).length : Int)
           ·rw [if_pos c27] at H
            have c27b0 : decide ((rd t511 x7_2) < ((rd_L8 x0_2 a1).length : Int)) = true := decide_eq_true c27;clear c27;obtain ⟨y522, hy522⟩ : ∃ y_ : List Bool, y_ = ((rd_L8 x0_2 a1).set ((rd t511 x7_2) : Int).toNat false) := ⟨_, rfl⟩;replace H : ((some (x0_2.set (a1 : Int).toNat y522 : List (List Bool))).bind fun y524 => (if (rd t511 x7_2) < (x0_2.length : Int) then (if a1 < ((rd_L8 y524 (rd t511 x7_2)).length : Int) then (arboristref09_Go.l2 k2 (y524.set ((rd t511 x7_2) : Int).toNat ((rd_L8 y524 (rd t511 x7_2)).set (a1 : Int).toNat false)) a1 t511 (wrap64 (x7_2 + 1))) else (none)) else (none))) = some r := by first | (rw [hy522]; with_reducible exact H) | (have H2_ := (Option.bind_some _ _).symm.trans H; rw [hy522]; with_reducible exact H2_) | (have H2_ := (Option.bind_some _ _).symm.trans H; with_reducible exact H2_) | with_reducible exact H | (rw [hy522]; exact H) | exact H
            have Ny522 := Aside0.mk hy522;clear hy522;obtain ⟨y524, hy524⟩ : ∃ y_ : List (List Bool), y_ = (x0_2.set (a1 : Int).toNat y522) := ⟨_, rfl⟩;replace H : (if (rd t511 x7_2) < (x0_2.length : Int) then (if a1 < ((rd_L8 y524 (rd t511 x7_2)).length : Int) then (arboristref09_Go.l2 k2 (y524.set ((rd t511 x7_2) : Int).toNat ((rd_L8 y524 (rd t511 x7_2)).set (a1 : Int).toNat false)) a1 t511 (wrap64 (x7_2 + 1))) else (none)) else (none)) = some r := by first | (rw [hy524]; with_reducible exact H) | (have H2_ := (Option.bind_some _ _).symm.trans H; rw [hy524]; with_reducible exact H2_) | (have H2_ := (Option.bind_some _ _).symm.trans H; with_reducible exact H2_) | with_reducible exact H | (rw [hy524]; exact H) | exact H
            have Ny524 := Aside0.mk hy524;clear hy524;by_cases c29 : (rd t511 x7_2) < (x0_2.length : Int)
            ·rw [if_pos c29] at H
             have c29b0 : decide ((rd t511 x7_2) < (x0_2.length : Int)) = true := decide_eq_true c29;clear c29;by_cases c30 : a1 < ((rd_L8 y524 (rd t511 x7_2)).length : Int)
             ·rw [if_pos c30] at H
              have c30b0 : decide (a1 < ((rd_L8 y524 (rd t511 x7_2)).length : Int)) = true := decide_eq_true c30;clear c30;obtain ⟨y527, hy527⟩ : ∃ y_ : List Bool, y_ = ((rd_L8 y524 (rd t511 x7_2)).set (a1 : Int).toNat false) := ⟨_, rfl⟩;replace H : (arboristref09_Go.l2 k2 (y524.set ((rd t511 x7_2) : Int).toNat y527) a1 t511 (wrap64 (x7_2 + 1))) = some r := by first | (rw [hy527]; with_reducible exact H) | (have H2_ := (Option.bind_some _ _).symm.trans H; rw [hy527]; with_reducible exact H2_) | (have H2_ := (Option.bind_some _ _).symm.trans H; with_reducible exact H2_) | with_reducible exact H | (rw [hy527]; exact H) | exact H
              have Ny527 := Aside0.mk hy527;clear hy527;obtain ⟨y529, hy529⟩ : ∃ y_ : List (List Bool), y_ = (y524.set ((rd t511 x7_2) : Int).toNat y527) := ⟨_, rfl⟩;replace H : (arboristref09_Go.l2 k2 y529 a1 t511 (wrap64 (x7_2 + 1))) = some r := by first | (rw [hy529]; with_reducible exact H) | (have H2_ := (Option.bind_some _ _).symm.trans H; rw [hy529]; with_reducible exact H2_) | (have H2_ := (Option.bind_some _ _).symm.trans H; with_reducible exact H2_) | with_reducible exact H | (rw [hy529]; exact H) | exact H
              have Ny529 := Aside0.mk hy529;clear hy529;have H' := Aside0.mk H;clear H;try go_wp2
              replace HO_0 := Aside0.mk (Kd.S_drew HO_0.out);replace HO_4 := Aside0.mk (Kd.R_drew HO_4.out);replace HK := Aside0.mk (Kept.drew HK.out);replace HB := Aside0.mk (below_drew1 HB.out);have p520 : 0 ≤ (a1 : Int) := of_decide_eq_true qA;have q520 : a1 < (x0_2.length : Int) := of_decide_eq_true qA;obtain ⟨ad520, A520_0, c520_0, e520, hx520_0, hl520_0, hi520_0⟩ := at_L8 (Kd.S_reads' HO_0.out).2.2 a1 p520 q520;cases e520
              obtain ⟨ce520, hce520, hMe520, hcc520⟩ := Kd.S_get HO_0.out [] a1 p520 (by first | exact q520 | exact of_decide_eq_true qA | (have e_ := (Kd.S_reads' HO_0.out).1; omega));obtain ⟨ve520_0, rfl, ge520_0⟩ := hMe520;have hv520_0 := hcc520 0 _ rfl;rw [Nat.add_zero, show ((Kd.slice 4 Kd.bool)).sz = 1 from rfl, Nat.mul_one] at hv520_0
              replace hv520_0 := Option.some.inj (hv520_0.symm.trans hx520_0);rw [hv520_0] at ge520_0
              have HL520_0 := Aside0.mk (show Kd.R Kd.bool 4 _ _ _ _ (rd_L8 x0_2 a1) from ge520_0);clear hv520_0 ge520_0;have HX520_0 := Aside0.mk hx520_0;clear hcc520 hce520;have HR520_0 := Aside0.mk hi520_0;have HC520_0 := Aside0.mk hl520_0;clear hi520_0 hl520_0;replace p520 := eq_true p520;replace q520 := eq_true q520;have p521 : 0 ≤ (x7_2 : Int) := of_decide_eq_true qA;have q521 : x7_2 < (t511.length : Int) := of_decide_eq_true qA;obtain ⟨ad521, e521, hx521_0⟩ := Kd.at_int (Kd.R_reads' HO_4.out).2.2 x7_2 p521 q521;cases e521
              replace p521 := eq_true p521;replace q521 := eq_true q521;have p28 : 0 ≤ ((rd t511 x7_2) : Int) := of_decide_eq_true qA;have q28 : ((rd t511 x7_2) : Int) < (((rd_L8 x0_2 a1).length : Int) : Int) := of_decide_eq_true qA;obtain ⟨go28, co28, eo28, gb28, gl28, cl28, HG28⟩ := Kd.R_form HL520_0.out (by omega);(first | cases eo28 | (injection eo28 with ea_ en_ ec_; (first | subst ea_ | (injection ea_ with ea_; subst ea_)); subst ec_; clear en_));have GB28 := Aside0.mk gb28;have GG28 := Aside0.mk HG28;clear gb28 gl28 HG28;have HMgo28 := Aside0.mk (show (P0_ go28 ∨ w.heap.size ≤ go28) from (HL520_0.out.1 _ rfl).1);obtain ⟨hx28_0, hf28_0⟩ := Kd.R_celln false HL520_0.out ((rd t511 x7_2) : Int) p28 q28;replace p28 := eq_true p28;replace q28 := eq_true q28;have hq33 : (a1 : Int) < (x0_2.length : Int) := (by have h_ : (a1 : Int) < ((x0_2.length : Int) : Int) := of_decide_eq_true qA; first | exact h_ | (have e_ := (Kd.S_reads' HO_0.out).1; omega) | simpa only [List.length_set, List.length_set] using h_);obtain ⟨oki33, ce33, hcl33, hM33, hcc33, hok33, hbk33⟩ := Kd.S_borrow HO_0.out [] (a1 : Int) (of_decide_eq_true qA) (by first | exact hq33 | (have e_ := (Kd.S_reads' HO_0.out).1; have h_ := hq33; omega));obtain ⟨ve33_0, rfl, ge33_0⟩ := hM33;have hv33 := hcc33 0 _ rfl;rw [Nat.add_zero, show ((Kd.slice 4 Kd.bool)).sz = 1 from rfl, Nat.mul_one] at hv33
              replace hv33 := Option.some.inj (hv33.symm.trans HX520_0.out);subst hv33;clear hcc33 hcl33;replace ge33_0 := (show Kd.R Kd.bool 4 _ _ _ _ (rd_L8 x0_2 a1) from ge33_0);have HP33 := Kd.R_putg ge33_0 ((rd t511 x7_2) : Int) false;rw [← Ny522.out] at HP33
              have HS33 := hbk33 HP33.2 (fun k_ e_ => by injection e_ with e_; subst e_; exact ge33_0.1 _ rfl) (x' := y522) (Kd.M_row HP33.1);rw [← Ny524.out] at HS33
              have HQ33 := Aside0.mk HS33;clear HP33 HS33 hbk33 hok33;refine start_ (n := 10) (S := fun w' => w'.cell? (ad520.add (a1).toNat) = some (.slice (some ⟨go28, 0, none⟩) (rd_L8 x0_2 a1).length c520_0) ∧ w'.cell? (ad521.add (x7_2).toNat) = some (.int .i64 (rd t511 x7_2))) (ds := [9]) (bs 10 0) (by kernel_rfl) rfl rfl ⟨hx520_0, hx521_0⟩ (fun hHeld => ?_); refine with_tabW arboristref09_Go.tab12 arboristref09_Go.bits12 (fun HT_ HW_ => ?_)
              generalize wr.drew = w32 at HO_0 HO_4 HK HB GG28 HL520_0 HQ33 HR520_0 HX520_0 hf28_0 hx28_0 hx520_0 hx521_0 hHeld ⊢
              refine qP 0 (some 44) (bs 10 1) HT_.out ?_;refine qP 1 (some 45) (bs 10 3) HT_.out ?_;refine qP 2 (some 46) (bs 10 7) HT_.out ?_;refine qP 4 (some 48) (bs 10 23) HT_.out ?_;refine qP 5 (some 49) (bs 10 55) HT_.out ?_;refine qP 6 (some 50) (bs 10 119) HT_.out ?_;refine take_ (i := 3) (N := some 47) (v := ?_) (a' := ?_) (bs 10 127) rfl rfl (take_ofW HT_.out HW_.out (by kernel_rfl)) (fun _ _ _ h => h) (Or.inl ⟨by rfl, ?_⟩) hHeld ?_ ?_;rotate_left
              ·rintro w' ⟨s0, s1⟩
               go_simp
               with_reducible rfl
              rotate_left; (simp only [Act.put, List.setIfInBounds_toArray, List.set_cons_zero, List.set_cons_succ, i64_w, i32_w]; rfl)
              refine take_ (i := 7) (N := some 51) (v := ?_) (a' := ?_) (bs 10 255) rfl rfl (take_ofW HT_.out HW_.out (by kernel_rfl)) (fun _ _ _ h => h) (Or.inl ⟨by rfl, ?_⟩) hHeld ?_ ?_;rotate_left
              ·rintro w' ⟨s0, s1⟩
               go_simp
               with_reducible rfl
              rotate_left; (simp only [Act.put, List.setIfInBounds_toArray, List.set_cons_zero, List.set_cons_succ, i64_w, i32_w]; rfl)
              refine qP 8 (some 52) (bs 10 511) HT_.out ?_;refine last_ (i := 9) (N := none) (bs 10 1023) rfl rfl (one_of HT_.out (by kernel_rfl)) (by decide) (fun K hK => ?_);refine skip_ (w1 := ?_) (by rfl) rfl ?_ ?_;rotate_left
              ·go_simp
               rfl
              refine hK.out _ _ ?_;clear hK K;refine done_ (done_of HT_.out (by kernel_rfl)) ?_;have n0_ : Aside0 (Kd.S (Kd.slice 4 Kd.bool) 40 (w32.setCell ⟨go28, ((rd t511 x7_2) : Int).toNat, none⟩ (.bool false)) w0.heap.size (fun k_ => (P0_ k_ ∨ w.heap.size ≤ k_)) (.slice (some ad520) x0_2.length co4) y524) := ⟨by (with_reducible repeat (first | apply Kd.S_alloc | apply Kd.S_drewN | apply Kd.S_drew)); exact HQ33.out⟩;have n1_ : Aside0 (Kd.R (Kd.int .i64) 3 (w32.setCell ⟨go28, ((rd t511 x7_2) : Int).toNat, none⟩ (.bool false)) w0.heap.size (fun k_ => (P0_ k_ ∨ w.heap.size ≤ k_)) (.slice (some ad521) t511.length co21) t511) := ⟨by (with_reducible repeat (first | apply Kd.R_alloc | apply Kd.R_drewN | apply Kd.R_drew)); exact Kd.R_mono (Kd.R_far (p := ⟨go28, ((rd t511 x7_2) : Int).toNat, none⟩) (Kd.R_types HO_4.out GG28.out (by decide)) (fun _ hk => hk.2) (.bool false)) (fun _ hk => hk.1)⟩;have n2_ : Aside0 (Kept w (w32.setCell ⟨go28, ((rd t511 x7_2) : Int).toNat, none⟩ (.bool false)) (fun k_ => P0_ k_)) := ⟨by repeat (first | (with_reducible first | exact HK.out | apply Kept.alloc | apply Kept.drewN | apply Kept.drew | refine Kept.setCell ?_ HMgo28.out _) | exact HK.out)⟩;have n3_ : Aside0 (Below w0.heap.size w0 (w32.setCell ⟨go28, ((rd t511 x7_2) : Int).toNat, none⟩ (.bool false))) := ⟨by repeat (first | (with_reducible first | exact HB.out | apply below_alloc | apply pw_below_drewN | apply below_drew1 | refine below_set ?_ GB28.out) | exact HB.out)⟩;(try clear HO_0);(try clear HO_4);(try clear HK);(try clear HB);generalize (w32.setCell ⟨go28, ((rd t511 x7_2) : Int).toNat, none⟩ (.bool false)) = w35 at n0_ n1_ n2_ n3_ ⊢
              have HO_0 := n0_;have HO_4 := n1_;have HK := n2_;have HB := n3_;clear n0_ n1_ n2_ n3_;have p525 : 0 ≤ (x7_2 : Int) := of_decide_eq_true qA;have q525 : x7_2 < (t511.length : Int) := of_decide_eq_true qA;obtain ⟨ad525, e525, hx525_0⟩ := Kd.at_int (Kd.R_reads' HO_4.out).2.2 x7_2 p525 q525;obtain rfl : ad521 = ad525 := (by injection e525);replace p525 := eq_true p525;replace q525 := eq_true q525;have p526 : 0 ≤ ((rd t511 x7_2) : Int) := of_decide_eq_true qA;have q526 : (rd t511 x7_2) < (y524.length : Int) := (by have h_ : ((rd t511 x7_2) : Int) < ((x0_2.length : Int) : Int) := of_decide_eq_true qA; first | (have e_ := (Kd.S_reads' HO_0.out).1; omega) | simpa only [Ny524.out, List.length_set] using h_);have ql526 : (((rd t511 x7_2) : Int) < ((x0_2.length : Int) : Int)) = True := eq_true (of_decide_eq_true qA);obtain ⟨ad526, A526_0, c526_0, e526, hx526_0, hl526_0, hi526_0⟩ := at_L8 (Kd.S_reads' HO_0.out).2.2 (rd t511 x7_2) p526 q526;obtain rfl : ad520 = ad526 := (by injection e526);obtain ⟨ce526, hce526, hMe526, hcc526⟩ := Kd.S_get HO_0.out [] (rd t511 x7_2) p526 (by first | exact q526 | exact of_decide_eq_true qA | (have e_ := (Kd.S_reads' HO_0.out).1; omega));obtain ⟨ve526_0, rfl, ge526_0⟩ := hMe526;have hv526_0 := hcc526 0 _ rfl;rw [Nat.add_zero, show ((Kd.slice 4 Kd.bool)).sz = 1 from rfl, Nat.mul_one] at hv526_0
              replace hv526_0 := Option.some.inj (hv526_0.symm.trans hx526_0);rw [hv526_0] at ge526_0
              have HL526_0 := Aside0.mk (show Kd.R Kd.bool 4 _ _ _ _ (rd_L8 y524 (rd t511 x7_2)) from ge526_0);clear hv526_0 ge526_0;have HX526_0 := Aside0.mk hx526_0;clear hcc526 hce526;have HR526_0 := Aside0.mk hi526_0;have HC526_0 := Aside0.mk hl526_0;clear hi526_0 hl526_0;replace p526 := eq_true p526;replace q526 := eq_true q526;have p31 : 0 ≤ (a1 : Int) := of_decide_eq_true qA;have q31 : (a1 : Int) < (((rd_L8 y524 (rd t511 x7_2)).length : Int) : Int) := of_decide_eq_true qA;obtain ⟨go31, co31, eo31, gb31, gl31, cl31, HG31⟩ := Kd.R_form HL526_0.out (by omega);(first | cases eo31 | (injection eo31 with ea_ en_ ec_; (first | subst ea_ | (injection ea_ with ea_; subst ea_)); subst ec_; clear en_));have GB31 := Aside0.mk gb31;have GG31 := Aside0.mk HG31;clear gb31 gl31 HG31;have HMgo31 := Aside0.mk (show (P0_ go31 ∨ w.heap.size ≤ go31) from (HL526_0.out.1 _ rfl).1);obtain ⟨hx31_0, hf31_0⟩ := Kd.R_celln false HL526_0.out (a1 : Int) p31 q31;replace p31 := eq_true p31;replace q31 := eq_true q31;have hq36 : ((rd t511 x7_2) : Int) < (y524.length : Int) := (by have h_ : ((rd t511 x7_2) : Int) < ((x0_2.length : Int) : Int) := of_decide_eq_true qA; first | exact h_ | (have e_ := (Kd.S_reads' HO_0.out).1; omega) | simpa only [Ny524.out, List.length_set] using h_);obtain ⟨oki36, ce36, hcl36, hM36, hcc36, hok36, hbk36⟩ := Kd.S_borrow HO_0.out [] ((rd t511 x7_2) : Int) (of_decide_eq_true qA) (by first | exact hq36 | (have e_ := (Kd.S_reads' HO_0.out).1; have h_ := hq36; omega));obtain ⟨ve36_0, rfl, ge36_0⟩ := hM36;have hv36 := hcc36 0 _ rfl;rw [Nat.add_zero, show ((Kd.slice 4 Kd.bool)).sz = 1 from rfl, Nat.mul_one] at hv36
              replace hv36 := Option.some.inj (hv36.symm.trans HX526_0.out);subst hv36;clear hcc36 hcl36;replace ge36_0 := (show Kd.R Kd.bool 4 _ _ _ _ (rd_L8 y524 (rd t511 x7_2)) from ge36_0);have HP36 := Kd.R_putg ge36_0 (a1 : Int) false;try go_wp2_with (first | ((with_reducible refine gate_store (t := 4) (p := 61) rfl ?_); refine store_event (t := 4) (p := 61) (v := ?vo_w37) (w1 := (w35.setCell ⟨go31, (a1 : Int).toNat, none⟩ (.bool false))) ?hg ?ho ?hn ?hr ?_; (case ho => rfl); (case hg => rfl); (case hn => rfl); (case hr => first | (go_simp; done) | (go_simp; rfl)); intro w37 hw; have hg : w35.grownBy w37 (some go31) := (by rw [hw]; exact HP36.2); have hz_ : Kd.R Kd.bool 4 w37 w0.heap.size oki36 (.slice (some ⟨go31, 0, none⟩) (rd_L8 y524 (rd t511 x7_2)).length c526_0) y527 := (by rw [hw, Ny527.out]; exact HP36.1); have hp_ : Kd.S (Kd.slice 4 Kd.bool) 40 w37 w0.heap.size (fun k_ => (P0_ k_ ∨ w.heap.size ≤ k_)) (.slice (some ad520) x0_2.length co4) y529 := (by rw [Ny529.out]; exact hbk36 hg (fun k_ e_ => by injection e_ with e_; subst e_; exact ge36_0.1 _ rfl) (Kd.M_row hz_)); have hm_ := Kd.R_mono hz_ hok36; clear HP36 hbk36; have n0_ := Aside0.mk (hp_); have n1_ := Aside0.mk (Kd.R_over' (v := (.slice (some ⟨go31, 0, none⟩) (rd_L8 y524 (rd t511 x7_2)).length c526_0)) (qR HO_4.out) (Kd.R_typed HL526_0.out) (by decide) hg); have n2_ := Aside0.mk ((by rw [hw]; exact below_set (HB.out) GB31.out : Below w0.heap.size w0 w37)); have n3_ := Aside0.mk (Kept.of_grown (S := (fun k_ => P0_ k_)) hg (by repeat (first | (with_reducible first | exact HK.out | apply Kept.alloc | apply Kept.drewN | apply Kept.drew) | exact HK.out)) (fun k_ e_ => (HL526_0.out.1 k_ e_).1)); have n4_ := Aside0.mk (hm_); have n5_ := Aside0.mk ((Kd.R_reads' hm_).2.1); clear HO_0; clear HO_4; clear HB; clear HK; clear HL526_0; have HO_0 := n0_; have HO_4 := n1_; have HB := n2_; have HK := n3_; have HL530 := n4_; have HC528 := n5_; clear n0_ n1_ n2_ n3_ n4_ n5_; clear hg hw hp_ hz_ hm_ hok36))
              (try simp only [← hl0_2]);go_roundg k2
              case measure => have := HK1.out; have := HK2.out; omega
              case rel => exact ⟨(y529), (wrap64 (x7_2 + 1)), (by first | rfl | (simp; done) | (simp [*]; done)), H', ⟨by have := HK1.out; have := HK2.out; omega⟩, ⟨by (try simp only [hl0_1]); (try simp only [hl0_2]); (with_reducible repeat (first | apply Kd.S_alloc | apply Kd.S_drewN | apply Kd.S_drew)); exact HO_0.out⟩, ⟨by (try simp only [hl0_1]); (try simp only [hl0_2]); (with_reducible repeat (first | apply Kd.R_alloc | apply Kd.R_drewN | apply Kd.R_drew)); exact HO_4.out⟩, ⟨by repeat (first | (with_reducible first | exact HK.out | apply Kept.alloc | apply Kept.drewN | apply Kept.drew) | exact HK.out)⟩, ⟨by repeat (first | (with_reducible first | exact HB.out | apply below_alloc | apply pw_below_drewN | apply below_drew1) | exact HB.out)⟩⟩
             ·rw [if_neg c30] at H
              exact absurd H (by simp)
            ·rw [if_neg c29] at H
             exact absurd H (by simp)
           ·rw [if_neg c27] at H
            exact absurd H (by simp)
          ·rw [if_neg c26] at H
           exact absurd H (by simp)
         ·rw [if_neg c25] at H
          exact absurd H (by simp)
        ·rw [if_neg c24] at H
         exact absurd H (by simp)
       ·rw [if_neg c23] at H
        exact absurd H (by simp)
      ·rw [if_neg c22] at H
       have c22b0 : decide (x7_2 < (t511.length : Int)) = false := decide_eq_false c22;clear c22;obtain rfl := Option.some.inj H;go_wp2
       first | go_end0 | ((try simp only [Exit.inBlock, Exit.then]); refine bodyPost_ret (results_none rfl _ _ _) rfl ?_)
       exact ⟨by first | rfl | (simp [errW_none, errW_some] <;> rfl) | (simp [*, errW_none, errW_some] <;> rfl), (by first | exact (qS HO_0.out) | (simp only [hl0_1, hl0_2]; exact (qS HO_0.out))), by repeat (first | (with_reducible first | exact HB.out | apply below_alloc | apply pw_below_drewN | apply below_drew1) | exact HB.out), by repeat (first | (with_reducible first | exact HK.out | apply Kept.alloc | apply Kept.drewN | apply Kept.drew) | exact HK.out)⟩
theorem arboristref09_Go.callsB (k : Nat) (P0_ : Nat → Prop) (u9000_ : Value) (l0 : List (List Bool)) (a1 : Int) (r : List (List Bool)) (w0 w : World) (hB : Below w0.heap.size w0 w) (ho0 : Kd.S (Kd.slice 4 Kd.bool) 40 w w0.heap.size P0_ u9000_ l0) (h : arboristref09_Go.f k l0 a1 = some r) :
  Calls Tryd.prog 38 #[u9000_, .int .i64 a1] w fun e w' => e = .returned (.tuple #[]) ∧ Kd.S (Kd.slice 4 Kd.bool) 40 w' w0.heap.size (fun k_ => (P0_ k_ ∨ w.heap.size ≤ k_)) u9000_ r ∧ Below w0.heap.size w0 w' ∧ Kept w w' (SB (Kd.slice 4 Kd.bool) 40 w w0.heap.size P0_) := by
 refine (arboristref09_Go.calls k (SB (Kd.slice 4 Kd.bool) 40 w w0.heap.size P0_) u9000_ l0 a1 r w0 w hB (SB_self ho0) h).mono ?_;rintro e w' ⟨h1, h2, h3, h4⟩
 exact ⟨h1, Kd.S_mono h2 (fun k_ hk_ => Or.imp_left (fun h_ => h_.1) hk_), h3, h4⟩
end Go.Proofs.YtbdlelojlnhhfaaDoor.Pr
