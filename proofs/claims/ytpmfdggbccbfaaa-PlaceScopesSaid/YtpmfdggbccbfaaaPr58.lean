-- Printed by wip/tools/pp.py over the kit's print.py, several texts in one (wip/tools/mergepr.py); Lean checks it.
import Derived.Test.YtpmfdggbccbfaaaPr1
import Derived.Test.YtpmfdggbccbfaaaPr0
import Derived.Test.YtpmfdggbccbfaaaPr56
import Derived.Test.YtpmfdggbccbfaaaPr38
namespace Go.Proofs.Ytpmfdggbccbfaaa.Pr
open Go.RowKit Go.Proofs.YtpmfdggbccbfaaaW.PrintWords Go.Proofs.YtpmfdggbccbfaaaW.PrintLast Go.Proofs.YtpmfdggbccbfaaaW.PrintMore
attribute [local go_sem] max2_int min2_int max_two min_two max_three min_three max_four min_four
set_option linter.unusedVariables false
set_option linter.unusedSimpArgs false
/-! ### arboristref09_Go: function 83 -/
mutual
def arboristref09_Go.l0 : Nat → List (List Bool) → Int → List Int → Int → Option ((List (List Bool)))
 | 0, _, _, _, _ => none
 | k + 1, x0, x1, x4, x5 => if x5 < (x4.length : Int) then (arboristref09_Go.l1 k x0 x1 x4 x5 0) else (arboristref09_Go.l2 k x0 x1 x4 0)
def arboristref09_Go.l1 : Nat → List (List Bool) → Int → List Int → Int → Int → Option ((List (List Bool)))
 | 0, _, _, _, _, _ => none
 | k + 1, x0, x1, x4, x5, x6 => if x6 < (x4.length : Int) then (if x5 = x6 then (arboristref09_Go.l1 k x0 x1 x4 x5 (wrap64 (x6 + 1))) else (if 0 ≤ x5 then (if x5 < (x4.length : Int) then (if 0 ≤ (rd x4 x5) then (if (rd x4 x5) < (x0.length : Int) then (if 0 ≤ x6 then (if 0 ≤ (rd x4 x6) then (if (rd x4 x6) < ((rd_L8 x0 (rd x4 x5)).length : Int) then (arboristref09_Go.l1 k (x0.set ((rd x4 x5) : Int).toNat ((rd_L8 x0 (rd x4 x5)).set ((rd x4 x6) : Int).toNat true)) x1 x4 x5 (wrap64 (x6 + 1))) else (none)) else (none)) else (none)) else (none)) else (none)) else (none)) else (none))) else (arboristref09_Go.l0 k x0 x1 x4 (wrap64 (x5 + 1)))
def arboristref09_Go.l2 : Nat → List (List Bool) → Int → List Int → Int → Option ((List (List Bool)))
 | 0, _, _, _, _ => none
 | k + 1, x0, x1, x4, x7 => if x7 < (x4.length : Int) then (if 0 ≤ x1 then (if x1 < (x0.length : Int) then (if 0 ≤ x7 then (if 0 ≤ (rd x4 x7) then (if (rd x4 x7) < ((rd_L8 x0 x1).length : Int) then ((some (x0.set (x1 : Int).toNat ((rd_L8 x0 x1).set ((rd x4 x7) : Int).toNat false) : List (List Bool))).bind fun y802 => (if (rd x4 x7) < (x0.length : Int) then (if x1 < ((rd_L8 y802 (rd x4 x7)).length : Int) then (arboristref09_Go.l2 k (y802.set ((rd x4 x7) : Int).toNat ((rd_L8 y802 (rd x4 x7)).set (x1 : Int).toNat false)) x1 x4 (wrap64 (x7 + 1))) else (none)) else (none))) else (none)) else (none)) else (none)) else (none)) else (none)) else (some x0)
end
def arboristref09_Go.f (k : Nat) (l0 : List (List Bool)) (a1 : Int) : Option ((List (List Bool))) := (arboristref08_Neighbors.f k l0 a1).bind fun t789 => (arboristref09_Go.l0 k l0 a1 t789 0)
def arboristref09_Go.T8 : Bool × List (List Nat × List Nat) := (true, [([], []), ([], []), ([], []), ([1, 2], [1, 2]), ([3], [3]), ([0, 4], [0, 4]), ([5], [5]), ([], []), ([], []), ([7, 8], [7, 8]), ([9], [9]), ([6, 10, 0, 1, 2, 3, 4, 5, 6, 7, 8, 9, 10], [6, 10]), ([11, 0, 1, 2, 3, 4, 5, 6, 7, 8, 9, 10], [11])])
def arboristref09_Go.B8 : List Nat := [0, 0, 0, 6, 14, 31, 63, 0, 0, 384, 896, 2047, 4095]
theorem arboristref09_Go.tab8 : rtab .any (opsOf Try.f83 8) = arboristref09_Go.T8 := by kernel_rfl
theorem arboristref09_Go.bits8 : waitsOk arboristref09_Go.T8.2 arboristref09_Go.B8 = true := by kernel_rfl
def arboristref09_Go.T12 : Bool × List (List Nat × List Nat) := (true, [([], []), ([], []), ([0, 1], [0, 1]), ([2], [2]), ([], []), ([], []), ([4, 5], [4, 5]), ([6], [6]), ([3, 7, 0, 1, 2, 3, 4, 5, 6, 7], [3, 7]), ([8, 0, 1, 2, 3, 4, 5, 6, 7], [8])])
def arboristref09_Go.B12 : List Nat := [0, 0, 3, 7, 0, 0, 48, 112, 255, 511]
theorem arboristref09_Go.tab12 : rtab .any (opsOf Try.f83 12) = arboristref09_Go.T12 := by kernel_rfl
theorem arboristref09_Go.bits12 : waitsOk arboristref09_Go.T12.2 arboristref09_Go.B12 = true := by kernel_rfl
set_option maxHeartbeats 8000000 in
set_option maxRecDepth 100000 in
theorem arboristref09_Go.calls (k : Nat) (P0_ : Nat → Prop) (u9000_ : Value) (l0 : List (List Bool)) (a1 : Int) (r : List (List Bool)) (w0 w : World) (hB : Below w0.heap.size w0 w) (ho0 : Kd.S (Kd.slice 4 Kd.bool) 58 w w0.heap.size P0_ u9000_ l0) (h : arboristref09_Go.f k l0 a1 = some r) :
  Calls Try.prog 83 #[u9000_, .int .i64 a1] w fun e w' => e = .returned (.tuple #[]) ∧ Kd.S (Kd.slice 4 Kd.bool) 58 w' w0.heap.size (fun k_ => (P0_ k_ ∨ w.heap.size ≤ k_)) u9000_ r ∧ Below w0.heap.size w0 w' ∧ Kept w w' (fun k_ => P0_ k_) := by
 have HO0 := Aside0.mk (show Kd.S (Kd.slice 4 Kd.bool) 58 w w0.heap.size (fun k_ => (P0_ k_ ∨ w.heap.size ≤ k_)) u9000_ l0 from Kd.S_mono ho0 (fun k_ hk => (.inl hk)));have HK := Aside0.mk (Kept.refl w (fun k_ => P0_ k_));have HW0 := Aside0.mk hB.size;have HB := Aside0.mk hB;clear hB;have H : ((arboristref08_Neighbors.f k l0 a1).bind fun t789 => (arboristref09_Go.l0 k l0 a1 t789 0)) = some r := h;clear h;replace H := Option.bind_eq_some_iff.mp H;obtain ⟨t789, A30, H⟩ := H;(try dsimp only at H);have A3 := Aside0.mk A30;clear A30;have H' := Aside0.mk H;clear H;obtain ⟨Ao4, co4, eo4⟩ := Kd.S_slice HO0.out;subst eo4;go_enter Try.func83, Try.ntmps83
 go_wp2_with (first | ((with_reducible refine gate_callee (f := 82) rfl ?_); refine goesL_ (some 10) rfl rfl Try.func82 (by kernel_rfl) rfl #[.slice Ao4 l0.length co4, .int .i64 a1] rfl qM ?_; (with_reducible refine (arboristref08_Neighbors.calls k _ _ l0 a1 t789 _ ?side1 ?side2 A3.out).mono ?_); (case side1 => exact qC (Kd.S_reads' HO0.out).2.2); (case side2 => exact (Kd.S_reads' HO0.out).2.1); rintro e w5 ⟨v790, rfl, ho0, hb⟩; refine ⟨_, rfl, ?_⟩; have n0_ := Aside0.mk (Kd.S_below (qS HO0.out) hb); have n1_ := Aside0.mk (Kd.R_lower (Kd.R_newM (M := fun k_ => (P0_ k_ ∨ w.heap.size ≤ k_)) ho0 (by first | exact HK.out.1 | exact (show Kept w _ (fun k_ => P0_ k_) from by repeat (first | (with_reducible first | exact HK.out | apply Kept.alloc | apply Kept.drewN | apply Kept.drew) | exact HK.out)).1) (fun k_ h_ => .inr h_)) (below_size (qB HB.out))); have n2_ := Aside0.mk (Kept.below (S := (fun k_ => P0_ k_)) (by repeat (first | (with_reducible first | exact HK.out | apply Kept.alloc | apply Kept.drewN | apply Kept.drew) | exact HK.out)) hb); have n3_ := Aside0.mk (below_step (qB HB.out) hb); clear HO0; clear HK; clear HB; have HO0 := n0_; have HO791 := n1_; have HK := n2_; have HB := n3_; clear n0_ n1_ n2_ n3_; (try clear hb); (try clear hb2); (try clear hk); (try clear hi); (try clear ho0)))
 go_loopg [5] k (fun kq v5 w' => ∃ (x0_1 : List (List Bool)) (x5_1 : Int), v5 = .int .i64 x5_1 ∧ Aside0 (arboristref09_Go.l0 kq x0_1 a1 t789 x5_1 = some r) ∧ Aside0 (kq ≤ k) ∧ Aside0 (Kd.S (Kd.slice 4 Kd.bool) 58 w' w0.heap.size (fun k_ => (P0_ k_ ∨ w.heap.size ≤ k_)) (.slice Ao4 l0.length co4) x0_1) ∧ Aside0 (Kd.R (Kd.int .i64) 3 w' w0.heap.size (fun k_ => (P0_ k_ ∨ w.heap.size ≤ k_)) v790 t789) ∧ Aside0 (Kept w w' (fun k_ => P0_ k_)) ∧ Aside0 (Below w0.heap.size w0 w'))
 case atStart => exact ⟨(l0), (0), (by first | rfl | (simp; done) | (simp [*]; done)), H', ⟨Nat.le_refl _⟩, ⟨qS HO0.out⟩, ⟨by (with_reducible repeat (first | apply Kd.R_alloc | apply Kd.R_drewN | apply Kd.R_drew)); exact Kd.R_mono HO791.out (fun _ hk => hk.1)⟩, ⟨by repeat (first | (with_reducible first | exact HK.out | apply Kept.alloc | apply Kept.drewN | apply Kept.drew) | exact HK.out)⟩, ⟨qB HB.out⟩⟩
 case round =>
  clear H';try clear p2
  obtain ⟨x0_1, x5_1, rfl, HA, HK1, HO_0, HO_4, HK, HB⟩ := hrel;have hl0_1 := (Kd.S_reads' HO_0.out).1;rw [hl0_1] at HO_0
  (try simp only [hl0_1]);(try simp only [hl0_1] at HO_4);cases gk with
  | zero => exact absurd HA.out (by simp [arboristref09_Go.l0])
  | succ k1 =>
   have H := HA.out;clear HA;simp only [arboristref09_Go.l0] at H
   by_cases c6 : x5_1 < (t789.length : Int)
   ·rw [if_pos c6] at H
    have c6b0 : decide (x5_1 < (t789.length : Int)) = true := decide_eq_true c6;clear c6;have H' := Aside0.mk H;clear H;obtain ⟨Ao7, co7, eo7⟩ := Kd.R_slice HO_4.out;subst eo7;go_wp2
    go_loopg [6] k1 (fun kq v6 w' => ∃ (x0_2 : List (List Bool)) (x6_2 : Int), v6 = .int .i64 x6_2 ∧ Aside0 (arboristref09_Go.l1 kq x0_2 a1 t789 x5_1 x6_2 = some r) ∧ Aside0 (kq ≤ k1) ∧ Aside0 (Kd.S (Kd.slice 4 Kd.bool) 58 w' w0.heap.size (fun k_ => (P0_ k_ ∨ w.heap.size ≤ k_)) (.slice Ao4 x0_1.length co4) x0_2) ∧ Aside0 (Kd.R (Kd.int .i64) 3 w' w0.heap.size (fun k_ => (P0_ k_ ∨ w.heap.size ≤ k_)) (.slice Ao7 t789.length co7) t789) ∧ Aside0 (Kept w w' (fun k_ => P0_ k_)) ∧ Aside0 (Below w0.heap.size w0 w'))
    case atStart => exact ⟨(x0_1), (0), (by first | rfl | (simp; done) | (simp [*]; done)), H', ⟨Nat.le_refl _⟩, ⟨by (try simp only [hl0_1]); (with_reducible repeat (first | apply Kd.S_alloc | apply Kd.S_drewN | apply Kd.S_drew)); exact HO_0.out⟩, ⟨by (try simp only [hl0_1]); (with_reducible repeat (first | apply Kd.R_alloc | apply Kd.R_drewN | apply Kd.R_drew)); exact HO_4.out⟩, ⟨by repeat (first | (with_reducible first | exact HK.out | apply Kept.alloc | apply Kept.drewN | apply Kept.drew) | exact HK.out)⟩, ⟨qB HB.out⟩⟩
    case round =>
     clear H';try clear p2
     try clear c6
     try clear c6b0
     try clear p2
     obtain ⟨x0_2, x6_2, rfl, HA, HK2, HO_0, HO_4, HK, HB⟩ := hrel;have hl0_2 := (Kd.S_reads' HO_0.out).1;rw [hl0_2] at HO_0
     (try simp only [hl0_2]);(try simp only [hl0_2] at HO_4);cases gk with
     | zero => exact absurd HA.out (by simp [arboristref09_Go.l1])
     | succ k2 =>
      have H := HA.out;clear HA;simp only [arboristref09_Go.l1] at H
      by_cases c8 : x6_2 < (t789.length : Int)
      ·rw [if_pos c8] at H
       have c8b0 : decide (x6_2 < (t789.length : Int)) = true := decide_eq_true c8;clear c8;by_cases c9 : x5_1 = x6_2
       ·rw [if_pos c9] at H
        have c9b0 : (x5_1 == x6_2) = true := beq_iff_eq.mpr c9;have c9b1 : (x5_1 != x6_2) = false := bne_eq_false_iff_eq.mpr c9;clear c9;have H' := Aside0.mk H;clear H;go_wp2
        (try simp only [← hl0_2]);go_roundg k2
        case measure => have := HK1.out; have := HK2.out; omega
        case rel => exact ⟨(x0_2), (wrap64 (x6_2 + 1)), (by first | rfl | (simp; done) | (simp [*]; done)), H', ⟨by have := HK1.out; have := HK2.out; omega⟩, ⟨by (try simp only [hl0_1]); (try simp only [hl0_2]); (with_reducible repeat (first | apply Kd.S_alloc | apply Kd.S_drewN | apply Kd.S_drew)); exact HO_0.out⟩, ⟨by (try simp only [hl0_1]); (try simp only [hl0_2]); (with_reducible repeat (first | apply Kd.R_alloc | apply Kd.R_drewN | apply Kd.R_drew)); exact HO_4.out⟩, ⟨by repeat (first | (with_reducible first | exact HK.out | apply Kept.alloc | apply Kept.drewN | apply Kept.drew) | exact HK.out)⟩, ⟨qB HB.out⟩⟩
       ·rw [if_neg c9] at H
        have c9b0 : (x5_1 == x6_2) = false := beq_eq_false_iff_ne.mpr c9;have c9b1 : (x5_1 != x6_2) = true := bne_iff_ne.mpr c9;by_cases c10 : 0 ≤ x5_1
        ·rw [if_pos c10] at H
         have c10b0 : decide (0 ≤ x5_1) = true := decide_eq_true c10;clear c10;by_cases c11 : x5_1 < (t789.length : Int)
         ·rw [if_pos c11] at H
          have c11b0 : decide (x5_1 < (t789.length : Int)) = true := decide_eq_true c11;clear c11;by_cases c12 : 0 ≤ (rd t789 x5_1)
          ·rw [if_pos c12] at H
           have c12b0 : decide (0 ≤ (rd t789 x5_1)) = true := decide_eq_true c12;clear c12;by_cases c13 : (rd t789 x5_1) < (x0_2.length : Int)
           ·rw [if_pos c13] at H
            have c13b0 : decide ((rd t789 x5_1) < (x0_2.length : Int)) = true := decide_eq_true c13;clear c13;by_cases c14 : 0 ≤ x6_2
            ·rw [if_pos c14] at H
             have c14b0 : decide (0 ≤ x6_2) = true := decide_eq_true c14;clear c14;by_cases c15 : 0 ≤ (rd t789 x6_2)
             ·rw [if_pos c15] at H
              have c15b0 : decide (0 ≤ (rd t789 x6_2)) = true := decide_eq_true c15;clear c15;by_cases c16 : (rd t789 x6_2) < ((rd_L8 x0_2 (rd t789 x5_1)).length : Int)
              ·rw [if_pos c16] at H
               have c16b0 : decide ((rd t789 x6_2) < ((rd_L8 x0_2 (rd t789 x5_1)).length : Int)) = true := decide_eq_true c16;clear c16;obtain ⟨y795, hy795⟩ : ∃ y_ : List Bool, y_ = ((rd_L8 x0_2 (rd t789 x5_1)).set ((rd t789 x6_2) : Int).toNat true) := ⟨_, rfl⟩;replace H : (arboristref09_Go.l1 k2 (x0_2.set ((rd t789 x5_1) : Int).toNat y795) a1 t789 x5_1 (wrap64 (x6_2 + 1))) = some r := by first | (rw [hy795]; with_reducible exact H) | (have H2_ := (Option.bind_some _ _).symm.trans H; rw [hy795]; with_reducible exact H2_) | (have H2_ := (Option.bind_some _ _).symm.trans H; with_reducible exact H2_) | with_reducible exact H | (rw [hy795]; exact H) | exact H
               have Ny795 := Aside0.mk hy795;clear hy795;obtain ⟨y797, hy797⟩ : ∃ y_ : List (List Bool), y_ = (x0_2.set ((rd t789 x5_1) : Int).toNat y795) := ⟨_, rfl⟩;replace H : (arboristref09_Go.l1 k2 y797 a1 t789 x5_1 (wrap64 (x6_2 + 1))) = some r := by first | (rw [hy797]; with_reducible exact H) | (have H2_ := (Option.bind_some _ _).symm.trans H; rw [hy797]; with_reducible exact H2_) | (have H2_ := (Option.bind_some _ _).symm.trans H; with_reducible exact H2_) | with_reducible exact H | (rw [hy797]; exact H) | exact H
               have Ny797 := Aside0.mk hy797;clear hy797;have H' := Aside0.mk H;clear H;try go_wp2
               replace HO_0 := Aside0.mk (Kd.S_drew HO_0.out);replace HO_4 := Aside0.mk (Kd.R_drew HO_4.out);replace HK := Aside0.mk (Kept.drew HK.out);replace HB := Aside0.mk (below_drew1 HB.out);have p792 : 0 ≤ (x5_1 : Int) := of_decide_eq_true qA;have q792 : x5_1 < (t789.length : Int) := of_decide_eq_true qA;obtain ⟨ad792, e792, hx792_0⟩ := Kd.at_int (Kd.R_reads' HO_4.out).2.2 x5_1 p792 q792;cases e792
               replace p792 := eq_true p792;replace q792 := eq_true q792;have p793 : 0 ≤ ((rd t789 x5_1) : Int) := of_decide_eq_true qA;have q793 : (rd t789 x5_1) < (x0_2.length : Int) := of_decide_eq_true qA;obtain ⟨ad793, A793_0, c793_0, e793, hx793_0, hl793_0, hi793_0⟩ := at_L8 (Kd.S_reads' HO_0.out).2.2 (rd t789 x5_1) p793 q793;cases e793
               obtain ⟨ce793, hce793, hMe793, hcc793⟩ := Kd.S_get HO_0.out [] (rd t789 x5_1) p793 (by first | exact q793 | exact of_decide_eq_true qA | (have e_ := (Kd.S_reads' HO_0.out).1; omega));obtain ⟨ve793_0, rfl, ge793_0⟩ := hMe793;have hv793_0 := hcc793 0 _ rfl;rw [Nat.add_zero, show ((Kd.slice 4 Kd.bool)).sz = 1 from rfl, Nat.mul_one] at hv793_0
               replace hv793_0 := Option.some.inj (hv793_0.symm.trans hx793_0);rw [hv793_0] at ge793_0
               have HL793_0 := Aside0.mk (show Kd.R Kd.bool 4 _ _ _ _ (rd_L8 x0_2 (rd t789 x5_1)) from ge793_0);clear hv793_0 ge793_0;have HX793_0 := Aside0.mk hx793_0;clear hcc793 hce793;have HR793_0 := Aside0.mk hi793_0;have HC793_0 := Aside0.mk hl793_0;clear hi793_0 hl793_0;replace p793 := eq_true p793;replace q793 := eq_true q793;have p794 : 0 ≤ (x6_2 : Int) := of_decide_eq_true qA;have q794 : x6_2 < (t789.length : Int) := of_decide_eq_true qA;obtain ⟨ad794, e794, hx794_0⟩ := Kd.at_int (Kd.R_reads' HO_4.out).2.2 x6_2 p794 q794;obtain rfl : ad792 = ad794 := (by injection e794);replace p794 := eq_true p794;replace q794 := eq_true q794;have p17 : 0 ≤ ((rd t789 x6_2) : Int) := of_decide_eq_true qA;have q17 : ((rd t789 x6_2) : Int) < (((rd_L8 x0_2 (rd t789 x5_1)).length : Int) : Int) := of_decide_eq_true qA;obtain ⟨go17, co17, eo17, gb17, gl17, cl17, HG17⟩ := Kd.R_form HL793_0.out (by omega);(first | cases eo17 | (injection eo17 with ea_ en_ ec_; (first | subst ea_ | (injection ea_ with ea_; subst ea_)); subst ec_; clear en_));have GB17 := Aside0.mk gb17;have GG17 := Aside0.mk HG17;clear gb17 gl17 HG17;have HMgo17 := Aside0.mk (show (P0_ go17 ∨ w.heap.size ≤ go17) from (HL793_0.out.1 _ rfl).1);obtain ⟨hx17_0, hf17_0⟩ := Kd.R_celln false HL793_0.out ((rd t789 x6_2) : Int) p17 q17;replace p17 := eq_true p17;replace q17 := eq_true q17;have hq19 : ((rd t789 x5_1) : Int) < (x0_2.length : Int) := (by have h_ : ((rd t789 x5_1) : Int) < ((x0_2.length : Int) : Int) := of_decide_eq_true qA; first | exact h_ | (have e_ := (Kd.S_reads' HO_0.out).1; omega) | simpa only [List.length_set, List.length_set] using h_);obtain ⟨oki19, ce19, hcl19, hM19, hcc19, hok19, hbk19⟩ := Kd.S_borrow HO_0.out [] ((rd t789 x5_1) : Int) (of_decide_eq_true qA) (by first | exact hq19 | (have e_ := (Kd.S_reads' HO_0.out).1; have h_ := hq19; omega));obtain ⟨ve19_0, rfl, ge19_0⟩ := hM19;have hv19 := hcc19 0 _ rfl;rw [Nat.add_zero, show ((Kd.slice 4 Kd.bool)).sz = 1 from rfl, Nat.mul_one] at hv19
               replace hv19 := Option.some.inj (hv19.symm.trans HX793_0.out);subst hv19;clear hcc19 hcl19;replace ge19_0 := (show Kd.R Kd.bool 4 _ _ _ _ (rd_L8 x0_2 (rd t789 x5_1)) from ge19_0);have HP19 := Kd.R_putg ge19_0 ((rd t789 x6_2) : Int) true;rw [← Ny795.out] at HP19
               have HS19 := hbk19 HP19.2 (fun k_ e_ => by injection e_ with e_; subst e_; exact ge19_0.1 _ rfl) (x' := y795) (Kd.M_row HP19.1);rw [← Ny797.out] at HS19
               have HQ19 := Aside0.mk HS19;clear HP19 HS19 hbk19 hok19;refine start_ (n := 13) (S := fun w' => w'.cell? (ad792.add (x5_1).toNat) = some (.int .i64 (rd t789 x5_1)) ∧ w'.cell? (ad793.add ((rd t789 x5_1)).toNat) = some (.slice (some ⟨go17, 0, none⟩) (rd_L8 x0_2 (rd t789 x5_1)).length c793_0) ∧ w'.cell? (ad792.add (x6_2).toNat) = some (.int .i64 (rd t789 x6_2))) (ds := [12]) (bs 13 0) (by kernel_rfl) rfl rfl ⟨hx792_0, hx793_0, hx794_0⟩ (fun hHeld => ?_); refine with_tabW arboristref09_Go.tab8 arboristref09_Go.bits8 (fun HT_ HW_ => ?_)
               generalize wr.drew = w18 at HO_0 HO_4 HK HB GG17 HL793_0 HQ19 HR793_0 HX793_0 hf17_0 hx17_0 hx792_0 hx793_0 hx794_0 hHeld ⊢
               refine qP 0 (some 26) (bs 13 1) HT_.out ?_;refine qP 1 (some 27) (bs 13 3) HT_.out ?_;refine qP 2 (some 28) (bs 13 7) HT_.out ?_;refine qP 3 (some 29) (bs 13 15) HT_.out ?_;refine qP 7 (some 33) (bs 13 143) HT_.out ?_;refine qP 8 (some 34) (bs 13 399) HT_.out ?_;refine qP 9 (some 35) (bs 13 911) HT_.out ?_;refine take_ (i := 4) (N := some 30) (v := ?_) (a' := ?_) (bs 13 927) rfl rfl (take_ofW HT_.out HW_.out (by kernel_rfl)) (fun _ _ _ h => h) (Or.inl ⟨by rfl, ?_⟩) hHeld ?_ ?_;rotate_left
               ·rintro w' ⟨s0, s1, s2⟩
                go_simp
                with_reducible rfl
               rotate_left; (simp only [Act.put, List.setIfInBounds_toArray, List.set_cons_zero, List.set_cons_succ, i64_w, i32_w]; rfl)
               refine qP 5 (some 31) (bs 13 959) HT_.out ?_;refine take_ (i := 6) (N := some 32) (v := ?_) (a' := ?_) (bs 13 1023) rfl rfl (take_ofW HT_.out HW_.out (by kernel_rfl)) (fun _ _ _ h => h) (Or.inl ⟨by rfl, ?_⟩) hHeld ?_ ?_;rotate_left
               ·rintro w' ⟨s0, s1, s2⟩
                go_simp
                with_reducible rfl
               rotate_left; (simp only [Act.put, List.setIfInBounds_toArray, List.set_cons_zero, List.set_cons_succ, i64_w, i32_w]; rfl)
               refine take_ (i := 10) (N := some 36) (v := ?_) (a' := ?_) (bs 13 2047) rfl rfl (take_ofW HT_.out HW_.out (by kernel_rfl)) (fun _ _ _ h => h) (Or.inl ⟨by rfl, ?_⟩) hHeld ?_ ?_;rotate_left
               ·rintro w' ⟨s0, s1, s2⟩
                go_simp
                with_reducible rfl
               rotate_left; (simp only [Act.put, List.setIfInBounds_toArray, List.set_cons_zero, List.set_cons_succ, i64_w, i32_w]; rfl)
               refine qP 11 (some 37) (bs 13 4095) HT_.out ?_;refine last_ (i := 12) (N := none) (bs 13 8191) rfl rfl (one_of HT_.out (by kernel_rfl)) (by decide) (fun K hK => ?_);refine skip_ (w1 := ?_) (by rfl) rfl ?_ ?_;rotate_left
               ·go_simp
                rfl
               refine hK.out _ _ ?_;clear hK K;refine done_ (done_of HT_.out (by kernel_rfl)) ?_;try go_wp2
               (try simp only [← hl0_2]);go_roundg k2
               case measure => have := HK1.out; have := HK2.out; omega
               case rel => exact ⟨(y797), (wrap64 (x6_2 + 1)), (by first | rfl | (simp; done) | (simp [*]; done)), H', ⟨by have := HK1.out; have := HK2.out; omega⟩, ⟨by (try simp only [hl0_1]); (try simp only [hl0_2]); (with_reducible repeat (first | apply Kd.S_alloc | apply Kd.S_drewN | apply Kd.S_drew)); exact HQ19.out⟩, ⟨by (try simp only [hl0_1]); (try simp only [hl0_2]); (with_reducible repeat (first | apply Kd.R_alloc | apply Kd.R_drewN | apply Kd.R_drew)); exact Kd.R_mono (Kd.R_far (p := ⟨go17, ((rd t789 x6_2) : Int).toNat, none⟩) (Kd.R_types HO_4.out GG17.out (by decide)) (fun _ hk => hk.2) (.bool true)) (fun _ hk => hk.1)⟩, ⟨by repeat (first | (with_reducible first | exact HK.out | apply Kept.alloc | apply Kept.drewN | apply Kept.drew | refine Kept.setCell ?_ HMgo17.out _) | exact HK.out)⟩, ⟨by repeat (first | (with_reducible first | exact HB.out | apply below_alloc | apply pw_below_drewN | apply below_drew1 | refine below_set ?_ GB17.out) | exact HB.out)⟩⟩
              ·rw [if_neg c16] at H
               exact absurd H (by simp)
             ·rw [if_neg c15] at H
              exact absurd H (by simp)
            ·rw [if_neg c14] at H
             exact absurd H (by simp)
           ·rw [if_neg c13] at H
            exact absurd H (by simp)
          ·rw [if_neg c12] at H
           exact absurd H (by simp)
         ·rw [if_neg c11] at H
          exact absurd H (by simp)
        ·rw [if_neg c10] at H
         exact absurd H (by simp)
      ·rw [if_neg c8] at H
       have c8b0 : decide (x6_2 < (t789.length : Int)) = false := decide_eq_false c8;clear c8;have H' := Aside0.mk H;clear H;go_wp2
       (try simp only [← hl0_1, ← hl0_2]);go_roundg k2
       case measure => have := HK1.out; have := HK2.out; omega
       case rel => exact ⟨(x0_2), (wrap64 (x5_1 + 1)), (by first | rfl | (simp; done) | (simp [*]; done)), H', ⟨by have := HK1.out; have := HK2.out; omega⟩, ⟨by (try simp only [hl0_1]); (try simp only [hl0_2]); (with_reducible repeat (first | apply Kd.S_alloc | apply Kd.S_drewN | apply Kd.S_drew)); exact HO_0.out⟩, ⟨by (try simp only [hl0_1]); (try simp only [hl0_2]); (with_reducible repeat (first | apply Kd.R_alloc | apply Kd.R_drewN | apply Kd.R_drew)); exact HO_4.out⟩, ⟨by repeat (first | (with_reducible first | exact HK.out | apply Kept.alloc | apply Kept.drewN | apply Kept.drew) | exact HK.out)⟩, ⟨qB HB.out⟩⟩
   ·rw [if_neg c6] at H
    have c6b0 : decide (x5_1 < (t789.length : Int)) = false := decide_eq_false c6;clear c6;have H' := Aside0.mk H;clear H;obtain ⟨Ao21, co21, eo21⟩ := Kd.R_slice HO_4.out;subst eo21;go_wp2
    go_loopg [7] k1 (fun kq v7 w' => ∃ (x0_2 : List (List Bool)) (x7_2 : Int), v7 = .int .i64 x7_2 ∧ Aside0 (arboristref09_Go.l2 kq x0_2 a1 t789 x7_2 = some r) ∧ Aside0 (kq ≤ k1) ∧ Aside0 (Kd.S (Kd.slice 4 Kd.bool) 58 w' w0.heap.size (fun k_ => (P0_ k_ ∨ w.heap.size ≤ k_)) (.slice Ao4 x0_1.length co4) x0_2) ∧ Aside0 (Kd.R (Kd.int .i64) 3 w' w0.heap.size (fun k_ => (P0_ k_ ∨ w.heap.size ≤ k_)) (.slice Ao21 t789.length co21) t789) ∧ Aside0 (Kept w w' (fun k_ => P0_ k_)) ∧ Aside0 (Below w0.heap.size w0 w'))
    case atStart => exact ⟨(x0_1), (0), (by first | rfl | (simp; done) | (simp [*]; done)), H', ⟨Nat.le_refl _⟩, ⟨by (try simp only [hl0_1]); (with_reducible repeat (first | apply Kd.S_alloc | apply Kd.S_drewN | apply Kd.S_drew)); exact HO_0.out⟩, ⟨by (try simp only [hl0_1]); (with_reducible repeat (first | apply Kd.R_alloc | apply Kd.R_drewN | apply Kd.R_drew)); exact HO_4.out⟩, ⟨by repeat (first | (with_reducible first | exact HK.out | apply Kept.alloc | apply Kept.drewN | apply Kept.drew) | exact HK.out)⟩, ⟨qB HB.out⟩⟩
    case round =>
     clear H';try clear c1
     try clear p1
     try clear q1
     try clear hx1
     try clear p2
     try clear c6
     try clear c6b0
     try clear p6
     try clear c7
     try clear p7
     try clear q7
     try clear hx7
     try clear c8
     try clear c8b0
     try clear c9
     try clear c9b0
     try clear c9b1
     try clear c10
     try clear c10b0
     try clear c11
     try clear c11b0
     try clear c12
     try clear c12b0
     try clear c13
     try clear c13b0
     try clear c14
     try clear c14b0
     try clear c15
     try clear c15b0
     try clear c16
     try clear c16b0
     try clear p17
     try clear q17
     try clear hx17
     try clear hf17
     try clear c19
     try clear q19
     try clear hx17_0
     try clear hx792_0
     try clear hx793_0
     try clear hx794_0
     try clear p17
     try clear p2
     try clear p792
     try clear p793
     try clear p794
     try clear q17
     try clear q792
     try clear q793
     try clear q794
     obtain ⟨x0_2, x7_2, rfl, HA, HK2, HO_0, HO_4, HK, HB⟩ := hrel;have hl0_2 := (Kd.S_reads' HO_0.out).1;rw [hl0_2] at HO_0
     (try simp only [hl0_2]);(try simp only [hl0_2] at HO_4);cases gk with
     | zero => exact absurd HA.out (by simp [arboristref09_Go.l2])
     | succ k2 =>
      have H := HA.out;clear HA;simp only [arboristref09_Go.l2] at H
      by_cases c22 : x7_2 < (t789.length : Int)
      ·rw [if_pos c22] at H
       have c22b0 : decide (x7_2 < (t789.length : Int)) = true := decide_eq_true c22;clear c22;by_cases c23 : 0 ≤ a1
       ·rw [if_pos c23] at H
        have c23b0 : decide (0 ≤ a1) = true := decide_eq_true c23;clear c23;by_cases c24 : a1 < (x0_2.length : Int)
        ·rw [if_pos c24] at H
         have c24b0 : decide (a1 < (x0_2.length : Int)) = true := decide_eq_true c24;clear c24;by_cases c25 : 0 ≤ x7_2
         ·rw [if_pos c25] at H
          have c25b0 : decide (0 ≤ x7_2) = true := decide_eq_true c25;clear c25;by_cases c26 : 0 ≤ (rd t789 x7_2)
          ·rw [if_pos c26] at H
           have c26b0 : decide (0 ≤ (rd t789 x7_2)) = true := decide_eq_true c26;clear c26;by_cases c27 : (rd t789 x7_2) < ((rd_L8 x0_2 a1).length : Int)
           ·rw [if_pos c27] at H
            have c27b0 : decide ((rd t789 x7_2) < ((rd_L8 x0_2 a1).length : Int)) = true := decide_eq_true c27;clear c27;obtain ⟨y800, hy800⟩ : ∃ y_ : List Bool, y_ = ((rd_L8 x0_2 a1).set ((rd t789 x7_2) : Int).toNat false) := ⟨_, rfl⟩;replace H : ((some (x0_2.set (a1 : Int).toNat y800 : List (List Bool))).bind fun y802 => (if (rd t789 x7_2) < (x0_2.length : Int) then (if a1 < ((rd_L8 y802 (rd t789 x7_2)).length : Int) then (arboristref09_Go.l2 k2 (y802.set ((rd t789 x7_2) : Int).toNat ((rd_L8 y802 (rd t789 x7_2)).set (a1 : Int).toNat false)) a1 t789 (wrap64 (x7_2 + 1))) else (none)) else (none))) = some r := by first | (rw [hy800]; with_reducible exact H) | (have H2_ := (Option.bind_some _ _).symm.trans H; rw [hy800]; with_reducible exact H2_) | (have H2_ := (Option.bind_some _ _).symm.trans H; with_reducible exact H2_) | with_reducible exact H | (rw [hy800]; exact H) | exact H
            have Ny800 := Aside0.mk hy800;clear hy800;obtain ⟨y802, hy802⟩ : ∃ y_ : List (List Bool), y_ = (x0_2.set (a1 : Int).toNat y800) := ⟨_, rfl⟩;replace H : (if (rd t789 x7_2) < (x0_2.length : Int) then (if a1 < ((rd_L8 y802 (rd t789 x7_2)).length : Int) then (arboristref09_Go.l2 k2 (y802.set ((rd t789 x7_2) : Int).toNat ((rd_L8 y802 (rd t789 x7_2)).set (a1 : Int).toNat false)) a1 t789 (wrap64 (x7_2 + 1))) else (none)) else (none)) = some r := by first | (rw [hy802]; with_reducible exact H) | (have H2_ := (Option.bind_some _ _).symm.trans H; rw [hy802]; with_reducible exact H2_) | (have H2_ := (Option.bind_some _ _).symm.trans H; with_reducible exact H2_) | with_reducible exact H | (rw [hy802]; exact H) | exact H
            have Ny802 := Aside0.mk hy802;clear hy802;by_cases c29 : (rd t789 x7_2) < (x0_2.length : Int)
            ·rw [if_pos c29] at H
             have c29b0 : decide ((rd t789 x7_2) < (x0_2.length : Int)) = true := decide_eq_true c29;clear c29;by_cases c30 : a1 < ((rd_L8 y802 (rd t789 x7_2)).length : Int)
             ·rw [if_pos c30] at H
              have c30b0 : decide (a1 < ((rd_L8 y802 (rd t789 x7_2)).length : Int)) = true := decide_eq_true c30;clear c30;obtain ⟨y805, hy805⟩ : ∃ y_ : List Bool, y_ = ((rd_L8 y802 (rd t789 x7_2)).set (a1 : Int).toNat false) := ⟨_, rfl⟩;replace H : (arboristref09_Go.l2 k2 (y802.set ((rd t789 x7_2) : Int).toNat y805) a1 t789 (wrap64 (x7_2 + 1))) = some r := by first | (rw [hy805]; with_reducible exact H) | (have H2_ := (Option.bind_some _ _).symm.trans H; rw [hy805]; with_reducible exact H2_) | (have H2_ := (Option.bind_some _ _).symm.trans H; with_reducible exact H2_) | with_reducible exact H | (rw [hy805]; exact H) | exact H
              have Ny805 := Aside0.mk hy805;clear hy805;obtain ⟨y807, hy807⟩ : ∃ y_ : List (List Bool), y_ = (y802.set ((rd t789 x7_2) : Int).toNat y805) := ⟨_, rfl⟩;replace H : (arboristref09_Go.l2 k2 y807 a1 t789 (wrap64 (x7_2 + 1))) = some r := by first | (rw [hy807]; with_reducible exact H) | (have H2_ := (Option.bind_some _ _).symm.trans H; rw [hy807]; with_reducible exact H2_) | (have H2_ := (Option.bind_some _ _).symm.trans H; with_reducible exact H2_) | with_reducible exact H | (rw [hy807]; exact H) | exact H
              have Ny807 := Aside0.mk hy807;clear hy807;have H' := Aside0.mk H;clear H;try go_wp2
              replace HO_0 := Aside0.mk (Kd.S_drew HO_0.out);replace HO_4 := Aside0.mk (Kd.R_drew HO_4.out);replace HK := Aside0.mk (Kept.drew HK.out);replace HB := Aside0.mk (below_drew1 HB.out);have p798 : 0 ≤ (a1 : Int) := of_decide_eq_true qA;have q798 : a1 < (x0_2.length : Int) := of_decide_eq_true qA;obtain ⟨ad798, A798_0, c798_0, e798, hx798_0, hl798_0, hi798_0⟩ := at_L8 (Kd.S_reads' HO_0.out).2.2 a1 p798 q798;cases e798
              obtain ⟨ce798, hce798, hMe798, hcc798⟩ := Kd.S_get HO_0.out [] a1 p798 (by first | exact q798 | exact of_decide_eq_true qA | (have e_ := (Kd.S_reads' HO_0.out).1; omega));obtain ⟨ve798_0, rfl, ge798_0⟩ := hMe798;have hv798_0 := hcc798 0 _ rfl;rw [Nat.add_zero, show ((Kd.slice 4 Kd.bool)).sz = 1 from rfl, Nat.mul_one] at hv798_0
              replace hv798_0 := Option.some.inj (hv798_0.symm.trans hx798_0);rw [hv798_0] at ge798_0
              have HL798_0 := Aside0.mk (show Kd.R Kd.bool 4 _ _ _ _ (rd_L8 x0_2 a1) from ge798_0);clear hv798_0 ge798_0;have HX798_0 := Aside0.mk hx798_0;clear hcc798 hce798;have HR798_0 := Aside0.mk hi798_0;have HC798_0 := Aside0.mk hl798_0;clear hi798_0 hl798_0;replace p798 := eq_true p798;replace q798 := eq_true q798;have p799 : 0 ≤ (x7_2 : Int) := of_decide_eq_true qA;have q799 : x7_2 < (t789.length : Int) := of_decide_eq_true qA;obtain ⟨ad799, e799, hx799_0⟩ := Kd.at_int (Kd.R_reads' HO_4.out).2.2 x7_2 p799 q799;cases e799
              replace p799 := eq_true p799;replace q799 := eq_true q799;have p28 : 0 ≤ ((rd t789 x7_2) : Int) := of_decide_eq_true qA;have q28 : ((rd t789 x7_2) : Int) < (((rd_L8 x0_2 a1).length : Int) : Int) := of_decide_eq_true qA;obtain ⟨go28, co28, eo28, gb28, gl28, cl28, HG28⟩ := Kd.R_form HL798_0.out (by omega);(first | cases eo28 | (injection eo28 with ea_ en_ ec_; (first | subst ea_ | (injection ea_ with ea_; subst ea_)); subst ec_; clear en_));have GB28 := Aside0.mk gb28;have GG28 := Aside0.mk HG28;clear gb28 gl28 HG28;have HMgo28 := Aside0.mk (show (P0_ go28 ∨ w.heap.size ≤ go28) from (HL798_0.out.1 _ rfl).1);obtain ⟨hx28_0, hf28_0⟩ := Kd.R_celln false HL798_0.out ((rd t789 x7_2) : Int) p28 q28;replace p28 := eq_true p28;replace q28 := eq_true q28;have hq33 : (a1 : Int) < (x0_2.length : Int) := (by have h_ : (a1 : Int) < ((x0_2.length : Int) : Int) := of_decide_eq_true qA; first | exact h_ | (have e_ := (Kd.S_reads' HO_0.out).1; omega) | simpa only [List.length_set, List.length_set] using h_);obtain ⟨oki33, ce33, hcl33, hM33, hcc33, hok33, hbk33⟩ := Kd.S_borrow HO_0.out [] (a1 : Int) (of_decide_eq_true qA) (by first | exact hq33 | (have e_ := (Kd.S_reads' HO_0.out).1; have h_ := hq33; omega));obtain ⟨ve33_0, rfl, ge33_0⟩ := hM33;have hv33 := hcc33 0 _ rfl;rw [Nat.add_zero, show ((Kd.slice 4 Kd.bool)).sz = 1 from rfl, Nat.mul_one] at hv33
              replace hv33 := Option.some.inj (hv33.symm.trans HX798_0.out);subst hv33;clear hcc33 hcl33;replace ge33_0 := (show Kd.R Kd.bool 4 _ _ _ _ (rd_L8 x0_2 a1) from ge33_0);have HP33 := Kd.R_putg ge33_0 ((rd t789 x7_2) : Int) false;rw [← Ny800.out] at HP33
              have HS33 := hbk33 HP33.2 (fun k_ e_ => by injection e_ with e_; subst e_; exact ge33_0.1 _ rfl) (x' := y800) (Kd.M_row HP33.1);rw [← Ny802.out] at HS33
              have HQ33 := Aside0.mk HS33;clear HP33 HS33 hbk33 hok33;refine start_ (n := 10) (S := fun w' => w'.cell? (ad798.add (a1).toNat) = some (.slice (some ⟨go28, 0, none⟩) (rd_L8 x0_2 a1).length c798_0) ∧ w'.cell? (ad799.add (x7_2).toNat) = some (.int .i64 (rd t789 x7_2))) (ds := [9]) (bs 10 0) (by kernel_rfl) rfl rfl ⟨hx798_0, hx799_0⟩ (fun hHeld => ?_); refine with_tabW arboristref09_Go.tab12 arboristref09_Go.bits12 (fun HT_ HW_ => ?_)
              generalize wr.drew = w32 at HO_0 HO_4 HK HB GG28 HL798_0 HQ33 HR798_0 HX798_0 hf28_0 hx28_0 hx798_0 hx799_0 hHeld ⊢
              refine qP 0 (some 44) (bs 10 1) HT_.out ?_;refine qP 1 (some 45) (bs 10 3) HT_.out ?_;refine qP 2 (some 46) (bs 10 7) HT_.out ?_;refine qP 4 (some 48) (bs 10 23) HT_.out ?_;refine qP 5 (some 49) (bs 10 55) HT_.out ?_;refine qP 6 (some 50) (bs 10 119) HT_.out ?_;refine take_ (i := 3) (N := some 47) (v := ?_) (a' := ?_) (bs 10 127) rfl rfl (take_ofW HT_.out HW_.out (by kernel_rfl)) (fun _ _ _ h => h) (Or.inl ⟨by rfl, ?_⟩) hHeld ?_ ?_;rotate_left
              ·rintro w' ⟨s0, s1⟩
               go_simp
               with_reducible rfl
              rotate_left; (simp only [Act.put, List.setIfInBounds_toArray, List.set_cons_zero, List.set_cons_succ, i64_w, i32_w]; rfl)
              refine take_ (i := 7) (N := some 51) (v := ?_) (a' := ?_) (bs 10 255) rfl rfl (take_ofW HT_.out HW_.out (by kernel_rfl)) (fun _ _ _ h => h) (Or.inl ⟨by rfl, ?_⟩) hHeld ?_ ?_;rotate_left
              ·rintro w' ⟨s0, s1⟩
               go_simp
               with_reducible rfl
              rotate_left; (simp only [Act.put, List.setIfInBounds_toArray, List.set_cons_zero, List.set_cons_succ, i64_w, i32_w]; rfl)
              refine qP 8 (some 52) (bs 10 511) HT_.out ?_;refine last_ (i := 9) (N := none) (bs 10 1023) rfl rfl (one_of HT_.out (by kernel_rfl)) (by decide) (fun K hK => ?_);refine skip_ (w1 := ?_) (by rfl) rfl ?_ ?_;rotate_left
              ·go_simp
               rfl
              refine hK.out _ _ ?_;clear hK K;refine done_ (done_of HT_.out (by kernel_rfl)) ?_;have n0_ : Aside0 (Kd.S (Kd.slice 4 Kd.bool) 58 (w32.setCell ⟨go28, ((rd t789 x7_2) : Int).toNat, none⟩ (.bool false)) w0.heap.size (fun k_ => (P0_ k_ ∨ w.heap.size ≤ k_)) (.slice (some ad798) x0_2.length co4) y802) := ⟨qS HQ33.out⟩;have n1_ : Aside0 (Kd.R (Kd.int .i64) 3 (w32.setCell ⟨go28, ((rd t789 x7_2) : Int).toNat, none⟩ (.bool false)) w0.heap.size (fun k_ => (P0_ k_ ∨ w.heap.size ≤ k_)) (.slice (some ad799) t789.length co21) t789) := ⟨by (with_reducible repeat (first | apply Kd.R_alloc | apply Kd.R_drewN | apply Kd.R_drew)); exact Kd.R_mono (Kd.R_far (p := ⟨go28, ((rd t789 x7_2) : Int).toNat, none⟩) (Kd.R_types HO_4.out GG28.out (by decide)) (fun _ hk => hk.2) (.bool false)) (fun _ hk => hk.1)⟩;have n2_ : Aside0 (Kept w (w32.setCell ⟨go28, ((rd t789 x7_2) : Int).toNat, none⟩ (.bool false)) (fun k_ => P0_ k_)) := ⟨by repeat (first | (with_reducible first | exact HK.out | apply Kept.alloc | apply Kept.drewN | apply Kept.drew | refine Kept.setCell ?_ HMgo28.out _) | exact HK.out)⟩;have n3_ : Aside0 (Below w0.heap.size w0 (w32.setCell ⟨go28, ((rd t789 x7_2) : Int).toNat, none⟩ (.bool false))) := ⟨by repeat (first | (with_reducible first | exact HB.out | apply below_alloc | apply pw_below_drewN | apply below_drew1 | refine below_set ?_ GB28.out) | exact HB.out)⟩;(try clear HO_0);(try clear HO_4);(try clear HK);(try clear HB);generalize (w32.setCell ⟨go28, ((rd t789 x7_2) : Int).toNat, none⟩ (.bool false)) = w35 at n0_ n1_ n2_ n3_ ⊢
              have HO_0 := n0_;have HO_4 := n1_;have HK := n2_;have HB := n3_;clear n0_ n1_ n2_ n3_;have p803 : 0 ≤ (x7_2 : Int) := of_decide_eq_true qA;have q803 : x7_2 < (t789.length : Int) := of_decide_eq_true qA;obtain ⟨ad803, e803, hx803_0⟩ := Kd.at_int (Kd.R_reads' HO_4.out).2.2 x7_2 p803 q803;obtain rfl : ad799 = ad803 := (by injection e803);replace p803 := eq_true p803;replace q803 := eq_true q803;have p804 : 0 ≤ ((rd t789 x7_2) : Int) := of_decide_eq_true qA;have q804 : (rd t789 x7_2) < (y802.length : Int) := (by have h_ : ((rd t789 x7_2) : Int) < ((x0_2.length : Int) : Int) := of_decide_eq_true qA; first | (have e_ := (Kd.S_reads' HO_0.out).1; omega) | simpa only [Ny802.out, List.length_set] using h_);have ql804 : (((rd t789 x7_2) : Int) < ((x0_2.length : Int) : Int)) = True := eq_true (of_decide_eq_true qA);obtain ⟨ad804, A804_0, c804_0, e804, hx804_0, hl804_0, hi804_0⟩ := at_L8 (Kd.S_reads' HO_0.out).2.2 (rd t789 x7_2) p804 q804;obtain rfl : ad798 = ad804 := (by injection e804);obtain ⟨ce804, hce804, hMe804, hcc804⟩ := Kd.S_get HO_0.out [] (rd t789 x7_2) p804 (by first | exact q804 | exact of_decide_eq_true qA | (have e_ := (Kd.S_reads' HO_0.out).1; omega));obtain ⟨ve804_0, rfl, ge804_0⟩ := hMe804;have hv804_0 := hcc804 0 _ rfl;rw [Nat.add_zero, show ((Kd.slice 4 Kd.bool)).sz = 1 from rfl, Nat.mul_one] at hv804_0
              replace hv804_0 := Option.some.inj (hv804_0.symm.trans hx804_0);rw [hv804_0] at ge804_0
              have HL804_0 := Aside0.mk (show Kd.R Kd.bool 4 _ _ _ _ (rd_L8 y802 (rd t789 x7_2)) from ge804_0);clear hv804_0 ge804_0;have HX804_0 := Aside0.mk hx804_0;clear hcc804 hce804;have HR804_0 := Aside0.mk hi804_0;have HC804_0 := Aside0.mk hl804_0;clear hi804_0 hl804_0;replace p804 := eq_true p804;replace q804 := eq_true q804;have p31 : 0 ≤ (a1 : Int) := of_decide_eq_true qA;have q31 : (a1 : Int) < (((rd_L8 y802 (rd t789 x7_2)).length : Int) : Int) := of_decide_eq_true qA;obtain ⟨go31, co31, eo31, gb31, gl31, cl31, HG31⟩ := Kd.R_form HL804_0.out (by omega);(first | cases eo31 | (injection eo31 with ea_ en_ ec_; (first | subst ea_ | (injection ea_ with ea_; subst ea_)); subst ec_; clear en_));have GB31 := Aside0.mk gb31;have GG31 := Aside0.mk HG31;clear gb31 gl31 HG31;have HMgo31 := Aside0.mk (show (P0_ go31 ∨ w.heap.size ≤ go31) from (HL804_0.out.1 _ rfl).1);obtain ⟨hx31_0, hf31_0⟩ := Kd.R_celln false HL804_0.out (a1 : Int) p31 q31;replace p31 := eq_true p31;replace q31 := eq_true q31;have hq36 : ((rd t789 x7_2) : Int) < (y802.length : Int) := (by have h_ : ((rd t789 x7_2) : Int) < ((x0_2.length : Int) : Int) := of_decide_eq_true qA; first | exact h_ | (have e_ := (Kd.S_reads' HO_0.out).1; omega) | simpa only [Ny802.out, List.length_set] using h_);obtain ⟨oki36, ce36, hcl36, hM36, hcc36, hok36, hbk36⟩ := Kd.S_borrow HO_0.out [] ((rd t789 x7_2) : Int) (of_decide_eq_true qA) (by first | exact hq36 | (have e_ := (Kd.S_reads' HO_0.out).1; have h_ := hq36; omega));obtain ⟨ve36_0, rfl, ge36_0⟩ := hM36;have hv36 := hcc36 0 _ rfl;rw [Nat.add_zero, show ((Kd.slice 4 Kd.bool)).sz = 1 from rfl, Nat.mul_one] at hv36
              replace hv36 := Option.some.inj (hv36.symm.trans HX804_0.out);subst hv36;clear hcc36 hcl36;replace ge36_0 := (show Kd.R Kd.bool 4 _ _ _ _ (rd_L8 y802 (rd t789 x7_2)) from ge36_0);have HP36 := Kd.R_putg ge36_0 (a1 : Int) false;try go_wp2_with (first | ((with_reducible refine gate_store (t := 4) (p := 61) rfl ?_); refine store_event (t := 4) (p := 61) (v := ?vo_w37) (w1 := (w35.setCell ⟨go31, (a1 : Int).toNat, none⟩ (.bool false))) ?hg ?ho ?hn ?hr ?_; (case ho => rfl); (case hg => rfl); (case hn => rfl); (case hr => first | (go_simp; done) | (go_simp; rfl)); intro w37 hw; have hg : w35.grownBy w37 (some go31) := (by rw [hw]; exact HP36.2); have hz_ : Kd.R Kd.bool 4 w37 w0.heap.size oki36 (.slice (some ⟨go31, 0, none⟩) (rd_L8 y802 (rd t789 x7_2)).length c804_0) y805 := (by rw [hw, Ny805.out]; exact HP36.1); have hp_ : Kd.S (Kd.slice 4 Kd.bool) 58 w37 w0.heap.size (fun k_ => (P0_ k_ ∨ w.heap.size ≤ k_)) (.slice (some ad798) x0_2.length co4) y807 := (by rw [Ny807.out]; exact hbk36 hg (fun k_ e_ => by injection e_ with e_; subst e_; exact ge36_0.1 _ rfl) (Kd.M_row hz_)); have hm_ := Kd.R_mono hz_ hok36; clear HP36 hbk36; have n0_ := Aside0.mk (hp_); have n1_ := Aside0.mk (Kd.R_over' (v := (.slice (some ⟨go31, 0, none⟩) (rd_L8 y802 (rd t789 x7_2)).length c804_0)) (qR HO_4.out) (Kd.R_typed HL804_0.out) (by decide) hg); have n2_ := Aside0.mk ((by rw [hw]; exact below_set (HB.out) GB31.out : Below w0.heap.size w0 w37)); have n3_ := Aside0.mk (Kept.of_grown (S := (fun k_ => P0_ k_)) hg (by repeat (first | (with_reducible first | exact HK.out | apply Kept.alloc | apply Kept.drewN | apply Kept.drew) | exact HK.out)) (fun k_ e_ => (HL804_0.out.1 k_ e_).1)); have n4_ := Aside0.mk (hm_); have n5_ := Aside0.mk ((Kd.R_reads' hm_).2.1); clear HO_0; clear HO_4; clear HB; clear HK; clear HL804_0; have HO_0 := n0_; have HO_4 := n1_; have HB := n2_; have HK := n3_; have HL808 := n4_; have HC806 := n5_; clear n0_ n1_ n2_ n3_ n4_ n5_; clear hg hw hp_ hz_ hm_ hok36))
              (try simp only [← hl0_2]);go_roundg k2
              case measure => have := HK1.out; have := HK2.out; omega
              case rel => exact ⟨(y807), (wrap64 (x7_2 + 1)), (by first | rfl | (simp; done) | (simp [*]; done)), H', ⟨by have := HK1.out; have := HK2.out; omega⟩, ⟨by (try simp only [hl0_1]); (try simp only [hl0_2]); (with_reducible repeat (first | apply Kd.S_alloc | apply Kd.S_drewN | apply Kd.S_drew)); exact HO_0.out⟩, ⟨by (try simp only [hl0_1]); (try simp only [hl0_2]); (with_reducible repeat (first | apply Kd.R_alloc | apply Kd.R_drewN | apply Kd.R_drew)); exact HO_4.out⟩, ⟨by repeat (first | (with_reducible first | exact HK.out | apply Kept.alloc | apply Kept.drewN | apply Kept.drew) | exact HK.out)⟩, ⟨qB HB.out⟩⟩
             ·rw [if_neg c30] at H
              exact absurd H (by simp)
            ·rw [if_neg c29] at H
             exact absurd H (by simp)
           ·rw [if_neg c27] at H
            exact absurd H (by simp)
          ·rw [if_neg c26] at H
           exact absurd H (by simp)
         ·rw [if_neg c25] at H
          exact absurd H (by simp)
        ·rw [if_neg c24] at H
         exact absurd H (by simp)
       ·rw [if_neg c23] at H
        exact absurd H (by simp)
      ·rw [if_neg c22] at H
       have c22b0 : decide (x7_2 < (t789.length : Int)) = false := decide_eq_false c22;clear c22;obtain rfl := Option.some.inj H;go_wp2
       first | go_end0 | ((try simp only [Exit.inBlock, Exit.then]); refine bodyPost_ret (results_none rfl _ _ _) rfl ?_)
       exact ⟨by first | rfl | (simp [errW_none, errW_some] <;> rfl) | (simp [*, errW_none, errW_some] <;> rfl), (by first | exact (qS HO_0.out) | (simp only [hl0_1, hl0_2]; exact (qS HO_0.out))), by repeat (first | (with_reducible first | exact HB.out | apply below_alloc | apply pw_below_drewN | apply below_drew1) | exact HB.out), by repeat (first | (with_reducible first | exact HK.out | apply Kept.alloc | apply Kept.drewN | apply Kept.drew) | exact HK.out)⟩
theorem arboristref09_Go.callsB (k : Nat) (P0_ : Nat → Prop) (u9000_ : Value) (l0 : List (List Bool)) (a1 : Int) (r : List (List Bool)) (w0 w : World) (hB : Below w0.heap.size w0 w) (ho0 : Kd.S (Kd.slice 4 Kd.bool) 58 w w0.heap.size P0_ u9000_ l0) (h : arboristref09_Go.f k l0 a1 = some r) :
  Calls Try.prog 83 #[u9000_, .int .i64 a1] w fun e w' => e = .returned (.tuple #[]) ∧ Kd.S (Kd.slice 4 Kd.bool) 58 w' w0.heap.size (fun k_ => (P0_ k_ ∨ w.heap.size ≤ k_)) u9000_ r ∧ Below w0.heap.size w0 w' ∧ Kept w w' (SB (Kd.slice 4 Kd.bool) 58 w w0.heap.size P0_) := by
 refine (arboristref09_Go.calls k (SB (Kd.slice 4 Kd.bool) 58 w w0.heap.size P0_) u9000_ l0 a1 r w0 w hB (SB_self ho0) h).mono ?_;rintro e w' ⟨h1, h2, h3, h4⟩
 exact ⟨h1, Kd.S_mono h2 (fun k_ hk_ => Or.imp_left (fun h_ => h_.1) hk_), h3, h4⟩
end Go.Proofs.Ytpmfdggbccbfaaa.Pr
namespace Go.Proofs.Ytpmfdggbccbfaaa.Pr
open Go.RowKit Go.Proofs.YtpmfdggbccbfaaaW.PrintWords Go.Proofs.YtpmfdggbccbfaaaW.PrintLast Go.Proofs.YtpmfdggbccbfaaaW.PrintMore
attribute [local go_sem] max2_int min2_int max_two min_two max_three min_three max_four min_four
set_option linter.unusedVariables false
set_option linter.unusedSimpArgs false
/-! ### arboristref10_Bags: function 74 -/
def arboristref10_Bags.l0 : Nat → List (List Bool) → List Int → List (List Int) → Int → Option ((List (List Int)))
 | 0, _, _, _, _ => none
 | k + 1, x0, x1, x5, x6 => if x6 < (x1.length : Int) then (if 0 ≤ x6 then ((arboristref08_Neighbors.f k x0 (rd x1 x6)).bind fun t816 => ((arboristref01_Unite.f k t816 (([rd x1 x6] : List Int))).bind fun t823 => (if x5.length < 5864062014805 then ((arboristref09_Go.f k x0 (rd x1 x6)).bind fun t830 => (arboristref10_Bags.l0 k t830 x1 (x5 ++ [t823]) (wrap64 (x6 + 1)))) else (none)))) else (none)) else (some x5)
def arboristref10_Bags.f (k : Nat) (l0 : List (List Bool)) (l1 : List Int) : Option ((List (List Int))) := (arboristref09_Copy.f k l0).bind fun t809 => (arboristref10_Bags.l0 k t809 l1 (([] : List (List Int))) 0)
def arboristref10_Bags.T6 : Bool × List (List Nat × List Nat) := (true, [([], []), ([], []), ([], []), ([], []), ([2, 3], [2, 3]), ([4], [4]), ([1, 5], [1, 5]), ([], []), ([], []), ([7, 8], [7, 8]), ([9], [9]), ([10], [10]), ([6, 11, 6], [6, 11]), ([12], [12]), ([0, 13, 12], [0, 13]), ([14, 14, 0, 1, 2, 3, 4, 5, 6, 7, 8, 9, 10, 11, 12, 13, 14], [0, 14])])
def arboristref10_Bags.B6 : List Nat := [0, 0, 0, 0, 12, 28, 62, 0, 0, 384, 896, 1920, 4094, 8190, 16383, 32767]
theorem arboristref10_Bags.tab6 : rtab .any (opsOf Try.f74 6) = arboristref10_Bags.T6 := by kernel_rfl
theorem arboristref10_Bags.bits6 : waitsOk arboristref10_Bags.T6.2 arboristref10_Bags.B6 = true := by kernel_rfl
set_option maxHeartbeats 8000000 in
set_option maxRecDepth 100000 in
theorem arboristref10_Bags.calls (k : Nat) (A0 : Option Addr) (c0 : Nat) (l0 : List (List Bool)) (A1 : Option Addr) (c1 : Nat) (l1 : List Int) (r : List (List Int)) (w : World) (hr0 : Kd.C (Kd.slice 4 Kd.bool) w A0 l0.length l0) (hc0 : l0.length ≤ c0) (hr1 : Kd.C (Kd.int .i64) w A1 l1.length l1) (hc1 : l1.length ≤ c1) (h : arboristref10_Bags.f k l0 l1 = some r) :
  Calls Try.prog 74 #[.slice A0 l0.length c0, .slice A1 l1.length c1] w fun e w' => ∃ v0_ : Value, e = .returned (v0_) ∧ Kd.S (Kd.slice 3 (Kd.int .i64)) 23 w' w.heap.size (fun _ => True) v0_ r ∧ Below w.heap.size w w' := by
 have HR0 := Aside0.mk hr0;have HC0 := Aside0.mk hc0;clear hr0 hc0;have HR1 := Aside0.mk hr1;have HC1 := Aside0.mk hc1;clear hr1 hc1;have HB := Aside0.mk (Below.refl w.heap.size w);have H : ((arboristref09_Copy.f k l0).bind fun t809 => (arboristref10_Bags.l0 k t809 l1 (([] : List (List Int))) 0)) = some r := h;clear h;replace H := Option.bind_eq_some_iff.mp H;obtain ⟨t809, A30, H⟩ := H;(try dsimp only at H);have A3 := Aside0.mk A30;clear A30;obtain ⟨y812, hy812⟩ : ∃ y_ : List (List Int), y_ = (([] : List (List Int))) := ⟨_, rfl⟩;replace H : (arboristref10_Bags.l0 k t809 l1 y812 0) = some r := by first | (rw [hy812]; with_reducible exact H) | (have H2_ := (Option.bind_some _ _).symm.trans H; rw [hy812]; with_reducible exact H2_) | (have H2_ := (Option.bind_some _ _).symm.trans H; with_reducible exact H2_) | with_reducible exact H | (rw [hy812]; exact H) | exact H
 have Ny812 := Aside0.mk hy812;clear hy812;have H' := Aside0.mk H;clear H;go_enter Try.func74, Try.ntmps74
 go_wp2_with (first | ((with_reducible refine gate_callee (f := 81) rfl ?_); refine goesL_ (some 8) rfl rfl Try.func81 (by kernel_rfl) rfl #[.slice A0 l0.length c0] rfl qM ?_; (with_reducible refine (arboristref09_Copy.calls k _ _ l0 t809 _ ?side1 ?side2 A3.out).mono ?_); (case side1 => repeat (first | exact HR0.out | (with_reducible refine Kd.C_alloc ?_ _) | (with_reducible refine Kd.C_drewN ?_ _) | (with_reducible refine Kd.C_drew ?_))); (case side2 => exact HC0.out); rintro e w4 ⟨v810, rfl, ho0, hb⟩; refine ⟨_, rfl, ?_⟩; have n0_ := Aside0.mk (Kd.S_lower ho0 (below_size (qB HB.out))); have n1_ := Aside0.mk (below_step (qB HB.out) hb); clear HB; have HO811 := n0_; have HB := n1_; clear n0_ n1_; (try clear hb); (try clear hb2); (try clear hk); (try clear hi); (try clear ho0)) | ((with_reducible refine gate_dst (N := 9) rfl ?_); refine Kd.S_lit (Kd.slice 3 (Kd.int .i64)) _ 23 ?hg (N := 9) ?hd (xs := ([] : List (List Int))) (inner := []) (ok := fun _ => True) (okp := fun _ => True) ?hr ?hp (fun _ hk => hk) trivial (Below.refl _ _) (Nat.le_refl _) (by simp) ?_; (case hd => rfl); (case hg => rfl); (case hr => first | (go_simp; done) | (go_simp; rfl)); (case hp => exact (Reps.none _ _)); intro v813 w5 ho6 hb hg_ hnew_; clear hg_ hnew_; (first | rw [← Ny812.out] at ho6 | (simp only [Int.reduceToNat] at ho6; rw [← Ny812.out] at ho6)); have n0_ := Aside0.mk (Kd.S_below (qS HO811.out) hb); have n1_ := Aside0.mk (Kd.S_lower ho6 (below_size (qB HB.out))); have n2_ := Aside0.mk (below_step (qB HB.out) hb); clear HO811; clear HB; have HO811 := n0_; have HO814 := n1_; have HB := n2_; clear n0_ n1_ n2_; clear hb ho6))
 go_loopg [5, 6] k (fun kq v5 v6 w' => ∃ (x0_1 : List (List Bool)) (x5_1 : List (List Int)) (x6_1 : Int), v6 = .int .i64 x6_1 ∧ Aside0 (arboristref10_Bags.l0 kq x0_1 l1 x5_1 x6_1 = some r) ∧ Aside0 (kq ≤ k) ∧ Aside0 (Kd.S (Kd.slice 4 Kd.bool) 58 w' w.heap.size (fun _ => True) v810 x0_1) ∧ Aside0 (Kd.S (Kd.slice 3 (Kd.int .i64)) 23 w' w.heap.size (fun _ => True) v5 x5_1) ∧ Aside0 (Below w.heap.size w w'))
 case atStart => exact ⟨(t809), (y812), (0), (by first | rfl | (simp; done) | (simp [*]; done)), H', ⟨Nat.le_refl _⟩, ⟨qS HO811.out⟩, ⟨qS HO814.out⟩, ⟨qB HB.out⟩⟩
 case round =>
  clear H';try clear c1
  try clear p2
  obtain ⟨x0_1, x5_1, x6_1, rfl, HA, HK1, HO_0, HO_5, HB⟩ := hrel;cases gk with
  | zero => exact absurd HA.out (by simp [arboristref10_Bags.l0])
  | succ k1 =>
   have H := HA.out;clear HA;simp only [arboristref10_Bags.l0] at H
   by_cases c7 : x6_1 < (l1.length : Int)
   ·rw [if_pos c7] at H
    have c7b0 : decide (x6_1 < (l1.length : Int)) = true := decide_eq_true c7;clear c7;by_cases c8 : 0 ≤ x6_1
    ·rw [if_pos c8] at H
     have c8b0 : decide (0 ≤ x6_1) = true := decide_eq_true c8;clear c8;replace H := Option.bind_eq_some_iff.mp H;obtain ⟨t816, A90, H⟩ := H;(try dsimp only at H);have A9 := Aside0.mk A90;clear A90;obtain ⟨y820, hy820⟩ : ∃ y_ : List Int, y_ = (([rd l1 x6_1] : List Int)) := ⟨_, rfl⟩;replace H : ((arboristref01_Unite.f k1 t816 y820).bind fun t823 => (if x5_1.length < 5864062014805 then ((arboristref09_Go.f k1 x0_1 (rd l1 x6_1)).bind fun t830 => (arboristref10_Bags.l0 k1 t830 l1 (x5_1 ++ [t823]) (wrap64 (x6_1 + 1)))) else (none))) = some r := by first | (rw [hy820]; with_reducible exact H) | (have H2_ := (Option.bind_some _ _).symm.trans H; rw [hy820]; with_reducible exact H2_) | (have H2_ := (Option.bind_some _ _).symm.trans H; with_reducible exact H2_) | with_reducible exact H | (rw [hy820]; exact H) | exact H
     have Ny820 := Aside0.mk hy820;clear hy820;replace H := Option.bind_eq_some_iff.mp H;obtain ⟨t823, A100, H⟩ := H;(try dsimp only at H);have A10 := Aside0.mk A100;clear A100;by_cases c11 : x5_1.length < 5864062014805
     ·rw [if_pos c11] at H
      have LMc11 := Aside0.mk c11;clear c11;obtain ⟨y826, hy826⟩ : ∃ y_ : List (List Int), y_ = (x5_1 ++ [t823]) := ⟨_, rfl⟩;replace H : ((arboristref09_Go.f k1 x0_1 (rd l1 x6_1)).bind fun t830 => (arboristref10_Bags.l0 k1 t830 l1 y826 (wrap64 (x6_1 + 1)))) = some r := by first | (rw [hy826]; with_reducible exact H) | (have H2_ := (Option.bind_some _ _).symm.trans H; rw [hy826]; with_reducible exact H2_) | (have H2_ := (Option.bind_some _ _).symm.trans H; with_reducible exact H2_) | with_reducible exact H | (rw [hy826]; exact H) | exact H
      have Ny826 := Aside0.mk hy826;clear hy826;replace H := Option.bind_eq_some_iff.mp H;obtain ⟨t830, A120, H⟩ := H;(try dsimp only at H);have A12 := Aside0.mk A120;clear A120;have H' := Aside0.mk H;clear H;obtain ⟨Ao13, co13, eo13⟩ := Kd.S_slice HO_0.out;subst eo13;obtain ⟨Ao14, co14, eo14⟩ := Kd.S_slice HO_5.out;subst eo14;try go_wp2
      replace HO_0 := Aside0.mk (Kd.S_drew HO_0.out);replace HO_5 := Aside0.mk (Kd.S_drew HO_5.out);replace HB := Aside0.mk (below_drew1 HB.out);have p815 : 0 ≤ (x6_1 : Int) := of_decide_eq_true qA;have q815 : x6_1 < (l1.length : Int) := of_decide_eq_true qA;obtain ⟨ad815, e815, hx815_0⟩ := Kd.at_int HR1.out x6_1 p815 q815;have hw815_0 := hx815_0;cases e815
      replace hx815_0 := (HB.out.cell (World.block_lt_of_cell? w _ hx815_0)).trans hx815_0;replace p815 := eq_true p815;replace q815 := eq_true q815;have p819 : 0 ≤ (x6_1 : Int) := of_decide_eq_true qA;have q819 : x6_1 < (l1.length : Int) := of_decide_eq_true qA;obtain ⟨ad819, e819, hx819_0⟩ := Kd.at_int HR1.out x6_1 p819 q819;have hw819_0 := hx819_0;obtain rfl : ad815 = ad819 := (by injection e819);replace hx819_0 := (HB.out.cell (World.block_lt_of_cell? w _ hx819_0)).trans hx819_0;replace p819 := eq_true p819;replace q819 := eq_true q819;refine start_ (n := 16) (S := fun w' => w'.cell? (ad815.add (x6_1).toNat) = some (.int .i64 (rd l1 x6_1)) ∧ w'.cell? (ad815.add (x6_1).toNat) = some (.int .i64 (rd l1 x6_1))) (ds := []) (bs 16 0) (by kernel_rfl) rfl rfl ⟨((HB.out.cell (World.block_lt_of_cell? w _ hw815_0)).trans hw815_0), ((HB.out.cell (World.block_lt_of_cell? w _ hw819_0)).trans hw819_0)⟩ (fun hHeld => ?_); refine with_tabW arboristref10_Bags.tab6 arboristref10_Bags.bits6 (fun HT_ HW_ => ?_)
      generalize wr.drew = w15 at HO_0 HO_5 HB hx815_0 hx819_0 hHeld ⊢
      refine qP 0 (some 16) (bs 16 1) HT_.out ?_;refine qP 1 (some 17) (bs 16 3) HT_.out ?_;refine qP 2 (some 18) (bs 16 7) HT_.out ?_;refine qP 3 (some 19) (bs 16 15) HT_.out ?_;refine qP 4 (some 20) (bs 16 31) HT_.out ?_;refine qP 7 (some 23) (bs 16 159) HT_.out ?_;refine qP 8 (some 24) (bs 16 415) HT_.out ?_;refine qP 9 (some 25) (bs 16 927) HT_.out ?_;refine take_ (i := 5) (N := some 21) (v := ?_) (a' := ?_) (bs 16 959) rfl rfl (take_ofW HT_.out HW_.out (by kernel_rfl)) (fun _ _ _ h => h) (Or.inl ⟨by rfl, ?_⟩) hHeld ?_ ?_;rotate_left
      ·rintro w' ⟨s0, s1⟩
       go_simp
       with_reducible rfl
      rotate_left; (simp only [Act.put, List.setIfInBounds_toArray, List.set_cons_zero, List.set_cons_succ, i64_w, i32_w]; rfl)
      refine take_ (i := 10) (N := some 26) (v := ?_) (a' := ?_) (bs 16 1983) rfl rfl (take_ofW HT_.out HW_.out (by kernel_rfl)) (fun _ _ _ h => h) (Or.inl ⟨by rfl, ?_⟩) hHeld ?_ ?_;rotate_left
      ·rintro w' ⟨s0, s1⟩
       go_simp
       with_reducible rfl
      rotate_left; (simp only [Act.put, List.setIfInBounds_toArray, List.set_cons_zero, List.set_cons_succ, i64_w, i32_w]; rfl)
      refine join_ (σ := Value × Value) 4 (bs 16 4095) (fun s_ => [(22, s_.1), (27, s_.2)]) (fun s_ w' => (w'.cell? (ad815.add (x6_1).toNat) = some (.int .i64 (rd l1 x6_1)) ∧ w'.cell? (ad815.add (x6_1).toNat) = some (.int .i64 (rd l1 x6_1))) ∧ (Kd.R (Kd.int .i64) 3 w' w.heap.size (fun k_ => some k_ ≠ (s_.2 : Value).ownBlock) s_.1 t816) ∧ (Kd.R (Kd.int .i64) 3 w' w.heap.size (fun k_ => some k_ ≠ (s_.1 : Value).ownBlock) s_.2 y820) ∧ (Kd.S (Kd.slice 4 Kd.bool) 58 w' w.heap.size (fun _ => True) (.slice Ao13 x0_1.length co13) x0_1) ∧ (Kd.S (Kd.slice 3 (Kd.int .i64)) 23 w' w.heap.size (fun k_ => some k_ ≠ (s_.1 : Value).ownBlock ∧ some k_ ≠ (s_.2 : Value).ownBlock) (.slice Ao14 x5_1.length co14) x5_1) ∧ (Below w.heap.size w w')) ?_ ?_;rotate_left
      ·intro hCont
       refine two_ (i := 6) (j := 11) (Ni := some 22) (Nj := some 27) (bs 16 2047) (bs 16 4031) rfl rfl rfl rfl (two_of HT_.out (by kernel_rfl)) (by decide) (by decide) (fun K hK => ?_) (fun K hK => ?_)
       ·skip
        refine goes_ Try.func82 (by kernel_rfl) rfl #[.slice Ao13 x0_1.length co13, .int .i64 (rd l1 x6_1)] (by rfl) rfl rfl qM ?_;with_reducible refine (arboristref08_Neighbors.calls k1 _ _ x0_1 (rd l1 x6_1) t816 _ ?side1 ?side2 A9.out).mono ?_
        (case side1 => exact qC (Kd.S_reads' HO_0.out).2.2);(case side2 => exact (Kd.S_reads' HO_0.out).2.1);rintro e w16 ⟨v817, rfl, ho0, hb⟩
        refine ⟨_, rfl, ?_⟩;have HO818 := Aside0.mk (Kd.R_lower ho0 (below_size (qB HB.out)));replace HO_0 := Aside0.mk (Kd.S_below (qS HO_0.out) hb);replace HO_5 := Aside0.mk (Kd.S_elder' (qS HO_5.out) (Kd.R_base ho0) hb);replace HB := Aside0.mk (below_step (qB HB.out) hb);(try clear hb);(try clear hb2);(try clear hk);(try clear hi);(try clear ho0);refine hK.out _ _ ⟨((HB.out.cell (World.block_lt_of_cell? w _ hw815_0)).trans hw815_0), ((HB.out.cell (World.block_lt_of_cell? w _ hw819_0)).trans hw819_0)⟩ (fun hHeld => ?_);clear hK K;refine norm_ (a' := ?_) ?_ ?_;rotate_left
        ·show Act.put _ (some 22) _ = _
         simp only [Act.put, List.setIfInBounds_toArray, List.set_cons_zero, List.set_cons_succ, i64_w, i32_w]
         rfl
        refine one_ (i := 11) (N := some 27) (bs 16 4095) rfl rfl (one_of HT_.out (by kernel_rfl)) (by decide) (fun K hK => ?_);refine Kd.R_lit_step (Kd.int .i64) _ 3 ?hg (N := 27) ?hd (xs := ([rd l1 x6_1] : List Int)) (inner := [.int .i64 (rd l1 x6_1)]) (ok := fun _ => True) (okp := fun _ => True) ?hr ?hp (fun _ hk => hk) trivial (Below.refl _ _) (Nat.le_refl _) (by simp) ?_; (case hd => rfl); (case hg => rfl); (case hr => first | (go_simp; done) | (go_simp; rfl)); (case hp => exact (Reps.one (show Kd.M (Kd.int .i64) _ _ _ (rd l1 x6_1) [.int .i64 (rd l1 x6_1)] from rfl) (Reps.none _ _)))
        intro v821 w17 ho18 hb hg_ hnew_
        clear hg_ hnew_;(first | rw [← Ny820.out] at ho18 | (simp only [Int.reduceToNat] at ho18; rw [← Ny820.out] at ho18));have HO822 := Aside0.mk (Kd.R_lower (Kd.R_new' ho18 (Kd.R_lt (qR HO818.out))) (below_size (qB HB.out)));replace HO_0 := Aside0.mk (Kd.S_below (qS HO_0.out) hb);replace HO_5 := Aside0.mk (Kd.S_elder' (qS HO_5.out) (Kd.R_base ho18) hb);replace HO818 := Aside0.mk (Kd.R_elder' (qR HO818.out) (Kd.R_base ho18) hb);replace HB := Aside0.mk (below_step (qB HB.out) hb);clear hb ho18;refine hK.out _ _ ⟨((HB.out.cell (World.block_lt_of_cell? w _ hw815_0)).trans hw815_0), ((HB.out.cell (World.block_lt_of_cell? w _ hw819_0)).trans hw819_0)⟩ (fun hHeld => ?_);clear hK K;refine norm_ (a' := ?_) ?_ ?_;rotate_left
        ·show Act.put _ (some 27) _ = _
         simp only [Act.put, List.setIfInBounds_toArray, List.set_cons_zero, List.set_cons_succ, i64_w, i32_w]
         rfl
        exact norm_ (by simp only [putAll, Act.put, List.setIfInBounds_toArray, List.set_cons_zero, List.set_cons_succ]) (hCont (v817, v821) _ ⟨hHeld, (by (with_reducible repeat (first | apply Kd.R_alloc | apply Kd.R_drewN | apply Kd.R_drew)); exact Kd.R_mono HO818.out (fun _ hk => hk.2)), (by (with_reducible repeat (first | apply Kd.R_alloc | apply Kd.R_drewN | apply Kd.R_drew)); exact Kd.R_mono HO822.out (fun _ hk => hk.2)), (qS HO_0.out), (by (with_reducible repeat (first | apply Kd.S_alloc | apply Kd.S_drewN | apply Kd.S_drew)); exact Kd.S_mono HO_5.out (fun _ hk => ⟨hk.1.2, hk.2⟩)), (qB HB.out)⟩)
       ·skip
        refine Kd.R_lit_step (Kd.int .i64) _ 3 ?hg (N := 27) ?hd (xs := ([rd l1 x6_1] : List Int)) (inner := [.int .i64 (rd l1 x6_1)]) (ok := fun _ => True) (okp := fun _ => True) ?hr ?hp (fun _ hk => hk) trivial (Below.refl _ _) (Nat.le_refl _) (by simp) ?_; (case hd => rfl); (case hg => rfl); (case hr => first | (go_simp; done) | (go_simp; rfl)); (case hp => exact (Reps.one (show Kd.M (Kd.int .i64) _ _ _ (rd l1 x6_1) [.int .i64 (rd l1 x6_1)] from rfl) (Reps.none _ _)))
        intro v821 w16 ho17 hb hg_ hnew_
        clear hg_ hnew_;(first | rw [← Ny820.out] at ho17 | (simp only [Int.reduceToNat] at ho17; rw [← Ny820.out] at ho17));have HO822 := Aside0.mk (Kd.R_lower ho17 (below_size (qB HB.out)));replace HO_0 := Aside0.mk (Kd.S_below (qS HO_0.out) hb);replace HO_5 := Aside0.mk (Kd.S_elder' (qS HO_5.out) (Kd.R_base ho17) hb);replace HB := Aside0.mk (below_step (qB HB.out) hb);clear hb ho17;refine hK.out _ _ ⟨((HB.out.cell (World.block_lt_of_cell? w _ hw815_0)).trans hw815_0), ((HB.out.cell (World.block_lt_of_cell? w _ hw819_0)).trans hw819_0)⟩ (fun hHeld => ?_);clear hK K;refine norm_ (a' := ?_) ?_ ?_;rotate_left
        ·show Act.put _ (some 27) _ = _
         simp only [Act.put, List.setIfInBounds_toArray, List.set_cons_zero, List.set_cons_succ, i64_w, i32_w]
         rfl
        refine one_ (i := 6) (N := some 22) (bs 16 4095) rfl rfl (one_of HT_.out (by kernel_rfl)) (by decide) (fun K hK => ?_);refine goes_ Try.func82 (by kernel_rfl) rfl #[.slice Ao13 x0_1.length co13, .int .i64 (rd l1 x6_1)] (by rfl) rfl rfl qM ?_;with_reducible refine (arboristref08_Neighbors.calls k1 _ _ x0_1 (rd l1 x6_1) t816 _ ?side1 ?side2 A9.out).mono ?_
        (case side1 => exact qC (Kd.S_reads' HO_0.out).2.2);(case side2 => exact (Kd.S_reads' HO_0.out).2.1);rintro e w18 ⟨v817, rfl, ho0, hb⟩
        refine ⟨_, rfl, ?_⟩;have HO818 := Aside0.mk (Kd.R_lower (Kd.R_new' ho0 (Kd.R_lt (qR HO822.out))) (below_size (qB HB.out)));replace HO_0 := Aside0.mk (Kd.S_below (qS HO_0.out) hb);replace HO_5 := Aside0.mk (Kd.S_elder' (qS HO_5.out) (Kd.R_base ho0) hb);replace HO822 := Aside0.mk (Kd.R_elder' (qR HO822.out) (Kd.R_base ho0) hb);replace HB := Aside0.mk (below_step (qB HB.out) hb);(try clear hb);(try clear hb2);(try clear hk);(try clear hi);(try clear ho0);refine hK.out _ _ ⟨((HB.out.cell (World.block_lt_of_cell? w _ hw815_0)).trans hw815_0), ((HB.out.cell (World.block_lt_of_cell? w _ hw819_0)).trans hw819_0)⟩ (fun hHeld => ?_);clear hK K;refine norm_ (a' := ?_) ?_ ?_;rotate_left
        ·show Act.put _ (some 22) _ = _
         simp only [Act.put, List.setIfInBounds_toArray, List.set_cons_zero, List.set_cons_succ, i64_w, i32_w]
         rfl
        exact norm_ (by simp only [putAll, Act.put, List.setIfInBounds_toArray, List.set_cons_zero, List.set_cons_succ]) (hCont (v817, v821) _ ⟨hHeld, (by (with_reducible repeat (first | apply Kd.R_alloc | apply Kd.R_drewN | apply Kd.R_drew)); exact Kd.R_mono HO818.out (fun _ hk => hk.2)), (by (with_reducible repeat (first | apply Kd.R_alloc | apply Kd.R_drewN | apply Kd.R_drew)); exact Kd.R_mono HO822.out (fun _ hk => hk.2)), (qS HO_0.out), (by (with_reducible repeat (first | apply Kd.S_alloc | apply Kd.S_drewN | apply Kd.S_drew)); exact Kd.S_mono HO_5.out (fun _ hk => ⟨hk.2, hk.1.2⟩)), (qB HB.out)⟩)
      rintro ⟨v817, v821⟩ w19 ⟨hS_, h0_, h1_, h2_, h3_, h4_⟩
      have n0_ : Aside0 (Kd.R (Kd.int .i64) 3 w19 w.heap.size (fun k_ => some k_ ≠ (v821 : Value).ownBlock) v817 t816) := ⟨h0_⟩;have n1_ : Aside0 (Kd.R (Kd.int .i64) 3 w19 w.heap.size (fun k_ => some k_ ≠ (v817 : Value).ownBlock) v821 y820) := ⟨h1_⟩;have n2_ : Aside0 (Kd.S (Kd.slice 4 Kd.bool) 58 w19 w.heap.size (fun _ => True) (.slice Ao13 x0_1.length co13) x0_1) := ⟨h2_⟩;have n3_ : Aside0 (Kd.S (Kd.slice 3 (Kd.int .i64)) 23 w19 w.heap.size (fun k_ => some k_ ≠ (v817 : Value).ownBlock ∧ some k_ ≠ (v821 : Value).ownBlock) (.slice Ao14 x5_1.length co14) x5_1) := ⟨h3_⟩;have n4_ : Aside0 (Below w.heap.size w w19) := ⟨h4_⟩;clear HO_0;clear HO_5;clear HB;clear h0_ h1_ h2_ h3_ h4_;have HO818 := n0_;have HO822 := n1_;have HO_0 := n2_;have HO_5 := n3_;have HB := n4_;clear n0_ n1_ n2_ n3_ n4_;have hHeld : w19.cell? (ad815.add (x6_1).toNat) = some (.int .i64 (rd l1 x6_1)) ∧ w19.cell? (ad815.add (x6_1).toNat) = some (.int .i64 (rd l1 x6_1)) := hS_;obtain ⟨Ao20, co20, eo20⟩ := Kd.R_slice HO818.out;(first | subst eo20 | (injection eo20 with f1_ f2_ f3_; have f4_ := f1_.symm; have f5_ := f3_.symm; clear f1_ f2_ f3_; subst f4_; subst f5_));obtain ⟨Ao21, co21, eo21⟩ := Kd.R_slice HO822.out;(first | subst eo21 | (injection eo21 with f1_ f2_ f3_; have f4_ := f1_.symm; have f5_ := f3_.symm; clear f1_ f2_ f3_; subst f4_; subst f5_));refine norm_ (a' := ?_) ?_ ?_;rotate_left
      ·simp only [putAll, Act.put, List.setIfInBounds_toArray, List.set_cons_zero, List.set_cons_succ]
       rfl
      refine one_ (i := 12) (N := some 28) (bs 16 8191) rfl rfl (one_of HT_.out (by kernel_rfl)) (by decide) (fun K hK => ?_);refine goes_ Try.func51 (by kernel_rfl) rfl #[.slice Ao20 t816.length co20, .slice Ao21 y820.length co21] (by rfl) rfl rfl qM ?_;with_reducible refine (arboristref01_Unite.calls k1 _ _ t816 _ _ y820 t823 _ ?side1 ?side2 ?side3 ?side4 A10.out).mono ?_
      (case side1 => exact qC (Kd.R_reads' HO818.out).2.2);(case side2 => exact (Kd.R_reads' HO818.out).2.1);(case side3 => exact qC (Kd.R_reads' HO822.out).2.2);(case side4 => exact (Kd.R_reads' HO822.out).2.1);rintro e w22 ⟨v824, rfl, ho0, hb⟩
      refine ⟨_, rfl, ?_⟩;have HO825 := Aside0.mk (Kd.R_lower (Kd.R_new' (Kd.R_new' ho0 (Kd.R_lt (qR HO818.out))) (Kd.R_lt (qR HO822.out))) (below_size (qB HB.out)));replace HO_0 := Aside0.mk (Kd.S_below (qS HO_0.out) hb);replace HO_5 := Aside0.mk (Kd.S_elder' (qS HO_5.out) (Kd.R_base ho0) hb);replace HO818 := Aside0.mk (Kd.R_elder' (qR HO818.out) (Kd.R_base ho0) hb);replace HO822 := Aside0.mk (Kd.R_elder' (qR HO822.out) (Kd.R_base ho0) hb);replace HB := Aside0.mk (below_step (qB HB.out) hb);(try clear hb);(try clear hb2);(try clear hk);(try clear hi);(try clear ho0);obtain ⟨Ao24, co24, eo24⟩ := Kd.R_slice HO825.out;(first | subst eo24 | (injection eo24 with f1_ f2_ f3_; have f4_ := f1_.symm; have f5_ := f3_.symm; clear f1_ f2_ f3_; subst f4_; subst f5_));refine hK.out _ _ ⟨((HB.out.cell (World.block_lt_of_cell? w _ hw815_0)).trans hw815_0), ((HB.out.cell (World.block_lt_of_cell? w _ hw819_0)).trans hw819_0)⟩ (fun hHeld => ?_);clear hK K;refine norm_ (a' := ?_) ?_ ?_;rotate_left
      ·show Act.put _ (some 28) _ = _
       simp only [Act.put, List.setIfInBounds_toArray, List.set_cons_zero, List.set_cons_succ, i64_w, i32_w]
       rfl
      refine one_ (i := 13) (N := some 29) (bs 16 16383) rfl rfl (one_of HT_.out (by kernel_rfl)) (by decide) (fun K hK => ?_);refine value_ (w1 := ?_) (v := ?_) (by rfl) rfl ?_ ?_;rotate_left 2
      ·go_simp
       constructor
       ·rfl
       ·rfl
      refine hK.out _ _ ⟨(World.cell?_alloc_lt _ _ _ (World.block_lt_of_cell? _ _ (((HB.out.cell (World.block_lt_of_cell? w _ hw815_0)).trans hw815_0)))).trans (((HB.out.cell (World.block_lt_of_cell? w _ hw815_0)).trans hw815_0)), (World.cell?_alloc_lt _ _ _ (World.block_lt_of_cell? _ _ (((HB.out.cell (World.block_lt_of_cell? w _ hw819_0)).trans hw819_0)))).trans (((HB.out.cell (World.block_lt_of_cell? w _ hw819_0)).trans hw819_0))⟩ (fun hHeld => ?_);clear hK K;refine norm_ (a' := ?_) ?_ ?_;rotate_left
      ·show Act.put _ (some 29) _ = _
       simp only [Act.put, List.setIfInBounds_toArray, List.set_cons_zero, List.set_cons_succ, i64_w, i32_w]
       rfl
      refine one_ (i := 14) (N := some 30) (bs 16 32767) rfl rfl (one_of HT_.out (by kernel_rfl)) (by decide) (fun K hK => ?_);refine Kd.S_append_step (Kd.slice 3 (Kd.int .i64)) (w0 := w) w.heap.size (by rfl) (.tmp 16) (.tmp 29) 22 23 (.slice none 0 0) 24 rfl Try.underlying22 info23 rfl (by decide) (by omega) (.slice Ao14 x5_1.length co14) x5_1 t823 [.slice Ao24 t823.length co24] (fun k_ => some k_ ≠ (.slice Ao20 t816.length co20 : Value).ownBlock ∧ some k_ ≠ (.slice Ao21 y820.length co21 : Value).ownBlock) (fun k_ => some k_ = (.slice Ao24 t823.length co24 : Value).ownBlock) rfl rfl ?aP (fun k_ hk_ => ((Kd.R_mono (ok' := fun k_ => ((fun k_ => some k_ ≠ (.slice Ao20 t816.length co20 : Value).ownBlock ∧ some k_ ≠ (.slice Ao21 y820.length co21 : Value).ownBlock)) k_ ∧ some k_ ≠ (.slice Ao14 x5_1.length co14 : Value).ownBlock) (Kd.R_apart' (HO825.out) (Kd.S_typed HO_5.out) (by decide)) (fun k_ hk => ⟨⟨hk.1.1.2, hk.1.2⟩, hk.2⟩))).1 k_ hk_.symm) ?aF ?aO ?aB ?aS ?aL ?_;(case aP => exact Kd.M_row (Kd.R_mono (Kd.R_tight rfl (Kd.R_mono (ok' := fun k_ => ((fun k_ => some k_ ≠ (.slice Ao20 t816.length co20 : Value).ownBlock ∧ some k_ ≠ (.slice Ao21 y820.length co21 : Value).ownBlock)) k_ ∧ some k_ ≠ (.slice Ao14 x5_1.length co14 : Value).ownBlock) (Kd.R_apart' (HO825.out) (Kd.S_typed HO_5.out) (by decide)) (fun k_ hk => ⟨⟨hk.1.1.2, hk.1.2⟩, hk.2⟩))) (fun _ h_ => h_)));(case aB => exact (qB HB.out));(case aF => exact (fun k_ hk => ⟨Kd.fresh' (Kd.R_lt (qR HO818.out)) k_ hk, Kd.fresh' (Kd.R_lt (qR HO822.out)) k_ hk⟩));(case aO => exact (by (with_reducible repeat (first | apply Kd.S_alloc | apply Kd.S_drewN | apply Kd.S_drew)); exact Kd.S_mono HO_5.out (fun k_ hk => ⟨⟨hk.1.1, hk.1.2⟩, fun e_ => hk.2 e_⟩)));(case aS => exact (below_size (qB HB.out)));(case aL => have := LMc11.out; omega);intro v827 w23 ho hb hg hat
      rw [← Ny826.out] at ho
      have n0_ := Aside0.mk (Kd.S_over' (qS HO_0.out) (Kd.S_typed (qS HO_5.out)) (by decide) hg);have n1_ := Aside0.mk (Kd.R_over' (qR HO818.out) (Kd.S_typed (qS HO_5.out)) (by decide) hg);have n2_ := Aside0.mk (Kd.R_over' (qR HO822.out) (Kd.S_typed (qS HO_5.out)) (by decide) hg);have n3_ := Aside0.mk (hb);have n4_ := Aside0.mk (ho);clear HO_0;clear HO818;clear HO822;clear HB;clear HO_5;clear HO825;have HO_0 := n0_;have HO818 := n1_;have HO822 := n2_;have HB := n3_;have HO828 := n4_;clear n0_ n1_ n2_ n3_ n4_;clear ho hb hg hat;refine hK.out _ _ ⟨((HB.out.cell (World.block_lt_of_cell? w _ hw815_0)).trans hw815_0), ((HB.out.cell (World.block_lt_of_cell? w _ hw819_0)).trans hw819_0)⟩ (fun hHeld => ?_);clear hK K;refine norm_ (a' := ?_) ?_ ?_;rotate_left
      ·show Act.put _ (some 30) _ = _
       simp only [Act.put, List.setIfInBounds_toArray, List.set_cons_zero, List.set_cons_succ, i64_w, i32_w]
       rfl
      refine qP 15 (some 5) (bs 16 65535) HT_.out ?_;refine done_ (done_of HT_.out (by kernel_rfl)) ?_;have p829 : 0 ≤ (x6_1 : Int) := of_decide_eq_true qA;have q829 : x6_1 < (l1.length : Int) := of_decide_eq_true qA;obtain ⟨ad829, e829, hx829_0⟩ := Kd.at_int HR1.out x6_1 p829 q829;obtain rfl : ad815 = ad829 := (by injection e829);replace hx829_0 := (HB.out.cell (World.block_lt_of_cell? w _ hx829_0)).trans hx829_0;replace p829 := eq_true p829;replace q829 := eq_true q829;try go_wp2_with (first | ((with_reducible refine gate_callee (f := 83) rfl ?_); refine goesL_ (some 36) rfl rfl Try.func83 (by kernel_rfl) rfl #[.slice Ao13 x0_1.length co13, .int .i64 (rd l1 x6_1)] rfl qM ?_; (with_reducible refine (arboristref09_Go.callsB k1 (fun k_ => True) (.slice Ao13 x0_1.length co13) x0_1 (rd l1 x6_1) t830 w _ ?side1 ?side2 A12.out).mono ?_); (case side1 => repeat (first | (with_reducible first | exact HB.out | apply below_alloc | apply pw_below_drewN | apply below_drew1) | exact HB.out)); (case side2 => exact HO_0.out); rintro e w25 ⟨rfl, hy0, hb, hkp⟩; refine ⟨_, rfl, ?_⟩; have n0_ := Aside0.mk (Kd.S_mono (ok' := fun k_ => True) hy0 (fun k_ hk_ => trivial)); have n1_ := Aside0.mk (Kd.R_mono (ok' := fun k_ => some k_ ≠ (.slice Ao21 y820.length co21 : Value).ownBlock) (Kd.R_keptB ((R_sbT (d' := (Kd.slice 4 Kd.bool)) (e' := 58) HO818.out (by decide))) hkp (fun k_ hk_ hs_ => (hk_.2) hs_)) (fun k_ hk_ => hk_.1.1.1)); have n2_ := Aside0.mk (Kd.R_mono (ok' := fun k_ => some k_ ≠ (.slice Ao20 t816.length co20 : Value).ownBlock) (Kd.R_keptB ((R_sbT (d' := (Kd.slice 4 Kd.bool)) (e' := 58) HO822.out (by decide))) hkp (fun k_ hk_ hs_ => (hk_.2) hs_)) (fun k_ hk_ => hk_.1.1.1)); have n3_ := Aside0.mk (Kd.S_mono (ok' := fun k_ => some k_ ≠ (.slice Ao20 t816.length co20 : Value).ownBlock ∧ some k_ ≠ (.slice Ao21 y820.length co21 : Value).ownBlock) (Kd.S_keptB ((S_sbT (d' := (Kd.slice 4 Kd.bool)) (e' := 58) HO828.out (by decide))) hkp (fun k_ hk_ hs_ => (hk_.2) hs_)) (fun k_ hk_ => ⟨hk_.1.1.1, hk_.1.1.2⟩)); have n4_ := Aside0.mk (hb); clear HO_0; clear HO818; clear HO822; clear HO828; clear HB; have HO_0 := n0_; have HO818 := n1_; have HO822 := n2_; have HO828 := n3_; have HB := n4_; clear n0_ n1_ n2_ n3_ n4_; (try clear hb); (try clear hkp); (try clear hy0)))
      go_roundg k1
      case measure => have := HK1.out; omega
      case rel => exact ⟨(t830), (y826), (wrap64 (x6_1 + 1)), (by first | rfl | (simp; done) | (simp [*]; done)), H', ⟨by have := HK1.out; omega⟩, ⟨qS HO_0.out⟩, ⟨by (with_reducible repeat (first | apply Kd.S_alloc | apply Kd.S_drewN | apply Kd.S_drew)); exact Kd.S_mono HO828.out (fun _ hk => trivial)⟩, ⟨qB HB.out⟩⟩
     ·rw [if_neg c11] at H
      exact absurd H (by simp)
    ·rw [if_neg c8] at H
     exact absurd H (by simp)
   ·rw [if_neg c7] at H
    have c7b0 : decide (x6_1 < (l1.length : Int)) = false := decide_eq_false c7;clear c7;obtain rfl := Option.some.inj H;go_wp2
    go_ret
    exact ⟨_, by first | rfl | (simp [errW_none, errW_some] <;> rfl) | (simp [*, errW_none, errW_some] <;> rfl), by (with_reducible repeat (first | apply Kd.S_alloc | apply Kd.S_drewN | apply Kd.S_drew)); exact HO_5.out, by repeat (first | (with_reducible first | exact HB.out | apply below_alloc | apply pw_below_drewN | apply below_drew1) | exact HB.out)⟩
end Go.Proofs.Ytpmfdggbccbfaaa.Pr
