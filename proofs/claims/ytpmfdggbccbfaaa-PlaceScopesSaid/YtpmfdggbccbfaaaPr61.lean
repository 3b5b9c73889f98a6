-- Printed by wip/tools/pp.py over the kit's print.py, several texts in one (wip/tools/mergepr.py); Lean checks it.
import Derived.Test.YtpmfdggbccbfaaaPr0
import Derived.Test.YtpmfdggbccbfaaaPr1
import Derived.Test.YtpmfdggbccbfaaaPr60
namespace Go.Proofs.Ytpmfdggbccbfaaa.Pr
open Go.RowKit Go.Proofs.YtpmfdggbccbfaaaW.PrintWords Go.Proofs.YtpmfdggbccbfaaaW.PrintLast Go.Proofs.YtpmfdggbccbfaaaW.PrintMore
attribute [local go_sem] max2_int min2_int max_two min_two max_three min_three max_four min_four
set_option linter.unusedVariables false
set_option linter.unusedSimpArgs false
/-! ### arboristref08_Empty: function 75 -/
def arboristref08_Empty.l0 : Nat → Int → List (List Bool) → Int → Option ((List (List Bool)))
 | 0, _, _, _ => none
 | k + 1, x0, x3, x4 => if x4 < x0 then (if 0 ≤ x0 then (if (x0 : Int).toNat ≤ 281474976710656 then (if x3.length < 5864062014805 then (arboristref08_Empty.l0 k x0 (x3 ++ [(List.replicate (x0 : Int).toNat false)]) (wrap64 (x4 + 1))) else (none)) else (none)) else (none)) else (some x3)
def arboristref08_Empty.f (k : Nat) (a0 : Int) : Option ((List (List Bool))) := arboristref08_Empty.l0 k a0 (([] : List (List Bool))) 0
set_option maxHeartbeats 8000000 in
set_option maxRecDepth 100000 in
theorem arboristref08_Empty.calls (k : Nat) (a0 : Int) (r : List (List Bool)) (w : World) (h : arboristref08_Empty.f k a0 = some r) :
  Calls Try.prog 75 #[.int .i64 a0] w fun e w' => ∃ v0_ : Value, e = .returned (v0_) ∧ Kd.S (Kd.slice 4 Kd.bool) 58 w' w.heap.size (fun _ => True) v0_ r ∧ Below w.heap.size w w' := by
 have HB := Aside0.mk (Below.refl w.heap.size w);have H : (arboristref08_Empty.l0 k a0 (([] : List (List Bool))) 0) = some r := h;clear h;obtain ⟨y859, hy859⟩ : ∃ y_ : List (List Bool), y_ = (([] : List (List Bool))) := ⟨_, rfl⟩;replace H : (arboristref08_Empty.l0 k a0 y859 0) = some r := by first | (rw [hy859]; with_reducible exact H) | (have H2_ := (Option.bind_some _ _).symm.trans H; rw [hy859]; with_reducible exact H2_) | (have H2_ := (Option.bind_some _ _).symm.trans H; with_reducible exact H2_) | with_reducible exact H | (rw [hy859]; exact H) | exact H
 have Ny859 := Aside0.mk hy859;clear hy859;have H' := Aside0.mk H;clear H;go_enter Try.func75, Try.ntmps75
 go_wp2_with (first | ((with_reducible refine gate_dst (N := 5) rfl ?_); refine Kd.S_lit (Kd.slice 4 Kd.bool) _ 58 ?hg (N := 5) ?hd (xs := ([] : List (List Bool))) (inner := []) (ok := fun _ => True) (okp := fun _ => True) ?hr ?hp (fun _ hk => hk) trivial (Below.refl _ _) (Nat.le_refl _) (by simp) ?_; (case hd => rfl); (case hg => rfl); (case hr => first | (go_simp; done) | (go_simp; rfl)); (case hp => exact (Reps.none _ _)); intro v860 w2 ho3 hb hg_ hnew_; clear hg_ hnew_; (first | rw [← Ny859.out] at ho3 | (simp only [Int.reduceToNat] at ho3; rw [← Ny859.out] at ho3)); have n0_ := Aside0.mk (Kd.S_lower ho3 (below_size (qB HB.out))); have n1_ := Aside0.mk (below_step (qB HB.out) hb); clear HB; have HO861 := n0_; have HB := n1_; clear n0_ n1_; clear hb ho3))
 go_loopg [3, 4] k (fun kq v3 v4 w' => ∃ (x3_1 : List (List Bool)) (x4_1 : Int), v4 = .int .i64 x4_1 ∧ Aside0 (arboristref08_Empty.l0 kq a0 x3_1 x4_1 = some r) ∧ Aside0 (kq ≤ k) ∧ Aside0 (Kd.S (Kd.slice 4 Kd.bool) 58 w' w.heap.size (fun _ => True) v3 x3_1) ∧ Aside0 (Below w.heap.size w w'))
 case atStart => exact ⟨(y859), (0), (by first | rfl | (simp; done) | (simp [*]; done)), H', ⟨Nat.le_refl _⟩, ⟨qS HO861.out⟩, ⟨qB HB.out⟩⟩
 case round =>
  clear H';try clear p2
  obtain ⟨x3_1, x4_1, rfl, HA, HK1, HO_3, HB⟩ := hrel;cases gk with
  | zero => exact absurd HA.out (by simp [arboristref08_Empty.l0])
  | succ k1 =>
   have H := HA.out;clear HA;simp only [arboristref08_Empty.l0] at H
   by_cases c4 : x4_1 < a0
   ·rw [if_pos c4] at H
    have c4b0 : decide (x4_1 < a0) = true := decide_eq_true c4;clear c4;by_cases c5 : 0 ≤ a0
    ·rw [if_pos c5] at H
     have c5b0 := eq_true c5;have c5b1 : decide (0 ≤ a0) = true := decide_eq_true c5;clear c5;by_cases c6 : (a0 : Int).toNat ≤ 281474976710656
     ·rw [if_pos c6] at H
      have c6b0 := eq_true c6;have c6b1 : decide ((a0 : Int).toNat ≤ 281474976710656) = true := decide_eq_true c6;clear c6;obtain ⟨y862, hy862⟩ : ∃ y_ : List Bool, y_ = (List.replicate (a0 : Int).toNat false) := ⟨_, rfl⟩;replace H : (if x3_1.length < 5864062014805 then (arboristref08_Empty.l0 k1 a0 (x3_1 ++ [y862]) (wrap64 (x4_1 + 1))) else (none)) = some r := by first | (rw [hy862]; with_reducible exact H) | (have H2_ := (Option.bind_some _ _).symm.trans H; rw [hy862]; with_reducible exact H2_) | (have H2_ := (Option.bind_some _ _).symm.trans H; with_reducible exact H2_) | with_reducible exact H | (rw [hy862]; exact H) | exact H
      have Ny862 := Aside0.mk hy862;clear hy862;by_cases c7 : x3_1.length < 5864062014805
      ·rw [if_pos c7] at H
       have LMc7 := Aside0.mk c7;clear c7;obtain ⟨y865, hy865⟩ : ∃ y_ : List (List Bool), y_ = (x3_1 ++ [y862]) := ⟨_, rfl⟩;replace H : (arboristref08_Empty.l0 k1 a0 y865 (wrap64 (x4_1 + 1))) = some r := by first | (rw [hy865]; with_reducible exact H) | (have H2_ := (Option.bind_some _ _).symm.trans H; rw [hy865]; with_reducible exact H2_) | (have H2_ := (Option.bind_some _ _).symm.trans H; with_reducible exact H2_) | with_reducible exact H | (rw [hy865]; exact H) | exact H
       have Ny865 := Aside0.mk hy865;clear hy865;have H' := Aside0.mk H;clear H;go_wp2_with (first | ((with_reducible refine gate_dst (N := 13) rfl ?_); refine Kd.R_make Kd.bool _ 4 rfl (N := 13) rfl 58 _ _ rfl a0 rfl rfl Try.underlying58 (.bool false) 1 info4 rfl (by decide) (by omega) false (ok := fun _ => True) (okp := fun _ => True) rfl (fun _ hk => hk) trivial (of_decide_eq_true qA) (Nat.le_trans (Nat.mul_le_mul_right _ (of_decide_eq_true qA : a0.toNat ≤ 281474976710656)) (by omega)) (Below.refl _ _) (Nat.le_refl _) ?_; intro v863 w8 ho9 hb hg_ hnew_; clear hg_ hnew_; (first | rw [← Ny862.out] at ho9 | (simp only [Int.reduceToNat] at ho9; rw [← Ny862.out] at ho9)); have n0_ := Aside0.mk (Kd.S_elder' (qS HO_3.out) (Kd.R_base ho9) hb); have n1_ := Aside0.mk (Kd.R_lower ho9 (below_size (qB HB.out))); have n2_ := Aside0.mk (below_step (qB HB.out) hb); clear HO_3; clear HB; have HO_3 := n0_; have HO864 := n1_; have HB := n2_; clear n0_ n1_ n2_; clear hb ho9; obtain ⟨Ao11, co11, eo11⟩ := Kd.R_slice HO864.out; subst eo11) | ((with_reducible refine gate_builtin (b := .append) (xs := #[.tmp 11, .tmp 14]) rfl ?_); at_builtin; refine Kd.S_append (Kd.slice 4 Kd.bool) (w0 := w) w.heap.size rfl (.tmp 11) (.tmp 14) 75 58 (.slice none 0 0) 24 rfl Try.underlying75 info58 rfl (by decide) (by omega) u3 x3_1 y862 [.slice Ao11 y862.length co11] (fun _ => True) (fun k_ => some k_ = (.slice Ao11 y862.length co11 : Value).ownBlock) rfl rfl ?aP (fun k_ hk_ => ((Kd.R_mono (ok' := fun k_ => ((fun _ => True)) k_ ∧ some k_ ≠ (u3 : Value).ownBlock) (Kd.R_apart' (HO864.out) (Kd.S_typed HO_3.out) (by decide)) (fun k_ hk => ⟨trivial, hk.2⟩))).1 k_ hk_.symm) ?aF ?aO ?aB ?aS ?aL ?_; (case aP => exact Kd.M_row (Kd.R_mono (Kd.R_tight rfl (Kd.R_mono (ok' := fun k_ => ((fun _ => True)) k_ ∧ some k_ ≠ (u3 : Value).ownBlock) (Kd.R_apart' (HO864.out) (Kd.S_typed HO_3.out) (by decide)) (fun k_ hk => ⟨trivial, hk.2⟩))) (fun _ h_ => h_))); (case aB => exact (qB HB.out)); (case aF => exact (fun _ _ => trivial)); (case aO => exact (by (with_reducible repeat (first | apply Kd.S_alloc | apply Kd.S_drewN | apply Kd.S_drew)); exact Kd.S_mono HO_3.out (fun k_ hk => ⟨trivial, fun e_ => hk.2 e_⟩))); (case aS => exact (below_size (qB HB.out))); (case aL => have := LMc7.out; omega); intro v866 w10 ho hb hg hat; rw [← Ny865.out] at ho; have n0_ := Aside0.mk (hb); have n1_ := Aside0.mk (ho); clear HB; clear HO_3; clear HO864; have HB := n0_; have HO867 := n1_; clear n0_ n1_; clear ho hb hg hat))
       go_roundg k1
       case measure => have := HK1.out; omega
       case rel => exact ⟨(y865), (wrap64 (x4_1 + 1)), (by first | rfl | (simp; done) | (simp [*]; done)), H', ⟨by have := HK1.out; omega⟩, ⟨qS HO867.out⟩, ⟨qB HB.out⟩⟩
      ·rw [if_neg c7] at H
       exact absurd H (by simp)
     ·rw [if_neg c6] at H
      exact absurd H (by simp)
    ·rw [if_neg c5] at H
     exact absurd H (by simp)
   ·rw [if_neg c4] at H
    have c4b0 : decide (x4_1 < a0) = false := decide_eq_false c4;clear c4;obtain rfl := Option.some.inj H;go_wp2
    go_ret
    exact ⟨_, by first | rfl | (simp [errW_none, errW_some] <;> rfl) | (simp [*, errW_none, errW_some] <;> rfl), by (with_reducible repeat (first | apply Kd.S_alloc | apply Kd.S_drewN | apply Kd.S_drew)); exact HO_3.out, by repeat (first | (with_reducible first | exact HB.out | apply below_alloc | apply pw_below_drewN | apply below_drew1) | exact HB.out)⟩
end Go.Proofs.Ytpmfdggbccbfaaa.Pr
namespace Go.Proofs.Ytpmfdggbccbfaaa.Pr
open Go.RowKit Go.Proofs.YtpmfdggbccbfaaaW.PrintWords Go.Proofs.YtpmfdggbccbfaaaW.PrintLast Go.Proofs.YtpmfdggbccbfaaaW.PrintMore
attribute [local go_sem] max2_int min2_int max_two min_two max_three min_three max_four min_four
set_option linter.unusedVariables false
set_option linter.unusedSimpArgs false
/-! ### arboristref08_join: function 76 -/
mutual
def arboristref08_join.l0 : Nat → List (List Bool) → List Int → Int → Option ((List (List Bool)))
 | 0, _, _, _ => none
 | k + 1, x0, x1, x4 => if x4 < (x1.length : Int) then (arboristref08_join.l1 k x0 x1 x4 0) else (some x0)
def arboristref08_join.l1 : Nat → List (List Bool) → List Int → Int → Int → Option ((List (List Bool)))
 | 0, _, _, _, _ => none
 | k + 1, x0, x1, x4, x5 => if x5 < (x1.length : Int) then (if x4 = x5 then (arboristref08_join.l1 k x0 x1 x4 (wrap64 (x5 + 1))) else (if 0 ≤ x4 then (if x4 < (x1.length : Int) then (if 0 ≤ (rd x1 x4) then (if (rd x1 x4) < (x0.length : Int) then (if 0 ≤ x5 then (if 0 ≤ (rd x1 x5) then (if (rd x1 x5) < ((rd_L8 x0 (rd x1 x4)).length : Int) then (arboristref08_join.l1 k (x0.set ((rd x1 x4) : Int).toNat ((rd_L8 x0 (rd x1 x4)).set ((rd x1 x5) : Int).toNat true)) x1 x4 (wrap64 (x5 + 1))) else (none)) else (none)) else (none)) else (none)) else (none)) else (none)) else (none))) else (arboristref08_join.l0 k x0 x1 (wrap64 (x4 + 1)))
end
def arboristref08_join.f (k : Nat) (l0 : List (List Bool)) (l1 : List Int) : Option ((List (List Bool))) := arboristref08_join.l0 k l0 l1 0
def arboristref08_join.T7 : Bool × List (List Nat × List Nat) := (true, [([], []), ([], []), ([], []), ([1, 2], [1, 2]), ([3], [3]), ([0, 4], [0, 4]), ([5], [5]), ([], []), ([], []), ([7, 8], [7, 8]), ([9], [9]), ([6, 10, 0, 1, 2, 3, 4, 5, 6, 7, 8, 9, 10], [6, 10]), ([11, 0, 1, 2, 3, 4, 5, 6, 7, 8, 9, 10], [11])])
def arboristref08_join.B7 : List Nat := [0, 0, 0, 6, 14, 31, 63, 0, 0, 384, 896, 2047, 4095]
theorem arboristref08_join.tab7 : rtab .any (opsOf Try.f76 7) = arboristref08_join.T7 := by kernel_rfl
theorem arboristref08_join.bits7 : waitsOk arboristref08_join.T7.2 arboristref08_join.B7 = true := by kernel_rfl
set_option maxHeartbeats 8000000 in
set_option maxRecDepth 100000 in
theorem arboristref08_join.calls (k : Nat) (P0_ : Nat → Prop) (u9000_ : Value) (l0 : List (List Bool)) (A1 : Option Addr) (c1 : Nat) (l1 : List Int) (r : List (List Bool)) (w0 w : World) (hB : Below w0.heap.size w0 w) (ho0 : Kd.S (Kd.slice 4 Kd.bool) 58 w w0.heap.size P0_ u9000_ l0) (hr1 : ∀ W_, Kept w W_ (fun k_ => P0_ k_) → Kd.C (Kd.int .i64) W_ A1 l1.length l1) (hc1 : l1.length ≤ c1) (h : arboristref08_join.f k l0 l1 = some r) :
  Calls Try.prog 76 #[u9000_, .slice A1 l1.length c1] w fun e w' => e = .returned (.tuple #[]) ∧ Kd.S (Kd.slice 4 Kd.bool) 58 w' w0.heap.size (fun k_ => (P0_ k_ ∨ w.heap.size ≤ k_)) u9000_ r ∧ Below w0.heap.size w0 w' ∧ Kept w w' (fun k_ => P0_ k_) := by
 have HO0 := Aside0.mk (show Kd.S (Kd.slice 4 Kd.bool) 58 w w0.heap.size (fun k_ => (P0_ k_ ∨ w.heap.size ≤ k_)) u9000_ l0 from Kd.S_mono ho0 (fun k_ hk => (.inl hk)));have HR1 := Aside0.mk hr1;have HC1 := Aside0.mk hc1;clear hr1 hc1;have HK := Aside0.mk (Kept.refl w (fun k_ => P0_ k_));have HW0 := Aside0.mk hB.size;have HB := Aside0.mk hB;clear hB;have H : (arboristref08_join.l0 k l0 l1 0) = some r := h;clear h;have H' := Aside0.mk H;clear H;go_enter Try.func76, Try.ntmps76
 go_wp2
 go_loopg [4] k (fun kq v4 w' => ∃ (x0_1 : List (List Bool)) (x4_1 : Int), v4 = .int .i64 x4_1 ∧ Aside0 (arboristref08_join.l0 kq x0_1 l1 x4_1 = some r) ∧ Aside0 (kq ≤ k) ∧ Aside0 (Kd.S (Kd.slice 4 Kd.bool) 58 w' w0.heap.size (fun k_ => (P0_ k_ ∨ w.heap.size ≤ k_)) u9000_ x0_1) ∧ Aside0 (Kept w w' (fun k_ => P0_ k_)) ∧ Aside0 (Below w0.heap.size w0 w'))
 case atStart => exact ⟨(l0), (0), (by first | rfl | (simp; done) | (simp [*]; done)), H', ⟨Nat.le_refl _⟩, ⟨qS HO0.out⟩, ⟨by repeat (first | (with_reducible first | exact HK.out | apply Kept.alloc | apply Kept.drewN | apply Kept.drew) | exact HK.out)⟩, ⟨qB HB.out⟩⟩
 case round =>
  clear H';try clear c1
  try clear p2
  obtain ⟨x0_1, x4_1, rfl, HA, HK1, HO_0, HK, HB⟩ := hrel;cases gk with
  | zero => exact absurd HA.out (by simp [arboristref08_join.l0])
  | succ k1 =>
   have H := HA.out;clear HA;simp only [arboristref08_join.l0] at H
   by_cases c3 : x4_1 < (l1.length : Int)
   ·rw [if_pos c3] at H
    have c3b0 : decide (x4_1 < (l1.length : Int)) = true := decide_eq_true c3;clear c3;have H' := Aside0.mk H;clear H;go_wp2
    go_loopg [5] k1 (fun kq v5 w' => ∃ (x0_2 : List (List Bool)) (x5_2 : Int), v5 = .int .i64 x5_2 ∧ Aside0 (arboristref08_join.l1 kq x0_2 l1 x4_1 x5_2 = some r) ∧ Aside0 (kq ≤ k1) ∧ Aside0 (Kd.S (Kd.slice 4 Kd.bool) 58 w' w0.heap.size (fun k_ => (P0_ k_ ∨ w.heap.size ≤ k_)) u9000_ x0_2) ∧ Aside0 (Kept w w' (fun k_ => P0_ k_)) ∧ Aside0 (Below w0.heap.size w0 w'))
    case atStart => exact ⟨(x0_1), (0), (by first | rfl | (simp; done) | (simp [*]; done)), H', ⟨Nat.le_refl _⟩, ⟨qS HO_0.out⟩, ⟨by repeat (first | (with_reducible first | exact HK.out | apply Kept.alloc | apply Kept.drewN | apply Kept.drew) | exact HK.out)⟩, ⟨qB HB.out⟩⟩
    case round =>
     clear H';try clear c1
     try clear p2
     try clear c3
     try clear c3b0
     try clear p2
     obtain ⟨x0_2, x5_2, rfl, HA, HK2, HO_0, HK, HB⟩ := hrel;cases gk with
     | zero => exact absurd HA.out (by simp [arboristref08_join.l1])
     | succ k2 =>
      have H := HA.out;clear HA;simp only [arboristref08_join.l1] at H
      by_cases c4 : x5_2 < (l1.length : Int)
      ·rw [if_pos c4] at H
       have c4b0 : decide (x5_2 < (l1.length : Int)) = true := decide_eq_true c4;clear c4;by_cases c5 : x4_1 = x5_2
       ·rw [if_pos c5] at H
        have c5b0 : (x4_1 == x5_2) = true := beq_iff_eq.mpr c5;have c5b1 : (x4_1 != x5_2) = false := bne_eq_false_iff_eq.mpr c5;clear c5;have H' := Aside0.mk H;clear H;go_wp2
        go_roundg k2
        case measure => have := HK1.out; have := HK2.out; omega
        case rel => exact ⟨(x0_2), (wrap64 (x5_2 + 1)), (by first | rfl | (simp; done) | (simp [*]; done)), H', ⟨by have := HK1.out; have := HK2.out; omega⟩, ⟨qS HO_0.out⟩, ⟨by repeat (first | (with_reducible first | exact HK.out | apply Kept.alloc | apply Kept.drewN | apply Kept.drew) | exact HK.out)⟩, ⟨qB HB.out⟩⟩
       ·rw [if_neg c5] at H
        have c5b0 : (x4_1 == x5_2) = false := beq_eq_false_iff_ne.mpr c5;have c5b1 : (x4_1 != x5_2) = true := bne_iff_ne.mpr c5;by_cases c6 : 0 ≤ x4_1
        ·rw [if_pos c6] at H
         have c6b0 : decide (0 ≤ x4_1) = true := decide_eq_true c6;clear c6;by_cases c7 : x4_1 < (l1.length : Int)
         ·rw [if_pos c7] at H
          have c7b0 : decide (x4_1 < (l1.length : Int)) = true := decide_eq_true c7;clear c7;by_cases c8 : 0 ≤ (rd l1 x4_1)
          ·rw [if_pos c8] at H
           have c8b0 : decide (0 ≤ (rd l1 x4_1)) = true := decide_eq_true c8;clear c8;by_cases c9 : (rd l1 x4_1) < (x0_2.length : Int)
           ·rw [if_pos c9] at H
            have c9b0 : decide ((rd l1 x4_1) < (x0_2.length : Int)) = true := decide_eq_true c9;clear c9;by_cases c10 : 0 ≤ x5_2
            ·rw [if_pos c10] at H
             have c10b0 : decide (0 ≤ x5_2) = true := decide_eq_true c10;clear c10;by_cases c11 : 0 ≤ (rd l1 x5_2)
             ·rw [if_pos c11] at H
              have c11b0 : decide (0 ≤ (rd l1 x5_2)) = true := decide_eq_true c11;clear c11;by_cases c12 : (rd l1 x5_2) < ((rd_L8 x0_2 (rd l1 x4_1)).length : Int)
              ·rw [if_pos c12] at H
               have c12b0 : decide ((rd l1 x5_2) < ((rd_L8 x0_2 (rd l1 x4_1)).length : Int)) = true := decide_eq_true c12;clear c12;obtain ⟨y871, hy871⟩ : ∃ y_ : List Bool, y_ = ((rd_L8 x0_2 (rd l1 x4_1)).set ((rd l1 x5_2) : Int).toNat true) := ⟨_, rfl⟩;replace H : (arboristref08_join.l1 k2 (x0_2.set ((rd l1 x4_1) : Int).toNat y871) l1 x4_1 (wrap64 (x5_2 + 1))) = some r := by first | (rw [hy871]; with_reducible exact H) | (have H2_ := (Option.bind_some _ _).symm.trans H; rw [hy871]; with_reducible exact H2_) | (have H2_ := (Option.bind_some _ _).symm.trans H; with_reducible exact H2_) | with_reducible exact H | (rw [hy871]; exact H) | exact H
               have Ny871 := Aside0.mk hy871;clear hy871;obtain ⟨y873, hy873⟩ : ∃ y_ : List (List Bool), y_ = (x0_2.set ((rd l1 x4_1) : Int).toNat y871) := ⟨_, rfl⟩;replace H : (arboristref08_join.l1 k2 y873 l1 x4_1 (wrap64 (x5_2 + 1))) = some r := by first | (rw [hy873]; with_reducible exact H) | (have H2_ := (Option.bind_some _ _).symm.trans H; rw [hy873]; with_reducible exact H2_) | (have H2_ := (Option.bind_some _ _).symm.trans H; with_reducible exact H2_) | with_reducible exact H | (rw [hy873]; exact H) | exact H
               have Ny873 := Aside0.mk hy873;clear hy873;have H' := Aside0.mk H;clear H;try go_wp2
               replace HO_0 := Aside0.mk (Kd.S_drew HO_0.out);replace HK := Aside0.mk (Kept.drew HK.out);replace HB := Aside0.mk (below_drew1 HB.out);have p868 : 0 ≤ (x4_1 : Int) := of_decide_eq_true qA;have q868 : x4_1 < (l1.length : Int) := of_decide_eq_true qA;obtain ⟨ad868, e868, hx868_0⟩ := Kd.at_int (Kd.C_kept_now HR1.out HK.out) x4_1 p868 q868;have hw868_0 := hx868_0;cases e868
               replace p868 := eq_true p868;replace q868 := eq_true q868;obtain ⟨Ao15, co15, eo15⟩ := Kd.S_slice HO_0.out;(first | subst eo15 | (injection eo15 with f1_ f2_ f3_; have f4_ := f1_.symm; have f5_ := f3_.symm; clear f1_ f2_ f3_; subst f4_; subst f5_));have p869 : 0 ≤ ((rd l1 x4_1) : Int) := of_decide_eq_true qA;have q869 : (rd l1 x4_1) < (x0_2.length : Int) := of_decide_eq_true qA;obtain ⟨ad869, A869_0, c869_0, e869, hx869_0, hl869_0, hi869_0⟩ := at_L8 (Kd.S_reads' HO_0.out).2.2 (rd l1 x4_1) p869 q869;cases e869
               obtain ⟨ce869, hce869, hMe869, hcc869⟩ := Kd.S_get HO_0.out [] (rd l1 x4_1) p869 (by first | exact q869 | exact of_decide_eq_true qA | (have e_ := (Kd.S_reads' HO_0.out).1; omega));obtain ⟨ve869_0, rfl, ge869_0⟩ := hMe869;have hv869_0 := hcc869 0 _ rfl;rw [Nat.add_zero, show ((Kd.slice 4 Kd.bool)).sz = 1 from rfl, Nat.mul_one] at hv869_0
               replace hv869_0 := Option.some.inj (hv869_0.symm.trans hx869_0);rw [hv869_0] at ge869_0
               have HL869_0 := Aside0.mk (show Kd.R Kd.bool 4 _ _ _ _ (rd_L8 x0_2 (rd l1 x4_1)) from ge869_0);clear hv869_0 ge869_0;have HX869_0 := Aside0.mk hx869_0;clear hcc869 hce869;have HR869_0 := Aside0.mk hi869_0;have HC869_0 := Aside0.mk hl869_0;clear hi869_0 hl869_0;replace p869 := eq_true p869;replace q869 := eq_true q869;have p870 : 0 ≤ (x5_2 : Int) := of_decide_eq_true qA;have q870 : x5_2 < (l1.length : Int) := of_decide_eq_true qA;obtain ⟨ad870, e870, hx870_0⟩ := Kd.at_int (Kd.C_kept_now HR1.out HK.out) x5_2 p870 q870;have hw870_0 := hx870_0;obtain rfl : ad868 = ad870 := (by injection e870);replace p870 := eq_true p870;replace q870 := eq_true q870;have p13 : 0 ≤ ((rd l1 x5_2) : Int) := of_decide_eq_true qA;have q13 : ((rd l1 x5_2) : Int) < (((rd_L8 x0_2 (rd l1 x4_1)).length : Int) : Int) := of_decide_eq_true qA;obtain ⟨go13, co13, eo13, gb13, gl13, cl13, HG13⟩ := Kd.R_form HL869_0.out (by omega);(first | cases eo13 | (injection eo13 with ea_ en_ ec_; (first | subst ea_ | (injection ea_ with ea_; subst ea_)); subst ec_; clear en_));have GB13 := Aside0.mk gb13;have GG13 := Aside0.mk HG13;clear gb13 gl13 HG13;have HMgo13 := Aside0.mk (show (P0_ go13 ∨ w.heap.size ≤ go13) from (HL869_0.out.1 _ rfl).1);obtain ⟨hx13_0, hf13_0⟩ := Kd.R_celln false HL869_0.out ((rd l1 x5_2) : Int) p13 q13;replace p13 := eq_true p13;replace q13 := eq_true q13;have hq16 : ((rd l1 x4_1) : Int) < (x0_2.length : Int) := (by have h_ : ((rd l1 x4_1) : Int) < ((x0_2.length : Int) : Int) := of_decide_eq_true qA; first | exact h_ | (have e_ := (Kd.S_reads' HO_0.out).1; omega) | simpa only [List.length_set, List.length_set] using h_);obtain ⟨oki16, ce16, hcl16, hM16, hcc16, hok16, hbk16⟩ := Kd.S_borrow HO_0.out [] ((rd l1 x4_1) : Int) (of_decide_eq_true qA) (by first | exact hq16 | (have e_ := (Kd.S_reads' HO_0.out).1; have h_ := hq16; omega));obtain ⟨ve16_0, rfl, ge16_0⟩ := hM16;have hv16 := hcc16 0 _ rfl;rw [Nat.add_zero, show ((Kd.slice 4 Kd.bool)).sz = 1 from rfl, Nat.mul_one] at hv16
               replace hv16 := Option.some.inj (hv16.symm.trans HX869_0.out);subst hv16;clear hcc16 hcl16;replace ge16_0 := (show Kd.R Kd.bool 4 _ _ _ _ (rd_L8 x0_2 (rd l1 x4_1)) from ge16_0);have HP16 := Kd.R_putg ge16_0 ((rd l1 x5_2) : Int) true;rw [← Ny871.out] at HP16
               have HS16 := hbk16 HP16.2 (fun k_ e_ => by injection e_ with e_; subst e_; exact ge16_0.1 _ rfl) (x' := y871) (Kd.M_row HP16.1);rw [← Ny873.out] at HS16
               have HQ16 := Aside0.mk HS16;clear HP16 HS16 hbk16 hok16;refine start_ (n := 13) (S := fun w' => w'.cell? (ad868.add (x4_1).toNat) = some (.int .i64 (rd l1 x4_1)) ∧ w'.cell? (ad869.add ((rd l1 x4_1)).toNat) = some (.slice (some ⟨go13, 0, none⟩) (rd_L8 x0_2 (rd l1 x4_1)).length c869_0) ∧ w'.cell? (ad868.add (x5_2).toNat) = some (.int .i64 (rd l1 x5_2))) (ds := [12]) (bs 13 0) (by kernel_rfl) rfl rfl ⟨(Kd.foot_int (HR1.out _ (by repeat (first | exact HK.out | apply Kept.alloc | apply Kept.drewN | apply Kept.drew | refine Kept.setCell ?_ HMgo13.out _))) x4_1 (of_eq_true p868) (of_eq_true q868)), hx869_0, (Kd.foot_int (HR1.out _ (by repeat (first | exact HK.out | apply Kept.alloc | apply Kept.drewN | apply Kept.drew | refine Kept.setCell ?_ HMgo13.out _))) x5_2 (of_eq_true p870) (of_eq_true q870))⟩ (fun hHeld => ?_); refine with_tabW arboristref08_join.tab7 arboristref08_join.bits7 (fun HT_ HW_ => ?_)
               generalize wr.drew = w14 at HO_0 HK HB GG13 HL869_0 HQ16 HR869_0 HX869_0 hf13_0 hx13_0 hx868_0 hx869_0 hx870_0 hHeld ⊢
               refine qP 0 (some 21) (bs 13 1) HT_.out ?_;refine qP 1 (some 22) (bs 13 3) HT_.out ?_;refine qP 2 (some 23) (bs 13 7) HT_.out ?_;refine qP 3 (some 24) (bs 13 15) HT_.out ?_;refine qP 7 (some 28) (bs 13 143) HT_.out ?_;refine qP 8 (some 29) (bs 13 399) HT_.out ?_;refine qP 9 (some 30) (bs 13 911) HT_.out ?_;refine take_ (i := 4) (N := some 25) (v := ?_) (a' := ?_) (bs 13 927) rfl rfl (take_ofW HT_.out HW_.out (by kernel_rfl)) (fun _ _ _ h => h) (Or.inl ⟨by rfl, ?_⟩) hHeld ?_ ?_;rotate_left
               ·rintro w' ⟨s0, s1, s2⟩
                go_simp
                with_reducible rfl
               rotate_left; (simp only [Act.put, List.setIfInBounds_toArray, List.set_cons_zero, List.set_cons_succ, i64_w, i32_w]; rfl)
               refine qP 5 (some 26) (bs 13 959) HT_.out ?_;refine take_ (i := 6) (N := some 27) (v := ?_) (a' := ?_) (bs 13 1023) rfl rfl (take_ofW HT_.out HW_.out (by kernel_rfl)) (fun _ _ _ h => h) (Or.inl ⟨by rfl, ?_⟩) hHeld ?_ ?_;rotate_left
               ·rintro w' ⟨s0, s1, s2⟩
                go_simp
                with_reducible rfl
               rotate_left; (simp only [Act.put, List.setIfInBounds_toArray, List.set_cons_zero, List.set_cons_succ, i64_w, i32_w]; rfl)
               refine take_ (i := 10) (N := some 31) (v := ?_) (a' := ?_) (bs 13 2047) rfl rfl (take_ofW HT_.out HW_.out (by kernel_rfl)) (fun _ _ _ h => h) (Or.inl ⟨by rfl, ?_⟩) hHeld ?_ ?_;rotate_left
               ·rintro w' ⟨s0, s1, s2⟩
                go_simp
                with_reducible rfl
               rotate_left; (simp only [Act.put, List.setIfInBounds_toArray, List.set_cons_zero, List.set_cons_succ, i64_w, i32_w]; rfl)
               refine qP 11 (some 32) (bs 13 4095) HT_.out ?_;refine last_ (i := 12) (N := none) (bs 13 8191) rfl rfl (one_of HT_.out (by kernel_rfl)) (by decide) (fun K hK => ?_);refine skip_ (w1 := ?_) (by rfl) rfl ?_ ?_;rotate_left
               ·go_simp
                rfl
               refine hK.out _ _ ?_;clear hK K;refine done_ (done_of HT_.out (by kernel_rfl)) ?_;try go_wp2
               go_roundg k2
               case measure => have := HK1.out; have := HK2.out; omega
               case rel => exact ⟨(y873), (wrap64 (x5_2 + 1)), (by first | rfl | (simp; done) | (simp [*]; done)), H', ⟨by have := HK1.out; have := HK2.out; omega⟩, ⟨qS HQ16.out⟩, ⟨by repeat (first | (with_reducible first | exact HK.out | apply Kept.alloc | apply Kept.drewN | apply Kept.drew | refine Kept.setCell ?_ HMgo13.out _) | exact HK.out)⟩, ⟨by repeat (first | (with_reducible first | exact HB.out | apply below_alloc | apply pw_below_drewN | apply below_drew1 | refine below_set ?_ GB13.out) | exact HB.out)⟩⟩
              ·rw [if_neg c12] at H
               exact absurd H (by simp)
             ·rw [if_neg c11] at H
              exact absurd H (by simp)
            ·rw [if_neg c10] at H
             exact absurd H (by simp)
           ·rw [if_neg c9] at H
            exact absurd H (by simp)
          ·rw [if_neg c8] at H
           exact absurd H (by simp)
         ·rw [if_neg c7] at H
          exact absurd H (by simp)
        ·rw [if_neg c6] at H
         exact absurd H (by simp)
      ·rw [if_neg c4] at H
       have c4b0 : decide (x5_2 < (l1.length : Int)) = false := decide_eq_false c4;clear c4;have H' := Aside0.mk H;clear H;go_wp2
       go_roundg k2
       case measure => have := HK1.out; have := HK2.out; omega
       case rel => exact ⟨(x0_2), (wrap64 (x4_1 + 1)), (by first | rfl | (simp; done) | (simp [*]; done)), H', ⟨by have := HK1.out; have := HK2.out; omega⟩, ⟨qS HO_0.out⟩, ⟨by repeat (first | (with_reducible first | exact HK.out | apply Kept.alloc | apply Kept.drewN | apply Kept.drew) | exact HK.out)⟩, ⟨qB HB.out⟩⟩
   ·rw [if_neg c3] at H
    have c3b0 : decide (x4_1 < (l1.length : Int)) = false := decide_eq_false c3;clear c3;obtain rfl := Option.some.inj H;go_wp2
    first | go_end0 | ((try simp only [Exit.inBlock, Exit.then]); refine bodyPost_ret (results_none rfl _ _ _) rfl ?_)
    exact ⟨by first | rfl | (simp [errW_none, errW_some] <;> rfl) | (simp [*, errW_none, errW_some] <;> rfl), by (with_reducible repeat (first | apply Kd.S_alloc | apply Kd.S_drewN | apply Kd.S_drew)); exact HO_0.out, by repeat (first | (with_reducible first | exact HB.out | apply below_alloc | apply pw_below_drewN | apply below_drew1) | exact HB.out), by repeat (first | (with_reducible first | exact HK.out | apply Kept.alloc | apply Kept.drewN | apply Kept.drew) | exact HK.out)⟩
theorem arboristref08_join.callsB (k : Nat) (P0_ : Nat → Prop) (u9000_ : Value) (l0 : List (List Bool)) (A1 : Option Addr) (c1 : Nat) (l1 : List Int) (r : List (List Bool)) (w0 w : World) (hB : Below w0.heap.size w0 w) (ho0 : Kd.S (Kd.slice 4 Kd.bool) 58 w w0.heap.size P0_ u9000_ l0) (hr1 : ∀ W_, Kept w W_ (SB (Kd.slice 4 Kd.bool) 58 w w0.heap.size P0_) → Kd.C (Kd.int .i64) W_ A1 l1.length l1) (hc1 : l1.length ≤ c1) (h : arboristref08_join.f k l0 l1 = some r) :
  Calls Try.prog 76 #[u9000_, .slice A1 l1.length c1] w fun e w' => e = .returned (.tuple #[]) ∧ Kd.S (Kd.slice 4 Kd.bool) 58 w' w0.heap.size (fun k_ => (P0_ k_ ∨ w.heap.size ≤ k_)) u9000_ r ∧ Below w0.heap.size w0 w' ∧ Kept w w' (SB (Kd.slice 4 Kd.bool) 58 w w0.heap.size P0_) := by
 refine (arboristref08_join.calls k (SB (Kd.slice 4 Kd.bool) 58 w w0.heap.size P0_) u9000_ l0 A1 c1 l1 r w0 w hB (SB_self ho0) hr1 hc1 h).mono ?_;rintro e w' ⟨h1, h2, h3, h4⟩
 exact ⟨h1, Kd.S_mono h2 (fun k_ hk_ => Or.imp_left (fun h_ => h_.1) hk_), h3, h4⟩
end Go.Proofs.Ytpmfdggbccbfaaa.Pr
namespace Go.Proofs.Ytpmfdggbccbfaaa.Pr
open Go.RowKit Go.Proofs.YtpmfdggbccbfaaaW.PrintWords Go.Proofs.YtpmfdggbccbfaaaW.PrintLast Go.Proofs.YtpmfdggbccbfaaaW.PrintMore
attribute [local go_sem] max2_int min2_int max_two min_two max_three min_three max_four min_four
set_option linter.unusedVariables false
set_option linter.unusedSimpArgs false
/-! ### arboristref08_Primal: function 64 -/
mutual
def arboristref08_Primal.l0 : Nat → List (List Bool) → Int → List (List Int) → List (S69) → List (S73) → Option ((List (List Bool)))
 | 0, _, _, _, _, _ => none
 | k + 1, x3, x4, x875000, x875001, x875002 => if x4 < (x875001.length : Int) then (if 0 ≤ x4 then ((arboristref08_join.f k x3 ((rd_T69 x875001 x4).f1)).bind fun t879 => (arboristref08_Primal.l0 k t879 (wrap64 (x4 + 1)) x875000 x875001 x875002)) else (none)) else (arboristref08_Primal.l1 k x3 0 x875000 x875001 x875002)
def arboristref08_Primal.l1 : Nat → List (List Bool) → Int → List (List Int) → List (S69) → List (S73) → Option ((List (List Bool)))
 | 0, _, _, _, _, _ => none
 | k + 1, x3, x5, x875000, x875001, x875002 => if x5 < (x875002.length : Int) then (if 0 ≤ x5 then ((arboristref08_join.f k x3 ((rd_T73 x875002 x5).f0)).bind fun t881 => (arboristref08_Primal.l1 k t881 (wrap64 (x5 + 1)) x875000 x875001 x875002)) else (none)) else (some x3)
end
def arboristref08_Primal.f (k : Nat) (l0_0 : List (List Int)) (l0_1 : List (S69)) (l0_2 : List (S73)) : Option ((List (List Bool))) := (arboristref08_Empty.f k (l0_0.length : Int)).bind fun t875 => (arboristref08_Primal.l0 k t875 0 l0_0 l0_1 l0_2)
set_option maxHeartbeats 8000000 in
set_option maxRecDepth 100000 in
theorem arboristref08_Primal.calls (k : Nat) (A0_0 : Option Addr) (c0_0 : Nat) (l0_0 : List (List Int)) (A0_1 : Option Addr) (c0_1 : Nat) (l0_1 : List (S69)) (A0_2 : Option Addr) (c0_2 : Nat) (l0_2 : List (S73)) (r : List (List Bool)) (w : World) (hr0_0 : Kd.C (Kd.slice 3 (Kd.int .i64)) w A0_0 l0_0.length l0_0) (hc0_0 : l0_0.length ≤ c0_0) (hr0_1 : Kd.C k69 w A0_1 l0_1.length l0_1) (hc0_1 : l0_1.length ≤ c0_1) (hr0_2 : Kd.C k73 w A0_2 l0_2.length l0_2) (hc0_2 : l0_2.length ≤ c0_2) (h : arboristref08_Primal.f k l0_0 l0_1 l0_2 = some r) :
  Calls Try.prog 64 #[.agg #[.slice A0_0 l0_0.length c0_0, .slice A0_1 l0_1.length c0_1, .slice A0_2 l0_2.length c0_2]] w fun e w' => ∃ v0_ : Value, e = .returned (v0_) ∧ Kd.S (Kd.slice 4 Kd.bool) 58 w' w.heap.size (fun _ => True) v0_ r ∧ Below w.heap.size w w' := by
 have hu49 := Try.underlying49;have HR0_0 := Aside0.mk hr0_0;have HC0_0 := Aside0.mk hc0_0;clear hr0_0 hc0_0;have HR0_1 := Aside0.mk hr0_1;have HC0_1 := Aside0.mk hc0_1;clear hr0_1 hc0_1;have HR0_2 := Aside0.mk hr0_2;have HC0_2 := Aside0.mk hc0_2;clear hr0_2 hc0_2;have HB := Aside0.mk (Below.refl w.heap.size w);have H : ((arboristref08_Empty.f k (l0_0.length : Int)).bind fun t875 => (arboristref08_Primal.l0 k t875 0 l0_0 l0_1 l0_2)) = some r := h;clear h;replace H := Option.bind_eq_some_iff.mp H;obtain ⟨t875, A20, H⟩ := H;(try dsimp only at H);have A2 := Aside0.mk A20;clear A20;have H' := Aside0.mk H;clear H;go_enter Try.func64, Try.ntmps64
 go_wp2_with (first | ((with_reducible refine gate_dst (N := 1) rfl ?_); refine box_event ?hg (N := 1) ?hd (cs := #[.slice A0_0 l0_0.length c0_0, .slice A0_1 l0_1.length c0_1, .slice A0_2 l0_2.length c0_2]) (t := 49) ?hr ?_; (case hd => rfl); (case hg => rfl); (case hr => first | (go_simp; done) | (go_simp; rfl)); intro gb874 hg w3 hbox hb; have n0_ := Aside0.mk (below_step (qB HB.out) hb); have n1_ := Aside0.mk (hbox); have n2_ := Aside0.mk ((by rw [hg]; exact (below_size (qB HB.out)) : w.heap.size ≤ gb874)); have n3_ := Aside0.mk ((by rw [hg]; exact (below_size (qB HB.out)) : w.heap.size ≤ gb874)); clear HB; have HB := n0_; have BK874 := n1_; have GW874 := n2_; have GE874 := n3_; clear n0_ n1_ n2_ n3_; clear hb hbox hg; have hcz4_0 : w3.cell? ⟨gb874, 0, none⟩ = some (.slice A0_0 l0_0.length c0_0) := (blk_cell BK874.out 0).trans rfl; have hcz4_1 : w3.cell? ⟨gb874, 1, none⟩ = some (.slice A0_1 l0_1.length c0_1) := (blk_cell BK874.out 1).trans rfl; have hcz4_2 : w3.cell? ⟨gb874, 2, none⟩ = some (.slice A0_2 l0_2.length c0_2) := (blk_cell BK874.out 2).trans rfl; have hfz4_0 := blk_frozen BK874.out 0; have hfz4_1 := blk_frozen BK874.out 1; have hfz4_2 := blk_frozen BK874.out 2) | ((with_reducible refine gate_callee (f := 75) rfl ?_); refine goesL_ (some 9) rfl rfl Try.func75 (by kernel_rfl) rfl #[.int .i64 (l0_0.length : Int)] rfl qM ?_; (with_reducible refine (arboristref08_Empty.calls k (l0_0.length : Int) t875 _ A2.out).mono ?_); rintro e w5 ⟨v876, rfl, ho0, hb⟩; refine ⟨_, rfl, ?_⟩; have n0_ := Aside0.mk (Kd.S_lower ho0 (below_size (by repeat (first | (with_reducible first | exact HB.out | apply below_alloc | apply pw_below_drewN | apply below_drew1 | refine below_set ?_ GE874.out) | exact HB.out)))); have n1_ := Aside0.mk (blk_below (g := gb874) (o := .cells #[.slice A0_0 l0_0.length c0_0, .slice A0_1 l0_1.length c0_1, .slice A0_2 l0_2.length c0_2] 49 (0, 0)) (qK BK874.out) hb); have n2_ := Aside0.mk (below_step (by repeat (first | (with_reducible first | exact HB.out | apply below_alloc | apply pw_below_drewN | apply below_drew1 | refine below_set ?_ GE874.out) | exact HB.out)) hb); clear BK874; clear HB; have HO877 := n0_; have BK874 := n1_; have HB := n2_; clear n0_ n1_ n2_; (try clear hb); (try clear hb2); (try clear hk); (try clear hi); (try clear ho0)))
 go_loopg [4] k (fun kq v4 w' => ∃ (x3_1 : List (List Bool)) (x4_1 : Int), v4 = .int .i64 x4_1 ∧ Aside0 (arboristref08_Primal.l0 kq x3_1 x4_1 l0_0 l0_1 l0_2 = some r) ∧ Aside0 (kq ≤ k) ∧ Aside0 (Kd.S (Kd.slice 4 Kd.bool) 58 w' w.heap.size (fun _ => True) v876 x3_1) ∧ Aside0 (w'.heap[gb874]? = some (.cells #[(.slice A0_0 l0_0.length c0_0), (.slice A0_1 l0_1.length c0_1), (.slice A0_2 l0_2.length c0_2)] 49 (0, 0))) ∧ Aside0 (Below w.heap.size w w'))
 case atStart => exact ⟨(t875), (0), (by first | rfl | (simp; done) | (simp [*]; done)), H', ⟨Nat.le_refl _⟩, ⟨qS HO877.out⟩, ⟨qK BK874.out⟩, ⟨qB1 GE874.out HB.out⟩⟩
 case round =>
  clear H';try clear p2
  try clear hcz4_0
  try clear hcz4_1
  try clear hcz4_2
  try clear hfz4_0
  try clear hfz4_1
  try clear hfz4_2
  obtain ⟨x3_1, x4_1, rfl, HA, HK1, HO_3, BK874, HB⟩ := hrel;cases gk with
  | zero => exact absurd HA.out (by simp [arboristref08_Primal.l0])
  | succ k1 =>
   have H := HA.out;clear HA;simp only [arboristref08_Primal.l0] at H
   by_cases c6 : x4_1 < (l0_1.length : Int)
   ·rw [if_pos c6] at H
    have c6b0 : decide (x4_1 < (l0_1.length : Int)) = true := decide_eq_true c6;clear c6;by_cases c7 : 0 ≤ x4_1
    ·rw [if_pos c7] at H
     have c7b0 : decide (0 ≤ x4_1) = true := decide_eq_true c7;clear c7;replace H := Option.bind_eq_some_iff.mp H;obtain ⟨t879, A80, H⟩ := H;(try dsimp only at H);have A8 := Aside0.mk A80;clear A80;have H' := Aside0.mk H;clear H;have hcz9_0 : wr.cell? ⟨gb874, 0, none⟩ = some (.slice A0_0 l0_0.length c0_0) := (blk_cell BK874.out 0).trans rfl;have hcz9_1 : wr.cell? ⟨gb874, 1, none⟩ = some (.slice A0_1 l0_1.length c0_1) := (blk_cell BK874.out 1).trans rfl;have hcz9_2 : wr.cell? ⟨gb874, 2, none⟩ = some (.slice A0_2 l0_2.length c0_2) := (blk_cell BK874.out 2).trans rfl;have hfz9_0 := blk_frozen BK874.out 0;have hfz9_1 := blk_frozen BK874.out 1;have hfz9_2 := blk_frozen BK874.out 2;have p878 : 0 ≤ (x4_1 : Int) := of_decide_eq_true qA;have q878 : x4_1 < (l0_1.length : Int) := of_decide_eq_true qA;obtain ⟨ad878, A878_1, c878_1, A878_2, c878_2, A878_3, c878_3, e878, hx878_0, hx878_1, hx878_2, hx878_3, hl878_1, hi878_1, hl878_2, hi878_2, hl878_3, hi878_3⟩ := at_T69 HR0_1.out x4_1 p878 q878;cases e878
     replace hx878_0 := (HB.out.cell (World.block_lt_of_cell? w _ hx878_0)).trans hx878_0;replace hx878_1 := (HB.out.cell (World.block_lt_of_cell? w _ hx878_1)).trans hx878_1;replace hx878_2 := (HB.out.cell (World.block_lt_of_cell? w _ hx878_2)).trans hx878_2;replace hx878_3 := (HB.out.cell (World.block_lt_of_cell? w _ hx878_3)).trans hx878_3;have HR878_1 := Aside0.mk hi878_1;have HC878_1 := Aside0.mk hl878_1;clear hi878_1 hl878_1;have HR878_2 := Aside0.mk hi878_2;have HC878_2 := Aside0.mk hl878_2;clear hi878_2 hl878_2;have HR878_3 := Aside0.mk hi878_3;have HC878_3 := Aside0.mk hl878_3;clear hi878_3 hl878_3;replace p878 := eq_true p878;replace q878 := eq_true q878;obtain ⟨Ao10, co10, eo10⟩ := Kd.S_slice HO_3.out;subst eo10;go_wp2_with (first | ((with_reducible refine gate_callee (f := 76) rfl ?_); refine goesL_ (some 24) rfl rfl Try.func76 (by kernel_rfl) rfl #[.slice Ao10 x3_1.length co10, .slice A878_1 ((rd_T69 l0_1 x4_1).f1).length c878_1] rfl qM ?_; (with_reducible refine (arboristref08_join.callsB k1 (fun k_ => True) (.slice Ao10 x3_1.length co10) x3_1 _ _ ((rd_T69 l0_1 x4_1).f1) t879 w _ ?side1 ?side2 ?side3 ?side4 A8.out).mono ?_); (case side1 => repeat (first | (with_reducible first | exact HB.out | apply below_alloc | apply pw_below_drewN | apply below_drew1 | refine below_set ?_ GE874.out) | exact HB.out)); (case side2 => exact HO_3.out); (case side3 => exact Kd.C_kept_came (Kd.heap_int .i64) HR878_1.out (by repeat (first | (with_reducible first | exact HB.out | apply below_alloc | apply pw_below_drewN | apply below_drew1 | refine below_set ?_ GE874.out) | exact HB.out)) (fun k_ hs_ => (fun e_ => e_.2.1) hs_)); (case side4 => exact HC878_1.out); rintro e w11 ⟨rfl, hy0, hb, hkp⟩; refine ⟨_, rfl, ?_⟩; have n0_ := Aside0.mk (Kd.S_mono (ok' := fun k_ => True) hy0 (fun k_ hk_ => trivial)); have n1_ := Aside0.mk (blk_kept (qK BK874.out) hkp (fun hs_ => (fun e_ => SB_types e_ BK874.out (by decide)) hs_)); have n2_ := Aside0.mk (hb); clear HO_3; clear BK874; clear HB; have HO_3 := n0_; have BK874 := n1_; have HB := n2_; clear n0_ n1_ n2_; (try clear hb); (try clear hkp); (try clear hy0)))
     go_roundg k1
     case measure => have := HK1.out; omega
     case rel => exact ⟨(t879), (wrap64 (x4_1 + 1)), (by first | rfl | (simp; done) | (simp [*]; done)), H', ⟨by have := HK1.out; omega⟩, ⟨qS HO_3.out⟩, ⟨qK BK874.out⟩, ⟨qB1 GE874.out HB.out⟩⟩
    ·rw [if_neg c7] at H
     exact absurd H (by simp)
   ·rw [if_neg c6] at H
    have c6b0 : decide (x4_1 < (l0_1.length : Int)) = false := decide_eq_false c6;clear c6;have H' := Aside0.mk H;clear H;have hcz12_0 : wr.cell? ⟨gb874, 0, none⟩ = some (.slice A0_0 l0_0.length c0_0) := (blk_cell BK874.out 0).trans rfl;have hcz12_1 : wr.cell? ⟨gb874, 1, none⟩ = some (.slice A0_1 l0_1.length c0_1) := (blk_cell BK874.out 1).trans rfl;have hcz12_2 : wr.cell? ⟨gb874, 2, none⟩ = some (.slice A0_2 l0_2.length c0_2) := (blk_cell BK874.out 2).trans rfl;have hfz12_0 := blk_frozen BK874.out 0;have hfz12_1 := blk_frozen BK874.out 1;have hfz12_2 := blk_frozen BK874.out 2;go_wp2
    go_loopg [5] k1 (fun kq v5 w' => ∃ (x3_2 : List (List Bool)) (x5_2 : Int), v5 = .int .i64 x5_2 ∧ Aside0 (arboristref08_Primal.l1 kq x3_2 x5_2 l0_0 l0_1 l0_2 = some r) ∧ Aside0 (kq ≤ k1) ∧ Aside0 (Kd.S (Kd.slice 4 Kd.bool) 58 w' w.heap.size (fun _ => True) v876 x3_2) ∧ Aside0 (w'.heap[gb874]? = some (.cells #[(.slice A0_0 l0_0.length c0_0), (.slice A0_1 l0_1.length c0_1), (.slice A0_2 l0_2.length c0_2)] 49 (0, 0))) ∧ Aside0 (Below w.heap.size w w'))
    case atStart => exact ⟨(x3_1), (0), (by first | rfl | (simp; done) | (simp [*]; done)), H', ⟨Nat.le_refl _⟩, ⟨qS HO_3.out⟩, ⟨qK BK874.out⟩, ⟨qB1 GE874.out HB.out⟩⟩
    case round =>
     clear H';try clear p2
     try clear c6
     try clear c6b0
     try clear p6
     try clear c7
     try clear c7b0
     try clear c8
     try clear p8
     try clear q8
     try clear hx8
     try clear hcz12_0
     try clear hcz12_1
     try clear hcz12_2
     try clear hcz4_0
     try clear hcz4_1
     try clear hcz4_2
     try clear hcz9_0
     try clear hcz9_1
     try clear hcz9_2
     try clear hfz12_0
     try clear hfz12_1
     try clear hfz12_2
     try clear hfz4_0
     try clear hfz4_1
     try clear hfz4_2
     try clear hfz9_0
     try clear hfz9_1
     try clear hfz9_2
     try clear hx878_0
     try clear hx878_1
     try clear hx878_2
     try clear hx878_3
     try clear p2
     try clear p878
     try clear q878
     obtain ⟨x3_2, x5_2, rfl, HA, HK2, HO_3, BK874, HB⟩ := hrel;cases gk with
     | zero => exact absurd HA.out (by simp [arboristref08_Primal.l1])
     | succ k2 =>
      have H := HA.out;clear HA;simp only [arboristref08_Primal.l1] at H
      by_cases c13 : x5_2 < (l0_2.length : Int)
      ·rw [if_pos c13] at H
       have c13b0 : decide (x5_2 < (l0_2.length : Int)) = true := decide_eq_true c13;clear c13;by_cases c14 : 0 ≤ x5_2
       ·rw [if_pos c14] at H
        have c14b0 : decide (0 ≤ x5_2) = true := decide_eq_true c14;clear c14;replace H := Option.bind_eq_some_iff.mp H;obtain ⟨t881, A150, H⟩ := H;(try dsimp only at H);have A15 := Aside0.mk A150;clear A150;have H' := Aside0.mk H;clear H;have hcz16_0 : wr.cell? ⟨gb874, 0, none⟩ = some (.slice A0_0 l0_0.length c0_0) := (blk_cell BK874.out 0).trans rfl;have hcz16_1 : wr.cell? ⟨gb874, 1, none⟩ = some (.slice A0_1 l0_1.length c0_1) := (blk_cell BK874.out 1).trans rfl;have hcz16_2 : wr.cell? ⟨gb874, 2, none⟩ = some (.slice A0_2 l0_2.length c0_2) := (blk_cell BK874.out 2).trans rfl;have hfz16_0 := blk_frozen BK874.out 0;have hfz16_1 := blk_frozen BK874.out 1;have hfz16_2 := blk_frozen BK874.out 2;have p880 : 0 ≤ (x5_2 : Int) := of_decide_eq_true qA;have q880 : x5_2 < (l0_2.length : Int) := of_decide_eq_true qA;obtain ⟨ad880, A880_0, c880_0, A880_1, c880_1, A880_2, c880_2, e880, hx880_0, hx880_1, hx880_2, hx880_3, hl880_0, hi880_0, hl880_1, hi880_1, hl880_2, hi880_2⟩ := at_T73 HR0_2.out x5_2 p880 q880;cases e880
        replace hx880_0 := (HB.out.cell (World.block_lt_of_cell? w _ hx880_0)).trans hx880_0;replace hx880_1 := (HB.out.cell (World.block_lt_of_cell? w _ hx880_1)).trans hx880_1;replace hx880_2 := (HB.out.cell (World.block_lt_of_cell? w _ hx880_2)).trans hx880_2;replace hx880_3 := (HB.out.cell (World.block_lt_of_cell? w _ hx880_3)).trans hx880_3;have HR880_0 := Aside0.mk hi880_0;have HC880_0 := Aside0.mk hl880_0;clear hi880_0 hl880_0;have HR880_1 := Aside0.mk hi880_1;have HC880_1 := Aside0.mk hl880_1;clear hi880_1 hl880_1;have HR880_2 := Aside0.mk hi880_2;have HC880_2 := Aside0.mk hl880_2;clear hi880_2 hl880_2;replace p880 := eq_true p880;replace q880 := eq_true q880;obtain ⟨Ao17, co17, eo17⟩ := Kd.S_slice HO_3.out;subst eo17;go_wp2_with (first | ((with_reducible refine gate_callee (f := 76) rfl ?_); refine goesL_ (some 39) rfl rfl Try.func76 (by kernel_rfl) rfl #[.slice Ao17 x3_2.length co17, .slice A880_0 ((rd_T73 l0_2 x5_2).f0).length c880_0] rfl qM ?_; (with_reducible refine (arboristref08_join.callsB k2 (fun k_ => True) (.slice Ao17 x3_2.length co17) x3_2 _ _ ((rd_T73 l0_2 x5_2).f0) t881 w _ ?side1 ?side2 ?side3 ?side4 A15.out).mono ?_); (case side1 => repeat (first | (with_reducible first | exact HB.out | apply below_alloc | apply pw_below_drewN | apply below_drew1 | refine below_set ?_ GE874.out) | exact HB.out)); (case side2 => exact HO_3.out); (case side3 => exact Kd.C_kept_came (Kd.heap_int .i64) HR880_0.out (by repeat (first | (with_reducible first | exact HB.out | apply below_alloc | apply pw_below_drewN | apply below_drew1 | refine below_set ?_ GE874.out) | exact HB.out)) (fun k_ hs_ => (fun e_ => e_.2.1) hs_)); (case side4 => exact HC880_0.out); rintro e w18 ⟨rfl, hy0, hb, hkp⟩; refine ⟨_, rfl, ?_⟩; have n0_ := Aside0.mk (Kd.S_mono (ok' := fun k_ => True) hy0 (fun k_ hk_ => trivial)); have n1_ := Aside0.mk (blk_kept (qK BK874.out) hkp (fun hs_ => (fun e_ => SB_types e_ BK874.out (by decide)) hs_)); have n2_ := Aside0.mk (hb); clear HO_3; clear BK874; clear HB; have HO_3 := n0_; have BK874 := n1_; have HB := n2_; clear n0_ n1_ n2_; (try clear hb); (try clear hkp); (try clear hy0)))
        go_roundg k2
        case measure => have := HK1.out; have := HK2.out; omega
        case rel => exact ⟨(t881), (wrap64 (x5_2 + 1)), (by first | rfl | (simp; done) | (simp [*]; done)), H', ⟨by have := HK1.out; have := HK2.out; omega⟩, ⟨qS HO_3.out⟩, ⟨qK BK874.out⟩, ⟨qB1 GE874.out HB.out⟩⟩
       ·rw [if_neg c14] at H
        exact absurd H (by simp)
      ·rw [if_neg c13] at H
       have c13b0 : decide (x5_2 < (l0_2.length : Int)) = false := decide_eq_false c13;clear c13;obtain rfl := Option.some.inj H;have hcz19_0 : wr.cell? ⟨gb874, 0, none⟩ = some (.slice A0_0 l0_0.length c0_0) := (blk_cell BK874.out 0).trans rfl;have hcz19_1 : wr.cell? ⟨gb874, 1, none⟩ = some (.slice A0_1 l0_1.length c0_1) := (blk_cell BK874.out 1).trans rfl;have hcz19_2 : wr.cell? ⟨gb874, 2, none⟩ = some (.slice A0_2 l0_2.length c0_2) := (blk_cell BK874.out 2).trans rfl;have hfz19_0 := blk_frozen BK874.out 0;have hfz19_1 := blk_frozen BK874.out 1;have hfz19_2 := blk_frozen BK874.out 2;go_wp2
       go_ret
       exact ⟨_, by first | rfl | (simp [errW_none, errW_some] <;> rfl) | (simp [*, errW_none, errW_some] <;> rfl), by (with_reducible repeat (first | apply Kd.S_alloc | apply Kd.S_drewN | apply Kd.S_drew)); exact HO_3.out, by repeat (first | (with_reducible first | exact HB.out | apply below_alloc | apply pw_below_drewN | apply below_drew1 | refine below_set ?_ GE874.out) | exact HB.out)⟩
/-! ### arboristlaw13_tree: function 41 -/
def arboristlaw13_tree.f (k : Nat) (l0_0 : List (List Int)) (l0_1 : List (S69)) (l0_2 : List (S73)) (l1 : List Int) : Option ((List (List Int)) × List Int) := (arboristref08_Primal.f k l0_0 l0_1 l0_2).bind fun t884 => ((arboristref11_Build.f k t884 l1).bind fun bt887 => (some (bt887.1, bt887.2)))
set_option maxHeartbeats 8000000 in
set_option maxRecDepth 100000 in
theorem arboristlaw13_tree.calls (k : Nat) (A0_0 : Option Addr) (c0_0 : Nat) (l0_0 : List (List Int)) (A0_1 : Option Addr) (c0_1 : Nat) (l0_1 : List (S69)) (A0_2 : Option Addr) (c0_2 : Nat) (l0_2 : List (S73)) (A1 : Option Addr) (c1 : Nat) (l1 : List Int) (r1 : List (List Int)) (r2 : List Int) (w : World) (hr0_0 : Kd.C (Kd.slice 3 (Kd.int .i64)) w A0_0 l0_0.length l0_0) (hc0_0 : l0_0.length ≤ c0_0) (hr0_1 : Kd.C k69 w A0_1 l0_1.length l0_1) (hc0_1 : l0_1.length ≤ c0_1) (hr0_2 : Kd.C k73 w A0_2 l0_2.length l0_2) (hc0_2 : l0_2.length ≤ c0_2) (hr1 : Kd.C (Kd.int .i64) w A1 l1.length l1) (hc1 : l1.length ≤ c1) (h : arboristlaw13_tree.f k l0_0 l0_1 l0_2 l1 = some (r1, r2)) :
  Calls Try.prog 41 #[.agg #[.slice A0_0 l0_0.length c0_0, .slice A0_1 l0_1.length c0_1, .slice A0_2 l0_2.length c0_2], .slice A1 l1.length c1] w fun e w' => ∃ v0_ v1_ : Value, e = .returned (.agg #[v0_, v1_]) ∧ Kd.N (Kd.slice 3 (Kd.int .i64)) 23 w' w.heap.size (fun k_ => (w.heap.size ≤ k_) ∧ some k_ ≠ (v1_ : Value).ownBlock) v0_ r1 ∧ Kd.R (Kd.int .i64) 3 w' w.heap.size (fun k_ => (w.heap.size ≤ k_)) v1_ r2 ∧ Below w.heap.size w w' := by
 have hu49 := Try.underlying49;have hu25 := Try.underlying25;have HR0_0 := Aside0.mk hr0_0;have HC0_0 := Aside0.mk hc0_0;clear hr0_0 hc0_0;have HR0_1 := Aside0.mk hr0_1;have HC0_1 := Aside0.mk hc0_1;clear hr0_1 hc0_1;have HR0_2 := Aside0.mk hr0_2;have HC0_2 := Aside0.mk hc0_2;clear hr0_2 hc0_2;have HR1 := Aside0.mk hr1;have HC1 := Aside0.mk hc1;clear hr1 hc1;have HB := Aside0.mk (Below.refl w.heap.size w);have H : ((arboristref08_Primal.f k l0_0 l0_1 l0_2).bind fun t884 => ((arboristref11_Build.f k t884 l1).bind fun bt887 => (some (bt887.1, bt887.2)))) = some (r1, r2) := h;clear h;replace H := Option.bind_eq_some_iff.mp H;obtain ⟨t884, A30, H⟩ := H;(try dsimp only at H);have A3 := Aside0.mk A30;clear A30;replace H := Option.bind_eq_some_iff.mp H;obtain ⟨⟨t887, t890⟩, A40, H⟩ := H;replace H : (some (t887, t890)) = some (r1, r2) := H;have A4 := Aside0.mk A40;clear A40;simp only [Option.some.injEq, Prod.mk.injEq] at H
 obtain ⟨rfl, rfl⟩ := H;go_enter Try.func41, Try.ntmps41
 go_wp2_with (first | ((with_reducible refine gate_dst (N := 2) rfl ?_); refine box_event ?hg (N := 2) ?hd (cs := #[.slice A0_0 l0_0.length c0_0, .slice A0_1 l0_1.length c0_1, .slice A0_2 l0_2.length c0_2]) (t := 49) ?hr ?_; (case hd => rfl); (case hg => rfl); (case hr => first | (go_simp; done) | (go_simp; rfl)); intro gb882 hg w5 hbox hb; have n0_ := Aside0.mk (below_step (qB HB.out) hb); have n1_ := Aside0.mk (hbox); have n2_ := Aside0.mk ((by rw [hg]; exact (below_size (qB HB.out)) : w.heap.size ≤ gb882)); have n3_ := Aside0.mk ((by rw [hg]; exact (below_size (qB HB.out)) : w.heap.size ≤ gb882)); clear HB; have HB := n0_; have BK882 := n1_; have GW882 := n2_; have GE882 := n3_; clear n0_ n1_ n2_ n3_; clear hb hbox hg) | ((with_reducible refine gate_dst (N := 4) rfl ?_); refine box_event ?hg (N := 4) ?hd (cs := #[.slice none 0 0, .slice none 0 0]) (t := 25) ?hr ?_; (case hd => rfl); (case hg => rfl); (case hr => first | (go_simp; done) | (go_simp; rfl)); intro gb883 hg w6 hbox hb; have n0_ := Aside0.mk (blk_below (g := gb882) (o := .cells #[.slice A0_0 l0_0.length c0_0, .slice A0_1 l0_1.length c0_1, .slice A0_2 l0_2.length c0_2] 49 (0, 0)) (qK BK882.out) hb); have n1_ := Aside0.mk (below_step (by repeat (first | (with_reducible first | exact HB.out | apply below_alloc | apply pw_below_drewN | apply below_drew1 | refine below_set ?_ GE882.out) | exact HB.out)) hb); have n2_ := Aside0.mk (hbox); have n3_ := Aside0.mk ((by rw [hg]; exact (below_size (by repeat (first | (with_reducible first | exact HB.out | apply below_alloc | apply pw_below_drewN | apply below_drew1 | refine below_set ?_ GE882.out) | exact HB.out))) : w.heap.size ≤ gb883)); have n4_ := Aside0.mk ((by rw [hg]; exact (below_size (by repeat (first | (with_reducible first | exact HB.out | apply below_alloc | apply pw_below_drewN | apply below_drew1 | refine below_set ?_ GE882.out) | exact HB.out))) : w.heap.size ≤ gb883)); have n5_ := Aside0.mk ((by rw [hg]; exact Nat.ne_of_lt (blk_lt (g := gb882) (o := .cells #[.slice A0_0 l0_0.length c0_0, .slice A0_1 l0_1.length c0_1, .slice A0_2 l0_2.length c0_2] 49 (0, 0)) (qK BK882.out)) : gb882 ≠ gb883)); have n6_ := Aside0.mk ((by rw [hg]; exact Nat.ne_of_gt (blk_lt (g := gb882) (o := .cells #[.slice A0_0 l0_0.length c0_0, .slice A0_1 l0_1.length c0_1, .slice A0_2 l0_2.length c0_2] 49 (0, 0)) (qK BK882.out)) : gb883 ≠ gb882)); clear BK882; clear HB; have BK882 := n0_; have HB := n1_; have BK883 := n2_; have GW883 := n3_; have GE883 := n4_; have NB882_883 := n5_; have NB883_882 := n6_; clear n0_ n1_ n2_ n3_ n4_ n5_ n6_; clear hb hbox hg; have hnb7 := NB882_883.out; have hnc7 := NB883_882.out; have hcz8_0 : w6.cell? ⟨gb882, 0, none⟩ = some (.slice A0_0 l0_0.length c0_0) := (blk_cell BK882.out 0).trans rfl; have hcz8_1 : w6.cell? ⟨gb882, 1, none⟩ = some (.slice A0_1 l0_1.length c0_1) := (blk_cell BK882.out 1).trans rfl; have hcz8_2 : w6.cell? ⟨gb882, 2, none⟩ = some (.slice A0_2 l0_2.length c0_2) := (blk_cell BK882.out 2).trans rfl; have hfz8_0 := blk_frozen BK882.out 0; have hfz8_1 := blk_frozen BK882.out 1; have hfz8_2 := blk_frozen BK882.out 2) | ((with_reducible refine gate_callee (f := 64) rfl ?_); refine goesL_ (some 6) rfl rfl Try.func64 (by kernel_rfl) rfl #[.agg #[.slice A0_0 l0_0.length c0_0, .slice A0_1 l0_1.length c0_1, .slice A0_2 l0_2.length c0_2]] rfl qM ?_; (with_reducible refine (arboristref08_Primal.calls k _ _ l0_0 _ _ l0_1 _ _ l0_2 t884 _ ?side1 ?side2 ?side3 ?side4 ?side5 ?side6 A3.out).mono ?_); (case side1 => exact qC (Kd.C_below HR0_0.out HB.out)); (case side2 => exact HC0_0.out); (case side3 => exact qC (Kd.C_below HR0_1.out HB.out)); (case side4 => exact HC0_1.out); (case side5 => exact qC (Kd.C_below HR0_2.out HB.out)); (case side6 => exact HC0_2.out); rintro e w9 ⟨v885, rfl, ho0, hb⟩; refine ⟨_, rfl, ?_⟩; have n0_ := Aside0.mk (Kd.N_lower (Kd.N_mono (ok' := fun k_ => (w.heap.size ≤ k_) ∧ k_ ≠ gb882 ∧ k_ ≠ gb883) (Kd.S_N (Kd.S_bound ho0)) (fun k_ hk_ => ⟨(Nat.le_trans (below_size (by repeat (first | (with_reducible first | exact HB.out | apply below_alloc | apply pw_below_drewN | apply below_drew1 | refine below_set ?_ GE882.out | refine below_set ?_ GE883.out) | exact HB.out))) hk_.2.1), (Kd.freshB (g := gb882) (o := .cells #[.slice A0_0 l0_0.length c0_0, .slice A0_1 l0_1.length c0_1, .slice A0_2 l0_2.length c0_2] 49 (0, 0)) (qK BK882.out) k_ hk_.2.1), (Kd.freshB (g := gb883) (o := .cells #[.slice none 0 0, .slice none 0 0] 25 (0, 0)) (qK BK883.out) k_ hk_.2.1)⟩)) (below_size (by repeat (first | (with_reducible first | exact HB.out | apply below_alloc | apply pw_below_drewN | apply below_drew1 | refine below_set ?_ GE882.out | refine below_set ?_ GE883.out) | exact HB.out)))); have n1_ := Aside0.mk (blk_below (g := gb882) (o := .cells #[.slice A0_0 l0_0.length c0_0, .slice A0_1 l0_1.length c0_1, .slice A0_2 l0_2.length c0_2] 49 (0, 0)) (qK BK882.out) hb); have n2_ := Aside0.mk (blk_below (g := gb883) (o := .cells #[.slice none 0 0, .slice none 0 0] 25 (0, 0)) (qK BK883.out) hb); have n3_ := Aside0.mk (below_step (by repeat (first | (with_reducible first | exact HB.out | apply below_alloc | apply pw_below_drewN | apply below_drew1 | refine below_set ?_ GE882.out | refine below_set ?_ GE883.out) | exact HB.out)) hb); clear BK882; clear BK883; clear HB; have HO886 := n0_; have BK882 := n1_; have BK883 := n2_; have HB := n3_; clear n0_ n1_ n2_ n3_; (try clear hb); (try clear hb2); (try clear hk); (try clear hi); (try clear ho0); obtain ⟨Ao10, co10, eo10⟩ := Kd.N_slice HO886.out; subst eo10) | ((with_reducible refine gate_callee (f := 63) rfl ?_); refine goesL_ (some 8) rfl rfl Try.func63 (by kernel_rfl) rfl #[.slice Ao10 t884.length co10, .slice A1 l1.length c1] rfl qM ?_; (with_reducible refine (arboristref11_Build.calls k _ _ t884 _ _ l1 t887 t890 _ ?side1 ?side2 ?side3 ?side4 A4.out).mono ?_); (case side1 => exact qC (Kd.N_reads' HO886.out).2.2); (case side2 => exact (Kd.N_reads' HO886.out).2.1); (case side3 => exact qC (Kd.C_below HR1.out HB.out)); (case side4 => exact HC1.out); rintro e w11 ⟨v888, v891, rfl, ho0, ho1, hb⟩; refine ⟨_, rfl, ?_⟩; have n0_ := Aside0.mk (Kd.N_mono (Kd.N_told (Kd.N_told (Kd.N_old (qN HO886.out) hb) (by first | exact Kd.N_base ho0 | exact Kd.N_base (Kd.S_N ho0))) (Kd.R_base ho1)) (fun _ h_ => h_.1)); have n1_ := Aside0.mk (Kd.N_lower (Kd.N_mono (ok' := fun k_ => (w.heap.size ≤ k_) ∧ some k_ ≠ (v891 : Value).ownBlock ∧ some k_ ≠ (.slice Ao10 t884.length co10 : Value).ownBlock ∧ k_ ≠ gb882 ∧ k_ ≠ gb883) ho0 (fun k_ hk_ => ⟨(Nat.le_trans (below_size (by repeat (first | (with_reducible first | exact HB.out | apply below_alloc | apply pw_below_drewN | apply below_drew1 | refine below_set ?_ GE882.out | refine below_set ?_ GE883.out) | exact HB.out))) hk_.1), hk_.2, (Kd.fresh' (Kd.N_lt (qN HO886.out)) k_ hk_.1), (Kd.freshB (g := gb882) (o := .cells #[.slice A0_0 l0_0.length c0_0, .slice A0_1 l0_1.length c0_1, .slice A0_2 l0_2.length c0_2] 49 (0, 0)) (qK BK882.out) k_ hk_.1), (Kd.freshB (g := gb883) (o := .cells #[.slice none 0 0, .slice none 0 0] 25 (0, 0)) (qK BK883.out) k_ hk_.1)⟩)) (below_size (by repeat (first | (with_reducible first | exact HB.out | apply below_alloc | apply pw_below_drewN | apply below_drew1 | refine below_set ?_ GE882.out | refine below_set ?_ GE883.out) | exact HB.out)))); have n2_ := Aside0.mk (Kd.R_lower (Kd.R_newM (M := fun k_ => (w.heap.size ≤ k_)) (Kd.R_mono (ok' := fun k_ => True) ho1 (fun _ hk_ => trivial)) (below_size (by repeat (first | (with_reducible first | exact HB.out | apply below_alloc | apply pw_below_drewN | apply below_drew1 | refine below_set ?_ GE882.out | refine below_set ?_ GE883.out) | exact HB.out))) (fun k_ h_ => h_)) (below_size (by repeat (first | (with_reducible first | exact HB.out | apply below_alloc | apply pw_below_drewN | apply below_drew1 | refine below_set ?_ GE882.out | refine below_set ?_ GE883.out) | exact HB.out)))); have n3_ := Aside0.mk (blk_below (g := gb882) (o := .cells #[.slice A0_0 l0_0.length c0_0, .slice A0_1 l0_1.length c0_1, .slice A0_2 l0_2.length c0_2] 49 (0, 0)) (qK BK882.out) hb); have n4_ := Aside0.mk (blk_below (g := gb883) (o := .cells #[.slice none 0 0, .slice none 0 0] 25 (0, 0)) (qK BK883.out) hb); have n5_ := Aside0.mk (below_step (by repeat (first | (with_reducible first | exact HB.out | apply below_alloc | apply pw_below_drewN | apply below_drew1 | refine below_set ?_ GE882.out | refine below_set ?_ GE883.out) | exact HB.out)) hb); clear HO886; clear BK882; clear BK883; clear HB; have HO886 := n0_; have HO889 := n1_; have HO892 := n2_; have BK882 := n3_; have BK883 := n4_; have HB := n5_; clear n0_ n1_ n2_ n3_ n4_ n5_; (try clear hb); (try clear hb2); (try clear hk); (try clear hi); (try clear ho0); (try clear ho1); obtain ⟨Ao12, co12, eo12⟩ := Kd.N_slice HO889.out; subst eo12; have hcz13_0 : w11.cell? ⟨gb883, 0, none⟩ = some (.slice none 0 0) := (blk_cell BK883.out 0).trans rfl; have hcz13_1 : w11.cell? ⟨gb883, 1, none⟩ = some (.slice none 0 0) := (blk_cell BK883.out 1).trans rfl; have hfz13_0 := blk_frozen BK883.out 0; have hfz13_1 := blk_frozen BK883.out 1; obtain ⟨Ao14, co14, eo14⟩ := Kd.R_slice HO892.out; subst eo14))
 refine bodyPost_ret (results_cell_row rfl _ _ gb883 25 #[.slice Ao12 t887.length co12, .slice Ao14 t890.length co14] (0, 0) _ rfl (by (with_reducible repeat (first | refine blk_drewN ?_ _ | refine blk_drew ?_ | refine blk_alloc ?_ _)); refine blk_put (cs := #[.slice Ao12 t887.length co12, .slice none 0 0]) ?_ 1 _ rfl; (with_reducible repeat (first | refine blk_drewN ?_ _ | refine blk_drew ?_ | refine blk_alloc ?_ _)); refine blk_put (cs := #[.slice none 0 0, .slice none 0 0]) ?_ 0 _ rfl; (with_reducible repeat (first | refine blk_drewN ?_ _ | refine blk_drew ?_ | refine blk_alloc ?_ _)); exact BK883.out) Try.underlying25 rfl (by kernel_rfl)) rfl ?_;exact ⟨_, _, by first | rfl | (simp [errW_none, errW_some] <;> rfl) | (simp [*, errW_none, errW_some] <;> rfl), by (with_reducible repeat (first | apply Kd.N_alloc | apply Kd.N_drewN | apply Kd.N_drew)); exact Kd.N_mono (Kd.N_far (p := ⟨gb883, 1, none⟩) (Kd.N_far (p := ⟨gb883, 0, none⟩) (Kd.N_mono HO889.out (fun k_ hk => (⟨hk, hk.2.2.2.2⟩ : _ ∧ k_ ≠ gb883))) (fun _ hk => hk.2) (.slice Ao12 t887.length co12)) (fun _ hk => hk.2) (.slice Ao14 t890.length co14)) (fun _ hk => ⟨hk.1.1, hk.1.2.1⟩), by (with_reducible repeat (first | apply Kd.R_alloc | apply Kd.R_drewN | apply Kd.R_drew)); exact Kd.R_mono (Kd.R_far (p := ⟨gb883, 1, none⟩) (Kd.R_far (p := ⟨gb883, 0, none⟩) (Kd.R_types HO892.out BK883.out (by decide)) (fun _ hk => hk.2) (.slice Ao12 t887.length co12)) (fun _ hk => hk.2) (.slice Ao14 t890.length co14)) (fun _ hk => hk.1.1), by repeat (first | (with_reducible first | exact HB.out | apply below_alloc | apply pw_below_drewN | apply below_drew1 | refine below_set ?_ GE882.out | refine below_set ?_ GE883.out) | exact HB.out)⟩
end Go.Proofs.Ytpmfdggbccbfaaa.Pr
