-- Printed by wip/tools/pp.py over the kit's print.py, several texts in one (wip/tools/mergepr.py); Lean checks it.
import Derived.Test.YtopjffgmpphdbaaDoorPr0
namespace Go.Proofs.YtopjffgmpphdbaaDoor.Pr
open Go.RowKit Go.Proofs.YtopjffgmpphdbaaDoorW.PrintWords Go.Proofs.YtopjffgmpphdbaaDoorW.PrintLast Go.Proofs.YtopjffgmpphdbaaDoorW.PrintMore
attribute [local go_sem] max2_int min2_int max_two min_two max_three min_three max_four min_four
set_option linter.unusedVariables false
set_option linter.unusedSimpArgs false
/-! ### arboristref09_Valid: function 17 -/
mutual
def arboristref09_Valid.l0 : Nat → Int → List Int → Int → Option (Bool)
 | 0, _, _, _ => none
 | k + 1, x0, x1, x5 => if x5 < x0 then (arboristref09_Valid.l1 k x0 x1 x5 0 0) else (some true)
def arboristref09_Valid.l1 : Nat → Int → List Int → Int → Int → Int → Option (Bool)
 | 0, _, _, _, _, _ => none
 | k + 1, x0, x1, x5, x6, x7 => if x7 < x0 then (if 0 ≤ x7 then (if x7 < (x1.length : Int) then (if (rd x1 x7) = x5 then (arboristref09_Valid.l1 k x0 x1 x5 (wrap64 (x6 + 1)) (wrap64 (x7 + 1))) else (arboristref09_Valid.l1 k x0 x1 x5 x6 (wrap64 (x7 + 1)))) else (none)) else (none)) else (if x6 = 1 then (arboristref09_Valid.l0 k x0 x1 (wrap64 (x5 + 1))) else (some false))
end
def arboristref09_Valid.f (k : Nat) (a0 : Int) (l1 : List Int) : Option (Bool) := if (l1.length : Int) = a0 then (arboristref09_Valid.l0 k a0 l1 0) else (some false)
set_option maxHeartbeats 8000000 in
set_option maxRecDepth 100000 in
theorem arboristref09_Valid.calls (k : Nat) (a0 : Int) (A1 : Option Addr) (c1 : Nat) (l1 : List Int) (r : Bool) (w : World) (hr1 : Kd.C (Kd.int .i64) w A1 l1.length l1) (hc1 : l1.length ≤ c1) (h : arboristref09_Valid.f k a0 l1 = some r) :
  Calls Tryd.prog 17 #[.int .i64 a0, .slice A1 l1.length c1] w fun e w' => e = .returned (.bool r) ∧ Drawn0 w w' := by
 have HR1 := Aside0.mk hr1;have HC1 := Aside0.mk hc1;clear hr1 hc1;have H : (if (l1.length : Int) = a0 then (arboristref09_Valid.l0 k a0 l1 0) else (some false)) = some r := h;clear h;by_cases c3 : (l1.length : Int) = a0
 ·rw [if_pos c3] at H
  have c3b0 : ((l1.length : Int) == a0) = true := beq_iff_eq.mpr c3;have c3b1 : ((l1.length : Int) != a0) = false := bne_eq_false_iff_eq.mpr c3;clear c3;have H' := Aside0.mk H;clear H;go_enter Tryd.func17, Tryd.ntmps17
  go_wp2
  go_loopg [5] k (fun kq v5 w' => ∃ (x5_1 : Int), v5 = .int .i64 x5_1 ∧ Aside0 (arboristref09_Valid.l0 kq a0 l1 x5_1 = some r) ∧ Aside0 (kq ≤ k) ∧ Drawn0 w w')
  case atStart => exact ⟨(0), (by first | rfl | (simp; done) | (simp [*]; done)), H', ⟨Nat.le_refl _⟩, by repeat (first | exact Drawn0.refl _ | apply Drawn0.step)⟩
  case round =>
   clear H';try clear c1
   try clear p2
   try clear c3
   try clear c3b0
   try clear c3b1
   obtain ⟨x5_1, rfl, HA, HK1, ⟨m1, rfl⟩⟩ := hrel;cases gk with
   | zero => exact absurd HA.out (by simp [arboristref09_Valid.l0])
   | succ k1 =>
    have H := HA.out;clear HA;simp only [arboristref09_Valid.l0] at H
    by_cases c4 : x5_1 < a0
    ·rw [if_pos c4] at H
     have c4b0 : decide (x5_1 < a0) = true := decide_eq_true c4;clear c4;have H' := Aside0.mk H;clear H;go_wp2
     go_loopg [6, 7] k1 (fun kq v6 v7 w' => ∃ (x6_2 : Int) (x7_2 : Int), v6 = .int .i64 x6_2 ∧ v7 = .int .i64 x7_2 ∧ Aside0 (arboristref09_Valid.l1 kq a0 l1 x5_1 x6_2 x7_2 = some r) ∧ Aside0 (kq ≤ k1) ∧ Drawn0 w w')
     case atStart => exact ⟨(0), (0), (by first | rfl | (simp; done) | (simp [*]; done)), (by first | rfl | (simp; done) | (simp [*]; done)), H', ⟨Nat.le_refl _⟩, by repeat (first | exact Drawn0.refl _ | apply Drawn0.step)⟩
     case round =>
      clear H';try clear c1
      try clear p2
      try clear c3
      try clear c3b0
      try clear c3b1
      try clear c4
      try clear c4b0
      try clear p2
      obtain ⟨x6_2, x7_2, rfl, rfl, HA, HK2, ⟨m2, rfl⟩⟩ := hrel;cases gk with
      | zero => exact absurd HA.out (by simp [arboristref09_Valid.l1])
      | succ k2 =>
       have H := HA.out;clear HA;simp only [arboristref09_Valid.l1] at H
       by_cases c5 : x7_2 < a0
       ·rw [if_pos c5] at H
        have c5b0 : decide (x7_2 < a0) = true := decide_eq_true c5;clear c5;by_cases c6 : 0 ≤ x7_2
        ·rw [if_pos c6] at H
         have c6b0 : decide (0 ≤ x7_2) = true := decide_eq_true c6;clear c6;by_cases c7 : x7_2 < (l1.length : Int)
         ·rw [if_pos c7] at H
          have c7b0 : decide (x7_2 < (l1.length : Int)) = true := decide_eq_true c7;clear c7;by_cases c8 : (rd l1 x7_2) = x5_1
          ·rw [if_pos c8] at H
           have c8b0 : ((rd l1 x7_2) == x5_1) = true := beq_iff_eq.mpr c8;have c8b1 : ((rd l1 x7_2) != x5_1) = false := bne_eq_false_iff_eq.mpr c8;clear c8;have H' := Aside0.mk H;clear H;have p385 : 0 ≤ (x7_2 : Int) := of_decide_eq_true qA;have q385 : x7_2 < (l1.length : Int) := of_decide_eq_true qA;obtain ⟨ad385, e385, hx385_0⟩ := Kd.at_int HR1.out x7_2 p385 q385;cases e385
           replace p385 := eq_true p385;replace q385 := eq_true q385;go_wp2
           go_roundg k2
           case measure => have := HK1.out; have := HK2.out; omega
           case rel => exact ⟨(wrap64 (x6_2 + 1)), (wrap64 (x7_2 + 1)), (by first | rfl | (simp; done) | (simp [*]; done)), (by first | rfl | (simp; done) | (simp [*]; done)), H', ⟨by have := HK1.out; have := HK2.out; omega⟩, by repeat (first | exact Drawn0.refl _ | apply Drawn0.step)⟩
          ·rw [if_neg c8] at H
           have c8b0 : ((rd l1 x7_2) == x5_1) = false := beq_eq_false_iff_ne.mpr c8;have c8b1 : ((rd l1 x7_2) != x5_1) = true := bne_iff_ne.mpr c8;have H' := Aside0.mk H;clear H;have p385 : 0 ≤ (x7_2 : Int) := of_decide_eq_true qA;have q385 : x7_2 < (l1.length : Int) := of_decide_eq_true qA;obtain ⟨ad385, e385, hx385_0⟩ := Kd.at_int HR1.out x7_2 p385 q385;cases e385
           replace p385 := eq_true p385;replace q385 := eq_true q385;go_wp2
           go_roundg k2
           case measure => have := HK1.out; have := HK2.out; omega
           case rel => exact ⟨(x6_2), (wrap64 (x7_2 + 1)), (by first | rfl | (simp; done) | (simp [*]; done)), (by first | rfl | (simp; done) | (simp [*]; done)), H', ⟨by have := HK1.out; have := HK2.out; omega⟩, by repeat (first | exact Drawn0.refl _ | apply Drawn0.step)⟩
         ·rw [if_neg c7] at H
          exact absurd H (by simp)
        ·rw [if_neg c6] at H
         exact absurd H (by simp)
       ·rw [if_neg c5] at H
        have c5b0 : decide (x7_2 < a0) = false := decide_eq_false c5;clear c5;by_cases c9 : x6_2 = 1
        ·rw [if_pos c9] at H
         have c9b0 : (x6_2 == 1) = true := beq_iff_eq.mpr c9;have c9b1 : (x6_2 != 1) = false := bne_eq_false_iff_eq.mpr c9;clear c9;have H' := Aside0.mk H;clear H;go_wp2
         go_roundg k2
         case measure => have := HK1.out; have := HK2.out; omega
         case rel => exact ⟨(wrap64 (x5_1 + 1)), (by first | rfl | (simp; done) | (simp [*]; done)), H', ⟨by have := HK1.out; have := HK2.out; omega⟩, by repeat (first | exact Drawn0.refl _ | apply Drawn0.step)⟩
        ·rw [if_neg c9] at H
         have c9b0 : (x6_2 == 1) = false := beq_eq_false_iff_ne.mpr c9;have c9b1 : (x6_2 != 1) = true := bne_iff_ne.mpr c9;obtain rfl := Option.some.inj H;go_wp2
         go_ret
         exact ⟨by first | rfl | (simp; done) | (simp [*]; done), by repeat (first | exact Drawn0.refl _ | apply Drawn0.step)⟩
    ·rw [if_neg c4] at H
     have c4b0 : decide (x5_1 < a0) = false := decide_eq_false c4;clear c4;obtain rfl := Option.some.inj H;go_wp2
     go_ret
     exact ⟨by first | rfl | (simp; done) | (simp [*]; done), by repeat (first | exact Drawn0.refl _ | apply Drawn0.step)⟩
 ·rw [if_neg c3] at H
  have c3b0 : ((l1.length : Int) == a0) = false := beq_eq_false_iff_ne.mpr c3;have c3b1 : ((l1.length : Int) != a0) = true := bne_iff_ne.mpr c3;obtain rfl := Option.some.inj H;go_enter Tryd.func17, Tryd.ntmps17
  go_wp2
  go_ret
  exact ⟨by first | rfl | (simp; done) | (simp [*]; done), by repeat (first | exact Drawn0.refl _ | apply Drawn0.step)⟩
/-! ### arboristref09_Copy: function 35 -/
def arboristref09_Copy.l0 : Nat → List (List Bool) → List (List Bool) → Int → Option ((List (List Bool)))
 | 0, _, _, _ => none
 | k + 1, x0, x3, x4 => if x4 < (x0.length : Int) then ((some (([] : List Bool) : List Bool)).bind fun y389 => (if 0 ≤ x4 then (if y389.length + (rd_L7 x0 x4).length < 140737488355328 then (if x3.length < 5864062014805 then (arboristref09_Copy.l0 k x0 (x3 ++ [(y389 ++ (rd_L7 x0 x4))]) (wrap64 (x4 + 1))) else (none)) else (none)) else (none))) else (some x3)
def arboristref09_Copy.f (k : Nat) (l0 : List (List Bool)) : Option ((List (List Bool))) := arboristref09_Copy.l0 k l0 (([] : List (List Bool))) 0
set_option maxHeartbeats 8000000 in
set_option maxRecDepth 100000 in
theorem arboristref09_Copy.calls (k : Nat) (A0 : Option Addr) (c0 : Nat) (l0 : List (List Bool)) (r : List (List Bool)) (w : World) (hr0 : Kd.C (Kd.slice 4 Kd.bool) w A0 l0.length l0) (hc0 : l0.length ≤ c0) (h : arboristref09_Copy.f k l0 = some r) :
  Calls Tryd.prog 35 #[.slice A0 l0.length c0] w fun e w' => ∃ v0_ : Value, e = .returned (v0_) ∧ Kd.S (Kd.slice 4 Kd.bool) 55 w' w.heap.size (fun _ => True) v0_ r ∧ Below w.heap.size w w' := by
 have HR0 := Aside0.mk hr0;have HC0 := Aside0.mk hc0;clear hr0 hc0;have HB := Aside0.mk (Below.refl w.heap.size w);have H : (arboristref09_Copy.l0 k l0 (([] : List (List Bool))) 0) = some r := h;clear h;obtain ⟨y386, hy386⟩ : ∃ y_ : List (List Bool), y_ = (([] : List (List Bool))) := ⟨_, rfl⟩;replace H : (arboristref09_Copy.l0 k l0 y386 0) = some r := by first | (rw [hy386]; with_reducible exact H) | (have H2_ := (Option.bind_some _ _).symm.trans H; rw [hy386]; with_reducible exact H2_) | (have H2_ := (Option.bind_some _ _).symm.trans H; with_reducible exact H2_) | with_reducible exact H | (rw [hy386]; exact H) | exact H
 have Ny386 := Aside0.mk hy386;clear hy386;have H' := Aside0.mk H;clear H;go_enter Tryd.func35, Tryd.ntmps35
 go_wp2_with (first | ((with_reducible refine gate_dst (N := 5) rfl ?_); refine Kd.S_lit (Kd.slice 4 Kd.bool) _ 55 ?hg (N := 5) ?hd (xs := ([] : List (List Bool))) (inner := []) (ok := fun _ => True) (okp := fun _ => True) ?hr ?hp (fun _ hk => hk) trivial (Below.refl _ _) (Nat.le_refl _) (by simp) ?_; (case hd => rfl); (case hg => rfl); (case hr => first | (go_simp; done) | (go_simp; rfl)); (case hp => exact (Reps.none _ _)); intro v387 w2 ho3 hb hg_ hnew_; clear hg_ hnew_; (first | rw [← Ny386.out] at ho3 | (simp only [Int.reduceToNat] at ho3; rw [← Ny386.out] at ho3)); have n0_ := Aside0.mk (Kd.S_lower ho3 (below_size (qB HB.out))); have n1_ := Aside0.mk (below_step (qB HB.out) hb); clear HB; have HO388 := n0_; have HB := n1_; clear n0_ n1_; clear hb ho3))
 go_loopg [3, 4] k (fun kq v3 v4 w' => ∃ (x3_1 : List (List Bool)) (x4_1 : Int), v4 = .int .i64 x4_1 ∧ Aside0 (arboristref09_Copy.l0 kq l0 x3_1 x4_1 = some r) ∧ Aside0 (kq ≤ k) ∧ Aside0 (Kd.S (Kd.slice 4 Kd.bool) 55 w' w.heap.size (fun _ => True) v3 x3_1) ∧ Aside0 (Below w.heap.size w w'))
 case atStart => exact ⟨(y386), (0), (by first | rfl | (simp; done) | (simp [*]; done)), H', ⟨Nat.le_refl _⟩, ⟨by (with_reducible repeat (first | apply Kd.S_alloc | apply Kd.S_drewN | apply Kd.S_drew)); exact HO388.out⟩, ⟨by repeat (first | (with_reducible first | exact HB.out | apply below_alloc | apply pw_below_drewN | apply below_drew1) | exact HB.out)⟩⟩
 case round =>
  clear H';try clear p2
  try clear c3
  obtain ⟨x3_1, x4_1, rfl, HA, HK1, HO_3, HB⟩ := hrel;cases gk with
  | zero => exact absurd HA.out (by simp [arboristref09_Copy.l0])
  | succ k1 =>
   have H := HA.out;clear HA;simp only [arboristref09_Copy.l0] at H
   by_cases c4 : x4_1 < (l0.length : Int)
   ·rw [if_pos c4] at H
    have c4b0 : decide (x4_1 < (l0.length : Int)) = true := decide_eq_true c4;clear c4;obtain ⟨y389, hy389⟩ : ∃ y_ : List Bool, y_ = (([] : List Bool)) := ⟨_, rfl⟩;replace H : (if 0 ≤ x4_1 then (if y389.length + (rd_L7 l0 x4_1).length < 140737488355328 then (if x3_1.length < 5864062014805 then (arboristref09_Copy.l0 k1 l0 (x3_1 ++ [(y389 ++ (rd_L7 l0 x4_1))]) (wrap64 (x4_1 + 1))) else (none)) else (none)) else (none)) = some r := by first | (rw [hy389]; with_reducible exact H) | (have H2_ := (Option.bind_some _ _).symm.trans H; rw [hy389]; with_reducible exact H2_) | (have H2_ := (Option.bind_some _ _).symm.trans H; with_reducible exact H2_) | with_reducible exact H | (rw [hy389]; exact H) | exact H
    have Ny389 := Aside0.mk hy389;clear hy389;by_cases c5 : 0 ≤ x4_1
    ·rw [if_pos c5] at H
     have c5b0 : decide (0 ≤ x4_1) = true := decide_eq_true c5;clear c5;by_cases c6 : y389.length + (rd_L7 l0 x4_1).length < 140737488355328
     ·rw [if_pos c6] at H
      have LMc6 := Aside0.mk c6;clear c6;obtain ⟨y393, hy393⟩ : ∃ y_ : List Bool, y_ = (y389 ++ (rd_L7 l0 x4_1)) := ⟨_, rfl⟩;replace H : (if x3_1.length < 5864062014805 then (arboristref09_Copy.l0 k1 l0 (x3_1 ++ [y393]) (wrap64 (x4_1 + 1))) else (none)) = some r := by first | (rw [hy393]; with_reducible exact H) | (have H2_ := (Option.bind_some _ _).symm.trans H; rw [hy393]; with_reducible exact H2_) | (have H2_ := (Option.bind_some _ _).symm.trans H; with_reducible exact H2_) | with_reducible exact H | (rw [hy393]; exact H) | exact H
      have Ny393 := Aside0.mk hy393;clear hy393;by_cases c7 : x3_1.length < 5864062014805
      ·rw [if_pos c7] at H
       have LMc7 := Aside0.mk c7;clear c7;obtain ⟨y396, hy396⟩ : ∃ y_ : List (List Bool), y_ = (x3_1 ++ [y393]) := ⟨_, rfl⟩;replace H : (arboristref09_Copy.l0 k1 l0 y396 (wrap64 (x4_1 + 1))) = some r := by first | (rw [hy396]; with_reducible exact H) | (have H2_ := (Option.bind_some _ _).symm.trans H; rw [hy396]; with_reducible exact H2_) | (have H2_ := (Option.bind_some _ _).symm.trans H; with_reducible exact H2_) | with_reducible exact H | (rw [hy396]; exact H) | exact H
       have Ny396 := Aside0.mk hy396;clear hy396;have H' := Aside0.mk H;clear H;go_wp2_with (first | ((with_reducible refine gate_dst (N := 13) rfl ?_); refine Kd.R_lit Kd.bool _ 4 ?hg (N := 13) ?hd (xs := ([] : List Bool)) (inner := []) (ok := fun _ => True) (okp := fun _ => True) ?hr ?hp (fun _ hk => hk) trivial (Below.refl _ _) (Nat.le_refl _) (by simp) ?_; (case hd => rfl); (case hg => rfl); (case hr => first | (go_simp; done) | (go_simp; rfl)); (case hp => exact (Reps.none _ _)); intro v390 w8 ho9 hb hg_ hnew_; clear hg_ hnew_; (first | rw [← Ny389.out] at ho9 | (simp only [Int.reduceToNat] at ho9; rw [← Ny389.out] at ho9)); have n0_ := Aside0.mk (Kd.S_elder' (qS HO_3.out) (Kd.R_base ho9) hb); have n1_ := Aside0.mk (Kd.R_lower ho9 (below_size (qB HB.out))); have n2_ := Aside0.mk (below_step (qB HB.out) hb); clear HO_3; clear HB; have HO_3 := n0_; have HO391 := n1_; have HB := n2_; clear n0_ n1_ n2_; clear hb ho9; have p392 : 0 ≤ (x4_1 : Int) := of_decide_eq_true qA; have q392 : x4_1 < (l0.length : Int) := of_decide_eq_true qA; obtain ⟨ad392, A392_0, c392_0, e392, hx392_0, hl392_0, hi392_0⟩ := at_L7 HR0.out x4_1 p392 q392; cases e392; replace hx392_0 := (HB.out.cell (World.block_lt_of_cell? w _ hx392_0)).trans hx392_0; have HR392_0 := Aside0.mk hi392_0; have HC392_0 := Aside0.mk hl392_0; clear hi392_0 hl392_0; replace p392 := eq_true p392; replace q392 := eq_true q392) | ((with_reducible refine gate_builtin (b := .append) (xs := #[.tmp 13, .tmp 17]) rfl ?_); at_builtin; refine Kd.R_append_rows Kd.bool (w0 := w) w.heap.size rfl (.tmp 13) (.tmp 17) 55 4 (.bool false) 1 rfl Tryd.underlying55 info4 rfl (by decide) (by omega) v390 y389 (rd_L7 l0 x4_1) _ _ _ (fun _ => True) (fun _ => False) rfl rfl ?aO ?aR (fun _ _ h => h) (fun _ h => h.elim) ?aF ?aB ?aS ?aL ?_; (case aR => repeat (first | exact (Kd.C_below HR392_0.out HB.out) | (with_reducible refine Kd.C_alloc ?_ _) | (with_reducible refine Kd.C_drewN ?_ _) | (with_reducible refine Kd.C_drew ?_))); (case aB => exact (qB HB.out)); (case aF => exact (fun _ _ => trivial)); (case aO => exact (qR HO391.out)); (case aS => exact (below_size (qB HB.out))); (case aL => have := LMc6.out; omega); intro v394 w10 ho hb hg hat; rw [← Ny393.out] at ho; have n0_ := Aside0.mk (Kd.S_after (ok := (fun _ => True)) (qS HO_3.out) hg hat); have n1_ := Aside0.mk (hb); have n2_ := Aside0.mk (ho); clear HO_3; clear HB; clear HO391; have HO_3 := n0_; have HB := n1_; have HO395 := n2_; clear n0_ n1_ n2_; clear ho hb hg hat; obtain ⟨Ao12, co12, eo12⟩ := Kd.R_slice HO395.out; subst eo12) | ((with_reducible refine gate_builtin (b := .append) (xs := #[.tmp 12, .tmp 19]) rfl ?_); at_builtin; refine Kd.S_append (Kd.slice 4 Kd.bool) (w0 := w) w.heap.size rfl (.tmp 12) (.tmp 19) 25 55 (.slice none 0 0) 24 rfl Tryd.underlying25 info55 rfl (by decide) (by omega) u3 x3_1 y393 [.slice Ao12 y393.length co12] (fun _ => True) (fun k_ => some k_ = (.slice Ao12 y393.length co12 : Value).ownBlock) rfl rfl ?aP (fun k_ hk_ => ((Kd.R_mono (ok' := fun k_ => ((fun _ => True)) k_ ∧ some k_ ≠ (u3 : Value).ownBlock) (Kd.R_apart' (HO395.out) (Kd.S_typed HO_3.out) (by decide)) (fun k_ hk => ⟨trivial, hk.2⟩))).1 k_ hk_.symm) ?aF ?aO ?aB ?aS ?aL ?_; (case aP => exact Kd.M_row (Kd.R_mono (Kd.R_tight rfl (Kd.R_mono (ok' := fun k_ => ((fun _ => True)) k_ ∧ some k_ ≠ (u3 : Value).ownBlock) (Kd.R_apart' (HO395.out) (Kd.S_typed HO_3.out) (by decide)) (fun k_ hk => ⟨trivial, hk.2⟩))) (fun _ h_ => h_))); (case aB => exact (qB HB.out)); (case aF => exact (fun _ _ => trivial)); (case aO => exact (by (with_reducible repeat (first | apply Kd.S_alloc | apply Kd.S_drewN | apply Kd.S_drew)); exact Kd.S_mono HO_3.out (fun k_ hk => ⟨trivial, fun e_ => hk.2 e_⟩))); (case aS => exact (below_size (qB HB.out))); (case aL => have := LMc7.out; omega); intro v397 w11 ho hb hg hat; rw [← Ny396.out] at ho; have n0_ := Aside0.mk (hb); have n1_ := Aside0.mk (ho); clear HB; clear HO_3; clear HO395; have HB := n0_; have HO398 := n1_; clear n0_ n1_; clear ho hb hg hat))
       go_roundg k1
       case measure => have := HK1.out; omega
       case rel => exact ⟨(y396), (wrap64 (x4_1 + 1)), (by first | rfl | (simp; done) | (simp [*]; done)), H', ⟨by have := HK1.out; omega⟩, ⟨by (with_reducible repeat (first | apply Kd.S_alloc | apply Kd.S_drewN | apply Kd.S_drew)); exact HO398.out⟩, ⟨by repeat (first | (with_reducible first | exact HB.out | apply below_alloc | apply pw_below_drewN | apply below_drew1) | exact HB.out)⟩⟩
      ·rw [if_neg c7] at H
       exact absurd H (by simp)
     ·rw [if_neg c6] at H
      exact absurd H (by simp)
    ·rw [if_neg c5] at H
     exact absurd H (by simp)
   ·rw [if_neg c4] at H
    have c4b0 : decide (x4_1 < (l0.length : Int)) = false := decide_eq_false c4;clear c4;obtain rfl := Option.some.inj H;go_wp2
    go_ret
    exact ⟨_, by first | rfl | (simp [errW_none, errW_some] <;> rfl) | (simp [*, errW_none, errW_some] <;> rfl), by (with_reducible repeat (first | apply Kd.S_alloc | apply Kd.S_drewN | apply Kd.S_drew)); exact HO_3.out, by repeat (first | (with_reducible first | exact HB.out | apply below_alloc | apply pw_below_drewN | apply below_drew1) | exact HB.out)⟩
end Go.Proofs.YtopjffgmpphdbaaDoor.Pr
namespace Go.Proofs.YtopjffgmpphdbaaDoor.Pr
open Go.RowKit Go.Proofs.YtopjffgmpphdbaaDoorW.PrintWords Go.Proofs.YtopjffgmpphdbaaDoorW.PrintLast Go.Proofs.YtopjffgmpphdbaaDoorW.PrintMore
attribute [local go_sem] max2_int min2_int max_two min_two max_three min_three max_four min_four
set_option linter.unusedVariables false
set_option linter.unusedSimpArgs false
/-! ### arboristref08_Neighbors: function 39 -/
mutual
def arboristref08_Neighbors.l0 : Nat → List (List Bool) → Int → List Int → Int → Option (List Int)
 | 0, _, _, _, _ => none
 | k + 1, x0, x1, x5, x6 => if x6 < (x0.length : Int) then (if x1 ≥ 0 then (arboristref08_Neighbors.j1 k x0 x1 x5 x6 (decide (x1 < (x0.length : Int)))) else (arboristref08_Neighbors.j1 k x0 x1 x5 x6 false)) else (arboristref08_Neighbors.j1 k x0 x1 x5 x6 false)
def arboristref08_Neighbors.j1 : Nat → List (List Bool) → Int → List Int → Int → Bool → Option (List Int)
 | 0, _, _, _, _, _ => none
 | k + 1, x0, x1, x5, x6, x21 => if x21 = true then (if 0 ≤ x1 then (if x1 < (x0.length : Int) then (if 0 ≤ x6 then (if x6 < ((rd_L7 x0 x1).length : Int) then (if rdOf false (rd_L7 x0 x1) x6 = true then (if x5.length < 17592186044416 then (arboristref08_Neighbors.l0 k x0 x1 (x5 ++ [x6]) (wrap64 (x6 + 1))) else (none)) else (arboristref08_Neighbors.l0 k x0 x1 x5 (wrap64 (x6 + 1)))) else (none)) else (none)) else (none)) else (none)) else (some x5)
end
def arboristref08_Neighbors.f (k : Nat) (l0 : List (List Bool)) (a1 : Int) : Option (List Int) := arboristref08_Neighbors.l0 k l0 a1 (([] : List Int)) 0
set_option maxHeartbeats 8000000 in
set_option maxRecDepth 100000 in
theorem arboristref08_Neighbors.calls (k : Nat) (A0 : Option Addr) (c0 : Nat) (l0 : List (List Bool)) (a1 : Int) (r : List Int) (w : World) (hr0 : Kd.C (Kd.slice 4 Kd.bool) w A0 l0.length l0) (hc0 : l0.length ≤ c0) (h : arboristref08_Neighbors.f k l0 a1 = some r) :
  Calls Tryd.prog 39 #[.slice A0 l0.length c0, .int .i64 a1] w fun e w' => ∃ v0_ : Value, e = .returned (v0_) ∧ Kd.R (Kd.int .i64) 3 w' w.heap.size (fun _ => True) v0_ r ∧ Below w.heap.size w w' := by
 have HR0 := Aside0.mk hr0;have HC0 := Aside0.mk hc0;clear hr0 hc0;have HB := Aside0.mk (Below.refl w.heap.size w);have H : (arboristref08_Neighbors.l0 k l0 a1 (([] : List Int)) 0) = some r := h;clear h;obtain ⟨y399, hy399⟩ : ∃ y_ : List Int, y_ = (([] : List Int)) := ⟨_, rfl⟩;replace H : (arboristref08_Neighbors.l0 k l0 a1 y399 0) = some r := by first | (rw [hy399]; with_reducible exact H) | (have H2_ := (Option.bind_some _ _).symm.trans H; rw [hy399]; with_reducible exact H2_) | (have H2_ := (Option.bind_some _ _).symm.trans H; with_reducible exact H2_) | with_reducible exact H | (rw [hy399]; exact H) | exact H
 have Ny399 := Aside0.mk hy399;clear hy399;have H' := Aside0.mk H;clear H;go_enter Tryd.func39, Tryd.ntmps39
 go_wp2_with (first | ((with_reducible refine gate_dst (N := 7) rfl ?_); (try (refine gate_guard (by rfl) ?_; dsimp only)); refine Kd.R_lit (Kd.int .i64) _ 3 ?hg (N := 7) ?hd (xs := ([] : List Int)) (inner := []) (ok := fun _ => True) (okp := fun _ => True) ?hr ?hp (fun _ hk => hk) trivial (Below.refl _ _) (Nat.le_refl _) (by simp) ?_; (case hd => rfl); (case hg => rfl); (case hr => first | (go_simp; done) | (go_simp; rfl)); (case hp => exact (Reps.none _ _)); intro v400 w3 ho4 hb hg_ hnew_; clear hg_ hnew_; (first | rw [← Ny399.out] at ho4 | (simp only [Int.reduceToNat] at ho4; rw [← Ny399.out] at ho4)); have n0_ := Aside0.mk (Kd.R_lower ho4 (below_size (qB HB.out))); have n1_ := Aside0.mk (below_step (qB HB.out) hb); clear HB; have HO401 := n0_; have HB := n1_; clear n0_ n1_; clear hb ho4))
 go_loopg [5, 6] k (fun kq v5 v6 w' => ∃ (x5_1 : List Int) (x6_1 : Int), v6 = .int .i64 x6_1 ∧ Aside0 (arboristref08_Neighbors.l0 kq l0 a1 x5_1 x6_1 = some r) ∧ Aside0 (kq ≤ k) ∧ Aside0 (Kd.R (Kd.int .i64) 3 w' w.heap.size (fun _ => True) v5 x5_1) ∧ Aside0 (Below w.heap.size w w'))
 case atStart => exact ⟨(y399), (0), (by first | rfl | (simp; done) | (simp [*]; done)), H', ⟨Nat.le_refl _⟩, ⟨by (with_reducible repeat (first | apply Kd.R_alloc | apply Kd.R_drewN | apply Kd.R_drew)); exact HO401.out⟩, ⟨by repeat (first | (with_reducible first | exact HB.out | apply below_alloc | apply pw_below_drewN | apply below_drew1) | exact HB.out)⟩⟩
 case round =>
  clear H';try clear p2
  try clear c3
  obtain ⟨x5_1, x6_1, rfl, HA, HK1, HO_5, HB⟩ := hrel;cases gk with
  | zero => exact absurd HA.out (by simp [arboristref08_Neighbors.l0])
  | succ k1 =>
   have H := HA.out;clear HA;simp only [arboristref08_Neighbors.l0] at H
   have HC5 := Aside0.mk H;clear H;go_upto_region 3 with (fail)
   go_cut [21] (fun v21 wc => ∃ (kq : Nat) (x21_4 : Bool), v21 = .bool x21_4 ∧ Aside0 (arboristref08_Neighbors.j1 kq l0 a1 x5_1 x6_1 x21_4 = some r) ∧ Aside0 (kq ≤ k1) ∧ Aside0 (Kd.R (Kd.int .i64) 3 wc w.heap.size (fun _ => True) u5 x5_1) ∧ Aside0 (Below w.heap.size w wc))
   case first =>
    have H := HC5.out;clear HC5;by_cases c6 : x6_1 < (l0.length : Int)
    ·rw [if_pos c6] at H
     have c6b0 : decide (x6_1 < (l0.length : Int)) = true := decide_eq_true c6;clear c6;(first | rw [c6b0] | (simp only [i64_w, i32_w]; rw [c6b0]) | skip);by_cases c7 : a1 ≥ 0
     ·rw [if_pos c7] at H
      have c7b0 : decide (0 ≤ a1) = true := decide_eq_true c7;clear c7;have H' := Aside0.mk H;clear H;go_wp2
      go_meet
      case rel => exact ⟨_, (decide (a1 < (l0.length : Int))), (by first | rfl | (simp; done) | (simp [*]; done)), H', ⟨by have := HK1.out; first | omega | exact Nat.le_refl _⟩, ⟨by (with_reducible repeat (first | apply Kd.R_alloc | apply Kd.R_drewN | apply Kd.R_drew)); exact HO_5.out⟩, ⟨by repeat (first | (with_reducible first | exact HB.out | apply below_alloc | apply pw_below_drewN | apply below_drew1) | exact HB.out)⟩⟩
     ·rw [if_neg c7] at H
      have c7b0 : decide (0 ≤ a1) = false := decide_eq_false c7;clear c7;have H' := Aside0.mk H;clear H;go_wp2
      go_meet
      case rel => exact ⟨_, (false), (by first | rfl | (simp; done) | (simp [*]; done)), H', ⟨by have := HK1.out; first | omega | exact Nat.le_refl _⟩, ⟨by (with_reducible repeat (first | apply Kd.R_alloc | apply Kd.R_drewN | apply Kd.R_drew)); exact HO_5.out⟩, ⟨by repeat (first | (with_reducible first | exact HB.out | apply below_alloc | apply pw_below_drewN | apply below_drew1) | exact HB.out)⟩⟩
    ·rw [if_neg c6] at H
     have c6b0 : decide (x6_1 < (l0.length : Int)) = false := decide_eq_false c6;clear c6;(first | rw [c6b0] | (simp only [i64_w, i32_w]; rw [c6b0]) | skip);have H' := Aside0.mk H;clear H;go_wp2
     go_meet
     case rel => exact ⟨_, (false), (by first | rfl | (simp; done) | (simp [*]; done)), H', ⟨by have := HK1.out; first | omega | exact Nat.le_refl _⟩, ⟨by (with_reducible repeat (first | apply Kd.R_alloc | apply Kd.R_drewN | apply Kd.R_drew)); exact HO_5.out⟩, ⟨by repeat (first | (with_reducible first | exact HB.out | apply below_alloc | apply pw_below_drewN | apply below_drew1) | exact HB.out)⟩⟩
   case rest =>
    clear HC5;try clear p2
    try clear c3
    try clear c6
    try clear c6b0
    try clear c7
    try clear c7b0
    try clear p2
    obtain ⟨kq, x21_4, rfl, HA, HJ4, HO_5, HB⟩ := hcut;cases kq with
    | zero => exact absurd HA.out (by simp [arboristref08_Neighbors.j1])
    | succ kj4 =>
     have H := HA.out;clear HA;simp only [arboristref08_Neighbors.j1] at H
     by_cases c8 : x21_4 = true
     ·subst c8;replace H : (if 0 ≤ a1 then (if a1 < (l0.length : Int) then (if 0 ≤ x6_1 then (if x6_1 < ((rd_L7 l0 a1).length : Int) then (if rdOf false (rd_L7 l0 a1) x6_1 = true then (if x5_1.length < 17592186044416 then (arboristref08_Neighbors.l0 kj4 l0 a1 (x5_1 ++ [x6_1]) (wrap64 (x6_1 + 1))) else (none)) else (arboristref08_Neighbors.l0 kj4 l0 a1 x5_1 (wrap64 (x6_1 + 1)))) else (none)) else (none)) else (none)) else (none)) = some r := by rw [if_pos rfl] at H; exact H
      by_cases c9 : 0 ≤ a1
      ·rw [if_pos c9] at H
       have c9b0 : decide (0 ≤ a1) = true := decide_eq_true c9;clear c9;by_cases c10 : a1 < (l0.length : Int)
       ·rw [if_pos c10] at H
        have c10b0 : decide (a1 < (l0.length : Int)) = true := decide_eq_true c10;clear c10;by_cases c11 : 0 ≤ x6_1
        ·rw [if_pos c11] at H
         have c11b0 : decide (0 ≤ x6_1) = true := decide_eq_true c11;clear c11;by_cases c12 : x6_1 < ((rd_L7 l0 a1).length : Int)
         ·rw [if_pos c12] at H
          have c12b0 : decide (x6_1 < ((rd_L7 l0 a1).length : Int)) = true := decide_eq_true c12;clear c12;obtain ⟨bq13, hbq13⟩ : ∃ b_ : Bool, b_ = (rdOf false (rd_L7 l0 a1) x6_1) := ⟨_, rfl⟩;replace H : (if bq13 = true then (if x5_1.length < 17592186044416 then (arboristref08_Neighbors.l0 kj4 l0 a1 (x5_1 ++ [x6_1]) (wrap64 (x6_1 + 1))) else (none)) else (arboristref08_Neighbors.l0 kj4 l0 a1 x5_1 (wrap64 (x6_1 + 1)))) = some r := by rw [← hbq13] at H; exact H
          have Nbq13 := Aside0.mk hbq13;clear hbq13;by_cases c14 : bq13 = true
          ·subst c14;replace H : (if x5_1.length < 17592186044416 then (arboristref08_Neighbors.l0 kj4 l0 a1 (x5_1 ++ [x6_1]) (wrap64 (x6_1 + 1))) else (none)) = some r := by rw [if_pos rfl] at H; exact H
           by_cases c15 : x5_1.length < 17592186044416
           ·rw [if_pos c15] at H
            have LMc15 := Aside0.mk c15;clear c15;obtain ⟨y404, hy404⟩ : ∃ y_ : List Int, y_ = (x5_1 ++ [x6_1]) := ⟨_, rfl⟩;replace H : (arboristref08_Neighbors.l0 kj4 l0 a1 y404 (wrap64 (x6_1 + 1))) = some r := by first | (rw [hy404]; with_reducible exact H) | (have H2_ := (Option.bind_some _ _).symm.trans H; rw [hy404]; with_reducible exact H2_) | (have H2_ := (Option.bind_some _ _).symm.trans H; with_reducible exact H2_) | with_reducible exact H | (rw [hy404]; exact H) | exact H
            have Ny404 := Aside0.mk hy404;clear hy404;have H' := Aside0.mk H;clear H;have p402 : 0 ≤ (a1 : Int) := of_decide_eq_true qA;have q402 : a1 < (l0.length : Int) := of_decide_eq_true qA;obtain ⟨ad402, A402_0, c402_0, e402, hx402_0, hl402_0, hi402_0⟩ := at_L7 HR0.out a1 p402 q402;cases e402
            replace hx402_0 := (HB.out.cell (World.block_lt_of_cell? w _ hx402_0)).trans hx402_0;have HR402_0 := Aside0.mk hi402_0;have HC402_0 := Aside0.mk hl402_0;clear hi402_0 hl402_0;replace p402 := eq_true p402;replace q402 := eq_true q402;have p403 : 0 ≤ (x6_1 : Int) := of_decide_eq_true qA;have q403 : x6_1 < ((rd_L7 l0 a1).length : Int) := of_decide_eq_true qA;obtain ⟨ad403, e403, hx403_0⟩ := Kd.at_bool HR402_0.out x6_1 p403 q403;(try rw [← Nbq13.out] at hx403_0);cases e403
            replace hx403_0 := (HB.out.cell (World.block_lt_of_cell? w _ hx403_0)).trans hx403_0;replace p403 := eq_true p403;replace q403 := eq_true q403;go_wp2_with (first | ((with_reducible refine gate_builtin (b := .append) (xs := #[.tmp 31, .tmp 33]) rfl ?_); (try (refine gate_guard (by rfl) ?_; dsimp only)); at_builtin; refine Kd.R_append (Kd.int .i64) (w0 := w) w.heap.size rfl (.tmp 31) (.tmp 33) 23 3 (.int .i64 0) 8 rfl Tryd.underlying23 info3 rfl (by decide) (by omega) u5 x5_1 x6_1 [.int .i64 x6_1] (fun _ => True) (fun _ => False) rfl rfl ?aP (fun _ hk => hk.elim) ?aF ?aO ?aB ?aS ?aL ?_; (case aP => exact rfl); (case aB => exact (qB HB.out)); (case aF => exact (fun _ _ => trivial)); (case aO => exact (qR HO_5.out)); (case aS => exact (below_size (qB HB.out))); (case aL => have := LMc15.out; omega); intro v405 w16 ho hb hg hat; rw [← Ny404.out] at ho; have n0_ := Aside0.mk (hb); have n1_ := Aside0.mk (ho); clear HB; clear HO_5; have HB := n0_; have HO406 := n1_; clear n0_ n1_; clear ho hb hg hat))
            go_roundg kj4
            case measure => have := HK1.out; have := HJ4.out; omega
            case rel => exact ⟨(y404), (wrap64 (x6_1 + 1)), (by first | rfl | (simp; done) | (simp [*]; done)), H', ⟨by have := HK1.out; have := HJ4.out; omega⟩, ⟨by (with_reducible repeat (first | apply Kd.R_alloc | apply Kd.R_drewN | apply Kd.R_drew)); exact HO406.out⟩, ⟨by repeat (first | (with_reducible first | exact HB.out | apply below_alloc | apply pw_below_drewN | apply below_drew1) | exact HB.out)⟩⟩
           ·rw [if_neg c15] at H
            exact absurd H (by simp)
          ·replace c14 := Bool.eq_false_iff.mpr c14;subst c14;replace H : (arboristref08_Neighbors.l0 kj4 l0 a1 x5_1 (wrap64 (x6_1 + 1))) = some r := by rw [if_neg (show ¬ (false = true) by decide)] at H; exact H
           have H' := Aside0.mk H;clear H;have p402 : 0 ≤ (a1 : Int) := of_decide_eq_true qA;have q402 : a1 < (l0.length : Int) := of_decide_eq_true qA;obtain ⟨ad402, A402_0, c402_0, e402, hx402_0, hl402_0, hi402_0⟩ := at_L7 HR0.out a1 p402 q402;cases e402
           replace hx402_0 := (HB.out.cell (World.block_lt_of_cell? w _ hx402_0)).trans hx402_0;have HR402_0 := Aside0.mk hi402_0;have HC402_0 := Aside0.mk hl402_0;clear hi402_0 hl402_0;replace p402 := eq_true p402;replace q402 := eq_true q402;have p403 : 0 ≤ (x6_1 : Int) := of_decide_eq_true qA;have q403 : x6_1 < ((rd_L7 l0 a1).length : Int) := of_decide_eq_true qA;obtain ⟨ad403, e403, hx403_0⟩ := Kd.at_bool HR402_0.out x6_1 p403 q403;(try rw [← Nbq13.out] at hx403_0);cases e403
           replace hx403_0 := (HB.out.cell (World.block_lt_of_cell? w _ hx403_0)).trans hx403_0;replace p403 := eq_true p403;replace q403 := eq_true q403;go_wp2
           go_roundg kj4
           case measure => have := HK1.out; have := HJ4.out; omega
           case rel => exact ⟨(x5_1), (wrap64 (x6_1 + 1)), (by first | rfl | (simp; done) | (simp [*]; done)), H', ⟨by have := HK1.out; have := HJ4.out; omega⟩, ⟨by (with_reducible repeat (first | apply Kd.R_alloc | apply Kd.R_drewN | apply Kd.R_drew)); exact HO_5.out⟩, ⟨by repeat (first | (with_reducible first | exact HB.out | apply below_alloc | apply pw_below_drewN | apply below_drew1) | exact HB.out)⟩⟩
         ·rw [if_neg c12] at H
          exact absurd H (by simp)
        ·rw [if_neg c11] at H
         exact absurd H (by simp)
       ·rw [if_neg c10] at H
        exact absurd H (by simp)
      ·rw [if_neg c9] at H
       exact absurd H (by simp)
     ·replace c8 := Bool.eq_false_iff.mpr c8;subst c8;replace H : (some x5_1) = some r := by rw [if_neg (show ¬ (false = true) by decide)] at H; exact H
      obtain rfl := Option.some.inj H;go_wp2
      go_ret
      exact ⟨_, by first | rfl | (simp [errW_none, errW_some] <;> rfl) | (simp [*, errW_none, errW_some] <;> rfl), by (with_reducible repeat (first | apply Kd.R_alloc | apply Kd.R_drewN | apply Kd.R_drew)); exact HO_5.out, by repeat (first | (with_reducible first | exact HB.out | apply below_alloc | apply pw_below_drewN | apply below_drew1) | exact HB.out)⟩
end Go.Proofs.YtopjffgmpphdbaaDoor.Pr
namespace Go.Proofs.YtopjffgmpphdbaaDoor.Pr
open Go.RowKit Go.Proofs.YtopjffgmpphdbaaDoorW.PrintWords Go.Proofs.YtopjffgmpphdbaaDoorW.PrintLast Go.Proofs.YtopjffgmpphdbaaDoorW.PrintMore
attribute [local go_sem] max2_int min2_int max_two min_two max_three min_three max_four min_four
set_option linter.unusedVariables false
set_option linter.unusedSimpArgs false
/-! ### arboristref09_Missing: function 36 -/
mutual
def arboristref09_Missing.l0 : Nat → List (List Bool) → List Int → Int → Int → Option (Int)
 | 0, _, _, _, _ => none
 | k + 1, x0, x5, x6, x7 => if x7 < (x5.length : Int) then (arboristref09_Missing.l1 k x0 x5 x6 x7 0) else (some x6)
def arboristref09_Missing.l1 : Nat → List (List Bool) → List Int → Int → Int → Int → Option (Int)
 | 0, _, _, _, _, _ => none
 | k + 1, x0, x5, x6, x7, x8 => if x8 < x7 then (if 0 ≤ x7 then (if x7 < (x5.length : Int) then (if 0 ≤ (rd x5 x7) then (if (rd x5 x7) < (x0.length : Int) then (if 0 ≤ x8 then (if x8 < (x5.length : Int) then (if 0 ≤ (rd x5 x8) then (if (rd x5 x8) < ((rd_L7 x0 (rd x5 x7)).length : Int) then (if (rdOf false (rd_L7 x0 (rd x5 x7)) (rd x5 x8) = true) then (arboristref09_Missing.l1 k x0 x5 x6 x7 (wrap64 (x8 + 1))) else (arboristref09_Missing.l1 k x0 x5 (wrap64 (x6 + 1)) x7 (wrap64 (x8 + 1)))) else (none)) else (none)) else (none)) else (none)) else (none)) else (none)) else (none)) else (none)) else (arboristref09_Missing.l0 k x0 x5 x6 (wrap64 (x7 + 1)))
end
def arboristref09_Missing.f (k : Nat) (l0 : List (List Bool)) (a1 : Int) : Option (Int) := (arboristref08_Neighbors.f k l0 a1).bind fun t407 => (arboristref09_Missing.l0 k l0 t407 0 0)
set_option maxHeartbeats 8000000 in
set_option maxRecDepth 100000 in
theorem arboristref09_Missing.calls (k : Nat) (A0 : Option Addr) (c0 : Nat) (l0 : List (List Bool)) (a1 : Int) (r : Int) (w : World) (hr0 : Kd.C (Kd.slice 4 Kd.bool) w A0 l0.length l0) (hc0 : l0.length ≤ c0) (h : arboristref09_Missing.f k l0 a1 = some r) :
  Calls Tryd.prog 36 #[.slice A0 l0.length c0, .int .i64 a1] w fun e w' => e = .returned (.int .i64 r) ∧ Below w.heap.size w w' := by
 have HR0 := Aside0.mk hr0;have HC0 := Aside0.mk hc0;clear hr0 hc0;have HB := Aside0.mk (Below.refl w.heap.size w);have H : ((arboristref08_Neighbors.f k l0 a1).bind fun t407 => (arboristref09_Missing.l0 k l0 t407 0 0)) = some r := h;clear h;replace H := Option.bind_eq_some_iff.mp H;obtain ⟨t407, A30, H⟩ := H;(try dsimp only at H);have A3 := Aside0.mk A30;clear A30;have H' := Aside0.mk H;clear H;go_enter Tryd.func36, Tryd.ntmps36
 go_wp2_with (first | (go_at_call 39; (with_reducible refine (arboristref08_Neighbors.calls k _ _ l0 a1 t407 _ ?side1 ?side2 A3.out).mono ?_); (case side1 => repeat (first | exact HR0.out | (with_reducible refine Kd.C_alloc ?_ _) | (with_reducible refine Kd.C_drewN ?_ _) | (with_reducible refine Kd.C_drew ?_))); (case side2 => exact HC0.out); rintro e w4 ⟨v408, rfl, ho0, hb⟩; have n0_ := Aside0.mk (Kd.R_lower ho0 (below_size (qB HB.out))); have n1_ := Aside0.mk (below_step (qB HB.out) hb); clear HB; have HO409 := n0_; have HB := n1_; clear n0_ n1_; (try clear hb); (try clear hb2); (try clear hk); (try clear hi); (try clear ho0)))
 repeat (go_quiet (first | (go_at_call 39; (with_reducible refine (arboristref08_Neighbors.calls k _ _ l0 a1 t407 _ ?side1 ?side2 A3.out).mono ?_); (case side1 => repeat (first | exact HR0.out | (with_reducible refine Kd.C_alloc ?_ _) | (with_reducible refine Kd.C_drewN ?_ _) | (with_reducible refine Kd.C_drew ?_))); (case side2 => exact HC0.out); rintro e w4 ⟨v408, rfl, ho0, hb⟩; have n0_ := Aside0.mk (Kd.R_lower ho0 (below_size (qB HB.out))); have n1_ := Aside0.mk (below_step (qB HB.out) hb); clear HB; have HO409 := n0_; have HB := n1_; clear n0_ n1_; (try clear hb); (try clear hb2); (try clear hk); (try clear hi); (try clear ho0))); try go_wp2_with (first | (go_at_call 39; (with_reducible refine (arboristref08_Neighbors.calls k _ _ l0 a1 t407 _ ?side1 ?side2 A3.out).mono ?_); (case side1 => repeat (first | exact HR0.out | (with_reducible refine Kd.C_alloc ?_ _) | (with_reducible refine Kd.C_drewN ?_ _) | (with_reducible refine Kd.C_drew ?_))); (case side2 => exact HC0.out); rintro e w4 ⟨v408, rfl, ho0, hb⟩; have n0_ := Aside0.mk (Kd.R_lower ho0 (below_size (qB HB.out))); have n1_ := Aside0.mk (below_step (qB HB.out) hb); clear HB; have HO409 := n0_; have HB := n1_; clear n0_ n1_; (try clear hb); (try clear hb2); (try clear hk); (try clear hi); (try clear ho0))))
 go_loopg [6, 7] k (fun kq v6 v7 w' => ∃ (x6_1 : Int) (x7_1 : Int), v6 = .int .i64 x6_1 ∧ v7 = .int .i64 x7_1 ∧ Aside0 (arboristref09_Missing.l0 kq l0 t407 x6_1 x7_1 = some r) ∧ Aside0 (kq ≤ k) ∧ Aside0 (Kd.R (Kd.int .i64) 3 w' w.heap.size (fun _ => True) v408 t407) ∧ Aside0 (Below w.heap.size w w'))
 case atStart => exact ⟨(0), (0), (by first | rfl | (simp; done) | (simp [*]; done)), (by first | rfl | (simp; done) | (simp [*]; done)), H', ⟨Nat.le_refl _⟩, ⟨by (with_reducible repeat (first | apply Kd.R_alloc | apply Kd.R_drewN | apply Kd.R_drew)); exact HO409.out⟩, ⟨by repeat (first | (with_reducible first | exact HB.out | apply below_alloc | apply pw_below_drewN | apply below_drew1) | exact HB.out)⟩⟩
 case round =>
  clear H';try clear p2
  try clear c3
  obtain ⟨x6_1, x7_1, rfl, rfl, HA, HK1, HO_5, HB⟩ := hrel;cases gk with
  | zero => exact absurd HA.out (by simp [arboristref09_Missing.l0])
  | succ k1 =>
   have H := HA.out;clear HA;simp only [arboristref09_Missing.l0] at H
   by_cases c5 : x7_1 < (t407.length : Int)
   ·rw [if_pos c5] at H
    have c5b0 : decide (x7_1 < (t407.length : Int)) = true := decide_eq_true c5;clear c5;have H' := Aside0.mk H;clear H;obtain ⟨Ao6, co6, eo6⟩ := Kd.R_slice HO_5.out;subst eo6;go_wp2
    repeat (go_quiet (fail); try go_wp2)
    go_loopg [6, 8] k1 (fun kq v6 v8 w' => ∃ (x6_2 : Int) (x8_2 : Int), v6 = .int .i64 x6_2 ∧ v8 = .int .i64 x8_2 ∧ Aside0 (arboristref09_Missing.l1 kq l0 t407 x6_2 x7_1 x8_2 = some r) ∧ Aside0 (kq ≤ k1) ∧ Aside0 (Kd.R (Kd.int .i64) 3 w' w.heap.size (fun _ => True) (.slice Ao6 t407.length co6) t407) ∧ Aside0 (Below w.heap.size w w'))
    case atStart => exact ⟨(x6_1), (0), (by first | rfl | (simp; done) | (simp [*]; done)), (by first | rfl | (simp; done) | (simp [*]; done)), H', ⟨Nat.le_refl _⟩, ⟨by (with_reducible repeat (first | apply Kd.R_alloc | apply Kd.R_drewN | apply Kd.R_drew)); exact HO_5.out⟩, ⟨by repeat (first | (with_reducible first | exact HB.out | apply below_alloc | apply pw_below_drewN | apply below_drew1) | exact HB.out)⟩⟩
    case round =>
     clear H';try clear p2
     try clear c3
     try clear c5
     try clear c5b0
     try clear p2
     obtain ⟨x6_2, x8_2, rfl, rfl, HA, HK2, HO_5, HB⟩ := hrel;cases gk with
     | zero => exact absurd HA.out (by simp [arboristref09_Missing.l1])
     | succ k2 =>
      have H := HA.out;clear HA;simp only [arboristref09_Missing.l1] at H
      by_cases c7 : x8_2 < x7_1
      ·rw [if_pos c7] at H
       have c7b0 : decide (x8_2 < x7_1) = true := decide_eq_true c7;clear c7;by_cases c8 : 0 ≤ x7_1
       ·rw [if_pos c8] at H
        have c8b0 : decide (0 ≤ x7_1) = true := decide_eq_true c8;clear c8;by_cases c9 : x7_1 < (t407.length : Int)
        ·rw [if_pos c9] at H
         have c9b0 : decide (x7_1 < (t407.length : Int)) = true := decide_eq_true c9;clear c9;by_cases c10 : 0 ≤ (rd t407 x7_1)
         ·rw [if_pos c10] at H
          have c10b0 : decide (0 ≤ (rd t407 x7_1)) = true := decide_eq_true c10;clear c10;by_cases c11 : (rd t407 x7_1) < (l0.length : Int)
          ·rw [if_pos c11] at H
           have c11b0 : decide ((rd t407 x7_1) < (l0.length : Int)) = true := decide_eq_true c11;clear c11;by_cases c12 : 0 ≤ x8_2
           ·rw [if_pos c12] at H
            have c12b0 : decide (0 ≤ x8_2) = true := decide_eq_true c12;clear c12;by_cases c13 : x8_2 < (t407.length : Int)
            ·rw [if_pos c13] at H
             have c13b0 : decide (x8_2 < (t407.length : Int)) = true := decide_eq_true c13;clear c13;by_cases c14 : 0 ≤ (rd t407 x8_2)
             ·rw [if_pos c14] at H
              have c14b0 : decide (0 ≤ (rd t407 x8_2)) = true := decide_eq_true c14;clear c14;by_cases c15 : (rd t407 x8_2) < ((rd_L7 l0 (rd t407 x7_1)).length : Int)
              ·rw [if_pos c15] at H
               have c15b0 : decide ((rd t407 x8_2) < ((rd_L7 l0 (rd t407 x7_1)).length : Int)) = true := decide_eq_true c15;clear c15;obtain ⟨bq16, hbq16⟩ : ∃ b_ : Bool, b_ = (rdOf false (rd_L7 l0 (rd t407 x7_1)) (rd t407 x8_2)) := ⟨_, rfl⟩;replace H : (if (bq16 = true) then (arboristref09_Missing.l1 k2 l0 t407 x6_2 x7_1 (wrap64 (x8_2 + 1))) else (arboristref09_Missing.l1 k2 l0 t407 (wrap64 (x6_2 + 1)) x7_1 (wrap64 (x8_2 + 1)))) = some r := by rw [← hbq16] at H; exact H
               have Nbq16 := Aside0.mk hbq16;clear hbq16;by_cases c17 : (bq16 = true)
               ·subst c17;replace H : (arboristref09_Missing.l1 k2 l0 t407 x6_2 x7_1 (wrap64 (x8_2 + 1))) = some r := by rw [if_pos rfl] at H; exact H
                have H' := Aside0.mk H;clear H;have p410 : 0 ≤ (x7_1 : Int) := of_decide_eq_true qA;have q410 : x7_1 < (t407.length : Int) := of_decide_eq_true qA;obtain ⟨ad410, e410, hx410_0⟩ := Kd.at_int (Kd.R_reads' HO_5.out).2.2 x7_1 p410 q410;cases e410
                replace p410 := eq_true p410;replace q410 := eq_true q410;have p411 : 0 ≤ ((rd t407 x7_1) : Int) := of_decide_eq_true qA;have q411 : (rd t407 x7_1) < (l0.length : Int) := of_decide_eq_true qA;obtain ⟨ad411, A411_0, c411_0, e411, hx411_0, hl411_0, hi411_0⟩ := at_L7 HR0.out (rd t407 x7_1) p411 q411;cases e411
                replace hx411_0 := (HB.out.cell (World.block_lt_of_cell? w _ hx411_0)).trans hx411_0;have HR411_0 := Aside0.mk hi411_0;have HC411_0 := Aside0.mk hl411_0;clear hi411_0 hl411_0;replace p411 := eq_true p411;replace q411 := eq_true q411;have p412 : 0 ≤ (x8_2 : Int) := of_decide_eq_true qA;have q412 : x8_2 < (t407.length : Int) := of_decide_eq_true qA;obtain ⟨ad412, e412, hx412_0⟩ := Kd.at_int (Kd.R_reads' HO_5.out).2.2 x8_2 p412 q412;obtain rfl : ad410 = ad412 := (by injection e412);replace p412 := eq_true p412;replace q412 := eq_true q412;have p413 : 0 ≤ ((rd t407 x8_2) : Int) := of_decide_eq_true qA;have q413 : (rd t407 x8_2) < ((rd_L7 l0 (rd t407 x7_1)).length : Int) := of_decide_eq_true qA;obtain ⟨ad413, e413, hx413_0⟩ := Kd.at_bool HR411_0.out (rd t407 x8_2) p413 q413;(try rw [← Nbq16.out] at hx413_0);cases e413
                replace hx413_0 := (HB.out.cell (World.block_lt_of_cell? w _ hx413_0)).trans hx413_0;replace p413 := eq_true p413;replace q413 := eq_true q413;go_wp2
                repeat (go_quiet (fail); try go_wp2)
                go_roundg k2
                case measure => have := HK1.out; have := HK2.out; omega
                case rel => exact ⟨(x6_2), (wrap64 (x8_2 + 1)), (by first | rfl | (simp; done) | (simp [*]; done)), (by first | rfl | (simp; done) | (simp [*]; done)), H', ⟨by have := HK1.out; have := HK2.out; omega⟩, ⟨by (with_reducible repeat (first | apply Kd.R_alloc | apply Kd.R_drewN | apply Kd.R_drew)); exact HO_5.out⟩, ⟨by repeat (first | (with_reducible first | exact HB.out | apply below_alloc | apply pw_below_drewN | apply below_drew1) | exact HB.out)⟩⟩
               ·replace c17 := Bool.eq_false_iff.mpr c17;subst c17;replace H : (arboristref09_Missing.l1 k2 l0 t407 (wrap64 (x6_2 + 1)) x7_1 (wrap64 (x8_2 + 1))) = some r := by rw [if_neg (show ¬ (false = true) by decide)] at H; exact H
                have H' := Aside0.mk H;clear H;have p410 : 0 ≤ (x7_1 : Int) := of_decide_eq_true qA;have q410 : x7_1 < (t407.length : Int) := of_decide_eq_true qA;obtain ⟨ad410, e410, hx410_0⟩ := Kd.at_int (Kd.R_reads' HO_5.out).2.2 x7_1 p410 q410;cases e410
                replace p410 := eq_true p410;replace q410 := eq_true q410;have p411 : 0 ≤ ((rd t407 x7_1) : Int) := of_decide_eq_true qA;have q411 : (rd t407 x7_1) < (l0.length : Int) := of_decide_eq_true qA;obtain ⟨ad411, A411_0, c411_0, e411, hx411_0, hl411_0, hi411_0⟩ := at_L7 HR0.out (rd t407 x7_1) p411 q411;cases e411
                replace hx411_0 := (HB.out.cell (World.block_lt_of_cell? w _ hx411_0)).trans hx411_0;have HR411_0 := Aside0.mk hi411_0;have HC411_0 := Aside0.mk hl411_0;clear hi411_0 hl411_0;replace p411 := eq_true p411;replace q411 := eq_true q411;have p412 : 0 ≤ (x8_2 : Int) := of_decide_eq_true qA;have q412 : x8_2 < (t407.length : Int) := of_decide_eq_true qA;obtain ⟨ad412, e412, hx412_0⟩ := Kd.at_int (Kd.R_reads' HO_5.out).2.2 x8_2 p412 q412;obtain rfl : ad410 = ad412 := (by injection e412);replace p412 := eq_true p412;replace q412 := eq_true q412;have p413 : 0 ≤ ((rd t407 x8_2) : Int) := of_decide_eq_true qA;have q413 : (rd t407 x8_2) < ((rd_L7 l0 (rd t407 x7_1)).length : Int) := of_decide_eq_true qA;obtain ⟨ad413, e413, hx413_0⟩ := Kd.at_bool HR411_0.out (rd t407 x8_2) p413 q413;(try rw [← Nbq16.out] at hx413_0);cases e413
                replace hx413_0 := (HB.out.cell (World.block_lt_of_cell? w _ hx413_0)).trans hx413_0;replace p413 := eq_true p413;replace q413 := eq_true q413;go_wp2
                repeat (go_quiet (fail); try go_wp2)
                go_roundg k2
                case measure => have := HK1.out; have := HK2.out; omega
                case rel => exact ⟨(wrap64 (x6_2 + 1)), (wrap64 (x8_2 + 1)), (by first | rfl | (simp; done) | (simp [*]; done)), (by first | rfl | (simp; done) | (simp [*]; done)), H', ⟨by have := HK1.out; have := HK2.out; omega⟩, ⟨by (with_reducible repeat (first | apply Kd.R_alloc | apply Kd.R_drewN | apply Kd.R_drew)); exact HO_5.out⟩, ⟨by repeat (first | (with_reducible first | exact HB.out | apply below_alloc | apply pw_below_drewN | apply below_drew1) | exact HB.out)⟩⟩
              ·rw [if_neg c15] at H
               exact absurd H (by simp)
             ·rw [if_neg c14] at H
              exact absurd H (by simp)
            ·rw [if_neg c13] at H
             exact absurd H (by simp)
           ·rw [if_neg c12] at H
            exact absurd H (by simp)
          ·rw [if_neg c11] at H
           exact absurd H (by simp)
         ·rw [if_neg c10] at H
          exact absurd H (by simp)
        ·rw [if_neg c9] at H
         exact absurd H (by simp)
       ·rw [if_neg c8] at H
        exact absurd H (by simp)
      ·rw [if_neg c7] at H
       have c7b0 : decide (x8_2 < x7_1) = false := decide_eq_false c7;clear c7;have H' := Aside0.mk H;clear H;go_wp2
       repeat (go_quiet (fail); try go_wp2)
       go_roundg k2
       case measure => have := HK1.out; have := HK2.out; omega
       case rel => exact ⟨(x6_2), (wrap64 (x7_1 + 1)), (by first | rfl | (simp; done) | (simp [*]; done)), (by first | rfl | (simp; done) | (simp [*]; done)), H', ⟨by have := HK1.out; have := HK2.out; omega⟩, ⟨by (with_reducible repeat (first | apply Kd.R_alloc | apply Kd.R_drewN | apply Kd.R_drew)); exact HO_5.out⟩, ⟨by repeat (first | (with_reducible first | exact HB.out | apply below_alloc | apply pw_below_drewN | apply below_drew1) | exact HB.out)⟩⟩
   ·rw [if_neg c5] at H
    have c5b0 : decide (x7_1 < (t407.length : Int)) = false := decide_eq_false c5;clear c5;obtain rfl := Option.some.inj H;obtain ⟨Ao18, co18, eo18⟩ := Kd.R_slice HO_5.out;subst eo18;go_wp2
    repeat (go_quiet (fail); try go_wp2)
    go_ret
    exact ⟨by first | rfl | (simp [errW_none, errW_some] <;> rfl) | (simp [*, errW_none, errW_some] <;> rfl), by repeat (first | (with_reducible first | exact HB.out | apply below_alloc | apply pw_below_drewN | apply below_drew1) | exact HB.out)⟩
end Go.Proofs.YtopjffgmpphdbaaDoor.Pr
