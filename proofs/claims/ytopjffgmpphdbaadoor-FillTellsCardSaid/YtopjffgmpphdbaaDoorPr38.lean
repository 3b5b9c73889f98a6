-- Printed by a program of this session's own (wip/tools/pp.py) over the kit's print.py; Lean checks it.
import Derived.Test.YtopjffgmpphdbaaDoorPr0
import Derived.Test.YtopjffgmpphdbaaDoorPr1
import Derived.Test.YtopjffgmpphdbaaDoorPr34
import Derived.Test.YtopjffgmpphdbaaDoorPr37
namespace Go.Proofs.YtopjffgmpphdbaaDoor.Pr
open Go.RowKit Go.Proofs.YtopjffgmpphdbaaDoorW.PrintWords Go.Proofs.YtopjffgmpphdbaaDoorW.PrintLast Go.Proofs.YtopjffgmpphdbaaDoorW.PrintMore
attribute [local go_sem] max2_int min2_int max_two min_two max_three min_three max_four min_four
set_option linter.unusedVariables false
set_option linter.unusedSimpArgs false
/-! ### arboristref10_Chordal: function 19 -/
mutual
def arboristref10_Chordal.l0 : Nat → List (List Bool) → List Bool → Int → Option (Bool)
 | 0, _, _, _ => none
 | k + 1, x0, x3, x4 => if x4 < (x0.length : Int) then (arboristref10_Chordal.l1 k x0 x3 x4 false 0) else (some true)
def arboristref10_Chordal.l1 : Nat → List (List Bool) → List Bool → Int → Bool → Int → Option (Bool)
 | 0, _, _, _, _, _ => none
 | k + 1, x0, x3, x4, x5, x6 => if x6 < (x0.length : Int) then (arboristref10_Chordal.j2 k x0 x3 x4 x5 x6 (!x5)) else (arboristref10_Chordal.j2 k x0 x3 x4 x5 x6 false)
def arboristref10_Chordal.j2 : Nat → List (List Bool) → List Bool → Int → Bool → Int → Bool → Option (Bool)
 | 0, _, _, _, _, _, _ => none
 | k + 1, x0, x3, x4, x5, x6, x25 => if x25 = true then (if 0 ≤ x6 then (if x6 < (x3.length : Int) then (if rdOf false x3 x6 = true then (arboristref10_Chordal.l1 k x0 x3 x4 x5 (wrap64 (x6 + 1))) else ((arboristref09_Missing.f k x0 x6).bind fun t441 => (if t441 = 0 then ((arboristref09_Go.f k x0 x6).bind fun t442 => (arboristref10_Chordal.l1 k t442 (x3.set (x6 : Int).toNat true) x4 true (wrap64 (x6 + 1)))) else (arboristref10_Chordal.l1 k x0 x3 x4 x5 (wrap64 (x6 + 1)))))) else (none)) else (none)) else (if x5 = true then (arboristref10_Chordal.l0 k x0 x3 (wrap64 (x4 + 1))) else (some false))
end
def arboristref10_Chordal.f (k : Nat) (l0 : List (List Bool)) : Option (Bool) := (arboristref09_Copy.f k l0).bind fun t434 => (if 0 ≤ (t434.length : Int) then (if ((t434.length : Int) : Int).toNat ≤ 281474976710656 then (arboristref10_Chordal.l0 k t434 (List.replicate ((t434.length : Int) : Int).toNat false) 0) else (none)) else (none))
set_option maxHeartbeats 8000000 in
set_option maxRecDepth 100000 in
theorem arboristref10_Chordal.calls (k : Nat) (A0 : Option Addr) (c0 : Nat) (l0 : List (List Bool)) (r : Bool) (w : World) (hr0 : Kd.C (Kd.slice 4 Kd.bool) w A0 l0.length l0) (hc0 : l0.length ≤ c0) (h : arboristref10_Chordal.f k l0 = some r) :
  Calls Tryd.prog 19 #[.slice A0 l0.length c0] w fun e w' => e = .returned (.bool r) ∧ Below w.heap.size w w' := by
 have HR0 := Aside0.mk hr0;have HC0 := Aside0.mk hc0;clear hr0 hc0;have HB := Aside0.mk (Below.refl w.heap.size w);have H : ((arboristref09_Copy.f k l0).bind fun t434 => (if 0 ≤ (t434.length : Int) then (if ((t434.length : Int) : Int).toNat ≤ 281474976710656 then (arboristref10_Chordal.l0 k t434 (List.replicate ((t434.length : Int) : Int).toNat false) 0) else (none)) else (none))) = some r := h;clear h;replace H := Option.bind_eq_some_iff.mp H;obtain ⟨t434, A20, H⟩ := H;(try dsimp only at H);have A2 := Aside0.mk A20;clear A20;by_cases c3 : 0 ≤ (t434.length : Int)
 ·rw [if_pos c3] at H
  have c3b0 := eq_true c3;have c3b1 : decide (0 ≤ (t434.length : Int)) = true := decide_eq_true c3;clear c3;by_cases c4 : ((t434.length : Int) : Int).toNat ≤ 281474976710656
  ·rw [if_pos c4] at H
   have c4b0 := eq_true c4;have c4b1 : decide (((t434.length : Int) : Int).toNat ≤ 281474976710656) = true := decide_eq_true c4;clear c4;obtain ⟨y437, hy437⟩ : ∃ y_ : List Bool, y_ = (List.replicate ((t434.length : Int) : Int).toNat false) := ⟨_, rfl⟩;replace H : (arboristref10_Chordal.l0 k t434 y437 0) = some r := by first | (rw [hy437]; with_reducible exact H) | (have H2_ := (Option.bind_some _ _).symm.trans H; rw [hy437]; with_reducible exact H2_) | (have H2_ := (Option.bind_some _ _).symm.trans H; with_reducible exact H2_) | with_reducible exact H | (rw [hy437]; exact H) | exact H
   have Ny437 := Aside0.mk hy437;clear hy437;have H' := Aside0.mk H;clear H;go_enter Tryd.func19, Tryd.ntmps19
   go_wp2_with (first | ((with_reducible refine gate_callee (f := 35) rfl ?_); refine goesL_ (some 8) rfl rfl Tryd.func35 (by kernel_rfl) rfl #[.slice A0 l0.length c0] rfl qM ?_; (with_reducible refine (arboristref09_Copy.calls k _ _ l0 t434 _ ?side1 ?side2 A2.out).mono ?_); (case side1 => repeat (first | exact HR0.out | (with_reducible refine Kd.C_alloc ?_ _) | (with_reducible refine Kd.C_drewN ?_ _) | (with_reducible refine Kd.C_drew ?_))); (case side2 => exact HC0.out); rintro e w5 ⟨v435, rfl, ho0, hb⟩; refine ⟨_, rfl, ?_⟩; have n0_ := Aside0.mk (Kd.S_lower ho0 (below_size (qB HB.out))); have n1_ := Aside0.mk (below_step (qB HB.out) hb); clear HB; have HO436 := n0_; have HB := n1_; clear n0_ n1_; (try clear hb); (try clear hb2); (try clear hk); (try clear hi); (try clear ho0); obtain ⟨Ao6, co6, eo6⟩ := Kd.S_slice HO436.out; subst eo6) | ((with_reducible refine gate_dst (N := 11) rfl ?_); refine Kd.R_make Kd.bool _ 4 rfl (N := 11) rfl 55 _ _ rfl (t434.length : Int) rfl rfl Tryd.underlying55 (.bool false) 1 info4 rfl (by decide) (by omega) false (ok := fun _ => True) (okp := fun _ => True) rfl (fun _ hk => hk) trivial (of_decide_eq_true qA) (Nat.le_trans (Nat.mul_le_mul_right _ (of_decide_eq_true qA : (t434.length : Int).toNat ≤ 281474976710656)) (by omega)) (Below.refl _ _) (Nat.le_refl _) ?_; intro v438 w7 ho8 hb hg_ hnew_; clear hg_ hnew_; (first | rw [← Ny437.out] at ho8 | (simp only [Int.reduceToNat] at ho8; rw [← Ny437.out] at ho8)); have n0_ := Aside0.mk (Kd.S_elder' (qS HO436.out) (Kd.R_base ho8) hb); have n1_ := Aside0.mk (Kd.R_lower ho8 (below_size (qB HB.out))); have n2_ := Aside0.mk (below_step (qB HB.out) hb); clear HO436; clear HB; have HO436 := n0_; have HO439 := n1_; have HB := n2_; clear n0_ n1_ n2_; clear hb ho8))
   go_loopg [4] k (fun kq v4 w' => ∃ (x0_1 : List (List Bool)) (x3_1 : List Bool) (x4_1 : Int), v4 = .int .i64 x4_1 ∧ Aside0 (arboristref10_Chordal.l0 kq x0_1 x3_1 x4_1 = some r) ∧ Aside0 (kq ≤ k) ∧ Aside0 (Kd.S (Kd.slice 4 Kd.bool) 55 w' w.heap.size (fun k_ => some k_ ≠ (v438 : Value).ownBlock) (.slice Ao6 t434.length co6) x0_1) ∧ Aside0 (Kd.R Kd.bool 4 w' w.heap.size (fun _ => True) v438 x3_1) ∧ Aside0 (Below w.heap.size w w'))
   case atStart => exact ⟨(t434), (y437), (0), (by first | rfl | (simp; done) | (simp [*]; done)), H', ⟨Nat.le_refl _⟩, ⟨by (with_reducible repeat (first | apply Kd.S_alloc | apply Kd.S_drewN | apply Kd.S_drew)); exact Kd.S_mono HO436.out (fun _ hk => hk.2)⟩, ⟨by (with_reducible repeat (first | apply Kd.R_alloc | apply Kd.R_drewN | apply Kd.R_drew)); exact HO439.out⟩, ⟨by repeat (first | (with_reducible first | exact HB.out | apply below_alloc | apply pw_below_drewN | apply below_drew1) | exact HB.out)⟩⟩
   case round =>
    clear H';try clear c1
    try clear p2
    try clear c3
    try clear c3b0
    try clear c3b1
    try clear c4
    try clear c4b0
    try clear c4b1
    obtain ⟨x0_1, x3_1, x4_1, rfl, HA, HK1, HO_0, HO_3, HB⟩ := hrel;have hl0_1 := (Kd.S_reads' HO_0.out).1;rw [hl0_1] at HO_0
    (try simp only [hl0_1]);(try simp only [hl0_1] at HO_3);cases gk with
    | zero => exact absurd HA.out (by simp [arboristref10_Chordal.l0])
    | succ k1 =>
     have H := HA.out;clear HA;simp only [arboristref10_Chordal.l0] at H
     by_cases c9 : x4_1 < (x0_1.length : Int)
     ·rw [if_pos c9] at H
      have c9b0 : decide (x4_1 < (x0_1.length : Int)) = true := decide_eq_true c9;clear c9;have H' := Aside0.mk H;clear H;go_wp2
      go_loopg [5, 6] k1 (fun kq v5 v6 w' => ∃ (x0_2 : List (List Bool)) (x3_2 : List Bool) (x5_2 : Bool) (x6_2 : Int), v5 = .bool x5_2 ∧ v6 = .int .i64 x6_2 ∧ Aside0 (arboristref10_Chordal.l1 kq x0_2 x3_2 x4_1 x5_2 x6_2 = some r) ∧ Aside0 (kq ≤ k1) ∧ Aside0 (Kd.S (Kd.slice 4 Kd.bool) 55 w' w.heap.size (fun k_ => some k_ ≠ (v438 : Value).ownBlock) (.slice Ao6 x0_1.length co6) x0_2) ∧ Aside0 (Kd.R Kd.bool 4 w' w.heap.size (fun _ => True) v438 x3_2) ∧ Aside0 (Below w.heap.size w w'))
      case atStart => exact ⟨(x0_1), (x3_1), (false), (0), (by first | rfl | (simp; done) | (simp [*]; done)), (by first | rfl | (simp; done) | (simp [*]; done)), H', ⟨Nat.le_refl _⟩, ⟨by (try simp only [hl0_1]); (with_reducible repeat (first | apply Kd.S_alloc | apply Kd.S_drewN | apply Kd.S_drew)); exact HO_0.out⟩, ⟨by (try simp only [hl0_1]); (with_reducible repeat (first | apply Kd.R_alloc | apply Kd.R_drewN | apply Kd.R_drew)); exact HO_3.out⟩, ⟨by repeat (first | (with_reducible first | exact HB.out | apply below_alloc | apply pw_below_drewN | apply below_drew1) | exact HB.out)⟩⟩
      case round =>
       clear H';try clear c1
       try clear p2
       try clear c3
       try clear c3b0
       try clear c3b1
       try clear c4
       try clear c4b0
       try clear c4b1
       try clear c9
       try clear c9b0
       try clear p2
       obtain ⟨x0_2, x3_2, x5_2, x6_2, rfl, rfl, HA, HK2, HO_0, HO_3, HB⟩ := hrel;have hl0_2 := (Kd.S_reads' HO_0.out).1;rw [hl0_2] at HO_0
       (try simp only [hl0_2]);(try simp only [hl0_2] at HO_3);cases gk with
       | zero => exact absurd HA.out (by simp [arboristref10_Chordal.l1])
       | succ k2 =>
        have H := HA.out;clear HA;simp only [arboristref10_Chordal.l1] at H
        have HC10 := Aside0.mk H;clear H;go_upto_region 8 with (fail)
        go_cut [25] (fun v25 wc => ∃ (kq : Nat) (x25_9 : Bool), v25 = .bool x25_9 ∧ Aside0 (arboristref10_Chordal.j2 kq x0_2 x3_2 x4_1 x5_2 x6_2 x25_9 = some r) ∧ Aside0 (kq ≤ k2) ∧ Aside0 (Kd.S (Kd.slice 4 Kd.bool) 55 wc w.heap.size (fun k_ => some k_ ≠ (v438 : Value).ownBlock) (.slice Ao6 x0_2.length co6) x0_2) ∧ Aside0 (Kd.R Kd.bool 4 wc w.heap.size (fun _ => True) v438 x3_2) ∧ Aside0 (Below w.heap.size w wc))
        case first =>
         have H := HC10.out;clear HC10;by_cases c11 : x6_2 < (x0_2.length : Int)
         ·rw [if_pos c11] at H
          have c11b0 : decide (x6_2 < (x0_2.length : Int)) = true := decide_eq_true c11;clear c11;(first | rw [c11b0] | (simp only [i64_w, i32_w]; rw [c11b0]) | skip);have H' := Aside0.mk H;clear H;go_wp2
          go_meet
          case rel => exact ⟨_, (!x5_2), (by first | rfl | (simp; done) | (simp [*]; done)), H', ⟨by have := HK1.out; have := HK2.out; first | omega | exact Nat.le_refl _⟩, ⟨by (try simp only [hl0_1]); (try simp only [hl0_2]); (with_reducible repeat (first | apply Kd.S_alloc | apply Kd.S_drewN | apply Kd.S_drew)); exact HO_0.out⟩, ⟨by (try simp only [hl0_1]); (try simp only [hl0_2]); (with_reducible repeat (first | apply Kd.R_alloc | apply Kd.R_drewN | apply Kd.R_drew)); exact HO_3.out⟩, ⟨by repeat (first | (with_reducible first | exact HB.out | apply below_alloc | apply pw_below_drewN | apply below_drew1) | exact HB.out)⟩⟩
         ·rw [if_neg c11] at H
          have c11b0 : decide (x6_2 < (x0_2.length : Int)) = false := decide_eq_false c11;clear c11;(first | rw [c11b0] | (simp only [i64_w, i32_w]; rw [c11b0]) | skip);have H' := Aside0.mk H;clear H;go_wp2
          go_meet
          case rel => exact ⟨_, (false), (by first | rfl | (simp; done) | (simp [*]; done)), H', ⟨by have := HK1.out; have := HK2.out; first | omega | exact Nat.le_refl _⟩, ⟨by (try simp only [hl0_1]); (try simp only [hl0_2]); (with_reducible repeat (first | apply Kd.S_alloc | apply Kd.S_drewN | apply Kd.S_drew)); exact HO_0.out⟩, ⟨by (try simp only [hl0_1]); (try simp only [hl0_2]); (with_reducible repeat (first | apply Kd.R_alloc | apply Kd.R_drewN | apply Kd.R_drew)); exact HO_3.out⟩, ⟨by repeat (first | (with_reducible first | exact HB.out | apply below_alloc | apply pw_below_drewN | apply below_drew1) | exact HB.out)⟩⟩
        case rest =>
         clear HC10;try clear c1
         try clear p2
         try clear c3
         try clear c3b0
         try clear c3b1
         try clear c4
         try clear c4b0
         try clear c4b1
         try clear c9
         try clear c9b0
         try clear c11
         try clear c11b0
         try clear p2
         obtain ⟨kq, x25_9, rfl, HA, HJ9, HO_0, HO_3, HB⟩ := hcut;cases kq with
         | zero => exact absurd HA.out (by simp [arboristref10_Chordal.j2])
         | succ kj9 =>
          have H := HA.out;clear HA;simp only [arboristref10_Chordal.j2] at H
          by_cases c12 : x25_9 = true
          ·subst c12;replace H : (if 0 ≤ x6_2 then (if x6_2 < (x3_2.length : Int) then (if rdOf false x3_2 x6_2 = true then (arboristref10_Chordal.l1 kj9 x0_2 x3_2 x4_1 x5_2 (wrap64 (x6_2 + 1))) else ((arboristref09_Missing.f kj9 x0_2 x6_2).bind fun t441 => (if t441 = 0 then ((arboristref09_Go.f kj9 x0_2 x6_2).bind fun t442 => (arboristref10_Chordal.l1 kj9 t442 (x3_2.set (x6_2 : Int).toNat true) x4_1 true (wrap64 (x6_2 + 1)))) else (arboristref10_Chordal.l1 kj9 x0_2 x3_2 x4_1 x5_2 (wrap64 (x6_2 + 1)))))) else (none)) else (none)) = some r := by rw [if_pos rfl] at H; exact H
           by_cases c13 : 0 ≤ x6_2
           ·rw [if_pos c13] at H
            have c13b0 : decide (0 ≤ x6_2) = true := decide_eq_true c13;clear c13;by_cases c14 : x6_2 < (x3_2.length : Int)
            ·rw [if_pos c14] at H
             have c14b0 : decide (x6_2 < (x3_2.length : Int)) = true := decide_eq_true c14;clear c14;obtain ⟨bq15, hbq15⟩ : ∃ b_ : Bool, b_ = (rdOf false x3_2 x6_2) := ⟨_, rfl⟩;replace H : (if bq15 = true then (arboristref10_Chordal.l1 kj9 x0_2 x3_2 x4_1 x5_2 (wrap64 (x6_2 + 1))) else ((arboristref09_Missing.f kj9 x0_2 x6_2).bind fun t441 => (if t441 = 0 then ((arboristref09_Go.f kj9 x0_2 x6_2).bind fun t442 => (arboristref10_Chordal.l1 kj9 t442 (x3_2.set (x6_2 : Int).toNat true) x4_1 true (wrap64 (x6_2 + 1)))) else (arboristref10_Chordal.l1 kj9 x0_2 x3_2 x4_1 x5_2 (wrap64 (x6_2 + 1)))))) = some r := by rw [← hbq15] at H; exact H
             have Nbq15 := Aside0.mk hbq15;clear hbq15;by_cases c16 : bq15 = true
             ·subst c16;replace H : (arboristref10_Chordal.l1 kj9 x0_2 x3_2 x4_1 x5_2 (wrap64 (x6_2 + 1))) = some r := by rw [if_pos rfl] at H; exact H
              have H' := Aside0.mk H;clear H;obtain ⟨Ao17, co17, eo17⟩ := Kd.R_slice HO_3.out;subst eo17;have p440 : 0 ≤ (x6_2 : Int) := of_decide_eq_true qA;have q440 : x6_2 < (x3_2.length : Int) := of_decide_eq_true qA;obtain ⟨ad440, e440, hx440_0⟩ := Kd.at_bool (Kd.R_reads' HO_3.out).2.2 x6_2 p440 q440;(try rw [← Nbq15.out] at hx440_0);cases e440
              replace p440 := eq_true p440;replace q440 := eq_true q440;go_wp2
              (try simp only [← hl0_2]);go_roundg kj9
              case measure => have := HK1.out; have := HK2.out; have := HJ9.out; omega
              case rel => exact ⟨(x0_2), (x3_2), (x5_2), (wrap64 (x6_2 + 1)), (by first | rfl | (simp; done) | (simp [*]; done)), (by first | rfl | (simp; done) | (simp [*]; done)), H', ⟨by have := HK1.out; have := HK2.out; have := HJ9.out; omega⟩, ⟨by (try simp only [hl0_1]); (try simp only [hl0_2]); (with_reducible repeat (first | apply Kd.S_alloc | apply Kd.S_drewN | apply Kd.S_drew)); exact HO_0.out⟩, ⟨by (try simp only [hl0_1]); (try simp only [hl0_2]); (with_reducible repeat (first | apply Kd.R_alloc | apply Kd.R_drewN | apply Kd.R_drew)); exact HO_3.out⟩, ⟨by repeat (first | (with_reducible first | exact HB.out | apply below_alloc | apply pw_below_drewN | apply below_drew1) | exact HB.out)⟩⟩
             ·replace c16 := Bool.eq_false_iff.mpr c16;subst c16;replace H : ((arboristref09_Missing.f kj9 x0_2 x6_2).bind fun t441 => (if t441 = 0 then ((arboristref09_Go.f kj9 x0_2 x6_2).bind fun t442 => (arboristref10_Chordal.l1 kj9 t442 (x3_2.set (x6_2 : Int).toNat true) x4_1 true (wrap64 (x6_2 + 1)))) else (arboristref10_Chordal.l1 kj9 x0_2 x3_2 x4_1 x5_2 (wrap64 (x6_2 + 1))))) = some r := by rw [if_neg (show ¬ (false = true) by decide)] at H; exact H
              replace H := Option.bind_eq_some_iff.mp H;obtain ⟨t441, A180, H⟩ := H;(try dsimp only at H);have A18 := Aside0.mk A180;clear A180;by_cases c19 : t441 = 0
              ·rw [if_pos c19] at H
               have c19b0 : (t441 == 0) = true := beq_iff_eq.mpr c19;have c19b1 : (t441 != 0) = false := bne_eq_false_iff_eq.mpr c19;clear c19;replace H := Option.bind_eq_some_iff.mp H;obtain ⟨t442, A200, H⟩ := H;(try dsimp only at H);have A20 := Aside0.mk A200;clear A200;obtain ⟨y443, hy443⟩ : ∃ y_ : List Bool, y_ = (x3_2.set (x6_2 : Int).toNat true) := ⟨_, rfl⟩;replace H : (arboristref10_Chordal.l1 kj9 t442 y443 x4_1 true (wrap64 (x6_2 + 1))) = some r := by first | (rw [hy443]; with_reducible exact H) | (have H2_ := (Option.bind_some _ _).symm.trans H; rw [hy443]; with_reducible exact H2_) | (have H2_ := (Option.bind_some _ _).symm.trans H; with_reducible exact H2_) | with_reducible exact H | (rw [hy443]; exact H) | exact H
               have Ny443 := Aside0.mk hy443;clear hy443;have H' := Aside0.mk H;clear H;obtain ⟨Ao22, co22, eo22⟩ := Kd.R_slice HO_3.out;subst eo22;have p440 : 0 ≤ (x6_2 : Int) := of_decide_eq_true qA;have q440 : x6_2 < (x3_2.length : Int) := of_decide_eq_true qA;obtain ⟨ad440, e440, hx440_0⟩ := Kd.at_bool (Kd.R_reads' HO_3.out).2.2 x6_2 p440 q440;(try rw [← Nbq15.out] at hx440_0);cases e440
               replace p440 := eq_true p440;replace q440 := eq_true q440;go_wp2_with (first | (go_at_call 36; (with_reducible refine (arboristref09_Missing.calls kj9 _ _ x0_2 x6_2 t441 _ ?side1 ?side2 A18.out).mono ?_); (case side1 => repeat (first | exact (Kd.S_reads' HO_0.out).2.2 | (with_reducible refine Kd.C_alloc ?_ _) | (with_reducible refine Kd.C_drewN ?_ _) | (with_reducible refine Kd.C_drew ?_))); (case side2 => exact (Kd.S_reads' HO_0.out).2.1); rintro e w23 ⟨rfl, hb⟩; have n0_ := Aside0.mk (Kd.S_below (qS HO_0.out) hb); have n1_ := Aside0.mk (Kd.R_below (qR HO_3.out) hb); have n2_ := Aside0.mk (below_step (qB HB.out) hb); clear HO_0; clear HO_3; clear HB; have HO_0 := n0_; have HO_3 := n1_; have HB := n2_; clear n0_ n1_ n2_; (try clear hb); (try clear hb2); (try clear hk); (try clear hi)) | ((with_reducible refine gate_callee (f := 37) rfl ?_); refine goesL_ (some 41) rfl rfl Tryd.func37 (by kernel_rfl) rfl #[.slice Ao6 x0_2.length co6, .int .i64 x6_2] rfl qM ?_; (with_reducible refine (arboristref09_Go.callsB kj9 (fun k_ => some k_ ≠ (.slice (some ad440) x3_2.length co22 : Value).ownBlock) (.slice Ao6 x0_2.length co6) x0_2 x6_2 t442 w _ ?side1 ?side2 A20.out).mono ?_); (case side1 => repeat (first | (with_reducible first | exact HB.out | apply below_alloc | apply pw_below_drewN | apply below_drew1) | exact HB.out)); (case side2 => exact HO_0.out); rintro e w24 ⟨rfl, hy0, hb, hkp⟩; refine ⟨_, rfl, ?_⟩; have n0_ := Aside0.mk (Kd.S_mono (ok' := fun k_ => some k_ ≠ (.slice (some ad440) x3_2.length co22 : Value).ownBlock) hy0 (fun k_ hk_ => Or.elim hk_ (fun h_ => h_) (fun hn_ => fun e_ => Nat.not_lt.2 hn_ (Kd.R_lt HO_3.out _ e_.symm)))); have n1_ := Aside0.mk (Kd.R_mono (ok' := fun k_ => True) (Kd.R_keptB ((R_sbR (d' := (Kd.slice 4 Kd.bool)) (e' := 55) HO_3.out rfl (fun k_ hk_ => hk_))) hkp (fun k_ hk_ hs_ => (hk_.2) hs_)) (fun k_ hk_ => trivial)); have n2_ := Aside0.mk (hb); clear HO_0; clear HO_3; clear HB; have HO_0 := n0_; have HO_3 := n1_; have HB := n2_; clear n0_ n1_ n2_; (try clear hb); (try clear hkp); (try clear hy0); have p21 : 0 ≤ (x6_2 : Int) := of_decide_eq_true qA; have q21 : (x6_2 : Int) < ((x3_2.length : Int) : Int) := of_decide_eq_true qA; obtain ⟨go21, co21, eo21, gb21, gl21, cl21, HG21⟩ := Kd.R_form HO_3.out (by omega); (first | cases eo21 | (injection eo21 with ea_ en_ ec_; (first | subst ea_ | (injection ea_ with ea_; subst ea_)); subst ec_; clear en_)); have GB21 := Aside0.mk gb21; have GG21 := Aside0.mk HG21; clear gb21 gl21 HG21; (first | simp only [add_plain] at hx440_0 | skip); obtain ⟨hx21_0, hf21_0⟩ := Kd.R_celln false HO_3.out (x6_2 : Int) p21 q21; replace p21 := eq_true p21; replace q21 := eq_true q21; obtain ⟨hy25_, hz25_⟩ := Kd.R_celln false HO_3.out (x6_2 : Int) (of_decide_eq_true qA) (of_decide_eq_true qA); have HP25 := Kd.R_putg HO_3.out (x6_2 : Int) true) | ((with_reducible refine gate_store (t := 4) (p := 44) rfl ?_); refine store_event (t := 4) (p := 44) (v := ?vo_w26) (w1 := (w24.setCell ⟨go21, (x6_2 : Int).toNat, none⟩ (.bool true))) ?hg ?ho ?hn ?hr ?_; (case ho => rfl); (case hg => rfl); (case hn => rfl); (case hr => first | (go_simp; done) | (go_simp; rfl)); intro w26 hw; have hg : w24.grownBy w26 (some go21) := (by rw [hw]; exact HP25.2); have hp_ : Kd.R Kd.bool 4 w26 w.heap.size (fun _ => True) (.slice (some ⟨go21, 0, none⟩) x3_2.length co22) y443 := (by rw [hw, Ny443.out]; exact HP25.1); clear HP25; have n0_ := Aside0.mk (Kd.S_after (v := (.slice (some ⟨go21, 0, none⟩) x3_2.length co22)) (v1 := (.slice (some ⟨go21, 0, none⟩) x3_2.length co22)) (ok := (fun _ => True)) (by (with_reducible repeat (first | apply Kd.S_alloc | apply Kd.S_drewN | apply Kd.S_drew)); exact Kd.S_mono HO_0.out (fun _ hk => ⟨trivial, hk⟩)) hg (.inl rfl)); have n1_ := Aside0.mk (hp_); have n2_ := Aside0.mk ((by rw [hw]; exact below_set (HB.out) GB21.out : Below w.heap.size w w26)); clear HO_0; clear HO_3; clear HB; have HO_0 := n0_; have HO_3 := n1_; have HB := n2_; clear n0_ n1_ n2_; clear hg hw hp_))
               (try simp only [← hl0_2]);go_roundg kj9
               case measure => have := HK1.out; have := HK2.out; have := HJ9.out; omega
               case rel => exact ⟨(t442), (y443), (true), (wrap64 (x6_2 + 1)), (by first | rfl | (simp; done) | (simp [*]; done)), (by first | rfl | (simp; done) | (simp [*]; done)), H', ⟨by have := HK1.out; have := HK2.out; have := HJ9.out; omega⟩, ⟨by (try simp only [hl0_1]); (try simp only [hl0_2]); (with_reducible repeat (first | apply Kd.S_alloc | apply Kd.S_drewN | apply Kd.S_drew)); exact Kd.S_mono HO_0.out (fun _ hk => hk.2)⟩, ⟨by (try simp only [hl0_1]); (try simp only [hl0_2]); (with_reducible repeat (first | apply Kd.R_alloc | apply Kd.R_drewN | apply Kd.R_drew)); exact HO_3.out⟩, ⟨by repeat (first | (with_reducible first | exact HB.out | apply below_alloc | apply pw_below_drewN | apply below_drew1) | exact HB.out)⟩⟩
              ·rw [if_neg c19] at H
               have c19b0 : (t441 == 0) = false := beq_eq_false_iff_ne.mpr c19;have c19b1 : (t441 != 0) = true := bne_iff_ne.mpr c19;have H' := Aside0.mk H;clear H;obtain ⟨Ao27, co27, eo27⟩ := Kd.R_slice HO_3.out;subst eo27;have p440 : 0 ≤ (x6_2 : Int) := of_decide_eq_true qA;have q440 : x6_2 < (x3_2.length : Int) := of_decide_eq_true qA;obtain ⟨ad440, e440, hx440_0⟩ := Kd.at_bool (Kd.R_reads' HO_3.out).2.2 x6_2 p440 q440;(try rw [← Nbq15.out] at hx440_0);cases e440
               replace p440 := eq_true p440;replace q440 := eq_true q440;go_wp2_with (first | (go_at_call 36; (with_reducible refine (arboristref09_Missing.calls kj9 _ _ x0_2 x6_2 t441 _ ?side1 ?side2 A18.out).mono ?_); (case side1 => repeat (first | exact (Kd.S_reads' HO_0.out).2.2 | (with_reducible refine Kd.C_alloc ?_ _) | (with_reducible refine Kd.C_drewN ?_ _) | (with_reducible refine Kd.C_drew ?_))); (case side2 => exact (Kd.S_reads' HO_0.out).2.1); rintro e w28 ⟨rfl, hb⟩; have n0_ := Aside0.mk (Kd.S_below (qS HO_0.out) hb); have n1_ := Aside0.mk (Kd.R_below (qR HO_3.out) hb); have n2_ := Aside0.mk (below_step (qB HB.out) hb); clear HO_0; clear HO_3; clear HB; have HO_0 := n0_; have HO_3 := n1_; have HB := n2_; clear n0_ n1_ n2_; (try clear hb); (try clear hb2); (try clear hk); (try clear hi)))
               (try simp only [← hl0_2]);go_roundg kj9
               case measure => have := HK1.out; have := HK2.out; have := HJ9.out; omega
               case rel => exact ⟨(x0_2), (x3_2), (x5_2), (wrap64 (x6_2 + 1)), (by first | rfl | (simp; done) | (simp [*]; done)), (by first | rfl | (simp; done) | (simp [*]; done)), H', ⟨by have := HK1.out; have := HK2.out; have := HJ9.out; omega⟩, ⟨by (try simp only [hl0_1]); (try simp only [hl0_2]); (with_reducible repeat (first | apply Kd.S_alloc | apply Kd.S_drewN | apply Kd.S_drew)); exact HO_0.out⟩, ⟨by (try simp only [hl0_1]); (try simp only [hl0_2]); (with_reducible repeat (first | apply Kd.R_alloc | apply Kd.R_drewN | apply Kd.R_drew)); exact HO_3.out⟩, ⟨by repeat (first | (with_reducible first | exact HB.out | apply below_alloc | apply pw_below_drewN | apply below_drew1) | exact HB.out)⟩⟩
            ·rw [if_neg c14] at H
             exact absurd H (by simp)
           ·rw [if_neg c13] at H
            exact absurd H (by simp)
          ·replace c12 := Bool.eq_false_iff.mpr c12;subst c12;replace H : (if x5_2 = true then (arboristref10_Chordal.l0 kj9 x0_2 x3_2 (wrap64 (x4_1 + 1))) else (some false)) = some r := by rw [if_neg (show ¬ (false = true) by decide)] at H; exact H
           by_cases c29 : x5_2 = true
           ·subst c29;replace H : (arboristref10_Chordal.l0 kj9 x0_2 x3_2 (wrap64 (x4_1 + 1))) = some r := by rw [if_pos rfl] at H; exact H
            have H' := Aside0.mk H;clear H;go_wp2
            (try simp only [← hl0_1, ← hl0_2]);go_roundg kj9
            case measure => have := HK1.out; have := HK2.out; have := HJ9.out; omega
            case rel => exact ⟨(x0_2), (x3_2), (wrap64 (x4_1 + 1)), (by first | rfl | (simp; done) | (simp [*]; done)), H', ⟨by have := HK1.out; have := HK2.out; have := HJ9.out; omega⟩, ⟨by (try simp only [hl0_1]); (try simp only [hl0_2]); (with_reducible repeat (first | apply Kd.S_alloc | apply Kd.S_drewN | apply Kd.S_drew)); exact HO_0.out⟩, ⟨by (try simp only [hl0_1]); (try simp only [hl0_2]); (with_reducible repeat (first | apply Kd.R_alloc | apply Kd.R_drewN | apply Kd.R_drew)); exact HO_3.out⟩, ⟨by repeat (first | (with_reducible first | exact HB.out | apply below_alloc | apply pw_below_drewN | apply below_drew1) | exact HB.out)⟩⟩
           ·replace c29 := Bool.eq_false_iff.mpr c29;subst c29;replace H : (some false) = some r := by rw [if_neg (show ¬ (false = true) by decide)] at H; exact H
            obtain rfl := Option.some.inj H;go_wp2
            go_ret
            exact ⟨by first | rfl | (simp [errW_none, errW_some] <;> rfl) | (simp [*, errW_none, errW_some] <;> rfl), by repeat (first | (with_reducible first | exact HB.out | apply below_alloc | apply pw_below_drewN | apply below_drew1) | exact HB.out)⟩
     ·rw [if_neg c9] at H
      have c9b0 : decide (x4_1 < (x0_1.length : Int)) = false := decide_eq_false c9;clear c9;obtain rfl := Option.some.inj H;go_wp2
      go_ret
      exact ⟨by first | rfl | (simp [errW_none, errW_some] <;> rfl) | (simp [*, errW_none, errW_some] <;> rfl), by repeat (first | (with_reducible first | exact HB.out | apply below_alloc | apply pw_below_drewN | apply below_drew1) | exact HB.out)⟩
  ·rw [if_neg c4] at H
   exact absurd H (by simp)
 ·rw [if_neg c3] at H
  exact absurd H (by simp)
end Go.Proofs.YtopjffgmpphdbaaDoor.Pr
