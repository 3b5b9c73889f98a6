-- Printed by a program of this session's own (wip/tools/pp.py) over the kit's print.py; Lean checks it.
import Derived.Test.YtbdlelojlnhhfaaDoorPr1
import Derived.Test.YtbdlelojlnhhfaaDoorPr0
namespace Go.Proofs.YtbdlelojlnhhfaaDoor.Pr
open Go.RowKit Go.Proofs.YtbdlelojlnhhfaaDoorW.PrintWords Go.Proofs.YtbdlelojlnhhfaaDoorW.PrintLast Go.Proofs.YtbdlelojlnhhfaaDoorW.PrintMore
attribute [local go_sem] max2_int min2_int max_two min_two max_three min_three max_four min_four   -- for this text's walks alone
set_option linter.unusedVariables false
set_option linter.unusedSimpArgs false

/-! ### arboristlaw11_given: function 14 -/
mutual
def arboristlaw11_given.l0 : Nat → Int → List Int → List Int → Int → Option (List Int)
  | 0, _, _, _, _ => none
  | k + 1, x0, x1, x5, x6 => if x6 < x0 then (if x5.length < 17592186044416 then (arboristlaw11_given.l0 k x0 x1 (x5 ++ [x6]) (wrap64 (x6 + 1))) else (none)) else (arboristlaw11_given.l1 k x0 x1 x5 (([] : List Int)) 0)
def arboristlaw11_given.l1 : Nat → Int → List Int → List Int → List Int → Int → Option (List Int)
  | 0, _, _, _, _, _ => none
  | k + 1, x0, x1, x5, x7, x8 => if x8 < x0 then (if x8 < (x1.length : Int) then (if 0 ≤ x8 then (if (x5.length : Int) = 0 then (none) else (if 0 ≤ (Int.tmod (Go.bits .and .i64 (rd x1 x8) 65535) (x5.length : Int)) then (if (Int.tmod (Go.bits .and .i64 (rd x1 x8) 65535) (x5.length : Int)) < (x5.length : Int) then (if x7.length < 17592186044416 then ((some (([] : List Int) : List Int)).bind fun y325 => (if (Int.tmod (Go.bits .and .i64 (rd x1 x8) 65535) (x5.length : Int)) ≤ (x5.length : Int) then ((some (x5.take ((Int.tmod (Go.bits .and .i64 (rd x1 x8) 65535) (x5.length : Int)) : Int).toNat : List Int)).bind fun y328 => (if y325.length + y328.length < 17592186044416 then ((some (y325 ++ y328 : List Int)).bind fun y332 => (if 0 ≤ (wrap64 ((Int.tmod (Go.bits .and .i64 (rd x1 x8) 65535) (x5.length : Int)) + 1)) then (if (wrap64 ((Int.tmod (Go.bits .and .i64 (rd x1 x8) 65535) (x5.length : Int)) + 1)) ≤ (x5.length : Int) then ((some (x5.drop ((wrap64 ((Int.tmod (Go.bits .and .i64 (rd x1 x8) 65535) (x5.length : Int)) + 1)) : Int).toNat : List Int)).bind fun y335 => (if y332.length + y335.length < 17592186044416 then (arboristlaw11_given.l1 k x0 x1 (y332 ++ y335) (x7 ++ [rd x5 (Int.tmod (Go.bits .and .i64 (rd x1 x8) 65535) (x5.length : Int))]) (wrap64 (x8 + 1))) else (none))) else (none)) else (none))) else (none))) else (none))) else (none)) else (none)) else (none))) else (none)) else (if 0 < (x5.length : Int) then (if x7.length < 17592186044416 then ((some (([] : List Int) : List Int)).bind fun y346 => (if 0 ≤ (x5.length : Int) then ((some (x5.take 0 : List Int)).bind fun y349 => (if y346.length + y349.length < 17592186044416 then ((some (y346 ++ y349 : List Int)).bind fun y353 => (if 1 ≤ (x5.length : Int) then ((some (x5.drop 1 : List Int)).bind fun y356 => (if y353.length + y356.length < 17592186044416 then (arboristlaw11_given.l1 k x0 x1 (y353 ++ y356) (x7 ++ [rd x5 0]) (wrap64 (x8 + 1))) else (none))) else (none))) else (none))) else (none))) else (none)) else (none))) else (some x7)
end
def arboristlaw11_given.f (k : Nat) (a0 : Int) (l1 : List Int) : Option (List Int) := arboristlaw11_given.l0 k a0 l1 ([] : List Int) 0
theorem arboristlaw11_given.mono_l : ∀ k, (∀ y0 y1 y2 y3, LeO (arboristlaw11_given.l0 k y0 y1 y2 y3) (arboristlaw11_given.l0 (k + 1) y0 y1 y2 y3)) ∧ (∀ y0 y1 y2 y3 y4, LeO (arboristlaw11_given.l1 k y0 y1 y2 y3 y4) (arboristlaw11_given.l1 (k + 1) y0 y1 y2 y3 y4))
  | 0 => ⟨fun _ _ _ _ r h => by simp [arboristlaw11_given.l0] at h, fun _ _ _ _ _ r h => by simp [arboristlaw11_given.l1] at h⟩
  | k + 1 => by
    obtain ⟨ih0, ih1⟩ := arboristlaw11_given.mono_l k
    refine ⟨?_, ?_⟩
    all_goals intros
    all_goals (first | unfold arboristlaw11_given.l0 | unfold arboristlaw11_given.l1)
    all_goals repeat' first
    | (with_reducible exact ih0 _ _ _ _)
    | (with_reducible exact ih1 _ _ _ _ _)
    | (with_reducible exact LeO.refl _)
    | (with_reducible exact LeO.none _)
    | (with_reducible refine LeO.ite ?_ ?_)
    | (with_reducible refine LeO.bind ?_ (fun _ => ?_))
    | exact ih0 _ _ _ _
    | exact ih1 _ _ _ _ _
    | exact LeO.none _
    | refine LeO.ite ?_ ?_
    | refine LeO.bind ?_ (fun _ => ?_)
theorem arboristlaw11_given.mono : ∀ a0 a1 k, LeO (arboristlaw11_given.f k a0 a1) (arboristlaw11_given.f (k + 1) a0 a1) := by
  intro a0 a1 k
  obtain ⟨ih0, ih1⟩ := arboristlaw11_given.mono_l k
  unfold arboristlaw11_given.f
  repeat' first
      | (with_reducible exact ih0 _ _ _ _)
      | (with_reducible exact ih1 _ _ _ _ _)
      | (with_reducible exact LeO.refl _)
      | (with_reducible exact LeO.none _)
      | (with_reducible refine LeO.ite ?_ ?_)
      | (with_reducible refine LeO.bind ?_ (fun _ => ?_))
      | exact ih0 _ _ _ _
      | exact ih1 _ _ _ _ _
      | exact LeO.none _
      | refine LeO.ite ?_ ?_
      | refine LeO.bind ?_ (fun _ => ?_)
def arboristlaw11_given.T14 : Bool × List (List Nat × List Nat) := (true, [([], []), ([], []), ([], []), ([1, 2], [1, 2]), ([0, 3], [0, 3]), ([], []), ([], []), ([6], [6]), ([5, 7], [5, 7]), ([4, 8, 4], [4, 8]), ([9, 9, 0, 1, 2, 3, 4, 5, 6, 7, 8, 9], [1, 5, 9])])
def arboristlaw11_given.B14 : List Nat := [0, 0, 0, 6, 15, 0, 0, 64, 224, 511, 1023]
theorem arboristlaw11_given.tab14 : rtab .any (opsOf Tryd.f14 14) = arboristlaw11_given.T14 := by kernel_rfl
theorem arboristlaw11_given.bits14 : waitsOk arboristlaw11_given.T14.2 arboristlaw11_given.B14 = true := by kernel_rfl
set_option maxHeartbeats 8000000 in
set_option maxRecDepth 100000 in
theorem arboristlaw11_given.calls (k : Nat) (a0 : Int) (A1 : Option Addr) (c1 : Nat) (l1 : List Int) (r : List Int) (w : World) (hr1 : Kd.C (Kd.int .i64) w A1 l1.length l1) (hc1 : l1.length ≤ c1) (h : arboristlaw11_given.f k a0 l1 = some r) :
    Calls Tryd.prog 14 #[.int .i64 a0, .slice A1 l1.length c1] w fun e w' => ∃ v0_ : Value, e = .returned (v0_) ∧ Kd.R (Kd.int .i64) 3 w' w.heap.size (fun _ => True) v0_ r ∧ Below w.heap.size w w' := by
  have HR1 := Aside0.mk hr1
  have HC1 := Aside0.mk hc1
  clear hr1 hc1
  have HB := Aside0.mk (Below.refl w.heap.size w)
  have H : (arboristlaw11_given.l0 k a0 l1 ([] : List Int) 0) = some r := h
  clear h
  have H' := Aside0.mk H
  clear H
  go_enter Tryd.func14, Tryd.ntmps14
  go_wp2
  go_loopg [5, 6] k (fun kq v5 v6 w' => ∃ (x5_1 : List Int) (x6_1 : Int), v6 = .int .i64 x6_1 ∧ Aside0 (arboristlaw11_given.l0 kq a0 l1 x5_1 x6_1 = some r) ∧ Aside0 (kq ≤ k) ∧ Aside0 (Kd.R (Kd.int .i64) 3 w' w.heap.size (fun _ => True) v5 x5_1) ∧ Aside0 (Below w.heap.size w w'))
  case atStart => exact ⟨(([] : List Int)), (0), (by first | rfl | (simp; done) | (simp [*]; done)), H', ⟨Nat.le_refl _⟩, ⟨by first | exact Kd.R_nil _ _ _ _ _ | exact Kd.N_nil _ _ _ _ _ | exact Kd.V_nil _ _ _ _ _ | exact Kd.Q_nil _ _ _ _ _ | exact Kd.S_nil _ _ _ _ _⟩, ⟨by repeat (first | (with_reducible first | exact HB.out | apply below_alloc | apply pw_below_drewN | apply below_drew1) | exact HB.out)⟩⟩
  case round =>
    clear H'
    try clear c1
    try clear p2
    obtain ⟨x5_1, x6_1, rfl, HA, HK1, HO_5, HB⟩ := hrel
    cases gk with
    | zero => exact absurd HA.out (by simp [arboristlaw11_given.l0])
    | succ k1 =>
      have H := HA.out
      clear HA
      simp only [arboristlaw11_given.l0] at H
      by_cases c3 : x6_1 < a0
      · rw [if_pos c3] at H
        have c3b0 : decide (x6_1 < a0) = true := decide_eq_true c3
        clear c3
        by_cases c4 : x5_1.length < 17592186044416
        · rw [if_pos c4] at H
          have LMc4 := Aside0.mk c4
          clear c4
          obtain ⟨y314, hy314⟩ : ∃ y_ : List Int, y_ = (x5_1 ++ [x6_1]) := ⟨_, rfl⟩
          replace H : (arboristlaw11_given.l0 k1 a0 l1 y314 (wrap64 (x6_1 + 1))) = some r := by first | (rw [hy314]; with_reducible exact H) | (have H2_ := (Option.bind_some _ _).symm.trans H; rw [hy314]; with_reducible exact H2_) | (have H2_ := (Option.bind_some _ _).symm.trans H; with_reducible exact H2_) | with_reducible exact H | (rw [hy314]; exact H) | exact H
          have Ny314 := Aside0.mk hy314
          clear hy314
          have H' := Aside0.mk H
          clear H
          go_wp2_with (first | ((with_reducible refine gate_builtin (b := .append) (xs := #[.tmp 15, .tmp 17]) rfl ?_); at_builtin; refine Kd.R_append (Kd.int .i64) (w0 := w) w.heap.size rfl (.tmp 15) (.tmp 17) 23 3 (.int .i64 0) 8 rfl Tryd.underlying23 info3 rfl (by decide) (by omega) u5 x5_1 x6_1 [.int .i64 x6_1] (fun _ => True) (fun _ => False) rfl rfl ?aP (fun _ hk => hk.elim) ?aF ?aO ?aB ?aS ?aL ?_; (case aP => exact rfl); (case aB => exact (by repeat (first | (with_reducible first | exact HB.out | apply below_alloc | apply pw_below_drewN | apply below_drew1) | exact HB.out))); (case aF => exact (fun _ _ => trivial)); (case aO => exact (by (with_reducible repeat (first | apply Kd.R_alloc | apply Kd.R_drewN | apply Kd.R_drew)); exact HO_5.out)); (case aS => exact (below_size (by repeat (first | (with_reducible first | exact HB.out | apply below_alloc | apply pw_below_drewN | apply below_drew1) | exact HB.out)))); (case aL => have := LMc4.out; omega); intro v315 w5 ho hb hg hat; rw [← Ny314.out] at ho; have n0_ := Aside0.mk (hb); have n1_ := Aside0.mk (ho); clear HB; clear HO_5; have HB := n0_; have HO316 := n1_; clear n0_ n1_; clear ho hb hg hat))
          go_roundg k1
          case measure => have := HK1.out; omega
          case rel => exact ⟨(y314), (wrap64 (x6_1 + 1)), (by first | rfl | (simp; done) | (simp [*]; done)), H', ⟨by have := HK1.out; omega⟩, ⟨by (with_reducible repeat (first | apply Kd.R_alloc | apply Kd.R_drewN | apply Kd.R_drew)); exact HO316.out⟩, ⟨by repeat (first | (with_reducible first | exact HB.out | apply below_alloc | apply pw_below_drewN | apply below_drew1) | exact HB.out)⟩⟩
        · rw [if_neg c4] at H
          exact absurd H (by simp)
      · rw [if_neg c3] at H
        have c3b0 : decide (x6_1 < a0) = false := decide_eq_false c3
        clear c3
        obtain ⟨y317, hy317⟩ : ∃ y_ : List Int, y_ = (([] : List Int)) := ⟨_, rfl⟩
        replace H : (arboristlaw11_given.l1 k1 a0 l1 x5_1 y317 0) = some r := by first | (rw [hy317]; with_reducible exact H) | (have H2_ := (Option.bind_some _ _).symm.trans H; rw [hy317]; with_reducible exact H2_) | (have H2_ := (Option.bind_some _ _).symm.trans H; with_reducible exact H2_) | with_reducible exact H | (rw [hy317]; exact H) | exact H
        have Ny317 := Aside0.mk hy317
        clear hy317
        have H' := Aside0.mk H
        clear H
        go_wp2_with (first | ((with_reducible refine gate_dst (N := 19) rfl ?_); refine Kd.R_lit (Kd.int .i64) _ 3 ?hg (N := 19) ?hd (xs := ([] : List Int)) (inner := []) (ok := fun _ => True) (okp := fun _ => True) ?hr ?hp (fun _ hk => hk) trivial (Below.refl _ _) (Nat.le_refl _) (by simp) ?_; (case hd => rfl); (case hg => rfl); (case hr => first | (go_simp; done) | (go_simp; rfl)); (case hp => exact (Reps.none _ _)); intro v318 w6 ho7 hb hg_ hnew_; clear hg_ hnew_; (first | rw [← Ny317.out] at ho7 | (simp only [Int.reduceToNat] at ho7; rw [← Ny317.out] at ho7)); have n0_ := Aside0.mk (Kd.R_elder' (by (with_reducible repeat (first | apply Kd.R_alloc | apply Kd.R_drewN | apply Kd.R_drew)); exact HO_5.out) (Kd.R_base ho7) hb); have n1_ := Aside0.mk (Kd.R_lower (Kd.R_new' ho7 (Kd.R_lt (by (with_reducible repeat (first | apply Kd.R_alloc | apply Kd.R_drewN | apply Kd.R_drew)); exact HO_5.out))) (below_size (by repeat (first | (with_reducible first | exact HB.out | apply below_alloc | apply pw_below_drewN | apply below_drew1) | exact HB.out)))); have n2_ := Aside0.mk (below_step (by repeat (first | (with_reducible first | exact HB.out | apply below_alloc | apply pw_below_drewN | apply below_drew1) | exact HB.out)) hb); clear HO_5; clear HB; have HO_5 := n0_; have HO319 := n1_; have HB := n2_; clear n0_ n1_ n2_; clear hb ho7))
        go_loopg [5, 7, 8] k1 (fun kq v5 v7 v8 w' => ∃ (x5_2 : List Int) (x7_2 : List Int) (x8_2 : Int), v8 = .int .i64 x8_2 ∧ Aside0 (arboristlaw11_given.l1 kq a0 l1 x5_2 x7_2 x8_2 = some r) ∧ Aside0 (kq ≤ k1) ∧ Aside0 (Kd.R (Kd.int .i64) 3 w' w.heap.size (fun k_ => some k_ ≠ (v7 : Value).ownBlock) v5 x5_2) ∧ Aside0 (Kd.R (Kd.int .i64) 3 w' w.heap.size (fun k_ => some k_ ≠ (v5 : Value).ownBlock) v7 x7_2) ∧ Aside0 (Below w.heap.size w w'))
        case atStart => exact ⟨(x5_1), (y317), (0), (by first | rfl | (simp; done) | (simp [*]; done)), H', ⟨Nat.le_refl _⟩, ⟨by (with_reducible repeat (first | apply Kd.R_alloc | apply Kd.R_drewN | apply Kd.R_drew)); exact Kd.R_mono HO_5.out (fun _ hk => hk.2)⟩, ⟨by (with_reducible repeat (first | apply Kd.R_alloc | apply Kd.R_drewN | apply Kd.R_drew)); exact Kd.R_mono HO319.out (fun _ hk => hk.2)⟩, ⟨by repeat (first | (with_reducible first | exact HB.out | apply below_alloc | apply pw_below_drewN | apply below_drew1) | exact HB.out)⟩⟩
        case round =>
          clear H'
          try clear c1
          try clear p2
          try clear c3
          try clear c3b0
          try clear c4
          try clear p6
          try clear p2
          obtain ⟨x5_2, x7_2, x8_2, rfl, HA, HK2, HO_5, HO_7, HB⟩ := hrel
          cases gk with
          | zero => exact absurd HA.out (by simp [arboristlaw11_given.l1])
          | succ k2 =>
            have H := HA.out
            clear HA
            simp only [arboristlaw11_given.l1] at H
            by_cases c8 : x8_2 < a0
            · rw [if_pos c8] at H
              have c8b0 : decide (x8_2 < a0) = true := decide_eq_true c8
              clear c8
              by_cases c9 : x8_2 < (l1.length : Int)
              · rw [if_pos c9] at H
                have c9b0 : decide (x8_2 < (l1.length : Int)) = true := decide_eq_true c9
                clear c9
                by_cases c10 : 0 ≤ x8_2
                · rw [if_pos c10] at H
                  have c10b0 : decide (0 ≤ x8_2) = true := decide_eq_true c10
                  clear c10
                  by_cases c11 : (x5_2.length : Int) = 0
                  · rw [if_pos c11] at H
                    exact absurd H (by simp)
                  · rw [if_neg c11] at H
                    have c11b0 : ((x5_2.length : Int) == 0) = false := beq_eq_false_iff_ne.mpr c11
                    have c11b1 : ((x5_2.length : Int) != 0) = true := bne_iff_ne.mpr c11
                    have c11b2 : ¬ (x5_2 = []) := fun h_ => c11 (by rw [h_]; rfl)
                    obtain ⟨ji12, hji12⟩ : ∃ j_ : Int, (Int.tmod (Go.bits .and .i64 (rd l1 x8_2) 65535) (x5_2.length : Int)) = j_ := ⟨_, rfl⟩
                    replace H : (if 0 ≤ (ji12) then (if (ji12) < (x5_2.length : Int) then (if x7_2.length < 17592186044416 then ((some (([] : List Int) : List Int)).bind fun y325 => (if (ji12) ≤ (x5_2.length : Int) then ((some (x5_2.take ((ji12) : Int).toNat : List Int)).bind fun y328 => (if y325.length + y328.length < 17592186044416 then ((some (y325 ++ y328 : List Int)).bind fun y332 => (if 0 ≤ (wrap64 ((ji12) + 1)) then (if (wrap64 ((ji12) + 1)) ≤ (x5_2.length : Int) then ((some (x5_2.drop ((wrap64 ((ji12) + 1)) : Int).toNat : List Int)).bind fun y335 => (if y332.length + y335.length < 17592186044416 then (arboristlaw11_given.l1 k2 a0 l1 (y332 ++ y335) (x7_2 ++ [rd x5_2 (ji12)]) (wrap64 (x8_2 + 1))) else (none))) else (none)) else (none))) else (none))) else (none))) else (none)) else (none)) else (none)) = some r := by first | (rw [hji12] at H; exact H) | (simp only [hji12] at H ⊢; exact H)
                    by_cases c13 : 0 ≤ (ji12)
                    · rw [if_pos c13] at H
                      have c13b0 : decide (0 ≤ (ji12)) = true := decide_eq_true c13
                      clear c13
                      by_cases c14 : (ji12) < (x5_2.length : Int)
                      · rw [if_pos c14] at H
                        have c14b0 : decide ((ji12) < (x5_2.length : Int)) = true := decide_eq_true c14
                        clear c14
                        by_cases c15 : x7_2.length < 17592186044416
                        · rw [if_pos c15] at H
                          have LMc15 := Aside0.mk c15
                          clear c15
                          obtain ⟨y322, hy322⟩ : ∃ y_ : List Int, y_ = (x7_2 ++ [rd x5_2 (ji12)]) := ⟨_, rfl⟩
                          replace H : ((some (([] : List Int) : List Int)).bind fun y325 => (if (ji12) ≤ (x5_2.length : Int) then ((some (x5_2.take ((ji12) : Int).toNat : List Int)).bind fun y328 => (if y325.length + y328.length < 17592186044416 then ((some (y325 ++ y328 : List Int)).bind fun y332 => (if 0 ≤ (wrap64 ((ji12) + 1)) then (if (wrap64 ((ji12) + 1)) ≤ (x5_2.length : Int) then ((some (x5_2.drop ((wrap64 ((ji12) + 1)) : Int).toNat : List Int)).bind fun y335 => (if y332.length + y335.length < 17592186044416 then (arboristlaw11_given.l1 k2 a0 l1 (y332 ++ y335) y322 (wrap64 (x8_2 + 1))) else (none))) else (none)) else (none))) else (none))) else (none))) = some r := by first | (rw [hy322]; with_reducible exact H) | (have H2_ := (Option.bind_some _ _).symm.trans H; rw [hy322]; with_reducible exact H2_) | (have H2_ := (Option.bind_some _ _).symm.trans H; with_reducible exact H2_) | with_reducible exact H | (rw [hy322]; exact H) | exact H
                          have Ny322 := Aside0.mk hy322
                          clear hy322
                          obtain ⟨y325, hy325⟩ : ∃ y_ : List Int, y_ = (([] : List Int)) := ⟨_, rfl⟩
                          replace H : (if (ji12) ≤ (x5_2.length : Int) then ((some (x5_2.take ((ji12) : Int).toNat : List Int)).bind fun y328 => (if y325.length + y328.length < 17592186044416 then ((some (y325 ++ y328 : List Int)).bind fun y332 => (if 0 ≤ (wrap64 ((ji12) + 1)) then (if (wrap64 ((ji12) + 1)) ≤ (x5_2.length : Int) then ((some (x5_2.drop ((wrap64 ((ji12) + 1)) : Int).toNat : List Int)).bind fun y335 => (if y332.length + y335.length < 17592186044416 then (arboristlaw11_given.l1 k2 a0 l1 (y332 ++ y335) y322 (wrap64 (x8_2 + 1))) else (none))) else (none)) else (none))) else (none))) else (none)) = some r := by first | (rw [hy325]; with_reducible exact H) | (have H2_ := (Option.bind_some _ _).symm.trans H; rw [hy325]; with_reducible exact H2_) | (have H2_ := (Option.bind_some _ _).symm.trans H; with_reducible exact H2_) | with_reducible exact H | (rw [hy325]; exact H) | exact H
                          have Ny325 := Aside0.mk hy325
                          clear hy325
                          have c16b0 := eq_true (of_decide_eq_true (by first | (with_reducible assumption) | assumption) : 0 ≤ (ji12))
                          by_cases c17 : (ji12) ≤ (x5_2.length : Int)
                          · rw [if_pos c17] at H
                            have c17b0 := eq_true c17
                            have c17b1 : decide ((ji12) ≤ (x5_2.length : Int)) = true := decide_eq_true c17
                            clear c17
                            obtain ⟨y328, hy328⟩ : ∃ y_ : List Int, y_ = (x5_2.take ((ji12) : Int).toNat) := ⟨_, rfl⟩
                            replace H : (if y325.length + y328.length < 17592186044416 then ((some (y325 ++ y328 : List Int)).bind fun y332 => (if 0 ≤ (wrap64 ((ji12) + 1)) then (if (wrap64 ((ji12) + 1)) ≤ (x5_2.length : Int) then ((some (x5_2.drop ((wrap64 ((ji12) + 1)) : Int).toNat : List Int)).bind fun y335 => (if y332.length + y335.length < 17592186044416 then (arboristlaw11_given.l1 k2 a0 l1 (y332 ++ y335) y322 (wrap64 (x8_2 + 1))) else (none))) else (none)) else (none))) else (none)) = some r := by first | (rw [hy328]; with_reducible exact H) | (have H2_ := (Option.bind_some _ _).symm.trans H; rw [hy328]; with_reducible exact H2_) | (have H2_ := (Option.bind_some _ _).symm.trans H; with_reducible exact H2_) | with_reducible exact H | (rw [hy328]; exact H) | exact H
                            have Ny328 := Aside0.mk hy328
                            clear hy328
                            by_cases c18 : y325.length + y328.length < 17592186044416
                            · rw [if_pos c18] at H
                              have LMc18 := Aside0.mk c18
                              clear c18
                              obtain ⟨y332, hy332⟩ : ∃ y_ : List Int, y_ = (y325 ++ y328) := ⟨_, rfl⟩
                              replace H : (if 0 ≤ (wrap64 ((ji12) + 1)) then (if (wrap64 ((ji12) + 1)) ≤ (x5_2.length : Int) then ((some (x5_2.drop ((wrap64 ((ji12) + 1)) : Int).toNat : List Int)).bind fun y335 => (if y332.length + y335.length < 17592186044416 then (arboristlaw11_given.l1 k2 a0 l1 (y332 ++ y335) y322 (wrap64 (x8_2 + 1))) else (none))) else (none)) else (none)) = some r := by first | (rw [hy332]; with_reducible exact H) | (have H2_ := (Option.bind_some _ _).symm.trans H; rw [hy332]; with_reducible exact H2_) | (have H2_ := (Option.bind_some _ _).symm.trans H; with_reducible exact H2_) | with_reducible exact H | (rw [hy332]; exact H) | exact H
                              have Ny332 := Aside0.mk hy332
                              clear hy332
                              obtain ⟨ji19, hji19⟩ : ∃ j_ : Int, (wrap64 ((ji12) + 1)) = j_ := ⟨_, rfl⟩
                              replace H : (if 0 ≤ (ji19) then (if (ji19) ≤ (x5_2.length : Int) then ((some (x5_2.drop ((ji19) : Int).toNat : List Int)).bind fun y335 => (if y332.length + y335.length < 17592186044416 then (arboristlaw11_given.l1 k2 a0 l1 (y332 ++ y335) y322 (wrap64 (x8_2 + 1))) else (none))) else (none)) else (none)) = some r := by first | (rw [hji19] at H; exact H) | (simp only [hji19] at H ⊢; exact H)
                              have hji19w : (IntKind.i64.wrap ((ji12) + 1)) = ji19 := (i64_w _).trans hji19
                              by_cases c20 : 0 ≤ (ji19)
                              · rw [if_pos c20] at H
                                have c20b0 := eq_true c20
                                have c20b1 : decide (0 ≤ (ji19)) = true := decide_eq_true c20
                                clear c20
                                by_cases c21 : (ji19) ≤ (x5_2.length : Int)
                                · rw [if_pos c21] at H
                                  have c21b0 := eq_true c21
                                  have c21b1 : decide ((ji19) ≤ (x5_2.length : Int)) = true := decide_eq_true c21
                                  clear c21
                                  obtain ⟨y335, hy335⟩ : ∃ y_ : List Int, y_ = (x5_2.drop ((ji19) : Int).toNat) := ⟨_, rfl⟩
                                  replace H : (if y332.length + y335.length < 17592186044416 then (arboristlaw11_given.l1 k2 a0 l1 (y332 ++ y335) y322 (wrap64 (x8_2 + 1))) else (none)) = some r := by first | (rw [hy335]; with_reducible exact H) | (have H2_ := (Option.bind_some _ _).symm.trans H; rw [hy335]; with_reducible exact H2_) | (have H2_ := (Option.bind_some _ _).symm.trans H; with_reducible exact H2_) | with_reducible exact H | (rw [hy335]; exact H) | exact H
                                  have Ny335 := Aside0.mk hy335
                                  clear hy335
                                  by_cases c22 : y332.length + y335.length < 17592186044416
                                  · rw [if_pos c22] at H
                                    have LMc22 := Aside0.mk c22
                                    clear c22
                                    obtain ⟨y339, hy339⟩ : ∃ y_ : List Int, y_ = (y332 ++ y335) := ⟨_, rfl⟩
                                    replace H : (arboristlaw11_given.l1 k2 a0 l1 y339 y322 (wrap64 (x8_2 + 1))) = some r := by first | (rw [hy339]; with_reducible exact H) | (have H2_ := (Option.bind_some _ _).symm.trans H; rw [hy339]; with_reducible exact H2_) | (have H2_ := (Option.bind_some _ _).symm.trans H; with_reducible exact H2_) | with_reducible exact H | (rw [hy339]; exact H) | exact H
                                    have Ny339 := Aside0.mk hy339
                                    clear hy339
                                    have H' := Aside0.mk H
                                    clear H
                                    have p320 : 0 ≤ (x8_2 : Int) := of_decide_eq_true (by first | (with_reducible assumption) | assumption)
                                    have q320 : x8_2 < (l1.length : Int) := of_decide_eq_true (by first | (with_reducible assumption) | assumption)
                                    obtain ⟨ad320, e320, hx320_0⟩ := Kd.at_int HR1.out x8_2 p320 q320
                                    cases e320
                                    replace hx320_0 := (HB.out.cell (World.block_lt_of_cell? w _ hx320_0)).trans hx320_0
                                    replace p320 := eq_true p320
                                    replace q320 := eq_true q320
                                    obtain ⟨Ao23, co23, eo23⟩ := Kd.R_slice HO_5.out
                                    subst eo23
                                    have p321 : 0 ≤ ((ji12) : Int) := of_decide_eq_true (by first | (with_reducible assumption) | assumption)
                                    have q321 : (ji12) < (x5_2.length : Int) := of_decide_eq_true (by first | (with_reducible assumption) | assumption)
                                    obtain ⟨ad321, e321, hx321_0⟩ := Kd.at_int (Kd.R_reads' HO_5.out).2.2 (ji12) p321 q321
                                    cases e321
                                    replace p321 := eq_true p321
                                    replace q321 := eq_true q321
                                    try go_wp2_with (first | ((with_reducible refine gate_builtin (b := .append) (xs := #[.tmp 37, .tmp 42]) rfl ?_); at_builtin; refine Kd.R_append (Kd.int .i64) (w0 := w) w.heap.size rfl (.tmp 37) (.tmp 42) 23 3 (.int .i64 0) 8 rfl Tryd.underlying23 info3 rfl (by decide) (by omega) u7 x7_2 (rd x5_2 (ji12)) [.int .i64 (rd x5_2 (ji12))] (fun k_ => some k_ ≠ (.slice (some ad321) x5_2.length co23 : Value).ownBlock) (fun _ => False) rfl rfl ?aP (fun _ hk => hk.elim) ?aF ?aO ?aB ?aS ?aL ?_; (case aP => exact rfl); (case aB => exact (by repeat (first | (with_reducible first | exact HB.out | apply below_alloc | apply pw_below_drewN | apply below_drew1) | exact HB.out))); (case aF => exact (fun k_ hk => Kd.fresh' (Kd.R_lt (by (with_reducible repeat (first | apply Kd.R_alloc | apply Kd.R_drewN | apply Kd.R_drew)); exact HO_5.out)) k_ hk)); (case aO => exact (by (with_reducible repeat (first | apply Kd.R_alloc | apply Kd.R_drewN | apply Kd.R_drew)); exact HO_7.out)); (case aS => exact (below_size (by repeat (first | (with_reducible first | exact HB.out | apply below_alloc | apply pw_below_drewN | apply below_drew1) | exact HB.out)))); (case aL => have := LMc15.out; omega); intro v323 w24 ho hb hg hat; rw [← Ny322.out] at ho; have n0_ := Aside0.mk (Kd.R_after (ok := (fun _ => True)) (by (with_reducible repeat (first | apply Kd.R_alloc | apply Kd.R_drewN | apply Kd.R_drew)); exact Kd.R_mono HO_5.out (fun _ hk => ⟨trivial, hk⟩)) hg hat); have n1_ := Aside0.mk (hb); have n2_ := Aside0.mk (ho); clear HO_5; clear HB; clear HO_7; have HO_5 := n0_; have HB := n1_; have HO324 := n2_; clear n0_ n1_ n2_; clear ho hb hg hat))
                                    (try (rw [drewN_self w24]; generalize hq_ : World.drewN w24 _ = w24; have n0_ := Aside0.mk (Kd.R_at hq_ HO_5.out); have n1_ := Aside0.mk (Kd.R_at hq_ HO324.out); have n2_ := Aside0.mk (below_at hq_ HB.out); clear hq_ HO_5 HO324 HB; have HO_5 := n0_; have HO324 := n1_; have HB := n2_; clear n0_ n1_ n2_))
                                    have n0_ := Aside0.mk (Kd.R_drew HO_5.out)
                                    have n1_ := Aside0.mk (Kd.R_drew HO324.out)
                                    have n2_ := Aside0.mk (below_drew1 HB.out)
                                    clear HO_5
                                    clear HO324
                                    clear HB
                                    have HO_5 := n0_
                                    have HO324 := n1_
                                    have HB := n2_
                                    clear n0_ n1_ n2_
                                    have q26 : ((ji12) : Int) ≤ ((x5_2.length : Int) : Int) := of_decide_eq_true (by first | (with_reducible assumption) | assumption)
                                    obtain ⟨i026, hi026, _, hsz26, _⟩ := info_parts info3
                                    have hroom26 : x5_2.length ≤ co23 := (Kd.R_reads' HO_5.out).2.1
                                    have hC26 : Kd.C (Kd.int .i64) _ (some ad321) x5_2.length x5_2 := (Kd.R_reads' HO_5.out).2.2
                                    have hcut26 := cut_to (P := Tryd.prog) 23 3 .i64 Tryd.underlying23 hi026 (some ad321) x5_2.length co23 (ji12) (of_decide_eq_true (by first | (with_reducible assumption) | assumption)) q26 hroom26
                                    have hr26 := Kd.C_take (m := ((ji12) : Int).toNat) hC26 (by omega)
                                    have hy26 : y328.length = ((ji12) : Int).toNat := (by rw [Ny328.out, List.length_take]; omega)
                                    rw [← Ny328.out] at hr26
                                    rw [← hy26] at hcut26
                                    have HR331 := Aside0.mk hr26
                                    have HC331 := Aside0.mk (show y328.length ≤ co23 from by omega)
                                    clear hr26 hC26 hroom26 hi026 hsz26
                                    have KY26 := Aside0.mk hy26
                                    clear hy26
                                    have KL26 := Aside0.mk (show ((ji12) : Int).toNat ≤ x5_2.length from by omega)
                                    replace q26 := eq_true q26
                                    have q27 : ((ji19) : Int) ≤ ((x5_2.length : Int) : Int) := of_decide_eq_true (by first | (with_reducible assumption) | assumption)
                                    obtain ⟨i027, hi027, _, hsz27, _⟩ := info_parts info3
                                    have hroom27 : x5_2.length ≤ co23 := (Kd.R_reads' HO_5.out).2.1
                                    have hC27 : Kd.C (Kd.int .i64) _ (some ad321) x5_2.length x5_2 := (Kd.R_reads' HO_5.out).2.2
                                    have q027 : (0 : Int) ≤ ((ji19) : Int) := of_decide_eq_true (by first | (with_reducible assumption) | assumption)
                                    have hcut27 := cut_from (P := Tryd.prog) 23 3 .i64 Tryd.underlying23 hi027 1 hsz27 (some ad321) x5_2.length co23 (ji19) q027 q27
                                    have hr27 := Kd.C_drop (m := ((ji19) : Int).toNat) (c := co23) hC27 (by omega) hroom27
                                    obtain ⟨A27, hA27⟩ : ∃ A1, A1 = (if co23 = ((ji19) : Int).toNat then (some ad321) else ((some ad321) : Option Addr).map (·.add (((ji19) : Int).toNat * 1))) := ⟨_, rfl⟩
                                    obtain ⟨c27, hc27⟩ : ∃ c1, c1 = co23 - ((ji19) : Int).toNat := ⟨_, rfl⟩
                                    have hy27 : y335.length = x5_2.length - ((ji19) : Int).toNat := (by rw [Ny335.out, List.length_drop] <;> omega)
                                    rw [show (x5_2).drop ((ji19) : Int).toNat = y335 from Ny335.out.symm] at hr27
                                    replace hr27 : Kd.C (Kd.int .i64) _ A27 y335.length y335 := (by rw [hA27]; exact hr27)
                                    rw [← hy27, ← hA27, ← hc27] at hcut27
                                    have HR338 := Aside0.mk hr27
                                    have HC338 := Aside0.mk (show y335.length ≤ c27 from by rw [hy27, hc27]; exact Nat.sub_le_sub_right hroom27 _)
                                    clear hr27 hC27 hroom27 hi027 hsz27 hc27
                                    have KY27 := Aside0.mk hy27
                                    have KA27 := Aside0.mk hA27
                                    clear hy27 hA27
                                    have KL27 := Aside0.mk (show ((ji19) : Int).toNat ≤ x5_2.length from by omega)
                                    replace q27 := eq_true q27
                                    refine start_ (n := 11) (S := fun w' => True) (ds := []) (bs 11 0) (by kernel_rfl) rfl rfl trivial (fun hHeld => ?_); refine with_tabW arboristlaw11_given.tab14 arboristlaw11_given.bits14 (fun HT_ HW_ => ?_)
                                    generalize w24.drew = w25 at HO_5 HO324 HB HR331 HR338 hHeld ⊢
                                    refine pure_ (i := 1) (N := some 45) (v := ?_) (a' := ?_) (bs 11 2) rfl rfl (any_of HT_.out (by kernel_rfl)) (fun _ _ _ h => h) (Or.inl ⟨by rfl, ?_⟩) ?_ ?_
                                    rotate_left; (intro w'; go_simp; with_reducible rfl); rotate_left; (simp only [Act.put, List.setIfInBounds_toArray, List.set_cons_zero, List.set_cons_succ, i64_w, i32_w]; rfl)
                                    refine pure_ (i := 2) (N := some 46) (v := ?_) (a' := ?_) (bs 11 6) rfl rfl (any_of HT_.out (by kernel_rfl)) (fun _ _ _ h => h) (Or.inl ⟨by rfl, ?_⟩) ?_ ?_
                                    rotate_left; (intro w'; go_simp; with_reducible rfl); rotate_left; (simp only [Act.put, List.setIfInBounds_toArray, List.set_cons_zero, List.set_cons_succ, i64_w, i32_w]; rfl)
                                    refine pure_ (i := 3) (N := some 47) (v := ?_) (a' := ?_) (bs 11 14) rfl rfl (any_of HT_.out (by kernel_rfl)) (fun _ _ _ h => h) (Or.inl ⟨by rfl, ?_⟩) ?_ ?_
                                    rotate_left; (intro w'; go_simp; with_reducible rfl); rotate_left; (simp only [Act.put, List.setIfInBounds_toArray, List.set_cons_zero, List.set_cons_succ, i64_w, i32_w]; rfl)
                                    refine pure_ (i := 5) (N := some 49) (v := ?_) (a' := ?_) (bs 11 46) rfl rfl (any_of HT_.out (by kernel_rfl)) (fun _ _ _ h => h) (Or.inl ⟨by rfl, ?_⟩) ?_ ?_
                                    rotate_left; (intro w'; go_simp; with_reducible rfl); rotate_left; (simp only [Act.put, List.setIfInBounds_toArray, List.set_cons_zero, List.set_cons_succ, i64_w, i32_w]; rfl)
                                    refine pure_ (i := 6) (N := some 50) (v := ?_) (a' := ?_) (bs 11 110) rfl rfl (any_of HT_.out (by kernel_rfl)) (fun _ _ _ h => h) (Or.inl ⟨by rfl, ?_⟩) ?_ ?_
                                    rotate_left; (intro w'; go_simp; with_reducible rfl); rotate_left; (simp only [Act.put, List.setIfInBounds_toArray, List.set_cons_zero, List.set_cons_succ, i64_w, i32_w]; rfl)
                                    refine pure_ (i := 7) (N := some 51) (v := ?_) (a' := ?_) (bs 11 238) rfl rfl (any_of HT_.out (by kernel_rfl)) (fun _ _ _ h => h) (Or.inl ⟨by rfl, ?_⟩) ?_ ?_
                                    rotate_left; (intro w'; go_simp; with_reducible rfl); rotate_left; (simp only [Act.put, List.setIfInBounds_toArray, List.set_cons_zero, List.set_cons_succ, i64_w, i32_w]; rfl)
                                    refine pure_ (i := 8) (N := some 52) (v := ?_) (a' := ?_) (bs 11 494) rfl rfl (any_of HT_.out (by kernel_rfl)) (fun _ _ _ h => h) (Or.inl ⟨by rfl, ?_⟩) ?_ ?_
                                    rotate_left; (intro w'; go_simp; with_reducible rfl); rotate_left; (simp only [Act.put, List.setIfInBounds_toArray, List.set_cons_zero, List.set_cons_succ, i64_w, i32_w]; rfl)
                                    refine one_ (i := 0) (N := some 44) (bs 11 495) rfl rfl (one_of HT_.out (by kernel_rfl)) (by decide) (fun K hK => ?_)
                                    refine Kd.R_lit_step (Kd.int .i64) _ 3 ?hg (N := 44) ?hd (xs := ([] : List Int)) (inner := []) (ok := fun _ => True) (okp := fun _ => True) ?hr ?hp (fun _ hk => hk) trivial (Below.refl _ _) (Nat.le_refl _) (by simp) ?_; (case hd => rfl); (case hg => rfl); (case hr => first | (go_simp; done) | (go_simp; rfl)); (case hp => exact (Reps.none _ _))
                                    intro v326 w28 ho29 hb hg_ hnew_
                                    clear hg_ hnew_
                                    (first | rw [← Ny325.out] at ho29 | (simp only [Int.reduceToNat] at ho29; rw [← Ny325.out] at ho29))
                                    have n0_ := Aside0.mk (Kd.R_elder' (by (with_reducible repeat (first | apply Kd.R_alloc | apply Kd.R_drewN | apply Kd.R_drew)); exact HO_5.out) (Kd.R_base ho29) hb)
                                    have n1_ := Aside0.mk (Kd.R_elder' (by (with_reducible repeat (first | apply Kd.R_alloc | apply Kd.R_drewN | apply Kd.R_drew)); exact HO324.out) (Kd.R_base ho29) hb)
                                    have n2_ := Aside0.mk (Kd.R_lower (Kd.R_new' (Kd.R_new' ho29 (Kd.R_lt (by (with_reducible repeat (first | apply Kd.R_alloc | apply Kd.R_drewN | apply Kd.R_drew)); exact HO_5.out))) (Kd.R_lt (by (with_reducible repeat (first | apply Kd.R_alloc | apply Kd.R_drewN | apply Kd.R_drew)); exact HO324.out))) (below_size (by repeat (first | (with_reducible first | exact HB.out | apply below_alloc | apply pw_below_drewN | apply below_drew1) | exact HB.out))))
                                    have n3_ := Aside0.mk (Kd.C_below (by repeat (first | (with_reducible exact HR331.out) | (with_reducible refine Kd.C_alloc ?_ _) | (with_reducible refine Kd.C_drewN ?_ _) | (with_reducible refine Kd.C_drew ?_) | exact HR331.out)) hb)
                                    have n4_ := Aside0.mk (Kd.C_below (by repeat (first | (with_reducible exact HR338.out) | (with_reducible refine Kd.C_alloc ?_ _) | (with_reducible refine Kd.C_drewN ?_ _) | (with_reducible refine Kd.C_drew ?_) | exact HR338.out)) hb)
                                    have n5_ := Aside0.mk (below_step (by repeat (first | (with_reducible first | exact HB.out | apply below_alloc | apply pw_below_drewN | apply below_drew1) | exact HB.out)) hb)
                                    clear HO_5
                                    clear HO324
                                    clear HR331
                                    clear HR338
                                    clear HB
                                    have HO_5 := n0_
                                    have HO324 := n1_
                                    have HO327 := n2_
                                    have HR331 := n3_
                                    have HR338 := n4_
                                    have HB := n5_
                                    clear n0_ n1_ n2_ n3_ n4_ n5_
                                    clear hb ho29
                                    refine hK.out _ _ trivial (fun hHeld => ?_)
                                    clear hK K
                                    refine norm_ (a' := ?_) ?_ ?_
                                    rotate_left
                                    · show Act.put _ (some 44) _ = _
                                      simp only [Act.put, List.setIfInBounds_toArray, List.set_cons_zero, List.set_cons_succ, i64_w, i32_w]
                                      rfl
                                    refine one_ (i := 4) (N := some 48) (bs 11 511) rfl rfl (one_of HT_.out (by kernel_rfl)) (by decide) (fun K hK => ?_)
                                    refine Kd.R_append_rows_step (Kd.int .i64) (w0 := w) w.heap.size (by rfl) (.tmp 44) (.tmp 47) 23 3 (.int .i64 0) 8 rfl Tryd.underlying23 info3 rfl (by decide) (by omega) v326 y325 y328 _ _ _ (fun k_ => some k_ ≠ (.slice (some ad321) x5_2.length co23 : Value).ownBlock ∧ some k_ ≠ (v323 : Value).ownBlock) (fun _ => False) rfl rfl ?aO ?aR (fun _ _ h => h) (fun _ h => h.elim) ?aF ?aB ?aS ?aL ?_
                                    (case aR => repeat (first | exact (by repeat (first | (with_reducible exact HR331.out) | (with_reducible refine Kd.C_alloc ?_ _) | (with_reducible refine Kd.C_drewN ?_ _) | (with_reducible refine Kd.C_drew ?_) | exact HR331.out)) | (with_reducible refine Kd.C_alloc ?_ _) | (with_reducible refine Kd.C_drewN ?_ _) | (with_reducible refine Kd.C_drew ?_)))
                                    (case aB => exact (by repeat (first | (with_reducible first | exact HB.out | apply below_alloc | apply pw_below_drewN | apply below_drew1) | exact HB.out)))
                                    (case aF => exact (fun k_ hk => ⟨Kd.fresh' (Kd.R_lt (by (with_reducible repeat (first | apply Kd.R_alloc | apply Kd.R_drewN | apply Kd.R_drew)); exact HO_5.out)) k_ hk, Kd.fresh' (Kd.R_lt (by (with_reducible repeat (first | apply Kd.R_alloc | apply Kd.R_drewN | apply Kd.R_drew)); exact HO324.out)) k_ hk⟩))
                                    (case aO => exact (by (with_reducible repeat (first | apply Kd.R_alloc | apply Kd.R_drewN | apply Kd.R_drew)); exact Kd.R_mono HO327.out (fun _ hk => ⟨hk.1.2, hk.2⟩)))
                                    (case aS => exact (below_size (by repeat (first | (with_reducible first | exact HB.out | apply below_alloc | apply pw_below_drewN | apply below_drew1) | exact HB.out))))
                                    (case aL => have := LMc18.out; omega)
                                    intro v333 w30 ho hb hg hat
                                    rw [← Ny332.out] at ho
                                    have n0_ := Aside0.mk (Kd.R_after (ok := (fun k_ => some k_ ≠ (v323 : Value).ownBlock)) (by (with_reducible repeat (first | apply Kd.R_alloc | apply Kd.R_drewN | apply Kd.R_drew)); exact Kd.R_mono HO_5.out (fun _ hk => ⟨hk.1.2, hk.2⟩)) hg hat)
                                    have n1_ := Aside0.mk (Kd.R_after (ok := (fun k_ => some k_ ≠ (.slice (some ad321) x5_2.length co23 : Value).ownBlock)) (by (with_reducible repeat (first | apply Kd.R_alloc | apply Kd.R_drewN | apply Kd.R_drew)); exact HO324.out) hg hat)
                                    have n2_ := Aside0.mk (hb)
                                    have n3_ := Aside0.mk ((show Kd.C (Kd.int .i64) w30 (some ad321) y328.length y328 from by rw [Ny328.out]; exact Kd.C_take (m := ((ji12) : Int).toNat) ((Kd.R_reads' (Kd.R_after (ok := (fun k_ => some k_ ≠ (v323 : Value).ownBlock)) (by (with_reducible repeat (first | apply Kd.R_alloc | apply Kd.R_drewN | apply Kd.R_drew)); exact Kd.R_mono HO_5.out (fun _ hk => ⟨hk.1.2, hk.2⟩)) hg hat)).2.2) KL26.out))
                                    have n4_ := Aside0.mk ((show Kd.C (Kd.int .i64) w30 A27 y335.length y335 from by rw [Ny335.out, KA27.out]; exact Kd.C_drop (m := ((ji19) : Int).toNat) (c := co23) ((Kd.R_reads' (Kd.R_after (ok := (fun k_ => some k_ ≠ (v323 : Value).ownBlock)) (by (with_reducible repeat (first | apply Kd.R_alloc | apply Kd.R_drewN | apply Kd.R_drew)); exact Kd.R_mono HO_5.out (fun _ hk => ⟨hk.1.2, hk.2⟩)) hg hat)).2.2) KL27.out ((Kd.R_reads' (Kd.R_after (ok := (fun k_ => some k_ ≠ (v323 : Value).ownBlock)) (by (with_reducible repeat (first | apply Kd.R_alloc | apply Kd.R_drewN | apply Kd.R_drew)); exact Kd.R_mono HO_5.out (fun _ hk => ⟨hk.1.2, hk.2⟩)) hg hat)).2.1)))
                                    have n5_ := Aside0.mk (ho)
                                    clear HO_5
                                    clear HO324
                                    clear HB
                                    clear HR331
                                    clear HR338
                                    clear HO327
                                    have HO_5 := n0_
                                    have HO324 := n1_
                                    have HB := n2_
                                    have HR331 := n3_
                                    have HR338 := n4_
                                    have HO334 := n5_
                                    clear n0_ n1_ n2_ n3_ n4_ n5_
                                    clear ho hb hg hat
                                    refine hK.out _ _ trivial (fun hHeld => ?_)
                                    clear hK K
                                    refine norm_ (a' := ?_) ?_ ?_
                                    rotate_left
                                    · show Act.put _ (some 48) _ = _
                                      simp only [Act.put, List.setIfInBounds_toArray, List.set_cons_zero, List.set_cons_succ, i64_w, i32_w]
                                      rfl
                                    refine one_ (i := 9) (N := some 53) (bs 11 1023) rfl rfl (one_of HT_.out (by kernel_rfl)) (by decide) (fun K hK => ?_)
                                    refine Kd.R_append_rows_step (Kd.int .i64) (w0 := w) w.heap.size (by rfl) (.tmp 48) (.tmp 52) 23 3 (.int .i64 0) 8 rfl Tryd.underlying23 info3 rfl (by decide) (by omega) v333 y332 y335 _ _ _ (fun k_ => some k_ ≠ (.slice (some ad321) x5_2.length co23 : Value).ownBlock ∧ some k_ ≠ (v323 : Value).ownBlock) (fun _ => False) rfl rfl ?aO ?aR (fun _ _ h => h) (fun _ h => h.elim) ?aF ?aB ?aS ?aL ?_
                                    (case aR => repeat (first | exact (by repeat (first | (with_reducible exact HR338.out) | (with_reducible refine Kd.C_alloc ?_ _) | (with_reducible refine Kd.C_drewN ?_ _) | (with_reducible refine Kd.C_drew ?_) | exact HR338.out)) | (with_reducible refine Kd.C_alloc ?_ _) | (with_reducible refine Kd.C_drewN ?_ _) | (with_reducible refine Kd.C_drew ?_)))
                                    (case aB => exact (by repeat (first | (with_reducible first | exact HB.out | apply below_alloc | apply pw_below_drewN | apply below_drew1) | exact HB.out)))
                                    (case aF => exact (fun k_ hk => ⟨Kd.fresh' (Kd.R_lt (by (with_reducible repeat (first | apply Kd.R_alloc | apply Kd.R_drewN | apply Kd.R_drew)); exact HO_5.out)) k_ hk, Kd.fresh' (Kd.R_lt (by (with_reducible repeat (first | apply Kd.R_alloc | apply Kd.R_drewN | apply Kd.R_drew)); exact HO324.out)) k_ hk⟩))
                                    (case aO => exact (by (with_reducible repeat (first | apply Kd.R_alloc | apply Kd.R_drewN | apply Kd.R_drew)); exact HO334.out))
                                    (case aS => exact (below_size (by repeat (first | (with_reducible first | exact HB.out | apply below_alloc | apply pw_below_drewN | apply below_drew1) | exact HB.out))))
                                    (case aL => have := LMc22.out; omega)
                                    intro v340 w31 ho hb hg hat
                                    rw [← Ny339.out] at ho
                                    have n0_ := Aside0.mk (Kd.R_after (ok := (fun k_ => some k_ ≠ (v323 : Value).ownBlock)) (by (with_reducible repeat (first | apply Kd.R_alloc | apply Kd.R_drewN | apply Kd.R_drew)); exact HO_5.out) hg hat)
                                    have n1_ := Aside0.mk (Kd.R_after (ok := (fun k_ => some k_ ≠ (.slice (some ad321) x5_2.length co23 : Value).ownBlock)) (by (with_reducible repeat (first | apply Kd.R_alloc | apply Kd.R_drewN | apply Kd.R_drew)); exact HO324.out) hg hat)
                                    have n2_ := Aside0.mk (hb)
                                    have n3_ := Aside0.mk ((show Kd.C (Kd.int .i64) w31 (some ad321) y328.length y328 from by rw [Ny328.out]; exact Kd.C_take (m := ((ji12) : Int).toNat) ((Kd.R_reads' (Kd.R_after (ok := (fun k_ => some k_ ≠ (v323 : Value).ownBlock)) (by (with_reducible repeat (first | apply Kd.R_alloc | apply Kd.R_drewN | apply Kd.R_drew)); exact HO_5.out) hg hat)).2.2) KL26.out))
                                    have n4_ := Aside0.mk ((show Kd.C (Kd.int .i64) w31 A27 y335.length y335 from by rw [Ny335.out, KA27.out]; exact Kd.C_drop (m := ((ji19) : Int).toNat) (c := co23) ((Kd.R_reads' (Kd.R_after (ok := (fun k_ => some k_ ≠ (v323 : Value).ownBlock)) (by (with_reducible repeat (first | apply Kd.R_alloc | apply Kd.R_drewN | apply Kd.R_drew)); exact HO_5.out) hg hat)).2.2) KL27.out ((Kd.R_reads' (Kd.R_after (ok := (fun k_ => some k_ ≠ (v323 : Value).ownBlock)) (by (with_reducible repeat (first | apply Kd.R_alloc | apply Kd.R_drewN | apply Kd.R_drew)); exact HO_5.out) hg hat)).2.1)))
                                    have n5_ := Aside0.mk (ho)
                                    clear HO_5
                                    clear HO324
                                    clear HB
                                    clear HR331
                                    clear HR338
                                    clear HO334
                                    have HO_5 := n0_
                                    have HO324 := n1_
                                    have HB := n2_
                                    have HR331 := n3_
                                    have HR338 := n4_
                                    have HO341 := n5_
                                    clear n0_ n1_ n2_ n3_ n4_ n5_
                                    clear ho hb hg hat
                                    refine hK.out _ _ trivial (fun hHeld => ?_)
                                    clear hK K
                                    refine norm_ (a' := ?_) ?_ ?_
                                    rotate_left
                                    · show Act.put _ (some 53) _ = _
                                      simp only [Act.put, List.setIfInBounds_toArray, List.set_cons_zero, List.set_cons_succ, i64_w, i32_w]
                                      rfl
                                    refine pure_ (i := 10) (N := some 5) (v := ?_) (a' := ?_) (bs 11 2047) rfl rfl (any_of HT_.out (by kernel_rfl)) (fun _ _ _ h => h) (Or.inl ⟨by rfl, ?_⟩) ?_ ?_
                                    rotate_left; (intro w'; go_simp; with_reducible rfl); rotate_left; (simp only [Act.put, List.setIfInBounds_toArray, List.set_cons_zero, List.set_cons_succ, i64_w, i32_w]; rfl)
                                    refine done_ (done_of HT_.out (by kernel_rfl)) ?_
                                    try go_wp2
                                    first | go_roundg k2 | (simp only [← hji12, ← hji19]; (try simp only [← hji12, ← hji19] at H'); go_roundg k2)
                                    case measure => have := HK1.out; have := HK2.out; omega
                                    case rel => exact ⟨(y339), (y322), (wrap64 (x8_2 + 1)), (by first | rfl | (simp; done) | (simp [*]; done)), H', ⟨by have := HK1.out; have := HK2.out; omega⟩, ⟨by (with_reducible repeat (first | apply Kd.R_alloc | apply Kd.R_drewN | apply Kd.R_drew)); exact Kd.R_mono HO341.out (fun _ hk => hk.2)⟩, ⟨by (with_reducible repeat (first | apply Kd.R_alloc | apply Kd.R_drewN | apply Kd.R_drew)); exact Kd.R_mono HO324.out (fun _ hk => hk.2)⟩, ⟨by repeat (first | (with_reducible first | exact HB.out | apply below_alloc | apply pw_below_drewN | apply below_drew1) | exact HB.out)⟩⟩
                                  · rw [if_neg c22] at H
                                    exact absurd H (by simp)
                                · rw [if_neg c21] at H
                                  exact absurd H (by simp)
                              · rw [if_neg c20] at H
                                exact absurd H (by simp)
                            · rw [if_neg c18] at H
                              exact absurd H (by simp)
                          · rw [if_neg c17] at H
                            exact absurd H (by simp)
                        · rw [if_neg c15] at H
                          exact absurd H (by simp)
                      · rw [if_neg c14] at H
                        exact absurd H (by simp)
                    · rw [if_neg c13] at H
                      exact absurd H (by simp)
                · rw [if_neg c10] at H
                  exact absurd H (by simp)
              · rw [if_neg c9] at H
                have c9b0 : decide (x8_2 < (l1.length : Int)) = false := decide_eq_false c9
                clear c9
                by_cases c32 : 0 < (x5_2.length : Int)
                · rw [if_pos c32] at H
                  have c32b0 : decide (0 < (x5_2.length : Int)) = true := decide_eq_true c32
                  have c32b1 : decide (0 < x5_2.length) = true := decide_eq_true (by omega)
                  clear c32
                  by_cases c33 : x7_2.length < 17592186044416
                  · rw [if_pos c33] at H
                    have LMc33 := Aside0.mk c33
                    clear c33
                    obtain ⟨y343, hy343⟩ : ∃ y_ : List Int, y_ = (x7_2 ++ [rd x5_2 0]) := ⟨_, rfl⟩
                    replace H : ((some (([] : List Int) : List Int)).bind fun y346 => (if 0 ≤ (x5_2.length : Int) then ((some (x5_2.take 0 : List Int)).bind fun y349 => (if y346.length + y349.length < 17592186044416 then ((some (y346 ++ y349 : List Int)).bind fun y353 => (if 1 ≤ (x5_2.length : Int) then ((some (x5_2.drop 1 : List Int)).bind fun y356 => (if y353.length + y356.length < 17592186044416 then (arboristlaw11_given.l1 k2 a0 l1 (y353 ++ y356) y343 (wrap64 (x8_2 + 1))) else (none))) else (none))) else (none))) else (none))) = some r := by first | (rw [hy343]; with_reducible exact H) | (have H2_ := (Option.bind_some _ _).symm.trans H; rw [hy343]; with_reducible exact H2_) | (have H2_ := (Option.bind_some _ _).symm.trans H; with_reducible exact H2_) | with_reducible exact H | (rw [hy343]; exact H) | exact H
                    have Ny343 := Aside0.mk hy343
                    clear hy343
                    obtain ⟨y346, hy346⟩ : ∃ y_ : List Int, y_ = (([] : List Int)) := ⟨_, rfl⟩
                    replace H : (if 0 ≤ (x5_2.length : Int) then ((some (x5_2.take 0 : List Int)).bind fun y349 => (if y346.length + y349.length < 17592186044416 then ((some (y346 ++ y349 : List Int)).bind fun y353 => (if 1 ≤ (x5_2.length : Int) then ((some (x5_2.drop 1 : List Int)).bind fun y356 => (if y353.length + y356.length < 17592186044416 then (arboristlaw11_given.l1 k2 a0 l1 (y353 ++ y356) y343 (wrap64 (x8_2 + 1))) else (none))) else (none))) else (none))) else (none)) = some r := by first | (rw [hy346]; with_reducible exact H) | (have H2_ := (Option.bind_some _ _).symm.trans H; rw [hy346]; with_reducible exact H2_) | (have H2_ := (Option.bind_some _ _).symm.trans H; with_reducible exact H2_) | with_reducible exact H | (rw [hy346]; exact H) | exact H
                    have Ny346 := Aside0.mk hy346
                    clear hy346
                    by_cases c34 : 0 ≤ (x5_2.length : Int)
                    · rw [if_pos c34] at H
                      have c34b0 := eq_true c34
                      have c34b1 : decide (0 ≤ (x5_2.length : Int)) = true := decide_eq_true c34
                      clear c34
                      obtain ⟨y349, hy349⟩ : ∃ y_ : List Int, y_ = (x5_2.take 0) := ⟨_, rfl⟩
                      replace H : (if y346.length + y349.length < 17592186044416 then ((some (y346 ++ y349 : List Int)).bind fun y353 => (if 1 ≤ (x5_2.length : Int) then ((some (x5_2.drop 1 : List Int)).bind fun y356 => (if y353.length + y356.length < 17592186044416 then (arboristlaw11_given.l1 k2 a0 l1 (y353 ++ y356) y343 (wrap64 (x8_2 + 1))) else (none))) else (none))) else (none)) = some r := by first | (rw [hy349]; with_reducible exact H) | (have H2_ := (Option.bind_some _ _).symm.trans H; rw [hy349]; with_reducible exact H2_) | (have H2_ := (Option.bind_some _ _).symm.trans H; with_reducible exact H2_) | with_reducible exact H | (rw [hy349]; exact H) | exact H
                      have Ny349 := Aside0.mk hy349
                      clear hy349
                      by_cases c35 : y346.length + y349.length < 17592186044416
                      · rw [if_pos c35] at H
                        have LMc35 := Aside0.mk c35
                        clear c35
                        obtain ⟨y353, hy353⟩ : ∃ y_ : List Int, y_ = (y346 ++ y349) := ⟨_, rfl⟩
                        replace H : (if 1 ≤ (x5_2.length : Int) then ((some (x5_2.drop 1 : List Int)).bind fun y356 => (if y353.length + y356.length < 17592186044416 then (arboristlaw11_given.l1 k2 a0 l1 (y353 ++ y356) y343 (wrap64 (x8_2 + 1))) else (none))) else (none)) = some r := by first | (rw [hy353]; with_reducible exact H) | (have H2_ := (Option.bind_some _ _).symm.trans H; rw [hy353]; with_reducible exact H2_) | (have H2_ := (Option.bind_some _ _).symm.trans H; with_reducible exact H2_) | with_reducible exact H | (rw [hy353]; exact H) | exact H
                        have Ny353 := Aside0.mk hy353
                        clear hy353
                        by_cases c36 : 1 ≤ (x5_2.length : Int)
                        · rw [if_pos c36] at H
                          have c36b0 := eq_true c36
                          have c36b1 : decide (1 ≤ (x5_2.length : Int)) = true := decide_eq_true c36
                          clear c36
                          obtain ⟨y356, hy356⟩ : ∃ y_ : List Int, y_ = (x5_2.drop 1) := ⟨_, rfl⟩
                          replace H : (if y353.length + y356.length < 17592186044416 then (arboristlaw11_given.l1 k2 a0 l1 (y353 ++ y356) y343 (wrap64 (x8_2 + 1))) else (none)) = some r := by first | (rw [hy356]; with_reducible exact H) | (have H2_ := (Option.bind_some _ _).symm.trans H; rw [hy356]; with_reducible exact H2_) | (have H2_ := (Option.bind_some _ _).symm.trans H; with_reducible exact H2_) | with_reducible exact H | (rw [hy356]; exact H) | exact H
                          have Ny356 := Aside0.mk hy356
                          clear hy356
                          by_cases c37 : y353.length + y356.length < 17592186044416
                          · rw [if_pos c37] at H
                            have LMc37 := Aside0.mk c37
                            clear c37
                            obtain ⟨y360, hy360⟩ : ∃ y_ : List Int, y_ = (y353 ++ y356) := ⟨_, rfl⟩
                            replace H : (arboristlaw11_given.l1 k2 a0 l1 y360 y343 (wrap64 (x8_2 + 1))) = some r := by first | (rw [hy360]; with_reducible exact H) | (have H2_ := (Option.bind_some _ _).symm.trans H; rw [hy360]; with_reducible exact H2_) | (have H2_ := (Option.bind_some _ _).symm.trans H; with_reducible exact H2_) | with_reducible exact H | (rw [hy360]; exact H) | exact H
                            have Ny360 := Aside0.mk hy360
                            clear hy360
                            have H' := Aside0.mk H
                            clear H
                            obtain ⟨Ao38, co38, eo38⟩ := Kd.R_slice HO_5.out
                            subst eo38
                            have p342 : 0 ≤ (0 : Int) := (by omega)
                            have q342 : 0 < (x5_2.length : Int) := of_decide_eq_true (by first | (with_reducible assumption) | assumption)
                            obtain ⟨ad342, e342, hx342_0⟩ := Kd.at_int (Kd.R_reads' HO_5.out).2.2 0 p342 q342
                            cases e342
                            have qi342 : (0 < x5_2.length) = True := eq_true (by omega)
                            (try rw [show ((0 : Int)).toNat = 0 from rfl] at hx342_0)
                            (try rw [Addr.add_zero'] at hx342_0)
                            replace p342 := eq_true p342
                            replace q342 := eq_true q342
                            try go_wp2_with (first | ((with_reducible refine gate_builtin (b := .append) (xs := #[.tmp 37, .tmp 42]) rfl ?_); at_builtin; refine Kd.R_append (Kd.int .i64) (w0 := w) w.heap.size rfl (.tmp 37) (.tmp 42) 23 3 (.int .i64 0) 8 rfl Tryd.underlying23 info3 rfl (by decide) (by omega) u7 x7_2 (rd x5_2 0) [.int .i64 (rd x5_2 0)] (fun k_ => some k_ ≠ (.slice (some ad342) x5_2.length co38 : Value).ownBlock) (fun _ => False) rfl rfl ?aP (fun _ hk => hk.elim) ?aF ?aO ?aB ?aS ?aL ?_; (case aP => exact rfl); (case aB => exact (by repeat (first | (with_reducible first | exact HB.out | apply below_alloc | apply pw_below_drewN | apply below_drew1) | exact HB.out))); (case aF => exact (fun k_ hk => Kd.fresh' (Kd.R_lt (by (with_reducible repeat (first | apply Kd.R_alloc | apply Kd.R_drewN | apply Kd.R_drew)); exact HO_5.out)) k_ hk)); (case aO => exact (by (with_reducible repeat (first | apply Kd.R_alloc | apply Kd.R_drewN | apply Kd.R_drew)); exact HO_7.out)); (case aS => exact (below_size (by repeat (first | (with_reducible first | exact HB.out | apply below_alloc | apply pw_below_drewN | apply below_drew1) | exact HB.out)))); (case aL => have := LMc33.out; omega); intro v344 w39 ho hb hg hat; rw [← Ny343.out] at ho; have n0_ := Aside0.mk (Kd.R_after (ok := (fun _ => True)) (by (with_reducible repeat (first | apply Kd.R_alloc | apply Kd.R_drewN | apply Kd.R_drew)); exact Kd.R_mono HO_5.out (fun _ hk => ⟨trivial, hk⟩)) hg hat); have n1_ := Aside0.mk (hb); have n2_ := Aside0.mk (ho); clear HO_5; clear HB; clear HO_7; have HO_5 := n0_; have HB := n1_; have HO345 := n2_; clear n0_ n1_ n2_; clear ho hb hg hat))
                            (try (rw [drewN_self w39]; generalize hq_ : World.drewN w39 _ = w39; have n0_ := Aside0.mk (Kd.R_at hq_ HO_5.out); have n1_ := Aside0.mk (Kd.R_at hq_ HO345.out); have n2_ := Aside0.mk (below_at hq_ HB.out); clear hq_ HO_5 HO345 HB; have HO_5 := n0_; have HO345 := n1_; have HB := n2_; clear n0_ n1_ n2_))
                            have n0_ := Aside0.mk (Kd.R_drew HO_5.out)
                            have n1_ := Aside0.mk (Kd.R_drew HO345.out)
                            have n2_ := Aside0.mk (below_drew1 HB.out)
                            clear HO_5
                            clear HO345
                            clear HB
                            have HO_5 := n0_
                            have HO345 := n1_
                            have HB := n2_
                            clear n0_ n1_ n2_
                            have q41 : (0 : Int) ≤ ((x5_2.length : Int) : Int) := of_decide_eq_true (by first | (with_reducible assumption) | assumption)
                            obtain ⟨i041, hi041, _, hsz41, _⟩ := info_parts info3
                            have hroom41 : x5_2.length ≤ co38 := (Kd.R_reads' HO_5.out).2.1
                            have hC41 : Kd.C (Kd.int .i64) _ (some ad342) x5_2.length x5_2 := (Kd.R_reads' HO_5.out).2.2
                            have hcut41 := cut_to (P := Tryd.prog) 23 3 .i64 Tryd.underlying23 hi041 (some ad342) x5_2.length co38 0 (by omega) q41 hroom41
                            have hr41 := Kd.C_take (m := 0) hC41 (by omega)
                            have hy41 : y349.length = (0 : Int).toNat := (by rw [Ny349.out, List.length_take]; omega)
                            rw [← Ny349.out] at hr41
                            rw [← hy41] at hcut41
                            have HR352 := Aside0.mk hr41
                            have HC352 := Aside0.mk (show y349.length ≤ co38 from by omega)
                            clear hr41 hC41 hroom41 hi041 hsz41
                            have KY41 := Aside0.mk hy41
                            clear hy41
                            have KL41 := Aside0.mk (show 0 ≤ x5_2.length from by omega)
                            replace q41 := eq_true q41
                            have q42 : (1 : Int) ≤ ((x5_2.length : Int) : Int) := of_decide_eq_true (by first | (with_reducible assumption) | assumption)
                            obtain ⟨i042, hi042, _, hsz42, _⟩ := info_parts info3
                            have hroom42 : x5_2.length ≤ co38 := (Kd.R_reads' HO_5.out).2.1
                            have hC42 : Kd.C (Kd.int .i64) _ (some ad342) x5_2.length x5_2 := (Kd.R_reads' HO_5.out).2.2
                            have hcut42 := cut_from (P := Tryd.prog) 23 3 .i64 Tryd.underlying23 hi042 1 hsz42 (some ad342) x5_2.length co38 1 (by omega) q42
                            have hr42 := Kd.C_drop (m := (1 : Int).toNat) (c := co38) hC42 (by omega) hroom42
                            obtain ⟨A42, hA42⟩ : ∃ A1, A1 = (if co38 = (1 : Int).toNat then (some ad342) else ((some ad342) : Option Addr).map (·.add ((1 : Int).toNat * 1))) := ⟨_, rfl⟩
                            obtain ⟨c42, hc42⟩ : ∃ c1, c1 = co38 - (1 : Int).toNat := ⟨_, rfl⟩
                            have hy42 : y356.length = x5_2.length - (1 : Int).toNat := (by rw [Ny356.out, List.length_drop] <;> omega)
                            rw [show (x5_2).drop (1 : Int).toNat = y356 from Ny356.out.symm] at hr42
                            replace hr42 : Kd.C (Kd.int .i64) _ A42 y356.length y356 := (by rw [hA42]; exact hr42)
                            rw [← hy42, ← hA42, ← hc42] at hcut42
                            have HR359 := Aside0.mk hr42
                            have HC359 := Aside0.mk (show y356.length ≤ c42 from by rw [hy42, hc42]; exact Nat.sub_le_sub_right hroom42 _)
                            clear hr42 hC42 hroom42 hi042 hsz42 hc42
                            have KY42 := Aside0.mk hy42
                            have KA42 := Aside0.mk hA42
                            clear hy42 hA42
                            have KL42 := Aside0.mk (show 1 ≤ x5_2.length from by omega)
                            replace q42 := eq_true q42
                            refine start_ (n := 11) (S := fun w' => True) (ds := []) (bs 11 0) (by kernel_rfl) rfl rfl trivial (fun hHeld => ?_); refine with_tabW arboristlaw11_given.tab14 arboristlaw11_given.bits14 (fun HT_ HW_ => ?_)
                            generalize w39.drew = w40 at HO_5 HO345 HB HR352 HR359 hHeld ⊢
                            refine pure_ (i := 1) (N := some 45) (v := ?_) (a' := ?_) (bs 11 2) rfl rfl (any_of HT_.out (by kernel_rfl)) (fun _ _ _ h => h) (Or.inl ⟨by rfl, ?_⟩) ?_ ?_
                            rotate_left; (intro w'; go_simp; with_reducible rfl); rotate_left; (simp only [Act.put, List.setIfInBounds_toArray, List.set_cons_zero, List.set_cons_succ, i64_w, i32_w]; rfl)
                            refine pure_ (i := 2) (N := some 46) (v := ?_) (a' := ?_) (bs 11 6) rfl rfl (any_of HT_.out (by kernel_rfl)) (fun _ _ _ h => h) (Or.inl ⟨by rfl, ?_⟩) ?_ ?_
                            rotate_left; (intro w'; go_simp; with_reducible rfl); rotate_left; (simp only [Act.put, List.setIfInBounds_toArray, List.set_cons_zero, List.set_cons_succ, i64_w, i32_w]; rfl)
                            refine pure_ (i := 3) (N := some 47) (v := ?_) (a' := ?_) (bs 11 14) rfl rfl (any_of HT_.out (by kernel_rfl)) (fun _ _ _ h => h) (Or.inl ⟨by rfl, ?_⟩) ?_ ?_
                            rotate_left; (intro w'; go_simp; with_reducible rfl); rotate_left; (simp only [Act.put, List.setIfInBounds_toArray, List.set_cons_zero, List.set_cons_succ, i64_w, i32_w]; rfl)
                            refine pure_ (i := 5) (N := some 49) (v := ?_) (a' := ?_) (bs 11 46) rfl rfl (any_of HT_.out (by kernel_rfl)) (fun _ _ _ h => h) (Or.inl ⟨by rfl, ?_⟩) ?_ ?_
                            rotate_left; (intro w'; go_simp; with_reducible rfl); rotate_left; (simp only [Act.put, List.setIfInBounds_toArray, List.set_cons_zero, List.set_cons_succ, i64_w, i32_w]; rfl)
                            refine pure_ (i := 6) (N := some 50) (v := ?_) (a' := ?_) (bs 11 110) rfl rfl (any_of HT_.out (by kernel_rfl)) (fun _ _ _ h => h) (Or.inl ⟨by rfl, ?_⟩) ?_ ?_
                            rotate_left; (intro w'; go_simp; with_reducible rfl); rotate_left; (simp only [Act.put, List.setIfInBounds_toArray, List.set_cons_zero, List.set_cons_succ, i64_w, i32_w]; rfl)
                            refine pure_ (i := 7) (N := some 51) (v := ?_) (a' := ?_) (bs 11 238) rfl rfl (any_of HT_.out (by kernel_rfl)) (fun _ _ _ h => h) (Or.inl ⟨by rfl, ?_⟩) ?_ ?_
                            rotate_left; (intro w'; go_simp; with_reducible rfl); rotate_left; (simp only [Act.put, List.setIfInBounds_toArray, List.set_cons_zero, List.set_cons_succ, i64_w, i32_w]; rfl)
                            refine pure_ (i := 8) (N := some 52) (v := ?_) (a' := ?_) (bs 11 494) rfl rfl (any_of HT_.out (by kernel_rfl)) (fun _ _ _ h => h) (Or.inl ⟨by rfl, ?_⟩) ?_ ?_
                            rotate_left; (intro w'; go_simp; with_reducible rfl); rotate_left; (simp only [Act.put, List.setIfInBounds_toArray, List.set_cons_zero, List.set_cons_succ, i64_w, i32_w]; rfl)
                            refine one_ (i := 0) (N := some 44) (bs 11 495) rfl rfl (one_of HT_.out (by kernel_rfl)) (by decide) (fun K hK => ?_)
                            refine Kd.R_lit_step (Kd.int .i64) _ 3 ?hg (N := 44) ?hd (xs := ([] : List Int)) (inner := []) (ok := fun _ => True) (okp := fun _ => True) ?hr ?hp (fun _ hk => hk) trivial (Below.refl _ _) (Nat.le_refl _) (by simp) ?_; (case hd => rfl); (case hg => rfl); (case hr => first | (go_simp; done) | (go_simp; rfl)); (case hp => exact (Reps.none _ _))
                            intro v347 w43 ho44 hb hg_ hnew_
                            clear hg_ hnew_
                            (first | rw [← Ny346.out] at ho44 | (simp only [Int.reduceToNat] at ho44; rw [← Ny346.out] at ho44))
                            have n0_ := Aside0.mk (Kd.R_elder' (by (with_reducible repeat (first | apply Kd.R_alloc | apply Kd.R_drewN | apply Kd.R_drew)); exact HO_5.out) (Kd.R_base ho44) hb)
                            have n1_ := Aside0.mk (Kd.R_elder' (by (with_reducible repeat (first | apply Kd.R_alloc | apply Kd.R_drewN | apply Kd.R_drew)); exact HO345.out) (Kd.R_base ho44) hb)
                            have n2_ := Aside0.mk (Kd.R_lower (Kd.R_new' (Kd.R_new' ho44 (Kd.R_lt (by (with_reducible repeat (first | apply Kd.R_alloc | apply Kd.R_drewN | apply Kd.R_drew)); exact HO_5.out))) (Kd.R_lt (by (with_reducible repeat (first | apply Kd.R_alloc | apply Kd.R_drewN | apply Kd.R_drew)); exact HO345.out))) (below_size (by repeat (first | (with_reducible first | exact HB.out | apply below_alloc | apply pw_below_drewN | apply below_drew1) | exact HB.out))))
                            have n3_ := Aside0.mk (Kd.C_below (by repeat (first | (with_reducible exact HR352.out) | (with_reducible refine Kd.C_alloc ?_ _) | (with_reducible refine Kd.C_drewN ?_ _) | (with_reducible refine Kd.C_drew ?_) | exact HR352.out)) hb)
                            have n4_ := Aside0.mk (Kd.C_below (by repeat (first | (with_reducible exact HR359.out) | (with_reducible refine Kd.C_alloc ?_ _) | (with_reducible refine Kd.C_drewN ?_ _) | (with_reducible refine Kd.C_drew ?_) | exact HR359.out)) hb)
                            have n5_ := Aside0.mk (below_step (by repeat (first | (with_reducible first | exact HB.out | apply below_alloc | apply pw_below_drewN | apply below_drew1) | exact HB.out)) hb)
                            clear HO_5
                            clear HO345
                            clear HR352
                            clear HR359
                            clear HB
                            have HO_5 := n0_
                            have HO345 := n1_
                            have HO348 := n2_
                            have HR352 := n3_
                            have HR359 := n4_
                            have HB := n5_
                            clear n0_ n1_ n2_ n3_ n4_ n5_
                            clear hb ho44
                            refine hK.out _ _ trivial (fun hHeld => ?_)
                            clear hK K
                            refine norm_ (a' := ?_) ?_ ?_
                            rotate_left
                            · show Act.put _ (some 44) _ = _
                              simp only [Act.put, List.setIfInBounds_toArray, List.set_cons_zero, List.set_cons_succ, i64_w, i32_w]
                              rfl
                            refine one_ (i := 4) (N := some 48) (bs 11 511) rfl rfl (one_of HT_.out (by kernel_rfl)) (by decide) (fun K hK => ?_)
                            refine Kd.R_append_rows_step (Kd.int .i64) (w0 := w) w.heap.size (by rfl) (.tmp 44) (.tmp 47) 23 3 (.int .i64 0) 8 rfl Tryd.underlying23 info3 rfl (by decide) (by omega) v347 y346 y349 _ _ _ (fun k_ => some k_ ≠ (.slice (some ad342) x5_2.length co38 : Value).ownBlock ∧ some k_ ≠ (v344 : Value).ownBlock) (fun _ => False) rfl rfl ?aO ?aR (fun _ _ h => h) (fun _ h => h.elim) ?aF ?aB ?aS ?aL ?_
                            (case aR => repeat (first | exact (by repeat (first | (with_reducible exact HR352.out) | (with_reducible refine Kd.C_alloc ?_ _) | (with_reducible refine Kd.C_drewN ?_ _) | (with_reducible refine Kd.C_drew ?_) | exact HR352.out)) | (with_reducible refine Kd.C_alloc ?_ _) | (with_reducible refine Kd.C_drewN ?_ _) | (with_reducible refine Kd.C_drew ?_)))
                            (case aB => exact (by repeat (first | (with_reducible first | exact HB.out | apply below_alloc | apply pw_below_drewN | apply below_drew1) | exact HB.out)))
                            (case aF => exact (fun k_ hk => ⟨Kd.fresh' (Kd.R_lt (by (with_reducible repeat (first | apply Kd.R_alloc | apply Kd.R_drewN | apply Kd.R_drew)); exact HO_5.out)) k_ hk, Kd.fresh' (Kd.R_lt (by (with_reducible repeat (first | apply Kd.R_alloc | apply Kd.R_drewN | apply Kd.R_drew)); exact HO345.out)) k_ hk⟩))
                            (case aO => exact (by (with_reducible repeat (first | apply Kd.R_alloc | apply Kd.R_drewN | apply Kd.R_drew)); exact Kd.R_mono HO348.out (fun _ hk => ⟨hk.1.2, hk.2⟩)))
                            (case aS => exact (below_size (by repeat (first | (with_reducible first | exact HB.out | apply below_alloc | apply pw_below_drewN | apply below_drew1) | exact HB.out))))
                            (case aL => have := LMc35.out; omega)
                            intro v354 w45 ho hb hg hat
                            rw [← Ny353.out] at ho
                            have n0_ := Aside0.mk (Kd.R_after (ok := (fun k_ => some k_ ≠ (v344 : Value).ownBlock)) (by (with_reducible repeat (first | apply Kd.R_alloc | apply Kd.R_drewN | apply Kd.R_drew)); exact Kd.R_mono HO_5.out (fun _ hk => ⟨hk.1.2, hk.2⟩)) hg hat)
                            have n1_ := Aside0.mk (Kd.R_after (ok := (fun k_ => some k_ ≠ (.slice (some ad342) x5_2.length co38 : Value).ownBlock)) (by (with_reducible repeat (first | apply Kd.R_alloc | apply Kd.R_drewN | apply Kd.R_drew)); exact HO345.out) hg hat)
                            have n2_ := Aside0.mk (hb)
                            have n3_ := Aside0.mk ((show Kd.C (Kd.int .i64) w45 (some ad342) y349.length y349 from by rw [Ny349.out]; exact Kd.C_take (m := 0) ((Kd.R_reads' (Kd.R_after (ok := (fun k_ => some k_ ≠ (v344 : Value).ownBlock)) (by (with_reducible repeat (first | apply Kd.R_alloc | apply Kd.R_drewN | apply Kd.R_drew)); exact Kd.R_mono HO_5.out (fun _ hk => ⟨hk.1.2, hk.2⟩)) hg hat)).2.2) KL41.out))
                            have n4_ := Aside0.mk ((show Kd.C (Kd.int .i64) w45 A42 y356.length y356 from by rw [Ny356.out, KA42.out]; exact Kd.C_drop (m := 1) (c := co38) ((Kd.R_reads' (Kd.R_after (ok := (fun k_ => some k_ ≠ (v344 : Value).ownBlock)) (by (with_reducible repeat (first | apply Kd.R_alloc | apply Kd.R_drewN | apply Kd.R_drew)); exact Kd.R_mono HO_5.out (fun _ hk => ⟨hk.1.2, hk.2⟩)) hg hat)).2.2) KL42.out ((Kd.R_reads' (Kd.R_after (ok := (fun k_ => some k_ ≠ (v344 : Value).ownBlock)) (by (with_reducible repeat (first | apply Kd.R_alloc | apply Kd.R_drewN | apply Kd.R_drew)); exact Kd.R_mono HO_5.out (fun _ hk => ⟨hk.1.2, hk.2⟩)) hg hat)).2.1)))
                            have n5_ := Aside0.mk (ho)
                            clear HO_5
                            clear HO345
                            clear HB
                            clear HR352
                            clear HR359
                            clear HO348
                            have HO_5 := n0_
                            have HO345 := n1_
                            have HB := n2_
                            have HR352 := n3_
                            have HR359 := n4_
                            have HO355 := n5_
                            clear n0_ n1_ n2_ n3_ n4_ n5_
                            clear ho hb hg hat
                            refine hK.out _ _ trivial (fun hHeld => ?_)
                            clear hK K
                            refine norm_ (a' := ?_) ?_ ?_
                            rotate_left
                            · show Act.put _ (some 48) _ = _
                              simp only [Act.put, List.setIfInBounds_toArray, List.set_cons_zero, List.set_cons_succ, i64_w, i32_w]
                              rfl
                            refine one_ (i := 9) (N := some 53) (bs 11 1023) rfl rfl (one_of HT_.out (by kernel_rfl)) (by decide) (fun K hK => ?_)
                            refine Kd.R_append_rows_step (Kd.int .i64) (w0 := w) w.heap.size (by rfl) (.tmp 48) (.tmp 52) 23 3 (.int .i64 0) 8 rfl Tryd.underlying23 info3 rfl (by decide) (by omega) v354 y353 y356 _ _ _ (fun k_ => some k_ ≠ (.slice (some ad342) x5_2.length co38 : Value).ownBlock ∧ some k_ ≠ (v344 : Value).ownBlock) (fun _ => False) rfl rfl ?aO ?aR (fun _ _ h => h) (fun _ h => h.elim) ?aF ?aB ?aS ?aL ?_
                            (case aR => repeat (first | exact (by repeat (first | (with_reducible exact HR359.out) | (with_reducible refine Kd.C_alloc ?_ _) | (with_reducible refine Kd.C_drewN ?_ _) | (with_reducible refine Kd.C_drew ?_) | exact HR359.out)) | (with_reducible refine Kd.C_alloc ?_ _) | (with_reducible refine Kd.C_drewN ?_ _) | (with_reducible refine Kd.C_drew ?_)))
                            (case aB => exact (by repeat (first | (with_reducible first | exact HB.out | apply below_alloc | apply pw_below_drewN | apply below_drew1) | exact HB.out)))
                            (case aF => exact (fun k_ hk => ⟨Kd.fresh' (Kd.R_lt (by (with_reducible repeat (first | apply Kd.R_alloc | apply Kd.R_drewN | apply Kd.R_drew)); exact HO_5.out)) k_ hk, Kd.fresh' (Kd.R_lt (by (with_reducible repeat (first | apply Kd.R_alloc | apply Kd.R_drewN | apply Kd.R_drew)); exact HO345.out)) k_ hk⟩))
                            (case aO => exact (by (with_reducible repeat (first | apply Kd.R_alloc | apply Kd.R_drewN | apply Kd.R_drew)); exact HO355.out))
                            (case aS => exact (below_size (by repeat (first | (with_reducible first | exact HB.out | apply below_alloc | apply pw_below_drewN | apply below_drew1) | exact HB.out))))
                            (case aL => have := LMc37.out; omega)
                            intro v361 w46 ho hb hg hat
                            rw [← Ny360.out] at ho
                            have n0_ := Aside0.mk (Kd.R_after (ok := (fun k_ => some k_ ≠ (v344 : Value).ownBlock)) (by (with_reducible repeat (first | apply Kd.R_alloc | apply Kd.R_drewN | apply Kd.R_drew)); exact HO_5.out) hg hat)
                            have n1_ := Aside0.mk (Kd.R_after (ok := (fun k_ => some k_ ≠ (.slice (some ad342) x5_2.length co38 : Value).ownBlock)) (by (with_reducible repeat (first | apply Kd.R_alloc | apply Kd.R_drewN | apply Kd.R_drew)); exact HO345.out) hg hat)
                            have n2_ := Aside0.mk (hb)
                            have n3_ := Aside0.mk ((show Kd.C (Kd.int .i64) w46 (some ad342) y349.length y349 from by rw [Ny349.out]; exact Kd.C_take (m := 0) ((Kd.R_reads' (Kd.R_after (ok := (fun k_ => some k_ ≠ (v344 : Value).ownBlock)) (by (with_reducible repeat (first | apply Kd.R_alloc | apply Kd.R_drewN | apply Kd.R_drew)); exact HO_5.out) hg hat)).2.2) KL41.out))
                            have n4_ := Aside0.mk ((show Kd.C (Kd.int .i64) w46 A42 y356.length y356 from by rw [Ny356.out, KA42.out]; exact Kd.C_drop (m := 1) (c := co38) ((Kd.R_reads' (Kd.R_after (ok := (fun k_ => some k_ ≠ (v344 : Value).ownBlock)) (by (with_reducible repeat (first | apply Kd.R_alloc | apply Kd.R_drewN | apply Kd.R_drew)); exact HO_5.out) hg hat)).2.2) KL42.out ((Kd.R_reads' (Kd.R_after (ok := (fun k_ => some k_ ≠ (v344 : Value).ownBlock)) (by (with_reducible repeat (first | apply Kd.R_alloc | apply Kd.R_drewN | apply Kd.R_drew)); exact HO_5.out) hg hat)).2.1)))
                            have n5_ := Aside0.mk (ho)
                            clear HO_5
                            clear HO345
                            clear HB
                            clear HR352
                            clear HR359
                            clear HO355
                            have HO_5 := n0_
                            have HO345 := n1_
                            have HB := n2_
                            have HR352 := n3_
                            have HR359 := n4_
                            have HO362 := n5_
                            clear n0_ n1_ n2_ n3_ n4_ n5_
                            clear ho hb hg hat
                            refine hK.out _ _ trivial (fun hHeld => ?_)
                            clear hK K
                            refine norm_ (a' := ?_) ?_ ?_
                            rotate_left
                            · show Act.put _ (some 53) _ = _
                              simp only [Act.put, List.setIfInBounds_toArray, List.set_cons_zero, List.set_cons_succ, i64_w, i32_w]
                              rfl
                            refine pure_ (i := 10) (N := some 5) (v := ?_) (a' := ?_) (bs 11 2047) rfl rfl (any_of HT_.out (by kernel_rfl)) (fun _ _ _ h => h) (Or.inl ⟨by rfl, ?_⟩) ?_ ?_
                            rotate_left; (intro w'; go_simp; with_reducible rfl); rotate_left; (simp only [Act.put, List.setIfInBounds_toArray, List.set_cons_zero, List.set_cons_succ, i64_w, i32_w]; rfl)
                            refine done_ (done_of HT_.out (by kernel_rfl)) ?_
                            try go_wp2
                            go_roundg k2
                            case measure => have := HK1.out; have := HK2.out; omega
                            case rel => exact ⟨(y360), (y343), (wrap64 (x8_2 + 1)), (by first | rfl | (simp; done) | (simp [*]; done)), H', ⟨by have := HK1.out; have := HK2.out; omega⟩, ⟨by (with_reducible repeat (first | apply Kd.R_alloc | apply Kd.R_drewN | apply Kd.R_drew)); exact Kd.R_mono HO362.out (fun _ hk => hk.2)⟩, ⟨by (with_reducible repeat (first | apply Kd.R_alloc | apply Kd.R_drewN | apply Kd.R_drew)); exact Kd.R_mono HO345.out (fun _ hk => hk.2)⟩, ⟨by repeat (first | (with_reducible first | exact HB.out | apply below_alloc | apply pw_below_drewN | apply below_drew1) | exact HB.out)⟩⟩
                          · rw [if_neg c37] at H
                            exact absurd H (by simp)
                        · rw [if_neg c36] at H
                          exact absurd H (by simp)
                      · rw [if_neg c35] at H
                        exact absurd H (by simp)
                    · rw [if_neg c34] at H
                      exact absurd H (by simp)
                  · rw [if_neg c33] at H
                    exact absurd H (by simp)
                · rw [if_neg c32] at H
                  exact absurd H (by simp)
            · rw [if_neg c8] at H
              have c8b0 : decide (x8_2 < a0) = false := decide_eq_false c8
              clear c8
              obtain rfl := Option.some.inj H
              go_wp2
              go_ret
              exact ⟨_, by first | rfl | (simp [errW_none, errW_some] <;> rfl) | (simp [*, errW_none, errW_some] <;> rfl), by (with_reducible repeat (first | apply Kd.R_alloc | apply Kd.R_drewN | apply Kd.R_drew)); exact Kd.R_mono HO_7.out (fun _ hk => trivial), by repeat (first | (with_reducible first | exact HB.out | apply below_alloc | apply pw_below_drewN | apply below_drew1) | exact HB.out)⟩

end Go.Proofs.YtbdlelojlnhhfaaDoor.Pr
