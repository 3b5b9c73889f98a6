-- Printed by wip/tools/pp.py over the kit's print.py, several texts in one (wip/tools/mergepr.py); Lean checks it.
import Derived.Test.YtopjffgmpphdbaaDoorPr0
namespace Go.Proofs.YtopjffgmpphdbaaDoor.Pr
open Go.RowKit Go.Proofs.YtopjffgmpphdbaaDoorW.PrintWords Go.Proofs.YtopjffgmpphdbaaDoorW.PrintLast Go.Proofs.YtopjffgmpphdbaaDoorW.PrintMore
attribute [local go_sem] max2_int min2_int max_two min_two max_three min_three max_four min_four   -- for this text's walks alone
set_option linter.unusedVariables false
set_option linter.unusedSimpArgs false

/-! ### arboristref08_Empty: function 31 -/
def arboristref08_Empty.l0 : Nat → Int → List (List Bool) → Int → Option ((List (List Bool)))
  | 0, _, _, _ => none
  | k + 1, x0, x3, x4 => if x4 < x0 then (if 0 ≤ x0 then (if (x0 : Int).toNat ≤ 281474976710656 then (if x3.length < 5864062014805 then (arboristref08_Empty.l0 k x0 (x3 ++ [(List.replicate (x0 : Int).toNat false)]) (wrap64 (x4 + 1))) else (none)) else (none)) else (none)) else (some x3)
def arboristref08_Empty.f (k : Nat) (a0 : Int) : Option ((List (List Bool))) := arboristref08_Empty.l0 k a0 (([] : List (List Bool))) 0
theorem arboristref08_Empty.mono_l : ∀ k, (∀ y0 y1 y2, LeO (arboristref08_Empty.l0 k y0 y1 y2) (arboristref08_Empty.l0 (k + 1) y0 y1 y2))
  | 0 => fun _ _ _ r h => by simp [arboristref08_Empty.l0] at h
  | k + 1 => by
    have ih0 := arboristref08_Empty.mono_l k
    all_goals intros
    all_goals (first | unfold arboristref08_Empty.l0)
    all_goals repeat' first
    | (with_reducible exact ih0 _ _ _)
    | (with_reducible exact LeO.refl _)
    | (with_reducible exact LeO.none _)
    | (with_reducible refine LeO.ite ?_ ?_)
    | (with_reducible refine LeO.bind ?_ (fun _ => ?_))
    | exact ih0 _ _ _
    | exact LeO.none _
    | refine LeO.ite ?_ ?_
    | refine LeO.bind ?_ (fun _ => ?_)
theorem arboristref08_Empty.mono : ∀ a0 k, LeO (arboristref08_Empty.f k a0) (arboristref08_Empty.f (k + 1) a0) := by
  intro a0 k
  have ih0 := arboristref08_Empty.mono_l k
  unfold arboristref08_Empty.f
  repeat' first
      | (with_reducible exact ih0 _ _ _)
      | (with_reducible exact LeO.refl _)
      | (with_reducible exact LeO.none _)
      | (with_reducible refine LeO.ite ?_ ?_)
      | (with_reducible refine LeO.bind ?_ (fun _ => ?_))
      | exact ih0 _ _ _
      | exact LeO.none _
      | refine LeO.ite ?_ ?_
      | refine LeO.bind ?_ (fun _ => ?_)
set_option maxHeartbeats 8000000 in
set_option maxRecDepth 100000 in
theorem arboristref08_Empty.calls (k : Nat) (a0 : Int) (r : List (List Bool)) (w : World) (h : arboristref08_Empty.f k a0 = some r) :
    Calls Tryd.prog 31 #[.int .i64 a0] w fun e w' => ∃ v0_ : Value, e = .returned (v0_) ∧ Kd.S (Kd.slice 4 Kd.bool) 55 w' w.heap.size (fun _ => True) v0_ r ∧ Below w.heap.size w w' := by
  have HB := Aside0.mk (Below.refl w.heap.size w)
  have H : (arboristref08_Empty.l0 k a0 (([] : List (List Bool))) 0) = some r := h
  clear h
  obtain ⟨y302, hy302⟩ : ∃ y_ : List (List Bool), y_ = (([] : List (List Bool))) := ⟨_, rfl⟩
  replace H : (arboristref08_Empty.l0 k a0 y302 0) = some r := by first | (rw [hy302]; with_reducible exact H) | (have H2_ := (Option.bind_some _ _).symm.trans H; rw [hy302]; with_reducible exact H2_) | (have H2_ := (Option.bind_some _ _).symm.trans H; with_reducible exact H2_) | with_reducible exact H | (rw [hy302]; exact H) | exact H
  have Ny302 := Aside0.mk hy302
  clear hy302
  have H' := Aside0.mk H
  clear H
  go_enter Tryd.func31, Tryd.ntmps31
  go_wp2_with (first | ((with_reducible refine gate_dst (N := 5) rfl ?_); refine Kd.S_lit (Kd.slice 4 Kd.bool) _ 55 ?hg (N := 5) ?hd (xs := ([] : List (List Bool))) (inner := []) (ok := fun _ => True) (okp := fun _ => True) ?hr ?hp (fun _ hk => hk) trivial (Below.refl _ _) (Nat.le_refl _) (by simp) ?_; (case hd => rfl); (case hg => rfl); (case hr => first | (go_simp; done) | (go_simp; rfl)); (case hp => exact (Reps.none _ _)); intro v303 w2 ho3 hb hg_ hnew_; clear hg_ hnew_; (first | rw [← Ny302.out] at ho3 | (simp only [Int.reduceToNat] at ho3; rw [← Ny302.out] at ho3)); have n0_ := Aside0.mk (Kd.S_lower ho3 (below_size (by repeat (first | (with_reducible first | exact HB.out | apply below_alloc | apply pw_below_drewN | apply below_drew1) | exact HB.out)))); have n1_ := Aside0.mk (below_step (by repeat (first | (with_reducible first | exact HB.out | apply below_alloc | apply pw_below_drewN | apply below_drew1) | exact HB.out)) hb); clear HB; have HO304 := n0_; have HB := n1_; clear n0_ n1_; clear hb ho3))
  go_loopg [3, 4] k (fun kq v3 v4 w' => ∃ (x3_1 : List (List Bool)) (x4_1 : Int), v4 = .int .i64 x4_1 ∧ Aside0 (arboristref08_Empty.l0 kq a0 x3_1 x4_1 = some r) ∧ Aside0 (kq ≤ k) ∧ Aside0 (Kd.S (Kd.slice 4 Kd.bool) 55 w' w.heap.size (fun _ => True) v3 x3_1) ∧ Aside0 (Below w.heap.size w w'))
  case atStart => exact ⟨(y302), (0), (by first | rfl | (simp; done) | (simp [*]; done)), H', ⟨Nat.le_refl _⟩, ⟨by (with_reducible repeat (first | apply Kd.S_alloc | apply Kd.S_drewN | apply Kd.S_drew)); exact HO304.out⟩, ⟨by repeat (first | (with_reducible first | exact HB.out | apply below_alloc | apply pw_below_drewN | apply below_drew1) | exact HB.out)⟩⟩
  case round =>
    clear H'
    try clear p2
    try clear c3
    obtain ⟨x3_1, x4_1, rfl, HA, HK1, HO_3, HB⟩ := hrel
    cases gk with
    | zero => exact absurd HA.out (by simp [arboristref08_Empty.l0])
    | succ k1 =>
      have H := HA.out
      clear HA
      simp only [arboristref08_Empty.l0] at H
      by_cases c4 : x4_1 < a0
      · rw [if_pos c4] at H
        have c4b0 : decide (x4_1 < a0) = true := decide_eq_true c4
        clear c4
        by_cases c5 : 0 ≤ a0
        · rw [if_pos c5] at H
          have c5b0 := eq_true c5
          have c5b1 : decide (0 ≤ a0) = true := decide_eq_true c5
          clear c5
          by_cases c6 : (a0 : Int).toNat ≤ 281474976710656
          · rw [if_pos c6] at H
            have c6b0 := eq_true c6
            have c6b1 : decide ((a0 : Int).toNat ≤ 281474976710656) = true := decide_eq_true c6
            clear c6
            obtain ⟨y305, hy305⟩ : ∃ y_ : List Bool, y_ = (List.replicate (a0 : Int).toNat false) := ⟨_, rfl⟩
            replace H : (if x3_1.length < 5864062014805 then (arboristref08_Empty.l0 k1 a0 (x3_1 ++ [y305]) (wrap64 (x4_1 + 1))) else (none)) = some r := by first | (rw [hy305]; with_reducible exact H) | (have H2_ := (Option.bind_some _ _).symm.trans H; rw [hy305]; with_reducible exact H2_) | (have H2_ := (Option.bind_some _ _).symm.trans H; with_reducible exact H2_) | with_reducible exact H | (rw [hy305]; exact H) | exact H
            have Ny305 := Aside0.mk hy305
            clear hy305
            by_cases c7 : x3_1.length < 5864062014805
            · rw [if_pos c7] at H
              have LMc7 := Aside0.mk c7
              clear c7
              obtain ⟨y308, hy308⟩ : ∃ y_ : List (List Bool), y_ = (x3_1 ++ [y305]) := ⟨_, rfl⟩
              replace H : (arboristref08_Empty.l0 k1 a0 y308 (wrap64 (x4_1 + 1))) = some r := by first | (rw [hy308]; with_reducible exact H) | (have H2_ := (Option.bind_some _ _).symm.trans H; rw [hy308]; with_reducible exact H2_) | (have H2_ := (Option.bind_some _ _).symm.trans H; with_reducible exact H2_) | with_reducible exact H | (rw [hy308]; exact H) | exact H
              have Ny308 := Aside0.mk hy308
              clear hy308
              have H' := Aside0.mk H
              clear H
              go_wp2_with (first | ((with_reducible refine gate_dst (N := 13) rfl ?_); refine Kd.R_make Kd.bool _ 4 rfl (N := 13) rfl 55 _ _ rfl a0 rfl rfl Tryd.underlying55 (.bool false) 1 info4 rfl (by decide) (by omega) false (ok := fun _ => True) (okp := fun _ => True) rfl (fun _ hk => hk) trivial (of_decide_eq_true (by first | (with_reducible assumption) | assumption)) (Nat.le_trans (Nat.mul_le_mul_right _ (of_decide_eq_true (by first | (with_reducible assumption) | assumption) : a0.toNat ≤ 281474976710656)) (by omega)) (Below.refl _ _) (Nat.le_refl _) ?_; intro v306 w8 ho9 hb hg_ hnew_; clear hg_ hnew_; (first | rw [← Ny305.out] at ho9 | (simp only [Int.reduceToNat] at ho9; rw [← Ny305.out] at ho9)); have n0_ := Aside0.mk (Kd.S_elder' (by (with_reducible repeat (first | apply Kd.S_alloc | apply Kd.S_drewN | apply Kd.S_drew)); exact HO_3.out) (Kd.R_base ho9) hb); have n1_ := Aside0.mk (Kd.R_lower ho9 (below_size (by repeat (first | (with_reducible first | exact HB.out | apply below_alloc | apply pw_below_drewN | apply below_drew1) | exact HB.out)))); have n2_ := Aside0.mk (below_step (by repeat (first | (with_reducible first | exact HB.out | apply below_alloc | apply pw_below_drewN | apply below_drew1) | exact HB.out)) hb); clear HO_3; clear HB; have HO_3 := n0_; have HO307 := n1_; have HB := n2_; clear n0_ n1_ n2_; clear hb ho9; obtain ⟨Ao11, co11, eo11⟩ := Kd.R_slice HO307.out; subst eo11) | ((with_reducible refine gate_builtin (b := .append) (xs := #[.tmp 11, .tmp 14]) rfl ?_); at_builtin; refine Kd.S_append (Kd.slice 4 Kd.bool) (w0 := w) w.heap.size rfl (.tmp 11) (.tmp 14) 25 55 (.slice none 0 0) 24 rfl Tryd.underlying25 info55 rfl (by decide) (by omega) u3 x3_1 y305 [.slice Ao11 y305.length co11] (fun _ => True) (fun k_ => some k_ = (.slice Ao11 y305.length co11 : Value).ownBlock) rfl rfl ?aP (fun k_ hk_ => ((Kd.R_mono (ok' := fun k_ => ((fun _ => True)) k_ ∧ some k_ ≠ (u3 : Value).ownBlock) (Kd.R_apart' (HO307.out) (Kd.S_typed HO_3.out) (by decide)) (fun k_ hk => ⟨trivial, hk.2⟩))).1 k_ hk_.symm) ?aF ?aO ?aB ?aS ?aL ?_; (case aP => exact Kd.M_row (Kd.R_mono (Kd.R_tight rfl (Kd.R_mono (ok' := fun k_ => ((fun _ => True)) k_ ∧ some k_ ≠ (u3 : Value).ownBlock) (Kd.R_apart' (HO307.out) (Kd.S_typed HO_3.out) (by decide)) (fun k_ hk => ⟨trivial, hk.2⟩))) (fun _ h_ => h_))); (case aB => exact (by repeat (first | (with_reducible first | exact HB.out | apply below_alloc | apply pw_below_drewN | apply below_drew1) | exact HB.out))); (case aF => exact (fun _ _ => trivial)); (case aO => exact (by (with_reducible repeat (first | apply Kd.S_alloc | apply Kd.S_drewN | apply Kd.S_drew)); exact Kd.S_mono HO_3.out (fun k_ hk => ⟨trivial, fun e_ => hk.2 e_⟩))); (case aS => exact (below_size (by repeat (first | (with_reducible first | exact HB.out | apply below_alloc | apply pw_below_drewN | apply below_drew1) | exact HB.out)))); (case aL => have := LMc7.out; omega); intro v309 w10 ho hb hg hat; rw [← Ny308.out] at ho; have n0_ := Aside0.mk (hb); have n1_ := Aside0.mk (ho); clear HB; clear HO_3; clear HO307; have HB := n0_; have HO310 := n1_; clear n0_ n1_; clear ho hb hg hat))
              go_roundg k1
              case measure => have := HK1.out; omega
              case rel => exact ⟨(y308), (wrap64 (x4_1 + 1)), (by first | rfl | (simp; done) | (simp [*]; done)), H', ⟨by have := HK1.out; omega⟩, ⟨by (with_reducible repeat (first | apply Kd.S_alloc | apply Kd.S_drewN | apply Kd.S_drew)); exact HO310.out⟩, ⟨by repeat (first | (with_reducible first | exact HB.out | apply below_alloc | apply pw_below_drewN | apply below_drew1) | exact HB.out)⟩⟩
            · rw [if_neg c7] at H
              exact absurd H (by simp)
          · rw [if_neg c6] at H
            exact absurd H (by simp)
        · rw [if_neg c5] at H
          exact absurd H (by simp)
      · rw [if_neg c4] at H
        have c4b0 : decide (x4_1 < a0) = false := decide_eq_false c4
        clear c4
        obtain rfl := Option.some.inj H
        go_wp2
        go_ret
        exact ⟨_, by first | rfl | (simp [errW_none, errW_some] <;> rfl) | (simp [*, errW_none, errW_some] <;> rfl), by (with_reducible repeat (first | apply Kd.S_alloc | apply Kd.S_drewN | apply Kd.S_drew)); exact HO_3.out, by repeat (first | (with_reducible first | exact HB.out | apply below_alloc | apply pw_below_drewN | apply below_drew1) | exact HB.out)⟩

end Go.Proofs.YtopjffgmpphdbaaDoor.Pr
namespace Go.Proofs.YtopjffgmpphdbaaDoor.Pr
open Go.RowKit Go.Proofs.YtopjffgmpphdbaaDoorW.PrintWords Go.Proofs.YtopjffgmpphdbaaDoorW.PrintLast Go.Proofs.YtopjffgmpphdbaaDoorW.PrintMore
attribute [local go_sem] max2_int min2_int max_two min_two max_three min_three max_four min_four   -- for this text's walks alone
set_option linter.unusedVariables false
set_option linter.unusedSimpArgs false

/-! ### arboristlaw10_made: function 11 -/
mutual
def arboristlaw10_made.l0 : Nat → Int → List (List Int) → List (List Bool) → Int → Option ((List (List Bool)))
  | 0, _, _, _, _ => none
  | k + 1, x0, x1, x5, x6 => if x6 < (x1.length : Int) then (if x6 < 40 then (arboristlaw10_made.j1 k x0 x1 x5 x6 (decide (x0 > 0))) else (arboristlaw10_made.j1 k x0 x1 x5 x6 false)) else (arboristlaw10_made.j1 k x0 x1 x5 x6 false)
def arboristlaw10_made.j1 : Nat → Int → List (List Int) → List (List Bool) → Int → Bool → Option ((List (List Bool)))
  | 0, _, _, _, _, _ => none
  | k + 1, x0, x1, x5, x6, x25 => if x25 = true then (if 0 ≤ x6 then (if x6 < (x1.length : Int) then (if ((rd_L1 x1 x6).length : Int) < 2 then (arboristlaw10_made.l0 k x0 x1 x5 (wrap64 (x6 + 1))) else (if 0 < ((rd_L1 x1 x6).length : Int) then (if x0 = 0 then (none) else (if 1 < ((rd_L1 x1 x6).length : Int) then (if (Int.tmod (Go.bits .and .i64 (rd (rd_L1 x1 x6) 0) 65535) x0) = (Int.tmod (Go.bits .and .i64 (rd (rd_L1 x1 x6) 1) 65535) x0) then (arboristlaw10_made.l0 k x0 x1 x5 (wrap64 (x6 + 1))) else (if 0 ≤ (Int.tmod (Go.bits .and .i64 (rd (rd_L1 x1 x6) 0) 65535) x0) then (if (Int.tmod (Go.bits .and .i64 (rd (rd_L1 x1 x6) 0) 65535) x0) < (x5.length : Int) then (if 0 ≤ (Int.tmod (Go.bits .and .i64 (rd (rd_L1 x1 x6) 1) 65535) x0) then (if (Int.tmod (Go.bits .and .i64 (rd (rd_L1 x1 x6) 1) 65535) x0) < ((rd_L7 x5 (Int.tmod (Go.bits .and .i64 (rd (rd_L1 x1 x6) 0) 65535) x0)).length : Int) then ((some (x5.set ((Int.tmod (Go.bits .and .i64 (rd (rd_L1 x1 x6) 0) 65535) x0) : Int).toNat ((rd_L7 x5 (Int.tmod (Go.bits .and .i64 (rd (rd_L1 x1 x6) 0) 65535) x0)).set ((Int.tmod (Go.bits .and .i64 (rd (rd_L1 x1 x6) 1) 65535) x0) : Int).toNat true) : List (List Bool))).bind fun y322 => (if (Int.tmod (Go.bits .and .i64 (rd (rd_L1 x1 x6) 1) 65535) x0) < (x5.length : Int) then (if (Int.tmod (Go.bits .and .i64 (rd (rd_L1 x1 x6) 0) 65535) x0) < ((rd_L7 y322 (Int.tmod (Go.bits .and .i64 (rd (rd_L1 x1 x6) 1) 65535) x0)).length : Int) then (arboristlaw10_made.l0 k x0 x1 (y322.set ((Int.tmod (Go.bits .and .i64 (rd (rd_L1 x1 x6) 1) 65535) x0) : Int).toNat ((rd_L7 y322 (Int.tmod (Go.bits .and .i64 (rd (rd_L1 x1 x6) 1) 65535) x0)).set ((Int.tmod (Go.bits .and .i64 (rd (rd_L1 x1 x6) 0) 65535) x0) : Int).toNat true)) (wrap64 (x6 + 1))) else (none)) else (none))) else (none)) else (none)) else (none)) else (none))) else (none))) else (none))) else (none)) else (none)) else (some x5)
end
def arboristlaw10_made.f (k : Nat) (a0 : Int) (l1 : List (List Int)) : Option ((List (List Bool))) := (arboristref08_Empty.f k (Int.tmod (Go.bits .and .i64 a0 65535) 10)).bind fun t311 => (arboristlaw10_made.l0 k (Int.tmod (Go.bits .and .i64 a0 65535) 10) l1 t311 0)
theorem arboristlaw10_made.mono_l : ∀ k, (∀ y0 y1 y2 y3, LeO (arboristlaw10_made.l0 k y0 y1 y2 y3) (arboristlaw10_made.l0 (k + 1) y0 y1 y2 y3)) ∧ (∀ y0 y1 y2 y3 y4, LeO (arboristlaw10_made.j1 k y0 y1 y2 y3 y4) (arboristlaw10_made.j1 (k + 1) y0 y1 y2 y3 y4))
  | 0 => ⟨fun _ _ _ _ r h => by simp [arboristlaw10_made.l0] at h, fun _ _ _ _ _ r h => by simp [arboristlaw10_made.j1] at h⟩
  | k + 1 => by
    obtain ⟨ih0, ih1⟩ := arboristlaw10_made.mono_l k
    refine ⟨?_, ?_⟩
    all_goals intros
    all_goals (first | unfold arboristlaw10_made.l0 | unfold arboristlaw10_made.j1)
    all_goals repeat' first
    | (with_reducible exact ih0 _ _ _ _)
    | (with_reducible exact ih1 _ _ _ _ _)
    | (with_reducible exact arboristref08_Empty.mono _ _)
    | (with_reducible exact LeO.refl _)
    | (with_reducible exact LeO.none _)
    | (with_reducible refine LeO.ite ?_ ?_)
    | (with_reducible refine LeO.bind ?_ (fun _ => ?_))
    | exact ih0 _ _ _ _
    | exact ih1 _ _ _ _ _
    | exact arboristref08_Empty.mono _ _
    | exact LeO.none _
    | refine LeO.ite ?_ ?_
    | refine LeO.bind ?_ (fun _ => ?_)
theorem arboristlaw10_made.mono : ∀ a0 a1 k, LeO (arboristlaw10_made.f k a0 a1) (arboristlaw10_made.f (k + 1) a0 a1) := by
  intro a0 a1 k
  obtain ⟨ih0, ih1⟩ := arboristlaw10_made.mono_l k
  unfold arboristlaw10_made.f
  repeat' first
      | (with_reducible exact ih0 _ _ _ _)
      | (with_reducible exact ih1 _ _ _ _ _)
      | (with_reducible exact arboristref08_Empty.mono _ _)
      | (with_reducible exact LeO.refl _)
      | (with_reducible exact LeO.none _)
      | (with_reducible refine LeO.ite ?_ ?_)
      | (with_reducible refine LeO.bind ?_ (fun _ => ?_))
      | exact ih0 _ _ _ _
      | exact ih1 _ _ _ _ _
      | exact arboristref08_Empty.mono _ _
      | exact LeO.none _
      | refine LeO.ite ?_ ?_
      | refine LeO.bind ?_ (fun _ => ?_)
set_option maxHeartbeats 8000000 in
set_option maxRecDepth 100000 in
theorem arboristlaw10_made.calls (k : Nat) (a0 : Int) (A1 : Option Addr) (c1 : Nat) (l1 : List (List Int)) (r : List (List Bool)) (w : World) (hr1 : Kd.C (Kd.slice 3 (Kd.int .i64)) w A1 l1.length l1) (hc1 : l1.length ≤ c1) (h : arboristlaw10_made.f k a0 l1 = some r) :
    Calls Tryd.prog 11 #[.int .i64 a0, .slice A1 l1.length c1] w fun e w' => ∃ v0_ : Value, e = .returned (v0_) ∧ Kd.S (Kd.slice 4 Kd.bool) 55 w' w.heap.size (fun _ => True) v0_ r ∧ Below w.heap.size w w' := by
  have HR1 := Aside0.mk hr1
  have HC1 := Aside0.mk hc1
  clear hr1 hc1
  have HB := Aside0.mk (Below.refl w.heap.size w)
  have H : ((arboristref08_Empty.f k (Int.tmod (Go.bits .and .i64 a0 65535) 10)).bind fun t311 => (arboristlaw10_made.l0 k (Int.tmod (Go.bits .and .i64 a0 65535) 10) l1 t311 0)) = some r := h
  clear h
  replace H := Option.bind_eq_some_iff.mp H
  obtain ⟨t311, A30, H⟩ := H
  replace H : (arboristlaw10_made.l0 k (Int.tmod (Go.bits .and .i64 a0 65535) 10) l1 t311 0) = some r := H
  have A3 := Aside0.mk A30
  clear A30
  have H' := Aside0.mk H
  clear H
  go_enter Tryd.func11, Tryd.ntmps11
  go_wp2_with (first | ((with_reducible refine gate_callee (f := 31) rfl ?_); refine goesL_ (some 13) rfl rfl Tryd.func31 (by kernel_rfl) rfl #[.int .i64 (Int.tmod (Go.bits .and .i64 a0 65535) 10)] rfl (by (try simp only [List.map_toArray, List.map_cons, List.map_nil]); first | done | rfl | (simp only [List.length_drop, List.length_take]; rfl)) ?_; (with_reducible refine (arboristref08_Empty.calls k (Int.tmod (Go.bits .and .i64 a0 65535) 10) t311 _ A3.out).mono ?_); rintro e w4 ⟨v312, rfl, ho0, hb⟩; refine ⟨_, rfl, ?_⟩; have n0_ := Aside0.mk (Kd.S_lower ho0 (below_size (by repeat (first | (with_reducible first | exact HB.out | apply below_alloc | apply pw_below_drewN | apply below_drew1) | exact HB.out)))); have n1_ := Aside0.mk (below_step (by repeat (first | (with_reducible first | exact HB.out | apply below_alloc | apply pw_below_drewN | apply below_drew1) | exact HB.out)) hb); clear HB; have HO313 := n0_; have HB := n1_; clear n0_ n1_; (try clear hb); (try clear hb2); (try clear hk); (try clear hi); (try clear ho0)))
  go_loopg [6] k (fun kq v6 w' => ∃ (x5_1 : List (List Bool)) (x6_1 : Int), v6 = .int .i64 x6_1 ∧ Aside0 (arboristlaw10_made.l0 kq (Int.tmod (Go.bits .and .i64 a0 65535) 10) l1 x5_1 x6_1 = some r) ∧ Aside0 (kq ≤ k) ∧ Aside0 (Kd.S (Kd.slice 4 Kd.bool) 55 w' w.heap.size (fun _ => True) v312 x5_1) ∧ Aside0 (Below w.heap.size w w'))
  case atStart => exact ⟨(t311), (0), (by first | rfl | (simp; done) | (simp [*]; done)), H', ⟨Nat.le_refl _⟩, ⟨by (with_reducible repeat (first | apply Kd.S_alloc | apply Kd.S_drewN | apply Kd.S_drew)); exact HO313.out⟩, ⟨by repeat (first | (with_reducible first | exact HB.out | apply below_alloc | apply pw_below_drewN | apply below_drew1) | exact HB.out)⟩⟩
  case round =>
    clear H'
    try clear c1
    try clear p2
    try clear c3
    obtain ⟨x5_1, x6_1, rfl, HA, HK1, HO_5, HB⟩ := hrel
    cases gk with
    | zero => exact absurd HA.out (by simp [arboristlaw10_made.l0])
    | succ k1 =>
      have H := HA.out
      clear HA
      simp only [arboristlaw10_made.l0] at H
      have HC5 := Aside0.mk H
      clear H
      go_upto_region 4 with (fail)
      go_cut [25] (fun v25 wc => ∃ (kq : Nat) (x25_4 : Bool), v25 = .bool x25_4 ∧ Aside0 (arboristlaw10_made.j1 kq (Int.tmod (Go.bits .and .i64 a0 65535) 10) l1 x5_1 x6_1 x25_4 = some r) ∧ Aside0 (kq ≤ k1) ∧ Aside0 (Kd.S (Kd.slice 4 Kd.bool) 55 wc w.heap.size (fun _ => True) v312 x5_1) ∧ Aside0 (Below w.heap.size w wc))
      case first =>
        have H := HC5.out
        clear HC5
        by_cases c6 : x6_1 < (l1.length : Int)
        · rw [if_pos c6] at H
          have c6b0 : decide (x6_1 < (l1.length : Int)) = true := decide_eq_true c6
          clear c6
          (first | rw [c6b0] | (simp only [i64_w, i32_w]; rw [c6b0]) | skip)
          by_cases c7 : x6_1 < 40
          · rw [if_pos c7] at H
            have c7b0 : decide (x6_1 < 40) = true := decide_eq_true c7
            clear c7
            have H' := Aside0.mk H
            clear H
            go_wp2
            go_meet
            case rel => exact ⟨_, (decide ((Int.tmod (Go.bits .and .i64 a0 65535) 10) > 0)), (by first | rfl | (simp; done) | (simp [*]; done)), H', ⟨by have := HK1.out; first | omega | exact Nat.le_refl _⟩, ⟨by (with_reducible repeat (first | apply Kd.S_alloc | apply Kd.S_drewN | apply Kd.S_drew)); exact HO_5.out⟩, ⟨by repeat (first | (with_reducible first | exact HB.out | apply below_alloc | apply pw_below_drewN | apply below_drew1) | exact HB.out)⟩⟩
          · rw [if_neg c7] at H
            have c7b0 : decide (x6_1 < 40) = false := decide_eq_false c7
            clear c7
            have H' := Aside0.mk H
            clear H
            go_wp2
            go_meet
            case rel => exact ⟨_, (false), (by first | rfl | (simp; done) | (simp [*]; done)), H', ⟨by have := HK1.out; first | omega | exact Nat.le_refl _⟩, ⟨by (with_reducible repeat (first | apply Kd.S_alloc | apply Kd.S_drewN | apply Kd.S_drew)); exact HO_5.out⟩, ⟨by repeat (first | (with_reducible first | exact HB.out | apply below_alloc | apply pw_below_drewN | apply below_drew1) | exact HB.out)⟩⟩
        · rw [if_neg c6] at H
          have c6b0 : decide (x6_1 < (l1.length : Int)) = false := decide_eq_false c6
          clear c6
          (first | rw [c6b0] | (simp only [i64_w, i32_w]; rw [c6b0]) | skip)
          have H' := Aside0.mk H
          clear H
          go_wp2
          go_meet
          case rel => exact ⟨_, (false), (by first | rfl | (simp; done) | (simp [*]; done)), H', ⟨by have := HK1.out; first | omega | exact Nat.le_refl _⟩, ⟨by (with_reducible repeat (first | apply Kd.S_alloc | apply Kd.S_drewN | apply Kd.S_drew)); exact HO_5.out⟩, ⟨by repeat (first | (with_reducible first | exact HB.out | apply below_alloc | apply pw_below_drewN | apply below_drew1) | exact HB.out)⟩⟩
      case rest =>
        clear HC5
        try clear c1
        try clear p2
        try clear c3
        try clear c6
        try clear c6b0
        try clear c7
        try clear c7b0
        try clear p2
        obtain ⟨kq, x25_4, rfl, HA, HJ4, HO_5, HB⟩ := hcut
        cases kq with
        | zero => exact absurd HA.out (by simp [arboristlaw10_made.j1])
        | succ kj4 =>
          have H := HA.out
          clear HA
          simp only [arboristlaw10_made.j1] at H
          by_cases c8 : x25_4 = true
          · subst c8
            have H1 : (if 0 ≤ x6_1 then (if x6_1 < (l1.length : Int) then (if ((rd_L1 l1 x6_1).length : Int) < 2 then (arboristlaw10_made.l0 kj4 (Int.tmod (Go.bits .and .i64 a0 65535) 10) l1 x5_1 (wrap64 (x6_1 + 1))) else (if 0 < ((rd_L1 l1 x6_1).length : Int) then (if (Int.tmod (Go.bits .and .i64 a0 65535) 10) = 0 then (none) else (if 1 < ((rd_L1 l1 x6_1).length : Int) then (if (Int.tmod (Go.bits .and .i64 (rd (rd_L1 l1 x6_1) 0) 65535) (Int.tmod (Go.bits .and .i64 a0 65535) 10)) = (Int.tmod (Go.bits .and .i64 (rd (rd_L1 l1 x6_1) 1) 65535) (Int.tmod (Go.bits .and .i64 a0 65535) 10)) then (arboristlaw10_made.l0 kj4 (Int.tmod (Go.bits .and .i64 a0 65535) 10) l1 x5_1 (wrap64 (x6_1 + 1))) else (if 0 ≤ (Int.tmod (Go.bits .and .i64 (rd (rd_L1 l1 x6_1) 0) 65535) (Int.tmod (Go.bits .and .i64 a0 65535) 10)) then (if (Int.tmod (Go.bits .and .i64 (rd (rd_L1 l1 x6_1) 0) 65535) (Int.tmod (Go.bits .and .i64 a0 65535) 10)) < (x5_1.length : Int) then (if 0 ≤ (Int.tmod (Go.bits .and .i64 (rd (rd_L1 l1 x6_1) 1) 65535) (Int.tmod (Go.bits .and .i64 a0 65535) 10)) then (if (Int.tmod (Go.bits .and .i64 (rd (rd_L1 l1 x6_1) 1) 65535) (Int.tmod (Go.bits .and .i64 a0 65535) 10)) < ((rd_L7 x5_1 (Int.tmod (Go.bits .and .i64 (rd (rd_L1 l1 x6_1) 0) 65535) (Int.tmod (Go.bits .and .i64 a0 65535) 10))).length : Int) then ((some (x5_1.set ((Int.tmod (Go.bits .and .i64 (rd (rd_L1 l1 x6_1) 0) 65535) (Int.tmod (Go.bits .and .i64 a0 65535) 10)) : Int).toNat ((rd_L7 x5_1 (Int.tmod (Go.bits .and .i64 (rd (rd_L1 l1 x6_1) 0) 65535) (Int.tmod (Go.bits .and .i64 a0 65535) 10))).set ((Int.tmod (Go.bits .and .i64 (rd (rd_L1 l1 x6_1) 1) 65535) (Int.tmod (Go.bits .and .i64 a0 65535) 10)) : Int).toNat true) : List (List Bool))).bind fun y322 => (if (Int.tmod (Go.bits .and .i64 (rd (rd_L1 l1 x6_1) 1) 65535) (Int.tmod (Go.bits .and .i64 a0 65535) 10)) < (x5_1.length : Int) then (if (Int.tmod (Go.bits .and .i64 (rd (rd_L1 l1 x6_1) 0) 65535) (Int.tmod (Go.bits .and .i64 a0 65535) 10)) < ((rd_L7 y322 (Int.tmod (Go.bits .and .i64 (rd (rd_L1 l1 x6_1) 1) 65535) (Int.tmod (Go.bits .and .i64 a0 65535) 10))).length : Int) then (arboristlaw10_made.l0 kj4 (Int.tmod (Go.bits .and .i64 a0 65535) 10) l1 (y322.set ((Int.tmod (Go.bits .and .i64 (rd (rd_L1 l1 x6_1) 1) 65535) (Int.tmod (Go.bits .and .i64 a0 65535) 10)) : Int).toNat ((rd_L7 y322 (Int.tmod (Go.bits .and .i64 (rd (rd_L1 l1 x6_1) 1) 65535) (Int.tmod (Go.bits .and .i64 a0 65535) 10))).set ((Int.tmod (Go.bits .and .i64 (rd (rd_L1 l1 x6_1) 0) 65535) (Int.tmod (Go.bits .and .i64 a0 65535) 10)) : Int).toNat true)) (wrap64 (x6_1 + 1))) else (none)) else (none))) else (none)) else (none)) else (none)) else (none))) else (none))) else (none))) else (none)) else (none)) = some r := by rw [if_pos rfl] at H; exact H
            clear H
            have H := H1
            clear H1
            by_cases c9 : 0 ≤ x6_1
            · rw [if_pos c9] at H
              have c9b0 : decide (0 ≤ x6_1) = true := decide_eq_true c9
              clear c9
              by_cases c10 : x6_1 < (l1.length : Int)
              · rw [if_pos c10] at H
                have c10b0 : decide (x6_1 < (l1.length : Int)) = true := decide_eq_true c10
                clear c10
                by_cases c11 : ((rd_L1 l1 x6_1).length : Int) < 2
                · rw [if_pos c11] at H
                  have c11b0 : decide (((rd_L1 l1 x6_1).length : Int) < 2) = true := decide_eq_true c11
                  have c11b1 : decide ((rd_L1 l1 x6_1).length < 2) = true := decide_eq_true (by omega)
                  clear c11
                  have H' := Aside0.mk H
                  clear H
                  have p314 : 0 ≤ (x6_1 : Int) := of_decide_eq_true (by first | (with_reducible assumption) | assumption)
                  have q314 : x6_1 < (l1.length : Int) := of_decide_eq_true (by first | (with_reducible assumption) | assumption)
                  obtain ⟨ad314, A314_0, c314_0, e314, hx314_0, hl314_0, hi314_0⟩ := at_L1 HR1.out x6_1 p314 q314
                  cases e314
                  replace hx314_0 := (HB.out.cell (World.block_lt_of_cell? w _ hx314_0)).trans hx314_0
                  have HR314_0 := Aside0.mk hi314_0
                  have HC314_0 := Aside0.mk hl314_0
                  clear hi314_0 hl314_0
                  replace p314 := eq_true p314
                  replace q314 := eq_true q314
                  go_wp2
                  go_roundg kj4
                  case measure => have := HK1.out; have := HJ4.out; omega
                  case rel => exact ⟨(x5_1), (wrap64 (x6_1 + 1)), (by first | rfl | (simp; done) | (simp [*]; done)), H', ⟨by have := HK1.out; have := HJ4.out; omega⟩, ⟨by (with_reducible repeat (first | apply Kd.S_alloc | apply Kd.S_drewN | apply Kd.S_drew)); exact HO_5.out⟩, ⟨by repeat (first | (with_reducible first | exact HB.out | apply below_alloc | apply pw_below_drewN | apply below_drew1) | exact HB.out)⟩⟩
                · rw [if_neg c11] at H
                  have c11b0 : decide (((rd_L1 l1 x6_1).length : Int) < 2) = false := decide_eq_false c11
                  have c11b1 : decide ((rd_L1 l1 x6_1).length < 2) = false := decide_eq_false (by omega)
                  clear c11
                  by_cases c12 : 0 < ((rd_L1 l1 x6_1).length : Int)
                  · rw [if_pos c12] at H
                    have c12b0 : decide (0 < ((rd_L1 l1 x6_1).length : Int)) = true := decide_eq_true c12
                    have c12b1 : decide (0 < (rd_L1 l1 x6_1).length) = true := decide_eq_true (by omega)
                    clear c12
                    by_cases c13 : (Int.tmod (Go.bits .and .i64 a0 65535) 10) = 0
                    · rw [if_pos c13] at H
                      exact absurd H (by simp)
                    · rw [if_neg c13] at H
                      have c13b0 : ((Int.tmod (Go.bits .and .i64 a0 65535) 10) == 0) = false := beq_eq_false_iff_ne.mpr c13
                      have c13b1 : ((Int.tmod (Go.bits .and .i64 a0 65535) 10) != 0) = true := bne_iff_ne.mpr c13
                      by_cases c14 : 1 < ((rd_L1 l1 x6_1).length : Int)
                      · rw [if_pos c14] at H
                        have c14b0 : decide (1 < ((rd_L1 l1 x6_1).length : Int)) = true := decide_eq_true c14
                        have c14b1 : decide (1 < (rd_L1 l1 x6_1).length) = true := decide_eq_true (by omega)
                        clear c14
                        by_cases c15 : (Int.tmod (Go.bits .and .i64 (rd (rd_L1 l1 x6_1) 0) 65535) (Int.tmod (Go.bits .and .i64 a0 65535) 10)) = (Int.tmod (Go.bits .and .i64 (rd (rd_L1 l1 x6_1) 1) 65535) (Int.tmod (Go.bits .and .i64 a0 65535) 10))
                        · rw [if_pos c15] at H
                          have c15b0 : ((Int.tmod (Go.bits .and .i64 (rd (rd_L1 l1 x6_1) 0) 65535) (Int.tmod (Go.bits .and .i64 a0 65535) 10)) == (Int.tmod (Go.bits .and .i64 (rd (rd_L1 l1 x6_1) 1) 65535) (Int.tmod (Go.bits .and .i64 a0 65535) 10))) = true := beq_iff_eq.mpr c15
                          have c15b1 : ((Int.tmod (Go.bits .and .i64 (rd (rd_L1 l1 x6_1) 0) 65535) (Int.tmod (Go.bits .and .i64 a0 65535) 10)) != (Int.tmod (Go.bits .and .i64 (rd (rd_L1 l1 x6_1) 1) 65535) (Int.tmod (Go.bits .and .i64 a0 65535) 10))) = false := bne_eq_false_iff_eq.mpr c15
                          clear c15
                          have H' := Aside0.mk H
                          clear H
                          have p314 : 0 ≤ (x6_1 : Int) := of_decide_eq_true (by first | (with_reducible assumption) | assumption)
                          have q314 : x6_1 < (l1.length : Int) := of_decide_eq_true (by first | (with_reducible assumption) | assumption)
                          obtain ⟨ad314, A314_0, c314_0, e314, hx314_0, hl314_0, hi314_0⟩ := at_L1 HR1.out x6_1 p314 q314
                          cases e314
                          replace hx314_0 := (HB.out.cell (World.block_lt_of_cell? w _ hx314_0)).trans hx314_0
                          have HR314_0 := Aside0.mk hi314_0
                          have HC314_0 := Aside0.mk hl314_0
                          clear hi314_0 hl314_0
                          replace p314 := eq_true p314
                          replace q314 := eq_true q314
                          have p315 : 0 ≤ (x6_1 : Int) := of_decide_eq_true (by first | (with_reducible assumption) | assumption)
                          have q315 : x6_1 < (l1.length : Int) := of_decide_eq_true (by first | (with_reducible assumption) | assumption)
                          obtain ⟨ad315, A315_0, c315_0, e315, hx315_0, hl315_0, hi315_0⟩ := at_L1 HR1.out x6_1 p315 q315
                          obtain rfl : ad314 = ad315 := (by injection e315)
                          replace hx315_0 := (HB.out.cell (World.block_lt_of_cell? w _ hx315_0)).trans hx315_0
                          have HR315_0 := Aside0.mk hi315_0
                          have HC315_0 := Aside0.mk hl315_0
                          clear hi315_0 hl315_0
                          replace p315 := eq_true p315
                          replace q315 := eq_true q315
                          have ea_ := Option.some.inj (hx314_0.symm.trans hx315_0)
                          injection ea_ with ea_ en_ ec_
                          subst ea_
                          subst ec_
                          clear en_
                          have p316 : 0 ≤ (0 : Int) := (by omega)
                          have q316 : 0 < ((rd_L1 l1 x6_1).length : Int) := of_decide_eq_true (by first | (with_reducible assumption) | assumption)
                          obtain ⟨ad316, e316, hx316_0⟩ := Kd.at_int HR315_0.out 0 p316 q316
                          cases e316
                          have qi316 : (0 < (rd_L1 l1 x6_1).length) = True := eq_true (by omega)
                          (try rw [show ((0 : Int)).toNat = 0 from rfl] at hx316_0)
                          (try rw [Addr.add_zero'] at hx316_0)
                          replace hx316_0 := (HB.out.cell (World.block_lt_of_cell? w _ hx316_0)).trans hx316_0
                          replace p316 := eq_true p316
                          replace q316 := eq_true q316
                          have p317 : 0 ≤ (x6_1 : Int) := of_decide_eq_true (by first | (with_reducible assumption) | assumption)
                          have q317 : x6_1 < (l1.length : Int) := of_decide_eq_true (by first | (with_reducible assumption) | assumption)
                          obtain ⟨ad317, A317_0, c317_0, e317, hx317_0, hl317_0, hi317_0⟩ := at_L1 HR1.out x6_1 p317 q317
                          obtain rfl : ad314 = ad317 := (by injection e317)
                          replace hx317_0 := (HB.out.cell (World.block_lt_of_cell? w _ hx317_0)).trans hx317_0
                          have HR317_0 := Aside0.mk hi317_0
                          have HC317_0 := Aside0.mk hl317_0
                          clear hi317_0 hl317_0
                          replace p317 := eq_true p317
                          replace q317 := eq_true q317
                          have ea_ := Option.some.inj (hx314_0.symm.trans hx317_0)
                          injection ea_ with ea_ en_ ec_
                          subst ea_
                          subst ec_
                          clear en_
                          have p318 : 0 ≤ (1 : Int) := (by omega)
                          have q318 : 1 < ((rd_L1 l1 x6_1).length : Int) := of_decide_eq_true (by first | (with_reducible assumption) | assumption)
                          obtain ⟨ad318, e318, hx318_0⟩ := Kd.at_int HR317_0.out 1 p318 q318
                          cases e318
                          (try simp only [show (1 : Int).toNat = 1 from rfl, Nat.reduceMul, Nat.reduceEqDiff, Go.Addr.add, ↓reduceIte] at hx318_0)
                          have qi318 : (1 < (rd_L1 l1 x6_1).length) = True := eq_true (by omega)
                          (try rw [show ((1 : Int)).toNat = 1 from rfl] at hx318_0)
                          replace hx318_0 := (HB.out.cell (World.block_lt_of_cell? w _ hx318_0)).trans hx318_0
                          replace p318 := eq_true p318
                          replace q318 := eq_true q318
                          go_wp2
                          go_roundg kj4
                          case measure => have := HK1.out; have := HJ4.out; omega
                          case rel => exact ⟨(x5_1), (wrap64 (x6_1 + 1)), (by first | rfl | (simp; done) | (simp [*]; done)), H', ⟨by have := HK1.out; have := HJ4.out; omega⟩, ⟨by (with_reducible repeat (first | apply Kd.S_alloc | apply Kd.S_drewN | apply Kd.S_drew)); exact HO_5.out⟩, ⟨by repeat (first | (with_reducible first | exact HB.out | apply below_alloc | apply pw_below_drewN | apply below_drew1) | exact HB.out)⟩⟩
                        · rw [if_neg c15] at H
                          have c15b0 : ((Int.tmod (Go.bits .and .i64 (rd (rd_L1 l1 x6_1) 0) 65535) (Int.tmod (Go.bits .and .i64 a0 65535) 10)) == (Int.tmod (Go.bits .and .i64 (rd (rd_L1 l1 x6_1) 1) 65535) (Int.tmod (Go.bits .and .i64 a0 65535) 10))) = false := beq_eq_false_iff_ne.mpr c15
                          have c15b1 : ((Int.tmod (Go.bits .and .i64 (rd (rd_L1 l1 x6_1) 0) 65535) (Int.tmod (Go.bits .and .i64 a0 65535) 10)) != (Int.tmod (Go.bits .and .i64 (rd (rd_L1 l1 x6_1) 1) 65535) (Int.tmod (Go.bits .and .i64 a0 65535) 10))) = true := bne_iff_ne.mpr c15
                          obtain ⟨ji16, hji16⟩ : ∃ j_ : Int, (Int.tmod (Go.bits .and .i64 (rd (rd_L1 l1 x6_1) 0) 65535) (Int.tmod (Go.bits .and .i64 a0 65535) 10)) = j_ := ⟨_, rfl⟩
                          replace H : (if 0 ≤ (ji16) then (if (ji16) < (x5_1.length : Int) then (if 0 ≤ (Int.tmod (Go.bits .and .i64 (rd (rd_L1 l1 x6_1) 1) 65535) (Int.tmod (Go.bits .and .i64 a0 65535) 10)) then (if (Int.tmod (Go.bits .and .i64 (rd (rd_L1 l1 x6_1) 1) 65535) (Int.tmod (Go.bits .and .i64 a0 65535) 10)) < ((rd_L7 x5_1 (ji16)).length : Int) then ((some (x5_1.set ((ji16) : Int).toNat ((rd_L7 x5_1 (ji16)).set ((Int.tmod (Go.bits .and .i64 (rd (rd_L1 l1 x6_1) 1) 65535) (Int.tmod (Go.bits .and .i64 a0 65535) 10)) : Int).toNat true) : List (List Bool))).bind fun y322 => (if (Int.tmod (Go.bits .and .i64 (rd (rd_L1 l1 x6_1) 1) 65535) (Int.tmod (Go.bits .and .i64 a0 65535) 10)) < (x5_1.length : Int) then (if (ji16) < ((rd_L7 y322 (Int.tmod (Go.bits .and .i64 (rd (rd_L1 l1 x6_1) 1) 65535) (Int.tmod (Go.bits .and .i64 a0 65535) 10))).length : Int) then (arboristlaw10_made.l0 kj4 (Int.tmod (Go.bits .and .i64 a0 65535) 10) l1 (y322.set ((Int.tmod (Go.bits .and .i64 (rd (rd_L1 l1 x6_1) 1) 65535) (Int.tmod (Go.bits .and .i64 a0 65535) 10)) : Int).toNat ((rd_L7 y322 (Int.tmod (Go.bits .and .i64 (rd (rd_L1 l1 x6_1) 1) 65535) (Int.tmod (Go.bits .and .i64 a0 65535) 10))).set ((ji16) : Int).toNat true)) (wrap64 (x6_1 + 1))) else (none)) else (none))) else (none)) else (none)) else (none)) else (none)) = some r := by first | (rw [hji16] at H; exact H) | (simp only [hji16] at H ⊢; exact H)
                          (try rw [hji16] at c15b0)
                          (try rw [hji16] at c15b1)
                          by_cases c17 : 0 ≤ (ji16)
                          · rw [if_pos c17] at H
                            have c17b0 : decide (0 ≤ (ji16)) = true := decide_eq_true c17
                            clear c17
                            by_cases c18 : (ji16) < (x5_1.length : Int)
                            · rw [if_pos c18] at H
                              have c18b0 : decide ((ji16) < (x5_1.length : Int)) = true := decide_eq_true c18
                              clear c18
                              obtain ⟨ji19, hji19⟩ : ∃ j_ : Int, (Int.tmod (Go.bits .and .i64 (rd (rd_L1 l1 x6_1) 1) 65535) (Int.tmod (Go.bits .and .i64 a0 65535) 10)) = j_ := ⟨_, rfl⟩
                              replace H : (if 0 ≤ (ji19) then (if (ji19) < ((rd_L7 x5_1 (ji16)).length : Int) then ((some (x5_1.set ((ji16) : Int).toNat ((rd_L7 x5_1 (ji16)).set ((ji19) : Int).toNat true) : List (List Bool))).bind fun y322 => (if (ji19) < (x5_1.length : Int) then (if (ji16) < ((rd_L7 y322 (ji19)).length : Int) then (arboristlaw10_made.l0 kj4 (Int.tmod (Go.bits .and .i64 a0 65535) 10) l1 (y322.set ((ji19) : Int).toNat ((rd_L7 y322 (ji19)).set ((ji16) : Int).toNat true)) (wrap64 (x6_1 + 1))) else (none)) else (none))) else (none)) else (none)) = some r := by first | (rw [hji19] at H; exact H) | (simp only [hji19] at H ⊢; exact H)
                              (try rw [hji19] at c15b0)
                              (try rw [hji19] at c15b1)
                              by_cases c20 : 0 ≤ (ji19)
                              · rw [if_pos c20] at H
                                have c20b0 : decide (0 ≤ (ji19)) = true := decide_eq_true c20
                                clear c20
                                by_cases c21 : (ji19) < ((rd_L7 x5_1 (ji16)).length : Int)
                                · rw [if_pos c21] at H
                                  have c21b0 : decide ((ji19) < ((rd_L7 x5_1 (ji16)).length : Int)) = true := decide_eq_true c21
                                  clear c21
                                  obtain ⟨y320, hy320⟩ : ∃ y_ : List Bool, y_ = ((rd_L7 x5_1 (ji16)).set ((ji19) : Int).toNat true) := ⟨_, rfl⟩
                                  replace H : ((some (x5_1.set ((ji16) : Int).toNat y320 : List (List Bool))).bind fun y322 => (if (ji19) < (x5_1.length : Int) then (if (ji16) < ((rd_L7 y322 (ji19)).length : Int) then (arboristlaw10_made.l0 kj4 (Int.tmod (Go.bits .and .i64 a0 65535) 10) l1 (y322.set ((ji19) : Int).toNat ((rd_L7 y322 (ji19)).set ((ji16) : Int).toNat true)) (wrap64 (x6_1 + 1))) else (none)) else (none))) = some r := by first | (rw [hy320]; with_reducible exact H) | (have H2_ := (Option.bind_some _ _).symm.trans H; rw [hy320]; with_reducible exact H2_) | (have H2_ := (Option.bind_some _ _).symm.trans H; with_reducible exact H2_) | with_reducible exact H | (rw [hy320]; exact H) | exact H
                                  have Ny320 := Aside0.mk hy320
                                  clear hy320
                                  obtain ⟨y322, hy322⟩ : ∃ y_ : List (List Bool), y_ = (x5_1.set ((ji16) : Int).toNat y320) := ⟨_, rfl⟩
                                  replace H : (if (ji19) < (x5_1.length : Int) then (if (ji16) < ((rd_L7 y322 (ji19)).length : Int) then (arboristlaw10_made.l0 kj4 (Int.tmod (Go.bits .and .i64 a0 65535) 10) l1 (y322.set ((ji19) : Int).toNat ((rd_L7 y322 (ji19)).set ((ji16) : Int).toNat true)) (wrap64 (x6_1 + 1))) else (none)) else (none)) = some r := by first | (rw [hy322]; with_reducible exact H) | (have H2_ := (Option.bind_some _ _).symm.trans H; rw [hy322]; with_reducible exact H2_) | (have H2_ := (Option.bind_some _ _).symm.trans H; with_reducible exact H2_) | with_reducible exact H | (rw [hy322]; exact H) | exact H
                                  have Ny322 := Aside0.mk hy322
                                  clear hy322
                                  by_cases c23 : (ji19) < (x5_1.length : Int)
                                  · rw [if_pos c23] at H
                                    have c23b0 : decide ((ji19) < (x5_1.length : Int)) = true := decide_eq_true c23
                                    clear c23
                                    by_cases c24 : (ji16) < ((rd_L7 y322 (ji19)).length : Int)
                                    · rw [if_pos c24] at H
                                      have c24b0 : decide ((ji16) < ((rd_L7 y322 (ji19)).length : Int)) = true := decide_eq_true c24
                                      clear c24
                                      obtain ⟨y324, hy324⟩ : ∃ y_ : List Bool, y_ = ((rd_L7 y322 (ji19)).set ((ji16) : Int).toNat true) := ⟨_, rfl⟩
                                      replace H : (arboristlaw10_made.l0 kj4 (Int.tmod (Go.bits .and .i64 a0 65535) 10) l1 (y322.set ((ji19) : Int).toNat y324) (wrap64 (x6_1 + 1))) = some r := by first | (rw [hy324]; with_reducible exact H) | (have H2_ := (Option.bind_some _ _).symm.trans H; rw [hy324]; with_reducible exact H2_) | (have H2_ := (Option.bind_some _ _).symm.trans H; with_reducible exact H2_) | with_reducible exact H | (rw [hy324]; exact H) | exact H
                                      have Ny324 := Aside0.mk hy324
                                      clear hy324
                                      obtain ⟨y326, hy326⟩ : ∃ y_ : List (List Bool), y_ = (y322.set ((ji19) : Int).toNat y324) := ⟨_, rfl⟩
                                      replace H : (arboristlaw10_made.l0 kj4 (Int.tmod (Go.bits .and .i64 a0 65535) 10) l1 y326 (wrap64 (x6_1 + 1))) = some r := by first | (rw [hy326]; with_reducible exact H) | (have H2_ := (Option.bind_some _ _).symm.trans H; rw [hy326]; with_reducible exact H2_) | (have H2_ := (Option.bind_some _ _).symm.trans H; with_reducible exact H2_) | with_reducible exact H | (rw [hy326]; exact H) | exact H
                                      have Ny326 := Aside0.mk hy326
                                      clear hy326
                                      have H' := Aside0.mk H
                                      clear H
                                      have p314 : 0 ≤ (x6_1 : Int) := of_decide_eq_true (by first | (with_reducible assumption) | assumption)
                                      have q314 : x6_1 < (l1.length : Int) := of_decide_eq_true (by first | (with_reducible assumption) | assumption)
                                      obtain ⟨ad314, A314_0, c314_0, e314, hx314_0, hl314_0, hi314_0⟩ := at_L1 HR1.out x6_1 p314 q314
                                      cases e314
                                      replace hx314_0 := (HB.out.cell (World.block_lt_of_cell? w _ hx314_0)).trans hx314_0
                                      have HR314_0 := Aside0.mk hi314_0
                                      have HC314_0 := Aside0.mk hl314_0
                                      clear hi314_0 hl314_0
                                      replace p314 := eq_true p314
                                      replace q314 := eq_true q314
                                      have p315 : 0 ≤ (x6_1 : Int) := of_decide_eq_true (by first | (with_reducible assumption) | assumption)
                                      have q315 : x6_1 < (l1.length : Int) := of_decide_eq_true (by first | (with_reducible assumption) | assumption)
                                      obtain ⟨ad315, A315_0, c315_0, e315, hx315_0, hl315_0, hi315_0⟩ := at_L1 HR1.out x6_1 p315 q315
                                      obtain rfl : ad314 = ad315 := (by injection e315)
                                      replace hx315_0 := (HB.out.cell (World.block_lt_of_cell? w _ hx315_0)).trans hx315_0
                                      have HR315_0 := Aside0.mk hi315_0
                                      have HC315_0 := Aside0.mk hl315_0
                                      clear hi315_0 hl315_0
                                      replace p315 := eq_true p315
                                      replace q315 := eq_true q315
                                      have ea_ := Option.some.inj (hx314_0.symm.trans hx315_0)
                                      injection ea_ with ea_ en_ ec_
                                      subst ea_
                                      subst ec_
                                      clear en_
                                      have p316 : 0 ≤ (0 : Int) := (by omega)
                                      have q316 : 0 < ((rd_L1 l1 x6_1).length : Int) := of_decide_eq_true (by first | (with_reducible assumption) | assumption)
                                      obtain ⟨ad316, e316, hx316_0⟩ := Kd.at_int HR315_0.out 0 p316 q316
                                      cases e316
                                      have qi316 : (0 < (rd_L1 l1 x6_1).length) = True := eq_true (by omega)
                                      (try rw [show ((0 : Int)).toNat = 0 from rfl] at hx316_0)
                                      (try rw [Addr.add_zero'] at hx316_0)
                                      replace hx316_0 := (HB.out.cell (World.block_lt_of_cell? w _ hx316_0)).trans hx316_0
                                      replace p316 := eq_true p316
                                      replace q316 := eq_true q316
                                      have p317 : 0 ≤ (x6_1 : Int) := of_decide_eq_true (by first | (with_reducible assumption) | assumption)
                                      have q317 : x6_1 < (l1.length : Int) := of_decide_eq_true (by first | (with_reducible assumption) | assumption)
                                      obtain ⟨ad317, A317_0, c317_0, e317, hx317_0, hl317_0, hi317_0⟩ := at_L1 HR1.out x6_1 p317 q317
                                      obtain rfl : ad314 = ad317 := (by injection e317)
                                      replace hx317_0 := (HB.out.cell (World.block_lt_of_cell? w _ hx317_0)).trans hx317_0
                                      have HR317_0 := Aside0.mk hi317_0
                                      have HC317_0 := Aside0.mk hl317_0
                                      clear hi317_0 hl317_0
                                      replace p317 := eq_true p317
                                      replace q317 := eq_true q317
                                      have ea_ := Option.some.inj (hx314_0.symm.trans hx317_0)
                                      injection ea_ with ea_ en_ ec_
                                      subst ea_
                                      subst ec_
                                      clear en_
                                      have p318 : 0 ≤ (1 : Int) := (by omega)
                                      have q318 : 1 < ((rd_L1 l1 x6_1).length : Int) := of_decide_eq_true (by first | (with_reducible assumption) | assumption)
                                      obtain ⟨ad318, e318, hx318_0⟩ := Kd.at_int HR317_0.out 1 p318 q318
                                      cases e318
                                      (try simp only [show (1 : Int).toNat = 1 from rfl, Nat.reduceMul, Nat.reduceEqDiff, Go.Addr.add, ↓reduceIte] at hx318_0)
                                      have qi318 : (1 < (rd_L1 l1 x6_1).length) = True := eq_true (by omega)
                                      (try rw [show ((1 : Int)).toNat = 1 from rfl] at hx318_0)
                                      replace hx318_0 := (HB.out.cell (World.block_lt_of_cell? w _ hx318_0)).trans hx318_0
                                      replace p318 := eq_true p318
                                      replace q318 := eq_true q318
                                      obtain ⟨Ao26, co26, eo26⟩ := Kd.S_slice HO_5.out
                                      subst eo26
                                      have p319 : 0 ≤ ((ji16) : Int) := of_decide_eq_true (by first | (with_reducible assumption) | assumption)
                                      have q319 : (ji16) < (x5_1.length : Int) := of_decide_eq_true (by first | (with_reducible assumption) | assumption)
                                      obtain ⟨ad319, A319_0, c319_0, e319, hx319_0, hl319_0, hi319_0⟩ := at_L7 (Kd.S_reads' HO_5.out).2.2 (ji16) p319 q319
                                      cases e319
                                      obtain ⟨ce319, hce319, hMe319, hcc319⟩ := Kd.S_get HO_5.out [] (ji16) p319 (by first | exact q319 | exact of_decide_eq_true (by first | (with_reducible assumption) | assumption) | (have e_ := (Kd.S_reads' HO_5.out).1; omega))
                                      obtain ⟨ve319_0, rfl, ge319_0⟩ := hMe319
                                      have hv319_0 := hcc319 0 _ rfl
                                      rw [Nat.add_zero, show ((Kd.slice 4 Kd.bool)).sz = 1 from rfl, Nat.mul_one] at hv319_0
                                      replace hv319_0 := Option.some.inj (hv319_0.symm.trans hx319_0)
                                      rw [hv319_0] at ge319_0
                                      have HL319_0 := Aside0.mk (show Kd.R Kd.bool 4 _ _ _ _ (rd_L7 x5_1 (ji16)) from ge319_0)
                                      clear hv319_0 ge319_0
                                      have HX319_0 := Aside0.mk hx319_0
                                      clear hcc319 hce319
                                      have HR319_0 := Aside0.mk hi319_0
                                      have HC319_0 := Aside0.mk hl319_0
                                      clear hi319_0 hl319_0
                                      replace p319 := eq_true p319
                                      replace q319 := eq_true q319
                                      have p22 : 0 ≤ ((ji19) : Int) := of_decide_eq_true (by first | (with_reducible assumption) | assumption)
                                      have q22 : ((ji19) : Int) < (((rd_L7 x5_1 (ji16)).length : Int) : Int) := of_decide_eq_true (by first | (with_reducible assumption) | assumption)
                                      obtain ⟨go22, co22, eo22, gb22, gl22, cl22, HG22⟩ := Kd.R_form HL319_0.out (by omega)
                                      (first | cases eo22 | (injection eo22 with ea_ en_ ec_; (first | subst ea_ | (injection ea_ with ea_; subst ea_)); subst ec_; clear en_))
                                      have GB22 := Aside0.mk gb22
                                      have GG22 := Aside0.mk HG22
                                      clear gb22 gl22 HG22
                                      obtain ⟨hx22_0, hf22_0⟩ := Kd.R_celln false HL319_0.out ((ji19) : Int) p22 q22
                                      replace p22 := eq_true p22
                                      replace q22 := eq_true q22
                                      have hq27 : ((ji16) : Int) < (x5_1.length : Int) := (by have h_ : ((ji16) : Int) < ((x5_1.length : Int) : Int) := of_decide_eq_true (by first | (with_reducible assumption) | assumption); first | exact h_ | (have e_ := (Kd.S_reads' HO_5.out).1; omega) | simpa only [List.length_set, List.length_set] using h_)
                                      obtain ⟨oki27, ce27, hcl27, hM27, hcc27, hok27, hbk27⟩ := Kd.S_borrow HO_5.out [] ((ji16) : Int) (of_decide_eq_true (by first | (with_reducible assumption) | assumption)) (by first | exact hq27 | (have e_ := (Kd.S_reads' HO_5.out).1; have h_ := hq27; omega))
                                      obtain ⟨ve27_0, rfl, ge27_0⟩ := hM27
                                      have hv27 := hcc27 0 _ rfl
                                      rw [Nat.add_zero, show ((Kd.slice 4 Kd.bool)).sz = 1 from rfl, Nat.mul_one] at hv27
                                      replace hv27 := Option.some.inj (hv27.symm.trans HX319_0.out)
                                      subst hv27
                                      clear hcc27 hcl27
                                      replace ge27_0 := (show Kd.R Kd.bool 4 _ _ _ _ (rd_L7 x5_1 (ji16)) from ge27_0)
                                      have HP27 := Kd.R_putg ge27_0 ((ji19) : Int) true
                                      go_wp2_with (first | ((with_reducible refine gate_store (t := 4) (p := 60) rfl ?_); refine store_event (t := 4) (p := 60) (v := ?vo_w28) (w1 := (wc.setCell ⟨go22, ((ji19) : Int).toNat, none⟩ (.bool true))) ?hg ?ho ?hn ?hr ?_; (case ho => rfl); (case hg => rfl); (case hn => rfl); (case hr => first | (go_simp; done) | (go_simp; rfl)); intro w28 hw; have hg : wc.grownBy w28 (some go22) := (by rw [hw]; exact HP27.2); have hz_ : Kd.R Kd.bool 4 w28 w.heap.size oki27 (.slice (some ⟨go22, 0, none⟩) (rd_L7 x5_1 (ji16)).length c319_0) y320 := (by rw [hw, Ny320.out]; exact HP27.1); have hp_ : Kd.S (Kd.slice 4 Kd.bool) 55 w28 w.heap.size (fun _ => True) (.slice (some ad319) x5_1.length co26) y322 := (by rw [Ny322.out]; exact hbk27 hg (fun k_ e_ => by injection e_ with e_; subst e_; exact ge27_0.1 _ rfl) (Kd.M_row hz_)); have hm_ := Kd.R_mono hz_ hok27; clear HP27 hbk27; have n0_ := Aside0.mk (hp_); have n1_ := Aside0.mk ((by rw [hw]; exact below_set (HB.out) GB22.out : Below w.heap.size w w28)); have n2_ := Aside0.mk (hm_); have n3_ := Aside0.mk ((Kd.R_reads' hm_).2.1); clear HO_5; clear HB; clear HL319_0; have HO_5 := n0_; have HB := n1_; have HL327 := n2_; have HC321 := n3_; clear n0_ n1_ n2_ n3_; clear hg hw hp_ hz_ hm_ hok27; have p323 : 0 ≤ ((ji19) : Int) := of_decide_eq_true (by first | (with_reducible assumption) | assumption); have q323 : (ji19) < (y322.length : Int) := (by have h_ : ((ji19) : Int) < ((x5_1.length : Int) : Int) := of_decide_eq_true (by first | (with_reducible assumption) | assumption); first | (have e_ := (Kd.S_reads' HO_5.out).1; omega) | simpa only [Ny322.out, List.length_set] using h_); have ql323 : (((ji19) : Int) < ((x5_1.length : Int) : Int)) = True := eq_true (of_decide_eq_true (by first | (with_reducible assumption) | assumption)); obtain ⟨ad323, A323_0, c323_0, e323, hx323_0, hl323_0, hi323_0⟩ := at_L7 (Kd.S_reads' HO_5.out).2.2 (ji19) p323 q323; obtain rfl : ad319 = ad323 := (by injection e323); obtain ⟨ce323, hce323, hMe323, hcc323⟩ := Kd.S_get HO_5.out [] (ji19) p323 (by first | exact q323 | exact of_decide_eq_true (by first | (with_reducible assumption) | assumption) | (have e_ := (Kd.S_reads' HO_5.out).1; omega)); obtain ⟨ve323_0, rfl, ge323_0⟩ := hMe323; have hv323_0 := hcc323 0 _ rfl; rw [Nat.add_zero, show ((Kd.slice 4 Kd.bool)).sz = 1 from rfl, Nat.mul_one] at hv323_0; replace hv323_0 := Option.some.inj (hv323_0.symm.trans hx323_0); rw [hv323_0] at ge323_0; have HL323_0 := Aside0.mk (show Kd.R Kd.bool 4 _ _ _ _ (rd_L7 y322 (ji19)) from ge323_0); clear hv323_0 ge323_0; have HX323_0 := Aside0.mk hx323_0; clear hcc323 hce323; have HR323_0 := Aside0.mk hi323_0; have HC323_0 := Aside0.mk hl323_0; clear hi323_0 hl323_0; replace p323 := eq_true p323; replace q323 := eq_true q323; have p25 : 0 ≤ ((ji16) : Int) := of_decide_eq_true (by first | (with_reducible assumption) | assumption); have q25 : ((ji16) : Int) < (((rd_L7 y322 (ji19)).length : Int) : Int) := of_decide_eq_true (by first | (with_reducible assumption) | assumption); obtain ⟨go25, co25, eo25, gb25, gl25, cl25, HG25⟩ := Kd.R_form HL323_0.out (by omega); (first | cases eo25 | (injection eo25 with ea_ en_ ec_; (first | subst ea_ | (injection ea_ with ea_; subst ea_)); subst ec_; clear en_)); have GB25 := Aside0.mk gb25; have GG25 := Aside0.mk HG25; clear gb25 gl25 HG25; obtain ⟨hx25_0, hf25_0⟩ := Kd.R_celln false HL323_0.out ((ji16) : Int) p25 q25; replace p25 := eq_true p25; replace q25 := eq_true q25; have hq29 : ((ji19) : Int) < (y322.length : Int) := (by have h_ : ((ji19) : Int) < ((x5_1.length : Int) : Int) := of_decide_eq_true (by first | (with_reducible assumption) | assumption); first | exact h_ | (have e_ := (Kd.S_reads' HO_5.out).1; omega) | simpa only [Ny322.out, List.length_set] using h_); obtain ⟨oki29, ce29, hcl29, hM29, hcc29, hok29, hbk29⟩ := Kd.S_borrow HO_5.out [] ((ji19) : Int) (of_decide_eq_true (by first | (with_reducible assumption) | assumption)) (by first | exact hq29 | (have e_ := (Kd.S_reads' HO_5.out).1; have h_ := hq29; omega)); obtain ⟨ve29_0, rfl, ge29_0⟩ := hM29; have hv29 := hcc29 0 _ rfl; rw [Nat.add_zero, show ((Kd.slice 4 Kd.bool)).sz = 1 from rfl, Nat.mul_one] at hv29; replace hv29 := Option.some.inj (hv29.symm.trans HX323_0.out); subst hv29; clear hcc29 hcl29; replace ge29_0 := (show Kd.R Kd.bool 4 _ _ _ _ (rd_L7 y322 (ji19)) from ge29_0); have HP29 := Kd.R_putg ge29_0 ((ji16) : Int) true) | ((with_reducible refine gate_store (t := 4) (p := 66) rfl ?_); refine store_event (t := 4) (p := 66) (v := ?vo_w30) (w1 := (w28.setCell ⟨go25, ((ji16) : Int).toNat, none⟩ (.bool true))) ?hg ?ho ?hn ?hr ?_; (case ho => rfl); (case hg => rfl); (case hn => rfl); (case hr => first | (go_simp; done) | (go_simp; rfl)); intro w30 hw; have hg : w28.grownBy w30 (some go25) := (by rw [hw]; exact HP29.2); have hz_ : Kd.R Kd.bool 4 w30 w.heap.size oki29 (.slice (some ⟨go25, 0, none⟩) (rd_L7 y322 (ji19)).length c323_0) y324 := (by rw [hw, Ny324.out]; exact HP29.1); have hp_ : Kd.S (Kd.slice 4 Kd.bool) 55 w30 w.heap.size (fun _ => True) (.slice (some ad319) x5_1.length co26) y326 := (by rw [Ny326.out]; exact hbk29 hg (fun k_ e_ => by injection e_ with e_; subst e_; exact ge29_0.1 _ rfl) (Kd.M_row hz_)); have hm_ := Kd.R_mono hz_ hok29; clear HP29 hbk29; have n0_ := Aside0.mk (hp_); have n1_ := Aside0.mk ((by rw [hw]; exact below_set (HB.out) GB25.out : Below w.heap.size w w30)); have n2_ := Aside0.mk (hm_); have n3_ := Aside0.mk ((Kd.R_reads' hm_).2.1); clear HO_5; clear HB; clear HL327; clear HL323_0; have HO_5 := n0_; have HB := n1_; have HL328 := n2_; have HC325 := n3_; clear n0_ n1_ n2_ n3_; clear hg hw hp_ hz_ hm_ hok29))
                                      first | go_roundg kj4 | (simp only [← hji16, ← hji19]; (try simp only [← hji16, ← hji19] at H'); go_roundg kj4)
                                      case measure => have := HK1.out; have := HJ4.out; omega
                                      case rel => exact ⟨(y326), (wrap64 (x6_1 + 1)), (by first | rfl | (simp; done) | (simp [*]; done)), H', ⟨by have := HK1.out; have := HJ4.out; omega⟩, ⟨by (with_reducible repeat (first | apply Kd.S_alloc | apply Kd.S_drewN | apply Kd.S_drew)); exact HO_5.out⟩, ⟨by repeat (first | (with_reducible first | exact HB.out | apply below_alloc | apply pw_below_drewN | apply below_drew1) | exact HB.out)⟩⟩
                                    · rw [if_neg c24] at H
                                      exact absurd H (by simp)
                                  · rw [if_neg c23] at H
                                    exact absurd H (by simp)
                                · rw [if_neg c21] at H
                                  exact absurd H (by simp)
                              · rw [if_neg c20] at H
                                exact absurd H (by simp)
                            · rw [if_neg c18] at H
                              exact absurd H (by simp)
                          · rw [if_neg c17] at H
                            exact absurd H (by simp)
                      · rw [if_neg c14] at H
                        exact absurd H (by simp)
                  · rw [if_neg c12] at H
                    exact absurd H (by simp)
              · rw [if_neg c10] at H
                exact absurd H (by simp)
            · rw [if_neg c9] at H
              exact absurd H (by simp)
          · replace c8 := Bool.eq_false_iff.mpr c8
            subst c8
            have H1 : (some x5_1) = some r := by rw [if_neg (show ¬ (false = true) by decide)] at H; exact H
            clear H
            have H := H1
            clear H1
            obtain rfl := Option.some.inj H
            go_wp2
            go_ret
            exact ⟨_, by first | rfl | (simp [errW_none, errW_some] <;> rfl) | (simp [*, errW_none, errW_some] <;> rfl), by (with_reducible repeat (first | apply Kd.S_alloc | apply Kd.S_drewN | apply Kd.S_drew)); exact HO_5.out, by repeat (first | (with_reducible first | exact HB.out | apply below_alloc | apply pw_below_drewN | apply below_drew1) | exact HB.out)⟩

end Go.Proofs.YtopjffgmpphdbaaDoor.Pr
namespace Go.Proofs.YtopjffgmpphdbaaDoor.Pr
open Go.RowKit Go.Proofs.YtopjffgmpphdbaaDoorW.PrintWords Go.Proofs.YtopjffgmpphdbaaDoorW.PrintLast Go.Proofs.YtopjffgmpphdbaaDoorW.PrintMore
attribute [local go_sem] max2_int min2_int max_two min_two max_three min_three max_four min_four   -- for this text's walks alone
set_option linter.unusedVariables false
set_option linter.unusedSimpArgs false

/-! ### arboristref08_Graph: function 12 -/
mutual
def arboristref08_Graph.l0 : Nat → List (List Bool) → Int → List Int → Option (List Int)
  | 0, _, _, _ => none
  | k + 1, x0, x4, x331000 => if x4 < (x0.length : Int) then (arboristref08_Graph.l1 k x0 x4 0 0 x331000) else (some x331000)
def arboristref08_Graph.l1 : Nat → List (List Bool) → Int → Int → Int → List Int → Option (List Int)
  | 0, _, _, _, _, _ => none
  | k + 1, x0, x4, x5, x6, x331000 => if x6 < (x0.length : Int) then (if 0 ≤ x4 then (if x4 < (x0.length : Int) then (if 0 ≤ x6 then (if x6 < ((rd_L7 x0 x4).length : Int) then (if rdOf false (rd_L7 x0 x4) x6 = true then (if 0 ≤ (IntKind.u64.wrap (x6)) then (arboristref08_Graph.l1 k x0 x4 (IntKind.u64.wrap (x5 + (shl .u64 1 (IntKind.u64.wrap (x6))))) (wrap64 (x6 + 1)) x331000) else (none)) else (arboristref08_Graph.l1 k x0 x4 x5 (wrap64 (x6 + 1)) x331000)) else (none)) else (none)) else (none)) else (none)) else (if x331000.length < 17592186044416 then (arboristref08_Graph.l0 k x0 (wrap64 (x4 + 1)) (x331000 ++ [x5])) else (none))
end
def arboristref08_Graph.f (k : Nat) (l0 : List (List Bool)) : Option (List Int) := arboristref08_Graph.l0 k l0 0 ([] : List Int)
theorem arboristref08_Graph.mono_l : ∀ k, (∀ y0 y1 y2, LeO (arboristref08_Graph.l0 k y0 y1 y2) (arboristref08_Graph.l0 (k + 1) y0 y1 y2)) ∧ (∀ y0 y1 y2 y3 y4, LeO (arboristref08_Graph.l1 k y0 y1 y2 y3 y4) (arboristref08_Graph.l1 (k + 1) y0 y1 y2 y3 y4))
  | 0 => ⟨fun _ _ _ r h => by simp [arboristref08_Graph.l0] at h, fun _ _ _ _ _ r h => by simp [arboristref08_Graph.l1] at h⟩
  | k + 1 => by
    obtain ⟨ih0, ih1⟩ := arboristref08_Graph.mono_l k
    refine ⟨?_, ?_⟩
    all_goals intros
    all_goals (first | unfold arboristref08_Graph.l0 | unfold arboristref08_Graph.l1)
    all_goals repeat' first
    | (with_reducible exact ih0 _ _ _)
    | (with_reducible exact ih1 _ _ _ _ _)
    | (with_reducible exact LeO.refl _)
    | (with_reducible exact LeO.none _)
    | (with_reducible refine LeO.ite ?_ ?_)
    | (with_reducible refine LeO.bind ?_ (fun _ => ?_))
    | exact ih0 _ _ _
    | exact ih1 _ _ _ _ _
    | exact LeO.none _
    | refine LeO.ite ?_ ?_
    | refine LeO.bind ?_ (fun _ => ?_)
theorem arboristref08_Graph.mono : ∀ a0 k, LeO (arboristref08_Graph.f k a0) (arboristref08_Graph.f (k + 1) a0) := by
  intro a0 k
  obtain ⟨ih0, ih1⟩ := arboristref08_Graph.mono_l k
  unfold arboristref08_Graph.f
  repeat' first
      | (with_reducible exact ih0 _ _ _)
      | (with_reducible exact ih1 _ _ _ _ _)
      | (with_reducible exact LeO.refl _)
      | (with_reducible exact LeO.none _)
      | (with_reducible refine LeO.ite ?_ ?_)
      | (with_reducible refine LeO.bind ?_ (fun _ => ?_))
      | exact ih0 _ _ _
      | exact ih1 _ _ _ _ _
      | exact LeO.none _
      | refine LeO.ite ?_ ?_
      | refine LeO.bind ?_ (fun _ => ?_)
set_option maxHeartbeats 8000000 in
set_option maxRecDepth 100000 in
theorem arboristref08_Graph.calls (k : Nat) (A0 : Option Addr) (c0 : Nat) (l0 : List (List Bool)) (r : List Int) (w : World) (hr0 : Kd.C (Kd.slice 4 Kd.bool) w A0 l0.length l0) (hc0 : l0.length ≤ c0) (h : arboristref08_Graph.f k l0 = some r) :
    Calls Tryd.prog 12 #[.slice A0 l0.length c0] w fun e w' => ∃ v0_ : Value, e = .returned (.agg #[v0_]) ∧ Kd.R (Kd.int .u64) 61 w' w.heap.size (fun _ => True) v0_ r ∧ Below w.heap.size w w' := by
  have hu29 := Tryd.underlying29
  have HR0 := Aside0.mk hr0
  have HC0 := Aside0.mk hc0
  clear hr0 hc0
  have HB := Aside0.mk (Below.refl w.heap.size w)
  have H : (arboristref08_Graph.l0 k l0 0 ([] : List Int)) = some r := h
  clear h
  have H' := Aside0.mk H
  clear H
  go_enter Tryd.func12, Tryd.ntmps12
  go_wp2_with (first | ((with_reducible refine gate_dst (N := 2) rfl ?_); refine box_event ?hg (N := 2) ?hd (cs := #[.slice none 0 0]) (t := 29) ?hr ?_; (case hd => rfl); (case hg => rfl); (case hr => first | (go_simp; done) | (go_simp; rfl)); intro gb329 hg w2 hbox hb; have n0_ := Aside0.mk (below_step (by repeat (first | (with_reducible first | exact HB.out | apply below_alloc | apply pw_below_drewN | apply below_drew1) | exact HB.out)) hb); have n1_ := Aside0.mk (hbox); have n2_ := Aside0.mk ((by rw [hg]; exact (below_size (by repeat (first | (with_reducible first | exact HB.out | apply below_alloc | apply pw_below_drewN | apply below_drew1) | exact HB.out))) : w.heap.size ≤ gb329)); have n3_ := Aside0.mk ((by rw [hg]; exact (below_size (by repeat (first | (with_reducible first | exact HB.out | apply below_alloc | apply pw_below_drewN | apply below_drew1) | exact HB.out))) : w.heap.size ≤ gb329)); clear HB; have HB := n0_; have BK329 := n1_; have GW329 := n2_; have GE329 := n3_; clear n0_ n1_ n2_ n3_; clear hb hbox hg) | ((with_reducible refine gate_dst (N := 3) rfl ?_); refine box_event ?hg (N := 3) ?hd (cs := #[.slice none 0 0]) (t := 29) ?hr ?_; (case hd => rfl); (case hg => rfl); (case hr => first | (go_simp; done) | (go_simp; rfl)); intro gb330 hg w3 hbox hb; have n0_ := Aside0.mk (blk_below (g := gb329) (o := .cells #[.slice none 0 0] 29 (0, 0)) (by (with_reducible repeat (first | refine blk_drewN ?_ _ | refine blk_drew ?_ | refine blk_alloc ?_ _)); exact BK329.out) hb); have n1_ := Aside0.mk (below_step (by repeat (first | (with_reducible first | exact HB.out | apply below_alloc | apply pw_below_drewN | apply below_drew1 | refine below_set ?_ GE329.out) | exact HB.out)) hb); have n2_ := Aside0.mk (hbox); have n3_ := Aside0.mk ((by rw [hg]; exact (below_size (by repeat (first | (with_reducible first | exact HB.out | apply below_alloc | apply pw_below_drewN | apply below_drew1 | refine below_set ?_ GE329.out) | exact HB.out))) : w.heap.size ≤ gb330)); have n4_ := Aside0.mk ((by rw [hg]; exact (below_size (by repeat (first | (with_reducible first | exact HB.out | apply below_alloc | apply pw_below_drewN | apply below_drew1 | refine below_set ?_ GE329.out) | exact HB.out))) : w.heap.size ≤ gb330)); have n5_ := Aside0.mk ((by rw [hg]; exact Nat.ne_of_lt (blk_lt (g := gb329) (o := .cells #[.slice none 0 0] 29 (0, 0)) (by (with_reducible repeat (first | refine blk_drewN ?_ _ | refine blk_drew ?_ | refine blk_alloc ?_ _)); exact BK329.out)) : gb329 ≠ gb330)); have n6_ := Aside0.mk ((by rw [hg]; exact Nat.ne_of_gt (blk_lt (g := gb329) (o := .cells #[.slice none 0 0] 29 (0, 0)) (by (with_reducible repeat (first | refine blk_drewN ?_ _ | refine blk_drew ?_ | refine blk_alloc ?_ _)); exact BK329.out)) : gb330 ≠ gb329)); clear BK329; clear HB; have BK329 := n0_; have HB := n1_; have BK330 := n2_; have GW330 := n3_; have GE330 := n4_; have NB329_330 := n5_; have NB330_329 := n6_; clear n0_ n1_ n2_ n3_ n4_ n5_ n6_; clear hb hbox hg; have hnb4 := NB330_329.out; have hnc4 := NB329_330.out; have hcz5_0 : w3.cell? ⟨gb330, 0, none⟩ = some (.slice none 0 0) := (blk_cell BK330.out 0).trans rfl; have hfz5_0 := blk_frozen BK330.out 0))
  go_loopg [4] k (fun kq v4 w' => ∃ (x4_1 : Int) (x331000_1 : List Int) (u331000 : Value), v4 = .int .i64 x4_1 ∧ Aside0 (arboristref08_Graph.l0 kq l0 x4_1 x331000_1 = some r) ∧ Aside0 (kq ≤ k) ∧ Aside0 (Kd.R (Kd.int .u64) 61 w' w.heap.size (fun _ => True) u331000 x331000_1) ∧ Aside0 (w'.heap[gb329]? = some (.cells #[(.slice none 0 0)] 29 (0, 0))) ∧ Aside0 (w'.heap[gb330]? = some (.cells #[u331000] 29 (0, 0))) ∧ Aside0 (Below w.heap.size w w'))
  case atStart => exact ⟨(0), (([] : List Int)), (.slice none 0 0), (by first | rfl | (simp; done) | (simp [*]; done)), H', ⟨Nat.le_refl _⟩, ⟨by first | exact Kd.R_nil _ _ _ _ _ | exact Kd.N_nil _ _ _ _ _ | exact Kd.V_nil _ _ _ _ _ | exact Kd.Q_nil _ _ _ _ _ | exact Kd.S_nil _ _ _ _ _⟩, ⟨by (with_reducible repeat (first | refine blk_drewN ?_ _ | refine blk_drew ?_ | refine blk_alloc ?_ _)); refine blk_far ?_ NB329_330.out _; (with_reducible repeat (first | refine blk_drewN ?_ _ | refine blk_drew ?_ | refine blk_alloc ?_ _)); exact BK329.out⟩, ⟨by (with_reducible repeat (first | refine blk_drewN ?_ _ | refine blk_drew ?_ | refine blk_alloc ?_ _)); refine blk_put (cs := #[.slice none 0 0]) ?_ 0 _ rfl; (with_reducible repeat (first | refine blk_drewN ?_ _ | refine blk_drew ?_ | refine blk_alloc ?_ _)); exact BK330.out⟩, ⟨by repeat (first | (with_reducible first | exact HB.out | apply below_alloc | apply pw_below_drewN | apply below_drew1 | refine below_set ?_ GE329.out | refine below_set ?_ GE330.out) | exact HB.out)⟩⟩
  case round =>
    clear H'
    try clear c1
    try clear p2
    try clear c4
    try clear hcz5_0
    try clear hfz5_0
    obtain ⟨x4_1, x331000_1, u331000, rfl, HA, HK1, HO_331000, BK329, BK330, HB⟩ := hrel
    cases gk with
    | zero => exact absurd HA.out (by simp [arboristref08_Graph.l0])
    | succ k1 =>
      have H := HA.out
      clear HA
      simp only [arboristref08_Graph.l0] at H
      by_cases c6 : x4_1 < (l0.length : Int)
      · rw [if_pos c6] at H
        have c6b0 : decide (x4_1 < (l0.length : Int)) = true := decide_eq_true c6
        clear c6
        have H' := Aside0.mk H
        clear H
        go_wp2
        go_loopg [5, 6] k1 (fun kq v5 v6 w' => ∃ (x5_2 : Int) (x6_2 : Int), v5 = .int .u64 x5_2 ∧ v6 = .int .i64 x6_2 ∧ Aside0 (arboristref08_Graph.l1 kq l0 x4_1 x5_2 x6_2 x331000_1 = some r) ∧ Aside0 (kq ≤ k1) ∧ Aside0 (Kd.R (Kd.int .u64) 61 w' w.heap.size (fun _ => True) u331000 x331000_1) ∧ Aside0 (w'.heap[gb329]? = some (.cells #[(.slice none 0 0)] 29 (0, 0))) ∧ Aside0 (w'.heap[gb330]? = some (.cells #[u331000] 29 (0, 0))) ∧ Aside0 (Below w.heap.size w w'))
        case atStart => exact ⟨(0), (0), (by first | rfl | (simp; done) | (simp [*]; done)), (by first | rfl | (simp; done) | (simp [*]; done)), H', ⟨Nat.le_refl _⟩, ⟨by (with_reducible repeat (first | apply Kd.R_alloc | apply Kd.R_drewN | apply Kd.R_drew)); exact HO_331000.out⟩, ⟨by (with_reducible repeat (first | refine blk_drewN ?_ _ | refine blk_drew ?_ | refine blk_alloc ?_ _)); exact BK329.out⟩, ⟨by (with_reducible repeat (first | refine blk_drewN ?_ _ | refine blk_drew ?_ | refine blk_alloc ?_ _)); exact BK330.out⟩, ⟨by repeat (first | (with_reducible first | exact HB.out | apply below_alloc | apply pw_below_drewN | apply below_drew1 | refine below_set ?_ GE329.out | refine below_set ?_ GE330.out) | exact HB.out)⟩⟩
        case round =>
          clear H'
          try clear c1
          try clear p2
          try clear c4
          try clear c6
          try clear c6b0
          try clear hcz5_0
          try clear hfz5_0
          try clear p2
          obtain ⟨x5_2, x6_2, rfl, rfl, HA, HK2, HO_331000, BK329, BK330, HB⟩ := hrel
          cases gk with
          | zero => exact absurd HA.out (by simp [arboristref08_Graph.l1])
          | succ k2 =>
            have H := HA.out
            clear HA
            simp only [arboristref08_Graph.l1] at H
            by_cases c7 : x6_2 < (l0.length : Int)
            · rw [if_pos c7] at H
              have c7b0 : decide (x6_2 < (l0.length : Int)) = true := decide_eq_true c7
              clear c7
              by_cases c8 : 0 ≤ x4_1
              · rw [if_pos c8] at H
                have c8b0 : decide (0 ≤ x4_1) = true := decide_eq_true c8
                clear c8
                by_cases c9 : x4_1 < (l0.length : Int)
                · rw [if_pos c9] at H
                  have c9b0 : decide (x4_1 < (l0.length : Int)) = true := decide_eq_true c9
                  clear c9
                  by_cases c10 : 0 ≤ x6_2
                  · rw [if_pos c10] at H
                    have c10b0 : decide (0 ≤ x6_2) = true := decide_eq_true c10
                    clear c10
                    by_cases c11 : x6_2 < ((rd_L7 l0 x4_1).length : Int)
                    · rw [if_pos c11] at H
                      have c11b0 : decide (x6_2 < ((rd_L7 l0 x4_1).length : Int)) = true := decide_eq_true c11
                      clear c11
                      obtain ⟨bq12, hbq12⟩ : ∃ b_ : Bool, b_ = (rdOf false (rd_L7 l0 x4_1) x6_2) := ⟨_, rfl⟩
                      replace H : (if bq12 = true then (if 0 ≤ (IntKind.u64.wrap (x6_2)) then (arboristref08_Graph.l1 k2 l0 x4_1 (IntKind.u64.wrap (x5_2 + (shl .u64 1 (IntKind.u64.wrap (x6_2))))) (wrap64 (x6_2 + 1)) x331000_1) else (none)) else (arboristref08_Graph.l1 k2 l0 x4_1 x5_2 (wrap64 (x6_2 + 1)) x331000_1)) = some r := by rw [← hbq12] at H; exact H
                      have Nbq12 := Aside0.mk hbq12
                      clear hbq12
                      by_cases c13 : bq12 = true
                      · subst c13
                        have H1 : (if 0 ≤ (IntKind.u64.wrap (x6_2)) then (arboristref08_Graph.l1 k2 l0 x4_1 (IntKind.u64.wrap (x5_2 + (shl .u64 1 (IntKind.u64.wrap (x6_2))))) (wrap64 (x6_2 + 1)) x331000_1) else (none)) = some r := by rw [if_pos rfl] at H; exact H
                        clear H
                        have H := H1
                        clear H1
                        obtain ⟨ji14, hji14⟩ : ∃ j_ : Int, (IntKind.u64.wrap (x6_2)) = j_ := ⟨_, rfl⟩
                        replace H : (if 0 ≤ (ji14) then (arboristref08_Graph.l1 k2 l0 x4_1 (IntKind.u64.wrap (x5_2 + (shl .u64 1 (ji14)))) (wrap64 (x6_2 + 1)) x331000_1) else (none)) = some r := by first | (rw [hji14] at H; exact H) | (simp only [hji14] at H ⊢; exact H)
                        by_cases c15 : 0 ≤ (ji14)
                        · rw [if_pos c15] at H
                          have c15b0 := eq_true c15
                          have c15b1 : decide (0 ≤ (ji14)) = true := decide_eq_true c15
                          clear c15
                          obtain ⟨ji16, hji16⟩ : ∃ j_ : Int, (shl .u64 1 (ji14)) = j_ := ⟨_, rfl⟩
                          replace H : (arboristref08_Graph.l1 k2 l0 x4_1 (IntKind.u64.wrap (x5_2 + (ji16))) (wrap64 (x6_2 + 1)) x331000_1) = some r := by first | (rw [hji16] at H; exact H) | (simp only [hji16] at H ⊢; exact H)
                          have hji16_ : (IntKind.u64.wrap (1 * 2 ^ min (ji14).toNat 64)) = ji16 := hji16
                          have hji16z : (ji14) ≤ 64 → (IntKind.u64.wrap (1 * 2 ^ (ji14).toNat)) = ji16 := shl_small hji16
                          have hji16u : (IntKind.u64.wrap (2 ^ min (ji14).toNat 64)) = ji16 := by have h_ := hji16_; rw [Int.one_mul] at h_; exact h_
                          have hji16v : (ji14) ≤ 64 → (IntKind.u64.wrap (2 ^ (ji14).toNat)) = ji16 := fun hle_ => by have h_ := hji16z hle_; rw [Int.one_mul] at h_; exact h_
                          have H' := Aside0.mk H
                          clear H
                          have p331 : 0 ≤ (x4_1 : Int) := of_decide_eq_true (by first | (with_reducible assumption) | assumption)
                          have q331 : x4_1 < (l0.length : Int) := of_decide_eq_true (by first | (with_reducible assumption) | assumption)
                          obtain ⟨ad331, A331_0, c331_0, e331, hx331_0, hl331_0, hi331_0⟩ := at_L7 HR0.out x4_1 p331 q331
                          cases e331
                          replace hx331_0 := (HB.out.cell (World.block_lt_of_cell? w _ hx331_0)).trans hx331_0
                          have HR331_0 := Aside0.mk hi331_0
                          have HC331_0 := Aside0.mk hl331_0
                          clear hi331_0 hl331_0
                          replace p331 := eq_true p331
                          replace q331 := eq_true q331
                          have p332 : 0 ≤ (x6_2 : Int) := of_decide_eq_true (by first | (with_reducible assumption) | assumption)
                          have q332 : x6_2 < ((rd_L7 l0 x4_1).length : Int) := of_decide_eq_true (by first | (with_reducible assumption) | assumption)
                          obtain ⟨ad332, e332, hx332_0⟩ := Kd.at_bool HR331_0.out x6_2 p332 q332
                          (try rw [← Nbq12.out] at hx332_0)
                          cases e332
                          replace hx332_0 := (HB.out.cell (World.block_lt_of_cell? w _ hx332_0)).trans hx332_0
                          replace p332 := eq_true p332
                          replace q332 := eq_true q332
                          go_wp2
                          first | go_roundg k2 | (simp only [← hji14, ← hji16]; (try simp only [← hji14, ← hji16] at H'); go_roundg k2)
                          case measure => have := HK1.out; have := HK2.out; omega
                          case rel => exact ⟨(IntKind.u64.wrap (x5_2 + (ji16))), (wrap64 (x6_2 + 1)), (by first | rfl | (simp; done) | (simp only [← hji16] <;> (first | rfl | simp)) | (simp [*]; done)), (by first | rfl | (simp; done) | (simp [*]; done)), H', ⟨by have := HK1.out; have := HK2.out; omega⟩, ⟨by (with_reducible repeat (first | apply Kd.R_alloc | apply Kd.R_drewN | apply Kd.R_drew)); exact HO_331000.out⟩, ⟨by (with_reducible repeat (first | refine blk_drewN ?_ _ | refine blk_drew ?_ | refine blk_alloc ?_ _)); exact BK329.out⟩, ⟨by (with_reducible repeat (first | refine blk_drewN ?_ _ | refine blk_drew ?_ | refine blk_alloc ?_ _)); exact BK330.out⟩, ⟨by repeat (first | (with_reducible first | exact HB.out | apply below_alloc | apply pw_below_drewN | apply below_drew1 | refine below_set ?_ GE329.out | refine below_set ?_ GE330.out) | exact HB.out)⟩⟩
                        · rw [if_neg c15] at H
                          exact absurd H (by simp)
                      · replace c13 := Bool.eq_false_iff.mpr c13
                        subst c13
                        have H1 : (arboristref08_Graph.l1 k2 l0 x4_1 x5_2 (wrap64 (x6_2 + 1)) x331000_1) = some r := by rw [if_neg (show ¬ (false = true) by decide)] at H; exact H
                        clear H
                        have H := H1
                        clear H1
                        have H' := Aside0.mk H
                        clear H
                        have p331 : 0 ≤ (x4_1 : Int) := of_decide_eq_true (by first | (with_reducible assumption) | assumption)
                        have q331 : x4_1 < (l0.length : Int) := of_decide_eq_true (by first | (with_reducible assumption) | assumption)
                        obtain ⟨ad331, A331_0, c331_0, e331, hx331_0, hl331_0, hi331_0⟩ := at_L7 HR0.out x4_1 p331 q331
                        cases e331
                        replace hx331_0 := (HB.out.cell (World.block_lt_of_cell? w _ hx331_0)).trans hx331_0
                        have HR331_0 := Aside0.mk hi331_0
                        have HC331_0 := Aside0.mk hl331_0
                        clear hi331_0 hl331_0
                        replace p331 := eq_true p331
                        replace q331 := eq_true q331
                        have p332 : 0 ≤ (x6_2 : Int) := of_decide_eq_true (by first | (with_reducible assumption) | assumption)
                        have q332 : x6_2 < ((rd_L7 l0 x4_1).length : Int) := of_decide_eq_true (by first | (with_reducible assumption) | assumption)
                        obtain ⟨ad332, e332, hx332_0⟩ := Kd.at_bool HR331_0.out x6_2 p332 q332
                        (try rw [← Nbq12.out] at hx332_0)
                        cases e332
                        replace hx332_0 := (HB.out.cell (World.block_lt_of_cell? w _ hx332_0)).trans hx332_0
                        replace p332 := eq_true p332
                        replace q332 := eq_true q332
                        go_wp2
                        go_roundg k2
                        case measure => have := HK1.out; have := HK2.out; omega
                        case rel => exact ⟨(x5_2), (wrap64 (x6_2 + 1)), (by first | rfl | (simp; done) | (simp [*]; done)), (by first | rfl | (simp; done) | (simp [*]; done)), H', ⟨by have := HK1.out; have := HK2.out; omega⟩, ⟨by (with_reducible repeat (first | apply Kd.R_alloc | apply Kd.R_drewN | apply Kd.R_drew)); exact HO_331000.out⟩, ⟨by (with_reducible repeat (first | refine blk_drewN ?_ _ | refine blk_drew ?_ | refine blk_alloc ?_ _)); exact BK329.out⟩, ⟨by (with_reducible repeat (first | refine blk_drewN ?_ _ | refine blk_drew ?_ | refine blk_alloc ?_ _)); exact BK330.out⟩, ⟨by repeat (first | (with_reducible first | exact HB.out | apply below_alloc | apply pw_below_drewN | apply below_drew1 | refine below_set ?_ GE329.out | refine below_set ?_ GE330.out) | exact HB.out)⟩⟩
                    · rw [if_neg c11] at H
                      exact absurd H (by simp)
                  · rw [if_neg c10] at H
                    exact absurd H (by simp)
                · rw [if_neg c9] at H
                  exact absurd H (by simp)
              · rw [if_neg c8] at H
                exact absurd H (by simp)
            · rw [if_neg c7] at H
              have c7b0 : decide (x6_2 < (l0.length : Int)) = false := decide_eq_false c7
              clear c7
              by_cases c17 : x331000_1.length < 17592186044416
              · rw [if_pos c17] at H
                have LMc17 := Aside0.mk c17
                clear c17
                obtain ⟨y333, hy333⟩ : ∃ y_ : List Int, y_ = (x331000_1 ++ [x5_2]) := ⟨_, rfl⟩
                replace H : (arboristref08_Graph.l0 k2 l0 (wrap64 (x4_1 + 1)) y333) = some r := by first | (rw [hy333]; with_reducible exact H) | (have H2_ := (Option.bind_some _ _).symm.trans H; rw [hy333]; with_reducible exact H2_) | (have H2_ := (Option.bind_some _ _).symm.trans H; with_reducible exact H2_) | with_reducible exact H | (rw [hy333]; exact H) | exact H
                have Ny333 := Aside0.mk hy333
                clear hy333
                have H' := Aside0.mk H
                clear H
                have hnb18 := NB330_329.out
                have hnc18 := NB329_330.out
                have hcz19_0 : wr.cell? ⟨gb330, 0, none⟩ = some (u331000) := (blk_cell BK330.out 0).trans rfl
                have hfz19_0 := blk_frozen BK330.out 0
                go_wp2_with (first | ((with_reducible refine gate_builtin (b := .append) (xs := #[.tmp 33, .tmp 35]) rfl ?_); at_builtin; refine Kd.R_append (Kd.int .u64) (w0 := w) w.heap.size rfl (.tmp 33) (.tmp 35) 27 61 (.int .u64 0) 8 rfl Tryd.underlying27 info61 rfl (by decide) (by omega) u331000 x331000_1 x5_2 [.int .u64 x5_2] (fun _ => True) (fun _ => False) rfl rfl ?aP (fun _ hk => hk.elim) ?aF ?aO ?aB ?aS ?aL ?_; (case aP => exact rfl); (case aB => exact (by repeat (first | (with_reducible first | exact HB.out | apply below_alloc | apply pw_below_drewN | apply below_drew1 | refine below_set ?_ GE329.out | refine below_set ?_ GE330.out) | exact HB.out))); (case aF => exact (fun _ _ => trivial)); (case aO => exact (by (with_reducible repeat (first | apply Kd.R_alloc | apply Kd.R_drewN | apply Kd.R_drew)); exact HO_331000.out)); (case aS => exact (below_size (by repeat (first | (with_reducible first | exact HB.out | apply below_alloc | apply pw_below_drewN | apply below_drew1 | refine below_set ?_ GE329.out | refine below_set ?_ GE330.out) | exact HB.out)))); (case aL => have := LMc17.out; omega); intro v334 w20 ho hb hg hat; rw [← Ny333.out] at ho; have n0_ := Aside0.mk (blk_grown (g := gb329) (o := .cells #[.slice none 0 0] 29 (0, 0)) (by (with_reducible repeat (first | refine blk_drewN ?_ _ | refine blk_drew ?_ | refine blk_alloc ?_ _)); exact BK329.out) hg (Kd.R_ne HO_331000.out BK329.out (by decide))); have n1_ := Aside0.mk (blk_grown (g := gb330) (o := .cells #[u331000] 29 (0, 0)) (by (with_reducible repeat (first | refine blk_drewN ?_ _ | refine blk_drew ?_ | refine blk_alloc ?_ _)); exact BK330.out) hg (Kd.R_ne HO_331000.out BK330.out (by decide))); have n2_ := Aside0.mk (hb); have n3_ := Aside0.mk (ho); clear BK329; clear BK330; clear HB; clear HO_331000; have BK329 := n0_; have BK330 := n1_; have HB := n2_; have HO335 := n3_; clear n0_ n1_ n2_ n3_; clear ho hb hg hat; obtain ⟨Ao21, co21, eo21⟩ := Kd.R_slice HO335.out; subst eo21; have hcz22_0 : w20.cell? ⟨gb330, 0, none⟩ = some (u331000) := (blk_cell BK330.out 0).trans rfl; have hfz22_0 := blk_frozen BK330.out 0))
                go_roundg k2
                case measure => have := HK1.out; have := HK2.out; omega
                case rel => exact ⟨(wrap64 (x4_1 + 1)), (y333), (.slice Ao21 y333.length co21), (by first | rfl | (simp; done) | (simp [*]; done)), H', ⟨by have := HK1.out; have := HK2.out; omega⟩, ⟨by (with_reducible repeat (first | apply Kd.R_alloc | apply Kd.R_drewN | apply Kd.R_drew)); exact Kd.R_mono (Kd.R_far (p := ⟨gb330, 0, none⟩) (Kd.R_types HO335.out BK330.out (by decide)) (fun _ hk => hk.2) (.slice Ao21 y333.length co21)) (fun _ hk => trivial)⟩, ⟨by (with_reducible repeat (first | refine blk_drewN ?_ _ | refine blk_drew ?_ | refine blk_alloc ?_ _)); refine blk_far ?_ NB329_330.out _; (with_reducible repeat (first | refine blk_drewN ?_ _ | refine blk_drew ?_ | refine blk_alloc ?_ _)); exact BK329.out⟩, ⟨by (with_reducible repeat (first | refine blk_drewN ?_ _ | refine blk_drew ?_ | refine blk_alloc ?_ _)); refine blk_put (cs := #[u331000]) ?_ 0 _ rfl; (with_reducible repeat (first | refine blk_drewN ?_ _ | refine blk_drew ?_ | refine blk_alloc ?_ _)); exact BK330.out⟩, ⟨by repeat (first | (with_reducible first | exact HB.out | apply below_alloc | apply pw_below_drewN | apply below_drew1 | refine below_set ?_ GE329.out | refine below_set ?_ GE330.out) | exact HB.out)⟩⟩
              · rw [if_neg c17] at H
                exact absurd H (by simp)
      · rw [if_neg c6] at H
        have c6b0 : decide (x4_1 < (l0.length : Int)) = false := decide_eq_false c6
        clear c6
        obtain rfl := Option.some.inj H
        have hnb23 := NB330_329.out
        have hnc23 := NB329_330.out
        have hcz24_0 : wr.cell? ⟨gb330, 0, none⟩ = some (u331000) := (blk_cell BK330.out 0).trans rfl
        have hfz24_0 := blk_frozen BK330.out 0
        obtain ⟨Ao25, co25, eo25⟩ := Kd.R_slice HO_331000.out
        subst eo25
        have hcz26_0 : wr.cell? ⟨gb329, 0, none⟩ = some (.slice none 0 0) := (blk_cell BK329.out 0).trans rfl
        have hfz26_0 := blk_frozen BK329.out 0
        go_wp2
        refine bodyPost_ret (results_cell_row rfl _ _ gb329 29 #[.slice Ao25 x331000_1.length co25] (0, 0) _ rfl (by (with_reducible repeat (first | refine blk_drewN ?_ _ | refine blk_drew ?_ | refine blk_alloc ?_ _)); refine blk_put (cs := #[.slice none 0 0]) ?_ 0 _ rfl; (with_reducible repeat (first | refine blk_drewN ?_ _ | refine blk_drew ?_ | refine blk_alloc ?_ _)); exact BK329.out) Tryd.underlying29 rfl (by kernel_rfl)) rfl ?_
        exact ⟨_, by first | rfl | (simp [errW_none, errW_some] <;> rfl) | (simp [*, errW_none, errW_some] <;> rfl), by (with_reducible repeat (first | apply Kd.R_alloc | apply Kd.R_drewN | apply Kd.R_drew)); exact Kd.R_mono (Kd.R_far (p := ⟨gb329, 0, none⟩) (Kd.R_types HO_331000.out BK329.out (by decide)) (fun _ hk => hk.2) (.slice Ao25 x331000_1.length co25)) (fun _ hk => trivial), by repeat (first | (with_reducible first | exact HB.out | apply below_alloc | apply pw_below_drewN | apply below_drew1 | refine below_set ?_ GE329.out | refine below_set ?_ GE330.out) | exact HB.out)⟩

end Go.Proofs.YtopjffgmpphdbaaDoor.Pr
