-- Printed by a program of this session's own (wip/tools/pp.py) over the kit's print.py; Lean checks it.
import Derived.Test.YtbdlelojlnhhfaaDoorPr0
import Derived.Test.YtbdlelojlnhhfaaDoorPr1
import Derived.Test.YtbdlelojlnhhfaaDoorPr40
import Derived.Test.YtbdlelojlnhhfaaDoorPr41
import Derived.Test.YtbdlelojlnhhfaaDoorPr42
namespace Go.Proofs.YtbdlelojlnhhfaaDoor.Pr
open Go.RowKit Go.Proofs.YtbdlelojlnhhfaaDoorW.PrintWords Go.Proofs.YtbdlelojlnhhfaaDoorW.PrintLast Go.Proofs.YtbdlelojlnhhfaaDoorW.PrintMore
attribute [local go_sem] max2_int min2_int max_two min_two max_three min_three max_four min_four   -- for this text's walks alone
set_option linter.unusedVariables false
set_option linter.unusedSimpArgs false

/-! ### arboristref10_Bags: function 26 -/
def arboristref10_Bags.l0 : Nat → List (List Bool) → List Int → List (List Int) → Int → Option ((List (List Int)))
  | 0, _, _, _, _ => none
  | k + 1, x0, x1, x5, x6 => if x6 < (x1.length : Int) then (if 0 ≤ x6 then ((arboristref08_Neighbors.f k x0 (rd x1 x6)).bind fun t538 => ((arboristref01_Unite.f k t538 (([rd x1 x6] : List Int))).bind fun t545 => (if x5.length < 5864062014805 then ((arboristref09_Go.f k x0 (rd x1 x6)).bind fun t552 => (arboristref10_Bags.l0 k t552 x1 (x5 ++ [t545]) (wrap64 (x6 + 1)))) else (none)))) else (none)) else (some x5)
def arboristref10_Bags.f (k : Nat) (l0 : List (List Bool)) (l1 : List Int) : Option ((List (List Int))) := (arboristref09_Copy.f k l0).bind fun t531 => (arboristref10_Bags.l0 k t531 l1 (([] : List (List Int))) 0)
theorem arboristref10_Bags.mono_l : ∀ k, (∀ y0 y1 y2 y3, LeO (arboristref10_Bags.l0 k y0 y1 y2 y3) (arboristref10_Bags.l0 (k + 1) y0 y1 y2 y3))
  | 0 => fun _ _ _ _ r h => by simp [arboristref10_Bags.l0] at h
  | k + 1 => by
    have ih0 := arboristref10_Bags.mono_l k
    all_goals intros
    all_goals (first | unfold arboristref10_Bags.l0)
    all_goals repeat' first
    | (with_reducible exact ih0 _ _ _ _)
    | (with_reducible exact arboristref01_Unite.mono _ _ _)
    | (with_reducible exact arboristref08_Neighbors.mono _ _ _)
    | (with_reducible exact arboristref09_Copy.mono _ _)
    | (with_reducible exact arboristref09_Go.mono _ _ _)
    | (with_reducible exact LeO.refl _)
    | (with_reducible exact LeO.none _)
    | (with_reducible refine LeO.ite ?_ ?_)
    | (with_reducible refine LeO.bind ?_ (fun _ => ?_))
    | exact ih0 _ _ _ _
    | exact arboristref01_Unite.mono _ _ _
    | exact arboristref08_Neighbors.mono _ _ _
    | exact arboristref09_Copy.mono _ _
    | exact arboristref09_Go.mono _ _ _
    | exact LeO.none _
    | refine LeO.ite ?_ ?_
    | refine LeO.bind ?_ (fun _ => ?_)
theorem arboristref10_Bags.mono : ∀ a0 a1 k, LeO (arboristref10_Bags.f k a0 a1) (arboristref10_Bags.f (k + 1) a0 a1) := by
  intro a0 a1 k
  have ih0 := arboristref10_Bags.mono_l k
  unfold arboristref10_Bags.f
  repeat' first
      | (with_reducible exact ih0 _ _ _ _)
      | (with_reducible exact arboristref01_Unite.mono _ _ _)
      | (with_reducible exact arboristref08_Neighbors.mono _ _ _)
      | (with_reducible exact arboristref09_Copy.mono _ _)
      | (with_reducible exact arboristref09_Go.mono _ _ _)
      | (with_reducible exact LeO.refl _)
      | (with_reducible exact LeO.none _)
      | (with_reducible refine LeO.ite ?_ ?_)
      | (with_reducible refine LeO.bind ?_ (fun _ => ?_))
      | exact ih0 _ _ _ _
      | exact arboristref01_Unite.mono _ _ _
      | exact arboristref08_Neighbors.mono _ _ _
      | exact arboristref09_Copy.mono _ _
      | exact arboristref09_Go.mono _ _ _
      | exact LeO.none _
      | refine LeO.ite ?_ ?_
      | refine LeO.bind ?_ (fun _ => ?_)
def arboristref10_Bags.T6 : Bool × List (List Nat × List Nat) := (true, [([], []), ([], []), ([], []), ([], []), ([2, 3], [2, 3]), ([4], [4]), ([1, 5], [1, 5]), ([], []), ([], []), ([7, 8], [7, 8]), ([9], [9]), ([10], [10]), ([6, 11, 6], [6, 11]), ([12], [12]), ([0, 13, 12], [0, 13]), ([14, 14, 0, 1, 2, 3, 4, 5, 6, 7, 8, 9, 10, 11, 12, 13, 14], [0, 14])])
def arboristref10_Bags.B6 : List Nat := [0, 0, 0, 0, 12, 28, 62, 0, 0, 384, 896, 1920, 4094, 8190, 16383, 32767]
theorem arboristref10_Bags.tab6 : rtab .any (opsOf Tryd.f26 6) = arboristref10_Bags.T6 := by kernel_rfl
theorem arboristref10_Bags.bits6 : waitsOk arboristref10_Bags.T6.2 arboristref10_Bags.B6 = true := by kernel_rfl
set_option maxHeartbeats 8000000 in
set_option maxRecDepth 100000 in
theorem arboristref10_Bags.calls (k : Nat) (A0 : Option Addr) (c0 : Nat) (l0 : List (List Bool)) (A1 : Option Addr) (c1 : Nat) (l1 : List Int) (r : List (List Int)) (w : World) (hr0 : Kd.C (Kd.slice 4 Kd.bool) w A0 l0.length l0) (hc0 : l0.length ≤ c0) (hr1 : Kd.C (Kd.int .i64) w A1 l1.length l1) (hc1 : l1.length ≤ c1) (h : arboristref10_Bags.f k l0 l1 = some r) :
    Calls Tryd.prog 26 #[.slice A0 l0.length c0, .slice A1 l1.length c1] w fun e w' => ∃ v0_ : Value, e = .returned (v0_) ∧ Kd.S (Kd.slice 3 (Kd.int .i64)) 23 w' w.heap.size (fun _ => True) v0_ r ∧ Below w.heap.size w w' := by
  have HR0 := Aside0.mk hr0
  have HC0 := Aside0.mk hc0
  clear hr0 hc0
  have HR1 := Aside0.mk hr1
  have HC1 := Aside0.mk hc1
  clear hr1 hc1
  have HB := Aside0.mk (Below.refl w.heap.size w)
  have H : ((arboristref09_Copy.f k l0).bind fun t531 => (arboristref10_Bags.l0 k t531 l1 (([] : List (List Int))) 0)) = some r := h
  clear h
  replace H := Option.bind_eq_some_iff.mp H
  obtain ⟨t531, A30, H⟩ := H
  replace H : (arboristref10_Bags.l0 k t531 l1 (([] : List (List Int))) 0) = some r := H
  have A3 := Aside0.mk A30
  clear A30
  obtain ⟨y534, hy534⟩ : ∃ y_ : List (List Int), y_ = (([] : List (List Int))) := ⟨_, rfl⟩
  replace H : (arboristref10_Bags.l0 k t531 l1 y534 0) = some r := by first | (rw [hy534]; with_reducible exact H) | (have H2_ := (Option.bind_some _ _).symm.trans H; rw [hy534]; with_reducible exact H2_) | (have H2_ := (Option.bind_some _ _).symm.trans H; with_reducible exact H2_) | with_reducible exact H | (rw [hy534]; exact H) | exact H
  have Ny534 := Aside0.mk hy534
  clear hy534
  have H' := Aside0.mk H
  clear H
  go_enter Tryd.func26, Tryd.ntmps26
  go_wp2_with (first | ((with_reducible refine gate_callee (f := 36) rfl ?_); refine goesL_ (some 8) rfl rfl Tryd.func36 (by kernel_rfl) rfl #[.slice A0 l0.length c0] rfl (by (try simp only [List.map_toArray, List.map_cons, List.map_nil]); first | done | rfl | (simp only [List.length_drop, List.length_take]; rfl)) ?_; (with_reducible refine (arboristref09_Copy.calls k _ _ l0 t531 _ ?side1 ?side2 A3.out).mono ?_); (case side1 => repeat (first | exact HR0.out | (with_reducible refine Kd.C_alloc ?_ _) | (with_reducible refine Kd.C_drewN ?_ _) | (with_reducible refine Kd.C_drew ?_))); (case side2 => exact HC0.out); rintro e w4 ⟨v532, rfl, ho0, hb⟩; refine ⟨_, rfl, ?_⟩; have n0_ := Aside0.mk (Kd.S_lower ho0 (below_size (by repeat (first | (with_reducible first | exact HB.out | apply below_alloc | apply pw_below_drewN | apply below_drew1) | exact HB.out)))); have n1_ := Aside0.mk (below_step (by repeat (first | (with_reducible first | exact HB.out | apply below_alloc | apply pw_below_drewN | apply below_drew1) | exact HB.out)) hb); clear HB; have HO533 := n0_; have HB := n1_; clear n0_ n1_; (try clear hb); (try clear hb2); (try clear hk); (try clear hi); (try clear ho0)) | ((with_reducible refine gate_dst (N := 9) rfl ?_); refine Kd.S_lit (Kd.slice 3 (Kd.int .i64)) _ 23 ?hg (N := 9) ?hd (xs := ([] : List (List Int))) (inner := []) (ok := fun _ => True) (okp := fun _ => True) ?hr ?hp (fun _ hk => hk) trivial (Below.refl _ _) (Nat.le_refl _) (by simp) ?_; (case hd => rfl); (case hg => rfl); (case hr => first | (go_simp; done) | (go_simp; rfl)); (case hp => exact (Reps.none _ _)); intro v535 w5 ho6 hb hg_ hnew_; clear hg_ hnew_; (first | rw [← Ny534.out] at ho6 | (simp only [Int.reduceToNat] at ho6; rw [← Ny534.out] at ho6)); have n0_ := Aside0.mk (Kd.S_below (by (with_reducible repeat (first | apply Kd.S_alloc | apply Kd.S_drewN | apply Kd.S_drew)); exact HO533.out) hb); have n1_ := Aside0.mk (Kd.S_lower ho6 (below_size (by repeat (first | (with_reducible first | exact HB.out | apply below_alloc | apply pw_below_drewN | apply below_drew1) | exact HB.out)))); have n2_ := Aside0.mk (below_step (by repeat (first | (with_reducible first | exact HB.out | apply below_alloc | apply pw_below_drewN | apply below_drew1) | exact HB.out)) hb); clear HO533; clear HB; have HO533 := n0_; have HO536 := n1_; have HB := n2_; clear n0_ n1_ n2_; clear hb ho6))
  go_loopg [5, 6] k (fun kq v5 v6 w' => ∃ (x0_1 : List (List Bool)) (x5_1 : List (List Int)) (x6_1 : Int), v6 = .int .i64 x6_1 ∧ Aside0 (arboristref10_Bags.l0 kq x0_1 l1 x5_1 x6_1 = some r) ∧ Aside0 (kq ≤ k) ∧ Aside0 (Kd.S (Kd.slice 4 Kd.bool) 40 w' w.heap.size (fun _ => True) v532 x0_1) ∧ Aside0 (Kd.S (Kd.slice 3 (Kd.int .i64)) 23 w' w.heap.size (fun _ => True) v5 x5_1) ∧ Aside0 (Below w.heap.size w w'))
  case atStart => exact ⟨(t531), (y534), (0), (by first | rfl | (simp; done) | (simp [*]; done)), H', ⟨Nat.le_refl _⟩, ⟨by (with_reducible repeat (first | apply Kd.S_alloc | apply Kd.S_drewN | apply Kd.S_drew)); exact HO533.out⟩, ⟨by (with_reducible repeat (first | apply Kd.S_alloc | apply Kd.S_drewN | apply Kd.S_drew)); exact HO536.out⟩, ⟨by repeat (first | (with_reducible first | exact HB.out | apply below_alloc | apply pw_below_drewN | apply below_drew1) | exact HB.out)⟩⟩
  case round =>
    clear H'
    try clear c1
    try clear c2
    try clear p2
    try clear c3
    obtain ⟨x0_1, x5_1, x6_1, rfl, HA, HK1, HO_0, HO_5, HB⟩ := hrel
    cases gk with
    | zero => exact absurd HA.out (by simp [arboristref10_Bags.l0])
    | succ k1 =>
      have H := HA.out
      clear HA
      simp only [arboristref10_Bags.l0] at H
      by_cases c7 : x6_1 < (l1.length : Int)
      · rw [if_pos c7] at H
        have c7b0 : decide (x6_1 < (l1.length : Int)) = true := decide_eq_true c7
        clear c7
        by_cases c8 : 0 ≤ x6_1
        · rw [if_pos c8] at H
          have c8b0 : decide (0 ≤ x6_1) = true := decide_eq_true c8
          clear c8
          replace H := Option.bind_eq_some_iff.mp H
          obtain ⟨t538, A90, H⟩ := H
          replace H : ((arboristref01_Unite.f k1 t538 (([rd l1 x6_1] : List Int))).bind fun t545 => (if x5_1.length < 5864062014805 then ((arboristref09_Go.f k1 x0_1 (rd l1 x6_1)).bind fun t552 => (arboristref10_Bags.l0 k1 t552 l1 (x5_1 ++ [t545]) (wrap64 (x6_1 + 1)))) else (none))) = some r := H
          have A9 := Aside0.mk A90
          clear A90
          obtain ⟨y542, hy542⟩ : ∃ y_ : List Int, y_ = (([rd l1 x6_1] : List Int)) := ⟨_, rfl⟩
          replace H : ((arboristref01_Unite.f k1 t538 y542).bind fun t545 => (if x5_1.length < 5864062014805 then ((arboristref09_Go.f k1 x0_1 (rd l1 x6_1)).bind fun t552 => (arboristref10_Bags.l0 k1 t552 l1 (x5_1 ++ [t545]) (wrap64 (x6_1 + 1)))) else (none))) = some r := by first | (rw [hy542]; with_reducible exact H) | (have H2_ := (Option.bind_some _ _).symm.trans H; rw [hy542]; with_reducible exact H2_) | (have H2_ := (Option.bind_some _ _).symm.trans H; with_reducible exact H2_) | with_reducible exact H | (rw [hy542]; exact H) | exact H
          have Ny542 := Aside0.mk hy542
          clear hy542
          replace H := Option.bind_eq_some_iff.mp H
          obtain ⟨t545, A100, H⟩ := H
          replace H : (if x5_1.length < 5864062014805 then ((arboristref09_Go.f k1 x0_1 (rd l1 x6_1)).bind fun t552 => (arboristref10_Bags.l0 k1 t552 l1 (x5_1 ++ [t545]) (wrap64 (x6_1 + 1)))) else (none)) = some r := H
          have A10 := Aside0.mk A100
          clear A100
          by_cases c11 : x5_1.length < 5864062014805
          · rw [if_pos c11] at H
            have LMc11 := Aside0.mk c11
            clear c11
            obtain ⟨y548, hy548⟩ : ∃ y_ : List (List Int), y_ = (x5_1 ++ [t545]) := ⟨_, rfl⟩
            replace H : ((arboristref09_Go.f k1 x0_1 (rd l1 x6_1)).bind fun t552 => (arboristref10_Bags.l0 k1 t552 l1 y548 (wrap64 (x6_1 + 1)))) = some r := by first | (rw [hy548]; with_reducible exact H) | (have H2_ := (Option.bind_some _ _).symm.trans H; rw [hy548]; with_reducible exact H2_) | (have H2_ := (Option.bind_some _ _).symm.trans H; with_reducible exact H2_) | with_reducible exact H | (rw [hy548]; exact H) | exact H
            have Ny548 := Aside0.mk hy548
            clear hy548
            replace H := Option.bind_eq_some_iff.mp H
            obtain ⟨t552, A120, H⟩ := H
            replace H : (arboristref10_Bags.l0 k1 t552 l1 y548 (wrap64 (x6_1 + 1))) = some r := H
            have A12 := Aside0.mk A120
            clear A120
            have H' := Aside0.mk H
            clear H
            obtain ⟨Ao13, co13, eo13⟩ := Kd.S_slice HO_0.out
            subst eo13
            obtain ⟨Ao14, co14, eo14⟩ := Kd.S_slice HO_5.out
            subst eo14
            try go_wp2
            (try (rw [drewN_self wr]; generalize hq_ : World.drewN wr _ = wr; have n0_ := Aside0.mk (Kd.S_at hq_ HO_0.out); have n1_ := Aside0.mk (Kd.S_at hq_ HO_5.out); have n2_ := Aside0.mk (below_at hq_ HB.out); clear hq_ HO_0 HO_5 HB; have HO_0 := n0_; have HO_5 := n1_; have HB := n2_; clear n0_ n1_ n2_))
            have n0_ := Aside0.mk (Kd.S_drew HO_0.out)
            have n1_ := Aside0.mk (Kd.S_drew HO_5.out)
            have n2_ := Aside0.mk (below_drew1 HB.out)
            clear HO_0
            clear HO_5
            clear HB
            have HO_0 := n0_
            have HO_5 := n1_
            have HB := n2_
            clear n0_ n1_ n2_
            have p537 : 0 ≤ (x6_1 : Int) := of_decide_eq_true (by first | (with_reducible assumption) | assumption)
            have q537 : x6_1 < (l1.length : Int) := of_decide_eq_true (by first | (with_reducible assumption) | assumption)
            obtain ⟨ad537, e537, hx537_0⟩ := Kd.at_int HR1.out x6_1 p537 q537
            have hw537_0 := hx537_0
            cases e537
            replace hx537_0 := (HB.out.cell (World.block_lt_of_cell? w _ hx537_0)).trans hx537_0
            replace p537 := eq_true p537
            replace q537 := eq_true q537
            have p541 : 0 ≤ (x6_1 : Int) := of_decide_eq_true (by first | (with_reducible assumption) | assumption)
            have q541 : x6_1 < (l1.length : Int) := of_decide_eq_true (by first | (with_reducible assumption) | assumption)
            obtain ⟨ad541, e541, hx541_0⟩ := Kd.at_int HR1.out x6_1 p541 q541
            have hw541_0 := hx541_0
            obtain rfl : ad537 = ad541 := (by injection e541)
            replace hx541_0 := (HB.out.cell (World.block_lt_of_cell? w _ hx541_0)).trans hx541_0
            replace p541 := eq_true p541
            replace q541 := eq_true q541
            refine start_ (n := 16) (S := fun w' => w'.cell? (ad537.add (x6_1).toNat) = some (.int .i64 (rd l1 x6_1)) ∧ w'.cell? (ad537.add (x6_1).toNat) = some (.int .i64 (rd l1 x6_1))) (ds := []) (bs 16 0) (by kernel_rfl) rfl rfl ⟨((HB.out.cell (World.block_lt_of_cell? w _ hw537_0)).trans hw537_0), ((HB.out.cell (World.block_lt_of_cell? w _ hw541_0)).trans hw541_0)⟩ (fun hHeld => ?_); refine with_tabW arboristref10_Bags.tab6 arboristref10_Bags.bits6 (fun HT_ HW_ => ?_)
            generalize wr.drew = w15 at HO_0 HO_5 HB hx537_0 hx541_0 hHeld ⊢
            refine pure_ (i := 0) (N := some 16) (v := ?_) (a' := ?_) (bs 16 1) rfl rfl (any_of HT_.out (by kernel_rfl)) (fun _ _ _ h => h) (Or.inl ⟨by rfl, ?_⟩) ?_ ?_
            rotate_left; (intro w'; go_simp; with_reducible rfl); rotate_left; (simp only [Act.put, List.setIfInBounds_toArray, List.set_cons_zero, List.set_cons_succ, i64_w, i32_w]; rfl)
            refine pure_ (i := 1) (N := some 17) (v := ?_) (a' := ?_) (bs 16 3) rfl rfl (any_of HT_.out (by kernel_rfl)) (fun _ _ _ h => h) (Or.inl ⟨by rfl, ?_⟩) ?_ ?_
            rotate_left; (intro w'; go_simp; with_reducible rfl); rotate_left; (simp only [Act.put, List.setIfInBounds_toArray, List.set_cons_zero, List.set_cons_succ, i64_w, i32_w]; rfl)
            refine pure_ (i := 2) (N := some 18) (v := ?_) (a' := ?_) (bs 16 7) rfl rfl (any_of HT_.out (by kernel_rfl)) (fun _ _ _ h => h) (Or.inl ⟨by rfl, ?_⟩) ?_ ?_
            rotate_left; (intro w'; go_simp; with_reducible rfl); rotate_left; (simp only [Act.put, List.setIfInBounds_toArray, List.set_cons_zero, List.set_cons_succ, i64_w, i32_w]; rfl)
            refine pure_ (i := 3) (N := some 19) (v := ?_) (a' := ?_) (bs 16 15) rfl rfl (any_of HT_.out (by kernel_rfl)) (fun _ _ _ h => h) (Or.inl ⟨by rfl, ?_⟩) ?_ ?_
            rotate_left; (intro w'; go_simp; with_reducible rfl); rotate_left; (simp only [Act.put, List.setIfInBounds_toArray, List.set_cons_zero, List.set_cons_succ, i64_w, i32_w]; rfl)
            refine pure_ (i := 4) (N := some 20) (v := ?_) (a' := ?_) (bs 16 31) rfl rfl (any_of HT_.out (by kernel_rfl)) (fun _ _ _ h => h) (Or.inl ⟨by rfl, ?_⟩) ?_ ?_
            rotate_left; (intro w'; go_simp; with_reducible rfl); rotate_left; (simp only [Act.put, List.setIfInBounds_toArray, List.set_cons_zero, List.set_cons_succ, i64_w, i32_w]; rfl)
            refine pure_ (i := 7) (N := some 23) (v := ?_) (a' := ?_) (bs 16 159) rfl rfl (any_of HT_.out (by kernel_rfl)) (fun _ _ _ h => h) (Or.inl ⟨by rfl, ?_⟩) ?_ ?_
            rotate_left; (intro w'; go_simp; with_reducible rfl); rotate_left; (simp only [Act.put, List.setIfInBounds_toArray, List.set_cons_zero, List.set_cons_succ, i64_w, i32_w]; rfl)
            refine pure_ (i := 8) (N := some 24) (v := ?_) (a' := ?_) (bs 16 415) rfl rfl (any_of HT_.out (by kernel_rfl)) (fun _ _ _ h => h) (Or.inl ⟨by rfl, ?_⟩) ?_ ?_
            rotate_left; (intro w'; go_simp; with_reducible rfl); rotate_left; (simp only [Act.put, List.setIfInBounds_toArray, List.set_cons_zero, List.set_cons_succ, i64_w, i32_w]; rfl)
            refine pure_ (i := 9) (N := some 25) (v := ?_) (a' := ?_) (bs 16 927) rfl rfl (any_of HT_.out (by kernel_rfl)) (fun _ _ _ h => h) (Or.inl ⟨by rfl, ?_⟩) ?_ ?_
            rotate_left; (intro w'; go_simp; with_reducible rfl); rotate_left; (simp only [Act.put, List.setIfInBounds_toArray, List.set_cons_zero, List.set_cons_succ, i64_w, i32_w]; rfl)
            refine take_ (i := 5) (N := some 21) (v := ?_) (a' := ?_) (bs 16 959) rfl rfl (take_ofW HT_.out HW_.out (by kernel_rfl)) (fun _ _ _ h => h) (Or.inl ⟨by rfl, ?_⟩) hHeld ?_ ?_
            rotate_left
            · rintro w' ⟨s0, s1⟩
              go_simp
              with_reducible rfl
            rotate_left; (simp only [Act.put, List.setIfInBounds_toArray, List.set_cons_zero, List.set_cons_succ, i64_w, i32_w]; rfl)
            refine take_ (i := 10) (N := some 26) (v := ?_) (a' := ?_) (bs 16 1983) rfl rfl (take_ofW HT_.out HW_.out (by kernel_rfl)) (fun _ _ _ h => h) (Or.inl ⟨by rfl, ?_⟩) hHeld ?_ ?_
            rotate_left
            · rintro w' ⟨s0, s1⟩
              go_simp
              with_reducible rfl
            rotate_left; (simp only [Act.put, List.setIfInBounds_toArray, List.set_cons_zero, List.set_cons_succ, i64_w, i32_w]; rfl)
            refine join_ (σ := Value × Value) 4 (bs 16 4095) (fun s_ => [(22, s_.1), (27, s_.2)]) (fun s_ w' => (w'.cell? (ad537.add (x6_1).toNat) = some (.int .i64 (rd l1 x6_1)) ∧ w'.cell? (ad537.add (x6_1).toNat) = some (.int .i64 (rd l1 x6_1))) ∧ (Kd.R (Kd.int .i64) 3 w' w.heap.size (fun k_ => some k_ ≠ (s_.2 : Value).ownBlock) s_.1 t538) ∧ (Kd.R (Kd.int .i64) 3 w' w.heap.size (fun k_ => some k_ ≠ (s_.1 : Value).ownBlock) s_.2 y542) ∧ (Kd.S (Kd.slice 4 Kd.bool) 40 w' w.heap.size (fun _ => True) (.slice Ao13 x0_1.length co13) x0_1) ∧ (Kd.S (Kd.slice 3 (Kd.int .i64)) 23 w' w.heap.size (fun k_ => some k_ ≠ (s_.1 : Value).ownBlock ∧ some k_ ≠ (s_.2 : Value).ownBlock) (.slice Ao14 x5_1.length co14) x5_1) ∧ (Below w.heap.size w w')) ?_ ?_
            rotate_left
            · intro hCont
              refine two_ (i := 6) (j := 11) (Ni := some 22) (Nj := some 27) (bs 16 2047) (bs 16 4031) rfl rfl rfl rfl (two_of HT_.out (by kernel_rfl)) (by decide) (by decide) (fun K hK => ?_) (fun K hK => ?_)
              · skip
                refine goes_ Tryd.func27 (by kernel_rfl) rfl #[.slice Ao13 x0_1.length co13, .int .i64 (rd l1 x6_1)] (by rfl) rfl rfl (by (try simp only [List.map_toArray, List.map_cons, List.map_nil]); first | done | rfl | (simp only [List.length_drop, List.length_take]; rfl)) ?_
                with_reducible refine (arboristref08_Neighbors.calls k1 _ _ x0_1 (rd l1 x6_1) t538 _ ?side1 ?side2 A9.out).mono ?_
                (case side1 => repeat (first | exact (Kd.S_reads' HO_0.out).2.2 | (with_reducible refine Kd.C_alloc ?_ _) | (with_reducible refine Kd.C_drewN ?_ _) | (with_reducible refine Kd.C_drew ?_)))
                (case side2 => exact (Kd.S_reads' HO_0.out).2.1)
                rintro e w16 ⟨v539, rfl, ho0, hb⟩
                refine ⟨_, rfl, ?_⟩
                have n0_ := Aside0.mk (Kd.S_below (by (with_reducible repeat (first | apply Kd.S_alloc | apply Kd.S_drewN | apply Kd.S_drew)); exact HO_0.out) hb)
                have n1_ := Aside0.mk (Kd.S_elder' (by (with_reducible repeat (first | apply Kd.S_alloc | apply Kd.S_drewN | apply Kd.S_drew)); exact HO_5.out) (Kd.R_base ho0) hb)
                have n2_ := Aside0.mk (Kd.R_lower ho0 (below_size (by repeat (first | (with_reducible first | exact HB.out | apply below_alloc | apply pw_below_drewN | apply below_drew1) | exact HB.out))))
                have n3_ := Aside0.mk (below_step (by repeat (first | (with_reducible first | exact HB.out | apply below_alloc | apply pw_below_drewN | apply below_drew1) | exact HB.out)) hb)
                clear HO_0
                clear HO_5
                clear HB
                have HO_0 := n0_
                have HO_5 := n1_
                have HO540 := n2_
                have HB := n3_
                clear n0_ n1_ n2_ n3_
                (try clear hb)
                (try clear hb2)
                (try clear hk)
                (try clear hi)
                (try clear ho0)
                refine hK.out _ _ ⟨((HB.out.cell (World.block_lt_of_cell? w _ hw537_0)).trans hw537_0), ((HB.out.cell (World.block_lt_of_cell? w _ hw541_0)).trans hw541_0)⟩ (fun hHeld => ?_)
                clear hK K
                refine norm_ (a' := ?_) ?_ ?_
                rotate_left
                · show Act.put _ (some 22) _ = _
                  simp only [Act.put, List.setIfInBounds_toArray, List.set_cons_zero, List.set_cons_succ, i64_w, i32_w]
                  rfl
                refine one_ (i := 11) (N := some 27) (bs 16 4095) rfl rfl (one_of HT_.out (by kernel_rfl)) (by decide) (fun K hK => ?_)
                refine Kd.R_lit_step (Kd.int .i64) _ 3 ?hg (N := 27) ?hd (xs := ([rd l1 x6_1] : List Int)) (inner := [.int .i64 (rd l1 x6_1)]) (ok := fun _ => True) (okp := fun _ => True) ?hr ?hp (fun _ hk => hk) trivial (Below.refl _ _) (Nat.le_refl _) (by simp) ?_; (case hd => rfl); (case hg => rfl); (case hr => first | (go_simp; done) | (go_simp; rfl)); (case hp => exact (Reps.one (show Kd.M (Kd.int .i64) _ _ _ (rd l1 x6_1) [.int .i64 (rd l1 x6_1)] from rfl) (Reps.none _ _)))
                intro v543 w17 ho18 hb hg_ hnew_
                clear hg_ hnew_
                (first | rw [← Ny542.out] at ho18 | (simp only [Int.reduceToNat] at ho18; rw [← Ny542.out] at ho18))
                have n0_ := Aside0.mk (Kd.S_below (by (with_reducible repeat (first | apply Kd.S_alloc | apply Kd.S_drewN | apply Kd.S_drew)); exact HO_0.out) hb)
                have n1_ := Aside0.mk (Kd.S_elder' (by (with_reducible repeat (first | apply Kd.S_alloc | apply Kd.S_drewN | apply Kd.S_drew)); exact HO_5.out) (Kd.R_base ho18) hb)
                have n2_ := Aside0.mk (Kd.R_elder' (by (with_reducible repeat (first | apply Kd.R_alloc | apply Kd.R_drewN | apply Kd.R_drew)); exact HO540.out) (Kd.R_base ho18) hb)
                have n3_ := Aside0.mk (Kd.R_lower (Kd.R_new' ho18 (Kd.R_lt (by (with_reducible repeat (first | apply Kd.R_alloc | apply Kd.R_drewN | apply Kd.R_drew)); exact HO540.out))) (below_size (by repeat (first | (with_reducible first | exact HB.out | apply below_alloc | apply pw_below_drewN | apply below_drew1) | exact HB.out))))
                have n4_ := Aside0.mk (below_step (by repeat (first | (with_reducible first | exact HB.out | apply below_alloc | apply pw_below_drewN | apply below_drew1) | exact HB.out)) hb)
                clear HO_0
                clear HO_5
                clear HO540
                clear HB
                have HO_0 := n0_
                have HO_5 := n1_
                have HO540 := n2_
                have HO544 := n3_
                have HB := n4_
                clear n0_ n1_ n2_ n3_ n4_
                clear hb ho18
                refine hK.out _ _ ⟨((HB.out.cell (World.block_lt_of_cell? w _ hw537_0)).trans hw537_0), ((HB.out.cell (World.block_lt_of_cell? w _ hw541_0)).trans hw541_0)⟩ (fun hHeld => ?_)
                clear hK K
                refine norm_ (a' := ?_) ?_ ?_
                rotate_left
                · show Act.put _ (some 27) _ = _
                  simp only [Act.put, List.setIfInBounds_toArray, List.set_cons_zero, List.set_cons_succ, i64_w, i32_w]
                  rfl
                exact norm_ (by simp only [putAll, Act.put, List.setIfInBounds_toArray, List.set_cons_zero, List.set_cons_succ]) (hCont (v539, v543) _ ⟨hHeld, (by (with_reducible repeat (first | apply Kd.R_alloc | apply Kd.R_drewN | apply Kd.R_drew)); exact Kd.R_mono HO540.out (fun _ hk => hk.2)), (by (with_reducible repeat (first | apply Kd.R_alloc | apply Kd.R_drewN | apply Kd.R_drew)); exact Kd.R_mono HO544.out (fun _ hk => hk.2)), (by (with_reducible repeat (first | apply Kd.S_alloc | apply Kd.S_drewN | apply Kd.S_drew)); exact HO_0.out), (by (with_reducible repeat (first | apply Kd.S_alloc | apply Kd.S_drewN | apply Kd.S_drew)); exact Kd.S_mono HO_5.out (fun _ hk => ⟨hk.1.2, hk.2⟩)), (by repeat (first | (with_reducible first | exact HB.out | apply below_alloc | apply pw_below_drewN | apply below_drew1) | exact HB.out))⟩)
              · skip
                refine Kd.R_lit_step (Kd.int .i64) _ 3 ?hg (N := 27) ?hd (xs := ([rd l1 x6_1] : List Int)) (inner := [.int .i64 (rd l1 x6_1)]) (ok := fun _ => True) (okp := fun _ => True) ?hr ?hp (fun _ hk => hk) trivial (Below.refl _ _) (Nat.le_refl _) (by simp) ?_; (case hd => rfl); (case hg => rfl); (case hr => first | (go_simp; done) | (go_simp; rfl)); (case hp => exact (Reps.one (show Kd.M (Kd.int .i64) _ _ _ (rd l1 x6_1) [.int .i64 (rd l1 x6_1)] from rfl) (Reps.none _ _)))
                intro v543 w16 ho17 hb hg_ hnew_
                clear hg_ hnew_
                (first | rw [← Ny542.out] at ho17 | (simp only [Int.reduceToNat] at ho17; rw [← Ny542.out] at ho17))
                have n0_ := Aside0.mk (Kd.S_below (by (with_reducible repeat (first | apply Kd.S_alloc | apply Kd.S_drewN | apply Kd.S_drew)); exact HO_0.out) hb)
                have n1_ := Aside0.mk (Kd.S_elder' (by (with_reducible repeat (first | apply Kd.S_alloc | apply Kd.S_drewN | apply Kd.S_drew)); exact HO_5.out) (Kd.R_base ho17) hb)
                have n2_ := Aside0.mk (Kd.R_lower ho17 (below_size (by repeat (first | (with_reducible first | exact HB.out | apply below_alloc | apply pw_below_drewN | apply below_drew1) | exact HB.out))))
                have n3_ := Aside0.mk (below_step (by repeat (first | (with_reducible first | exact HB.out | apply below_alloc | apply pw_below_drewN | apply below_drew1) | exact HB.out)) hb)
                clear HO_0
                clear HO_5
                clear HB
                have HO_0 := n0_
                have HO_5 := n1_
                have HO544 := n2_
                have HB := n3_
                clear n0_ n1_ n2_ n3_
                clear hb ho17
                refine hK.out _ _ ⟨((HB.out.cell (World.block_lt_of_cell? w _ hw537_0)).trans hw537_0), ((HB.out.cell (World.block_lt_of_cell? w _ hw541_0)).trans hw541_0)⟩ (fun hHeld => ?_)
                clear hK K
                refine norm_ (a' := ?_) ?_ ?_
                rotate_left
                · show Act.put _ (some 27) _ = _
                  simp only [Act.put, List.setIfInBounds_toArray, List.set_cons_zero, List.set_cons_succ, i64_w, i32_w]
                  rfl
                refine one_ (i := 6) (N := some 22) (bs 16 4095) rfl rfl (one_of HT_.out (by kernel_rfl)) (by decide) (fun K hK => ?_)
                refine goes_ Tryd.func27 (by kernel_rfl) rfl #[.slice Ao13 x0_1.length co13, .int .i64 (rd l1 x6_1)] (by rfl) rfl rfl (by (try simp only [List.map_toArray, List.map_cons, List.map_nil]); first | done | rfl | (simp only [List.length_drop, List.length_take]; rfl)) ?_
                with_reducible refine (arboristref08_Neighbors.calls k1 _ _ x0_1 (rd l1 x6_1) t538 _ ?side1 ?side2 A9.out).mono ?_
                (case side1 => repeat (first | exact (Kd.S_reads' HO_0.out).2.2 | (with_reducible refine Kd.C_alloc ?_ _) | (with_reducible refine Kd.C_drewN ?_ _) | (with_reducible refine Kd.C_drew ?_)))
                (case side2 => exact (Kd.S_reads' HO_0.out).2.1)
                rintro e w18 ⟨v539, rfl, ho0, hb⟩
                refine ⟨_, rfl, ?_⟩
                have n0_ := Aside0.mk (Kd.S_below (by (with_reducible repeat (first | apply Kd.S_alloc | apply Kd.S_drewN | apply Kd.S_drew)); exact HO_0.out) hb)
                have n1_ := Aside0.mk (Kd.S_elder' (by (with_reducible repeat (first | apply Kd.S_alloc | apply Kd.S_drewN | apply Kd.S_drew)); exact HO_5.out) (Kd.R_base ho0) hb)
                have n2_ := Aside0.mk (Kd.R_elder' (by (with_reducible repeat (first | apply Kd.R_alloc | apply Kd.R_drewN | apply Kd.R_drew)); exact HO544.out) (Kd.R_base ho0) hb)
                have n3_ := Aside0.mk (Kd.R_lower (Kd.R_new' ho0 (Kd.R_lt (by (with_reducible repeat (first | apply Kd.R_alloc | apply Kd.R_drewN | apply Kd.R_drew)); exact HO544.out))) (below_size (by repeat (first | (with_reducible first | exact HB.out | apply below_alloc | apply pw_below_drewN | apply below_drew1) | exact HB.out))))
                have n4_ := Aside0.mk (below_step (by repeat (first | (with_reducible first | exact HB.out | apply below_alloc | apply pw_below_drewN | apply below_drew1) | exact HB.out)) hb)
                clear HO_0
                clear HO_5
                clear HO544
                clear HB
                have HO_0 := n0_
                have HO_5 := n1_
                have HO544 := n2_
                have HO540 := n3_
                have HB := n4_
                clear n0_ n1_ n2_ n3_ n4_
                (try clear hb)
                (try clear hb2)
                (try clear hk)
                (try clear hi)
                (try clear ho0)
                refine hK.out _ _ ⟨((HB.out.cell (World.block_lt_of_cell? w _ hw537_0)).trans hw537_0), ((HB.out.cell (World.block_lt_of_cell? w _ hw541_0)).trans hw541_0)⟩ (fun hHeld => ?_)
                clear hK K
                refine norm_ (a' := ?_) ?_ ?_
                rotate_left
                · show Act.put _ (some 22) _ = _
                  simp only [Act.put, List.setIfInBounds_toArray, List.set_cons_zero, List.set_cons_succ, i64_w, i32_w]
                  rfl
                exact norm_ (by simp only [putAll, Act.put, List.setIfInBounds_toArray, List.set_cons_zero, List.set_cons_succ]) (hCont (v539, v543) _ ⟨hHeld, (by (with_reducible repeat (first | apply Kd.R_alloc | apply Kd.R_drewN | apply Kd.R_drew)); exact Kd.R_mono HO540.out (fun _ hk => hk.2)), (by (with_reducible repeat (first | apply Kd.R_alloc | apply Kd.R_drewN | apply Kd.R_drew)); exact Kd.R_mono HO544.out (fun _ hk => hk.2)), (by (with_reducible repeat (first | apply Kd.S_alloc | apply Kd.S_drewN | apply Kd.S_drew)); exact HO_0.out), (by (with_reducible repeat (first | apply Kd.S_alloc | apply Kd.S_drewN | apply Kd.S_drew)); exact Kd.S_mono HO_5.out (fun _ hk => ⟨hk.2, hk.1.2⟩)), (by repeat (first | (with_reducible first | exact HB.out | apply below_alloc | apply pw_below_drewN | apply below_drew1) | exact HB.out))⟩)
            rintro ⟨v539, v543⟩ w19 ⟨hS_, h0_, h1_, h2_, h3_, h4_⟩
            have n0_ : Aside0 (Kd.R (Kd.int .i64) 3 w19 w.heap.size (fun k_ => some k_ ≠ (v543 : Value).ownBlock) v539 t538) := ⟨h0_⟩
            have n1_ : Aside0 (Kd.R (Kd.int .i64) 3 w19 w.heap.size (fun k_ => some k_ ≠ (v539 : Value).ownBlock) v543 y542) := ⟨h1_⟩
            have n2_ : Aside0 (Kd.S (Kd.slice 4 Kd.bool) 40 w19 w.heap.size (fun _ => True) (.slice Ao13 x0_1.length co13) x0_1) := ⟨h2_⟩
            have n3_ : Aside0 (Kd.S (Kd.slice 3 (Kd.int .i64)) 23 w19 w.heap.size (fun k_ => some k_ ≠ (v539 : Value).ownBlock ∧ some k_ ≠ (v543 : Value).ownBlock) (.slice Ao14 x5_1.length co14) x5_1) := ⟨h3_⟩
            have n4_ : Aside0 (Below w.heap.size w w19) := ⟨h4_⟩
            clear HO_0
            clear HO_5
            clear HB
            clear h0_ h1_ h2_ h3_ h4_
            have HO540 := n0_
            have HO544 := n1_
            have HO_0 := n2_
            have HO_5 := n3_
            have HB := n4_
            clear n0_ n1_ n2_ n3_ n4_
            have hHeld : w19.cell? (ad537.add (x6_1).toNat) = some (.int .i64 (rd l1 x6_1)) ∧ w19.cell? (ad537.add (x6_1).toNat) = some (.int .i64 (rd l1 x6_1)) := hS_
            obtain ⟨Ao20, co20, eo20⟩ := Kd.R_slice HO540.out
            (first | subst eo20 | (injection eo20 with f1_ f2_ f3_; have f4_ := f1_.symm; have f5_ := f3_.symm; clear f1_ f2_ f3_; subst f4_; subst f5_))
            obtain ⟨Ao21, co21, eo21⟩ := Kd.R_slice HO544.out
            (first | subst eo21 | (injection eo21 with f1_ f2_ f3_; have f4_ := f1_.symm; have f5_ := f3_.symm; clear f1_ f2_ f3_; subst f4_; subst f5_))
            refine norm_ (a' := ?_) ?_ ?_
            rotate_left
            · simp only [putAll, Act.put, List.setIfInBounds_toArray, List.set_cons_zero, List.set_cons_succ]
              rfl
            refine one_ (i := 12) (N := some 28) (bs 16 8191) rfl rfl (one_of HT_.out (by kernel_rfl)) (by decide) (fun K hK => ?_)
            refine goes_ Tryd.func37 (by kernel_rfl) rfl #[.slice Ao20 t538.length co20, .slice Ao21 y542.length co21] (by rfl) rfl rfl (by (try simp only [List.map_toArray, List.map_cons, List.map_nil]); first | done | rfl | (simp only [List.length_drop, List.length_take]; rfl)) ?_
            with_reducible refine (arboristref01_Unite.calls k1 _ _ t538 _ _ y542 t545 _ ?side1 ?side2 ?side3 ?side4 A10.out).mono ?_
            (case side1 => repeat (first | exact (Kd.R_reads' HO540.out).2.2 | (with_reducible refine Kd.C_alloc ?_ _) | (with_reducible refine Kd.C_drewN ?_ _) | (with_reducible refine Kd.C_drew ?_)))
            (case side2 => exact (Kd.R_reads' HO540.out).2.1)
            (case side3 => repeat (first | exact (Kd.R_reads' HO544.out).2.2 | (with_reducible refine Kd.C_alloc ?_ _) | (with_reducible refine Kd.C_drewN ?_ _) | (with_reducible refine Kd.C_drew ?_)))
            (case side4 => exact (Kd.R_reads' HO544.out).2.1)
            rintro e w22 ⟨v546, rfl, ho0, hb⟩
            refine ⟨_, rfl, ?_⟩
            have n0_ := Aside0.mk (Kd.S_below (by (with_reducible repeat (first | apply Kd.S_alloc | apply Kd.S_drewN | apply Kd.S_drew)); exact HO_0.out) hb)
            have n1_ := Aside0.mk (Kd.S_elder' (by (with_reducible repeat (first | apply Kd.S_alloc | apply Kd.S_drewN | apply Kd.S_drew)); exact HO_5.out) (Kd.R_base ho0) hb)
            have n2_ := Aside0.mk (Kd.R_elder' (by (with_reducible repeat (first | apply Kd.R_alloc | apply Kd.R_drewN | apply Kd.R_drew)); exact HO540.out) (Kd.R_base ho0) hb)
            have n3_ := Aside0.mk (Kd.R_elder' (by (with_reducible repeat (first | apply Kd.R_alloc | apply Kd.R_drewN | apply Kd.R_drew)); exact HO544.out) (Kd.R_base ho0) hb)
            have n4_ := Aside0.mk (Kd.R_lower (Kd.R_new' (Kd.R_new' ho0 (Kd.R_lt (by (with_reducible repeat (first | apply Kd.R_alloc | apply Kd.R_drewN | apply Kd.R_drew)); exact HO540.out))) (Kd.R_lt (by (with_reducible repeat (first | apply Kd.R_alloc | apply Kd.R_drewN | apply Kd.R_drew)); exact HO544.out))) (below_size (by repeat (first | (with_reducible first | exact HB.out | apply below_alloc | apply pw_below_drewN | apply below_drew1) | exact HB.out))))
            have n5_ := Aside0.mk (below_step (by repeat (first | (with_reducible first | exact HB.out | apply below_alloc | apply pw_below_drewN | apply below_drew1) | exact HB.out)) hb)
            clear HO_0
            clear HO_5
            clear HO540
            clear HO544
            clear HB
            have HO_0 := n0_
            have HO_5 := n1_
            have HO540 := n2_
            have HO544 := n3_
            have HO547 := n4_
            have HB := n5_
            clear n0_ n1_ n2_ n3_ n4_ n5_
            (try clear hb)
            (try clear hb2)
            (try clear hk)
            (try clear hi)
            (try clear ho0)
            obtain ⟨Ao24, co24, eo24⟩ := Kd.R_slice HO547.out
            (first | subst eo24 | (injection eo24 with f1_ f2_ f3_; have f4_ := f1_.symm; have f5_ := f3_.symm; clear f1_ f2_ f3_; subst f4_; subst f5_))
            refine hK.out _ _ ⟨((HB.out.cell (World.block_lt_of_cell? w _ hw537_0)).trans hw537_0), ((HB.out.cell (World.block_lt_of_cell? w _ hw541_0)).trans hw541_0)⟩ (fun hHeld => ?_)
            clear hK K
            refine norm_ (a' := ?_) ?_ ?_
            rotate_left
            · show Act.put _ (some 28) _ = _
              simp only [Act.put, List.setIfInBounds_toArray, List.set_cons_zero, List.set_cons_succ, i64_w, i32_w]
              rfl
            refine one_ (i := 13) (N := some 29) (bs 16 16383) rfl rfl (one_of HT_.out (by kernel_rfl)) (by decide) (fun K hK => ?_)
            refine value_ (w1 := ?_) (v := ?_) (by rfl) rfl ?_ ?_
            rotate_left 2
            · go_simp
              constructor
              · rfl
              · rfl
            refine hK.out _ _ ⟨(World.cell?_alloc_lt _ _ _ (World.block_lt_of_cell? _ _ (((HB.out.cell (World.block_lt_of_cell? w _ hw537_0)).trans hw537_0)))).trans (((HB.out.cell (World.block_lt_of_cell? w _ hw537_0)).trans hw537_0)), (World.cell?_alloc_lt _ _ _ (World.block_lt_of_cell? _ _ (((HB.out.cell (World.block_lt_of_cell? w _ hw541_0)).trans hw541_0)))).trans (((HB.out.cell (World.block_lt_of_cell? w _ hw541_0)).trans hw541_0))⟩ (fun hHeld => ?_)
            clear hK K
            refine norm_ (a' := ?_) ?_ ?_
            rotate_left
            · show Act.put _ (some 29) _ = _
              simp only [Act.put, List.setIfInBounds_toArray, List.set_cons_zero, List.set_cons_succ, i64_w, i32_w]
              rfl
            refine one_ (i := 14) (N := some 30) (bs 16 32767) rfl rfl (one_of HT_.out (by kernel_rfl)) (by decide) (fun K hK => ?_)
            refine Kd.S_append_step (Kd.slice 3 (Kd.int .i64)) (w0 := w) w.heap.size (by rfl) (.tmp 16) (.tmp 29) 22 23 (.slice none 0 0) 24 rfl Tryd.underlying22 info23 rfl (by decide) (by omega) (.slice Ao14 x5_1.length co14) x5_1 t545 [.slice Ao24 t545.length co24] (fun k_ => some k_ ≠ (.slice Ao20 t538.length co20 : Value).ownBlock ∧ some k_ ≠ (.slice Ao21 y542.length co21 : Value).ownBlock) (fun k_ => some k_ = (.slice Ao24 t545.length co24 : Value).ownBlock) rfl rfl ?aP (fun k_ hk_ => ((Kd.R_mono (ok' := fun k_ => ((fun k_ => some k_ ≠ (.slice Ao20 t538.length co20 : Value).ownBlock ∧ some k_ ≠ (.slice Ao21 y542.length co21 : Value).ownBlock)) k_ ∧ some k_ ≠ (.slice Ao14 x5_1.length co14 : Value).ownBlock) (Kd.R_apart' (HO547.out) (Kd.S_typed HO_5.out) (by decide)) (fun k_ hk => ⟨⟨hk.1.1.2, hk.1.2⟩, hk.2⟩))).1 k_ hk_.symm) ?aF ?aO ?aB ?aS ?aL ?_
            (case aP => exact Kd.M_row (Kd.R_mono (Kd.R_tight rfl (Kd.R_mono (ok' := fun k_ => ((fun k_ => some k_ ≠ (.slice Ao20 t538.length co20 : Value).ownBlock ∧ some k_ ≠ (.slice Ao21 y542.length co21 : Value).ownBlock)) k_ ∧ some k_ ≠ (.slice Ao14 x5_1.length co14 : Value).ownBlock) (Kd.R_apart' (HO547.out) (Kd.S_typed HO_5.out) (by decide)) (fun k_ hk => ⟨⟨hk.1.1.2, hk.1.2⟩, hk.2⟩))) (fun _ h_ => h_)))
            (case aB => exact (by repeat (first | (with_reducible first | exact HB.out | apply below_alloc | apply pw_below_drewN | apply below_drew1) | exact HB.out)))
            (case aF => exact (fun k_ hk => ⟨Kd.fresh' (Kd.R_lt (by (with_reducible repeat (first | apply Kd.R_alloc | apply Kd.R_drewN | apply Kd.R_drew)); exact HO540.out)) k_ hk, Kd.fresh' (Kd.R_lt (by (with_reducible repeat (first | apply Kd.R_alloc | apply Kd.R_drewN | apply Kd.R_drew)); exact HO544.out)) k_ hk⟩))
            (case aO => exact (by (with_reducible repeat (first | apply Kd.S_alloc | apply Kd.S_drewN | apply Kd.S_drew)); exact Kd.S_mono HO_5.out (fun k_ hk => ⟨⟨hk.1.1, hk.1.2⟩, fun e_ => hk.2 e_⟩)))
            (case aS => exact (below_size (by repeat (first | (with_reducible first | exact HB.out | apply below_alloc | apply pw_below_drewN | apply below_drew1) | exact HB.out))))
            (case aL => have := LMc11.out; omega)
            intro v549 w23 ho hb hg hat
            rw [← Ny548.out] at ho
            have n0_ := Aside0.mk (Kd.S_over' (by (with_reducible repeat (first | apply Kd.S_alloc | apply Kd.S_drewN | apply Kd.S_drew)); exact HO_0.out) (Kd.S_typed (by (with_reducible repeat (first | apply Kd.S_alloc | apply Kd.S_drewN | apply Kd.S_drew)); exact HO_5.out)) (by decide) hg)
            have n1_ := Aside0.mk (Kd.R_over' (by (with_reducible repeat (first | apply Kd.R_alloc | apply Kd.R_drewN | apply Kd.R_drew)); exact HO540.out) (Kd.S_typed (by (with_reducible repeat (first | apply Kd.S_alloc | apply Kd.S_drewN | apply Kd.S_drew)); exact HO_5.out)) (by decide) hg)
            have n2_ := Aside0.mk (Kd.R_over' (by (with_reducible repeat (first | apply Kd.R_alloc | apply Kd.R_drewN | apply Kd.R_drew)); exact HO544.out) (Kd.S_typed (by (with_reducible repeat (first | apply Kd.S_alloc | apply Kd.S_drewN | apply Kd.S_drew)); exact HO_5.out)) (by decide) hg)
            have n3_ := Aside0.mk (hb)
            have n4_ := Aside0.mk (ho)
            clear HO_0
            clear HO540
            clear HO544
            clear HB
            clear HO_5
            clear HO547
            have HO_0 := n0_
            have HO540 := n1_
            have HO544 := n2_
            have HB := n3_
            have HO550 := n4_
            clear n0_ n1_ n2_ n3_ n4_
            clear ho hb hg hat
            refine hK.out _ _ ⟨((HB.out.cell (World.block_lt_of_cell? w _ hw537_0)).trans hw537_0), ((HB.out.cell (World.block_lt_of_cell? w _ hw541_0)).trans hw541_0)⟩ (fun hHeld => ?_)
            clear hK K
            refine norm_ (a' := ?_) ?_ ?_
            rotate_left
            · show Act.put _ (some 30) _ = _
              simp only [Act.put, List.setIfInBounds_toArray, List.set_cons_zero, List.set_cons_succ, i64_w, i32_w]
              rfl
            refine pure_ (i := 15) (N := some 5) (v := ?_) (a' := ?_) (bs 16 65535) rfl rfl (any_of HT_.out (by kernel_rfl)) (fun _ _ _ h => h) (Or.inl ⟨by rfl, ?_⟩) ?_ ?_
            rotate_left; (intro w'; go_simp; with_reducible rfl); rotate_left; (simp only [Act.put, List.setIfInBounds_toArray, List.set_cons_zero, List.set_cons_succ, i64_w, i32_w]; rfl)
            refine done_ (done_of HT_.out (by kernel_rfl)) ?_
            have p551 : 0 ≤ (x6_1 : Int) := of_decide_eq_true (by first | (with_reducible assumption) | assumption)
            have q551 : x6_1 < (l1.length : Int) := of_decide_eq_true (by first | (with_reducible assumption) | assumption)
            obtain ⟨ad551, e551, hx551_0⟩ := Kd.at_int HR1.out x6_1 p551 q551
            obtain rfl : ad537 = ad551 := (by injection e551)
            replace hx551_0 := (HB.out.cell (World.block_lt_of_cell? w _ hx551_0)).trans hx551_0
            replace p551 := eq_true p551
            replace q551 := eq_true q551
            try go_wp2_with (first | ((with_reducible refine gate_callee (f := 38) rfl ?_); refine goesL_ (some 36) rfl rfl Tryd.func38 (by kernel_rfl) rfl #[.slice Ao13 x0_1.length co13, .int .i64 (rd l1 x6_1)] rfl (by (try simp only [List.map_toArray, List.map_cons, List.map_nil]); first | done | rfl | (simp only [List.length_drop, List.length_take]; rfl)) ?_; (with_reducible refine (arboristref09_Go.callsB k1 (fun k_ => True) (.slice Ao13 x0_1.length co13) x0_1 (rd l1 x6_1) t552 w _ ?side1 ?side2 A12.out).mono ?_); (case side1 => repeat (first | (with_reducible first | exact HB.out | apply below_alloc | apply pw_below_drewN | apply below_drew1) | exact HB.out)); (case side2 => exact HO_0.out); rintro e w25 ⟨rfl, hy0, hb, hkp⟩; refine ⟨_, rfl, ?_⟩; have n0_ := Aside0.mk (Kd.S_mono (ok' := fun k_ => True) hy0 (fun k_ hk_ => trivial)); have n1_ := Aside0.mk (Kd.R_mono (ok' := fun k_ => some k_ ≠ (.slice Ao21 y542.length co21 : Value).ownBlock) (Kd.R_keptB ((R_sbT (d' := (Kd.slice 4 Kd.bool)) (e' := 40) HO540.out (by decide))) hkp (fun k_ hk_ hs_ => (hk_.2) hs_)) (fun k_ hk_ => hk_.1.1.1)); have n2_ := Aside0.mk (Kd.R_mono (ok' := fun k_ => some k_ ≠ (.slice Ao20 t538.length co20 : Value).ownBlock) (Kd.R_keptB ((R_sbT (d' := (Kd.slice 4 Kd.bool)) (e' := 40) HO544.out (by decide))) hkp (fun k_ hk_ hs_ => (hk_.2) hs_)) (fun k_ hk_ => hk_.1.1.1)); have n3_ := Aside0.mk (Kd.S_mono (ok' := fun k_ => some k_ ≠ (.slice Ao20 t538.length co20 : Value).ownBlock ∧ some k_ ≠ (.slice Ao21 y542.length co21 : Value).ownBlock) (Kd.S_keptB ((S_sbT (d' := (Kd.slice 4 Kd.bool)) (e' := 40) HO550.out (by decide))) hkp (fun k_ hk_ hs_ => (hk_.2) hs_)) (fun k_ hk_ => ⟨hk_.1.1.1, hk_.1.1.2⟩)); have n4_ := Aside0.mk (hb); clear HO_0; clear HO540; clear HO544; clear HO550; clear HB; have HO_0 := n0_; have HO540 := n1_; have HO544 := n2_; have HO550 := n3_; have HB := n4_; clear n0_ n1_ n2_ n3_ n4_; (try clear hb); (try clear hkp); (try clear hy0)))
            go_roundg k1
            case measure => have := HK1.out; omega
            case rel => exact ⟨(t552), (y548), (wrap64 (x6_1 + 1)), (by first | rfl | (simp; done) | (simp [*]; done)), H', ⟨by have := HK1.out; omega⟩, ⟨by (with_reducible repeat (first | apply Kd.S_alloc | apply Kd.S_drewN | apply Kd.S_drew)); exact HO_0.out⟩, ⟨by (with_reducible repeat (first | apply Kd.S_alloc | apply Kd.S_drewN | apply Kd.S_drew)); exact Kd.S_mono HO550.out (fun _ hk => trivial)⟩, ⟨by repeat (first | (with_reducible first | exact HB.out | apply below_alloc | apply pw_below_drewN | apply below_drew1) | exact HB.out)⟩⟩
          · rw [if_neg c11] at H
            exact absurd H (by simp)
        · rw [if_neg c8] at H
          exact absurd H (by simp)
      · rw [if_neg c7] at H
        have c7b0 : decide (x6_1 < (l1.length : Int)) = false := decide_eq_false c7
        clear c7
        obtain rfl := Option.some.inj H
        go_wp2
        go_ret
        exact ⟨_, by first | rfl | (simp [errW_none, errW_some] <;> rfl) | (simp [*, errW_none, errW_some] <;> rfl), by (with_reducible repeat (first | apply Kd.S_alloc | apply Kd.S_drewN | apply Kd.S_drew)); exact HO_5.out, by repeat (first | (with_reducible first | exact HB.out | apply below_alloc | apply pw_below_drewN | apply below_drew1) | exact HB.out)⟩

end Go.Proofs.YtbdlelojlnhhfaaDoor.Pr
