-- Printed by a program of this session's own (wip/tools/pp.py) over the kit's print.py; Lean checks it.
import Derived.Test.YtlckejeglchgmaaPr1
import Derived.Test.YtlckejeglchgmaaPr0
import Derived.Test.YtlckejeglchgmaaPr25
import Derived.Test.YtlckejeglchgmaaPr29
import Derived.Test.YtlckejeglchgmaaPr32
import Derived.Test.YtlckejeglchgmaaPr33
import Derived.Test.YtlckejeglchgmaaPr34
import Derived.Test.YtlckejeglchgmaaPr38
namespace Go.Proofs.Ytlckejeglchgmaa.Pr
open Go.RowKit Go.Proofs.YtlckejeglchgmaaW.PrintWords Go.Proofs.YtlckejeglchgmaaW.PrintLast Go.Proofs.YtlckejeglchgmaaW.PrintMore
attribute [local go_sem] max2_int min2_int max_two min_two max_three min_three max_four min_four   -- for this text's walks alone
set_option linter.unusedVariables false
set_option linter.unusedSimpArgs false

/-! ### arboristlaw07_BuiltRows: function 7 -/
mutual
def arboristlaw07_BuiltRows.j1 : Nat → Bool → List (List Int) → List (List Int) → Option (Bool)
  | 0, _, _, _ => none
  | k + 1, x3, x4, x5 => (arboristref01_Sort.f k x5).bind fun t619 => ((built_Table.f x4 1 (([0, 1] : List Int)) t619 ([] : List Int) 64).bind fun bt625 => ((built_Table.f x4 2 (([0, 1] : List Int)) t619 ([] : List Int) 64).bind fun bt636 => (if bt625.2.2 = 0 then (if bt636.2.2 = 0 then (if (bt625.2.1.length : Int) = (t619.length : Int) then (arboristlaw07_BuiltRows.j2 k x3 t619 ((wrap64 ((bt625.2.1.length : Int) + (bt636.2.1.length : Int))) != 64) bt625.1 bt625.2.1 bt636.1 bt636.2.1) else (arboristlaw07_BuiltRows.j2 k x3 t619 true bt625.1 bt625.2.1 bt636.1 bt636.2.1)) else (arboristlaw07_BuiltRows.j2 k x3 t619 true bt625.1 bt625.2.1 bt636.1 bt636.2.1)) else (arboristlaw07_BuiltRows.j2 k x3 t619 true bt625.1 bt625.2.1 bt636.1 bt636.2.1))))
def arboristlaw07_BuiltRows.j2 : Nat → Bool → List (List Int) → Bool → List Int → List (List Int) → List Int → List (List Int) → Option (Bool)
  | 0, _, _, _, _, _, _, _ => none
  | k + 1, x3, x5, x88, x633000, x633001, x644000, x644001 => if x88 = true then (some false) else (arboristlaw07_BuiltRows.l1 k x3 x5 0 x633000 x633001 x644000 x644001)
def arboristlaw07_BuiltRows.l1 : Nat → Bool → List (List Int) → Int → List Int → List (List Int) → List Int → List (List Int) → Option (Bool)
  | 0, _, _, _, _, _, _, _ => none
  | k + 1, x3, x5, x12, x633000, x633001, x644000, x644001 => if x12 < (x5.length : Int) then (if 0 ≤ x12 then ((arboristref01_Find.f k x644001 (rd_L1 x5 x12)).bind fun bt645 => (if x12 < (x633001.length : Int) then ((arboristref01_Compare.f k (rd_L1 x633001 x12) (rd_L1 x5 x12)).bind fun t649 => (if t649 = 0 then (if bt645.2 = true then (some false) else (arboristlaw07_BuiltRows.l1 k x3 x5 (wrap64 (x12 + 1)) x633000 x633001 x644000 x644001)) else (some false))) else (none))) else (none)) else (some x3)
def arboristlaw07_BuiltRows.l0 : Nat → List (List Int) → Bool → List (List Int) → List (List Int) → Int → Option (Bool)
  | 0, _, _, _, _, _ => none
  | k + 1, x0, x3, x4, x5, x6 => if x6 < (x0.length : Int) then (if x6 < 20 then (if 0 ≤ x6 then ((arboristlaw07_round.f k (rd_L1 x0 x6) 2).bind fun t608 => (if 0 < (t608.length : Int) then (if 1 < (t608.length : Int) then (if x5.length < 5864062014805 then (arboristlaw07_BuiltRows.l0 k x0 x3 x4 (x5 ++ [(([Go.bits .and .i64 (rd t608 0) 7, Go.bits .and .i64 (rd t608 1) 7] : List Int))]) (wrap64 (x6 + 1))) else (none)) else (none)) else (none))) else (none)) else (arboristlaw07_BuiltRows.j1 k x3 x4 x5)) else (arboristlaw07_BuiltRows.j1 k x3 x4 x5)
end
def arboristlaw07_BuiltRows.f (k : Nat) (l0 : List (List Int)) : Option (Bool) := (arboristlaw07_shown.f).bind fun t594 => (arboristlaw07_BuiltRows.l0 k l0 t594 (([(([0, 1, 2, 3, 4, 5, 6, 7] : List Int)), (([0, 1, 2, 3, 4, 5, 6, 7] : List Int))] : List (List Int))) (([] : List (List Int))) 0)
theorem arboristlaw07_BuiltRows.mono_l : ∀ k, (∀ y0 y1 y2, LeO (arboristlaw07_BuiltRows.j1 k y0 y1 y2) (arboristlaw07_BuiltRows.j1 (k + 1) y0 y1 y2)) ∧ (∀ y0 y1 y2 y3 y4 y5 y6, LeO (arboristlaw07_BuiltRows.j2 k y0 y1 y2 y3 y4 y5 y6) (arboristlaw07_BuiltRows.j2 (k + 1) y0 y1 y2 y3 y4 y5 y6)) ∧ (∀ y0 y1 y2 y3 y4 y5 y6, LeO (arboristlaw07_BuiltRows.l1 k y0 y1 y2 y3 y4 y5 y6) (arboristlaw07_BuiltRows.l1 (k + 1) y0 y1 y2 y3 y4 y5 y6)) ∧ (∀ y0 y1 y2 y3 y4, LeO (arboristlaw07_BuiltRows.l0 k y0 y1 y2 y3 y4) (arboristlaw07_BuiltRows.l0 (k + 1) y0 y1 y2 y3 y4))
  | 0 => ⟨fun _ _ _ r h => by simp [arboristlaw07_BuiltRows.j1] at h, fun _ _ _ _ _ _ _ r h => by simp [arboristlaw07_BuiltRows.j2] at h, fun _ _ _ _ _ _ _ r h => by simp [arboristlaw07_BuiltRows.l1] at h, fun _ _ _ _ _ r h => by simp [arboristlaw07_BuiltRows.l0] at h⟩
  | k + 1 => by
    obtain ⟨ih0, ih1, ih2, ih3⟩ := arboristlaw07_BuiltRows.mono_l k
    refine ⟨?_, ?_, ?_, ?_⟩
    all_goals intros
    all_goals (first | unfold arboristlaw07_BuiltRows.j1 | unfold arboristlaw07_BuiltRows.j2 | unfold arboristlaw07_BuiltRows.l1 | unfold arboristlaw07_BuiltRows.l0)
    all_goals repeat' first
    | (with_reducible exact ih0 _ _ _)
    | (with_reducible exact ih1 _ _ _ _ _ _ _)
    | (with_reducible exact ih2 _ _ _ _ _ _ _)
    | (with_reducible exact ih3 _ _ _ _ _)
    | (with_reducible exact arboristlaw07_round.mono _ _ _)
    | (with_reducible exact arboristref01_Compare.mono _ _ _)
    | (with_reducible exact arboristref01_Find.mono _ _ _)
    | (with_reducible exact arboristref01_Sort.mono _ _)
    | (with_reducible exact LeO.refl _)
    | (with_reducible exact LeO.none _)
    | (with_reducible refine LeO.ite ?_ ?_)
    | (with_reducible refine LeO.bind ?_ (fun _ => ?_))
    | exact ih0 _ _ _
    | exact ih1 _ _ _ _ _ _ _
    | exact ih2 _ _ _ _ _ _ _
    | exact ih3 _ _ _ _ _
    | exact arboristlaw07_round.mono _ _ _
    | exact arboristref01_Compare.mono _ _ _
    | exact arboristref01_Find.mono _ _ _
    | exact arboristref01_Sort.mono _ _
    | exact LeO.none _
    | refine LeO.ite ?_ ?_
    | refine LeO.bind ?_ (fun _ => ?_)
theorem arboristlaw07_BuiltRows.mono : ∀ a0 k, LeO (arboristlaw07_BuiltRows.f k a0) (arboristlaw07_BuiltRows.f (k + 1) a0) := by
  intro a0 k
  obtain ⟨ih0, ih1, ih2, ih3⟩ := arboristlaw07_BuiltRows.mono_l k
  unfold arboristlaw07_BuiltRows.f
  repeat' first
      | (with_reducible exact ih0 _ _ _)
      | (with_reducible exact ih1 _ _ _ _ _ _ _)
      | (with_reducible exact ih2 _ _ _ _ _ _ _)
      | (with_reducible exact ih3 _ _ _ _ _)
      | (with_reducible exact arboristlaw07_round.mono _ _ _)
      | (with_reducible exact arboristref01_Compare.mono _ _ _)
      | (with_reducible exact arboristref01_Find.mono _ _ _)
      | (with_reducible exact arboristref01_Sort.mono _ _)
      | (with_reducible exact LeO.refl _)
      | (with_reducible exact LeO.none _)
      | (with_reducible refine LeO.ite ?_ ?_)
      | (with_reducible refine LeO.bind ?_ (fun _ => ?_))
      | exact ih0 _ _ _
      | exact ih1 _ _ _ _ _ _ _
      | exact ih2 _ _ _ _ _ _ _
      | exact ih3 _ _ _ _ _
      | exact arboristlaw07_round.mono _ _ _
      | exact arboristref01_Compare.mono _ _ _
      | exact arboristref01_Find.mono _ _ _
      | exact arboristref01_Sort.mono _ _
      | exact LeO.none _
      | refine LeO.ite ?_ ?_
      | refine LeO.bind ?_ (fun _ => ?_)
def arboristlaw07_BuiltRows.T8 : Bool × List (List Nat × List Nat) := (true, [([], []), ([], []), ([1], [1]), ([2], [2]), ([3], [3]), ([], []), ([5], [5]), ([6], [6]), ([7], [7]), ([4, 8], [4, 8]), ([9], [9]), ([0, 10], [0, 10]), ([11, 11, 0, 1, 2, 3, 4, 5, 6, 7, 8, 9, 10, 11], [0, 11])])
def arboristlaw07_BuiltRows.B8 : List Nat := [0, 0, 2, 6, 14, 0, 32, 96, 224, 510, 1022, 2047, 4095]
theorem arboristlaw07_BuiltRows.tab8 : rtab .any (opsOf Try.f7 8) = arboristlaw07_BuiltRows.T8 := by kernel_rfl
theorem arboristlaw07_BuiltRows.bits8 : waitsOk arboristlaw07_BuiltRows.T8.2 arboristlaw07_BuiltRows.B8 = true := by kernel_rfl
def arboristlaw07_BuiltRows.T17 : Bool × List (List Nat × List Nat) := (true, [([], []), ([0], [0]), ([], []), ([], []), ([2, 3], [2, 3]), ([4], [4]), ([1, 5], [1, 5]), ([6], [6]), ([7], [7]), ([7], [7]), ([8, 6, 0, 1, 2, 3, 4, 5, 6, 7, 8], [8]), ([9, 10, 0, 1, 2, 3, 4, 5, 6, 7, 8, 9, 10], [9])])
def arboristlaw07_BuiltRows.B17 : List Nat := [0, 1, 0, 0, 12, 28, 63, 127, 255, 255, 511, 2047]
theorem arboristlaw07_BuiltRows.tab17 : rtab .any (opsOf Try.f7 17) = arboristlaw07_BuiltRows.T17 := by kernel_rfl
theorem arboristlaw07_BuiltRows.bits17 : waitsOk arboristlaw07_BuiltRows.T17.2 arboristlaw07_BuiltRows.B17 = true := by kernel_rfl
def arboristlaw07_BuiltRows.T18 : Bool × List (List Nat × List Nat) := (true, [([], []), ([0], [0]), ([], []), ([1, 2], [1, 2]), ([3], [3]), ([], []), ([], []), ([5, 6], [5, 6]), ([7], [7]), ([4, 8], [4, 8]), ([9], [9]), ([10, 9], [10]), ([11], [11]), ([11, 12], [11, 12])])
def arboristlaw07_BuiltRows.B18 : List Nat := [0, 1, 0, 7, 15, 0, 0, 96, 224, 511, 1023, 2047, 4095, 8191]
theorem arboristlaw07_BuiltRows.tab18 : rtab .any (opsOf Try.f7 18) = arboristlaw07_BuiltRows.T18 := by kernel_rfl
theorem arboristlaw07_BuiltRows.bits18 : waitsOk arboristlaw07_BuiltRows.T18.2 arboristlaw07_BuiltRows.B18 = true := by kernel_rfl
set_option maxHeartbeats 8000000 in
set_option maxRecDepth 100000 in
theorem arboristlaw07_BuiltRows.calls (k : Nat) (A0 : Option Addr) (c0 : Nat) (l0 : List (List Int)) (r : Bool) (w : World) (hr0 : Kd.C (Kd.slice 3 (Kd.int .i64)) w A0 l0.length l0) (hc0 : l0.length ≤ c0) (hT : r = true) (h : arboristlaw07_BuiltRows.f k l0 = some r) :
    Calls Try.prog 7 #[.slice A0 l0.length c0] w fun e w' => e = .returned (.bool r) ∧ Below w.heap.size w w' := by
  have HT_ := Aside0.mk (show r = true from hT)
  clear hT
  have hu40 := Try.underlying40
  have hu28 := Try.underlying28
  have HR0 := Aside0.mk hr0
  have HC0 := Aside0.mk hc0
  clear hr0 hc0
  have HB := Aside0.mk (Below.refl w.heap.size w)
  have H : ((arboristlaw07_shown.f).bind fun t594 => (arboristlaw07_BuiltRows.l0 k l0 t594 (([(([0, 1, 2, 3, 4, 5, 6, 7] : List Int)), (([0, 1, 2, 3, 4, 5, 6, 7] : List Int))] : List (List Int))) (([] : List (List Int))) 0)) = some r := h
  clear h
  replace H := Option.bind_eq_some_iff.mp H
  obtain ⟨t594, A20, H⟩ := H
  replace H : (arboristlaw07_BuiltRows.l0 k l0 t594 (([(([0, 1, 2, 3, 4, 5, 6, 7] : List Int)), (([0, 1, 2, 3, 4, 5, 6, 7] : List Int))] : List (List Int))) (([] : List (List Int))) 0) = some r := H
  have A2 := Aside0.mk A20
  clear A20
  obtain ⟨y595, hy595⟩ : ∃ y_ : List Int, y_ = (([0, 1, 2, 3, 4, 5, 6, 7] : List Int)) := ⟨_, rfl⟩
  replace H : (arboristlaw07_BuiltRows.l0 k l0 t594 (([y595, (([0, 1, 2, 3, 4, 5, 6, 7] : List Int))] : List (List Int))) (([] : List (List Int))) 0) = some r := by first | (rw [hy595]; with_reducible exact H) | (have H2_ := (Option.bind_some _ _).symm.trans H; rw [hy595]; with_reducible exact H2_) | (have H2_ := (Option.bind_some _ _).symm.trans H; with_reducible exact H2_) | with_reducible exact H | (rw [hy595]; exact H) | exact H
  have Ny595 := Aside0.mk hy595
  clear hy595
  obtain ⟨y598, hy598⟩ : ∃ y_ : List Int, y_ = (([0, 1, 2, 3, 4, 5, 6, 7] : List Int)) := ⟨_, rfl⟩
  replace H : (arboristlaw07_BuiltRows.l0 k l0 t594 (([y595, y598] : List (List Int))) (([] : List (List Int))) 0) = some r := by first | (rw [hy598]; with_reducible exact H) | (have H2_ := (Option.bind_some _ _).symm.trans H; rw [hy598]; with_reducible exact H2_) | (have H2_ := (Option.bind_some _ _).symm.trans H; with_reducible exact H2_) | with_reducible exact H | (rw [hy598]; exact H) | exact H
  have Ny598 := Aside0.mk hy598
  clear hy598
  obtain ⟨y601, hy601⟩ : ∃ y_ : List (List Int), y_ = (([y595, y598] : List (List Int))) := ⟨_, rfl⟩
  replace H : (arboristlaw07_BuiltRows.l0 k l0 t594 y601 (([] : List (List Int))) 0) = some r := by first | (rw [hy601]; with_reducible exact H) | (have H2_ := (Option.bind_some _ _).symm.trans H; rw [hy601]; with_reducible exact H2_) | (have H2_ := (Option.bind_some _ _).symm.trans H; with_reducible exact H2_) | with_reducible exact H | (rw [hy601]; exact H) | exact H
  have Ny601 := Aside0.mk hy601
  clear hy601
  obtain ⟨y604, hy604⟩ : ∃ y_ : List (List Int), y_ = (([] : List (List Int))) := ⟨_, rfl⟩
  replace H : (arboristlaw07_BuiltRows.l0 k l0 t594 y601 y604 0) = some r := by first | (rw [hy604]; with_reducible exact H) | (have H2_ := (Option.bind_some _ _).symm.trans H; rw [hy604]; with_reducible exact H2_) | (have H2_ := (Option.bind_some _ _).symm.trans H; with_reducible exact H2_) | with_reducible exact H | (rw [hy604]; exact H) | exact H
  have Ny604 := Aside0.mk hy604
  clear hy604
  have HC3 := Aside0.mk H
  clear H
  go_enter Try.func7, Try.ntmps7
  go_upto_block 0 with (first | ((with_reducible refine gate_callee (f := 9) rfl ?_); refine goesL_ (some 15) rfl rfl Try.func9 (by kernel_rfl) rfl #[] rfl (by (try simp only [List.map_toArray, List.map_cons, List.map_nil]); first | done | rfl | (simp only [List.length_drop, List.length_take]; rfl)) ?_; (with_reducible refine (arboristlaw07_shown.calls  t594 _ A2.out).mono ?_); rintro e w4 ⟨rfl, hb⟩; refine ⟨_, rfl, ?_⟩; have n0_ := Aside0.mk (below_step (by repeat (first | (with_reducible first | exact HB.out | apply below_alloc | apply pw_below_drewN | apply below_drew1) | exact HB.out)) hb); clear HB; have HB := n0_; clear n0_; (try clear hb); (try clear hb2); (try clear hk); (try clear hi)) | ((with_reducible refine gate_dst (N := 16) rfl ?_); (try (refine gate_guard (by rfl) ?_; dsimp only)); refine Kd.R_lit (Kd.int .i64) _ 3 ?hg (N := 16) ?hd (xs := ([0, 1, 2, 3, 4, 5, 6, 7] : List Int)) (inner := [.int .i64 0, .int .i64 1, .int .i64 2, .int .i64 3, .int .i64 4, .int .i64 5, .int .i64 6, .int .i64 7]) (ok := fun _ => True) (okp := fun _ => True) ?hr ?hp (fun _ hk => hk) trivial (Below.refl _ _) (Nat.le_refl _) (by simp) ?_; (case hd => rfl); (case hg => rfl); (case hr => first | (go_simp; done) | (go_simp; rfl)); (case hp => exact (Reps.one (show Kd.M (Kd.int .i64) _ _ _ 0 [.int .i64 0] from rfl) (Reps.one (show Kd.M (Kd.int .i64) _ _ _ 1 [.int .i64 1] from rfl) (Reps.one (show Kd.M (Kd.int .i64) _ _ _ 2 [.int .i64 2] from rfl) (Reps.one (show Kd.M (Kd.int .i64) _ _ _ 3 [.int .i64 3] from rfl) (Reps.one (show Kd.M (Kd.int .i64) _ _ _ 4 [.int .i64 4] from rfl) (Reps.one (show Kd.M (Kd.int .i64) _ _ _ 5 [.int .i64 5] from rfl) (Reps.one (show Kd.M (Kd.int .i64) _ _ _ 6 [.int .i64 6] from rfl) (Reps.one (show Kd.M (Kd.int .i64) _ _ _ 7 [.int .i64 7] from rfl) (Reps.none _ _)))))))))); intro v596 w5 ho6 hb hg_ hnew_; clear hg_ hnew_; (first | rw [← Ny595.out] at ho6 | (simp only [Int.reduceToNat] at ho6; rw [← Ny595.out] at ho6)); have n0_ := Aside0.mk (Kd.R_lower ho6 (below_size (by repeat (first | (with_reducible first | exact HB.out | apply below_alloc | apply pw_below_drewN | apply below_drew1) | exact HB.out)))); have n1_ := Aside0.mk (below_step (by repeat (first | (with_reducible first | exact HB.out | apply below_alloc | apply pw_below_drewN | apply below_drew1) | exact HB.out)) hb); clear HB; have HO597 := n0_; have HB := n1_; clear n0_ n1_; clear hb ho6) | ((with_reducible refine gate_dst (N := 17) rfl ?_); (try (refine gate_guard (by rfl) ?_; dsimp only)); refine Kd.R_lit (Kd.int .i64) _ 3 ?hg (N := 17) ?hd (xs := ([0, 1, 2, 3, 4, 5, 6, 7] : List Int)) (inner := [.int .i64 0, .int .i64 1, .int .i64 2, .int .i64 3, .int .i64 4, .int .i64 5, .int .i64 6, .int .i64 7]) (ok := fun _ => True) (okp := fun _ => True) ?hr ?hp (fun _ hk => hk) trivial (Below.refl _ _) (Nat.le_refl _) (by simp) ?_; (case hd => rfl); (case hg => rfl); (case hr => first | (go_simp; done) | (go_simp; rfl)); (case hp => exact (Reps.one (show Kd.M (Kd.int .i64) _ _ _ 0 [.int .i64 0] from rfl) (Reps.one (show Kd.M (Kd.int .i64) _ _ _ 1 [.int .i64 1] from rfl) (Reps.one (show Kd.M (Kd.int .i64) _ _ _ 2 [.int .i64 2] from rfl) (Reps.one (show Kd.M (Kd.int .i64) _ _ _ 3 [.int .i64 3] from rfl) (Reps.one (show Kd.M (Kd.int .i64) _ _ _ 4 [.int .i64 4] from rfl) (Reps.one (show Kd.M (Kd.int .i64) _ _ _ 5 [.int .i64 5] from rfl) (Reps.one (show Kd.M (Kd.int .i64) _ _ _ 6 [.int .i64 6] from rfl) (Reps.one (show Kd.M (Kd.int .i64) _ _ _ 7 [.int .i64 7] from rfl) (Reps.none _ _)))))))))); intro v599 w7 ho8 hb hg_ hnew_; clear hg_ hnew_; (first | rw [← Ny598.out] at ho8 | (simp only [Int.reduceToNat] at ho8; rw [← Ny598.out] at ho8)); have n0_ := Aside0.mk (Kd.R_elder' (by (with_reducible repeat (first | apply Kd.R_alloc | apply Kd.R_drewN | apply Kd.R_drew)); exact HO597.out) (Kd.R_base ho8) hb); have n1_ := Aside0.mk (Kd.R_lower (Kd.R_new' ho8 (Kd.R_lt (by (with_reducible repeat (first | apply Kd.R_alloc | apply Kd.R_drewN | apply Kd.R_drew)); exact HO597.out))) (below_size (by repeat (first | (with_reducible first | exact HB.out | apply below_alloc | apply pw_below_drewN | apply below_drew1) | exact HB.out)))); have n2_ := Aside0.mk (below_step (by repeat (first | (with_reducible first | exact HB.out | apply below_alloc | apply pw_below_drewN | apply below_drew1) | exact HB.out)) hb); clear HO597; clear HB; have HO597 := n0_; have HO600 := n1_; have HB := n2_; clear n0_ n1_ n2_; clear hb ho8; obtain ⟨Ao9, co9, eo9⟩ := Kd.R_slice HO597.out; subst eo9; obtain ⟨Ao10, co10, eo10⟩ := Kd.R_slice HO600.out; subst eo10) | ((with_reducible refine gate_dst (N := 18) rfl ?_); (try (refine gate_guard (by rfl) ?_; dsimp only)); refine Kd.N_lit (Kd.slice 3 (Kd.int .i64)) _ 23 ?hg (N' := 18) ?hd (xs := ([y595, y598] : List (List Int))) (inner := [.slice Ao9 y595.length co9, .slice Ao10 y598.length co10]) (ok := (fun _ => True)) (okp := (fun _ => True)) ?hr ?hp (fun _ hk => hk) ((show ∀ k_, w7.heap.size ≤ k_ → (fun _ => True) k_ from fun k_ hk => trivial) _ (Nat.le_refl _)) (Below.refl _ _) (Nat.le_refl _) (by simp) ?_; (case hd => rfl); (case hg => rfl); (case hr => first | (go_simp; done) | (go_simp; rfl)); (case hp => exact (Reps.one (show Kd.FK (Kd.slice 3 (Kd.int .i64)) _ _ y595 [.slice Ao9 y595.length co9] from (Kd.FK_slice_mk (Kd.R_reads' (Kd.R_mono (ok' := (fun _ => True)) (HO597.out) (fun k_ hk => trivial))).2.1 (Kd.R_F (Kd.R_mono (ok' := (fun _ => True)) (HO597.out) (fun k_ hk => trivial))))) (Reps.one (show Kd.FK (Kd.slice 3 (Kd.int .i64)) _ _ y598 [.slice Ao10 y598.length co10] from (Kd.FK_slice_mk (Kd.R_reads' (Kd.R_mono (ok' := (fun _ => True)) (HO600.out) (fun k_ hk => trivial))).2.1 (Kd.R_F (Kd.R_mono (ok' := (fun _ => True)) (HO600.out) (fun k_ hk => trivial))))) (Reps.none _ _)))); intro v602 w11 ho12 hb hg_ hnew_; clear hg_ hnew_; (first | rw [← Ny601.out] at ho12 | (simp only [Int.reduceToNat] at ho12; rw [← Ny601.out] at ho12)); have n0_ := Aside0.mk (Kd.N_lower ho12 (below_size (by repeat (first | (with_reducible first | exact HB.out | apply below_alloc | apply pw_below_drewN | apply below_drew1) | exact HB.out)))); have n1_ := Aside0.mk (below_step (by repeat (first | (with_reducible first | exact HB.out | apply below_alloc | apply pw_below_drewN | apply below_drew1) | exact HB.out)) hb); clear HB; clear HO597; clear HO600; have HO603 := n0_; have HB := n1_; clear n0_ n1_; clear hb ho12) | ((with_reducible refine gate_dst (N := 19) rfl ?_); (try (refine gate_guard (by rfl) ?_; dsimp only)); refine Kd.N_lit (Kd.slice 3 (Kd.int .i64)) _ 23 ?hg (N' := 19) ?hd (xs := ([] : List (List Int))) (inner := []) (ok := (fun k_ => some k_ ≠ (v602 : Value).ownBlock)) (okp := (fun k_ => some k_ ≠ (v602 : Value).ownBlock)) ?hr ?hp (fun _ hk => hk) ((show ∀ k_, w11.heap.size ≤ k_ → (fun k_ => some k_ ≠ (v602 : Value).ownBlock) k_ from fun k_ hk => Kd.fresh' (Kd.N_lt (by (with_reducible repeat (first | apply Kd.N_alloc | apply Kd.N_drewN | apply Kd.N_drew)); exact HO603.out)) k_ hk) _ (Nat.le_refl _)) (Below.refl _ _) (Nat.le_refl _) (by simp) ?_; (case hd => rfl); (case hg => rfl); (case hr => first | (go_simp; done) | (go_simp; rfl)); (case hp => exact (Reps.none _ _)); intro v605 w13 ho14 hb hg_ hnew_; clear hg_ hnew_; (first | rw [← Ny604.out] at ho14 | (simp only [Int.reduceToNat] at ho14; rw [← Ny604.out] at ho14)); have n0_ := Aside0.mk (Kd.N_elder' (by (with_reducible repeat (first | apply Kd.N_alloc | apply Kd.N_drewN | apply Kd.N_drew)); exact HO603.out) (by first | exact Kd.N_base ho14 | exact Kd.N_base (Kd.S_N ho14)) hb); have n1_ := Aside0.mk (Kd.N_lower ho14 (below_size (by repeat (first | (with_reducible first | exact HB.out | apply below_alloc | apply pw_below_drewN | apply below_drew1) | exact HB.out)))); have n2_ := Aside0.mk (below_step (by repeat (first | (with_reducible first | exact HB.out | apply below_alloc | apply pw_below_drewN | apply below_drew1) | exact HB.out)) hb); clear HO603; clear HB; have HO603 := n0_; have HO606 := n1_; have HB := n2_; clear n0_ n1_ n2_; clear hb ho14))
  (try simp only [Act.put, List.setIfInBounds_toArray, List.set_cons_zero, List.set_cons_succ])
  go_cut [5] (fun v5 wc => ∃ (kq : Nat) (x5_2 : List (List Int)), Aside0 (arboristlaw07_BuiltRows.j1 kq t594 y601 x5_2 = some r) ∧ Aside0 (kq ≤ k) ∧ Aside0 (Kd.N (Kd.slice 3 (Kd.int .i64)) 23 wc w.heap.size (fun k_ => some k_ ≠ (v5 : Value).ownBlock) v602 y601) ∧ Aside0 (Kd.N (Kd.slice 3 (Kd.int .i64)) 23 wc w.heap.size (fun k_ => some k_ ≠ (v602 : Value).ownBlock) v5 x5_2) ∧ Aside0 (Below w.heap.size w wc))
  case first =>
    have H := HC3.out
    clear HC3
    have H' := Aside0.mk H
    clear H
    go_wp2
    go_loopg [5, 6] k (fun kq v5 v6 w' => ∃ (x5_1 : List (List Int)) (x6_1 : Int), v6 = .int .i64 x6_1 ∧ Aside0 (arboristlaw07_BuiltRows.l0 kq l0 t594 y601 x5_1 x6_1 = some r) ∧ Aside0 (kq ≤ k) ∧ Aside0 (Kd.N (Kd.slice 3 (Kd.int .i64)) 23 w' w.heap.size (fun k_ => some k_ ≠ (v5 : Value).ownBlock) v602 y601) ∧ Aside0 (Kd.N (Kd.slice 3 (Kd.int .i64)) 23 w' w.heap.size (fun k_ => some k_ ≠ (v602 : Value).ownBlock) v5 x5_1) ∧ Aside0 (Below w.heap.size w w'))
    case atStart => exact ⟨(y604), (0), (by first | rfl | (simp; done) | (simp [*]; done)), H', ⟨Nat.le_refl _⟩, ⟨by (with_reducible repeat (first | apply Kd.N_alloc | apply Kd.N_drewN | apply Kd.N_drew)); exact Kd.N_mono HO603.out (fun _ hk => hk.2)⟩, ⟨by (with_reducible repeat (first | apply Kd.N_alloc | apply Kd.N_drewN | apply Kd.N_drew)); exact HO606.out⟩, ⟨by repeat (first | (with_reducible first | exact HB.out | apply below_alloc | apply pw_below_drewN | apply below_drew1) | exact HB.out)⟩⟩
    case round =>
      clear H'
      try clear p2
      try clear c7
      try clear c9
      obtain ⟨x5_1, x6_1, rfl, HA, HK1, HO_4, HO_5, HB⟩ := hrel
      cases gk with
      | zero => exact absurd HA.out (by simp [arboristlaw07_BuiltRows.l0])
      | succ k1 =>
        have H := HA.out
        clear HA
        simp only [arboristlaw07_BuiltRows.l0] at H
        by_cases c15 : x6_1 < (l0.length : Int)
        · rw [if_pos c15] at H
          have c15b0 : decide (x6_1 < (l0.length : Int)) = true := decide_eq_true c15
          clear c15
          (first | rw [c15b0] | (simp only [i64_w, i32_w]; rw [c15b0]) | skip)
          by_cases c16 : x6_1 < 20
          · rw [if_pos c16] at H
            have c16b0 : decide (x6_1 < 20) = true := decide_eq_true c16
            clear c16
            by_cases c17 : 0 ≤ x6_1
            · rw [if_pos c17] at H
              have c17b0 : decide (0 ≤ x6_1) = true := decide_eq_true c17
              clear c17
              replace H := Option.bind_eq_some_iff.mp H
              obtain ⟨t608, A180, H⟩ := H
              replace H : (if 0 < (t608.length : Int) then (if 1 < (t608.length : Int) then (if x5_1.length < 5864062014805 then (arboristlaw07_BuiltRows.l0 k1 l0 t594 y601 (x5_1 ++ [(([Go.bits .and .i64 (rd t608 0) 7, Go.bits .and .i64 (rd t608 1) 7] : List Int))]) (wrap64 (x6_1 + 1))) else (none)) else (none)) else (none)) = some r := H
              have A18 := Aside0.mk A180
              clear A180
              by_cases c19 : 0 < (t608.length : Int)
              · rw [if_pos c19] at H
                have c19b0 : decide (0 < (t608.length : Int)) = true := decide_eq_true c19
                have c19b1 : decide (0 < t608.length) = true := decide_eq_true (by omega)
                clear c19
                by_cases c20 : 1 < (t608.length : Int)
                · rw [if_pos c20] at H
                  have c20b0 : decide (1 < (t608.length : Int)) = true := decide_eq_true c20
                  have c20b1 : decide (1 < t608.length) = true := decide_eq_true (by omega)
                  clear c20
                  obtain ⟨y613, hy613⟩ : ∃ y_ : List Int, y_ = (([Go.bits .and .i64 (rd t608 0) 7, Go.bits .and .i64 (rd t608 1) 7] : List Int)) := ⟨_, rfl⟩
                  replace H : (if x5_1.length < 5864062014805 then (arboristlaw07_BuiltRows.l0 k1 l0 t594 y601 (x5_1 ++ [y613]) (wrap64 (x6_1 + 1))) else (none)) = some r := by first | (rw [hy613]; with_reducible exact H) | (have H2_ := (Option.bind_some _ _).symm.trans H; rw [hy613]; with_reducible exact H2_) | (have H2_ := (Option.bind_some _ _).symm.trans H; with_reducible exact H2_) | with_reducible exact H | (rw [hy613]; exact H) | exact H
                  have Ny613 := Aside0.mk hy613
                  clear hy613
                  by_cases c21 : x5_1.length < 5864062014805
                  · rw [if_pos c21] at H
                    have LMc21 := Aside0.mk c21
                    clear c21
                    obtain ⟨y616, hy616⟩ : ∃ y_ : List (List Int), y_ = (x5_1 ++ [y613]) := ⟨_, rfl⟩
                    replace H : (arboristlaw07_BuiltRows.l0 k1 l0 t594 y601 y616 (wrap64 (x6_1 + 1))) = some r := by first | (rw [hy616]; with_reducible exact H) | (have H2_ := (Option.bind_some _ _).symm.trans H; rw [hy616]; with_reducible exact H2_) | (have H2_ := (Option.bind_some _ _).symm.trans H; with_reducible exact H2_) | with_reducible exact H | (rw [hy616]; exact H) | exact H
                    have Ny616 := Aside0.mk hy616
                    clear hy616
                    have H' := Aside0.mk H
                    clear H
                    have p607 : 0 ≤ (x6_1 : Int) := of_decide_eq_true (by first | (with_reducible assumption) | assumption)
                    have q607 : x6_1 < (l0.length : Int) := of_decide_eq_true (by first | (with_reducible assumption) | assumption)
                    obtain ⟨ad607, A607_0, c607_0, e607, hx607_0, hl607_0, hi607_0⟩ := at_L1 HR0.out x6_1 p607 q607
                    cases e607
                    replace hx607_0 := (HB.out.cell (World.block_lt_of_cell? w _ hx607_0)).trans hx607_0
                    have HR607_0 := Aside0.mk hi607_0
                    have HC607_0 := Aside0.mk hl607_0
                    clear hi607_0 hl607_0
                    replace p607 := eq_true p607
                    replace q607 := eq_true q607
                    try go_wp2_with (first | ((with_reducible refine gate_callee (f := 14) rfl ?_); refine goesL_ (some 34) rfl rfl Try.func14 (by kernel_rfl) rfl #[.slice A607_0 (rd_L1 l0 x6_1).length c607_0, .int .i64 2] rfl (by (try simp only [List.map_toArray, List.map_cons, List.map_nil]); first | done | rfl | (simp only [List.length_drop, List.length_take]; rfl)) ?_; (with_reducible refine (arboristlaw07_round.calls k1 _ _ (rd_L1 l0 x6_1) 2 t608 _ ?side1 ?side2 A18.out).mono ?_); (case side1 => repeat (first | exact (Kd.C_below HR607_0.out HB.out) | (with_reducible refine Kd.C_alloc ?_ _) | (with_reducible refine Kd.C_drewN ?_ _) | (with_reducible refine Kd.C_drew ?_))); (case side2 => exact HC607_0.out); rintro e w22 ⟨v609, rfl, ho0, hb⟩; refine ⟨_, rfl, ?_⟩; have n0_ := Aside0.mk (Kd.N_elder' (by (with_reducible repeat (first | apply Kd.N_alloc | apply Kd.N_drewN | apply Kd.N_drew)); exact HO_4.out) (Kd.R_base ho0) hb); have n1_ := Aside0.mk (Kd.N_elder' (by (with_reducible repeat (first | apply Kd.N_alloc | apply Kd.N_drewN | apply Kd.N_drew)); exact HO_5.out) (Kd.R_base ho0) hb); have n2_ := Aside0.mk (Kd.R_lower ho0 (below_size (by repeat (first | (with_reducible first | exact HB.out | apply below_alloc | apply pw_below_drewN | apply below_drew1) | exact HB.out)))); have n3_ := Aside0.mk (below_step (by repeat (first | (with_reducible first | exact HB.out | apply below_alloc | apply pw_below_drewN | apply below_drew1) | exact HB.out)) hb); clear HO_4; clear HO_5; clear HB; have HO_4 := n0_; have HO_5 := n1_; have HO610 := n2_; have HB := n3_; clear n0_ n1_ n2_ n3_; (try clear hb); (try clear hb2); (try clear hk); (try clear hi); (try clear ho0)))
                    have n0_ := Aside0.mk (Kd.N_drew HO_4.out)
                    have n1_ := Aside0.mk (Kd.N_drew HO_5.out)
                    have n2_ := Aside0.mk (Kd.R_drew HO610.out)
                    have n3_ := Aside0.mk (below_drew1 HB.out)
                    clear HO_4
                    clear HO_5
                    clear HO610
                    clear HB
                    have HO_4 := n0_
                    have HO_5 := n1_
                    have HO610 := n2_
                    have HB := n3_
                    clear n0_ n1_ n2_ n3_
                    obtain ⟨Ao24, co24, eo24⟩ := Kd.R_slice HO610.out
                    (first | subst eo24 | (injection eo24 with f1_ f2_ f3_; have f4_ := f1_.symm; have f5_ := f3_.symm; clear f1_ f2_ f3_; subst f4_; subst f5_))
                    have p611 : 0 ≤ (0 : Int) := (by omega)
                    have q611 : 0 < (t608.length : Int) := of_decide_eq_true (by first | (with_reducible assumption) | assumption)
                    obtain ⟨ad611, e611, hx611_0⟩ := Kd.at_int (Kd.R_reads' HO610.out).2.2 0 p611 q611
                    cases e611
                    have qi611 : (0 < t608.length) = True := eq_true (by omega)
                    (try rw [show ((0 : Int)).toNat = 0 from rfl] at hx611_0)
                    (try rw [Addr.add_zero'] at hx611_0)
                    replace p611 := eq_true p611
                    replace q611 := eq_true q611
                    have p612 : 0 ≤ (1 : Int) := (by omega)
                    have q612 : 1 < (t608.length : Int) := of_decide_eq_true (by first | (with_reducible assumption) | assumption)
                    obtain ⟨ad612, e612, hx612_0⟩ := Kd.at_int (Kd.R_reads' HO610.out).2.2 1 p612 q612
                    obtain rfl : ad611 = ad612 := (by injection e612)
                    (try simp only [show (1 : Int).toNat = 1 from rfl, Nat.reduceMul, Nat.reduceEqDiff, Go.Addr.add, ↓reduceIte] at hx612_0)
                    have qi612 : (1 < t608.length) = True := eq_true (by omega)
                    (try rw [show ((1 : Int)).toNat = 1 from rfl] at hx612_0)
                    replace p612 := eq_true p612
                    replace q612 := eq_true q612
                    refine start_ (n := 13) (S := fun w' => w'.cell? ad611 = some (.int .i64 (rd t608 0)) ∧ w'.cell? ⟨ad611.block, ad611.off + 1, none⟩ = some (.int .i64 (rd t608 1))) (ds := [10, 11]) (bs 13 0) (by kernel_rfl) rfl rfl ⟨hx611_0, hx612_0⟩ (fun hHeld => ?_); refine with_tabW arboristlaw07_BuiltRows.tab8 arboristlaw07_BuiltRows.bits8 (fun HT_ HW_ => ?_)
                    generalize w22.drew = w23 at HO_4 HO_5 HO610 HB hx611_0 hx612_0 hHeld ⊢
                    refine pure_ (i := 0) (N := some 35) (v := ?_) (a' := ?_) (bs 13 1) rfl rfl (any_of HT_.out (by kernel_rfl)) (fun _ _ _ h => h) (Or.inl ⟨by rfl, ?_⟩) ?_ ?_
                    rotate_left; (intro w'; go_simp; with_reducible rfl); rotate_left; (simp only [Act.put, List.setIfInBounds_toArray, List.set_cons_zero, List.set_cons_succ, i64_w, i32_w]; rfl)
                    refine pure_ (i := 1) (N := some 36) (v := ?_) (a' := ?_) (bs 13 3) rfl rfl (any_of HT_.out (by kernel_rfl)) (fun _ _ _ h => h) (Or.inl ⟨by rfl, ?_⟩) ?_ ?_
                    rotate_left; (intro w'; go_simp; with_reducible rfl); rotate_left; (simp only [Act.put, List.setIfInBounds_toArray, List.set_cons_zero, List.set_cons_succ, i64_w, i32_w]; rfl)
                    refine pure_ (i := 2) (N := some 37) (v := ?_) (a' := ?_) (bs 13 7) rfl rfl (any_of HT_.out (by kernel_rfl)) (fun _ _ _ h => h) (Or.inl ⟨by rfl, ?_⟩) ?_ ?_
                    rotate_left; (intro w'; go_simp; with_reducible rfl); rotate_left; (simp only [Act.put, List.setIfInBounds_toArray, List.set_cons_zero, List.set_cons_succ, i64_w, i32_w]; rfl)
                    refine pure_ (i := 5) (N := some 40) (v := ?_) (a' := ?_) (bs 13 39) rfl rfl (any_of HT_.out (by kernel_rfl)) (fun _ _ _ h => h) (Or.inl ⟨by rfl, ?_⟩) ?_ ?_
                    rotate_left; (intro w'; go_simp; with_reducible rfl); rotate_left; (simp only [Act.put, List.setIfInBounds_toArray, List.set_cons_zero, List.set_cons_succ, i64_w, i32_w]; rfl)
                    refine pure_ (i := 6) (N := some 41) (v := ?_) (a' := ?_) (bs 13 103) rfl rfl (any_of HT_.out (by kernel_rfl)) (fun _ _ _ h => h) (Or.inl ⟨by rfl, ?_⟩) ?_ ?_
                    rotate_left; (intro w'; go_simp; with_reducible rfl); rotate_left; (simp only [Act.put, List.setIfInBounds_toArray, List.set_cons_zero, List.set_cons_succ, i64_w, i32_w]; rfl)
                    refine take_ (i := 3) (N := some 38) (v := ?_) (a' := ?_) (bs 13 111) rfl rfl (take_ofW HT_.out HW_.out (by kernel_rfl)) (fun _ _ _ h => h) (Or.inl ⟨by rfl, ?_⟩) hHeld ?_ ?_
                    rotate_left
                    · rintro w' ⟨s0, s1⟩
                      go_simp
                      with_reducible rfl
                    rotate_left; (simp only [Act.put, List.setIfInBounds_toArray, List.set_cons_zero, List.set_cons_succ, i64_w, i32_w]; rfl)
                    refine pure_ (i := 4) (N := some 39) (v := ?_) (a' := ?_) (bs 13 127) rfl rfl (any_of HT_.out (by kernel_rfl)) (fun _ _ _ h => h) (Or.inl ⟨by rfl, ?_⟩) ?_ ?_
                    rotate_left; (intro w'; go_simp; with_reducible rfl); rotate_left; (simp only [Act.put, List.setIfInBounds_toArray, List.set_cons_zero, List.set_cons_succ, i64_w, i32_w]; rfl)
                    refine take_ (i := 7) (N := some 42) (v := ?_) (a' := ?_) (bs 13 255) rfl rfl (take_ofW HT_.out HW_.out (by kernel_rfl)) (fun _ _ _ h => h) (Or.inl ⟨by rfl, ?_⟩) hHeld ?_ ?_
                    rotate_left
                    · rintro w' ⟨s0, s1⟩
                      go_simp
                      with_reducible rfl
                    rotate_left; (simp only [Act.put, List.setIfInBounds_toArray, List.set_cons_zero, List.set_cons_succ, i64_w, i32_w]; rfl)
                    refine pure_ (i := 8) (N := some 43) (v := ?_) (a' := ?_) (bs 13 511) rfl rfl (any_of HT_.out (by kernel_rfl)) (fun _ _ _ h => h) (Or.inl ⟨by rfl, ?_⟩) ?_ ?_
                    rotate_left; (intro w'; go_simp; with_reducible rfl); rotate_left; (simp only [Act.put, List.setIfInBounds_toArray, List.set_cons_zero, List.set_cons_succ, i64_w, i32_w]; rfl)
                    refine one_ (i := 9) (N := some 44) (bs 13 1023) rfl rfl (one_of HT_.out (by kernel_rfl)) (by decide) (fun K hK => ?_)
                    refine Kd.R_lit_step (Kd.int .i64) _ 3 ?hg (N := 44) ?hd (xs := ([Go.bits .and .i64 (rd t608 0) 7, Go.bits .and .i64 (rd t608 1) 7] : List Int)) (inner := [.int .i64 (Go.bits .and .i64 (rd t608 0) 7), .int .i64 (Go.bits .and .i64 (rd t608 1) 7)]) (ok := fun _ => True) (okp := fun _ => True) ?hr ?hp (fun _ hk => hk) trivial (Below.refl _ _) (Nat.le_refl _) (by simp) ?_; (case hd => rfl); (case hg => rfl); (case hr => first | (go_simp; done) | (go_simp; rfl)); (case hp => exact (Reps.one (show Kd.M (Kd.int .i64) _ _ _ (Go.bits .and .i64 (rd t608 0) 7) [.int .i64 (Go.bits .and .i64 (rd t608 0) 7)] from rfl) (Reps.one (show Kd.M (Kd.int .i64) _ _ _ (Go.bits .and .i64 (rd t608 1) 7) [.int .i64 (Go.bits .and .i64 (rd t608 1) 7)] from rfl) (Reps.none _ _))))
                    intro v614 w25 ho26 hb hg_ hnew_
                    have HS0_ := (hb.cell (World.block_lt_of_cell? _ _ (hHeld.1))).trans (hHeld.1)
                    have HS1_ := (hb.cell (World.block_lt_of_cell? _ _ (hHeld.2))).trans (hHeld.2)
                    clear hg_ hnew_
                    (first | rw [← Ny613.out] at ho26 | (simp only [Int.reduceToNat] at ho26; rw [← Ny613.out] at ho26))
                    have n0_ := Aside0.mk (Kd.N_elder' (by (with_reducible repeat (first | apply Kd.N_alloc | apply Kd.N_drewN | apply Kd.N_drew)); exact HO_4.out) (Kd.R_base ho26) hb)
                    have n1_ := Aside0.mk (Kd.N_elder' (by (with_reducible repeat (first | apply Kd.N_alloc | apply Kd.N_drewN | apply Kd.N_drew)); exact HO_5.out) (Kd.R_base ho26) hb)
                    have n2_ := Aside0.mk (Kd.R_elder' (by (with_reducible repeat (first | apply Kd.R_alloc | apply Kd.R_drewN | apply Kd.R_drew)); exact HO610.out) (Kd.R_base ho26) hb)
                    have n3_ := Aside0.mk (Kd.R_lower (Kd.R_new' ho26 (Kd.R_lt (by (with_reducible repeat (first | apply Kd.R_alloc | apply Kd.R_drewN | apply Kd.R_drew)); exact HO610.out))) (below_size (by repeat (first | (with_reducible first | exact HB.out | apply below_alloc | apply pw_below_drewN | apply below_drew1) | exact HB.out))))
                    have n4_ := Aside0.mk (below_step (by repeat (first | (with_reducible first | exact HB.out | apply below_alloc | apply pw_below_drewN | apply below_drew1) | exact HB.out)) hb)
                    clear HO_4
                    clear HO_5
                    clear HO610
                    clear HB
                    have HO_4 := n0_
                    have HO_5 := n1_
                    have HO610 := n2_
                    have HO615 := n3_
                    have HB := n4_
                    clear n0_ n1_ n2_ n3_ n4_
                    clear hb ho26
                    obtain ⟨Ao28, co28, eo28⟩ := Kd.R_slice HO615.out
                    (first | subst eo28 | (injection eo28 with f1_ f2_ f3_; have f4_ := f1_.symm; have f5_ := f3_.symm; clear f1_ f2_ f3_; subst f4_; subst f5_))
                    refine hK.out _ _ ⟨HS0_, HS1_⟩ (fun hHeld => ?_)
                    clear hK K
                    refine norm_ (a' := ?_) ?_ ?_
                    rotate_left
                    · show Act.put _ (some 44) _ = _
                      simp only [Act.put, List.setIfInBounds_toArray, List.set_cons_zero, List.set_cons_succ, i64_w, i32_w]
                      rfl
                    refine last_ (i := 10) (N := some 45) (bs 13 2047) rfl rfl (one_of HT_.out (by kernel_rfl)) (by decide) (fun K hK => ?_)
                    refine value_ (w1 := ?_) (v := ?_) (by rfl) rfl ?_ ?_
                    rotate_left 2
                    · go_simp
                      constructor
                      · rfl
                      · rfl
                    refine hK.out _ _ ?_
                    clear hK K
                    refine norm_ (a' := ?_) ?_ ?_
                    rotate_left
                    · show Act.put _ (some 45) _ = _
                      simp only [Act.put, List.setIfInBounds_toArray, List.set_cons_zero, List.set_cons_succ, i64_w, i32_w]
                      rfl
                    refine last_ (i := 11) (N := some 46) (bs 13 4095) rfl rfl (one_of HT_.out (by kernel_rfl)) (by decide) (fun K hK => ?_)
                    refine Kd.N_append_step (Kd.slice 3 (Kd.int .i64)) (w0 := w) w.heap.size (by rfl) (.tmp 35) (.tmp 45) 22 23 (.slice none 0 0) 24 rfl Try.underlying22 info23 rfl (by decide) (by omega) u5 x5_1 y613 [.slice Ao28 y613.length co28] (fun k_ => some k_ ≠ (v602 : Value).ownBlock ∧ some k_ ≠ (.slice (some ad611) t608.length co24 : Value).ownBlock) (fun k_ => ((fun k_ => some k_ ≠ (v602 : Value).ownBlock ∧ some k_ ≠ (.slice (some ad611) t608.length co24 : Value).ownBlock)) k_ ∧ some k_ ≠ (u5 : Value).ownBlock) rfl rfl ?aP (fun _ hk => hk) ?aF ?aO ?aB ?aS ?aL ?_
                    (case aP => exact (Kd.FK_slice_mk (Kd.R_reads' (Kd.R_mono (ok' := (fun k_ => ((fun k_ => some k_ ≠ (v602 : Value).ownBlock ∧ some k_ ≠ (.slice (some ad611) t608.length co24 : Value).ownBlock)) k_ ∧ some k_ ≠ (u5 : Value).ownBlock)) (Kd.R_apart' (Kd.R_apart' (HO615.out) (Kd.N_typed HO_4.out) (by decide)) (Kd.N_typed HO_5.out) (by decide)) (fun k_ hk => ⟨⟨hk.1.2, hk.1.1.2⟩, hk.2⟩))).2.1 (Kd.R_F (Kd.R_mono (ok' := (fun k_ => ((fun k_ => some k_ ≠ (v602 : Value).ownBlock ∧ some k_ ≠ (.slice (some ad611) t608.length co24 : Value).ownBlock)) k_ ∧ some k_ ≠ (u5 : Value).ownBlock)) (Kd.R_apart' (Kd.R_apart' (HO615.out) (Kd.N_typed HO_4.out) (by decide)) (Kd.N_typed HO_5.out) (by decide)) (fun k_ hk => ⟨⟨hk.1.2, hk.1.1.2⟩, hk.2⟩)))))
                    (case aB => exact (by repeat (first | (with_reducible first | exact HB.out | apply below_alloc | apply pw_below_drewN | apply below_drew1) | exact HB.out)))
                    (case aF => exact (fun k_ hk => ⟨Kd.fresh' (Kd.N_lt (by (with_reducible repeat (first | apply Kd.N_alloc | apply Kd.N_drewN | apply Kd.N_drew)); exact HO_4.out)) k_ hk, Kd.fresh' (Kd.R_lt (by (with_reducible repeat (first | apply Kd.R_alloc | apply Kd.R_drewN | apply Kd.R_drew)); exact HO610.out)) k_ hk⟩))
                    (case aO => exact (by (with_reducible repeat (first | apply Kd.N_alloc | apply Kd.N_drewN | apply Kd.N_drew)); exact Kd.N_mono HO_5.out (fun _ hk => ⟨hk.1.1, hk.1.2⟩)))
                    (case aS => exact (below_size (by repeat (first | (with_reducible first | exact HB.out | apply below_alloc | apply pw_below_drewN | apply below_drew1) | exact HB.out))))
                    (case aL => have := LMc21.out; omega)
                    intro v617 w27 ho hb hg hat
                    rw [← Ny616.out] at ho
                    have n0_ := Aside0.mk (Kd.N_afterv (ok := (fun k_ => some k_ ≠ (.slice (some ad611) t608.length co24 : Value).ownBlock ∧ some k_ ≠ (.slice Ao28 y613.length co28 : Value).ownBlock)) (by (with_reducible repeat (first | apply Kd.N_alloc | apply Kd.N_drewN | apply Kd.N_drew)); exact Kd.N_mono HO_4.out (fun _ hk => ⟨⟨hk.1.2, hk.2⟩, hk.1.1⟩)) hg hat)
                    have n1_ := Aside0.mk (Kd.R_over' (by (with_reducible repeat (first | apply Kd.R_alloc | apply Kd.R_drewN | apply Kd.R_drew)); exact HO610.out) (Kd.N_typed (by (with_reducible repeat (first | apply Kd.N_alloc | apply Kd.N_drewN | apply Kd.N_drew)); exact HO_5.out)) (by decide) hg)
                    have n2_ := Aside0.mk (hb)
                    have n3_ := Aside0.mk (ho)
                    clear HO_4
                    clear HO610
                    clear HB
                    clear HO_5
                    clear HO615
                    have HO_4 := n0_
                    have HO610 := n1_
                    have HB := n2_
                    have HO618 := n3_
                    clear n0_ n1_ n2_ n3_
                    clear ho hb hg hat
                    refine hK.out _ _ ?_
                    clear hK K
                    refine norm_ (a' := ?_) ?_ ?_
                    rotate_left
                    · show Act.put _ (some 46) _ = _
                      simp only [Act.put, List.setIfInBounds_toArray, List.set_cons_zero, List.set_cons_succ, i64_w, i32_w]
                      rfl
                    refine pure_ (i := 12) (N := some 5) (v := ?_) (a' := ?_) (bs 13 8191) rfl rfl (any_of HT_.out (by kernel_rfl)) (fun _ _ _ h => h) (Or.inl ⟨by rfl, ?_⟩) ?_ ?_
                    rotate_left; (intro w'; go_simp; with_reducible rfl); rotate_left; (simp only [Act.put, List.setIfInBounds_toArray, List.set_cons_zero, List.set_cons_succ, i64_w, i32_w]; rfl)
                    refine done_ (done_of HT_.out (by kernel_rfl)) ?_
                    try go_wp2
                    go_roundg k1
                    case measure => have := HK1.out; omega
                    case rel => exact ⟨(y616), (wrap64 (x6_1 + 1)), (by first | rfl | (simp; done) | (simp [*]; done)), H', ⟨by have := HK1.out; omega⟩, ⟨by (with_reducible repeat (first | apply Kd.N_alloc | apply Kd.N_drewN | apply Kd.N_drew)); exact Kd.N_mono HO_4.out (fun _ hk => hk.2)⟩, ⟨by (with_reducible repeat (first | apply Kd.N_alloc | apply Kd.N_drewN | apply Kd.N_drew)); exact Kd.N_mono HO618.out (fun _ hk => hk.1)⟩, ⟨by repeat (first | (with_reducible first | exact HB.out | apply below_alloc | apply pw_below_drewN | apply below_drew1) | exact HB.out)⟩⟩
                  · rw [if_neg c21] at H
                    exact absurd H (by simp)
                · rw [if_neg c20] at H
                  exact absurd H (by simp)
              · rw [if_neg c19] at H
                exact absurd H (by simp)
            · rw [if_neg c17] at H
              exact absurd H (by simp)
          · rw [if_neg c16] at H
            have c16b0 : decide (x6_1 < 20) = false := decide_eq_false c16
            clear c16
            have H' := Aside0.mk H
            clear H
            go_wp2
            go_meet
            case rel => exact ⟨_, (x5_1), H', ⟨by have := HK1.out; first | omega | exact Nat.le_refl _⟩, ⟨by (with_reducible repeat (first | apply Kd.N_alloc | apply Kd.N_drewN | apply Kd.N_drew)); exact HO_4.out⟩, ⟨by (with_reducible repeat (first | apply Kd.N_alloc | apply Kd.N_drewN | apply Kd.N_drew)); exact HO_5.out⟩, ⟨by repeat (first | (with_reducible first | exact HB.out | apply below_alloc | apply pw_below_drewN | apply below_drew1) | exact HB.out)⟩⟩
        · rw [if_neg c15] at H
          have c15b0 : decide (x6_1 < (l0.length : Int)) = false := decide_eq_false c15
          clear c15
          (first | rw [c15b0] | (simp only [i64_w, i32_w]; rw [c15b0]) | skip)
          have H' := Aside0.mk H
          clear H
          go_wp2
          go_meet
          case rel => exact ⟨_, (x5_1), H', ⟨by have := HK1.out; first | omega | exact Nat.le_refl _⟩, ⟨by (with_reducible repeat (first | apply Kd.N_alloc | apply Kd.N_drewN | apply Kd.N_drew)); exact HO_4.out⟩, ⟨by (with_reducible repeat (first | apply Kd.N_alloc | apply Kd.N_drewN | apply Kd.N_drew)); exact HO_5.out⟩, ⟨by repeat (first | (with_reducible first | exact HB.out | apply below_alloc | apply pw_below_drewN | apply below_drew1) | exact HB.out)⟩⟩
  case rest =>
    clear HC3
    try clear c1
    try clear c2
    try clear p2
    try clear c6
    try clear p6
    try clear q6
    try clear hx6
    try clear qi6
    try clear c7
    try clear c9
    try clear c14
    try clear c15
    try clear c15b0
    try clear c16
    try clear c16b0
    try clear c17
    try clear c17b0
    try clear c19
    try clear c19b0
    try clear c19b1
    try clear c20
    try clear c20b0
    try clear c20b1
    try clear c21
    try clear hx607_0
    try clear hx611_0
    try clear hx612_0
    try clear p2
    try clear p607
    try clear p611
    try clear p612
    try clear q607
    try clear q611
    try clear q612
    obtain ⟨kq, x5_2, HA, HJ2, HO_4, HO_5, HB⟩ := hcut
    cases kq with
    | zero => exact absurd HA.out (by simp [arboristlaw07_BuiltRows.j1])
    | succ kj2 =>
      have H := HA.out
      clear HA
      simp only [arboristlaw07_BuiltRows.j1] at H
      replace H := Option.bind_eq_some_iff.mp H
      obtain ⟨t619, A290, H⟩ := H
      replace H : ((built_Table.f y601 1 (([0, 1] : List Int)) t619 ([] : List Int) 64).bind fun bt625 => ((built_Table.f y601 2 (([0, 1] : List Int)) t619 ([] : List Int) 64).bind fun bt636 => (if bt625.2.2 = 0 then (if bt636.2.2 = 0 then (if (bt625.2.1.length : Int) = (t619.length : Int) then (arboristlaw07_BuiltRows.j2 kj2 t594 t619 ((wrap64 ((bt625.2.1.length : Int) + (bt636.2.1.length : Int))) != 64) bt625.1 bt625.2.1 bt636.1 bt636.2.1) else (arboristlaw07_BuiltRows.j2 kj2 t594 t619 true bt625.1 bt625.2.1 bt636.1 bt636.2.1)) else (arboristlaw07_BuiltRows.j2 kj2 t594 t619 true bt625.1 bt625.2.1 bt636.1 bt636.2.1)) else (arboristlaw07_BuiltRows.j2 kj2 t594 t619 true bt625.1 bt625.2.1 bt636.1 bt636.2.1)))) = some r := H
      have A29 := Aside0.mk A290
      clear A290
      obtain ⟨y622, hy622⟩ : ∃ y_ : List Int, y_ = (([0, 1] : List Int)) := ⟨_, rfl⟩
      replace H : ((built_Table.f y601 1 y622 t619 ([] : List Int) 64).bind fun bt625 => ((built_Table.f y601 2 (([0, 1] : List Int)) t619 ([] : List Int) 64).bind fun bt636 => (if bt625.2.2 = 0 then (if bt636.2.2 = 0 then (if (bt625.2.1.length : Int) = (t619.length : Int) then (arboristlaw07_BuiltRows.j2 kj2 t594 t619 ((wrap64 ((bt625.2.1.length : Int) + (bt636.2.1.length : Int))) != 64) bt625.1 bt625.2.1 bt636.1 bt636.2.1) else (arboristlaw07_BuiltRows.j2 kj2 t594 t619 true bt625.1 bt625.2.1 bt636.1 bt636.2.1)) else (arboristlaw07_BuiltRows.j2 kj2 t594 t619 true bt625.1 bt625.2.1 bt636.1 bt636.2.1)) else (arboristlaw07_BuiltRows.j2 kj2 t594 t619 true bt625.1 bt625.2.1 bt636.1 bt636.2.1)))) = some r := by first | (rw [hy622]; with_reducible exact H) | (have H2_ := (Option.bind_some _ _).symm.trans H; rw [hy622]; with_reducible exact H2_) | (have H2_ := (Option.bind_some _ _).symm.trans H; with_reducible exact H2_) | with_reducible exact H | (rw [hy622]; exact H) | exact H
      have Ny622 := Aside0.mk hy622
      clear hy622
      replace H := Option.bind_eq_some_iff.mp H
      obtain ⟨⟨t625, t628, t631⟩, A300, H⟩ := H
      replace H : ((built_Table.f y601 2 (([0, 1] : List Int)) t619 ([] : List Int) 64).bind fun bt636 => (if t631 = 0 then (if bt636.2.2 = 0 then (if (t628.length : Int) = (t619.length : Int) then (arboristlaw07_BuiltRows.j2 kj2 t594 t619 ((wrap64 ((t628.length : Int) + (bt636.2.1.length : Int))) != 64) t625 t628 bt636.1 bt636.2.1) else (arboristlaw07_BuiltRows.j2 kj2 t594 t619 true t625 t628 bt636.1 bt636.2.1)) else (arboristlaw07_BuiltRows.j2 kj2 t594 t619 true t625 t628 bt636.1 bt636.2.1)) else (arboristlaw07_BuiltRows.j2 kj2 t594 t619 true t625 t628 bt636.1 bt636.2.1))) = some r := H
      have A30 := Aside0.mk A300
      clear A300
      obtain ⟨y633, hy633⟩ : ∃ y_ : List Int, y_ = (([0, 1] : List Int)) := ⟨_, rfl⟩
      replace H : ((built_Table.f y601 2 y633 t619 ([] : List Int) 64).bind fun bt636 => (if t631 = 0 then (if bt636.2.2 = 0 then (if (t628.length : Int) = (t619.length : Int) then (arboristlaw07_BuiltRows.j2 kj2 t594 t619 ((wrap64 ((t628.length : Int) + (bt636.2.1.length : Int))) != 64) t625 t628 bt636.1 bt636.2.1) else (arboristlaw07_BuiltRows.j2 kj2 t594 t619 true t625 t628 bt636.1 bt636.2.1)) else (arboristlaw07_BuiltRows.j2 kj2 t594 t619 true t625 t628 bt636.1 bt636.2.1)) else (arboristlaw07_BuiltRows.j2 kj2 t594 t619 true t625 t628 bt636.1 bt636.2.1))) = some r := by first | (rw [hy633]; with_reducible exact H) | (have H2_ := (Option.bind_some _ _).symm.trans H; rw [hy633]; with_reducible exact H2_) | (have H2_ := (Option.bind_some _ _).symm.trans H; with_reducible exact H2_) | with_reducible exact H | (rw [hy633]; exact H) | exact H
      have Ny633 := Aside0.mk hy633
      clear hy633
      replace H := Option.bind_eq_some_iff.mp H
      obtain ⟨⟨t636, t639, t642⟩, A310, H⟩ := H
      replace H : (if t631 = 0 then (if t642 = 0 then (if (t628.length : Int) = (t619.length : Int) then (arboristlaw07_BuiltRows.j2 kj2 t594 t619 ((wrap64 ((t628.length : Int) + (t639.length : Int))) != 64) t625 t628 t636 t639) else (arboristlaw07_BuiltRows.j2 kj2 t594 t619 true t625 t628 t636 t639)) else (arboristlaw07_BuiltRows.j2 kj2 t594 t619 true t625 t628 t636 t639)) else (arboristlaw07_BuiltRows.j2 kj2 t594 t619 true t625 t628 t636 t639)) = some r := H
      have A31 := Aside0.mk A310
      clear A310
      have HC32 := Aside0.mk H
      clear H
      obtain ⟨Ao33, co33, eo33⟩ := Kd.N_slice HO_5.out
      subst eo33
      go_upto_region 12 with (first | ((with_reducible refine gate_callee (f := 15) rfl ?_); refine goesL_ (some 48) rfl rfl Try.func15 (by kernel_rfl) rfl #[.slice Ao33 x5_2.length co33] rfl (by (try simp only [List.map_toArray, List.map_cons, List.map_nil]); first | done | rfl | (simp only [List.length_drop, List.length_take]; rfl)) ?_; (with_reducible refine (arboristref01_Sort.calls kj2 _ _ x5_2 t619 _ ?side1 ?side2 A29.out).mono ?_); (case side1 => repeat (first | exact (Kd.N_reads' HO_5.out).2.2 | (with_reducible refine Kd.C_alloc ?_ _) | (with_reducible refine Kd.C_drewN ?_ _) | (with_reducible refine Kd.C_drew ?_))); (case side2 => exact (Kd.N_reads' HO_5.out).2.1); rintro e w34 ⟨v620, rfl, ho0, hb⟩; refine ⟨_, rfl, ?_⟩; have n0_ := Aside0.mk (Kd.N_elder' (by (with_reducible repeat (first | apply Kd.N_alloc | apply Kd.N_drewN | apply Kd.N_drew)); exact HO_4.out) (by first | exact Kd.N_base ho0 | exact Kd.N_base (Kd.S_N ho0)) hb); have n1_ := Aside0.mk (Kd.N_elder' (by (with_reducible repeat (first | apply Kd.N_alloc | apply Kd.N_drewN | apply Kd.N_drew)); exact HO_5.out) (by first | exact Kd.N_base ho0 | exact Kd.N_base (Kd.S_N ho0)) hb); have n2_ := Aside0.mk (Kd.N_lower (Kd.N_mono (ok' := fun k_ => some k_ ≠ (v602 : Value).ownBlock ∧ some k_ ≠ (.slice Ao33 x5_2.length co33 : Value).ownBlock) ho0 (fun k_ hk_ => ⟨(Kd.fresh' (Kd.N_lt (by (with_reducible repeat (first | apply Kd.N_alloc | apply Kd.N_drewN | apply Kd.N_drew)); exact HO_4.out)) k_ hk_), (Kd.fresh' (Kd.N_lt (by (with_reducible repeat (first | apply Kd.N_alloc | apply Kd.N_drewN | apply Kd.N_drew)); exact HO_5.out)) k_ hk_)⟩)) (below_size (by repeat (first | (with_reducible first | exact HB.out | apply below_alloc | apply pw_below_drewN | apply below_drew1) | exact HB.out)))); have n3_ := Aside0.mk (below_step (by repeat (first | (with_reducible first | exact HB.out | apply below_alloc | apply pw_below_drewN | apply below_drew1) | exact HB.out)) hb); clear HO_4; clear HO_5; clear HB; have HO_4 := n0_; have HO_5 := n1_; have HO621 := n2_; have HB := n3_; clear n0_ n1_ n2_ n3_; (try clear hb); (try clear hb2); (try clear hk); (try clear hi); (try clear ho0)) | ((with_reducible refine gate_dst (N := 51) rfl ?_); (try (refine gate_guard (by rfl) ?_; dsimp only)); refine Kd.R_lit (Kd.int .i64) _ 3 ?hg (N := 51) ?hd (xs := ([0, 1] : List Int)) (inner := [.int .i64 0, .int .i64 1]) (ok := fun _ => True) (okp := fun _ => True) ?hr ?hp (fun _ hk => hk) trivial (Below.refl _ _) (Nat.le_refl _) (by simp) ?_; (case hd => rfl); (case hg => rfl); (case hr => first | (go_simp; done) | (go_simp; rfl)); (case hp => exact (Reps.one (show Kd.M (Kd.int .i64) _ _ _ 0 [.int .i64 0] from rfl) (Reps.one (show Kd.M (Kd.int .i64) _ _ _ 1 [.int .i64 1] from rfl) (Reps.none _ _)))); intro v623 w35 ho36 hb hg_ hnew_; clear hg_ hnew_; (first | rw [← Ny622.out] at ho36 | (simp only [Int.reduceToNat] at ho36; rw [← Ny622.out] at ho36)); have n0_ := Aside0.mk (Kd.N_elder' (by (with_reducible repeat (first | apply Kd.N_alloc | apply Kd.N_drewN | apply Kd.N_drew)); exact HO_4.out) (Kd.R_base ho36) hb); have n1_ := Aside0.mk (Kd.N_elder' (by (with_reducible repeat (first | apply Kd.N_alloc | apply Kd.N_drewN | apply Kd.N_drew)); exact HO_5.out) (Kd.R_base ho36) hb); have n2_ := Aside0.mk (Kd.N_elder' (by (with_reducible repeat (first | apply Kd.N_alloc | apply Kd.N_drewN | apply Kd.N_drew)); exact HO621.out) (Kd.R_base ho36) hb); have n3_ := Aside0.mk (Kd.R_lower ho36 (below_size (by repeat (first | (with_reducible first | exact HB.out | apply below_alloc | apply pw_below_drewN | apply below_drew1) | exact HB.out)))); have n4_ := Aside0.mk (below_step (by repeat (first | (with_reducible first | exact HB.out | apply below_alloc | apply pw_below_drewN | apply below_drew1) | exact HB.out)) hb); clear HO_4; clear HO_5; clear HO621; clear HB; have HO_4 := n0_; have HO_5 := n1_; have HO621 := n2_; have HO624 := n3_; have HB := n4_; clear n0_ n1_ n2_ n3_ n4_; clear hb ho36; obtain ⟨Ao37, co37, eo37⟩ := Kd.N_slice HO621.out; subst eo37; obtain ⟨Ao38, co38, eo38⟩ := Kd.R_slice HO624.out; subst eo38; obtain ⟨Ao39, co39, eo39⟩ := Kd.N_slice HO_4.out; subst eo39) | ((with_reducible refine gate_callee (f := 18) rfl ?_); refine goesL_ (some 54) rfl rfl Try.func18 (by kernel_rfl) rfl #[.slice Ao39 y601.length co39, .agg #[.int .i64 1, .slice Ao38 y622.length co38, .slice Ao37 t619.length co37, .slice none 0 0], .int .i64 64] rfl (by (try simp only [List.map_toArray, List.map_cons, List.map_nil]); first | done | rfl | (simp only [List.length_drop, List.length_take]; rfl)) ?_; (refine (built_Table.calls _ _ y601 1 _ _ y622 _ _ t619 _ _ ([] : List Int) 64 t625 t628 t631 _ ?side1 ?side2 ?side3 ?side4 ?side5 ?side6 ?side7 ?side8 A30.out).mono ?_); (case side1 => repeat (first | exact (Kd.N_reads' HO_4.out).2.2 | (with_reducible refine Kd.C_alloc ?_ _) | (with_reducible refine Kd.C_drewN ?_ _) | (with_reducible refine Kd.C_drew ?_))); (case side2 => exact (Kd.N_reads' HO_4.out).2.1); (case side3 => repeat (first | exact (Kd.R_reads' HO624.out).2.2 | (with_reducible refine Kd.C_alloc ?_ _) | (with_reducible refine Kd.C_drewN ?_ _) | (with_reducible refine Kd.C_drew ?_))); (case side4 => exact (Kd.R_reads' HO624.out).2.1); (case side5 => repeat (first | exact (Kd.N_reads' HO621.out).2.2 | (with_reducible refine Kd.C_alloc ?_ _) | (with_reducible refine Kd.C_drewN ?_ _) | (with_reducible refine Kd.C_drew ?_))); (case side6 => exact (Kd.N_reads' HO621.out).2.1); (case side7 => exact Kd.C_nil _ _); (case side8 => exact Nat.le_refl _); rintro e w40 ⟨v626, v629, rfl, ho0, ho1, hb⟩; refine ⟨_, rfl, ?_⟩; have n0_ := Aside0.mk (Kd.N_mono (Kd.N_told (Kd.N_told (Kd.N_old (by (with_reducible repeat (first | apply Kd.N_alloc | apply Kd.N_drewN | apply Kd.N_drew)); exact HO_4.out) hb) (Kd.R_base ho0)) (by first | exact Kd.N_base ho1 | exact Kd.N_base (Kd.S_N ho1))) (fun _ h_ => h_.1)); have n1_ := Aside0.mk (Kd.N_mono (Kd.N_told (Kd.N_told (Kd.N_old (by (with_reducible repeat (first | apply Kd.N_alloc | apply Kd.N_drewN | apply Kd.N_drew)); exact HO_5.out) hb) (Kd.R_base ho0)) (by first | exact Kd.N_base ho1 | exact Kd.N_base (Kd.S_N ho1))) (fun _ h_ => h_.1)); have n2_ := Aside0.mk (Kd.N_mono (Kd.N_told (Kd.N_told (Kd.N_old (by (with_reducible repeat (first | apply Kd.N_alloc | apply Kd.N_drewN | apply Kd.N_drew)); exact HO621.out) hb) (Kd.R_base ho0)) (by first | exact Kd.N_base ho1 | exact Kd.N_base (Kd.S_N ho1))) (fun _ h_ => h_.1)); have n3_ := Aside0.mk (Kd.R_elder' (by (with_reducible repeat (first | apply Kd.R_alloc | apply Kd.R_drewN | apply Kd.R_drew)); exact HO624.out) (Kd.R_base ho0) hb); have n4_ := Aside0.mk (Kd.R_lower (Kd.R_new' ho0 (Kd.R_lt (by (with_reducible repeat (first | apply Kd.R_alloc | apply Kd.R_drewN | apply Kd.R_drew)); exact HO624.out))) (below_size (by repeat (first | (with_reducible first | exact HB.out | apply below_alloc | apply pw_below_drewN | apply below_drew1) | exact HB.out)))); have n5_ := Aside0.mk (Kd.N_lower (Kd.N_mono (ok' := fun k_ => some k_ ≠ (v626 : Value).ownBlock ∧ some k_ ≠ (.slice Ao39 y601.length co39 : Value).ownBlock ∧ some k_ ≠ (.slice Ao33 x5_2.length co33 : Value).ownBlock ∧ some k_ ≠ (.slice Ao37 t619.length co37 : Value).ownBlock ∧ some k_ ≠ (.slice Ao38 y622.length co38 : Value).ownBlock) (Kd.S_N (Kd.S_bound ho1)) (fun k_ hk_ => ⟨hk_.1, (Kd.fresh' (Kd.N_lt (by (with_reducible repeat (first | apply Kd.N_alloc | apply Kd.N_drewN | apply Kd.N_drew)); exact HO_4.out)) k_ hk_.2.1), (Kd.fresh' (Kd.N_lt (by (with_reducible repeat (first | apply Kd.N_alloc | apply Kd.N_drewN | apply Kd.N_drew)); exact HO_5.out)) k_ hk_.2.1), (Kd.fresh' (Kd.N_lt (by (with_reducible repeat (first | apply Kd.N_alloc | apply Kd.N_drewN | apply Kd.N_drew)); exact HO621.out)) k_ hk_.2.1), (Kd.fresh' (Kd.R_lt (by (with_reducible repeat (first | apply Kd.R_alloc | apply Kd.R_drewN | apply Kd.R_drew)); exact HO624.out)) k_ hk_.2.1)⟩)) (below_size (by repeat (first | (with_reducible first | exact HB.out | apply below_alloc | apply pw_below_drewN | apply below_drew1) | exact HB.out)))); have n6_ := Aside0.mk (below_step (by repeat (first | (with_reducible first | exact HB.out | apply below_alloc | apply pw_below_drewN | apply below_drew1) | exact HB.out)) hb); clear HO_4; clear HO_5; clear HO621; clear HO624; clear HB; have HO_4 := n0_; have HO_5 := n1_; have HO621 := n2_; have HO624 := n3_; have HO627 := n4_; have HO630 := n5_; have HB := n6_; clear n0_ n1_ n2_ n3_ n4_ n5_ n6_; (try clear hb); (try clear hb2); (try clear hk); (try clear hi); (try clear ho0); (try clear ho1)) | ((with_reducible refine gate_dst (N := 8) rfl ?_); (try (refine gate_guard (by rfl) ?_; dsimp only)); refine box_event ?hg (N := 8) ?hd (cs := #[.slice none 0 0, .slice none 0 0]) (t := 28) ?hr ?_; (case hd => rfl); (case hg => rfl); (case hr => first | (go_simp; done) | (go_simp; rfl)); intro gb632 hg w41 hbox hb; have n0_ := Aside0.mk (Kd.N_below (Kd.N_elderB (by (with_reducible repeat (first | apply Kd.N_alloc | apply Kd.N_drewN | apply Kd.N_drew)); exact HO_4.out) gb632 (Nat.le_of_eq hg.symm)) hb); have n1_ := Aside0.mk (Kd.N_below (Kd.N_elderB (by (with_reducible repeat (first | apply Kd.N_alloc | apply Kd.N_drewN | apply Kd.N_drew)); exact HO_5.out) gb632 (Nat.le_of_eq hg.symm)) hb); have n2_ := Aside0.mk (Kd.N_below (Kd.N_elderB (by (with_reducible repeat (first | apply Kd.N_alloc | apply Kd.N_drewN | apply Kd.N_drew)); exact HO621.out) gb632 (Nat.le_of_eq hg.symm)) hb); have n3_ := Aside0.mk (Kd.R_below (by (with_reducible repeat (first | apply Kd.R_alloc | apply Kd.R_drewN | apply Kd.R_drew)); exact HO624.out) hb); have n4_ := Aside0.mk (Kd.R_below (by (with_reducible repeat (first | apply Kd.R_alloc | apply Kd.R_drewN | apply Kd.R_drew)); exact HO627.out) hb); have n5_ := Aside0.mk (Kd.N_below (Kd.N_elderB (by (with_reducible repeat (first | apply Kd.N_alloc | apply Kd.N_drewN | apply Kd.N_drew)); exact HO630.out) gb632 (Nat.le_of_eq hg.symm)) hb); have n6_ := Aside0.mk (below_step (by repeat (first | (with_reducible first | exact HB.out | apply below_alloc | apply pw_below_drewN | apply below_drew1) | exact HB.out)) hb); have n7_ := Aside0.mk (hbox); have n8_ := Aside0.mk ((by rw [hg]; exact (below_size (by repeat (first | (with_reducible first | exact HB.out | apply below_alloc | apply pw_below_drewN | apply below_drew1) | exact HB.out))) : w.heap.size ≤ gb632)); have n9_ := Aside0.mk ((by rw [hg]; exact (below_size (by repeat (first | (with_reducible first | exact HB.out | apply below_alloc | apply pw_below_drewN | apply below_drew1) | exact HB.out))) : w.heap.size ≤ gb632)); clear HO_4; clear HO_5; clear HO621; clear HO624; clear HO627; clear HO630; clear HB; have HO_4 := n0_; have HO_5 := n1_; have HO621 := n2_; have HO624 := n3_; have HO627 := n4_; have HO630 := n5_; have HB := n6_; have BK632 := n7_; have GW632 := n8_; have GE632 := n9_; clear n0_ n1_ n2_ n3_ n4_ n5_ n6_ n7_ n8_ n9_; clear hb hbox hg; obtain ⟨Ao42, co42, eo42⟩ := Kd.R_slice HO627.out; subst eo42; have hcz43_0 : w41.cell? ⟨gb632, 0, none⟩ = some (.slice none 0 0) := (blk_cell BK632.out 0).trans rfl; have hcz43_1 : w41.cell? ⟨gb632, 1, none⟩ = some (.slice none 0 0) := (blk_cell BK632.out 1).trans rfl; have hfz43_0 := blk_frozen BK632.out 0; have hfz43_1 := blk_frozen BK632.out 1; obtain ⟨Ao44, co44, eo44⟩ := Kd.N_slice HO630.out; subst eo44) | ((with_reducible refine gate_dst (N := 59) rfl ?_); (try (refine gate_guard (by rfl) ?_; dsimp only)); refine Kd.R_lit (Kd.int .i64) _ 3 ?hg (N := 59) ?hd (xs := ([0, 1] : List Int)) (inner := [.int .i64 0, .int .i64 1]) (ok := fun _ => True) (okp := fun _ => True) ?hr ?hp (fun _ hk => hk) trivial (Below.refl _ _) (Nat.le_refl _) (by simp) ?_; (case hd => rfl); (case hg => rfl); (case hr => first | (go_simp; done) | (go_simp; rfl)); (case hp => exact (Reps.one (show Kd.M (Kd.int .i64) _ _ _ 0 [.int .i64 0] from rfl) (Reps.one (show Kd.M (Kd.int .i64) _ _ _ 1 [.int .i64 1] from rfl) (Reps.none _ _)))); intro v634 w45 ho46 hb hg_ hnew_; clear hg_ hnew_; (first | rw [← Ny633.out] at ho46 | (simp only [Int.reduceToNat] at ho46; rw [← Ny633.out] at ho46)); have n0_ := Aside0.mk (Kd.N_elder' (by (with_reducible repeat (first | apply Kd.N_alloc | apply Kd.N_drewN | apply Kd.N_drew)); exact (Kd.N_mono (Kd.N_far (p := ⟨gb632, 1, none⟩) (Kd.N_far (p := ⟨gb632, 0, none⟩) (Kd.N_mono HO_4.out (fun k_ hk => (⟨hk, hk.2⟩ : _ ∧ k_ ≠ gb632))) (fun _ hk => hk.2) (.slice Ao42 t625.length co42)) (fun _ hk => hk.2) (.slice Ao44 t628.length co44)) (fun _ h_ => h_.1))) (Kd.R_base ho46) hb); have n1_ := Aside0.mk (Kd.N_elder' (by (with_reducible repeat (first | apply Kd.N_alloc | apply Kd.N_drewN | apply Kd.N_drew)); exact (Kd.N_mono (Kd.N_far (p := ⟨gb632, 1, none⟩) (Kd.N_far (p := ⟨gb632, 0, none⟩) (Kd.N_mono HO_5.out (fun k_ hk => (⟨hk, hk.2⟩ : _ ∧ k_ ≠ gb632))) (fun _ hk => hk.2) (.slice Ao42 t625.length co42)) (fun _ hk => hk.2) (.slice Ao44 t628.length co44)) (fun _ h_ => h_.1))) (Kd.R_base ho46) hb); have n2_ := Aside0.mk (Kd.N_elder' (by (with_reducible repeat (first | apply Kd.N_alloc | apply Kd.N_drewN | apply Kd.N_drew)); exact (Kd.N_mono (Kd.N_far (p := ⟨gb632, 1, none⟩) (Kd.N_far (p := ⟨gb632, 0, none⟩) (Kd.N_mono HO621.out (fun k_ hk => (⟨hk, hk.2⟩ : _ ∧ k_ ≠ gb632))) (fun _ hk => hk.2) (.slice Ao42 t625.length co42)) (fun _ hk => hk.2) (.slice Ao44 t628.length co44)) (fun _ h_ => h_.1))) (Kd.R_base ho46) hb); have n3_ := Aside0.mk (Kd.R_elder' (by (with_reducible repeat (first | apply Kd.R_alloc | apply Kd.R_drewN | apply Kd.R_drew)); exact (Kd.R_mono (Kd.R_far (p := ⟨gb632, 1, none⟩) (Kd.R_far (p := ⟨gb632, 0, none⟩) (Kd.R_types HO624.out BK632.out (by decide)) (fun _ hk => hk.2) (.slice Ao42 t625.length co42)) (fun _ hk => hk.2) (.slice Ao44 t628.length co44)) (fun _ h_ => h_.1))) (Kd.R_base ho46) hb); have n4_ := Aside0.mk (Kd.R_elder' (by (with_reducible repeat (first | apply Kd.R_alloc | apply Kd.R_drewN | apply Kd.R_drew)); exact (Kd.R_mono (Kd.R_far (p := ⟨gb632, 1, none⟩) (Kd.R_far (p := ⟨gb632, 0, none⟩) (Kd.R_types HO627.out BK632.out (by decide)) (fun _ hk => hk.2) (.slice Ao42 t625.length co42)) (fun _ hk => hk.2) (.slice Ao44 t628.length co44)) (fun _ h_ => h_.1))) (Kd.R_base ho46) hb); have n5_ := Aside0.mk (Kd.N_elder' (by (with_reducible repeat (first | apply Kd.N_alloc | apply Kd.N_drewN | apply Kd.N_drew)); exact (Kd.N_mono (Kd.N_far (p := ⟨gb632, 1, none⟩) (Kd.N_far (p := ⟨gb632, 0, none⟩) (Kd.N_mono HO630.out (fun k_ hk => (⟨hk, hk.2⟩ : _ ∧ k_ ≠ gb632))) (fun _ hk => hk.2) (.slice Ao42 t625.length co42)) (fun _ hk => hk.2) (.slice Ao44 t628.length co44)) (fun _ h_ => h_.1))) (Kd.R_base ho46) hb); have n6_ := Aside0.mk (Kd.R_lower (Kd.R_new' (Kd.R_new' ho46 (Kd.R_lt (by (with_reducible repeat (first | apply Kd.R_alloc | apply Kd.R_drewN | apply Kd.R_drew)); exact (Kd.R_mono (Kd.R_far (p := ⟨gb632, 1, none⟩) (Kd.R_far (p := ⟨gb632, 0, none⟩) (Kd.R_types HO624.out BK632.out (by decide)) (fun _ hk => hk.2) (.slice Ao42 t625.length co42)) (fun _ hk => hk.2) (.slice Ao44 t628.length co44)) (fun _ h_ => h_.1))))) (Kd.R_lt (by (with_reducible repeat (first | apply Kd.R_alloc | apply Kd.R_drewN | apply Kd.R_drew)); exact (Kd.R_mono (Kd.R_far (p := ⟨gb632, 1, none⟩) (Kd.R_far (p := ⟨gb632, 0, none⟩) (Kd.R_types HO627.out BK632.out (by decide)) (fun _ hk => hk.2) (.slice Ao42 t625.length co42)) (fun _ hk => hk.2) (.slice Ao44 t628.length co44)) (fun _ h_ => h_.1))))) (below_size (by repeat (first | (with_reducible first | exact HB.out | apply below_alloc | apply pw_below_drewN | apply below_drew1 | refine below_set ?_ GE632.out) | exact HB.out)))); have n7_ := Aside0.mk (blk_below (g := gb632) (o := .cells #[.slice Ao42 t625.length co42, .slice Ao44 t628.length co44] 28 (0, 0)) (by (with_reducible repeat (first | refine blk_drewN ?_ _ | refine blk_drew ?_ | refine blk_alloc ?_ _)); refine blk_put (cs := #[.slice Ao42 t625.length co42, .slice none 0 0]) ?_ 1 _ rfl; (with_reducible repeat (first | refine blk_drewN ?_ _ | refine blk_drew ?_ | refine blk_alloc ?_ _)); refine blk_put (cs := #[.slice none 0 0, .slice none 0 0]) ?_ 0 _ rfl; (with_reducible repeat (first | refine blk_drewN ?_ _ | refine blk_drew ?_ | refine blk_alloc ?_ _)); exact BK632.out) hb); have n8_ := Aside0.mk (below_step (by repeat (first | (with_reducible first | exact HB.out | apply below_alloc | apply pw_below_drewN | apply below_drew1 | refine below_set ?_ GE632.out) | exact HB.out)) hb); clear HO_4; clear HO_5; clear HO621; clear HO624; clear HO627; clear HO630; clear BK632; clear HB; have HO_4 := n0_; have HO_5 := n1_; have HO621 := n2_; have HO624 := n3_; have HO627 := n4_; have HO630 := n5_; have HO635 := n6_; have BK632 := n7_; have HB := n8_; clear n0_ n1_ n2_ n3_ n4_ n5_ n6_ n7_ n8_; clear hb ho46; obtain ⟨Ao47, co47, eo47⟩ := Kd.R_slice HO635.out; subst eo47) | ((with_reducible refine gate_callee (f := 18) rfl ?_); refine goesL_ (some 62) rfl rfl Try.func18 (by kernel_rfl) rfl #[.slice Ao39 y601.length co39, .agg #[.int .i64 2, .slice Ao47 y633.length co47, .slice Ao37 t619.length co37, .slice none 0 0], .int .i64 64] rfl (by (try simp only [List.map_toArray, List.map_cons, List.map_nil]); first | done | rfl | (simp only [List.length_drop, List.length_take]; rfl)) ?_; (refine (built_Table.calls _ _ y601 2 _ _ y633 _ _ t619 _ _ ([] : List Int) 64 t636 t639 t642 _ ?side1 ?side2 ?side3 ?side4 ?side5 ?side6 ?side7 ?side8 A31.out).mono ?_); (case side1 => repeat (first | exact (Kd.N_reads' HO_4.out).2.2 | (with_reducible refine Kd.C_alloc ?_ _) | (with_reducible refine Kd.C_drewN ?_ _) | (with_reducible refine Kd.C_drew ?_))); (case side2 => exact (Kd.N_reads' HO_4.out).2.1); (case side3 => repeat (first | exact (Kd.R_reads' HO635.out).2.2 | (with_reducible refine Kd.C_alloc ?_ _) | (with_reducible refine Kd.C_drewN ?_ _) | (with_reducible refine Kd.C_drew ?_))); (case side4 => exact (Kd.R_reads' HO635.out).2.1); (case side5 => repeat (first | exact (Kd.N_reads' HO621.out).2.2 | (with_reducible refine Kd.C_alloc ?_ _) | (with_reducible refine Kd.C_drewN ?_ _) | (with_reducible refine Kd.C_drew ?_))); (case side6 => exact (Kd.N_reads' HO621.out).2.1); (case side7 => exact Kd.C_nil _ _); (case side8 => exact Nat.le_refl _); rintro e w48 ⟨v637, v640, rfl, ho0, ho1, hb⟩; refine ⟨_, rfl, ?_⟩; have n0_ := Aside0.mk (Kd.N_mono (Kd.N_told (Kd.N_told (Kd.N_old (by (with_reducible repeat (first | apply Kd.N_alloc | apply Kd.N_drewN | apply Kd.N_drew)); exact HO_4.out) hb) (Kd.R_base ho0)) (by first | exact Kd.N_base ho1 | exact Kd.N_base (Kd.S_N ho1))) (fun _ h_ => h_.1)); have n1_ := Aside0.mk (Kd.N_mono (Kd.N_told (Kd.N_told (Kd.N_old (by (with_reducible repeat (first | apply Kd.N_alloc | apply Kd.N_drewN | apply Kd.N_drew)); exact HO_5.out) hb) (Kd.R_base ho0)) (by first | exact Kd.N_base ho1 | exact Kd.N_base (Kd.S_N ho1))) (fun _ h_ => h_.1)); have n2_ := Aside0.mk (Kd.N_mono (Kd.N_told (Kd.N_told (Kd.N_old (by (with_reducible repeat (first | apply Kd.N_alloc | apply Kd.N_drewN | apply Kd.N_drew)); exact HO621.out) hb) (Kd.R_base ho0)) (by first | exact Kd.N_base ho1 | exact Kd.N_base (Kd.S_N ho1))) (fun _ h_ => h_.1)); have n3_ := Aside0.mk (Kd.R_elder' (by (with_reducible repeat (first | apply Kd.R_alloc | apply Kd.R_drewN | apply Kd.R_drew)); exact HO624.out) (Kd.R_base ho0) hb); have n4_ := Aside0.mk (Kd.R_elder' (by (with_reducible repeat (first | apply Kd.R_alloc | apply Kd.R_drewN | apply Kd.R_drew)); exact HO627.out) (Kd.R_base ho0) hb); have n5_ := Aside0.mk (Kd.N_mono (Kd.N_told (Kd.N_told (Kd.N_old (by (with_reducible repeat (first | apply Kd.N_alloc | apply Kd.N_drewN | apply Kd.N_drew)); exact HO630.out) hb) (Kd.R_base ho0)) (by first | exact Kd.N_base ho1 | exact Kd.N_base (Kd.S_N ho1))) (fun _ h_ => h_.1)); have n6_ := Aside0.mk (Kd.R_elder' (by (with_reducible repeat (first | apply Kd.R_alloc | apply Kd.R_drewN | apply Kd.R_drew)); exact HO635.out) (Kd.R_base ho0) hb); have n7_ := Aside0.mk (Kd.R_lower (Kd.R_new' (Kd.R_new' (Kd.R_new' ho0 (Kd.R_lt (by (with_reducible repeat (first | apply Kd.R_alloc | apply Kd.R_drewN | apply Kd.R_drew)); exact HO624.out))) (Kd.R_lt (by (with_reducible repeat (first | apply Kd.R_alloc | apply Kd.R_drewN | apply Kd.R_drew)); exact HO627.out))) (Kd.R_lt (by (with_reducible repeat (first | apply Kd.R_alloc | apply Kd.R_drewN | apply Kd.R_drew)); exact HO635.out))) (below_size (by repeat (first | (with_reducible first | exact HB.out | apply below_alloc | apply pw_below_drewN | apply below_drew1 | refine below_set ?_ GE632.out) | exact HB.out)))); have n8_ := Aside0.mk (Kd.N_lower (Kd.N_mono (ok' := fun k_ => some k_ ≠ (v637 : Value).ownBlock ∧ some k_ ≠ (.slice Ao39 y601.length co39 : Value).ownBlock ∧ some k_ ≠ (.slice Ao33 x5_2.length co33 : Value).ownBlock ∧ some k_ ≠ (.slice Ao37 t619.length co37 : Value).ownBlock ∧ some k_ ≠ (.slice Ao38 y622.length co38 : Value).ownBlock ∧ some k_ ≠ (.slice Ao42 t625.length co42 : Value).ownBlock ∧ some k_ ≠ (.slice Ao44 t628.length co44 : Value).ownBlock ∧ some k_ ≠ (.slice Ao47 y633.length co47 : Value).ownBlock ∧ k_ ≠ gb632) (Kd.S_N (Kd.S_bound ho1)) (fun k_ hk_ => ⟨hk_.1, (Kd.fresh' (Kd.N_lt (by (with_reducible repeat (first | apply Kd.N_alloc | apply Kd.N_drewN | apply Kd.N_drew)); exact HO_4.out)) k_ hk_.2.1), (Kd.fresh' (Kd.N_lt (by (with_reducible repeat (first | apply Kd.N_alloc | apply Kd.N_drewN | apply Kd.N_drew)); exact HO_5.out)) k_ hk_.2.1), (Kd.fresh' (Kd.N_lt (by (with_reducible repeat (first | apply Kd.N_alloc | apply Kd.N_drewN | apply Kd.N_drew)); exact HO621.out)) k_ hk_.2.1), (Kd.fresh' (Kd.R_lt (by (with_reducible repeat (first | apply Kd.R_alloc | apply Kd.R_drewN | apply Kd.R_drew)); exact HO624.out)) k_ hk_.2.1), (Kd.fresh' (Kd.R_lt (by (with_reducible repeat (first | apply Kd.R_alloc | apply Kd.R_drewN | apply Kd.R_drew)); exact HO627.out)) k_ hk_.2.1), (Kd.fresh' (Kd.N_lt (by (with_reducible repeat (first | apply Kd.N_alloc | apply Kd.N_drewN | apply Kd.N_drew)); exact HO630.out)) k_ hk_.2.1), (Kd.fresh' (Kd.R_lt (by (with_reducible repeat (first | apply Kd.R_alloc | apply Kd.R_drewN | apply Kd.R_drew)); exact HO635.out)) k_ hk_.2.1), (Kd.freshB (g := gb632) (o := .cells #[.slice Ao42 t625.length co42, .slice Ao44 t628.length co44] 28 (0, 0)) (by (with_reducible repeat (first | refine blk_drewN ?_ _ | refine blk_drew ?_ | refine blk_alloc ?_ _)); exact BK632.out) k_ hk_.2.1)⟩)) (below_size (by repeat (first | (with_reducible first | exact HB.out | apply below_alloc | apply pw_below_drewN | apply below_drew1 | refine below_set ?_ GE632.out) | exact HB.out)))); have n9_ := Aside0.mk (blk_below (g := gb632) (o := .cells #[.slice Ao42 t625.length co42, .slice Ao44 t628.length co44] 28 (0, 0)) (by (with_reducible repeat (first | refine blk_drewN ?_ _ | refine blk_drew ?_ | refine blk_alloc ?_ _)); exact BK632.out) hb); have n10_ := Aside0.mk (below_step (by repeat (first | (with_reducible first | exact HB.out | apply below_alloc | apply pw_below_drewN | apply below_drew1 | refine below_set ?_ GE632.out) | exact HB.out)) hb); clear HO_4; clear HO_5; clear HO621; clear HO624; clear HO627; clear HO630; clear HO635; clear BK632; clear HB; have HO_4 := n0_; have HO_5 := n1_; have HO621 := n2_; have HO624 := n3_; have HO627 := n4_; have HO630 := n5_; have HO635 := n6_; have HO638 := n7_; have HO641 := n8_; have BK632 := n9_; have HB := n10_; clear n0_ n1_ n2_ n3_ n4_ n5_ n6_ n7_ n8_ n9_ n10_; (try clear hb); (try clear hb2); (try clear hk); (try clear hi); (try clear ho0); (try clear ho1)) | ((with_reducible refine gate_dst (N := 10) rfl ?_); (try (refine gate_guard (by rfl) ?_; dsimp only)); refine box_event ?hg (N := 10) ?hd (cs := #[.slice none 0 0, .slice none 0 0]) (t := 28) ?hr ?_; (case hd => rfl); (case hg => rfl); (case hr => first | (go_simp; done) | (go_simp; rfl)); intro gb643 hg w49 hbox hb; have n0_ := Aside0.mk (Kd.N_below (Kd.N_elderB (by (with_reducible repeat (first | apply Kd.N_alloc | apply Kd.N_drewN | apply Kd.N_drew)); exact HO_4.out) gb643 (Nat.le_of_eq hg.symm)) hb); have n1_ := Aside0.mk (Kd.N_below (Kd.N_elderB (by (with_reducible repeat (first | apply Kd.N_alloc | apply Kd.N_drewN | apply Kd.N_drew)); exact HO_5.out) gb643 (Nat.le_of_eq hg.symm)) hb); have n2_ := Aside0.mk (Kd.N_below (Kd.N_elderB (by (with_reducible repeat (first | apply Kd.N_alloc | apply Kd.N_drewN | apply Kd.N_drew)); exact HO621.out) gb643 (Nat.le_of_eq hg.symm)) hb); have n3_ := Aside0.mk (Kd.R_below (by (with_reducible repeat (first | apply Kd.R_alloc | apply Kd.R_drewN | apply Kd.R_drew)); exact HO624.out) hb); have n4_ := Aside0.mk (Kd.R_below (by (with_reducible repeat (first | apply Kd.R_alloc | apply Kd.R_drewN | apply Kd.R_drew)); exact HO627.out) hb); have n5_ := Aside0.mk (Kd.N_below (Kd.N_elderB (by (with_reducible repeat (first | apply Kd.N_alloc | apply Kd.N_drewN | apply Kd.N_drew)); exact HO630.out) gb643 (Nat.le_of_eq hg.symm)) hb); have n6_ := Aside0.mk (Kd.R_below (by (with_reducible repeat (first | apply Kd.R_alloc | apply Kd.R_drewN | apply Kd.R_drew)); exact HO635.out) hb); have n7_ := Aside0.mk (Kd.R_below (by (with_reducible repeat (first | apply Kd.R_alloc | apply Kd.R_drewN | apply Kd.R_drew)); exact HO638.out) hb); have n8_ := Aside0.mk (Kd.N_below (Kd.N_elderB (by (with_reducible repeat (first | apply Kd.N_alloc | apply Kd.N_drewN | apply Kd.N_drew)); exact HO641.out) gb643 (Nat.le_of_eq hg.symm)) hb); have n9_ := Aside0.mk (blk_below (g := gb632) (o := .cells #[.slice Ao42 t625.length co42, .slice Ao44 t628.length co44] 28 (0, 0)) (by (with_reducible repeat (first | refine blk_drewN ?_ _ | refine blk_drew ?_ | refine blk_alloc ?_ _)); exact BK632.out) hb); have n10_ := Aside0.mk (below_step (by repeat (first | (with_reducible first | exact HB.out | apply below_alloc | apply pw_below_drewN | apply below_drew1 | refine below_set ?_ GE632.out) | exact HB.out)) hb); have n11_ := Aside0.mk (hbox); have n12_ := Aside0.mk ((by rw [hg]; exact (below_size (by repeat (first | (with_reducible first | exact HB.out | apply below_alloc | apply pw_below_drewN | apply below_drew1 | refine below_set ?_ GE632.out) | exact HB.out))) : w.heap.size ≤ gb643)); have n13_ := Aside0.mk ((by rw [hg]; exact (below_size (by repeat (first | (with_reducible first | exact HB.out | apply below_alloc | apply pw_below_drewN | apply below_drew1 | refine below_set ?_ GE632.out) | exact HB.out))) : w.heap.size ≤ gb643)); have n14_ := Aside0.mk ((by rw [hg]; exact Nat.ne_of_lt (blk_lt (g := gb632) (o := .cells #[.slice Ao42 t625.length co42, .slice Ao44 t628.length co44] 28 (0, 0)) (by (with_reducible repeat (first | refine blk_drewN ?_ _ | refine blk_drew ?_ | refine blk_alloc ?_ _)); exact BK632.out)) : gb632 ≠ gb643)); have n15_ := Aside0.mk ((by rw [hg]; exact Nat.ne_of_gt (blk_lt (g := gb632) (o := .cells #[.slice Ao42 t625.length co42, .slice Ao44 t628.length co44] 28 (0, 0)) (by (with_reducible repeat (first | refine blk_drewN ?_ _ | refine blk_drew ?_ | refine blk_alloc ?_ _)); exact BK632.out)) : gb643 ≠ gb632)); clear HO_4; clear HO_5; clear HO621; clear HO624; clear HO627; clear HO630; clear HO635; clear HO638; clear HO641; clear BK632; clear HB; have HO_4 := n0_; have HO_5 := n1_; have HO621 := n2_; have HO624 := n3_; have HO627 := n4_; have HO630 := n5_; have HO635 := n6_; have HO638 := n7_; have HO641 := n8_; have BK632 := n9_; have HB := n10_; have BK643 := n11_; have GW643 := n12_; have GE643 := n13_; have NB632_643 := n14_; have NB643_632 := n15_; clear n0_ n1_ n2_ n3_ n4_ n5_ n6_ n7_ n8_ n9_ n10_ n11_ n12_ n13_ n14_ n15_; clear hb hbox hg; obtain ⟨Ao50, co50, eo50⟩ := Kd.R_slice HO638.out; subst eo50; have hnb51 := NB643_632.out; have hnc51 := NB632_643.out; have hcz52_0 : w49.cell? ⟨gb643, 0, none⟩ = some (.slice none 0 0) := (blk_cell BK643.out 0).trans rfl; have hcz52_1 : w49.cell? ⟨gb643, 1, none⟩ = some (.slice none 0 0) := (blk_cell BK643.out 1).trans rfl; have hfz52_0 := blk_frozen BK643.out 0; have hfz52_1 := blk_frozen BK643.out 1; obtain ⟨Ao53, co53, eo53⟩ := Kd.N_slice HO641.out; subst eo53))
      (try simp only [Act.put, List.setIfInBounds_toArray, List.set_cons_zero, List.set_cons_succ])
      go_cut [88] (fun v88 wc => ∃ (kq : Nat) (x88_31 : Bool), v88 = .bool x88_31 ∧ Aside0 (arboristlaw07_BuiltRows.j2 kq t594 t619 x88_31 t625 t628 t636 t639 = some r) ∧ Aside0 (kq ≤ kj2) ∧ Aside0 (Kd.N (Kd.slice 3 (Kd.int .i64)) 23 wc w.heap.size (fun k_ => some k_ ≠ ((.slice Ao42 t625.length co42) : Value).ownBlock ∧ some k_ ≠ ((.slice Ao44 t628.length co44) : Value).ownBlock ∧ some k_ ≠ ((.slice Ao50 t636.length co50) : Value).ownBlock ∧ some k_ ≠ ((.slice Ao53 t639.length co53) : Value).ownBlock ∧ k_ ≠ gb632 ∧ k_ ≠ gb643) (.slice Ao37 t619.length co37) t619) ∧ Aside0 (Kd.R (Kd.int .i64) 3 wc w.heap.size (fun k_ => some k_ ≠ ((.slice Ao50 t636.length co50) : Value).ownBlock) (.slice Ao42 t625.length co42) t625) ∧ Aside0 (Kd.N (Kd.slice 3 (Kd.int .i64)) 23 wc w.heap.size (fun k_ => some k_ ≠ ((.slice Ao37 t619.length co37) : Value).ownBlock ∧ some k_ ≠ ((.slice Ao42 t625.length co42) : Value).ownBlock ∧ some k_ ≠ ((.slice Ao50 t636.length co50) : Value).ownBlock ∧ some k_ ≠ ((.slice Ao53 t639.length co53) : Value).ownBlock ∧ k_ ≠ gb632 ∧ k_ ≠ gb643) (.slice Ao44 t628.length co44) t628) ∧ Aside0 (Kd.R (Kd.int .i64) 3 wc w.heap.size (fun k_ => some k_ ≠ ((.slice Ao42 t625.length co42) : Value).ownBlock) (.slice Ao50 t636.length co50) t636) ∧ Aside0 (Kd.N (Kd.slice 3 (Kd.int .i64)) 23 wc w.heap.size (fun k_ => some k_ ≠ ((.slice Ao37 t619.length co37) : Value).ownBlock ∧ some k_ ≠ ((.slice Ao42 t625.length co42) : Value).ownBlock ∧ some k_ ≠ ((.slice Ao44 t628.length co44) : Value).ownBlock ∧ some k_ ≠ ((.slice Ao50 t636.length co50) : Value).ownBlock ∧ k_ ≠ gb632 ∧ k_ ≠ gb643) (.slice Ao53 t639.length co53) t639) ∧ Aside0 (wc.heap[gb632]? = some (.cells #[(.slice Ao42 t625.length co42), (.slice Ao44 t628.length co44)] 28 (0, 0))) ∧ Aside0 (wc.heap[gb643]? = some (.cells #[(.slice Ao50 t636.length co50), (.slice Ao53 t639.length co53)] 28 (0, 0))) ∧ Aside0 (Below w.heap.size w wc))
      case first =>
        have H := HC32.out
        clear HC32
        by_cases c54 : t631 = 0
        · rw [if_pos c54] at H
          have c54b0 : (t631 == 0) = true := beq_iff_eq.mpr c54
          have c54b1 : (t631 != 0) = false := bne_eq_false_iff_eq.mpr c54
          clear c54
          (first | rw [c54b0] | (simp only [i64_w, i32_w]; rw [c54b0]) | skip)
          by_cases c55 : t642 = 0
          · rw [if_pos c55] at H
            have c55b0 : (t642 == 0) = true := beq_iff_eq.mpr c55
            have c55b1 : (t642 != 0) = false := bne_eq_false_iff_eq.mpr c55
            clear c55
            by_cases c56 : (t628.length : Int) = (t619.length : Int)
            · rw [if_pos c56] at H
              have c56b0 : ((t628.length : Int) == (t619.length : Int)) = true := beq_iff_eq.mpr c56
              have c56b1 : ((t628.length : Int) != (t619.length : Int)) = false := bne_eq_false_iff_eq.mpr c56
              have c56b2 : (t628.length == t619.length) = true := by first | simpa using c56 | (simp at c56 ⊢; omega)
              clear c56
              have H' := Aside0.mk H
              clear H
              have hnb57 := NB632_643.out
              have hnc57 := NB643_632.out
              have hcz58_0 : w49.cell? ⟨gb632, 0, none⟩ = some (.slice Ao42 t625.length co42) := (blk_cell BK632.out 0).trans rfl
              have hcz58_1 : w49.cell? ⟨gb632, 1, none⟩ = some (.slice Ao44 t628.length co44) := (blk_cell BK632.out 1).trans rfl
              have hfz58_0 := blk_frozen BK632.out 0
              have hfz58_1 := blk_frozen BK632.out 1
              have hcz59_0 : w49.cell? ⟨gb643, 0, none⟩ = some (.slice none 0 0) := (blk_cell BK643.out 0).trans rfl
              have hcz59_1 : w49.cell? ⟨gb643, 1, none⟩ = some (.slice none 0 0) := (blk_cell BK643.out 1).trans rfl
              have hfz59_0 := blk_frozen BK643.out 0
              have hfz59_1 := blk_frozen BK643.out 1
              go_wp2
              go_meet
              case rel => exact ⟨_, (((wrap64 ((t628.length : Int) + (t639.length : Int))) != 64)), (by first | rfl | (simp; done) | (simp [*]; done)), H', ⟨by have := HJ2.out; first | omega | exact Nat.le_refl _⟩, ⟨by (with_reducible repeat (first | apply Kd.N_alloc | apply Kd.N_drewN | apply Kd.N_drew)); exact Kd.N_mono (Kd.N_far (p := ⟨gb643, 1, none⟩) (Kd.N_far (p := ⟨gb643, 0, none⟩) (Kd.N_mono HO621.out (fun k_ hk => (⟨hk, hk.2⟩ : _ ∧ k_ ≠ gb643))) (fun _ hk => hk.2) (.slice Ao50 t636.length co50)) (fun _ hk => hk.2) (.slice Ao53 t639.length co53)) (fun _ hk => ⟨hk.1.1.1.1.1.1.1.2, ⟨hk.1.1.1.1.1.1.2, ⟨hk.1.1.1.2, ⟨hk.1.1.2, ⟨hk.1.1.1.1.1.2, hk.1.2⟩⟩⟩⟩⟩)⟩, ⟨by (with_reducible repeat (first | apply Kd.R_alloc | apply Kd.R_drewN | apply Kd.R_drew)); exact Kd.R_mono (Kd.R_far (p := ⟨gb643, 1, none⟩) (Kd.R_far (p := ⟨gb643, 0, none⟩) (Kd.R_types HO627.out BK643.out (by decide)) (fun _ hk => hk.2) (.slice Ao50 t636.length co50)) (fun _ hk => hk.2) (.slice Ao53 t639.length co53)) (fun _ hk => hk.1.2)⟩, ⟨by (with_reducible repeat (first | apply Kd.N_alloc | apply Kd.N_drewN | apply Kd.N_drew)); exact Kd.N_mono (Kd.N_far (p := ⟨gb643, 1, none⟩) (Kd.N_far (p := ⟨gb643, 0, none⟩) (Kd.N_mono HO630.out (fun k_ hk => (⟨hk, hk.2⟩ : _ ∧ k_ ≠ gb643))) (fun _ hk => hk.2) (.slice Ao50 t636.length co50)) (fun _ hk => hk.2) (.slice Ao53 t639.length co53)) (fun _ hk => ⟨hk.1.1.1.1.1.1.2.2.2.1, ⟨hk.1.1.1.1.1.1.1, ⟨hk.1.1.1.2, ⟨hk.1.1.2, ⟨hk.1.1.1.1.1.2, hk.1.2⟩⟩⟩⟩⟩)⟩, ⟨by (with_reducible repeat (first | apply Kd.R_alloc | apply Kd.R_drewN | apply Kd.R_drew)); exact Kd.R_mono (Kd.R_far (p := ⟨gb643, 1, none⟩) (Kd.R_far (p := ⟨gb643, 0, none⟩) (Kd.R_types HO638.out BK643.out (by decide)) (fun _ hk => hk.2) (.slice Ao50 t636.length co50)) (fun _ hk => hk.2) (.slice Ao53 t639.length co53)) (fun _ hk => hk.1.1.2)⟩, ⟨by (with_reducible repeat (first | apply Kd.N_alloc | apply Kd.N_drewN | apply Kd.N_drew)); exact Kd.N_mono (Kd.N_far (p := ⟨gb643, 1, none⟩) (Kd.N_far (p := ⟨gb643, 0, none⟩) (Kd.N_mono HO641.out (fun k_ hk => (⟨hk, hk.2⟩ : _ ∧ k_ ≠ gb643))) (fun _ hk => hk.2) (.slice Ao50 t636.length co50)) (fun _ hk => hk.2) (.slice Ao53 t639.length co53)) (fun _ hk => ⟨hk.1.1.2.2.2.1, ⟨hk.1.1.2.2.2.2.2.1, ⟨hk.1.1.2.2.2.2.2.2.1, ⟨hk.1.1.1, ⟨hk.1.1.2.2.2.2.2.2.2.2, hk.1.2⟩⟩⟩⟩⟩)⟩, ⟨by (with_reducible repeat (first | refine blk_drewN ?_ _ | refine blk_drew ?_ | refine blk_alloc ?_ _)); refine blk_far ?_ NB632_643.out _; (with_reducible repeat (first | refine blk_drewN ?_ _ | refine blk_drew ?_ | refine blk_alloc ?_ _)); refine blk_far ?_ NB632_643.out _; (with_reducible repeat (first | refine blk_drewN ?_ _ | refine blk_drew ?_ | refine blk_alloc ?_ _)); exact BK632.out⟩, ⟨by (with_reducible repeat (first | refine blk_drewN ?_ _ | refine blk_drew ?_ | refine blk_alloc ?_ _)); refine blk_put (cs := #[.slice Ao50 t636.length co50, .slice none 0 0]) ?_ 1 _ rfl; (with_reducible repeat (first | refine blk_drewN ?_ _ | refine blk_drew ?_ | refine blk_alloc ?_ _)); refine blk_put (cs := #[.slice none 0 0, .slice none 0 0]) ?_ 0 _ rfl; (with_reducible repeat (first | refine blk_drewN ?_ _ | refine blk_drew ?_ | refine blk_alloc ?_ _)); exact BK643.out⟩, ⟨by repeat (first | (with_reducible first | exact HB.out | apply below_alloc | apply pw_below_drewN | apply below_drew1 | refine below_set ?_ GE632.out | refine below_set ?_ GE643.out) | exact HB.out)⟩⟩
            · rw [if_neg c56] at H
              have c56b0 : ((t628.length : Int) == (t619.length : Int)) = false := beq_eq_false_iff_ne.mpr c56
              have c56b1 : ((t628.length : Int) != (t619.length : Int)) = true := bne_iff_ne.mpr c56
              have c56b2 : (t628.length == t619.length) = false := by first | simpa using c56 | (simp at c56 ⊢; omega)
              have H' := Aside0.mk H
              clear H
              have hnb60 := NB632_643.out
              have hnc60 := NB643_632.out
              have hcz61_0 : w49.cell? ⟨gb632, 0, none⟩ = some (.slice Ao42 t625.length co42) := (blk_cell BK632.out 0).trans rfl
              have hcz61_1 : w49.cell? ⟨gb632, 1, none⟩ = some (.slice Ao44 t628.length co44) := (blk_cell BK632.out 1).trans rfl
              have hfz61_0 := blk_frozen BK632.out 0
              have hfz61_1 := blk_frozen BK632.out 1
              go_wp2
              go_meet
              case rel => exact ⟨_, (true), (by first | rfl | (simp; done) | (simp [*]; done)), H', ⟨by have := HJ2.out; first | omega | exact Nat.le_refl _⟩, ⟨by (with_reducible repeat (first | apply Kd.N_alloc | apply Kd.N_drewN | apply Kd.N_drew)); exact Kd.N_mono (Kd.N_far (p := ⟨gb643, 1, none⟩) (Kd.N_far (p := ⟨gb643, 0, none⟩) (Kd.N_mono HO621.out (fun k_ hk => (⟨hk, hk.2⟩ : _ ∧ k_ ≠ gb643))) (fun _ hk => hk.2) (.slice Ao50 t636.length co50)) (fun _ hk => hk.2) (.slice Ao53 t639.length co53)) (fun _ hk => ⟨hk.1.1.1.1.1.1.1.2, ⟨hk.1.1.1.1.1.1.2, ⟨hk.1.1.1.2, ⟨hk.1.1.2, ⟨hk.1.1.1.1.1.2, hk.1.2⟩⟩⟩⟩⟩)⟩, ⟨by (with_reducible repeat (first | apply Kd.R_alloc | apply Kd.R_drewN | apply Kd.R_drew)); exact Kd.R_mono (Kd.R_far (p := ⟨gb643, 1, none⟩) (Kd.R_far (p := ⟨gb643, 0, none⟩) (Kd.R_types HO627.out BK643.out (by decide)) (fun _ hk => hk.2) (.slice Ao50 t636.length co50)) (fun _ hk => hk.2) (.slice Ao53 t639.length co53)) (fun _ hk => hk.1.2)⟩, ⟨by (with_reducible repeat (first | apply Kd.N_alloc | apply Kd.N_drewN | apply Kd.N_drew)); exact Kd.N_mono (Kd.N_far (p := ⟨gb643, 1, none⟩) (Kd.N_far (p := ⟨gb643, 0, none⟩) (Kd.N_mono HO630.out (fun k_ hk => (⟨hk, hk.2⟩ : _ ∧ k_ ≠ gb643))) (fun _ hk => hk.2) (.slice Ao50 t636.length co50)) (fun _ hk => hk.2) (.slice Ao53 t639.length co53)) (fun _ hk => ⟨hk.1.1.1.1.1.1.2.2.2.1, ⟨hk.1.1.1.1.1.1.1, ⟨hk.1.1.1.2, ⟨hk.1.1.2, ⟨hk.1.1.1.1.1.2, hk.1.2⟩⟩⟩⟩⟩)⟩, ⟨by (with_reducible repeat (first | apply Kd.R_alloc | apply Kd.R_drewN | apply Kd.R_drew)); exact Kd.R_mono (Kd.R_far (p := ⟨gb643, 1, none⟩) (Kd.R_far (p := ⟨gb643, 0, none⟩) (Kd.R_types HO638.out BK643.out (by decide)) (fun _ hk => hk.2) (.slice Ao50 t636.length co50)) (fun _ hk => hk.2) (.slice Ao53 t639.length co53)) (fun _ hk => hk.1.1.2)⟩, ⟨by (with_reducible repeat (first | apply Kd.N_alloc | apply Kd.N_drewN | apply Kd.N_drew)); exact Kd.N_mono (Kd.N_far (p := ⟨gb643, 1, none⟩) (Kd.N_far (p := ⟨gb643, 0, none⟩) (Kd.N_mono HO641.out (fun k_ hk => (⟨hk, hk.2⟩ : _ ∧ k_ ≠ gb643))) (fun _ hk => hk.2) (.slice Ao50 t636.length co50)) (fun _ hk => hk.2) (.slice Ao53 t639.length co53)) (fun _ hk => ⟨hk.1.1.2.2.2.1, ⟨hk.1.1.2.2.2.2.2.1, ⟨hk.1.1.2.2.2.2.2.2.1, ⟨hk.1.1.1, ⟨hk.1.1.2.2.2.2.2.2.2.2, hk.1.2⟩⟩⟩⟩⟩)⟩, ⟨by (with_reducible repeat (first | refine blk_drewN ?_ _ | refine blk_drew ?_ | refine blk_alloc ?_ _)); refine blk_far ?_ NB632_643.out _; (with_reducible repeat (first | refine blk_drewN ?_ _ | refine blk_drew ?_ | refine blk_alloc ?_ _)); refine blk_far ?_ NB632_643.out _; (with_reducible repeat (first | refine blk_drewN ?_ _ | refine blk_drew ?_ | refine blk_alloc ?_ _)); exact BK632.out⟩, ⟨by (with_reducible repeat (first | refine blk_drewN ?_ _ | refine blk_drew ?_ | refine blk_alloc ?_ _)); refine blk_put (cs := #[.slice Ao50 t636.length co50, .slice none 0 0]) ?_ 1 _ rfl; (with_reducible repeat (first | refine blk_drewN ?_ _ | refine blk_drew ?_ | refine blk_alloc ?_ _)); refine blk_put (cs := #[.slice none 0 0, .slice none 0 0]) ?_ 0 _ rfl; (with_reducible repeat (first | refine blk_drewN ?_ _ | refine blk_drew ?_ | refine blk_alloc ?_ _)); exact BK643.out⟩, ⟨by repeat (first | (with_reducible first | exact HB.out | apply below_alloc | apply pw_below_drewN | apply below_drew1 | refine below_set ?_ GE632.out | refine below_set ?_ GE643.out) | exact HB.out)⟩⟩
          · rw [if_neg c55] at H
            have c55b0 : (t642 == 0) = false := beq_eq_false_iff_ne.mpr c55
            have c55b1 : (t642 != 0) = true := bne_iff_ne.mpr c55
            have H' := Aside0.mk H
            clear H
            go_wp2
            go_meet
            case rel => exact ⟨_, (true), (by first | rfl | (simp; done) | (simp [*]; done)), H', ⟨by have := HJ2.out; first | omega | exact Nat.le_refl _⟩, ⟨by (with_reducible repeat (first | apply Kd.N_alloc | apply Kd.N_drewN | apply Kd.N_drew)); exact Kd.N_mono (Kd.N_far (p := ⟨gb643, 1, none⟩) (Kd.N_far (p := ⟨gb643, 0, none⟩) (Kd.N_mono HO621.out (fun k_ hk => (⟨hk, hk.2⟩ : _ ∧ k_ ≠ gb643))) (fun _ hk => hk.2) (.slice Ao50 t636.length co50)) (fun _ hk => hk.2) (.slice Ao53 t639.length co53)) (fun _ hk => ⟨hk.1.1.1.1.1.1.1.2, ⟨hk.1.1.1.1.1.1.2, ⟨hk.1.1.1.2, ⟨hk.1.1.2, ⟨hk.1.1.1.1.1.2, hk.1.2⟩⟩⟩⟩⟩)⟩, ⟨by (with_reducible repeat (first | apply Kd.R_alloc | apply Kd.R_drewN | apply Kd.R_drew)); exact Kd.R_mono (Kd.R_far (p := ⟨gb643, 1, none⟩) (Kd.R_far (p := ⟨gb643, 0, none⟩) (Kd.R_types HO627.out BK643.out (by decide)) (fun _ hk => hk.2) (.slice Ao50 t636.length co50)) (fun _ hk => hk.2) (.slice Ao53 t639.length co53)) (fun _ hk => hk.1.2)⟩, ⟨by (with_reducible repeat (first | apply Kd.N_alloc | apply Kd.N_drewN | apply Kd.N_drew)); exact Kd.N_mono (Kd.N_far (p := ⟨gb643, 1, none⟩) (Kd.N_far (p := ⟨gb643, 0, none⟩) (Kd.N_mono HO630.out (fun k_ hk => (⟨hk, hk.2⟩ : _ ∧ k_ ≠ gb643))) (fun _ hk => hk.2) (.slice Ao50 t636.length co50)) (fun _ hk => hk.2) (.slice Ao53 t639.length co53)) (fun _ hk => ⟨hk.1.1.1.1.1.1.2.2.2.1, ⟨hk.1.1.1.1.1.1.1, ⟨hk.1.1.1.2, ⟨hk.1.1.2, ⟨hk.1.1.1.1.1.2, hk.1.2⟩⟩⟩⟩⟩)⟩, ⟨by (with_reducible repeat (first | apply Kd.R_alloc | apply Kd.R_drewN | apply Kd.R_drew)); exact Kd.R_mono (Kd.R_far (p := ⟨gb643, 1, none⟩) (Kd.R_far (p := ⟨gb643, 0, none⟩) (Kd.R_types HO638.out BK643.out (by decide)) (fun _ hk => hk.2) (.slice Ao50 t636.length co50)) (fun _ hk => hk.2) (.slice Ao53 t639.length co53)) (fun _ hk => hk.1.1.2)⟩, ⟨by (with_reducible repeat (first | apply Kd.N_alloc | apply Kd.N_drewN | apply Kd.N_drew)); exact Kd.N_mono (Kd.N_far (p := ⟨gb643, 1, none⟩) (Kd.N_far (p := ⟨gb643, 0, none⟩) (Kd.N_mono HO641.out (fun k_ hk => (⟨hk, hk.2⟩ : _ ∧ k_ ≠ gb643))) (fun _ hk => hk.2) (.slice Ao50 t636.length co50)) (fun _ hk => hk.2) (.slice Ao53 t639.length co53)) (fun _ hk => ⟨hk.1.1.2.2.2.1, ⟨hk.1.1.2.2.2.2.2.1, ⟨hk.1.1.2.2.2.2.2.2.1, ⟨hk.1.1.1, ⟨hk.1.1.2.2.2.2.2.2.2.2, hk.1.2⟩⟩⟩⟩⟩)⟩, ⟨by (with_reducible repeat (first | refine blk_drewN ?_ _ | refine blk_drew ?_ | refine blk_alloc ?_ _)); refine blk_far ?_ NB632_643.out _; (with_reducible repeat (first | refine blk_drewN ?_ _ | refine blk_drew ?_ | refine blk_alloc ?_ _)); refine blk_far ?_ NB632_643.out _; (with_reducible repeat (first | refine blk_drewN ?_ _ | refine blk_drew ?_ | refine blk_alloc ?_ _)); exact BK632.out⟩, ⟨by (with_reducible repeat (first | refine blk_drewN ?_ _ | refine blk_drew ?_ | refine blk_alloc ?_ _)); refine blk_put (cs := #[.slice Ao50 t636.length co50, .slice none 0 0]) ?_ 1 _ rfl; (with_reducible repeat (first | refine blk_drewN ?_ _ | refine blk_drew ?_ | refine blk_alloc ?_ _)); refine blk_put (cs := #[.slice none 0 0, .slice none 0 0]) ?_ 0 _ rfl; (with_reducible repeat (first | refine blk_drewN ?_ _ | refine blk_drew ?_ | refine blk_alloc ?_ _)); exact BK643.out⟩, ⟨by repeat (first | (with_reducible first | exact HB.out | apply below_alloc | apply pw_below_drewN | apply below_drew1 | refine below_set ?_ GE632.out | refine below_set ?_ GE643.out) | exact HB.out)⟩⟩
        · rw [if_neg c54] at H
          have c54b0 : (t631 == 0) = false := beq_eq_false_iff_ne.mpr c54
          have c54b1 : (t631 != 0) = true := bne_iff_ne.mpr c54
          (first | rw [c54b0] | (simp only [i64_w, i32_w]; rw [c54b0]) | skip)
          have H' := Aside0.mk H
          clear H
          go_wp2
          go_meet
          case rel => exact ⟨_, (true), (by first | rfl | (simp; done) | (simp [*]; done)), H', ⟨by have := HJ2.out; first | omega | exact Nat.le_refl _⟩, ⟨by (with_reducible repeat (first | apply Kd.N_alloc | apply Kd.N_drewN | apply Kd.N_drew)); exact Kd.N_mono (Kd.N_far (p := ⟨gb643, 1, none⟩) (Kd.N_far (p := ⟨gb643, 0, none⟩) (Kd.N_mono HO621.out (fun k_ hk => (⟨hk, hk.2⟩ : _ ∧ k_ ≠ gb643))) (fun _ hk => hk.2) (.slice Ao50 t636.length co50)) (fun _ hk => hk.2) (.slice Ao53 t639.length co53)) (fun _ hk => ⟨hk.1.1.1.1.1.1.1.2, ⟨hk.1.1.1.1.1.1.2, ⟨hk.1.1.1.2, ⟨hk.1.1.2, ⟨hk.1.1.1.1.1.2, hk.1.2⟩⟩⟩⟩⟩)⟩, ⟨by (with_reducible repeat (first | apply Kd.R_alloc | apply Kd.R_drewN | apply Kd.R_drew)); exact Kd.R_mono (Kd.R_far (p := ⟨gb643, 1, none⟩) (Kd.R_far (p := ⟨gb643, 0, none⟩) (Kd.R_types HO627.out BK643.out (by decide)) (fun _ hk => hk.2) (.slice Ao50 t636.length co50)) (fun _ hk => hk.2) (.slice Ao53 t639.length co53)) (fun _ hk => hk.1.2)⟩, ⟨by (with_reducible repeat (first | apply Kd.N_alloc | apply Kd.N_drewN | apply Kd.N_drew)); exact Kd.N_mono (Kd.N_far (p := ⟨gb643, 1, none⟩) (Kd.N_far (p := ⟨gb643, 0, none⟩) (Kd.N_mono HO630.out (fun k_ hk => (⟨hk, hk.2⟩ : _ ∧ k_ ≠ gb643))) (fun _ hk => hk.2) (.slice Ao50 t636.length co50)) (fun _ hk => hk.2) (.slice Ao53 t639.length co53)) (fun _ hk => ⟨hk.1.1.1.1.1.1.2.2.2.1, ⟨hk.1.1.1.1.1.1.1, ⟨hk.1.1.1.2, ⟨hk.1.1.2, ⟨hk.1.1.1.1.1.2, hk.1.2⟩⟩⟩⟩⟩)⟩, ⟨by (with_reducible repeat (first | apply Kd.R_alloc | apply Kd.R_drewN | apply Kd.R_drew)); exact Kd.R_mono (Kd.R_far (p := ⟨gb643, 1, none⟩) (Kd.R_far (p := ⟨gb643, 0, none⟩) (Kd.R_types HO638.out BK643.out (by decide)) (fun _ hk => hk.2) (.slice Ao50 t636.length co50)) (fun _ hk => hk.2) (.slice Ao53 t639.length co53)) (fun _ hk => hk.1.1.2)⟩, ⟨by (with_reducible repeat (first | apply Kd.N_alloc | apply Kd.N_drewN | apply Kd.N_drew)); exact Kd.N_mono (Kd.N_far (p := ⟨gb643, 1, none⟩) (Kd.N_far (p := ⟨gb643, 0, none⟩) (Kd.N_mono HO641.out (fun k_ hk => (⟨hk, hk.2⟩ : _ ∧ k_ ≠ gb643))) (fun _ hk => hk.2) (.slice Ao50 t636.length co50)) (fun _ hk => hk.2) (.slice Ao53 t639.length co53)) (fun _ hk => ⟨hk.1.1.2.2.2.1, ⟨hk.1.1.2.2.2.2.2.1, ⟨hk.1.1.2.2.2.2.2.2.1, ⟨hk.1.1.1, ⟨hk.1.1.2.2.2.2.2.2.2.2, hk.1.2⟩⟩⟩⟩⟩)⟩, ⟨by (with_reducible repeat (first | refine blk_drewN ?_ _ | refine blk_drew ?_ | refine blk_alloc ?_ _)); refine blk_far ?_ NB632_643.out _; (with_reducible repeat (first | refine blk_drewN ?_ _ | refine blk_drew ?_ | refine blk_alloc ?_ _)); refine blk_far ?_ NB632_643.out _; (with_reducible repeat (first | refine blk_drewN ?_ _ | refine blk_drew ?_ | refine blk_alloc ?_ _)); exact BK632.out⟩, ⟨by (with_reducible repeat (first | refine blk_drewN ?_ _ | refine blk_drew ?_ | refine blk_alloc ?_ _)); refine blk_put (cs := #[.slice Ao50 t636.length co50, .slice none 0 0]) ?_ 1 _ rfl; (with_reducible repeat (first | refine blk_drewN ?_ _ | refine blk_drew ?_ | refine blk_alloc ?_ _)); refine blk_put (cs := #[.slice none 0 0, .slice none 0 0]) ?_ 0 _ rfl; (with_reducible repeat (first | refine blk_drewN ?_ _ | refine blk_drew ?_ | refine blk_alloc ?_ _)); exact BK643.out⟩, ⟨by repeat (first | (with_reducible first | exact HB.out | apply below_alloc | apply pw_below_drewN | apply below_drew1 | refine below_set ?_ GE632.out | refine below_set ?_ GE643.out) | exact HB.out)⟩⟩
      case rest =>
        clear HC32
        try clear c1
        try clear c2
        try clear p2
        try clear c5
        try clear c6
        try clear p6
        try clear q6
        try clear hx6
        try clear qi6
        try clear c7
        try clear c9
        try clear c14
        try clear c15
        try clear c15b0
        try clear c16
        try clear c16b0
        try clear c17
        try clear c17b0
        try clear c18
        try clear c19
        try clear c19b0
        try clear c19b1
        try clear c20
        try clear c20b0
        try clear c20b1
        try clear c21
        try clear c51
        try clear c54
        try clear c54b0
        try clear c54b1
        try clear c55
        try clear c55b0
        try clear c55b1
        try clear c56
        try clear c56b0
        try clear c56b1
        try clear c56b2
        try clear c57
        try clear c60
        try clear p60
        try clear q60
        try clear hx60
        try clear p61
        try clear q61
        try clear hx61
        try clear qi61
        try clear hcz43_0
        try clear hcz43_1
        try clear hcz52_0
        try clear hcz52_1
        try clear hcz58_0
        try clear hcz58_1
        try clear hcz59_0
        try clear hcz59_1
        try clear hcz61_0
        try clear hcz61_1
        try clear hfz43_0
        try clear hfz43_1
        try clear hfz52_0
        try clear hfz52_1
        try clear hfz58_0
        try clear hfz58_1
        try clear hfz59_0
        try clear hfz59_1
        try clear hfz61_0
        try clear hfz61_1
        try clear hx607_0
        try clear hx611_0
        try clear hx612_0
        try clear p2
        try clear p6
        try clear p607
        try clear p611
        try clear p612
        try clear q6
        try clear q607
        try clear q611
        try clear q612
        obtain ⟨kq, x88_31, rfl, HA, HJ31, HO_5, HO_633000, HO_633001, HO_644000, HO_644001, BK632, BK643, HB⟩ := hcut
        cases kq with
        | zero => exact absurd HA.out (by simp [arboristlaw07_BuiltRows.j2])
        | succ kj31 =>
          have H := HA.out
          clear HA
          simp only [arboristlaw07_BuiltRows.j2] at H
          by_cases c62 : x88_31 = true
          · subst c62
            have H1 : (some false) = some r := by rw [if_pos rfl] at H; exact H
            clear H
            have H := H1
            clear H1
            exact absurd ((Option.some.inj H).trans HT_.out) (by decide)
          · replace c62 := Bool.eq_false_iff.mpr c62
            subst c62
            have H1 : (arboristlaw07_BuiltRows.l1 kj31 t594 t619 0 t625 t628 t636 t639) = some r := by rw [if_neg (show ¬ (false = true) by decide)] at H; exact H
            clear H
            have H := H1
            clear H1
            have H' := Aside0.mk H
            clear H
            go_wp2
            go_loopg [12] kj31 (fun kq v12 w' => ∃ (x12_3 : Int), v12 = .int .i64 x12_3 ∧ Aside0 (arboristlaw07_BuiltRows.l1 kq t594 t619 x12_3 t625 t628 t636 t639 = some r) ∧ Aside0 (kq ≤ kj31) ∧ Aside0 (Kd.N (Kd.slice 3 (Kd.int .i64)) 23 w' w.heap.size (fun k_ => some k_ ≠ ((.slice Ao42 t625.length co42) : Value).ownBlock ∧ some k_ ≠ ((.slice Ao44 t628.length co44) : Value).ownBlock ∧ some k_ ≠ ((.slice Ao50 t636.length co50) : Value).ownBlock ∧ some k_ ≠ ((.slice Ao53 t639.length co53) : Value).ownBlock ∧ k_ ≠ gb632 ∧ k_ ≠ gb643) (.slice Ao37 t619.length co37) t619) ∧ Aside0 (Kd.R (Kd.int .i64) 3 w' w.heap.size (fun k_ => some k_ ≠ ((.slice Ao50 t636.length co50) : Value).ownBlock) (.slice Ao42 t625.length co42) t625) ∧ Aside0 (Kd.N (Kd.slice 3 (Kd.int .i64)) 23 w' w.heap.size (fun k_ => some k_ ≠ ((.slice Ao37 t619.length co37) : Value).ownBlock ∧ some k_ ≠ ((.slice Ao42 t625.length co42) : Value).ownBlock ∧ some k_ ≠ ((.slice Ao50 t636.length co50) : Value).ownBlock ∧ some k_ ≠ ((.slice Ao53 t639.length co53) : Value).ownBlock ∧ k_ ≠ gb632 ∧ k_ ≠ gb643) (.slice Ao44 t628.length co44) t628) ∧ Aside0 (Kd.R (Kd.int .i64) 3 w' w.heap.size (fun k_ => some k_ ≠ ((.slice Ao42 t625.length co42) : Value).ownBlock) (.slice Ao50 t636.length co50) t636) ∧ Aside0 (Kd.N (Kd.slice 3 (Kd.int .i64)) 23 w' w.heap.size (fun k_ => some k_ ≠ ((.slice Ao37 t619.length co37) : Value).ownBlock ∧ some k_ ≠ ((.slice Ao42 t625.length co42) : Value).ownBlock ∧ some k_ ≠ ((.slice Ao44 t628.length co44) : Value).ownBlock ∧ some k_ ≠ ((.slice Ao50 t636.length co50) : Value).ownBlock ∧ k_ ≠ gb632 ∧ k_ ≠ gb643) (.slice Ao53 t639.length co53) t639) ∧ Aside0 (w'.heap[gb632]? = some (.cells #[(.slice Ao42 t625.length co42), (.slice Ao44 t628.length co44)] 28 (0, 0))) ∧ Aside0 (w'.heap[gb643]? = some (.cells #[(.slice Ao50 t636.length co50), (.slice Ao53 t639.length co53)] 28 (0, 0))) ∧ Aside0 (Below w.heap.size w w'))
            case atStart => exact ⟨(0), (by first | rfl | (simp; done) | (simp [*]; done)), H', ⟨Nat.le_refl _⟩, ⟨by (with_reducible repeat (first | apply Kd.N_alloc | apply Kd.N_drewN | apply Kd.N_drew)); exact HO_5.out⟩, ⟨by (with_reducible repeat (first | apply Kd.R_alloc | apply Kd.R_drewN | apply Kd.R_drew)); exact HO_633000.out⟩, ⟨by (with_reducible repeat (first | apply Kd.N_alloc | apply Kd.N_drewN | apply Kd.N_drew)); exact HO_633001.out⟩, ⟨by (with_reducible repeat (first | apply Kd.R_alloc | apply Kd.R_drewN | apply Kd.R_drew)); exact HO_644000.out⟩, ⟨by (with_reducible repeat (first | apply Kd.N_alloc | apply Kd.N_drewN | apply Kd.N_drew)); exact HO_644001.out⟩, ⟨by (with_reducible repeat (first | refine blk_drewN ?_ _ | refine blk_drew ?_ | refine blk_alloc ?_ _)); exact BK632.out⟩, ⟨by (with_reducible repeat (first | refine blk_drewN ?_ _ | refine blk_drew ?_ | refine blk_alloc ?_ _)); exact BK643.out⟩, ⟨by repeat (first | (with_reducible first | exact HB.out | apply below_alloc | apply pw_below_drewN | apply below_drew1 | refine below_set ?_ GE632.out | refine below_set ?_ GE643.out) | exact HB.out)⟩⟩
            case round =>
              clear H'
              try clear c1
              try clear c2
              try clear p2
              try clear c5
              try clear c6
              try clear p6
              try clear q6
              try clear hx6
              try clear qi6
              try clear c7
              try clear c9
              try clear c14
              try clear c15
              try clear c15b0
              try clear c16
              try clear c16b0
              try clear c17
              try clear c17b0
              try clear c18
              try clear c19
              try clear c19b0
              try clear c19b1
              try clear c20
              try clear c20b0
              try clear c20b1
              try clear c21
              try clear c51
              try clear c54
              try clear c54b0
              try clear c54b1
              try clear c55
              try clear c55b0
              try clear c55b1
              try clear c56
              try clear c56b0
              try clear c56b1
              try clear c56b2
              try clear c57
              try clear c60
              try clear p60
              try clear q60
              try clear hx60
              try clear p61
              try clear q61
              try clear hx61
              try clear qi61
              try clear c62
              try clear hcz43_0
              try clear hcz43_1
              try clear hcz52_0
              try clear hcz52_1
              try clear hcz58_0
              try clear hcz58_1
              try clear hcz59_0
              try clear hcz59_1
              try clear hcz61_0
              try clear hcz61_1
              try clear hfz43_0
              try clear hfz43_1
              try clear hfz52_0
              try clear hfz52_1
              try clear hfz58_0
              try clear hfz58_1
              try clear hfz59_0
              try clear hfz59_1
              try clear hfz61_0
              try clear hfz61_1
              try clear hx607_0
              try clear hx611_0
              try clear hx612_0
              try clear p2
              try clear p6
              try clear p60
              try clear p607
              try clear p61
              try clear p611
              try clear p612
              try clear q6
              try clear q60
              try clear q607
              try clear q61
              try clear q611
              try clear q612
              obtain ⟨x12_3, rfl, HA, HK3, HO_5, HO_633000, HO_633001, HO_644000, HO_644001, BK632, BK643, HB⟩ := hrel
              cases gk with
              | zero => exact absurd HA.out (by simp [arboristlaw07_BuiltRows.l1])
              | succ k3 =>
                have H := HA.out
                clear HA
                simp only [arboristlaw07_BuiltRows.l1] at H
                by_cases c63 : x12_3 < (t619.length : Int)
                · rw [if_pos c63] at H
                  have c63b0 : decide (x12_3 < (t619.length : Int)) = true := decide_eq_true c63
                  clear c63
                  by_cases c64 : 0 ≤ x12_3
                  · rw [if_pos c64] at H
                    have c64b0 : decide (0 ≤ x12_3) = true := decide_eq_true c64
                    clear c64
                    replace H := Option.bind_eq_some_iff.mp H
                    obtain ⟨⟨t645, t646⟩, A650, H⟩ := H
                    replace H : (if x12_3 < (t628.length : Int) then ((arboristref01_Compare.f k3 (rd_L1 t628 x12_3) (rd_L1 t619 x12_3)).bind fun t649 => (if t649 = 0 then (if t646 = true then (some false) else (arboristlaw07_BuiltRows.l1 k3 t594 t619 (wrap64 (x12_3 + 1)) t625 t628 t636 t639)) else (some false))) else (none)) = some r := H
                    have A65 := Aside0.mk A650
                    clear A650
                    by_cases c66 : x12_3 < (t628.length : Int)
                    · rw [if_pos c66] at H
                      have c66b0 : decide (x12_3 < (t628.length : Int)) = true := decide_eq_true c66
                      clear c66
                      replace H := Option.bind_eq_some_iff.mp H
                      obtain ⟨t649, A670, H⟩ := H
                      replace H : (if t649 = 0 then (if t646 = true then (some false) else (arboristlaw07_BuiltRows.l1 k3 t594 t619 (wrap64 (x12_3 + 1)) t625 t628 t636 t639)) else (some false)) = some r := H
                      have A67 := Aside0.mk A670
                      clear A670
                      by_cases c68 : t649 = 0
                      · rw [if_pos c68] at H
                        have c68b0 : (t649 == 0) = true := beq_iff_eq.mpr c68
                        have c68b1 : (t649 != 0) = false := bne_eq_false_iff_eq.mpr c68
                        clear c68
                        by_cases c69 : t646 = true
                        · subst c69
                          have H1 : (some false) = some r := by rw [if_pos rfl] at H; exact H
                          clear H
                          have H := H1
                          clear H1
                          exact absurd ((Option.some.inj H).trans HT_.out) (by decide)
                        · replace c69 := Bool.eq_false_iff.mpr c69
                          subst c69
                          have H1 : (arboristlaw07_BuiltRows.l1 k3 t594 t619 (wrap64 (x12_3 + 1)) t625 t628 t636 t639) = some r := by rw [if_neg (show ¬ (false = true) by decide)] at H; exact H
                          clear H
                          have H := H1
                          clear H1
                          have H' := Aside0.mk H
                          clear H
                          try go_wp2
                          have n0_ := Aside0.mk (Kd.N_drew HO_5.out)
                          have n1_ := Aside0.mk (Kd.R_drew HO_633000.out)
                          have n2_ := Aside0.mk (Kd.N_drew HO_633001.out)
                          have n3_ := Aside0.mk (Kd.R_drew HO_644000.out)
                          have n4_ := Aside0.mk (Kd.N_drew HO_644001.out)
                          have n5_ := Aside0.mk (blk_drew BK632.out)
                          have n6_ := Aside0.mk (blk_drew BK643.out)
                          have n7_ := Aside0.mk (below_drew1 HB.out)
                          clear HO_5
                          clear HO_633000
                          clear HO_633001
                          clear HO_644000
                          clear HO_644001
                          clear BK632
                          clear BK643
                          clear HB
                          have HO_5 := n0_
                          have HO_633000 := n1_
                          have HO_633001 := n2_
                          have HO_644000 := n3_
                          have HO_644001 := n4_
                          have BK632 := n5_
                          have BK643 := n6_
                          have HB := n7_
                          clear n0_ n1_ n2_ n3_ n4_ n5_ n6_ n7_
                          have p644 : 0 ≤ (x12_3 : Int) := of_decide_eq_true (by first | (with_reducible assumption) | assumption)
                          have q644 : x12_3 < (t619.length : Int) := of_decide_eq_true (by first | (with_reducible assumption) | assumption)
                          obtain ⟨ad644, A644_0, c644_0, e644, hx644_0, hl644_0, hi644_0⟩ := at_L1 (Kd.N_reads' HO_5.out).2.2 x12_3 p644 q644
                          cases e644
                          obtain ⟨ce644, hce644, hMe644, hcc644⟩ := Kd.N_get HO_5.out [] x12_3 p644 (by first | exact q644 | exact of_decide_eq_true (by first | (with_reducible assumption) | assumption) | (have e_ := (Kd.N_reads' HO_5.out).1; omega))
                          obtain ⟨ua644_0, uc644_0, rfl, ul644_0, ge644_0⟩ := Kd.FK_slice_open hMe644
                          have hv644_0 := hcc644 0 _ rfl
                          rw [Nat.add_zero, show ((Kd.slice 3 (Kd.int .i64))).sz = 1 from rfl, Nat.mul_one] at hv644_0
                          replace hv644_0 := Option.some.inj (hv644_0.symm.trans hx644_0)
                          injection hv644_0 with hva_ hvn_ hvc_
                          rw [hva_] at ge644_0
                          rw [hvc_] at ul644_0
                          have HL644_0 := Aside0.mk (show Kd.V (Kd.int .i64) 3 _ w.heap.size _ _ (rd_L1 t619 x12_3) from Kd.V_mk ul644_0 ge644_0)
                          clear hva_ hvn_ hvc_ ge644_0 ul644_0
                          clear hcc644 hce644
                          have HR644_0 := Aside0.mk hi644_0
                          have HC644_0 := Aside0.mk hl644_0
                          clear hi644_0 hl644_0
                          replace p644 := eq_true p644
                          replace q644 := eq_true q644
                          refine start_ (n := 12) (S := fun w' => w'.cell? ⟨gb643, 0, none⟩ = some (.slice Ao50 t636.length co50) ∧ w'.cell? ⟨gb643, 1, none⟩ = some (.slice Ao53 t639.length co53) ∧ w'.cell? (ad644.add (x12_3).toNat) = some (.slice A644_0 (rd_L1 t619 x12_3).length c644_0)) (ds := []) (bs 12 0) (by kernel_rfl) rfl rfl ⟨(blk_cell BK643.out 0).trans rfl, (blk_cell BK643.out 1).trans rfl, hx644_0⟩ (fun hHeld => ?_); refine with_tabW arboristlaw07_BuiltRows.tab17 arboristlaw07_BuiltRows.bits17 (fun HT_ HW_ => ?_)
                          generalize wr.drew = w70 at HO_5 HO_633000 HO_633001 HO_644000 HO_644001 BK632 BK643 HB HL644_0 HR644_0 hx644_0 hHeld ⊢
                          refine pure_ (i := 0) (N := some 96) (v := ?_) (a' := ?_) (bs 12 1) rfl rfl (any_of HT_.out (by kernel_rfl)) (fun _ _ _ h => h) (Or.inl ⟨by rfl, ?_⟩) ?_ ?_
                          rotate_left; (intro w'; go_simp; with_reducible rfl); rotate_left; (simp only [Act.put, List.setIfInBounds_toArray, List.set_cons_zero, List.set_cons_succ, i64_w, i32_w]; rfl)
                          refine pure_ (i := 2) (N := some 98) (v := ?_) (a' := ?_) (bs 12 5) rfl rfl (any_of HT_.out (by kernel_rfl)) (fun _ _ _ h => h) (Or.inl ⟨by rfl, ?_⟩) ?_ ?_
                          rotate_left; (intro w'; go_simp; with_reducible rfl); rotate_left; (simp only [Act.put, List.setIfInBounds_toArray, List.set_cons_zero, List.set_cons_succ, i64_w, i32_w]; rfl)
                          refine pure_ (i := 3) (N := some 99) (v := ?_) (a' := ?_) (bs 12 13) rfl rfl (any_of HT_.out (by kernel_rfl)) (fun _ _ _ h => h) (Or.inl ⟨by rfl, ?_⟩) ?_ ?_
                          rotate_left; (intro w'; go_simp; with_reducible rfl); rotate_left; (simp only [Act.put, List.setIfInBounds_toArray, List.set_cons_zero, List.set_cons_succ, i64_w, i32_w]; rfl)
                          refine pure_ (i := 4) (N := some 100) (v := ?_) (a' := ?_) (bs 12 29) rfl rfl (any_of HT_.out (by kernel_rfl)) (fun _ _ _ h => h) (Or.inl ⟨by rfl, ?_⟩) ?_ ?_
                          rotate_left; (intro w'; go_simp; with_reducible rfl); rotate_left; (simp only [Act.put, List.setIfInBounds_toArray, List.set_cons_zero, List.set_cons_succ, i64_w, i32_w]; rfl)
                          refine take_ (i := 1) (N := some 97) (v := ?_) (a' := ?_) (bs 12 31) rfl rfl (take_ofW HT_.out HW_.out (by kernel_rfl)) (fun _ _ _ h => h) (Or.inl ⟨by rfl, ?_⟩) hHeld ?_ ?_
                          rotate_left
                          · rintro w' ⟨s0, s1, s2⟩
                            go_simp
                            with_reducible rfl
                          rotate_left; (simp only [Act.put, List.setIfInBounds_toArray, List.set_cons_zero, List.set_cons_succ, i64_w, i32_w]; rfl)
                          refine take_ (i := 5) (N := some 101) (v := ?_) (a' := ?_) (bs 12 63) rfl rfl (take_ofW HT_.out HW_.out (by kernel_rfl)) (fun _ _ _ h => h) (Or.inl ⟨by rfl, ?_⟩) hHeld ?_ ?_
                          rotate_left
                          · rintro w' ⟨s0, s1, s2⟩
                            go_simp
                            with_reducible rfl
                          rotate_left; (simp only [Act.put, List.setIfInBounds_toArray, List.set_cons_zero, List.set_cons_succ, i64_w, i32_w]; rfl)
                          refine one_ (i := 6) (N := some 102) (bs 12 127) rfl rfl (one_of HT_.out (by kernel_rfl)) (by decide) (fun K hK => ?_)
                          refine goes_ Try.func16 (by kernel_rfl) rfl #[.slice Ao53 t639.length co53, .slice A644_0 (rd_L1 t619 x12_3).length c644_0] (by rfl) rfl rfl (by (try simp only [List.map_toArray, List.map_cons, List.map_nil]); first | done | rfl | (simp only [List.length_drop, List.length_take]; rfl)) ?_
                          with_reducible refine (arboristref01_Find.calls k3 _ _ t639 _ _ (rd_L1 t619 x12_3) t645 false _ ?side1 ?side2 ?side3 ?side4 A65.out).mono ?_
                          (case side1 => repeat (first | exact (Kd.N_reads' HO_644001.out).2.2 | (with_reducible refine Kd.C_alloc ?_ _) | (with_reducible refine Kd.C_drewN ?_ _) | (with_reducible refine Kd.C_drew ?_)))
                          (case side2 => exact (Kd.N_reads' HO_644001.out).2.1)
                          (case side3 => repeat (first | exact (by repeat (first | (with_reducible exact HR644_0.out) | (with_reducible refine Kd.C_alloc ?_ _) | (with_reducible refine Kd.C_drewN ?_ _) | (with_reducible refine Kd.C_drew ?_) | exact HR644_0.out)) | (with_reducible refine Kd.C_alloc ?_ _) | (with_reducible refine Kd.C_drewN ?_ _) | (with_reducible refine Kd.C_drew ?_)))
                          (case side4 => exact HC644_0.out)
                          rintro e w' ⟨rfl, ⟨nd, rfl⟩⟩
                          refine ⟨_, rfl, ?_⟩
                          refine hK.out _ _ ⟨(blk_cell BK643.out 0).trans rfl, (blk_cell BK643.out 1).trans rfl, hHeld.2.2⟩ (fun hHeld => ?_)
                          clear hK K
                          refine norm_ (a' := ?_) ?_ ?_
                          rotate_left
                          · show Act.put _ (some 102) _ = _
                            simp only [Act.put, List.setIfInBounds_toArray, List.set_cons_zero, List.set_cons_succ, i64_w, i32_w]
                            rfl
                          refine pure_ (i := 7) (N := some 95) (v := ?_) (a' := ?_) (bs 12 255) rfl rfl (any_of HT_.out (by kernel_rfl)) (fun _ _ _ h => h) (Or.inl ⟨by rfl, ?_⟩) ?_ ?_
                          rotate_left; (intro w'; go_simp; with_reducible rfl); rotate_left; (simp only [Act.put, List.setIfInBounds_toArray, List.set_cons_zero, List.set_cons_succ, i64_w, i32_w]; rfl)
                          refine pure_ (i := 8) (N := some 103) (v := ?_) (a' := ?_) (bs 12 511) rfl rfl (any_of HT_.out (by kernel_rfl)) (fun _ _ _ h => h) (Or.inl ⟨by rfl, ?_⟩) ?_ ?_
                          rotate_left; (intro w'; go_simp; with_reducible rfl); rotate_left; (simp only [Act.put, List.setIfInBounds_toArray, List.set_cons_zero, List.set_cons_succ, i64_w, i32_w]; rfl)
                          refine pure_ (i := 9) (N := some 104) (v := ?_) (a' := ?_) (bs 12 1023) rfl rfl (any_of HT_.out (by kernel_rfl)) (fun _ _ _ h => h) (Or.inl ⟨by rfl, ?_⟩) ?_ ?_
                          rotate_left; (intro w'; go_simp; with_reducible rfl); rotate_left; (simp only [Act.put, List.setIfInBounds_toArray, List.set_cons_zero, List.set_cons_succ, i64_w, i32_w]; rfl)
                          refine pure_ (i := 10) (N := some 13) (v := ?_) (a' := ?_) (bs 12 2047) rfl rfl (any_of HT_.out (by kernel_rfl)) (fun _ _ _ h => h) (Or.inl ⟨by rfl, ?_⟩) ?_ ?_
                          rotate_left; (intro w'; go_simp; with_reducible rfl); rotate_left; (simp only [Act.put, List.setIfInBounds_toArray, List.set_cons_zero, List.set_cons_succ, i64_w, i32_w]; rfl)
                          refine pure_ (i := 11) (N := some 14) (v := ?_) (a' := ?_) (bs 12 4095) rfl rfl (any_of HT_.out (by kernel_rfl)) (fun _ _ _ h => h) (Or.inl ⟨by rfl, ?_⟩) ?_ ?_
                          rotate_left; (intro w'; go_simp; with_reducible rfl); rotate_left; (simp only [Act.put, List.setIfInBounds_toArray, List.set_cons_zero, List.set_cons_succ, i64_w, i32_w]; rfl)
                          refine done_ (done_of HT_.out (by kernel_rfl)) ?_
                          try go_wp2
                          (try (rw [drewN_self w70]; generalize hq_ : World.drewN w70 _ = w70; have n0_ : Aside0 (Kd.V (Kd.int .i64) 3 w70 w.heap.size (fun k_ => some k_ ≠ (.slice (some ad644) t619.length co37 : Value).ownBlock ∧ some k_ ≠ (.slice Ao42 t625.length co42 : Value).ownBlock ∧ some k_ ≠ (.slice Ao44 t628.length co44 : Value).ownBlock ∧ some k_ ≠ (.slice Ao50 t636.length co50 : Value).ownBlock ∧ some k_ ≠ (.slice Ao53 t639.length co53 : Value).ownBlock ∧ k_ ≠ gb632 ∧ k_ ≠ gb643) (.slice A644_0 (rd_L1 t619 x12_3).length c644_0) (rd_L1 t619 x12_3)) := ⟨by rw [← hq_]; exact (by (with_reducible repeat (first | apply Kd.V_alloc | apply Kd.V_drewN | apply Kd.V_drew)); exact Kd.V_mono HL644_0.out (fun _ hk => ⟨hk.2, ⟨hk.1.1, ⟨hk.1.2.1, ⟨hk.1.2.2.1, ⟨hk.1.2.2.2.1, ⟨hk.1.2.2.2.2.1, hk.1.2.2.2.2.2⟩⟩⟩⟩⟩⟩))⟩; have n1_ : Aside0 (Kd.N (Kd.slice 3 (Kd.int .i64)) 23 w70 w.heap.size (fun k_ => some k_ ≠ (.slice Ao42 t625.length co42 : Value).ownBlock ∧ some k_ ≠ (.slice Ao44 t628.length co44 : Value).ownBlock ∧ some k_ ≠ (.slice Ao50 t636.length co50 : Value).ownBlock ∧ some k_ ≠ (.slice Ao53 t639.length co53 : Value).ownBlock ∧ k_ ≠ gb632 ∧ k_ ≠ gb643) (.slice (some ad644) t619.length co37) t619) := ⟨by rw [← hq_]; exact (by (with_reducible repeat (first | apply Kd.N_alloc | apply Kd.N_drewN | apply Kd.N_drew)); exact HO_5.out)⟩; have n2_ : Aside0 (Kd.R (Kd.int .i64) 3 w70 w.heap.size (fun k_ => some k_ ≠ (.slice Ao50 t636.length co50 : Value).ownBlock) (.slice Ao42 t625.length co42) t625) := ⟨by rw [← hq_]; exact (by (with_reducible repeat (first | apply Kd.R_alloc | apply Kd.R_drewN | apply Kd.R_drew)); exact HO_633000.out)⟩; have n3_ : Aside0 (Kd.N (Kd.slice 3 (Kd.int .i64)) 23 w70 w.heap.size (fun k_ => some k_ ≠ (.slice (some ad644) t619.length co37 : Value).ownBlock ∧ some k_ ≠ (.slice Ao42 t625.length co42 : Value).ownBlock ∧ some k_ ≠ (.slice Ao50 t636.length co50 : Value).ownBlock ∧ some k_ ≠ (.slice Ao53 t639.length co53 : Value).ownBlock ∧ k_ ≠ gb632 ∧ k_ ≠ gb643) (.slice Ao44 t628.length co44) t628) := ⟨by rw [← hq_]; exact (by (with_reducible repeat (first | apply Kd.N_alloc | apply Kd.N_drewN | apply Kd.N_drew)); exact HO_633001.out)⟩; have n4_ : Aside0 (Kd.R (Kd.int .i64) 3 w70 w.heap.size (fun k_ => some k_ ≠ (.slice Ao42 t625.length co42 : Value).ownBlock) (.slice Ao50 t636.length co50) t636) := ⟨by rw [← hq_]; exact (by (with_reducible repeat (first | apply Kd.R_alloc | apply Kd.R_drewN | apply Kd.R_drew)); exact HO_644000.out)⟩; have n5_ : Aside0 (Kd.N (Kd.slice 3 (Kd.int .i64)) 23 w70 w.heap.size (fun k_ => some k_ ≠ (.slice (some ad644) t619.length co37 : Value).ownBlock ∧ some k_ ≠ (.slice Ao42 t625.length co42 : Value).ownBlock ∧ some k_ ≠ (.slice Ao44 t628.length co44 : Value).ownBlock ∧ some k_ ≠ (.slice Ao50 t636.length co50 : Value).ownBlock ∧ k_ ≠ gb632 ∧ k_ ≠ gb643) (.slice Ao53 t639.length co53) t639) := ⟨by rw [← hq_]; exact (by (with_reducible repeat (first | apply Kd.N_alloc | apply Kd.N_drewN | apply Kd.N_drew)); exact HO_644001.out)⟩; have n6_ : Aside0 (w70.heap[gb632]? = some (.cells #[.slice Ao42 t625.length co42, .slice Ao44 t628.length co44] 28 (0, 0))) := ⟨by rw [← hq_]; exact (by (with_reducible repeat (first | refine blk_drewN ?_ _ | refine blk_drew ?_ | refine blk_alloc ?_ _)); exact BK632.out)⟩; have n7_ : Aside0 (w70.heap[gb643]? = some (.cells #[.slice Ao50 t636.length co50, .slice Ao53 t639.length co53] 28 (0, 0))) := ⟨by rw [← hq_]; exact (by (with_reducible repeat (first | refine blk_drewN ?_ _ | refine blk_drew ?_ | refine blk_alloc ?_ _)); exact BK643.out)⟩; have n8_ : Aside0 (Below w.heap.size w w70) := ⟨by rw [← hq_]; exact (by repeat (first | (with_reducible first | exact HB.out | apply below_alloc | apply pw_below_drewN | apply below_drew1 | refine below_set ?_ GE632.out | refine below_set ?_ GE643.out) | exact HB.out))⟩; have n9_ : Aside0 (Kd.C (Kd.int .i64) w70 A644_0 (rd_L1 t619 x12_3).length (rd_L1 t619 x12_3)) := ⟨by rw [← hq_]; exact (by repeat (first | (with_reducible exact HR644_0.out) | (with_reducible refine Kd.C_alloc ?_ _) | (with_reducible refine Kd.C_drewN ?_ _) | (with_reducible refine Kd.C_drew ?_) | exact HR644_0.out))⟩; clear HL644_0 HO_5 HO_633000 HO_633001 HO_644000 HO_644001 BK632 BK643 HB HR644_0 hq_; have HL644_0 := n0_; have HO_5 := n1_; have HO_633000 := n2_; have HO_633001 := n3_; have HO_644000 := n4_; have HO_644001 := n5_; have BK632 := n6_; have BK643 := n7_; have HB := n8_; have HR644_0 := n9_; clear n0_ n1_ n2_ n3_ n4_ n5_ n6_ n7_ n8_ n9_))
                          have n0_ := Aside0.mk (Kd.N_drew HO_5.out)
                          have n1_ := Aside0.mk (Kd.R_drew HO_633000.out)
                          have n2_ := Aside0.mk (Kd.N_drew HO_633001.out)
                          have n3_ := Aside0.mk (Kd.R_drew HO_644000.out)
                          have n4_ := Aside0.mk (Kd.N_drew HO_644001.out)
                          have n5_ := Aside0.mk (Kd.V_drew HL644_0.out)
                          have n6_ := Aside0.mk (blk_drew BK632.out)
                          have n7_ := Aside0.mk (blk_drew BK643.out)
                          have n8_ := Aside0.mk (Kd.C_drew HR644_0.out)
                          have n9_ := Aside0.mk (below_drew1 HB.out)
                          clear HO_5
                          clear HO_633000
                          clear HO_633001
                          clear HO_644000
                          clear HO_644001
                          clear HL644_0
                          clear BK632
                          clear BK643
                          clear HR644_0
                          clear HB
                          have HO_5 := n0_
                          have HO_633000 := n1_
                          have HO_633001 := n2_
                          have HO_644000 := n3_
                          have HO_644001 := n4_
                          have HL644_0 := n5_
                          have BK632 := n6_
                          have BK643 := n7_
                          have HR644_0 := n8_
                          have HB := n9_
                          clear n0_ n1_ n2_ n3_ n4_ n5_ n6_ n7_ n8_ n9_
                          have p647 : 0 ≤ (x12_3 : Int) := of_decide_eq_true (by first | (with_reducible assumption) | assumption)
                          have q647 : x12_3 < (t628.length : Int) := of_decide_eq_true (by first | (with_reducible assumption) | assumption)
                          obtain ⟨ad647, A647_0, c647_0, e647, hx647_0, hl647_0, hi647_0⟩ := at_L1 (Kd.N_reads' HO_633001.out).2.2 x12_3 p647 q647
                          cases e647
                          obtain ⟨ce647, hce647, hMe647, hcc647⟩ := Kd.N_get HO_633001.out [] x12_3 p647 (by first | exact q647 | exact of_decide_eq_true (by first | (with_reducible assumption) | assumption) | (have e_ := (Kd.N_reads' HO_633001.out).1; omega))
                          obtain ⟨ua647_0, uc647_0, rfl, ul647_0, ge647_0⟩ := Kd.FK_slice_open hMe647
                          have hv647_0 := hcc647 0 _ rfl
                          rw [Nat.add_zero, show ((Kd.slice 3 (Kd.int .i64))).sz = 1 from rfl, Nat.mul_one] at hv647_0
                          replace hv647_0 := Option.some.inj (hv647_0.symm.trans hx647_0)
                          injection hv647_0 with hva_ hvn_ hvc_
                          rw [hva_] at ge647_0
                          rw [hvc_] at ul647_0
                          have HL647_0 := Aside0.mk (show Kd.V (Kd.int .i64) 3 _ w.heap.size _ _ (rd_L1 t628 x12_3) from Kd.V_mk ul647_0 ge647_0)
                          clear hva_ hvn_ hvc_ ge647_0 ul647_0
                          clear hcc647 hce647
                          have HR647_0 := Aside0.mk hi647_0
                          have HC647_0 := Aside0.mk hl647_0
                          clear hi647_0 hl647_0
                          replace p647 := eq_true p647
                          replace q647 := eq_true q647
                          have p648 : 0 ≤ (x12_3 : Int) := of_decide_eq_true (by first | (with_reducible assumption) | assumption)
                          have q648 : x12_3 < (t619.length : Int) := of_decide_eq_true (by first | (with_reducible assumption) | assumption)
                          obtain ⟨ad648, A648_0, c648_0, e648, hx648_0, hl648_0, hi648_0⟩ := at_L1 (Kd.N_reads' HO_5.out).2.2 x12_3 p648 q648
                          obtain rfl : ad644 = ad648 := (by injection e648)
                          obtain ⟨ce648, hce648, hMe648, hcc648⟩ := Kd.N_get HO_5.out [] x12_3 p648 (by first | exact q648 | exact of_decide_eq_true (by first | (with_reducible assumption) | assumption) | (have e_ := (Kd.N_reads' HO_5.out).1; omega))
                          obtain ⟨ua648_0, uc648_0, rfl, ul648_0, ge648_0⟩ := Kd.FK_slice_open hMe648
                          have hv648_0 := hcc648 0 _ rfl
                          rw [Nat.add_zero, show ((Kd.slice 3 (Kd.int .i64))).sz = 1 from rfl, Nat.mul_one] at hv648_0
                          replace hv648_0 := Option.some.inj (hv648_0.symm.trans hx648_0)
                          injection hv648_0 with hva_ hvn_ hvc_
                          rw [hva_] at ge648_0
                          rw [hvc_] at ul648_0
                          have HL648_0 := Aside0.mk (show Kd.V (Kd.int .i64) 3 _ w.heap.size _ _ (rd_L1 t619 x12_3) from Kd.V_mk ul648_0 ge648_0)
                          clear hva_ hvn_ hvc_ ge648_0 ul648_0
                          clear hcc648 hce648
                          have HR648_0 := Aside0.mk hi648_0
                          have HC648_0 := Aside0.mk hl648_0
                          clear hi648_0 hl648_0
                          replace p648 := eq_true p648
                          replace q648 := eq_true q648
                          refine start_ (n := 14) (S := fun w' => w'.cell? ⟨gb632, 0, none⟩ = some (.slice Ao42 t625.length co42) ∧ w'.cell? ⟨gb632, 1, none⟩ = some (.slice (some ad647) t628.length co44) ∧ w'.cell? (ad647.add (x12_3).toNat) = some (.slice A647_0 (rd_L1 t628 x12_3).length c647_0) ∧ w'.cell? (ad644.add (x12_3).toNat) = some (.slice A648_0 (rd_L1 t619 x12_3).length c648_0)) (ds := []) (bs 14 0) (by kernel_rfl) rfl rfl ⟨(blk_cell BK632.out 0).trans rfl, (blk_cell BK632.out 1).trans rfl, hx647_0, hx648_0⟩ (fun hHeld => ?_); refine with_tabW arboristlaw07_BuiltRows.tab18 arboristlaw07_BuiltRows.bits18 (fun HT_ HW_ => ?_)
                          generalize w70.drew = w71 at HO_5 HO_633000 HO_633001 HO_644000 HO_644001 HL644_0 BK632 BK643 HR644_0 HB HL647_0 HL648_0 HR647_0 HR648_0 hx647_0 hx648_0 hHeld ⊢
                          refine pure_ (i := 0) (N := some 105) (v := ?_) (a' := ?_) (bs 14 1) rfl rfl (any_of HT_.out (by kernel_rfl)) (fun _ _ _ h => h) (Or.inl ⟨by rfl, ?_⟩) ?_ ?_
                          rotate_left; (intro w'; go_simp; with_reducible rfl); rotate_left; (simp only [Act.put, List.setIfInBounds_toArray, List.set_cons_zero, List.set_cons_succ, i64_w, i32_w]; rfl)
                          refine pure_ (i := 2) (N := some 107) (v := ?_) (a' := ?_) (bs 14 5) rfl rfl (any_of HT_.out (by kernel_rfl)) (fun _ _ _ h => h) (Or.inl ⟨by rfl, ?_⟩) ?_ ?_
                          rotate_left; (intro w'; go_simp; with_reducible rfl); rotate_left; (simp only [Act.put, List.setIfInBounds_toArray, List.set_cons_zero, List.set_cons_succ, i64_w, i32_w]; rfl)
                          refine pure_ (i := 5) (N := some 110) (v := ?_) (a' := ?_) (bs 14 37) rfl rfl (any_of HT_.out (by kernel_rfl)) (fun _ _ _ h => h) (Or.inl ⟨by rfl, ?_⟩) ?_ ?_
                          rotate_left; (intro w'; go_simp; with_reducible rfl); rotate_left; (simp only [Act.put, List.setIfInBounds_toArray, List.set_cons_zero, List.set_cons_succ, i64_w, i32_w]; rfl)
                          refine pure_ (i := 6) (N := some 111) (v := ?_) (a' := ?_) (bs 14 101) rfl rfl (any_of HT_.out (by kernel_rfl)) (fun _ _ _ h => h) (Or.inl ⟨by rfl, ?_⟩) ?_ ?_
                          rotate_left; (intro w'; go_simp; with_reducible rfl); rotate_left; (simp only [Act.put, List.setIfInBounds_toArray, List.set_cons_zero, List.set_cons_succ, i64_w, i32_w]; rfl)
                          refine pure_ (i := 7) (N := some 112) (v := ?_) (a' := ?_) (bs 14 229) rfl rfl (any_of HT_.out (by kernel_rfl)) (fun _ _ _ h => h) (Or.inl ⟨by rfl, ?_⟩) ?_ ?_
                          rotate_left; (intro w'; go_simp; with_reducible rfl); rotate_left; (simp only [Act.put, List.setIfInBounds_toArray, List.set_cons_zero, List.set_cons_succ, i64_w, i32_w]; rfl)
                          refine take_ (i := 1) (N := some 106) (v := ?_) (a' := ?_) (bs 14 231) rfl rfl (take_ofW HT_.out HW_.out (by kernel_rfl)) (fun _ _ _ h => h) (Or.inl ⟨by rfl, ?_⟩) hHeld ?_ ?_
                          rotate_left
                          · rintro w' ⟨s0, s1, s2, s3⟩
                            go_simp
                            with_reducible rfl
                          rotate_left; (simp only [Act.put, List.setIfInBounds_toArray, List.set_cons_zero, List.set_cons_succ, i64_w, i32_w]; rfl)
                          refine pure_ (i := 3) (N := some 108) (v := ?_) (a' := ?_) (bs 14 239) rfl rfl (any_of HT_.out (by kernel_rfl)) (fun _ _ _ h => h) (Or.inl ⟨by rfl, ?_⟩) ?_ ?_
                          rotate_left; (intro w'; go_simp; with_reducible rfl); rotate_left; (simp only [Act.put, List.setIfInBounds_toArray, List.set_cons_zero, List.set_cons_succ, i64_w, i32_w]; rfl)
                          refine take_ (i := 4) (N := some 109) (v := ?_) (a' := ?_) (bs 14 255) rfl rfl (take_ofW HT_.out HW_.out (by kernel_rfl)) (fun _ _ _ h => h) (Or.inl ⟨by rfl, ?_⟩) hHeld ?_ ?_
                          rotate_left
                          · rintro w' ⟨s0, s1, s2, s3⟩
                            go_simp
                            with_reducible rfl
                          rotate_left; (simp only [Act.put, List.setIfInBounds_toArray, List.set_cons_zero, List.set_cons_succ, i64_w, i32_w]; rfl)
                          refine take_ (i := 8) (N := some 113) (v := ?_) (a' := ?_) (bs 14 511) rfl rfl (take_ofW HT_.out HW_.out (by kernel_rfl)) (fun _ _ _ h => h) (Or.inl ⟨by rfl, ?_⟩) hHeld ?_ ?_
                          rotate_left
                          · rintro w' ⟨s0, s1, s2, s3⟩
                            go_simp
                            with_reducible rfl
                          rotate_left; (simp only [Act.put, List.setIfInBounds_toArray, List.set_cons_zero, List.set_cons_succ, i64_w, i32_w]; rfl)
                          refine one_ (i := 9) (N := some 114) (bs 14 1023) rfl rfl (one_of HT_.out (by kernel_rfl)) (by decide) (fun K hK => ?_)
                          refine goes_ Try.func19 (by kernel_rfl) rfl #[.slice A647_0 (rd_L1 t628 x12_3).length c647_0, .slice A648_0 (rd_L1 t619 x12_3).length c648_0] (by rfl) rfl rfl (by (try simp only [List.map_toArray, List.map_cons, List.map_nil]); first | done | rfl | (simp only [List.length_drop, List.length_take]; rfl)) ?_
                          with_reducible refine (arboristref01_Compare.calls k3 _ _ (rd_L1 t628 x12_3) _ _ (rd_L1 t619 x12_3) t649 _ ?side1 ?side2 ?side3 ?side4 A67.out).mono ?_
                          (case side1 => repeat (first | exact (by repeat (first | (with_reducible exact HR647_0.out) | (with_reducible refine Kd.C_alloc ?_ _) | (with_reducible refine Kd.C_drewN ?_ _) | (with_reducible refine Kd.C_drew ?_) | exact HR647_0.out)) | (with_reducible refine Kd.C_alloc ?_ _) | (with_reducible refine Kd.C_drewN ?_ _) | (with_reducible refine Kd.C_drew ?_)))
                          (case side2 => exact HC647_0.out)
                          (case side3 => repeat (first | exact (by repeat (first | (with_reducible exact HR648_0.out) | (with_reducible refine Kd.C_alloc ?_ _) | (with_reducible refine Kd.C_drewN ?_ _) | (with_reducible refine Kd.C_drew ?_) | exact HR648_0.out)) | (with_reducible refine Kd.C_alloc ?_ _) | (with_reducible refine Kd.C_drewN ?_ _) | (with_reducible refine Kd.C_drew ?_)))
                          (case side4 => exact HC648_0.out)
                          rintro e w' ⟨rfl, ⟨nd, rfl⟩⟩
                          refine ⟨_, rfl, ?_⟩
                          refine hK.out _ _ ⟨(blk_cell BK632.out 0).trans rfl, (blk_cell BK632.out 1).trans rfl, hHeld.2.2.1, hHeld.2.2.2⟩ (fun hHeld => ?_)
                          clear hK K
                          refine norm_ (a' := ?_) ?_ ?_
                          rotate_left
                          · show Act.put _ (some 114) _ = _
                            simp only [Act.put, List.setIfInBounds_toArray, List.set_cons_zero, List.set_cons_succ, i64_w, i32_w]
                            rfl
                          refine pure_ (i := 10) (N := some 115) (v := ?_) (a' := ?_) (bs 14 2047) rfl rfl (any_of HT_.out (by kernel_rfl)) (fun _ _ _ h => h) (Or.inl ⟨by rfl, ?_⟩) ?_ ?_
                          rotate_left; (intro w'; go_simp; with_reducible rfl); rotate_left; (simp only [Act.put, List.setIfInBounds_toArray, List.set_cons_zero, List.set_cons_succ, i64_w, i32_w]; rfl)
                          refine pure_ (i := 11) (N := some 116) (v := ?_) (a' := ?_) (bs 14 4095) rfl rfl (any_of HT_.out (by kernel_rfl)) (fun _ _ _ h => h) (Or.inl ⟨by rfl, ?_⟩) ?_ ?_
                          rotate_left; (intro w'; go_simp; with_reducible rfl); rotate_left; (simp only [Act.put, List.setIfInBounds_toArray, List.set_cons_zero, List.set_cons_succ, i64_w, i32_w]; rfl)
                          refine pure_ (i := 12) (N := some 117) (v := ?_) (a' := ?_) (bs 14 8191) rfl rfl (any_of HT_.out (by kernel_rfl)) (fun _ _ _ h => h) (Or.inl ⟨by rfl, ?_⟩) ?_ ?_
                          rotate_left; (intro w'; go_simp; with_reducible rfl); rotate_left; (simp only [Act.put, List.setIfInBounds_toArray, List.set_cons_zero, List.set_cons_succ, i64_w, i32_w]; rfl)
                          refine pure_ (i := 13) (N := some 118) (v := ?_) (a' := ?_) (bs 14 16383) rfl rfl (any_of HT_.out (by kernel_rfl)) (fun _ _ _ h => h) (Or.inl ⟨by rfl, ?_⟩) ?_ ?_
                          rotate_left; (intro w'; go_simp; with_reducible rfl); rotate_left; (simp only [Act.put, List.setIfInBounds_toArray, List.set_cons_zero, List.set_cons_succ, i64_w, i32_w]; rfl)
                          refine done_ (done_of HT_.out (by kernel_rfl)) ?_
                          try go_wp2
                          go_roundg k3
                          case measure => have := HJ2.out; have := HJ31.out; have := HK3.out; omega
                          case rel => exact ⟨(wrap64 (x12_3 + 1)), (by first | rfl | (simp; done) | (simp [*]; done)), H', ⟨by have := HJ2.out; have := HJ31.out; have := HK3.out; omega⟩, ⟨by (with_reducible repeat (first | apply Kd.N_alloc | apply Kd.N_drewN | apply Kd.N_drew)); exact HO_5.out⟩, ⟨by (with_reducible repeat (first | apply Kd.R_alloc | apply Kd.R_drewN | apply Kd.R_drew)); exact HO_633000.out⟩, ⟨by (with_reducible repeat (first | apply Kd.N_alloc | apply Kd.N_drewN | apply Kd.N_drew)); exact HO_633001.out⟩, ⟨by (with_reducible repeat (first | apply Kd.R_alloc | apply Kd.R_drewN | apply Kd.R_drew)); exact HO_644000.out⟩, ⟨by (with_reducible repeat (first | apply Kd.N_alloc | apply Kd.N_drewN | apply Kd.N_drew)); exact HO_644001.out⟩, ⟨by (with_reducible repeat (first | refine blk_drewN ?_ _ | refine blk_drew ?_ | refine blk_alloc ?_ _)); exact BK632.out⟩, ⟨by (with_reducible repeat (first | refine blk_drewN ?_ _ | refine blk_drew ?_ | refine blk_alloc ?_ _)); exact BK643.out⟩, ⟨by repeat (first | (with_reducible first | exact HB.out | apply below_alloc | apply pw_below_drewN | apply below_drew1 | refine below_set ?_ GE632.out | refine below_set ?_ GE643.out) | exact HB.out)⟩⟩
                      · rw [if_neg c68] at H
                        have c68b0 : (t649 == 0) = false := beq_eq_false_iff_ne.mpr c68
                        have c68b1 : (t649 != 0) = true := bne_iff_ne.mpr c68
                        exact absurd ((Option.some.inj H).trans HT_.out) (by decide)
                    · rw [if_neg c66] at H
                      exact absurd H (by simp)
                  · rw [if_neg c64] at H
                    exact absurd H (by simp)
                · rw [if_neg c63] at H
                  have c63b0 : decide (x12_3 < (t619.length : Int)) = false := decide_eq_false c63
                  clear c63
                  obtain rfl := Option.some.inj H
                  go_wp2
                  go_ret
                  exact ⟨by first | rfl | (simp [errW_none, errW_some] <;> rfl) | (simp [*, errW_none, errW_some] <;> rfl), by repeat (first | (with_reducible first | exact HB.out | apply below_alloc | apply pw_below_drewN | apply below_drew1 | refine below_set ?_ GE632.out | refine below_set ?_ GE643.out) | exact HB.out)⟩

/-- THE ONE PURE STATEMENT of arboristlaw07_BuiltRows. -/
def arboristlaw07_BuiltRows.Pure : Prop := ∀ (l0 : List (List Int)), (l0.length ≤ maxLen ∧ ∀ z0 ∈ l0, (z0.length ≤ maxLen ∧ ∀ z1 ∈ z0, (Lit.int .i64 z1).wf = true)) → ∃ k, arboristlaw07_BuiltRows.f k l0 = some true

end Go.Proofs.Ytlckejeglchgmaa.Pr
