-- Printed by a program of this session's own (wip/tools/pp.py) over the kit's print.py; Lean checks it.
import Derived.Test.YtlnmgljiggebiaaPr0
import Derived.Test.YtlnmgljiggebiaaPr1
import Derived.Test.YtlnmgljiggebiaaPr9
import Derived.Test.YtlnmgljiggebiaaPr10
import Derived.Test.YtlnmgljiggebiaaPr13
import Derived.Test.YtlnmgljiggebiaaPr14
namespace Go.Proofs.Ytlnmgljiggebiaa.Pr
open Go.RowKit Go.Proofs.YtlnmgljiggebiaaW.PrintWords Go.Proofs.YtlnmgljiggebiaaW.PrintLast Go.Proofs.YtlnmgljiggebiaaW.PrintMore
attribute [local go_sem] max2_int min2_int max_two min_two max_three min_three max_four min_four   -- for this text's walks alone
set_option linter.unusedVariables false
set_option linter.unusedSimpArgs false

/-! ### arboristlaw01_TupleFinds: function 5 -/
mutual
def arboristlaw01_TupleFinds.l0 : Nat → List (List Int) → List Int → Bool → List (List Int) → Int → Option (Bool)
  | 0, _, _, _, _, _ => none
  | k + 1, x0, x1, x5, x6, x7 => if x7 < (x6.length : Int) then (if 0 ≤ x7 then ((tuple_Find.f x6 (rd_L1 x6 x7)).bind fun bt314 => (if bt314.2 = true then (if bt314.1 = x7 then (if x7 > 0 then (if 0 ≤ (wrap64 (x7 - 1)) then (if (wrap64 (x7 - 1)) < (x6.length : Int) then ((tuple_Compare.f k (rd_L1 x6 (wrap64 (x7 - 1))) (rd_L1 x6 x7)).bind fun t318 => (if t318 = (-1) then (arboristlaw01_TupleFinds.l0 k x0 x1 x5 x6 (wrap64 (x7 + 1))) else (some false))) else (none)) else (none)) else (arboristlaw01_TupleFinds.l0 k x0 x1 x5 x6 (wrap64 (x7 + 1)))) else (some false)) else (some false))) else (none)) else (arboristlaw01_TupleFinds.l1 k x0 x1 x5 x6 0)
def arboristlaw01_TupleFinds.l1 : Nat → List (List Int) → List Int → Bool → List (List Int) → Int → Option (Bool)
  | 0, _, _, _, _, _ => none
  | k + 1, x0, x1, x5, x6, x10 => if x10 < (x0.length : Int) then (if 0 ≤ x10 then ((tuple_Find.f x6 (rd_L1 x0 x10)).bind fun bt320 => (if bt320.2 = true then (arboristlaw01_TupleFinds.l1 k x0 x1 x5 x6 (wrap64 (x10 + 1))) else (some false))) else (none)) else ((tuple_Find.f x6 x1).bind fun bt322 => (if bt322.1 < 0 then (arboristlaw01_TupleFinds.j2 k x1 x5 x6 bt322.1 bt322.2 true) else (arboristlaw01_TupleFinds.j2 k x1 x5 x6 bt322.1 bt322.2 (decide (bt322.1 > (x6.length : Int))))))
def arboristlaw01_TupleFinds.j2 : Nat → List Int → Bool → List (List Int) → Int → Bool → Bool → Option (Bool)
  | 0, _, _, _, _, _, _ => none
  | k + 1, x1, x5, x6, x13, x14, x94 => if x94 = true then (some false) else (if x13 > 0 then (if 0 ≤ (wrap64 (x13 - 1)) then (if (wrap64 (x13 - 1)) < (x6.length : Int) then ((tuple_Compare.f k (rd_L1 x6 (wrap64 (x13 - 1))) x1).bind fun t325 => (arboristlaw01_TupleFinds.j3 k x1 x5 x6 x13 x14 (t325 != (-1)))) else (none)) else (none)) else (arboristlaw01_TupleFinds.j3 k x1 x5 x6 x13 x14 false))
def arboristlaw01_TupleFinds.j3 : Nat → List Int → Bool → List (List Int) → Int → Bool → Bool → Option (Bool)
  | 0, _, _, _, _, _, _ => none
  | k + 1, x1, x5, x6, x13, x14, x106 => if x106 = true then (some false) else (if x5 = true then (if x13 = (x6.length : Int) then (if x13 < (x6.length : Int) then (if 0 ≤ x13 then ((tuple_Compare.f k x1 (rd_L1 x6 x13)).bind fun t327 => (some (x14 == (t327 == 0)))) else (none)) else (some (x14 == false))) else (if 0 ≤ x13 then (if x13 < (x6.length : Int) then ((tuple_Compare.f k x1 (rd_L1 x6 x13)).bind fun t329 => (if t329 < 1 then ((tuple_Compare.f k x1 (rd_L1 x6 x13)).bind fun t331 => (some (x14 == (t331 == 0)))) else (some false))) else (none)) else (none))) else (some false))
end
def arboristlaw01_TupleFinds.f (k : Nat) (l0 : List (List Int)) (l1 : List Int) : Option (Bool) := (arboristlaw01_shown.f k).bind fun t305 => ((arboristlaw01_few.f k l0).bind fun t306 => (if 0 ≤ (mn (l1.length : Int) 6) then (if (mn (l1.length : Int) 6) ≤ (l1.length : Int) then ((tuple_Sort.f t306).bind fun t310 => (arboristlaw01_TupleFinds.l0 k t306 (l1.take ((mn (l1.length : Int) 6) : Int).toNat) t305 t310 0)) else (none)) else (none)))
theorem arboristlaw01_TupleFinds.mono_l : ∀ k, (∀ y0 y1 y2 y3 y4, LeO (arboristlaw01_TupleFinds.l0 k y0 y1 y2 y3 y4) (arboristlaw01_TupleFinds.l0 (k + 1) y0 y1 y2 y3 y4)) ∧ (∀ y0 y1 y2 y3 y4, LeO (arboristlaw01_TupleFinds.l1 k y0 y1 y2 y3 y4) (arboristlaw01_TupleFinds.l1 (k + 1) y0 y1 y2 y3 y4)) ∧ (∀ y0 y1 y2 y3 y4 y5, LeO (arboristlaw01_TupleFinds.j2 k y0 y1 y2 y3 y4 y5) (arboristlaw01_TupleFinds.j2 (k + 1) y0 y1 y2 y3 y4 y5)) ∧ (∀ y0 y1 y2 y3 y4 y5, LeO (arboristlaw01_TupleFinds.j3 k y0 y1 y2 y3 y4 y5) (arboristlaw01_TupleFinds.j3 (k + 1) y0 y1 y2 y3 y4 y5))
  | 0 => ⟨fun _ _ _ _ _ r h => by simp [arboristlaw01_TupleFinds.l0] at h, fun _ _ _ _ _ r h => by simp [arboristlaw01_TupleFinds.l1] at h, fun _ _ _ _ _ _ r h => by simp [arboristlaw01_TupleFinds.j2] at h, fun _ _ _ _ _ _ r h => by simp [arboristlaw01_TupleFinds.j3] at h⟩
  | k + 1 => by
    obtain ⟨ih0, ih1, ih2, ih3⟩ := arboristlaw01_TupleFinds.mono_l k
    refine ⟨?_, ?_, ?_, ?_⟩
    all_goals intros
    all_goals (first | unfold arboristlaw01_TupleFinds.l0 | unfold arboristlaw01_TupleFinds.l1 | unfold arboristlaw01_TupleFinds.j2 | unfold arboristlaw01_TupleFinds.j3)
    all_goals repeat' first
    | (with_reducible exact ih0 _ _ _ _ _)
    | (with_reducible exact ih1 _ _ _ _ _)
    | (with_reducible exact ih2 _ _ _ _ _ _)
    | (with_reducible exact ih3 _ _ _ _ _ _)
    | (with_reducible exact arboristlaw01_few.mono _ _)
    | (with_reducible exact arboristlaw01_shown.mono _)
    | (with_reducible exact tuple_Compare.mono _ _ _)
    | (with_reducible exact LeO.refl _)
    | (with_reducible exact LeO.none _)
    | (with_reducible refine LeO.ite ?_ ?_)
    | (with_reducible refine LeO.bind ?_ (fun _ => ?_))
    | exact ih0 _ _ _ _ _
    | exact ih1 _ _ _ _ _
    | exact ih2 _ _ _ _ _ _
    | exact ih3 _ _ _ _ _ _
    | exact arboristlaw01_few.mono _ _
    | exact arboristlaw01_shown.mono _
    | exact tuple_Compare.mono _ _ _
    | exact LeO.none _
    | refine LeO.ite ?_ ?_
    | refine LeO.bind ?_ (fun _ => ?_)
theorem arboristlaw01_TupleFinds.mono : ∀ a0 a1 k, LeO (arboristlaw01_TupleFinds.f k a0 a1) (arboristlaw01_TupleFinds.f (k + 1) a0 a1) := by
  intro a0 a1 k
  obtain ⟨ih0, ih1, ih2, ih3⟩ := arboristlaw01_TupleFinds.mono_l k
  unfold arboristlaw01_TupleFinds.f
  repeat' first
      | (with_reducible exact ih0 _ _ _ _ _)
      | (with_reducible exact ih1 _ _ _ _ _)
      | (with_reducible exact ih2 _ _ _ _ _ _)
      | (with_reducible exact ih3 _ _ _ _ _ _)
      | (with_reducible exact arboristlaw01_few.mono _ _)
      | (with_reducible exact arboristlaw01_shown.mono _)
      | (with_reducible exact tuple_Compare.mono _ _ _)
      | (with_reducible exact LeO.refl _)
      | (with_reducible exact LeO.none _)
      | (with_reducible refine LeO.ite ?_ ?_)
      | (with_reducible refine LeO.bind ?_ (fun _ => ?_))
      | exact ih0 _ _ _ _ _
      | exact ih1 _ _ _ _ _
      | exact ih2 _ _ _ _ _ _
      | exact ih3 _ _ _ _ _ _
      | exact arboristlaw01_few.mono _ _
      | exact arboristlaw01_shown.mono _
      | exact tuple_Compare.mono _ _ _
      | exact LeO.none _
      | refine LeO.ite ?_ ?_
      | refine LeO.bind ?_ (fun _ => ?_)
set_option maxHeartbeats 8000000 in
set_option maxRecDepth 100000 in
theorem arboristlaw01_TupleFinds.calls (k : Nat) (A0 : Option Addr) (c0 : Nat) (l0 : List (List Int)) (A1 : Option Addr) (c1 : Nat) (l1 : List Int) (r : Bool) (w : World) (hr0 : Kd.C (Kd.slice 3 (Kd.int .i64)) w A0 l0.length l0) (hc0 : l0.length ≤ c0) (hr1 : Kd.C (Kd.int .i64) w A1 l1.length l1) (hc1 : l1.length ≤ c1) (hT : r = true) (h : arboristlaw01_TupleFinds.f k l0 l1 = some r) :
    Calls Try.prog 5 #[.slice A0 l0.length c0, .slice A1 l1.length c1] w fun e w' => e = .returned (.bool r) ∧ Below w.heap.size w w' := by
  have HT_ := Aside0.mk (show r = true from hT)
  clear hT
  have HR0 := Aside0.mk hr0
  have HC0 := Aside0.mk hc0
  clear hr0 hc0
  have HR1 := Aside0.mk hr1
  have HC1 := Aside0.mk hc1
  clear hr1 hc1
  have HB := Aside0.mk (Below.refl w.heap.size w)
  have H : ((arboristlaw01_shown.f k).bind fun t305 => ((arboristlaw01_few.f k l0).bind fun t306 => (if 0 ≤ (mn (l1.length : Int) 6) then (if (mn (l1.length : Int) 6) ≤ (l1.length : Int) then ((tuple_Sort.f t306).bind fun t310 => (arboristlaw01_TupleFinds.l0 k t306 (l1.take ((mn (l1.length : Int) 6) : Int).toNat) t305 t310 0)) else (none)) else (none)))) = some r := h
  clear h
  replace H := Option.bind_eq_some_iff.mp H
  obtain ⟨t305, A30, H⟩ := H
  replace H : ((arboristlaw01_few.f k l0).bind fun t306 => (if 0 ≤ (mn (l1.length : Int) 6) then (if (mn (l1.length : Int) 6) ≤ (l1.length : Int) then ((tuple_Sort.f t306).bind fun t310 => (arboristlaw01_TupleFinds.l0 k t306 (l1.take ((mn (l1.length : Int) 6) : Int).toNat) t305 t310 0)) else (none)) else (none))) = some r := H
  have A3 := Aside0.mk A30
  clear A30
  replace H := Option.bind_eq_some_iff.mp H
  obtain ⟨t306, A40, H⟩ := H
  replace H : (if 0 ≤ (mn (l1.length : Int) 6) then (if (mn (l1.length : Int) 6) ≤ (l1.length : Int) then ((tuple_Sort.f t306).bind fun t310 => (arboristlaw01_TupleFinds.l0 k t306 (l1.take ((mn (l1.length : Int) 6) : Int).toNat) t305 t310 0)) else (none)) else (none)) = some r := H
  have A4 := Aside0.mk A40
  clear A40
  obtain ⟨ji5, hji5⟩ : ∃ j_ : Int, (mn (l1.length : Int) 6) = j_ := ⟨_, rfl⟩
  replace H : (if 0 ≤ (ji5) then (if (ji5) ≤ (l1.length : Int) then ((tuple_Sort.f t306).bind fun t310 => (arboristlaw01_TupleFinds.l0 k t306 (l1.take ((ji5) : Int).toNat) t305 t310 0)) else (none)) else (none)) = some r := by first | (rw [hji5] at H; exact H) | (simp only [hji5] at H ⊢; exact H)
  (try rw [hji5] at A3)
  (try rw [hji5] at A4)
  (try (have hji5h : ji5 ≤ 6 := by (rw [← hji5]; unfold mn; (repeat' split) <;> omega)))
  (try (have hji5g : ji5 ≤ 64 := by omega))
  (try (have hji5l : 0 ≤ ji5 := by (rw [← hji5]; unfold mn; (repeat' split) <;> omega)))
  (try (have hji5m : 0 ≤ ji5 := by omega))
  have hji5_ : (if 6 < (l1.length : Int) then 6 else (l1.length : Int)) = ji5 := hji5
  by_cases c6 : 0 ≤ (ji5)
  · rw [if_pos c6] at H
    have c6b0 := eq_true c6
    have c6b1 : decide (0 ≤ (ji5)) = true := decide_eq_true c6
    clear c6
    by_cases c7 : (ji5) ≤ (l1.length : Int)
    · rw [if_pos c7] at H
      have c7b0 := eq_true c7
      have c7b1 : decide ((ji5) ≤ (l1.length : Int)) = true := decide_eq_true c7
      clear c7
      replace H := Option.bind_eq_some_iff.mp H
      obtain ⟨t310, A80, H⟩ := H
      replace H : (arboristlaw01_TupleFinds.l0 k t306 (l1.take ((ji5) : Int).toNat) t305 t310 0) = some r := H
      have A8 := Aside0.mk A80
      clear A80
      have H' := Aside0.mk H
      clear H
      go_enter Try.func5, Try.ntmps5
      go_wp2_with (first | (go_at_call 12; (with_reducible refine (arboristlaw01_shown.calls k  t305 _ A3.out).mono ?_); rintro e w9 ⟨rfl, hb⟩; have n0_ := Aside0.mk (below_step (by repeat (first | (with_reducible first | exact HB.out | apply below_alloc | apply pw_below_drewN | apply below_drew1) | exact HB.out)) hb); clear HB; have HB := n0_; clear n0_; (try clear hb); (try clear hb2); (try clear hk); (try clear hi)) | (go_at_call 13; (with_reducible refine (arboristlaw01_few.calls k _ _ l0 t306 _ ?side1 ?side2 A4.out).mono ?_); (case side1 => repeat (first | exact (Kd.C_below HR0.out HB.out) | (with_reducible refine Kd.C_alloc ?_ _) | (with_reducible refine Kd.C_drewN ?_ _) | (with_reducible refine Kd.C_drew ?_))); (case side2 => exact HC0.out); rintro e w10 ⟨v307, rfl, ho0, hb⟩; have n0_ := Aside0.mk (Kd.S_lower ho0 (below_size (by repeat (first | (with_reducible first | exact HB.out | apply below_alloc | apply pw_below_drewN | apply below_drew1) | exact HB.out)))); have n1_ := Aside0.mk (below_step (by repeat (first | (with_reducible first | exact HB.out | apply below_alloc | apply pw_below_drewN | apply below_drew1) | exact HB.out)) hb); clear HB; have HO308 := n0_; have HB := n1_; clear n0_ n1_; (try clear hb); (try clear hb2); (try clear hk); (try clear hi); (try clear ho0); obtain ⟨i011, hi011, _, hsz11, _⟩ := info_parts info3; obtain ⟨hcut11, hA11, hC11⟩ := print_take_of (P := Try.prog) (Value.int .i64) 0 23 3 .i64 Try.underlying23 hi011 hsz11 A1 c1 l1 (ji5) (of_decide_eq_true (by first | (with_reducible assumption) | assumption)) (of_decide_eq_true (by first | (with_reducible assumption) | assumption)) HC1.out; have HR309 := Aside0.mk (Kd.C_of_reads (h1 := fun _ => rfl) (hA11 _ (Kd.reads_of_C HR1.out))); have HC309 := Aside0.mk hC11; clear hA11 hC11 hi011 hsz11; obtain ⟨Ao12, co12, eo12⟩ := Kd.S_slice HO308.out; subst eo12) | (go_at_call 14; (with_reducible refine (tuple_Sort.calls _ _ t306 t310 _ ?side1 ?side2 A8.out).mono ?_); (case side1 => repeat (first | exact (Kd.S_reads' HO308.out).2.2 | (with_reducible refine Kd.C_alloc ?_ _) | (with_reducible refine Kd.C_drewN ?_ _) | (with_reducible refine Kd.C_drew ?_))); (case side2 => exact (Kd.S_reads' HO308.out).2.1); rintro e w13 ⟨v311, rfl, ho0, hb⟩; have n0_ := Aside0.mk (Kd.S_elder' (by (with_reducible repeat (first | apply Kd.S_alloc | apply Kd.S_drewN | apply Kd.S_drew)); exact HO308.out) (Kd.S_base ho0) hb); have n1_ := Aside0.mk (Kd.S_lower (Kd.S_new' ho0 (Kd.S_lt (by (with_reducible repeat (first | apply Kd.S_alloc | apply Kd.S_drewN | apply Kd.S_drew)); exact HO308.out))) (below_size (by repeat (first | (with_reducible first | exact HB.out | apply below_alloc | apply pw_below_drewN | apply below_drew1) | exact HB.out)))); have n2_ := Aside0.mk (below_step (by repeat (first | (with_reducible first | exact HB.out | apply below_alloc | apply pw_below_drewN | apply below_drew1) | exact HB.out)) hb); clear HO308; clear HB; have HO308 := n0_; have HO312 := n1_; have HB := n2_; clear n0_ n1_ n2_; (try clear hb); (try clear hb2); (try clear hk); (try clear hi); (try clear ho0)))
      repeat (go_quiet (first | (go_at_call 12; (with_reducible refine (arboristlaw01_shown.calls k  t305 _ A3.out).mono ?_); rintro e w9 ⟨rfl, hb⟩; have n0_ := Aside0.mk (below_step (by repeat (first | (with_reducible first | exact HB.out | apply below_alloc | apply pw_below_drewN | apply below_drew1) | exact HB.out)) hb); clear HB; have HB := n0_; clear n0_; (try clear hb); (try clear hb2); (try clear hk); (try clear hi)) | (go_at_call 13; (with_reducible refine (arboristlaw01_few.calls k _ _ l0 t306 _ ?side1 ?side2 A4.out).mono ?_); (case side1 => repeat (first | exact (Kd.C_below HR0.out HB.out) | (with_reducible refine Kd.C_alloc ?_ _) | (with_reducible refine Kd.C_drewN ?_ _) | (with_reducible refine Kd.C_drew ?_))); (case side2 => exact HC0.out); rintro e w10 ⟨v307, rfl, ho0, hb⟩; have n0_ := Aside0.mk (Kd.S_lower ho0 (below_size (by repeat (first | (with_reducible first | exact HB.out | apply below_alloc | apply pw_below_drewN | apply below_drew1) | exact HB.out)))); have n1_ := Aside0.mk (below_step (by repeat (first | (with_reducible first | exact HB.out | apply below_alloc | apply pw_below_drewN | apply below_drew1) | exact HB.out)) hb); clear HB; have HO308 := n0_; have HB := n1_; clear n0_ n1_; (try clear hb); (try clear hb2); (try clear hk); (try clear hi); (try clear ho0); obtain ⟨i011, hi011, _, hsz11, _⟩ := info_parts info3; obtain ⟨hcut11, hA11, hC11⟩ := print_take_of (P := Try.prog) (Value.int .i64) 0 23 3 .i64 Try.underlying23 hi011 hsz11 A1 c1 l1 (ji5) (of_decide_eq_true (by first | (with_reducible assumption) | assumption)) (of_decide_eq_true (by first | (with_reducible assumption) | assumption)) HC1.out; have HR309 := Aside0.mk (Kd.C_of_reads (h1 := fun _ => rfl) (hA11 _ (Kd.reads_of_C HR1.out))); have HC309 := Aside0.mk hC11; clear hA11 hC11 hi011 hsz11; obtain ⟨Ao12, co12, eo12⟩ := Kd.S_slice HO308.out; subst eo12) | (go_at_call 14; (with_reducible refine (tuple_Sort.calls _ _ t306 t310 _ ?side1 ?side2 A8.out).mono ?_); (case side1 => repeat (first | exact (Kd.S_reads' HO308.out).2.2 | (with_reducible refine Kd.C_alloc ?_ _) | (with_reducible refine Kd.C_drewN ?_ _) | (with_reducible refine Kd.C_drew ?_))); (case side2 => exact (Kd.S_reads' HO308.out).2.1); rintro e w13 ⟨v311, rfl, ho0, hb⟩; have n0_ := Aside0.mk (Kd.S_elder' (by (with_reducible repeat (first | apply Kd.S_alloc | apply Kd.S_drewN | apply Kd.S_drew)); exact HO308.out) (Kd.S_base ho0) hb); have n1_ := Aside0.mk (Kd.S_lower (Kd.S_new' ho0 (Kd.S_lt (by (with_reducible repeat (first | apply Kd.S_alloc | apply Kd.S_drewN | apply Kd.S_drew)); exact HO308.out))) (below_size (by repeat (first | (with_reducible first | exact HB.out | apply below_alloc | apply pw_below_drewN | apply below_drew1) | exact HB.out)))); have n2_ := Aside0.mk (below_step (by repeat (first | (with_reducible first | exact HB.out | apply below_alloc | apply pw_below_drewN | apply below_drew1) | exact HB.out)) hb); clear HO308; clear HB; have HO308 := n0_; have HO312 := n1_; have HB := n2_; clear n0_ n1_ n2_; (try clear hb); (try clear hb2); (try clear hk); (try clear hi); (try clear ho0))); try go_wp2_with (first | (go_at_call 12; (with_reducible refine (arboristlaw01_shown.calls k  t305 _ A3.out).mono ?_); rintro e w9 ⟨rfl, hb⟩; have n0_ := Aside0.mk (below_step (by repeat (first | (with_reducible first | exact HB.out | apply below_alloc | apply pw_below_drewN | apply below_drew1) | exact HB.out)) hb); clear HB; have HB := n0_; clear n0_; (try clear hb); (try clear hb2); (try clear hk); (try clear hi)) | (go_at_call 13; (with_reducible refine (arboristlaw01_few.calls k _ _ l0 t306 _ ?side1 ?side2 A4.out).mono ?_); (case side1 => repeat (first | exact (Kd.C_below HR0.out HB.out) | (with_reducible refine Kd.C_alloc ?_ _) | (with_reducible refine Kd.C_drewN ?_ _) | (with_reducible refine Kd.C_drew ?_))); (case side2 => exact HC0.out); rintro e w10 ⟨v307, rfl, ho0, hb⟩; have n0_ := Aside0.mk (Kd.S_lower ho0 (below_size (by repeat (first | (with_reducible first | exact HB.out | apply below_alloc | apply pw_below_drewN | apply below_drew1) | exact HB.out)))); have n1_ := Aside0.mk (below_step (by repeat (first | (with_reducible first | exact HB.out | apply below_alloc | apply pw_below_drewN | apply below_drew1) | exact HB.out)) hb); clear HB; have HO308 := n0_; have HB := n1_; clear n0_ n1_; (try clear hb); (try clear hb2); (try clear hk); (try clear hi); (try clear ho0); obtain ⟨i011, hi011, _, hsz11, _⟩ := info_parts info3; obtain ⟨hcut11, hA11, hC11⟩ := print_take_of (P := Try.prog) (Value.int .i64) 0 23 3 .i64 Try.underlying23 hi011 hsz11 A1 c1 l1 (ji5) (of_decide_eq_true (by first | (with_reducible assumption) | assumption)) (of_decide_eq_true (by first | (with_reducible assumption) | assumption)) HC1.out; have HR309 := Aside0.mk (Kd.C_of_reads (h1 := fun _ => rfl) (hA11 _ (Kd.reads_of_C HR1.out))); have HC309 := Aside0.mk hC11; clear hA11 hC11 hi011 hsz11; obtain ⟨Ao12, co12, eo12⟩ := Kd.S_slice HO308.out; subst eo12) | (go_at_call 14; (with_reducible refine (tuple_Sort.calls _ _ t306 t310 _ ?side1 ?side2 A8.out).mono ?_); (case side1 => repeat (first | exact (Kd.S_reads' HO308.out).2.2 | (with_reducible refine Kd.C_alloc ?_ _) | (with_reducible refine Kd.C_drewN ?_ _) | (with_reducible refine Kd.C_drew ?_))); (case side2 => exact (Kd.S_reads' HO308.out).2.1); rintro e w13 ⟨v311, rfl, ho0, hb⟩; have n0_ := Aside0.mk (Kd.S_elder' (by (with_reducible repeat (first | apply Kd.S_alloc | apply Kd.S_drewN | apply Kd.S_drew)); exact HO308.out) (Kd.S_base ho0) hb); have n1_ := Aside0.mk (Kd.S_lower (Kd.S_new' ho0 (Kd.S_lt (by (with_reducible repeat (first | apply Kd.S_alloc | apply Kd.S_drewN | apply Kd.S_drew)); exact HO308.out))) (below_size (by repeat (first | (with_reducible first | exact HB.out | apply below_alloc | apply pw_below_drewN | apply below_drew1) | exact HB.out)))); have n2_ := Aside0.mk (below_step (by repeat (first | (with_reducible first | exact HB.out | apply below_alloc | apply pw_below_drewN | apply below_drew1) | exact HB.out)) hb); clear HO308; clear HB; have HO308 := n0_; have HO312 := n1_; have HB := n2_; clear n0_ n1_ n2_; (try clear hb); (try clear hb2); (try clear hk); (try clear hi); (try clear ho0))))
      go_loopg [7] k (fun kq v7 w' => ∃ (x7_1 : Int), v7 = .int .i64 x7_1 ∧ Aside0 (arboristlaw01_TupleFinds.l0 kq t306 (l1.take ((ji5) : Int).toNat) t305 t310 x7_1 = some r) ∧ Aside0 (kq ≤ k) ∧ Aside0 (Kd.S (Kd.slice 3 (Kd.int .i64)) 23 w' w.heap.size (fun k_ => some k_ ≠ (v311 : Value).ownBlock) (.slice Ao12 t306.length co12) t306) ∧ Aside0 (Kd.S (Kd.slice 3 (Kd.int .i64)) 23 w' w.heap.size (fun k_ => some k_ ≠ ((.slice Ao12 t306.length co12) : Value).ownBlock) v311 t310) ∧ Aside0 (Below w.heap.size w w'))
      case atStart => exact ⟨(0), (by first | rfl | (simp; done) | (simp [*]; done)), H', ⟨Nat.le_refl _⟩, ⟨by (with_reducible repeat (first | apply Kd.S_alloc | apply Kd.S_drewN | apply Kd.S_drew)); exact Kd.S_mono HO308.out (fun _ hk => hk.2)⟩, ⟨by (with_reducible repeat (first | apply Kd.S_alloc | apply Kd.S_drewN | apply Kd.S_drew)); exact Kd.S_mono HO312.out (fun _ hk => hk.2)⟩, ⟨by repeat (first | (with_reducible first | exact HB.out | apply below_alloc | apply pw_below_drewN | apply below_drew1) | exact HB.out)⟩⟩
      case round =>
        clear H'
        try clear c1
        try clear p2
        try clear c5
        try clear c6
        try clear c6b0
        try clear c6b1
        try clear c7
        try clear c7b0
        try clear c7b1
        obtain ⟨x7_1, rfl, HA, HK1, HO_0, HO_6, HB⟩ := hrel
        cases gk with
        | zero => exact absurd HA.out (by simp [arboristlaw01_TupleFinds.l0])
        | succ k1 =>
          have H := HA.out
          clear HA
          simp only [arboristlaw01_TupleFinds.l0] at H
          by_cases c14 : x7_1 < (t310.length : Int)
          · rw [if_pos c14] at H
            have c14b0 : decide (x7_1 < (t310.length : Int)) = true := decide_eq_true c14
            clear c14
            by_cases c15 : 0 ≤ x7_1
            · rw [if_pos c15] at H
              have c15b0 : decide (0 ≤ x7_1) = true := decide_eq_true c15
              clear c15
              replace H := Option.bind_eq_some_iff.mp H
              obtain ⟨⟨t314, t315⟩, A160, H⟩ := H
              replace H : (if t315 = true then (if t314 = x7_1 then (if x7_1 > 0 then (if 0 ≤ (wrap64 (x7_1 - 1)) then (if (wrap64 (x7_1 - 1)) < (t310.length : Int) then ((tuple_Compare.f k1 (rd_L1 t310 (wrap64 (x7_1 - 1))) (rd_L1 t310 x7_1)).bind fun t318 => (if t318 = (-1) then (arboristlaw01_TupleFinds.l0 k1 t306 (l1.take ((ji5) : Int).toNat) t305 t310 (wrap64 (x7_1 + 1))) else (some false))) else (none)) else (none)) else (arboristlaw01_TupleFinds.l0 k1 t306 (l1.take ((ji5) : Int).toNat) t305 t310 (wrap64 (x7_1 + 1)))) else (some false)) else (some false)) = some r := H
              have A16 := Aside0.mk A160
              clear A160
              by_cases c17 : t315 = true
              · subst c17
                have H1 : (if t314 = x7_1 then (if x7_1 > 0 then (if 0 ≤ (wrap64 (x7_1 - 1)) then (if (wrap64 (x7_1 - 1)) < (t310.length : Int) then ((tuple_Compare.f k1 (rd_L1 t310 (wrap64 (x7_1 - 1))) (rd_L1 t310 x7_1)).bind fun t318 => (if t318 = (-1) then (arboristlaw01_TupleFinds.l0 k1 t306 (l1.take ((ji5) : Int).toNat) t305 t310 (wrap64 (x7_1 + 1))) else (some false))) else (none)) else (none)) else (arboristlaw01_TupleFinds.l0 k1 t306 (l1.take ((ji5) : Int).toNat) t305 t310 (wrap64 (x7_1 + 1)))) else (some false)) = some r := by rw [if_pos rfl] at H; exact H
                clear H
                have H := H1
                clear H1
                by_cases c18 : t314 = x7_1
                · rw [if_pos c18] at H
                  have c18b0 : (t314 == x7_1) = true := beq_iff_eq.mpr c18
                  have c18b1 : (t314 != x7_1) = false := bne_eq_false_iff_eq.mpr c18
                  clear c18
                  by_cases c19 : x7_1 > 0
                  · rw [if_pos c19] at H
                    have c19b0 : decide (0 < x7_1) = true := decide_eq_true c19
                    clear c19
                    obtain ⟨ji20, hji20⟩ : ∃ j_ : Int, (wrap64 (x7_1 - 1)) = j_ := ⟨_, rfl⟩
                    replace H : (if 0 ≤ (ji20) then (if (ji20) < (t310.length : Int) then ((tuple_Compare.f k1 (rd_L1 t310 (ji20)) (rd_L1 t310 x7_1)).bind fun t318 => (if t318 = (-1) then (arboristlaw01_TupleFinds.l0 k1 t306 (l1.take ((ji5) : Int).toNat) t305 t310 (wrap64 (x7_1 + 1))) else (some false))) else (none)) else (none)) = some r := by first | (rw [hji20] at H; exact H) | (simp only [hji20] at H ⊢; exact H)
                    (try rw [hji20] at A16)
                    have hji20w : (IntKind.i64.wrap (x7_1 - 1)) = ji20 := (i64_w _).trans hji20
                    by_cases c21 : 0 ≤ (ji20)
                    · rw [if_pos c21] at H
                      have c21b0 : decide (0 ≤ (ji20)) = true := decide_eq_true c21
                      clear c21
                      by_cases c22 : (ji20) < (t310.length : Int)
                      · rw [if_pos c22] at H
                        have c22b0 : decide ((ji20) < (t310.length : Int)) = true := decide_eq_true c22
                        clear c22
                        replace H := Option.bind_eq_some_iff.mp H
                        obtain ⟨t318, A230, H⟩ := H
                        replace H : (if t318 = (-1) then (arboristlaw01_TupleFinds.l0 k1 t306 (l1.take ((ji5) : Int).toNat) t305 t310 (wrap64 (x7_1 + 1))) else (some false)) = some r := H
                        have A23 := Aside0.mk A230
                        clear A230
                        by_cases c24 : t318 = (-1)
                        · rw [if_pos c24] at H
                          have c24b0 : (t318 == (-1)) = true := beq_iff_eq.mpr c24
                          have c24b1 : (t318 != (-1)) = false := bne_eq_false_iff_eq.mpr c24
                          clear c24
                          have H' := Aside0.mk H
                          clear H
                          obtain ⟨Ao25, co25, eo25⟩ := Kd.S_slice HO_6.out
                          subst eo25
                          have p313 : 0 ≤ (x7_1 : Int) := of_decide_eq_true (by first | (with_reducible assumption) | assumption)
                          have q313 : x7_1 < (t310.length : Int) := of_decide_eq_true (by first | (with_reducible assumption) | assumption)
                          obtain ⟨ad313, A313_0, c313_0, e313, hx313_0, hl313_0, hi313_0⟩ := at_L1 (Kd.S_reads' HO_6.out).2.2 x7_1 p313 q313
                          cases e313
                          obtain ⟨ce313, hce313, hMe313, hcc313⟩ := Kd.S_get HO_6.out [] x7_1 p313 (by first | exact q313 | exact of_decide_eq_true (by first | (with_reducible assumption) | assumption) | (have e_ := (Kd.S_reads' HO_6.out).1; omega))
                          obtain ⟨ve313_0, rfl, ge313_0⟩ := hMe313
                          have hv313_0 := hcc313 0 _ rfl
                          rw [Nat.add_zero, show ((Kd.slice 3 (Kd.int .i64))).sz = 1 from rfl, Nat.mul_one] at hv313_0
                          replace hv313_0 := Option.some.inj (hv313_0.symm.trans hx313_0)
                          rw [hv313_0] at ge313_0
                          have HL313_0 := Aside0.mk (show Kd.R (Kd.int .i64) 3 _ _ _ _ (rd_L1 t310 x7_1) from ge313_0)
                          clear hv313_0 ge313_0
                          clear hcc313 hce313
                          have HR313_0 := Aside0.mk hi313_0
                          have HC313_0 := Aside0.mk hl313_0
                          clear hi313_0 hl313_0
                          replace p313 := eq_true p313
                          replace q313 := eq_true q313
                          go_wp2_with (first | (go_at_call 16; (with_reducible refine (tuple_Find.calls _ _ t310 _ _ (rd_L1 t310 x7_1) t314 true _ ?side1 ?side2 ?side3 ?side4 A16.out).mono ?_); (case side1 => repeat (first | exact (Kd.S_reads' HO_6.out).2.2 | (with_reducible refine Kd.C_alloc ?_ _) | (with_reducible refine Kd.C_drewN ?_ _) | (with_reducible refine Kd.C_drew ?_))); (case side2 => exact (Kd.S_reads' HO_6.out).2.1); (case side3 => repeat (first | exact (by repeat (first | (with_reducible exact HR313_0.out) | (with_reducible refine Kd.C_alloc ?_ _) | (with_reducible refine Kd.C_drewN ?_ _) | (with_reducible refine Kd.C_drew ?_) | exact HR313_0.out)) | (with_reducible refine Kd.C_alloc ?_ _) | (with_reducible refine Kd.C_drewN ?_ _) | (with_reducible refine Kd.C_drew ?_))); (case side4 => exact HC313_0.out); rintro e w' ⟨rfl, ⟨nd, rfl⟩⟩; (try first | exact ⟨rfl, _, World.drewN_drewN _ _ _⟩ | exact ⟨rfl, _, Eq.trans (World.drewN_drewN _ _ _) (congrArg (World.drewN _) (Nat.add_assoc _ _ _))⟩); all_goals (have p316 : 0 ≤ ((ji20) : Int) := of_decide_eq_true (by first | (with_reducible assumption) | assumption); have q316 : (ji20) < (t310.length : Int) := of_decide_eq_true (by first | (with_reducible assumption) | assumption); obtain ⟨ad316, A316_0, c316_0, e316, hx316_0, hl316_0, hi316_0⟩ := at_L1 (Kd.S_reads' HO_6.out).2.2 (ji20) p316 q316; obtain rfl : ad313 = ad316 := (by injection e316); obtain ⟨ce316, hce316, hMe316, hcc316⟩ := Kd.S_get HO_6.out [] (ji20) p316 (by first | exact q316 | exact of_decide_eq_true (by first | (with_reducible assumption) | assumption) | (have e_ := (Kd.S_reads' HO_6.out).1; omega)); obtain ⟨ve316_0, rfl, ge316_0⟩ := hMe316; have hv316_0 := hcc316 0 _ rfl; rw [Nat.add_zero, show ((Kd.slice 3 (Kd.int .i64))).sz = 1 from rfl, Nat.mul_one] at hv316_0; replace hv316_0 := Option.some.inj (hv316_0.symm.trans hx316_0); rw [hv316_0] at ge316_0; have HL316_0 := Aside0.mk (show Kd.R (Kd.int .i64) 3 _ _ _ _ (rd_L1 t310 (ji20)) from ge316_0); clear hv316_0 ge316_0; clear hcc316 hce316; have HR316_0 := Aside0.mk hi316_0; have HC316_0 := Aside0.mk hl316_0; clear hi316_0 hl316_0; replace p316 := eq_true p316; replace q316 := eq_true q316; have p317 : 0 ≤ (x7_1 : Int) := of_decide_eq_true (by first | (with_reducible assumption) | assumption); have q317 : x7_1 < (t310.length : Int) := of_decide_eq_true (by first | (with_reducible assumption) | assumption); obtain ⟨ad317, A317_0, c317_0, e317, hx317_0, hl317_0, hi317_0⟩ := at_L1 (Kd.S_reads' HO_6.out).2.2 x7_1 p317 q317; obtain rfl : ad313 = ad317 := (by injection e317); obtain ⟨ce317, hce317, hMe317, hcc317⟩ := Kd.S_get HO_6.out [] x7_1 p317 (by first | exact q317 | exact of_decide_eq_true (by first | (with_reducible assumption) | assumption) | (have e_ := (Kd.S_reads' HO_6.out).1; omega)); obtain ⟨ve317_0, rfl, ge317_0⟩ := hMe317; have hv317_0 := hcc317 0 _ rfl; rw [Nat.add_zero, show ((Kd.slice 3 (Kd.int .i64))).sz = 1 from rfl, Nat.mul_one] at hv317_0; replace hv317_0 := Option.some.inj (hv317_0.symm.trans hx317_0); rw [hv317_0] at ge317_0; have HL317_0 := Aside0.mk (show Kd.R (Kd.int .i64) 3 _ _ _ _ (rd_L1 t310 x7_1) from ge317_0); clear hv317_0 ge317_0; clear hcc317 hce317; have HR317_0 := Aside0.mk hi317_0; have HC317_0 := Aside0.mk hl317_0; clear hi317_0 hl317_0; replace p317 := eq_true p317; replace q317 := eq_true q317; have ea_ := Option.some.inj (hx313_0.symm.trans hx317_0); injection ea_ with ea_ en_ ec_; subst ea_; subst ec_; clear en_)) | (go_at_call 18; (with_reducible refine (tuple_Compare.calls k1 _ _ (rd_L1 t310 (ji20)) _ _ (rd_L1 t310 x7_1) t318 _ ?side1 ?side2 ?side3 ?side4 A23.out).mono ?_); (case side1 => repeat (first | exact (by repeat (first | (with_reducible exact HR316_0.out) | (with_reducible refine Kd.C_alloc ?_ _) | (with_reducible refine Kd.C_drewN ?_ _) | (with_reducible refine Kd.C_drew ?_) | exact HR316_0.out)) | (with_reducible refine Kd.C_alloc ?_ _) | (with_reducible refine Kd.C_drewN ?_ _) | (with_reducible refine Kd.C_drew ?_))); (case side2 => exact HC316_0.out); (case side3 => repeat (first | exact (by repeat (first | (with_reducible exact HR317_0.out) | (with_reducible refine Kd.C_alloc ?_ _) | (with_reducible refine Kd.C_drewN ?_ _) | (with_reducible refine Kd.C_drew ?_) | exact HR317_0.out)) | (with_reducible refine Kd.C_alloc ?_ _) | (with_reducible refine Kd.C_drewN ?_ _) | (with_reducible refine Kd.C_drew ?_))); (case side4 => exact HC317_0.out); rintro e w' ⟨rfl, ⟨nd, rfl⟩⟩; (try first | exact ⟨rfl, _, World.drewN_drewN _ _ _⟩ | exact ⟨rfl, _, Eq.trans (World.drewN_drewN _ _ _) (congrArg (World.drewN _) (Nat.add_assoc _ _ _))⟩)))
                          repeat (go_quiet (first | (go_at_call 16; (with_reducible refine (tuple_Find.calls _ _ t310 _ _ (rd_L1 t310 x7_1) t314 true _ ?side1 ?side2 ?side3 ?side4 A16.out).mono ?_); (case side1 => repeat (first | exact (Kd.S_reads' HO_6.out).2.2 | (with_reducible refine Kd.C_alloc ?_ _) | (with_reducible refine Kd.C_drewN ?_ _) | (with_reducible refine Kd.C_drew ?_))); (case side2 => exact (Kd.S_reads' HO_6.out).2.1); (case side3 => repeat (first | exact (by repeat (first | (with_reducible exact HR313_0.out) | (with_reducible refine Kd.C_alloc ?_ _) | (with_reducible refine Kd.C_drewN ?_ _) | (with_reducible refine Kd.C_drew ?_) | exact HR313_0.out)) | (with_reducible refine Kd.C_alloc ?_ _) | (with_reducible refine Kd.C_drewN ?_ _) | (with_reducible refine Kd.C_drew ?_))); (case side4 => exact HC313_0.out); rintro e w' ⟨rfl, ⟨nd, rfl⟩⟩; (try first | exact ⟨rfl, _, World.drewN_drewN _ _ _⟩ | exact ⟨rfl, _, Eq.trans (World.drewN_drewN _ _ _) (congrArg (World.drewN _) (Nat.add_assoc _ _ _))⟩); all_goals (have p316 : 0 ≤ ((ji20) : Int) := of_decide_eq_true (by first | (with_reducible assumption) | assumption); have q316 : (ji20) < (t310.length : Int) := of_decide_eq_true (by first | (with_reducible assumption) | assumption); obtain ⟨ad316, A316_0, c316_0, e316, hx316_0, hl316_0, hi316_0⟩ := at_L1 (Kd.S_reads' HO_6.out).2.2 (ji20) p316 q316; obtain rfl : ad313 = ad316 := (by injection e316); obtain ⟨ce316, hce316, hMe316, hcc316⟩ := Kd.S_get HO_6.out [] (ji20) p316 (by first | exact q316 | exact of_decide_eq_true (by first | (with_reducible assumption) | assumption) | (have e_ := (Kd.S_reads' HO_6.out).1; omega)); obtain ⟨ve316_0, rfl, ge316_0⟩ := hMe316; have hv316_0 := hcc316 0 _ rfl; rw [Nat.add_zero, show ((Kd.slice 3 (Kd.int .i64))).sz = 1 from rfl, Nat.mul_one] at hv316_0; replace hv316_0 := Option.some.inj (hv316_0.symm.trans hx316_0); rw [hv316_0] at ge316_0; have HL316_0 := Aside0.mk (show Kd.R (Kd.int .i64) 3 _ _ _ _ (rd_L1 t310 (ji20)) from ge316_0); clear hv316_0 ge316_0; clear hcc316 hce316; have HR316_0 := Aside0.mk hi316_0; have HC316_0 := Aside0.mk hl316_0; clear hi316_0 hl316_0; replace p316 := eq_true p316; replace q316 := eq_true q316; have p317 : 0 ≤ (x7_1 : Int) := of_decide_eq_true (by first | (with_reducible assumption) | assumption); have q317 : x7_1 < (t310.length : Int) := of_decide_eq_true (by first | (with_reducible assumption) | assumption); obtain ⟨ad317, A317_0, c317_0, e317, hx317_0, hl317_0, hi317_0⟩ := at_L1 (Kd.S_reads' HO_6.out).2.2 x7_1 p317 q317; obtain rfl : ad313 = ad317 := (by injection e317); obtain ⟨ce317, hce317, hMe317, hcc317⟩ := Kd.S_get HO_6.out [] x7_1 p317 (by first | exact q317 | exact of_decide_eq_true (by first | (with_reducible assumption) | assumption) | (have e_ := (Kd.S_reads' HO_6.out).1; omega)); obtain ⟨ve317_0, rfl, ge317_0⟩ := hMe317; have hv317_0 := hcc317 0 _ rfl; rw [Nat.add_zero, show ((Kd.slice 3 (Kd.int .i64))).sz = 1 from rfl, Nat.mul_one] at hv317_0; replace hv317_0 := Option.some.inj (hv317_0.symm.trans hx317_0); rw [hv317_0] at ge317_0; have HL317_0 := Aside0.mk (show Kd.R (Kd.int .i64) 3 _ _ _ _ (rd_L1 t310 x7_1) from ge317_0); clear hv317_0 ge317_0; clear hcc317 hce317; have HR317_0 := Aside0.mk hi317_0; have HC317_0 := Aside0.mk hl317_0; clear hi317_0 hl317_0; replace p317 := eq_true p317; replace q317 := eq_true q317; have ea_ := Option.some.inj (hx313_0.symm.trans hx317_0); injection ea_ with ea_ en_ ec_; subst ea_; subst ec_; clear en_)) | (go_at_call 18; (with_reducible refine (tuple_Compare.calls k1 _ _ (rd_L1 t310 (ji20)) _ _ (rd_L1 t310 x7_1) t318 _ ?side1 ?side2 ?side3 ?side4 A23.out).mono ?_); (case side1 => repeat (first | exact (by repeat (first | (with_reducible exact HR316_0.out) | (with_reducible refine Kd.C_alloc ?_ _) | (with_reducible refine Kd.C_drewN ?_ _) | (with_reducible refine Kd.C_drew ?_) | exact HR316_0.out)) | (with_reducible refine Kd.C_alloc ?_ _) | (with_reducible refine Kd.C_drewN ?_ _) | (with_reducible refine Kd.C_drew ?_))); (case side2 => exact HC316_0.out); (case side3 => repeat (first | exact (by repeat (first | (with_reducible exact HR317_0.out) | (with_reducible refine Kd.C_alloc ?_ _) | (with_reducible refine Kd.C_drewN ?_ _) | (with_reducible refine Kd.C_drew ?_) | exact HR317_0.out)) | (with_reducible refine Kd.C_alloc ?_ _) | (with_reducible refine Kd.C_drewN ?_ _) | (with_reducible refine Kd.C_drew ?_))); (case side4 => exact HC317_0.out); rintro e w' ⟨rfl, ⟨nd, rfl⟩⟩; (try first | exact ⟨rfl, _, World.drewN_drewN _ _ _⟩ | exact ⟨rfl, _, Eq.trans (World.drewN_drewN _ _ _) (congrArg (World.drewN _) (Nat.add_assoc _ _ _))⟩))); try go_wp2_with (first | (go_at_call 16; (with_reducible refine (tuple_Find.calls _ _ t310 _ _ (rd_L1 t310 x7_1) t314 true _ ?side1 ?side2 ?side3 ?side4 A16.out).mono ?_); (case side1 => repeat (first | exact (Kd.S_reads' HO_6.out).2.2 | (with_reducible refine Kd.C_alloc ?_ _) | (with_reducible refine Kd.C_drewN ?_ _) | (with_reducible refine Kd.C_drew ?_))); (case side2 => exact (Kd.S_reads' HO_6.out).2.1); (case side3 => repeat (first | exact (by repeat (first | (with_reducible exact HR313_0.out) | (with_reducible refine Kd.C_alloc ?_ _) | (with_reducible refine Kd.C_drewN ?_ _) | (with_reducible refine Kd.C_drew ?_) | exact HR313_0.out)) | (with_reducible refine Kd.C_alloc ?_ _) | (with_reducible refine Kd.C_drewN ?_ _) | (with_reducible refine Kd.C_drew ?_))); (case side4 => exact HC313_0.out); rintro e w' ⟨rfl, ⟨nd, rfl⟩⟩; (try first | exact ⟨rfl, _, World.drewN_drewN _ _ _⟩ | exact ⟨rfl, _, Eq.trans (World.drewN_drewN _ _ _) (congrArg (World.drewN _) (Nat.add_assoc _ _ _))⟩); all_goals (have p316 : 0 ≤ ((ji20) : Int) := of_decide_eq_true (by first | (with_reducible assumption) | assumption); have q316 : (ji20) < (t310.length : Int) := of_decide_eq_true (by first | (with_reducible assumption) | assumption); obtain ⟨ad316, A316_0, c316_0, e316, hx316_0, hl316_0, hi316_0⟩ := at_L1 (Kd.S_reads' HO_6.out).2.2 (ji20) p316 q316; obtain rfl : ad313 = ad316 := (by injection e316); obtain ⟨ce316, hce316, hMe316, hcc316⟩ := Kd.S_get HO_6.out [] (ji20) p316 (by first | exact q316 | exact of_decide_eq_true (by first | (with_reducible assumption) | assumption) | (have e_ := (Kd.S_reads' HO_6.out).1; omega)); obtain ⟨ve316_0, rfl, ge316_0⟩ := hMe316; have hv316_0 := hcc316 0 _ rfl; rw [Nat.add_zero, show ((Kd.slice 3 (Kd.int .i64))).sz = 1 from rfl, Nat.mul_one] at hv316_0; replace hv316_0 := Option.some.inj (hv316_0.symm.trans hx316_0); rw [hv316_0] at ge316_0; have HL316_0 := Aside0.mk (show Kd.R (Kd.int .i64) 3 _ _ _ _ (rd_L1 t310 (ji20)) from ge316_0); clear hv316_0 ge316_0; clear hcc316 hce316; have HR316_0 := Aside0.mk hi316_0; have HC316_0 := Aside0.mk hl316_0; clear hi316_0 hl316_0; replace p316 := eq_true p316; replace q316 := eq_true q316; have p317 : 0 ≤ (x7_1 : Int) := of_decide_eq_true (by first | (with_reducible assumption) | assumption); have q317 : x7_1 < (t310.length : Int) := of_decide_eq_true (by first | (with_reducible assumption) | assumption); obtain ⟨ad317, A317_0, c317_0, e317, hx317_0, hl317_0, hi317_0⟩ := at_L1 (Kd.S_reads' HO_6.out).2.2 x7_1 p317 q317; obtain rfl : ad313 = ad317 := (by injection e317); obtain ⟨ce317, hce317, hMe317, hcc317⟩ := Kd.S_get HO_6.out [] x7_1 p317 (by first | exact q317 | exact of_decide_eq_true (by first | (with_reducible assumption) | assumption) | (have e_ := (Kd.S_reads' HO_6.out).1; omega)); obtain ⟨ve317_0, rfl, ge317_0⟩ := hMe317; have hv317_0 := hcc317 0 _ rfl; rw [Nat.add_zero, show ((Kd.slice 3 (Kd.int .i64))).sz = 1 from rfl, Nat.mul_one] at hv317_0; replace hv317_0 := Option.some.inj (hv317_0.symm.trans hx317_0); rw [hv317_0] at ge317_0; have HL317_0 := Aside0.mk (show Kd.R (Kd.int .i64) 3 _ _ _ _ (rd_L1 t310 x7_1) from ge317_0); clear hv317_0 ge317_0; clear hcc317 hce317; have HR317_0 := Aside0.mk hi317_0; have HC317_0 := Aside0.mk hl317_0; clear hi317_0 hl317_0; replace p317 := eq_true p317; replace q317 := eq_true q317; have ea_ := Option.some.inj (hx313_0.symm.trans hx317_0); injection ea_ with ea_ en_ ec_; subst ea_; subst ec_; clear en_)) | (go_at_call 18; (with_reducible refine (tuple_Compare.calls k1 _ _ (rd_L1 t310 (ji20)) _ _ (rd_L1 t310 x7_1) t318 _ ?side1 ?side2 ?side3 ?side4 A23.out).mono ?_); (case side1 => repeat (first | exact (by repeat (first | (with_reducible exact HR316_0.out) | (with_reducible refine Kd.C_alloc ?_ _) | (with_reducible refine Kd.C_drewN ?_ _) | (with_reducible refine Kd.C_drew ?_) | exact HR316_0.out)) | (with_reducible refine Kd.C_alloc ?_ _) | (with_reducible refine Kd.C_drewN ?_ _) | (with_reducible refine Kd.C_drew ?_))); (case side2 => exact HC316_0.out); (case side3 => repeat (first | exact (by repeat (first | (with_reducible exact HR317_0.out) | (with_reducible refine Kd.C_alloc ?_ _) | (with_reducible refine Kd.C_drewN ?_ _) | (with_reducible refine Kd.C_drew ?_) | exact HR317_0.out)) | (with_reducible refine Kd.C_alloc ?_ _) | (with_reducible refine Kd.C_drewN ?_ _) | (with_reducible refine Kd.C_drew ?_))); (case side4 => exact HC317_0.out); rintro e w' ⟨rfl, ⟨nd, rfl⟩⟩; (try first | exact ⟨rfl, _, World.drewN_drewN _ _ _⟩ | exact ⟨rfl, _, Eq.trans (World.drewN_drewN _ _ _) (congrArg (World.drewN _) (Nat.add_assoc _ _ _))⟩))))
                          go_roundg k1
                          case measure => have := HK1.out; omega
                          case rel => exact ⟨(wrap64 (x7_1 + 1)), (by first | rfl | (simp; done) | (simp [*]; done)), H', ⟨by have := HK1.out; omega⟩, ⟨by (with_reducible repeat (first | apply Kd.S_alloc | apply Kd.S_drewN | apply Kd.S_drew)); exact HO_0.out⟩, ⟨by (with_reducible repeat (first | apply Kd.S_alloc | apply Kd.S_drewN | apply Kd.S_drew)); exact HO_6.out⟩, ⟨by repeat (first | (with_reducible first | exact HB.out | apply below_alloc | apply pw_below_drewN | apply below_drew1) | exact HB.out)⟩⟩
                        · rw [if_neg c24] at H
                          have c24b0 : (t318 == (-1)) = false := beq_eq_false_iff_ne.mpr c24
                          have c24b1 : (t318 != (-1)) = true := bne_iff_ne.mpr c24
                          exact absurd ((Option.some.inj H).trans HT_.out) (by decide)
                      · rw [if_neg c22] at H
                        exact absurd H (by simp)
                    · rw [if_neg c21] at H
                      exact absurd H (by simp)
                  · rw [if_neg c19] at H
                    have c19b0 : decide (0 < x7_1) = false := decide_eq_false c19
                    clear c19
                    have H' := Aside0.mk H
                    clear H
                    obtain ⟨Ao26, co26, eo26⟩ := Kd.S_slice HO_6.out
                    subst eo26
                    have p313 : 0 ≤ (x7_1 : Int) := of_decide_eq_true (by first | (with_reducible assumption) | assumption)
                    have q313 : x7_1 < (t310.length : Int) := of_decide_eq_true (by first | (with_reducible assumption) | assumption)
                    obtain ⟨ad313, A313_0, c313_0, e313, hx313_0, hl313_0, hi313_0⟩ := at_L1 (Kd.S_reads' HO_6.out).2.2 x7_1 p313 q313
                    cases e313
                    obtain ⟨ce313, hce313, hMe313, hcc313⟩ := Kd.S_get HO_6.out [] x7_1 p313 (by first | exact q313 | exact of_decide_eq_true (by first | (with_reducible assumption) | assumption) | (have e_ := (Kd.S_reads' HO_6.out).1; omega))
                    obtain ⟨ve313_0, rfl, ge313_0⟩ := hMe313
                    have hv313_0 := hcc313 0 _ rfl
                    rw [Nat.add_zero, show ((Kd.slice 3 (Kd.int .i64))).sz = 1 from rfl, Nat.mul_one] at hv313_0
                    replace hv313_0 := Option.some.inj (hv313_0.symm.trans hx313_0)
                    rw [hv313_0] at ge313_0
                    have HL313_0 := Aside0.mk (show Kd.R (Kd.int .i64) 3 _ _ _ _ (rd_L1 t310 x7_1) from ge313_0)
                    clear hv313_0 ge313_0
                    clear hcc313 hce313
                    have HR313_0 := Aside0.mk hi313_0
                    have HC313_0 := Aside0.mk hl313_0
                    clear hi313_0 hl313_0
                    replace p313 := eq_true p313
                    replace q313 := eq_true q313
                    go_wp2_with (first | (go_at_call 16; (with_reducible refine (tuple_Find.calls _ _ t310 _ _ (rd_L1 t310 x7_1) t314 true _ ?side1 ?side2 ?side3 ?side4 A16.out).mono ?_); (case side1 => repeat (first | exact (Kd.S_reads' HO_6.out).2.2 | (with_reducible refine Kd.C_alloc ?_ _) | (with_reducible refine Kd.C_drewN ?_ _) | (with_reducible refine Kd.C_drew ?_))); (case side2 => exact (Kd.S_reads' HO_6.out).2.1); (case side3 => repeat (first | exact (by repeat (first | (with_reducible exact HR313_0.out) | (with_reducible refine Kd.C_alloc ?_ _) | (with_reducible refine Kd.C_drewN ?_ _) | (with_reducible refine Kd.C_drew ?_) | exact HR313_0.out)) | (with_reducible refine Kd.C_alloc ?_ _) | (with_reducible refine Kd.C_drewN ?_ _) | (with_reducible refine Kd.C_drew ?_))); (case side4 => exact HC313_0.out); rintro e w' ⟨rfl, ⟨nd, rfl⟩⟩; (try first | exact ⟨rfl, _, World.drewN_drewN _ _ _⟩ | exact ⟨rfl, _, Eq.trans (World.drewN_drewN _ _ _) (congrArg (World.drewN _) (Nat.add_assoc _ _ _))⟩)))
                    repeat (go_quiet (first | (go_at_call 16; (with_reducible refine (tuple_Find.calls _ _ t310 _ _ (rd_L1 t310 x7_1) t314 true _ ?side1 ?side2 ?side3 ?side4 A16.out).mono ?_); (case side1 => repeat (first | exact (Kd.S_reads' HO_6.out).2.2 | (with_reducible refine Kd.C_alloc ?_ _) | (with_reducible refine Kd.C_drewN ?_ _) | (with_reducible refine Kd.C_drew ?_))); (case side2 => exact (Kd.S_reads' HO_6.out).2.1); (case side3 => repeat (first | exact (by repeat (first | (with_reducible exact HR313_0.out) | (with_reducible refine Kd.C_alloc ?_ _) | (with_reducible refine Kd.C_drewN ?_ _) | (with_reducible refine Kd.C_drew ?_) | exact HR313_0.out)) | (with_reducible refine Kd.C_alloc ?_ _) | (with_reducible refine Kd.C_drewN ?_ _) | (with_reducible refine Kd.C_drew ?_))); (case side4 => exact HC313_0.out); rintro e w' ⟨rfl, ⟨nd, rfl⟩⟩; (try first | exact ⟨rfl, _, World.drewN_drewN _ _ _⟩ | exact ⟨rfl, _, Eq.trans (World.drewN_drewN _ _ _) (congrArg (World.drewN _) (Nat.add_assoc _ _ _))⟩))); try go_wp2_with (first | (go_at_call 16; (with_reducible refine (tuple_Find.calls _ _ t310 _ _ (rd_L1 t310 x7_1) t314 true _ ?side1 ?side2 ?side3 ?side4 A16.out).mono ?_); (case side1 => repeat (first | exact (Kd.S_reads' HO_6.out).2.2 | (with_reducible refine Kd.C_alloc ?_ _) | (with_reducible refine Kd.C_drewN ?_ _) | (with_reducible refine Kd.C_drew ?_))); (case side2 => exact (Kd.S_reads' HO_6.out).2.1); (case side3 => repeat (first | exact (by repeat (first | (with_reducible exact HR313_0.out) | (with_reducible refine Kd.C_alloc ?_ _) | (with_reducible refine Kd.C_drewN ?_ _) | (with_reducible refine Kd.C_drew ?_) | exact HR313_0.out)) | (with_reducible refine Kd.C_alloc ?_ _) | (with_reducible refine Kd.C_drewN ?_ _) | (with_reducible refine Kd.C_drew ?_))); (case side4 => exact HC313_0.out); rintro e w' ⟨rfl, ⟨nd, rfl⟩⟩; (try first | exact ⟨rfl, _, World.drewN_drewN _ _ _⟩ | exact ⟨rfl, _, Eq.trans (World.drewN_drewN _ _ _) (congrArg (World.drewN _) (Nat.add_assoc _ _ _))⟩))))
                    go_roundg k1
                    case measure => have := HK1.out; omega
                    case rel => exact ⟨(wrap64 (x7_1 + 1)), (by first | rfl | (simp; done) | (simp [*]; done)), H', ⟨by have := HK1.out; omega⟩, ⟨by (with_reducible repeat (first | apply Kd.S_alloc | apply Kd.S_drewN | apply Kd.S_drew)); exact HO_0.out⟩, ⟨by (with_reducible repeat (first | apply Kd.S_alloc | apply Kd.S_drewN | apply Kd.S_drew)); exact HO_6.out⟩, ⟨by repeat (first | (with_reducible first | exact HB.out | apply below_alloc | apply pw_below_drewN | apply below_drew1) | exact HB.out)⟩⟩
                · rw [if_neg c18] at H
                  have c18b0 : (t314 == x7_1) = false := beq_eq_false_iff_ne.mpr c18
                  have c18b1 : (t314 != x7_1) = true := bne_iff_ne.mpr c18
                  exact absurd ((Option.some.inj H).trans HT_.out) (by decide)
              · replace c17 := Bool.eq_false_iff.mpr c17
                subst c17
                have H1 : (some false) = some r := by rw [if_neg (show ¬ (false = true) by decide)] at H; exact H
                clear H
                have H := H1
                clear H1
                exact absurd ((Option.some.inj H).trans HT_.out) (by decide)
            · rw [if_neg c15] at H
              exact absurd H (by simp)
          · rw [if_neg c14] at H
            have c14b0 : decide (x7_1 < (t310.length : Int)) = false := decide_eq_false c14
            clear c14
            have H' := Aside0.mk H
            clear H
            obtain ⟨Ao27, co27, eo27⟩ := Kd.S_slice HO_6.out
            subst eo27
            go_wp2
            repeat (go_quiet (fail); try go_wp2)
            go_loopg [10] k1 (fun kq v10 w' => ∃ (x10_2 : Int), v10 = .int .i64 x10_2 ∧ Aside0 (arboristlaw01_TupleFinds.l1 kq t306 (l1.take ((ji5) : Int).toNat) t305 t310 x10_2 = some r) ∧ Aside0 (kq ≤ k1) ∧ Aside0 (Kd.S (Kd.slice 3 (Kd.int .i64)) 23 w' w.heap.size (fun k_ => some k_ ≠ ((.slice Ao27 t310.length co27) : Value).ownBlock) (.slice Ao12 t306.length co12) t306) ∧ Aside0 (Kd.S (Kd.slice 3 (Kd.int .i64)) 23 w' w.heap.size (fun k_ => some k_ ≠ ((.slice Ao12 t306.length co12) : Value).ownBlock) (.slice Ao27 t310.length co27) t310) ∧ Aside0 (Below w.heap.size w w'))
            case atStart => exact ⟨(0), (by first | rfl | (simp; done) | (simp [*]; done)), H', ⟨Nat.le_refl _⟩, ⟨by (with_reducible repeat (first | apply Kd.S_alloc | apply Kd.S_drewN | apply Kd.S_drew)); exact HO_0.out⟩, ⟨by (with_reducible repeat (first | apply Kd.S_alloc | apply Kd.S_drewN | apply Kd.S_drew)); exact HO_6.out⟩, ⟨by repeat (first | (with_reducible first | exact HB.out | apply below_alloc | apply pw_below_drewN | apply below_drew1) | exact HB.out)⟩⟩
            case round =>
              clear H'
              try clear c1
              try clear c2
              try clear p2
              try clear c3
              try clear p3
              try clear q3
              try clear hx3
              try clear c5
              try clear c6
              try clear c6b0
              try clear c6b1
              try clear p6
              try clear c7
              try clear c7b0
              try clear c7b1
              try clear c14
              try clear c14b0
              try clear c15
              try clear c15b0
              try clear c17
              try clear c18
              try clear c18b0
              try clear c18b1
              try clear c19
              try clear c19b0
              try clear c21
              try clear c21b0
              try clear c22
              try clear c22b0
              try clear c24
              try clear c24b0
              try clear c24b1
              try clear hx313_0
              try clear hx316_0
              try clear hx317_0
              try clear p2
              try clear p313
              try clear p316
              try clear p317
              try clear q313
              try clear q316
              try clear q317
              obtain ⟨x10_2, rfl, HA, HK2, HO_0, HO_6, HB⟩ := hrel
              cases gk with
              | zero => exact absurd HA.out (by simp [arboristlaw01_TupleFinds.l1])
              | succ k2 =>
                have H := HA.out
                clear HA
                simp only [arboristlaw01_TupleFinds.l1] at H
                by_cases c28 : x10_2 < (t306.length : Int)
                · rw [if_pos c28] at H
                  have c28b0 : decide (x10_2 < (t306.length : Int)) = true := decide_eq_true c28
                  clear c28
                  by_cases c29 : 0 ≤ x10_2
                  · rw [if_pos c29] at H
                    have c29b0 : decide (0 ≤ x10_2) = true := decide_eq_true c29
                    clear c29
                    replace H := Option.bind_eq_some_iff.mp H
                    obtain ⟨⟨t320, t321⟩, A300, H⟩ := H
                    replace H : (if t321 = true then (arboristlaw01_TupleFinds.l1 k2 t306 (l1.take ((ji5) : Int).toNat) t305 t310 (wrap64 (x10_2 + 1))) else (some false)) = some r := H
                    have A30 := Aside0.mk A300
                    clear A300
                    by_cases c31 : t321 = true
                    · subst c31
                      have H1 : (arboristlaw01_TupleFinds.l1 k2 t306 (l1.take ((ji5) : Int).toNat) t305 t310 (wrap64 (x10_2 + 1))) = some r := by rw [if_pos rfl] at H; exact H
                      clear H
                      have H := H1
                      clear H1
                      have H' := Aside0.mk H
                      clear H
                      have p319 : 0 ≤ (x10_2 : Int) := of_decide_eq_true (by first | (with_reducible assumption) | assumption)
                      have q319 : x10_2 < (t306.length : Int) := of_decide_eq_true (by first | (with_reducible assumption) | assumption)
                      obtain ⟨ad319, A319_0, c319_0, e319, hx319_0, hl319_0, hi319_0⟩ := at_L1 (Kd.S_reads' HO_0.out).2.2 x10_2 p319 q319
                      cases e319
                      obtain ⟨ce319, hce319, hMe319, hcc319⟩ := Kd.S_get HO_0.out [] x10_2 p319 (by first | exact q319 | exact of_decide_eq_true (by first | (with_reducible assumption) | assumption) | (have e_ := (Kd.S_reads' HO_0.out).1; omega))
                      obtain ⟨ve319_0, rfl, ge319_0⟩ := hMe319
                      have hv319_0 := hcc319 0 _ rfl
                      rw [Nat.add_zero, show ((Kd.slice 3 (Kd.int .i64))).sz = 1 from rfl, Nat.mul_one] at hv319_0
                      replace hv319_0 := Option.some.inj (hv319_0.symm.trans hx319_0)
                      rw [hv319_0] at ge319_0
                      have HL319_0 := Aside0.mk (show Kd.R (Kd.int .i64) 3 _ _ _ _ (rd_L1 t306 x10_2) from ge319_0)
                      clear hv319_0 ge319_0
                      clear hcc319 hce319
                      have HR319_0 := Aside0.mk hi319_0
                      have HC319_0 := Aside0.mk hl319_0
                      clear hi319_0 hl319_0
                      replace p319 := eq_true p319
                      replace q319 := eq_true q319
                      go_wp2_with (first | (go_at_call 16; (with_reducible refine (tuple_Find.calls _ _ t310 _ _ (rd_L1 t306 x10_2) t320 true _ ?side1 ?side2 ?side3 ?side4 A30.out).mono ?_); (case side1 => repeat (first | exact (Kd.S_reads' HO_6.out).2.2 | (with_reducible refine Kd.C_alloc ?_ _) | (with_reducible refine Kd.C_drewN ?_ _) | (with_reducible refine Kd.C_drew ?_))); (case side2 => exact (Kd.S_reads' HO_6.out).2.1); (case side3 => repeat (first | exact (by repeat (first | (with_reducible exact HR319_0.out) | (with_reducible refine Kd.C_alloc ?_ _) | (with_reducible refine Kd.C_drewN ?_ _) | (with_reducible refine Kd.C_drew ?_) | exact HR319_0.out)) | (with_reducible refine Kd.C_alloc ?_ _) | (with_reducible refine Kd.C_drewN ?_ _) | (with_reducible refine Kd.C_drew ?_))); (case side4 => exact HC319_0.out); rintro e w' ⟨rfl, ⟨nd, rfl⟩⟩; (try first | exact ⟨rfl, _, World.drewN_drewN _ _ _⟩ | exact ⟨rfl, _, Eq.trans (World.drewN_drewN _ _ _) (congrArg (World.drewN _) (Nat.add_assoc _ _ _))⟩)))
                      repeat (go_quiet (first | (go_at_call 16; (with_reducible refine (tuple_Find.calls _ _ t310 _ _ (rd_L1 t306 x10_2) t320 true _ ?side1 ?side2 ?side3 ?side4 A30.out).mono ?_); (case side1 => repeat (first | exact (Kd.S_reads' HO_6.out).2.2 | (with_reducible refine Kd.C_alloc ?_ _) | (with_reducible refine Kd.C_drewN ?_ _) | (with_reducible refine Kd.C_drew ?_))); (case side2 => exact (Kd.S_reads' HO_6.out).2.1); (case side3 => repeat (first | exact (by repeat (first | (with_reducible exact HR319_0.out) | (with_reducible refine Kd.C_alloc ?_ _) | (with_reducible refine Kd.C_drewN ?_ _) | (with_reducible refine Kd.C_drew ?_) | exact HR319_0.out)) | (with_reducible refine Kd.C_alloc ?_ _) | (with_reducible refine Kd.C_drewN ?_ _) | (with_reducible refine Kd.C_drew ?_))); (case side4 => exact HC319_0.out); rintro e w' ⟨rfl, ⟨nd, rfl⟩⟩; (try first | exact ⟨rfl, _, World.drewN_drewN _ _ _⟩ | exact ⟨rfl, _, Eq.trans (World.drewN_drewN _ _ _) (congrArg (World.drewN _) (Nat.add_assoc _ _ _))⟩))); try go_wp2_with (first | (go_at_call 16; (with_reducible refine (tuple_Find.calls _ _ t310 _ _ (rd_L1 t306 x10_2) t320 true _ ?side1 ?side2 ?side3 ?side4 A30.out).mono ?_); (case side1 => repeat (first | exact (Kd.S_reads' HO_6.out).2.2 | (with_reducible refine Kd.C_alloc ?_ _) | (with_reducible refine Kd.C_drewN ?_ _) | (with_reducible refine Kd.C_drew ?_))); (case side2 => exact (Kd.S_reads' HO_6.out).2.1); (case side3 => repeat (first | exact (by repeat (first | (with_reducible exact HR319_0.out) | (with_reducible refine Kd.C_alloc ?_ _) | (with_reducible refine Kd.C_drewN ?_ _) | (with_reducible refine Kd.C_drew ?_) | exact HR319_0.out)) | (with_reducible refine Kd.C_alloc ?_ _) | (with_reducible refine Kd.C_drewN ?_ _) | (with_reducible refine Kd.C_drew ?_))); (case side4 => exact HC319_0.out); rintro e w' ⟨rfl, ⟨nd, rfl⟩⟩; (try first | exact ⟨rfl, _, World.drewN_drewN _ _ _⟩ | exact ⟨rfl, _, Eq.trans (World.drewN_drewN _ _ _) (congrArg (World.drewN _) (Nat.add_assoc _ _ _))⟩))))
                      go_roundg k2
                      case measure => have := HK1.out; have := HK2.out; omega
                      case rel => exact ⟨(wrap64 (x10_2 + 1)), (by first | rfl | (simp; done) | (simp [*]; done)), H', ⟨by have := HK1.out; have := HK2.out; omega⟩, ⟨by (with_reducible repeat (first | apply Kd.S_alloc | apply Kd.S_drewN | apply Kd.S_drew)); exact HO_0.out⟩, ⟨by (with_reducible repeat (first | apply Kd.S_alloc | apply Kd.S_drewN | apply Kd.S_drew)); exact HO_6.out⟩, ⟨by repeat (first | (with_reducible first | exact HB.out | apply below_alloc | apply pw_below_drewN | apply below_drew1) | exact HB.out)⟩⟩
                    · replace c31 := Bool.eq_false_iff.mpr c31
                      subst c31
                      have H1 : (some false) = some r := by rw [if_neg (show ¬ (false = true) by decide)] at H; exact H
                      clear H
                      have H := H1
                      clear H1
                      exact absurd ((Option.some.inj H).trans HT_.out) (by decide)
                  · rw [if_neg c29] at H
                    exact absurd H (by simp)
                · rw [if_neg c28] at H
                  have c28b0 : decide (x10_2 < (t306.length : Int)) = false := decide_eq_false c28
                  clear c28
                  replace H := Option.bind_eq_some_iff.mp H
                  obtain ⟨⟨t322, t323⟩, A320, H⟩ := H
                  replace H : (if t322 < 0 then (arboristlaw01_TupleFinds.j2 k2 (l1.take ((ji5) : Int).toNat) t305 t310 t322 t323 true) else (arboristlaw01_TupleFinds.j2 k2 (l1.take ((ji5) : Int).toNat) t305 t310 t322 t323 (decide (t322 > (t310.length : Int))))) = some r := H
                  have A32 := Aside0.mk A320
                  clear A320
                  have HC33 := Aside0.mk H
                  clear H
                  go_upto_region 18 with (first | (go_at_call 16; (first | (with_reducible refine (tuple_Find.calls _ _ t310 _ _ (l1.take ((ji5) : Int).toNat) t322 t323 _ ?side1 ?side2 ?side3 ?side4 A32.out).mono ?_) | (have e0_ : (l1.take ((ji5) : Int).toNat).length = ((ji5) : Int).toNat := (by rw [List.length_take]; have q_ : (ji5) ≤ (l1.length : Int) := (by rw [← hji5]; unfold mn; (repeat' split) <;> omega); omega); (with_reducible refine calls_at ((tuple_Find.calls _ _ t310 _ _ (l1.take ((ji5) : Int).toNat) t322 t323 _ ?side1 ?side2 ?side3 ?side4 A32.out).mono ?_) (by (try simp only [e0_]); first | done | rfl)); clear e0_)); (case side1 => repeat (first | exact (Kd.S_reads' HO_6.out).2.2 | (with_reducible refine Kd.C_alloc ?_ _) | (with_reducible refine Kd.C_drewN ?_ _) | (with_reducible refine Kd.C_drew ?_))); (case side2 => exact (Kd.S_reads' HO_6.out).2.1); (case side3 => repeat (first | exact (Kd.C_below HR309.out HB.out) | (with_reducible refine Kd.C_alloc ?_ _) | (with_reducible refine Kd.C_drewN ?_ _) | (with_reducible refine Kd.C_drew ?_))); (case side4 => exact HC309.out); rintro e w' ⟨rfl, ⟨nd, rfl⟩⟩; (try first | exact ⟨rfl, _, World.drewN_drewN _ _ _⟩ | exact ⟨rfl, _, Eq.trans (World.drewN_drewN _ _ _) (congrArg (World.drewN _) (Nat.add_assoc _ _ _))⟩)))
                  repeat (go_quiet (first | (go_at_call 16; (first | (with_reducible refine (tuple_Find.calls _ _ t310 _ _ (l1.take ((ji5) : Int).toNat) t322 t323 _ ?side1 ?side2 ?side3 ?side4 A32.out).mono ?_) | (have e0_ : (l1.take ((ji5) : Int).toNat).length = ((ji5) : Int).toNat := (by rw [List.length_take]; have q_ : (ji5) ≤ (l1.length : Int) := (by rw [← hji5]; unfold mn; (repeat' split) <;> omega); omega); (with_reducible refine calls_at ((tuple_Find.calls _ _ t310 _ _ (l1.take ((ji5) : Int).toNat) t322 t323 _ ?side1 ?side2 ?side3 ?side4 A32.out).mono ?_) (by (try simp only [e0_]); first | done | rfl)); clear e0_)); (case side1 => repeat (first | exact (Kd.S_reads' HO_6.out).2.2 | (with_reducible refine Kd.C_alloc ?_ _) | (with_reducible refine Kd.C_drewN ?_ _) | (with_reducible refine Kd.C_drew ?_))); (case side2 => exact (Kd.S_reads' HO_6.out).2.1); (case side3 => repeat (first | exact (Kd.C_below HR309.out HB.out) | (with_reducible refine Kd.C_alloc ?_ _) | (with_reducible refine Kd.C_drewN ?_ _) | (with_reducible refine Kd.C_drew ?_))); (case side4 => exact HC309.out); rintro e w' ⟨rfl, ⟨nd, rfl⟩⟩; (try first | exact ⟨rfl, _, World.drewN_drewN _ _ _⟩ | exact ⟨rfl, _, Eq.trans (World.drewN_drewN _ _ _) (congrArg (World.drewN _) (Nat.add_assoc _ _ _))⟩))); go_upto_region 18 with (first | (go_at_call 16; (first | (with_reducible refine (tuple_Find.calls _ _ t310 _ _ (l1.take ((ji5) : Int).toNat) t322 t323 _ ?side1 ?side2 ?side3 ?side4 A32.out).mono ?_) | (have e0_ : (l1.take ((ji5) : Int).toNat).length = ((ji5) : Int).toNat := (by rw [List.length_take]; have q_ : (ji5) ≤ (l1.length : Int) := (by rw [← hji5]; unfold mn; (repeat' split) <;> omega); omega); (with_reducible refine calls_at ((tuple_Find.calls _ _ t310 _ _ (l1.take ((ji5) : Int).toNat) t322 t323 _ ?side1 ?side2 ?side3 ?side4 A32.out).mono ?_) (by (try simp only [e0_]); first | done | rfl)); clear e0_)); (case side1 => repeat (first | exact (Kd.S_reads' HO_6.out).2.2 | (with_reducible refine Kd.C_alloc ?_ _) | (with_reducible refine Kd.C_drewN ?_ _) | (with_reducible refine Kd.C_drew ?_))); (case side2 => exact (Kd.S_reads' HO_6.out).2.1); (case side3 => repeat (first | exact (Kd.C_below HR309.out HB.out) | (with_reducible refine Kd.C_alloc ?_ _) | (with_reducible refine Kd.C_drewN ?_ _) | (with_reducible refine Kd.C_drew ?_))); (case side4 => exact HC309.out); rintro e w' ⟨rfl, ⟨nd, rfl⟩⟩; (try first | exact ⟨rfl, _, World.drewN_drewN _ _ _⟩ | exact ⟨rfl, _, Eq.trans (World.drewN_drewN _ _ _) (congrArg (World.drewN _) (Nat.add_assoc _ _ _))⟩))))
                  (try simp only [Act.put, List.setIfInBounds_toArray, List.set_cons_zero, List.set_cons_succ])
                  go_cut [94] (fun v94 wc => ∃ (kq : Nat) (x94_32 : Bool), v94 = .bool x94_32 ∧ Aside0 (arboristlaw01_TupleFinds.j2 kq (l1.take ((ji5) : Int).toNat) t305 t310 t322 t323 x94_32 = some r) ∧ Aside0 (kq ≤ k2) ∧ Aside0 (Kd.S (Kd.slice 3 (Kd.int .i64)) 23 wc w.heap.size (fun _ => True) (.slice Ao27 t310.length co27) t310) ∧ Aside0 (Below w.heap.size w wc))
                  case first =>
                    have H := HC33.out
                    clear HC33
                    by_cases c34 : t322 < 0
                    · rw [if_pos c34] at H
                      have c34b0 : decide (t322 < 0) = true := decide_eq_true c34
                      clear c34
                      (first | rw [c34b0] | (simp only [i64_w, i32_w]; rw [c34b0]) | skip)
                      have H' := Aside0.mk H
                      clear H
                      go_wp2
                      repeat (go_quiet (fail); try go_wp2)
                      go_meet
                      case rel => exact ⟨_, (true), (by first | rfl | (simp; done) | (simp [*]; done)), H', ⟨by have := HK1.out; have := HK2.out; first | omega | exact Nat.le_refl _⟩, ⟨by (with_reducible repeat (first | apply Kd.S_alloc | apply Kd.S_drewN | apply Kd.S_drew)); exact Kd.S_mono HO_6.out (fun _ hk => trivial)⟩, ⟨by repeat (first | (with_reducible first | exact HB.out | apply below_alloc | apply pw_below_drewN | apply below_drew1) | exact HB.out)⟩⟩
                    · rw [if_neg c34] at H
                      have c34b0 : decide (t322 < 0) = false := decide_eq_false c34
                      clear c34
                      (first | rw [c34b0] | (simp only [i64_w, i32_w]; rw [c34b0]) | skip)
                      have H' := Aside0.mk H
                      clear H
                      go_wp2
                      repeat (go_quiet (fail); try go_wp2)
                      go_meet
                      case rel => exact ⟨_, (decide (t322 > (t310.length : Int))), (by first | rfl | (simp; done) | (simp [*]; done)), H', ⟨by have := HK1.out; have := HK2.out; first | omega | exact Nat.le_refl _⟩, ⟨by (with_reducible repeat (first | apply Kd.S_alloc | apply Kd.S_drewN | apply Kd.S_drew)); exact Kd.S_mono HO_6.out (fun _ hk => trivial)⟩, ⟨by repeat (first | (with_reducible first | exact HB.out | apply below_alloc | apply pw_below_drewN | apply below_drew1) | exact HB.out)⟩⟩
                  case rest =>
                    clear HC33
                    try clear c1
                    try clear c2
                    try clear p2
                    try clear c3
                    try clear p3
                    try clear q3
                    try clear hx3
                    try clear c5
                    try clear c6
                    try clear c6b0
                    try clear c6b1
                    try clear p6
                    try clear c7
                    try clear c7b0
                    try clear c7b1
                    try clear c14
                    try clear c14b0
                    try clear c15
                    try clear c15b0
                    try clear c17
                    try clear c18
                    try clear c18b0
                    try clear c18b1
                    try clear c19
                    try clear c19b0
                    try clear c21
                    try clear c21b0
                    try clear c22
                    try clear c22b0
                    try clear c24
                    try clear c24b0
                    try clear c24b1
                    try clear c28
                    try clear c28b0
                    try clear c29
                    try clear c29b0
                    try clear c31
                    try clear p31
                    try clear q31
                    try clear hx31
                    try clear c34
                    try clear c34b0
                    try clear hx313_0
                    try clear hx316_0
                    try clear hx317_0
                    try clear hx319_0
                    try clear p2
                    try clear p3
                    try clear p313
                    try clear p316
                    try clear p317
                    try clear p319
                    try clear p6
                    try clear q3
                    try clear q313
                    try clear q316
                    try clear q317
                    try clear q319
                    obtain ⟨kq, x94_32, rfl, HA, HJ32, HO_6, HB⟩ := hcut
                    cases kq with
                    | zero => exact absurd HA.out (by simp [arboristlaw01_TupleFinds.j2])
                    | succ kj32 =>
                      have H := HA.out
                      clear HA
                      simp only [arboristlaw01_TupleFinds.j2] at H
                      by_cases c35 : x94_32 = true
                      · subst c35
                        have H1 : (some false) = some r := by rw [if_pos rfl] at H; exact H
                        clear H
                        have H := H1
                        clear H1
                        exact absurd ((Option.some.inj H).trans HT_.out) (by decide)
                      · replace c35 := Bool.eq_false_iff.mpr c35
                        subst c35
                        have H1 : (if t322 > 0 then (if 0 ≤ (wrap64 (t322 - 1)) then (if (wrap64 (t322 - 1)) < (t310.length : Int) then ((tuple_Compare.f kj32 (rd_L1 t310 (wrap64 (t322 - 1))) (l1.take ((ji5) : Int).toNat)).bind fun t325 => (arboristlaw01_TupleFinds.j3 kj32 (l1.take ((ji5) : Int).toNat) t305 t310 t322 t323 (t325 != (-1)))) else (none)) else (none)) else (arboristlaw01_TupleFinds.j3 kj32 (l1.take ((ji5) : Int).toNat) t305 t310 t322 t323 false)) = some r := by rw [if_neg (show ¬ (false = true) by decide)] at H; exact H
                        clear H
                        have H := H1
                        clear H1
                        have HC36 := Aside0.mk H
                        clear H
                        go_upto_region 20 with (fail)
                        repeat (go_quiet (fail); go_upto_region 20 with (fail))
                        go_cut [106] (fun v106 wc => ∃ (kq : Nat) (x106_35 : Bool), v106 = .bool x106_35 ∧ Aside0 (arboristlaw01_TupleFinds.j3 kq (l1.take ((ji5) : Int).toNat) t305 t310 t322 t323 x106_35 = some r) ∧ Aside0 (kq ≤ kj32) ∧ Aside0 (Kd.S (Kd.slice 3 (Kd.int .i64)) 23 wc w.heap.size (fun _ => True) (.slice Ao27 t310.length co27) t310) ∧ Aside0 (Below w.heap.size w wc))
                        case first =>
                          have H := HC36.out
                          clear HC36
                          by_cases c37 : t322 > 0
                          · rw [if_pos c37] at H
                            have c37b0 : decide (0 < t322) = true := decide_eq_true c37
                            clear c37
                            (first | rw [c37b0] | (simp only [i64_w, i32_w]; rw [c37b0]) | skip)
                            obtain ⟨ji38, hji38⟩ : ∃ j_ : Int, (wrap64 (t322 - 1)) = j_ := ⟨_, rfl⟩
                            replace H : (if 0 ≤ (ji38) then (if (ji38) < (t310.length : Int) then ((tuple_Compare.f kj32 (rd_L1 t310 (ji38)) (l1.take ((ji5) : Int).toNat)).bind fun t325 => (arboristlaw01_TupleFinds.j3 kj32 (l1.take ((ji5) : Int).toNat) t305 t310 t322 t323 (t325 != (-1)))) else (none)) else (none)) = some r := by first | (rw [hji38] at H; exact H) | (simp only [hji38] at H ⊢; exact H)
                            have hji38w : (IntKind.i64.wrap (t322 - 1)) = ji38 := (i64_w _).trans hji38
                            by_cases c39 : 0 ≤ (ji38)
                            · rw [if_pos c39] at H
                              have c39b0 : decide (0 ≤ (ji38)) = true := decide_eq_true c39
                              clear c39
                              by_cases c40 : (ji38) < (t310.length : Int)
                              · rw [if_pos c40] at H
                                have c40b0 : decide ((ji38) < (t310.length : Int)) = true := decide_eq_true c40
                                clear c40
                                replace H := Option.bind_eq_some_iff.mp H
                                obtain ⟨t325, A410, H⟩ := H
                                replace H : (arboristlaw01_TupleFinds.j3 kj32 (l1.take ((ji5) : Int).toNat) t305 t310 t322 t323 (t325 != (-1))) = some r := H
                                have A41 := Aside0.mk A410
                                clear A410
                                have H' := Aside0.mk H
                                clear H
                                have p324 : 0 ≤ ((ji38) : Int) := of_decide_eq_true (by first | (with_reducible assumption) | assumption)
                                have q324 : (ji38) < (t310.length : Int) := of_decide_eq_true (by first | (with_reducible assumption) | assumption)
                                obtain ⟨ad324, A324_0, c324_0, e324, hx324_0, hl324_0, hi324_0⟩ := at_L1 (Kd.S_reads' HO_6.out).2.2 (ji38) p324 q324
                                cases e324
                                obtain ⟨ce324, hce324, hMe324, hcc324⟩ := Kd.S_get HO_6.out [] (ji38) p324 (by first | exact q324 | exact of_decide_eq_true (by first | (with_reducible assumption) | assumption) | (have e_ := (Kd.S_reads' HO_6.out).1; omega))
                                obtain ⟨ve324_0, rfl, ge324_0⟩ := hMe324
                                have hv324_0 := hcc324 0 _ rfl
                                rw [Nat.add_zero, show ((Kd.slice 3 (Kd.int .i64))).sz = 1 from rfl, Nat.mul_one] at hv324_0
                                replace hv324_0 := Option.some.inj (hv324_0.symm.trans hx324_0)
                                rw [hv324_0] at ge324_0
                                have HL324_0 := Aside0.mk (show Kd.R (Kd.int .i64) 3 _ _ _ _ (rd_L1 t310 (ji38)) from ge324_0)
                                clear hv324_0 ge324_0
                                clear hcc324 hce324
                                have HR324_0 := Aside0.mk hi324_0
                                have HC324_0 := Aside0.mk hl324_0
                                clear hi324_0 hl324_0
                                replace p324 := eq_true p324
                                replace q324 := eq_true q324
                                go_wp2_with (first | (go_at_call 18; (first | (with_reducible refine (tuple_Compare.calls kj32 _ _ (rd_L1 t310 (ji38)) _ _ (l1.take ((ji5) : Int).toNat) t325 _ ?side1 ?side2 ?side3 ?side4 A41.out).mono ?_) | (have e0_ : (l1.take ((ji5) : Int).toNat).length = ((ji5) : Int).toNat := (by rw [List.length_take]; have q_ : (ji5) ≤ (l1.length : Int) := (by rw [← hji5]; unfold mn; (repeat' split) <;> omega); omega); (with_reducible refine calls_at ((tuple_Compare.calls kj32 _ _ (rd_L1 t310 (ji38)) _ _ (l1.take ((ji5) : Int).toNat) t325 _ ?side1 ?side2 ?side3 ?side4 A41.out).mono ?_) (by (try simp only [e0_]); first | done | rfl)); clear e0_)); (case side1 => repeat (first | exact (by repeat (first | (with_reducible exact HR324_0.out) | (with_reducible refine Kd.C_alloc ?_ _) | (with_reducible refine Kd.C_drewN ?_ _) | (with_reducible refine Kd.C_drew ?_) | exact HR324_0.out)) | (with_reducible refine Kd.C_alloc ?_ _) | (with_reducible refine Kd.C_drewN ?_ _) | (with_reducible refine Kd.C_drew ?_))); (case side2 => exact HC324_0.out); (case side3 => repeat (first | exact (Kd.C_below HR309.out HB.out) | (with_reducible refine Kd.C_alloc ?_ _) | (with_reducible refine Kd.C_drewN ?_ _) | (with_reducible refine Kd.C_drew ?_))); (case side4 => exact HC309.out); rintro e w' ⟨rfl, ⟨nd, rfl⟩⟩; (try first | exact ⟨rfl, _, World.drewN_drewN _ _ _⟩ | exact ⟨rfl, _, Eq.trans (World.drewN_drewN _ _ _) (congrArg (World.drewN _) (Nat.add_assoc _ _ _))⟩)))
                                repeat (go_quiet (first | (go_at_call 18; (first | (with_reducible refine (tuple_Compare.calls kj32 _ _ (rd_L1 t310 (ji38)) _ _ (l1.take ((ji5) : Int).toNat) t325 _ ?side1 ?side2 ?side3 ?side4 A41.out).mono ?_) | (have e0_ : (l1.take ((ji5) : Int).toNat).length = ((ji5) : Int).toNat := (by rw [List.length_take]; have q_ : (ji5) ≤ (l1.length : Int) := (by rw [← hji5]; unfold mn; (repeat' split) <;> omega); omega); (with_reducible refine calls_at ((tuple_Compare.calls kj32 _ _ (rd_L1 t310 (ji38)) _ _ (l1.take ((ji5) : Int).toNat) t325 _ ?side1 ?side2 ?side3 ?side4 A41.out).mono ?_) (by (try simp only [e0_]); first | done | rfl)); clear e0_)); (case side1 => repeat (first | exact (by repeat (first | (with_reducible exact HR324_0.out) | (with_reducible refine Kd.C_alloc ?_ _) | (with_reducible refine Kd.C_drewN ?_ _) | (with_reducible refine Kd.C_drew ?_) | exact HR324_0.out)) | (with_reducible refine Kd.C_alloc ?_ _) | (with_reducible refine Kd.C_drewN ?_ _) | (with_reducible refine Kd.C_drew ?_))); (case side2 => exact HC324_0.out); (case side3 => repeat (first | exact (Kd.C_below HR309.out HB.out) | (with_reducible refine Kd.C_alloc ?_ _) | (with_reducible refine Kd.C_drewN ?_ _) | (with_reducible refine Kd.C_drew ?_))); (case side4 => exact HC309.out); rintro e w' ⟨rfl, ⟨nd, rfl⟩⟩; (try first | exact ⟨rfl, _, World.drewN_drewN _ _ _⟩ | exact ⟨rfl, _, Eq.trans (World.drewN_drewN _ _ _) (congrArg (World.drewN _) (Nat.add_assoc _ _ _))⟩))); try go_wp2_with (first | (go_at_call 18; (first | (with_reducible refine (tuple_Compare.calls kj32 _ _ (rd_L1 t310 (ji38)) _ _ (l1.take ((ji5) : Int).toNat) t325 _ ?side1 ?side2 ?side3 ?side4 A41.out).mono ?_) | (have e0_ : (l1.take ((ji5) : Int).toNat).length = ((ji5) : Int).toNat := (by rw [List.length_take]; have q_ : (ji5) ≤ (l1.length : Int) := (by rw [← hji5]; unfold mn; (repeat' split) <;> omega); omega); (with_reducible refine calls_at ((tuple_Compare.calls kj32 _ _ (rd_L1 t310 (ji38)) _ _ (l1.take ((ji5) : Int).toNat) t325 _ ?side1 ?side2 ?side3 ?side4 A41.out).mono ?_) (by (try simp only [e0_]); first | done | rfl)); clear e0_)); (case side1 => repeat (first | exact (by repeat (first | (with_reducible exact HR324_0.out) | (with_reducible refine Kd.C_alloc ?_ _) | (with_reducible refine Kd.C_drewN ?_ _) | (with_reducible refine Kd.C_drew ?_) | exact HR324_0.out)) | (with_reducible refine Kd.C_alloc ?_ _) | (with_reducible refine Kd.C_drewN ?_ _) | (with_reducible refine Kd.C_drew ?_))); (case side2 => exact HC324_0.out); (case side3 => repeat (first | exact (Kd.C_below HR309.out HB.out) | (with_reducible refine Kd.C_alloc ?_ _) | (with_reducible refine Kd.C_drewN ?_ _) | (with_reducible refine Kd.C_drew ?_))); (case side4 => exact HC309.out); rintro e w' ⟨rfl, ⟨nd, rfl⟩⟩; (try first | exact ⟨rfl, _, World.drewN_drewN _ _ _⟩ | exact ⟨rfl, _, Eq.trans (World.drewN_drewN _ _ _) (congrArg (World.drewN _) (Nat.add_assoc _ _ _))⟩))))
                                go_meet
                                case rel => exact ⟨_, ((t325 != (-1))), (by first | rfl | (simp; done) | (simp [*]; done)), H', ⟨by have := HK1.out; have := HK2.out; have := HJ32.out; first | omega | exact Nat.le_refl _⟩, ⟨by (with_reducible repeat (first | apply Kd.S_alloc | apply Kd.S_drewN | apply Kd.S_drew)); exact HO_6.out⟩, ⟨by repeat (first | (with_reducible first | exact HB.out | apply below_alloc | apply pw_below_drewN | apply below_drew1) | exact HB.out)⟩⟩
                              · rw [if_neg c40] at H
                                exact absurd H (by simp)
                            · rw [if_neg c39] at H
                              exact absurd H (by simp)
                          · rw [if_neg c37] at H
                            have c37b0 : decide (0 < t322) = false := decide_eq_false c37
                            clear c37
                            (first | rw [c37b0] | (simp only [i64_w, i32_w]; rw [c37b0]) | skip)
                            have H' := Aside0.mk H
                            clear H
                            go_wp2
                            repeat (go_quiet (fail); try go_wp2)
                            go_meet
                            case rel => exact ⟨_, (false), (by first | rfl | (simp; done) | (simp [*]; done)), H', ⟨by have := HK1.out; have := HK2.out; have := HJ32.out; first | omega | exact Nat.le_refl _⟩, ⟨by (with_reducible repeat (first | apply Kd.S_alloc | apply Kd.S_drewN | apply Kd.S_drew)); exact HO_6.out⟩, ⟨by repeat (first | (with_reducible first | exact HB.out | apply below_alloc | apply pw_below_drewN | apply below_drew1) | exact HB.out)⟩⟩
                        case rest =>
                          clear HC36
                          try clear c1
                          try clear c2
                          try clear p2
                          try clear c3
                          try clear p3
                          try clear q3
                          try clear hx3
                          try clear c4
                          try clear c5
                          try clear c6
                          try clear c6b0
                          try clear c6b1
                          try clear p6
                          try clear c7
                          try clear c7b0
                          try clear c7b1
                          try clear c14
                          try clear c14b0
                          try clear c15
                          try clear c15b0
                          try clear c17
                          try clear c18
                          try clear c18b0
                          try clear c18b1
                          try clear c19
                          try clear c19b0
                          try clear c21
                          try clear c21b0
                          try clear c22
                          try clear c22b0
                          try clear c24
                          try clear c24b0
                          try clear c24b1
                          try clear c28
                          try clear c28b0
                          try clear c29
                          try clear c29b0
                          try clear c31
                          try clear p31
                          try clear q31
                          try clear hx31
                          try clear c32
                          try clear p32
                          try clear q32
                          try clear hx32
                          try clear c34
                          try clear c34b0
                          try clear c35
                          try clear c37
                          try clear c37b0
                          try clear c39
                          try clear c39b0
                          try clear c40
                          try clear c40b0
                          try clear hx313_0
                          try clear hx316_0
                          try clear hx317_0
                          try clear hx319_0
                          try clear hx324_0
                          try clear p2
                          try clear p3
                          try clear p31
                          try clear p313
                          try clear p316
                          try clear p317
                          try clear p319
                          try clear p324
                          try clear p6
                          try clear q3
                          try clear q31
                          try clear q313
                          try clear q316
                          try clear q317
                          try clear q319
                          try clear q324
                          obtain ⟨kq, x106_35, rfl, HA, HJ35, HO_6, HB⟩ := hcut
                          cases kq with
                          | zero => exact absurd HA.out (by simp [arboristlaw01_TupleFinds.j3])
                          | succ kj35 =>
                            have H := HA.out
                            clear HA
                            simp only [arboristlaw01_TupleFinds.j3] at H
                            by_cases c42 : x106_35 = true
                            · subst c42
                              have H1 : (some false) = some r := by rw [if_pos rfl] at H; exact H
                              clear H
                              have H := H1
                              clear H1
                              exact absurd ((Option.some.inj H).trans HT_.out) (by decide)
                            · replace c42 := Bool.eq_false_iff.mpr c42
                              subst c42
                              have H1 : (if t305 = true then (if t322 = (t310.length : Int) then (if t322 < (t310.length : Int) then (if 0 ≤ t322 then ((tuple_Compare.f kj35 (l1.take ((ji5) : Int).toNat) (rd_L1 t310 t322)).bind fun t327 => (some (t323 == (t327 == 0)))) else (none)) else (some (t323 == false))) else (if 0 ≤ t322 then (if t322 < (t310.length : Int) then ((tuple_Compare.f kj35 (l1.take ((ji5) : Int).toNat) (rd_L1 t310 t322)).bind fun t329 => (if t329 < 1 then ((tuple_Compare.f kj35 (l1.take ((ji5) : Int).toNat) (rd_L1 t310 t322)).bind fun t331 => (some (t323 == (t331 == 0)))) else (some false))) else (none)) else (none))) else (some false)) = some r := by rw [if_neg (show ¬ (false = true) by decide)] at H; exact H
                              clear H
                              have H := H1
                              clear H1
                              by_cases c43 : t305 = true
                              · subst c43
                                have H1 : (if t322 = (t310.length : Int) then (if t322 < (t310.length : Int) then (if 0 ≤ t322 then ((tuple_Compare.f kj35 (l1.take ((ji5) : Int).toNat) (rd_L1 t310 t322)).bind fun t327 => (some (t323 == (t327 == 0)))) else (none)) else (some (t323 == false))) else (if 0 ≤ t322 then (if t322 < (t310.length : Int) then ((tuple_Compare.f kj35 (l1.take ((ji5) : Int).toNat) (rd_L1 t310 t322)).bind fun t329 => (if t329 < 1 then ((tuple_Compare.f kj35 (l1.take ((ji5) : Int).toNat) (rd_L1 t310 t322)).bind fun t331 => (some (t323 == (t331 == 0)))) else (some false))) else (none)) else (none))) = some r := by rw [if_pos rfl] at H; exact H
                                clear H
                                have H := H1
                                clear H1
                                by_cases c44 : t322 = (t310.length : Int)
                                · rw [if_pos c44] at H
                                  have c44b0 : (t322 == (t310.length : Int)) = true := beq_iff_eq.mpr c44
                                  have c44b1 : (t322 != (t310.length : Int)) = false := bne_eq_false_iff_eq.mpr c44
                                  clear c44
                                  by_cases c45 : t322 < (t310.length : Int)
                                  · rw [if_pos c45] at H
                                    have c45b0 : decide (t322 < (t310.length : Int)) = true := decide_eq_true c45
                                    clear c45
                                    by_cases c46 : 0 ≤ t322
                                    · rw [if_pos c46] at H
                                      have c46b0 : decide (0 ≤ t322) = true := decide_eq_true c46
                                      clear c46
                                      replace H := Option.bind_eq_some_iff.mp H
                                      obtain ⟨t327, A470, H⟩ := H
                                      replace H : (some (t323 == (t327 == 0))) = some r := H
                                      have A47 := Aside0.mk A470
                                      clear A470
                                      obtain rfl := Option.some.inj H
                                      have p326 : 0 ≤ (t322 : Int) := of_decide_eq_true (by first | (with_reducible assumption) | assumption)
                                      have q326 : t322 < (t310.length : Int) := of_decide_eq_true (by first | (with_reducible assumption) | assumption)
                                      obtain ⟨ad326, A326_0, c326_0, e326, hx326_0, hl326_0, hi326_0⟩ := at_L1 (Kd.S_reads' HO_6.out).2.2 t322 p326 q326
                                      cases e326
                                      obtain ⟨ce326, hce326, hMe326, hcc326⟩ := Kd.S_get HO_6.out [] t322 p326 (by first | exact q326 | exact of_decide_eq_true (by first | (with_reducible assumption) | assumption) | (have e_ := (Kd.S_reads' HO_6.out).1; omega))
                                      obtain ⟨ve326_0, rfl, ge326_0⟩ := hMe326
                                      have hv326_0 := hcc326 0 _ rfl
                                      rw [Nat.add_zero, show ((Kd.slice 3 (Kd.int .i64))).sz = 1 from rfl, Nat.mul_one] at hv326_0
                                      replace hv326_0 := Option.some.inj (hv326_0.symm.trans hx326_0)
                                      rw [hv326_0] at ge326_0
                                      have HL326_0 := Aside0.mk (show Kd.R (Kd.int .i64) 3 _ _ _ _ (rd_L1 t310 t322) from ge326_0)
                                      clear hv326_0 ge326_0
                                      clear hcc326 hce326
                                      have HR326_0 := Aside0.mk hi326_0
                                      have HC326_0 := Aside0.mk hl326_0
                                      clear hi326_0 hl326_0
                                      replace p326 := eq_true p326
                                      replace q326 := eq_true q326
                                      go_wp2_with (first | (go_at_call 18; (first | (with_reducible refine (tuple_Compare.calls kj35 _ _ (l1.take ((ji5) : Int).toNat) _ _ (rd_L1 t310 t322) t327 _ ?side1 ?side2 ?side3 ?side4 A47.out).mono ?_) | (have e0_ : (l1.take ((ji5) : Int).toNat).length = ((ji5) : Int).toNat := (by rw [List.length_take]; have q_ : (ji5) ≤ (l1.length : Int) := (by rw [← hji5]; unfold mn; (repeat' split) <;> omega); omega); (with_reducible refine calls_at ((tuple_Compare.calls kj35 _ _ (l1.take ((ji5) : Int).toNat) _ _ (rd_L1 t310 t322) t327 _ ?side1 ?side2 ?side3 ?side4 A47.out).mono ?_) (by (try simp only [e0_]); first | done | rfl)); clear e0_)); (case side1 => repeat (first | exact (Kd.C_below HR309.out HB.out) | (with_reducible refine Kd.C_alloc ?_ _) | (with_reducible refine Kd.C_drewN ?_ _) | (with_reducible refine Kd.C_drew ?_))); (case side2 => exact HC309.out); (case side3 => repeat (first | exact (by repeat (first | (with_reducible exact HR326_0.out) | (with_reducible refine Kd.C_alloc ?_ _) | (with_reducible refine Kd.C_drewN ?_ _) | (with_reducible refine Kd.C_drew ?_) | exact HR326_0.out)) | (with_reducible refine Kd.C_alloc ?_ _) | (with_reducible refine Kd.C_drewN ?_ _) | (with_reducible refine Kd.C_drew ?_))); (case side4 => exact HC326_0.out); rintro e w' ⟨rfl, ⟨nd, rfl⟩⟩; (try first | exact ⟨rfl, _, World.drewN_drewN _ _ _⟩ | exact ⟨rfl, _, Eq.trans (World.drewN_drewN _ _ _) (congrArg (World.drewN _) (Nat.add_assoc _ _ _))⟩)))
                                      repeat (go_quiet (first | (go_at_call 18; (first | (with_reducible refine (tuple_Compare.calls kj35 _ _ (l1.take ((ji5) : Int).toNat) _ _ (rd_L1 t310 t322) t327 _ ?side1 ?side2 ?side3 ?side4 A47.out).mono ?_) | (have e0_ : (l1.take ((ji5) : Int).toNat).length = ((ji5) : Int).toNat := (by rw [List.length_take]; have q_ : (ji5) ≤ (l1.length : Int) := (by rw [← hji5]; unfold mn; (repeat' split) <;> omega); omega); (with_reducible refine calls_at ((tuple_Compare.calls kj35 _ _ (l1.take ((ji5) : Int).toNat) _ _ (rd_L1 t310 t322) t327 _ ?side1 ?side2 ?side3 ?side4 A47.out).mono ?_) (by (try simp only [e0_]); first | done | rfl)); clear e0_)); (case side1 => repeat (first | exact (Kd.C_below HR309.out HB.out) | (with_reducible refine Kd.C_alloc ?_ _) | (with_reducible refine Kd.C_drewN ?_ _) | (with_reducible refine Kd.C_drew ?_))); (case side2 => exact HC309.out); (case side3 => repeat (first | exact (by repeat (first | (with_reducible exact HR326_0.out) | (with_reducible refine Kd.C_alloc ?_ _) | (with_reducible refine Kd.C_drewN ?_ _) | (with_reducible refine Kd.C_drew ?_) | exact HR326_0.out)) | (with_reducible refine Kd.C_alloc ?_ _) | (with_reducible refine Kd.C_drewN ?_ _) | (with_reducible refine Kd.C_drew ?_))); (case side4 => exact HC326_0.out); rintro e w' ⟨rfl, ⟨nd, rfl⟩⟩; (try first | exact ⟨rfl, _, World.drewN_drewN _ _ _⟩ | exact ⟨rfl, _, Eq.trans (World.drewN_drewN _ _ _) (congrArg (World.drewN _) (Nat.add_assoc _ _ _))⟩))); try go_wp2_with (first | (go_at_call 18; (first | (with_reducible refine (tuple_Compare.calls kj35 _ _ (l1.take ((ji5) : Int).toNat) _ _ (rd_L1 t310 t322) t327 _ ?side1 ?side2 ?side3 ?side4 A47.out).mono ?_) | (have e0_ : (l1.take ((ji5) : Int).toNat).length = ((ji5) : Int).toNat := (by rw [List.length_take]; have q_ : (ji5) ≤ (l1.length : Int) := (by rw [← hji5]; unfold mn; (repeat' split) <;> omega); omega); (with_reducible refine calls_at ((tuple_Compare.calls kj35 _ _ (l1.take ((ji5) : Int).toNat) _ _ (rd_L1 t310 t322) t327 _ ?side1 ?side2 ?side3 ?side4 A47.out).mono ?_) (by (try simp only [e0_]); first | done | rfl)); clear e0_)); (case side1 => repeat (first | exact (Kd.C_below HR309.out HB.out) | (with_reducible refine Kd.C_alloc ?_ _) | (with_reducible refine Kd.C_drewN ?_ _) | (with_reducible refine Kd.C_drew ?_))); (case side2 => exact HC309.out); (case side3 => repeat (first | exact (by repeat (first | (with_reducible exact HR326_0.out) | (with_reducible refine Kd.C_alloc ?_ _) | (with_reducible refine Kd.C_drewN ?_ _) | (with_reducible refine Kd.C_drew ?_) | exact HR326_0.out)) | (with_reducible refine Kd.C_alloc ?_ _) | (with_reducible refine Kd.C_drewN ?_ _) | (with_reducible refine Kd.C_drew ?_))); (case side4 => exact HC326_0.out); rintro e w' ⟨rfl, ⟨nd, rfl⟩⟩; (try first | exact ⟨rfl, _, World.drewN_drewN _ _ _⟩ | exact ⟨rfl, _, Eq.trans (World.drewN_drewN _ _ _) (congrArg (World.drewN _) (Nat.add_assoc _ _ _))⟩))))
                                      go_ret
                                      exact ⟨by first | rfl | (simp [errW_none, errW_some] <;> rfl) | (simp only [← hji5]; first | rfl | (simp [errW_none, errW_some] <;> rfl)) | (simp [*, errW_none, errW_some] <;> rfl), by repeat (first | (with_reducible first | exact HB.out | apply below_alloc | apply pw_below_drewN | apply below_drew1) | exact HB.out)⟩
                                    · rw [if_neg c46] at H
                                      exact absurd H (by simp)
                                  · rw [if_neg c45] at H
                                    have c45b0 : decide (t322 < (t310.length : Int)) = false := decide_eq_false c45
                                    clear c45
                                    obtain rfl := Option.some.inj H
                                    go_wp2
                                    repeat (go_quiet (fail); try go_wp2)
                                    go_ret
                                    exact ⟨by first | rfl | (simp [errW_none, errW_some] <;> rfl) | (simp only [← hji5]; first | rfl | (simp [errW_none, errW_some] <;> rfl)) | (simp [*, errW_none, errW_some] <;> rfl), by repeat (first | (with_reducible first | exact HB.out | apply below_alloc | apply pw_below_drewN | apply below_drew1) | exact HB.out)⟩
                                · rw [if_neg c44] at H
                                  have c44b0 : (t322 == (t310.length : Int)) = false := beq_eq_false_iff_ne.mpr c44
                                  have c44b1 : (t322 != (t310.length : Int)) = true := bne_iff_ne.mpr c44
                                  by_cases c48 : 0 ≤ t322
                                  · rw [if_pos c48] at H
                                    have c48b0 : decide (0 ≤ t322) = true := decide_eq_true c48
                                    clear c48
                                    by_cases c49 : t322 < (t310.length : Int)
                                    · rw [if_pos c49] at H
                                      have c49b0 : decide (t322 < (t310.length : Int)) = true := decide_eq_true c49
                                      clear c49
                                      replace H := Option.bind_eq_some_iff.mp H
                                      obtain ⟨t329, A500, H⟩ := H
                                      replace H : (if t329 < 1 then ((tuple_Compare.f kj35 (l1.take ((ji5) : Int).toNat) (rd_L1 t310 t322)).bind fun t331 => (some (t323 == (t331 == 0)))) else (some false)) = some r := H
                                      have A50 := Aside0.mk A500
                                      clear A500
                                      by_cases c51 : t329 < 1
                                      · rw [if_pos c51] at H
                                        have c51b0 : decide (t329 < 1) = true := decide_eq_true c51
                                        clear c51
                                        replace H := Option.bind_eq_some_iff.mp H
                                        obtain ⟨t331, A520, H⟩ := H
                                        replace H : (some (t323 == (t331 == 0))) = some r := H
                                        have A52 := Aside0.mk A520
                                        clear A520
                                        obtain rfl : t329 = t331 := Option.some.inj (A50.out.symm.trans A52.out)
                                        obtain rfl := Option.some.inj H
                                        have p328 : 0 ≤ (t322 : Int) := of_decide_eq_true (by first | (with_reducible assumption) | assumption)
                                        have q328 : t322 < (t310.length : Int) := of_decide_eq_true (by first | (with_reducible assumption) | assumption)
                                        obtain ⟨ad328, A328_0, c328_0, e328, hx328_0, hl328_0, hi328_0⟩ := at_L1 (Kd.S_reads' HO_6.out).2.2 t322 p328 q328
                                        cases e328
                                        obtain ⟨ce328, hce328, hMe328, hcc328⟩ := Kd.S_get HO_6.out [] t322 p328 (by first | exact q328 | exact of_decide_eq_true (by first | (with_reducible assumption) | assumption) | (have e_ := (Kd.S_reads' HO_6.out).1; omega))
                                        obtain ⟨ve328_0, rfl, ge328_0⟩ := hMe328
                                        have hv328_0 := hcc328 0 _ rfl
                                        rw [Nat.add_zero, show ((Kd.slice 3 (Kd.int .i64))).sz = 1 from rfl, Nat.mul_one] at hv328_0
                                        replace hv328_0 := Option.some.inj (hv328_0.symm.trans hx328_0)
                                        rw [hv328_0] at ge328_0
                                        have HL328_0 := Aside0.mk (show Kd.R (Kd.int .i64) 3 _ _ _ _ (rd_L1 t310 t322) from ge328_0)
                                        clear hv328_0 ge328_0
                                        clear hcc328 hce328
                                        have HR328_0 := Aside0.mk hi328_0
                                        have HC328_0 := Aside0.mk hl328_0
                                        clear hi328_0 hl328_0
                                        replace p328 := eq_true p328
                                        replace q328 := eq_true q328
                                        go_wp2_with (first | (go_at_call 18; (first | (with_reducible refine (tuple_Compare.calls kj35 _ _ (l1.take ((ji5) : Int).toNat) _ _ (rd_L1 t310 t322) t329 _ ?side1 ?side2 ?side3 ?side4 A50.out).mono ?_) | (have e0_ : (l1.take ((ji5) : Int).toNat).length = ((ji5) : Int).toNat := (by rw [List.length_take]; have q_ : (ji5) ≤ (l1.length : Int) := (by rw [← hji5]; unfold mn; (repeat' split) <;> omega); omega); (with_reducible refine calls_at ((tuple_Compare.calls kj35 _ _ (l1.take ((ji5) : Int).toNat) _ _ (rd_L1 t310 t322) t329 _ ?side1 ?side2 ?side3 ?side4 A50.out).mono ?_) (by (try simp only [e0_]); first | done | rfl)); clear e0_)); (case side1 => repeat (first | exact (Kd.C_below HR309.out HB.out) | (with_reducible refine Kd.C_alloc ?_ _) | (with_reducible refine Kd.C_drewN ?_ _) | (with_reducible refine Kd.C_drew ?_))); (case side2 => exact HC309.out); (case side3 => repeat (first | exact (by repeat (first | (with_reducible exact HR328_0.out) | (with_reducible refine Kd.C_alloc ?_ _) | (with_reducible refine Kd.C_drewN ?_ _) | (with_reducible refine Kd.C_drew ?_) | exact HR328_0.out)) | (with_reducible refine Kd.C_alloc ?_ _) | (with_reducible refine Kd.C_drewN ?_ _) | (with_reducible refine Kd.C_drew ?_))); (case side4 => exact HC328_0.out); rintro e w' ⟨rfl, ⟨nd, rfl⟩⟩; (try first | exact ⟨rfl, _, World.drewN_drewN _ _ _⟩ | exact ⟨rfl, _, Eq.trans (World.drewN_drewN _ _ _) (congrArg (World.drewN _) (Nat.add_assoc _ _ _))⟩); all_goals (have p330 : 0 ≤ (t322 : Int) := of_decide_eq_true (by first | (with_reducible assumption) | assumption); have q330 : t322 < (t310.length : Int) := of_decide_eq_true (by first | (with_reducible assumption) | assumption); obtain ⟨ad330, A330_0, c330_0, e330, hx330_0, hl330_0, hi330_0⟩ := at_L1 (Kd.S_reads' HO_6.out).2.2 t322 p330 q330; obtain rfl : ad328 = ad330 := (by injection e330); obtain ⟨ce330, hce330, hMe330, hcc330⟩ := Kd.S_get HO_6.out [] t322 p330 (by first | exact q330 | exact of_decide_eq_true (by first | (with_reducible assumption) | assumption) | (have e_ := (Kd.S_reads' HO_6.out).1; omega)); obtain ⟨ve330_0, rfl, ge330_0⟩ := hMe330; have hv330_0 := hcc330 0 _ rfl; rw [Nat.add_zero, show ((Kd.slice 3 (Kd.int .i64))).sz = 1 from rfl, Nat.mul_one] at hv330_0; replace hv330_0 := Option.some.inj (hv330_0.symm.trans hx330_0); rw [hv330_0] at ge330_0; have HL330_0 := Aside0.mk (show Kd.R (Kd.int .i64) 3 _ _ _ _ (rd_L1 t310 t322) from ge330_0); clear hv330_0 ge330_0; clear hcc330 hce330; have HR330_0 := Aside0.mk hi330_0; have HC330_0 := Aside0.mk hl330_0; clear hi330_0 hl330_0; replace p330 := eq_true p330; replace q330 := eq_true q330; have ea_ := Option.some.inj (hx328_0.symm.trans hx330_0); injection ea_ with ea_ en_ ec_; subst ea_; subst ec_; clear en_)) | (go_at_call 18; (first | (with_reducible refine (tuple_Compare.calls kj35 _ _ (l1.take ((ji5) : Int).toNat) _ _ (rd_L1 t310 t322) t331 _ ?side1 ?side2 ?side3 ?side4 A52.out).mono ?_) | (have e0_ : (l1.take ((ji5) : Int).toNat).length = ((ji5) : Int).toNat := (by rw [List.length_take]; have q_ : (ji5) ≤ (l1.length : Int) := (by rw [← hji5]; unfold mn; (repeat' split) <;> omega); omega); (with_reducible refine calls_at ((tuple_Compare.calls kj35 _ _ (l1.take ((ji5) : Int).toNat) _ _ (rd_L1 t310 t322) t331 _ ?side1 ?side2 ?side3 ?side4 A52.out).mono ?_) (by (try simp only [e0_]); first | done | rfl)); clear e0_)); (case side1 => repeat (first | exact (Kd.C_below HR309.out (by repeat (first | (with_reducible first | exact HB.out | apply below_alloc | apply pw_below_drewN | apply below_drew1) | exact HB.out))) | (with_reducible refine Kd.C_alloc ?_ _) | (with_reducible refine Kd.C_drewN ?_ _) | (with_reducible refine Kd.C_drew ?_))); (case side2 => exact HC309.out); (case side3 => repeat (first | exact (by repeat (first | (with_reducible exact HR330_0.out) | (with_reducible refine Kd.C_alloc ?_ _) | (with_reducible refine Kd.C_drewN ?_ _) | (with_reducible refine Kd.C_drew ?_) | exact HR330_0.out)) | (with_reducible refine Kd.C_alloc ?_ _) | (with_reducible refine Kd.C_drewN ?_ _) | (with_reducible refine Kd.C_drew ?_))); (case side4 => exact HC330_0.out); rintro e w' ⟨rfl, ⟨nd, rfl⟩⟩; (try first | exact ⟨rfl, _, World.drewN_drewN _ _ _⟩ | exact ⟨rfl, _, Eq.trans (World.drewN_drewN _ _ _) (congrArg (World.drewN _) (Nat.add_assoc _ _ _))⟩)))
                                        repeat (go_quiet (first | (go_at_call 18; (first | (with_reducible refine (tuple_Compare.calls kj35 _ _ (l1.take ((ji5) : Int).toNat) _ _ (rd_L1 t310 t322) t329 _ ?side1 ?side2 ?side3 ?side4 A50.out).mono ?_) | (have e0_ : (l1.take ((ji5) : Int).toNat).length = ((ji5) : Int).toNat := (by rw [List.length_take]; have q_ : (ji5) ≤ (l1.length : Int) := (by rw [← hji5]; unfold mn; (repeat' split) <;> omega); omega); (with_reducible refine calls_at ((tuple_Compare.calls kj35 _ _ (l1.take ((ji5) : Int).toNat) _ _ (rd_L1 t310 t322) t329 _ ?side1 ?side2 ?side3 ?side4 A50.out).mono ?_) (by (try simp only [e0_]); first | done | rfl)); clear e0_)); (case side1 => repeat (first | exact (Kd.C_below HR309.out HB.out) | (with_reducible refine Kd.C_alloc ?_ _) | (with_reducible refine Kd.C_drewN ?_ _) | (with_reducible refine Kd.C_drew ?_))); (case side2 => exact HC309.out); (case side3 => repeat (first | exact (by repeat (first | (with_reducible exact HR328_0.out) | (with_reducible refine Kd.C_alloc ?_ _) | (with_reducible refine Kd.C_drewN ?_ _) | (with_reducible refine Kd.C_drew ?_) | exact HR328_0.out)) | (with_reducible refine Kd.C_alloc ?_ _) | (with_reducible refine Kd.C_drewN ?_ _) | (with_reducible refine Kd.C_drew ?_))); (case side4 => exact HC328_0.out); rintro e w' ⟨rfl, ⟨nd, rfl⟩⟩; (try first | exact ⟨rfl, _, World.drewN_drewN _ _ _⟩ | exact ⟨rfl, _, Eq.trans (World.drewN_drewN _ _ _) (congrArg (World.drewN _) (Nat.add_assoc _ _ _))⟩); all_goals (have p330 : 0 ≤ (t322 : Int) := of_decide_eq_true (by first | (with_reducible assumption) | assumption); have q330 : t322 < (t310.length : Int) := of_decide_eq_true (by first | (with_reducible assumption) | assumption); obtain ⟨ad330, A330_0, c330_0, e330, hx330_0, hl330_0, hi330_0⟩ := at_L1 (Kd.S_reads' HO_6.out).2.2 t322 p330 q330; obtain rfl : ad328 = ad330 := (by injection e330); obtain ⟨ce330, hce330, hMe330, hcc330⟩ := Kd.S_get HO_6.out [] t322 p330 (by first | exact q330 | exact of_decide_eq_true (by first | (with_reducible assumption) | assumption) | (have e_ := (Kd.S_reads' HO_6.out).1; omega)); obtain ⟨ve330_0, rfl, ge330_0⟩ := hMe330; have hv330_0 := hcc330 0 _ rfl; rw [Nat.add_zero, show ((Kd.slice 3 (Kd.int .i64))).sz = 1 from rfl, Nat.mul_one] at hv330_0; replace hv330_0 := Option.some.inj (hv330_0.symm.trans hx330_0); rw [hv330_0] at ge330_0; have HL330_0 := Aside0.mk (show Kd.R (Kd.int .i64) 3 _ _ _ _ (rd_L1 t310 t322) from ge330_0); clear hv330_0 ge330_0; clear hcc330 hce330; have HR330_0 := Aside0.mk hi330_0; have HC330_0 := Aside0.mk hl330_0; clear hi330_0 hl330_0; replace p330 := eq_true p330; replace q330 := eq_true q330; have ea_ := Option.some.inj (hx328_0.symm.trans hx330_0); injection ea_ with ea_ en_ ec_; subst ea_; subst ec_; clear en_)) | (go_at_call 18; (first | (with_reducible refine (tuple_Compare.calls kj35 _ _ (l1.take ((ji5) : Int).toNat) _ _ (rd_L1 t310 t322) t331 _ ?side1 ?side2 ?side3 ?side4 A52.out).mono ?_) | (have e0_ : (l1.take ((ji5) : Int).toNat).length = ((ji5) : Int).toNat := (by rw [List.length_take]; have q_ : (ji5) ≤ (l1.length : Int) := (by rw [← hji5]; unfold mn; (repeat' split) <;> omega); omega); (with_reducible refine calls_at ((tuple_Compare.calls kj35 _ _ (l1.take ((ji5) : Int).toNat) _ _ (rd_L1 t310 t322) t331 _ ?side1 ?side2 ?side3 ?side4 A52.out).mono ?_) (by (try simp only [e0_]); first | done | rfl)); clear e0_)); (case side1 => repeat (first | exact (Kd.C_below HR309.out (by repeat (first | (with_reducible first | exact HB.out | apply below_alloc | apply pw_below_drewN | apply below_drew1) | exact HB.out))) | (with_reducible refine Kd.C_alloc ?_ _) | (with_reducible refine Kd.C_drewN ?_ _) | (with_reducible refine Kd.C_drew ?_))); (case side2 => exact HC309.out); (case side3 => repeat (first | exact (by repeat (first | (with_reducible exact HR330_0.out) | (with_reducible refine Kd.C_alloc ?_ _) | (with_reducible refine Kd.C_drewN ?_ _) | (with_reducible refine Kd.C_drew ?_) | exact HR330_0.out)) | (with_reducible refine Kd.C_alloc ?_ _) | (with_reducible refine Kd.C_drewN ?_ _) | (with_reducible refine Kd.C_drew ?_))); (case side4 => exact HC330_0.out); rintro e w' ⟨rfl, ⟨nd, rfl⟩⟩; (try first | exact ⟨rfl, _, World.drewN_drewN _ _ _⟩ | exact ⟨rfl, _, Eq.trans (World.drewN_drewN _ _ _) (congrArg (World.drewN _) (Nat.add_assoc _ _ _))⟩))); try go_wp2_with (first | (go_at_call 18; (first | (with_reducible refine (tuple_Compare.calls kj35 _ _ (l1.take ((ji5) : Int).toNat) _ _ (rd_L1 t310 t322) t329 _ ?side1 ?side2 ?side3 ?side4 A50.out).mono ?_) | (have e0_ : (l1.take ((ji5) : Int).toNat).length = ((ji5) : Int).toNat := (by rw [List.length_take]; have q_ : (ji5) ≤ (l1.length : Int) := (by rw [← hji5]; unfold mn; (repeat' split) <;> omega); omega); (with_reducible refine calls_at ((tuple_Compare.calls kj35 _ _ (l1.take ((ji5) : Int).toNat) _ _ (rd_L1 t310 t322) t329 _ ?side1 ?side2 ?side3 ?side4 A50.out).mono ?_) (by (try simp only [e0_]); first | done | rfl)); clear e0_)); (case side1 => repeat (first | exact (Kd.C_below HR309.out HB.out) | (with_reducible refine Kd.C_alloc ?_ _) | (with_reducible refine Kd.C_drewN ?_ _) | (with_reducible refine Kd.C_drew ?_))); (case side2 => exact HC309.out); (case side3 => repeat (first | exact (by repeat (first | (with_reducible exact HR328_0.out) | (with_reducible refine Kd.C_alloc ?_ _) | (with_reducible refine Kd.C_drewN ?_ _) | (with_reducible refine Kd.C_drew ?_) | exact HR328_0.out)) | (with_reducible refine Kd.C_alloc ?_ _) | (with_reducible refine Kd.C_drewN ?_ _) | (with_reducible refine Kd.C_drew ?_))); (case side4 => exact HC328_0.out); rintro e w' ⟨rfl, ⟨nd, rfl⟩⟩; (try first | exact ⟨rfl, _, World.drewN_drewN _ _ _⟩ | exact ⟨rfl, _, Eq.trans (World.drewN_drewN _ _ _) (congrArg (World.drewN _) (Nat.add_assoc _ _ _))⟩); all_goals (have p330 : 0 ≤ (t322 : Int) := of_decide_eq_true (by first | (with_reducible assumption) | assumption); have q330 : t322 < (t310.length : Int) := of_decide_eq_true (by first | (with_reducible assumption) | assumption); obtain ⟨ad330, A330_0, c330_0, e330, hx330_0, hl330_0, hi330_0⟩ := at_L1 (Kd.S_reads' HO_6.out).2.2 t322 p330 q330; obtain rfl : ad328 = ad330 := (by injection e330); obtain ⟨ce330, hce330, hMe330, hcc330⟩ := Kd.S_get HO_6.out [] t322 p330 (by first | exact q330 | exact of_decide_eq_true (by first | (with_reducible assumption) | assumption) | (have e_ := (Kd.S_reads' HO_6.out).1; omega)); obtain ⟨ve330_0, rfl, ge330_0⟩ := hMe330; have hv330_0 := hcc330 0 _ rfl; rw [Nat.add_zero, show ((Kd.slice 3 (Kd.int .i64))).sz = 1 from rfl, Nat.mul_one] at hv330_0; replace hv330_0 := Option.some.inj (hv330_0.symm.trans hx330_0); rw [hv330_0] at ge330_0; have HL330_0 := Aside0.mk (show Kd.R (Kd.int .i64) 3 _ _ _ _ (rd_L1 t310 t322) from ge330_0); clear hv330_0 ge330_0; clear hcc330 hce330; have HR330_0 := Aside0.mk hi330_0; have HC330_0 := Aside0.mk hl330_0; clear hi330_0 hl330_0; replace p330 := eq_true p330; replace q330 := eq_true q330; have ea_ := Option.some.inj (hx328_0.symm.trans hx330_0); injection ea_ with ea_ en_ ec_; subst ea_; subst ec_; clear en_)) | (go_at_call 18; (first | (with_reducible refine (tuple_Compare.calls kj35 _ _ (l1.take ((ji5) : Int).toNat) _ _ (rd_L1 t310 t322) t331 _ ?side1 ?side2 ?side3 ?side4 A52.out).mono ?_) | (have e0_ : (l1.take ((ji5) : Int).toNat).length = ((ji5) : Int).toNat := (by rw [List.length_take]; have q_ : (ji5) ≤ (l1.length : Int) := (by rw [← hji5]; unfold mn; (repeat' split) <;> omega); omega); (with_reducible refine calls_at ((tuple_Compare.calls kj35 _ _ (l1.take ((ji5) : Int).toNat) _ _ (rd_L1 t310 t322) t331 _ ?side1 ?side2 ?side3 ?side4 A52.out).mono ?_) (by (try simp only [e0_]); first | done | rfl)); clear e0_)); (case side1 => repeat (first | exact (Kd.C_below HR309.out (by repeat (first | (with_reducible first | exact HB.out | apply below_alloc | apply pw_below_drewN | apply below_drew1) | exact HB.out))) | (with_reducible refine Kd.C_alloc ?_ _) | (with_reducible refine Kd.C_drewN ?_ _) | (with_reducible refine Kd.C_drew ?_))); (case side2 => exact HC309.out); (case side3 => repeat (first | exact (by repeat (first | (with_reducible exact HR330_0.out) | (with_reducible refine Kd.C_alloc ?_ _) | (with_reducible refine Kd.C_drewN ?_ _) | (with_reducible refine Kd.C_drew ?_) | exact HR330_0.out)) | (with_reducible refine Kd.C_alloc ?_ _) | (with_reducible refine Kd.C_drewN ?_ _) | (with_reducible refine Kd.C_drew ?_))); (case side4 => exact HC330_0.out); rintro e w' ⟨rfl, ⟨nd, rfl⟩⟩; (try first | exact ⟨rfl, _, World.drewN_drewN _ _ _⟩ | exact ⟨rfl, _, Eq.trans (World.drewN_drewN _ _ _) (congrArg (World.drewN _) (Nat.add_assoc _ _ _))⟩))))
                                        go_ret
                                        exact ⟨by first | rfl | (simp [errW_none, errW_some] <;> rfl) | (simp only [← hji5]; first | rfl | (simp [errW_none, errW_some] <;> rfl)) | (simp [*, errW_none, errW_some] <;> rfl), by repeat (first | (with_reducible first | exact HB.out | apply below_alloc | apply pw_below_drewN | apply below_drew1) | exact HB.out)⟩
                                      · rw [if_neg c51] at H
                                        have c51b0 : decide (t329 < 1) = false := decide_eq_false c51
                                        clear c51
                                        exact absurd ((Option.some.inj H).trans HT_.out) (by decide)
                                    · rw [if_neg c49] at H
                                      exact absurd H (by simp)
                                  · rw [if_neg c48] at H
                                    exact absurd H (by simp)
                              · replace c43 := Bool.eq_false_iff.mpr c43
                                subst c43
                                have H1 : (some false) = some r := by rw [if_neg (show ¬ (false = true) by decide)] at H; exact H
                                clear H
                                have H := H1
                                clear H1
                                exact absurd ((Option.some.inj H).trans HT_.out) (by decide)
    · rw [if_neg c7] at H
      exact absurd H (by simp)
  · rw [if_neg c6] at H
    exact absurd H (by simp)

/-- THE ONE PURE STATEMENT of arboristlaw01_TupleFinds. -/
def arboristlaw01_TupleFinds.Pure : Prop := ∀ (l0 : List (List Int)) (l1 : List Int), (l0.length ≤ maxLen ∧ ∀ z0 ∈ l0, (z0.length ≤ maxLen ∧ ∀ z1 ∈ z0, (Lit.int .i64 z1).wf = true)) → (l1.length ≤ maxLen ∧ ∀ z0 ∈ l1, (Lit.int .i64 z0).wf = true) → ∃ k, arboristlaw01_TupleFinds.f k l0 l1 = some true

end Go.Proofs.Ytlnmgljiggebiaa.Pr
