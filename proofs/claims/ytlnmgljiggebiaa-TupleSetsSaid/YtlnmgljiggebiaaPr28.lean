-- Printed by a program of this session's own (wip/tools/pp.py) over the kit's print.py; Lean checks it.
import Derived.Test.YtlnmgljiggebiaaPr0
import Derived.Test.YtlnmgljiggebiaaPr1
import Derived.Test.YtlnmgljiggebiaaPr13
import Derived.Test.YtlnmgljiggebiaaPr15
import Derived.Test.YtlnmgljiggebiaaPr24
import Derived.Test.YtlnmgljiggebiaaPr25
import Derived.Test.YtlnmgljiggebiaaPr26
import Derived.Test.YtlnmgljiggebiaaPr27
namespace Go.Proofs.Ytlnmgljiggebiaa.Pr
open Go.RowKit Go.Proofs.YtlnmgljiggebiaaW.PrintWords Go.Proofs.YtlnmgljiggebiaaW.PrintLast Go.Proofs.YtlnmgljiggebiaaW.PrintMore
attribute [local go_sem] max2_int min2_int max_two min_two max_three min_three max_four min_four   -- for this text's walks alone
set_option linter.unusedVariables false
set_option linter.unusedSimpArgs false

/-! ### arboristlaw01_TupleSets: function 9 -/
def arboristlaw01_TupleSets.j0 : Nat → List Int → Bool → List Int → List Int → Bool → Option (Bool)
  | 0, _, _, _, _, _ => none
  | k + 1, x0, x5, x6, x7, x8 => (tuple_Without.f x6 x7).bind fun t484 => ((arboristref01_Without.f k x6 x7).bind fun t487 => ((arboristref01_Compare.f k t484 t487).bind fun t490 => (if t490 = 0 then ((tuple_Within.f x6 x7).bind fun t491 => ((arboristref01_Within.f k x6 x7).bind fun t492 => (if x5 = true then (if x8 = true then (if (t491 == t492) = true then ((tuple_Rising.f k x0).bind fun t493 => ((arboristref01_Rising.f k x0).bind fun t494 => (if (t493 == t494) = true then ((tuple_Rising.f k x6).bind fun t495 => (some t495)) else (some false)))) else (some false)) else (some false)) else (some false)))) else (if x5 = true then (if x8 = true then (some false) else (some false)) else (some false)))))
def arboristlaw01_TupleSets.f (k : Nat) (l0 : List Int) (l1 : List Int) : Option (Bool) := (arboristlaw01_shown.f k).bind fun t462 => ((arboristlaw01_rise.f k l0).bind fun t463 => ((arboristlaw01_rise.f k l1).bind fun t466 => (if 0 ≤ (mn (l0.length : Int) 60) then (if (mn (l0.length : Int) 60) ≤ (l0.length : Int) then ((tuple_Unite.f t463 t466).bind fun t470 => ((arboristref01_Unite.f k t463 t466).bind fun t473 => ((arboristref01_Compare.f k t470 t473).bind fun t476 => (if t476 = 0 then ((tuple_Meet.f t463 t466).bind fun t477 => ((arboristref01_Meet.f k t463 t466).bind fun t480 => ((arboristref01_Compare.f k t477 t480).bind fun t483 => (arboristlaw01_TupleSets.j0 k (l0.take ((mn (l0.length : Int) 60) : Int).toNat) t462 t463 t466 (t483 == 0))))) else (arboristlaw01_TupleSets.j0 k (l0.take ((mn (l0.length : Int) 60) : Int).toNat) t462 t463 t466 false))))) else (none)) else (none))))
theorem arboristlaw01_TupleSets.mono_l : ∀ k, (∀ y0 y1 y2 y3 y4, LeO (arboristlaw01_TupleSets.j0 k y0 y1 y2 y3 y4) (arboristlaw01_TupleSets.j0 (k + 1) y0 y1 y2 y3 y4))
  | 0 => fun _ _ _ _ _ r h => by simp [arboristlaw01_TupleSets.j0] at h
  | k + 1 => by
    have ih0 := arboristlaw01_TupleSets.mono_l k
    all_goals intros
    all_goals (first | unfold arboristlaw01_TupleSets.j0)
    all_goals repeat' first
    | (with_reducible exact ih0 _ _ _ _ _)
    | (with_reducible exact arboristlaw01_rise.mono _ _)
    | (with_reducible exact arboristlaw01_shown.mono _)
    | (with_reducible exact arboristref01_Compare.mono _ _ _)
    | (with_reducible exact arboristref01_Meet.mono _ _ _)
    | (with_reducible exact arboristref01_Rising.mono _ _)
    | (with_reducible exact arboristref01_Unite.mono _ _ _)
    | (with_reducible exact arboristref01_Within.mono _ _ _)
    | (with_reducible exact arboristref01_Without.mono _ _ _)
    | (with_reducible exact tuple_Rising.mono _ _)
    | (with_reducible exact LeO.refl _)
    | (with_reducible exact LeO.none _)
    | (with_reducible refine LeO.ite ?_ ?_)
    | (with_reducible refine LeO.bind ?_ (fun _ => ?_))
    | exact ih0 _ _ _ _ _
    | exact arboristlaw01_rise.mono _ _
    | exact arboristlaw01_shown.mono _
    | exact arboristref01_Compare.mono _ _ _
    | exact arboristref01_Meet.mono _ _ _
    | exact arboristref01_Rising.mono _ _
    | exact arboristref01_Unite.mono _ _ _
    | exact arboristref01_Within.mono _ _ _
    | exact arboristref01_Without.mono _ _ _
    | exact tuple_Rising.mono _ _
    | exact LeO.none _
    | refine LeO.ite ?_ ?_
    | refine LeO.bind ?_ (fun _ => ?_)
theorem arboristlaw01_TupleSets.mono : ∀ a0 a1 k, LeO (arboristlaw01_TupleSets.f k a0 a1) (arboristlaw01_TupleSets.f (k + 1) a0 a1) := by
  intro a0 a1 k
  have ih0 := arboristlaw01_TupleSets.mono_l k
  unfold arboristlaw01_TupleSets.f
  repeat' first
      | (with_reducible exact ih0 _ _ _ _ _)
      | (with_reducible exact arboristlaw01_rise.mono _ _)
      | (with_reducible exact arboristlaw01_shown.mono _)
      | (with_reducible exact arboristref01_Compare.mono _ _ _)
      | (with_reducible exact arboristref01_Meet.mono _ _ _)
      | (with_reducible exact arboristref01_Rising.mono _ _)
      | (with_reducible exact arboristref01_Unite.mono _ _ _)
      | (with_reducible exact arboristref01_Within.mono _ _ _)
      | (with_reducible exact arboristref01_Without.mono _ _ _)
      | (with_reducible exact tuple_Rising.mono _ _)
      | (with_reducible exact LeO.refl _)
      | (with_reducible exact LeO.none _)
      | (with_reducible refine LeO.ite ?_ ?_)
      | (with_reducible refine LeO.bind ?_ (fun _ => ?_))
      | exact ih0 _ _ _ _ _
      | exact arboristlaw01_rise.mono _ _
      | exact arboristlaw01_shown.mono _
      | exact arboristref01_Compare.mono _ _ _
      | exact arboristref01_Meet.mono _ _ _
      | exact arboristref01_Rising.mono _ _
      | exact arboristref01_Unite.mono _ _ _
      | exact arboristref01_Within.mono _ _ _
      | exact arboristref01_Without.mono _ _ _
      | exact tuple_Rising.mono _ _
      | exact LeO.none _
      | refine LeO.ite ?_ ?_
      | refine LeO.bind ?_ (fun _ => ?_)
set_option maxHeartbeats 8000000 in
set_option maxRecDepth 100000 in
theorem arboristlaw01_TupleSets.calls (k : Nat) (A0 : Option Addr) (c0 : Nat) (l0 : List Int) (A1 : Option Addr) (c1 : Nat) (l1 : List Int) (r : Bool) (w : World) (hr0 : Kd.C (Kd.int .i64) w A0 l0.length l0) (hc0 : l0.length ≤ c0) (hr1 : Kd.C (Kd.int .i64) w A1 l1.length l1) (hc1 : l1.length ≤ c1) (hT : r = true) (h : arboristlaw01_TupleSets.f k l0 l1 = some r) :
    Calls Try.prog 9 #[.slice A0 l0.length c0, .slice A1 l1.length c1] w fun e w' => e = .returned (.bool r) ∧ Below w.heap.size w w' := by
  have HT_ := Aside0.mk (show r = true from hT)
  clear hT
  have HR0 := Aside0.mk hr0
  have HC0 := Aside0.mk hc0
  clear hr0 hc0
  have HR1 := Aside0.mk hr1
  have HC1 := Aside0.mk hc1
  clear hr1 hc1
  have HB := Aside0.mk (Below.refl w.heap.size w)
  have H : ((arboristlaw01_shown.f k).bind fun t462 => ((arboristlaw01_rise.f k l0).bind fun t463 => ((arboristlaw01_rise.f k l1).bind fun t466 => (if 0 ≤ (mn (l0.length : Int) 60) then (if (mn (l0.length : Int) 60) ≤ (l0.length : Int) then ((tuple_Unite.f t463 t466).bind fun t470 => ((arboristref01_Unite.f k t463 t466).bind fun t473 => ((arboristref01_Compare.f k t470 t473).bind fun t476 => (if t476 = 0 then ((tuple_Meet.f t463 t466).bind fun t477 => ((arboristref01_Meet.f k t463 t466).bind fun t480 => ((arboristref01_Compare.f k t477 t480).bind fun t483 => (arboristlaw01_TupleSets.j0 k (l0.take ((mn (l0.length : Int) 60) : Int).toNat) t462 t463 t466 (t483 == 0))))) else (arboristlaw01_TupleSets.j0 k (l0.take ((mn (l0.length : Int) 60) : Int).toNat) t462 t463 t466 false))))) else (none)) else (none))))) = some r := h
  clear h
  replace H := Option.bind_eq_some_iff.mp H
  obtain ⟨t462, A30, H⟩ := H
  replace H : ((arboristlaw01_rise.f k l0).bind fun t463 => ((arboristlaw01_rise.f k l1).bind fun t466 => (if 0 ≤ (mn (l0.length : Int) 60) then (if (mn (l0.length : Int) 60) ≤ (l0.length : Int) then ((tuple_Unite.f t463 t466).bind fun t470 => ((arboristref01_Unite.f k t463 t466).bind fun t473 => ((arboristref01_Compare.f k t470 t473).bind fun t476 => (if t476 = 0 then ((tuple_Meet.f t463 t466).bind fun t477 => ((arboristref01_Meet.f k t463 t466).bind fun t480 => ((arboristref01_Compare.f k t477 t480).bind fun t483 => (arboristlaw01_TupleSets.j0 k (l0.take ((mn (l0.length : Int) 60) : Int).toNat) t462 t463 t466 (t483 == 0))))) else (arboristlaw01_TupleSets.j0 k (l0.take ((mn (l0.length : Int) 60) : Int).toNat) t462 t463 t466 false))))) else (none)) else (none)))) = some r := H
  have A3 := Aside0.mk A30
  clear A30
  replace H := Option.bind_eq_some_iff.mp H
  obtain ⟨t463, A40, H⟩ := H
  replace H : ((arboristlaw01_rise.f k l1).bind fun t466 => (if 0 ≤ (mn (l0.length : Int) 60) then (if (mn (l0.length : Int) 60) ≤ (l0.length : Int) then ((tuple_Unite.f t463 t466).bind fun t470 => ((arboristref01_Unite.f k t463 t466).bind fun t473 => ((arboristref01_Compare.f k t470 t473).bind fun t476 => (if t476 = 0 then ((tuple_Meet.f t463 t466).bind fun t477 => ((arboristref01_Meet.f k t463 t466).bind fun t480 => ((arboristref01_Compare.f k t477 t480).bind fun t483 => (arboristlaw01_TupleSets.j0 k (l0.take ((mn (l0.length : Int) 60) : Int).toNat) t462 t463 t466 (t483 == 0))))) else (arboristlaw01_TupleSets.j0 k (l0.take ((mn (l0.length : Int) 60) : Int).toNat) t462 t463 t466 false))))) else (none)) else (none))) = some r := H
  have A4 := Aside0.mk A40
  clear A40
  replace H := Option.bind_eq_some_iff.mp H
  obtain ⟨t466, A50, H⟩ := H
  replace H : (if 0 ≤ (mn (l0.length : Int) 60) then (if (mn (l0.length : Int) 60) ≤ (l0.length : Int) then ((tuple_Unite.f t463 t466).bind fun t470 => ((arboristref01_Unite.f k t463 t466).bind fun t473 => ((arboristref01_Compare.f k t470 t473).bind fun t476 => (if t476 = 0 then ((tuple_Meet.f t463 t466).bind fun t477 => ((arboristref01_Meet.f k t463 t466).bind fun t480 => ((arboristref01_Compare.f k t477 t480).bind fun t483 => (arboristlaw01_TupleSets.j0 k (l0.take ((mn (l0.length : Int) 60) : Int).toNat) t462 t463 t466 (t483 == 0))))) else (arboristlaw01_TupleSets.j0 k (l0.take ((mn (l0.length : Int) 60) : Int).toNat) t462 t463 t466 false))))) else (none)) else (none)) = some r := H
  have A5 := Aside0.mk A50
  clear A50
  obtain ⟨ji6, hji6⟩ : ∃ j_ : Int, (mn (l0.length : Int) 60) = j_ := ⟨_, rfl⟩
  replace H : (if 0 ≤ (ji6) then (if (ji6) ≤ (l0.length : Int) then ((tuple_Unite.f t463 t466).bind fun t470 => ((arboristref01_Unite.f k t463 t466).bind fun t473 => ((arboristref01_Compare.f k t470 t473).bind fun t476 => (if t476 = 0 then ((tuple_Meet.f t463 t466).bind fun t477 => ((arboristref01_Meet.f k t463 t466).bind fun t480 => ((arboristref01_Compare.f k t477 t480).bind fun t483 => (arboristlaw01_TupleSets.j0 k (l0.take ((ji6) : Int).toNat) t462 t463 t466 (t483 == 0))))) else (arboristlaw01_TupleSets.j0 k (l0.take ((ji6) : Int).toNat) t462 t463 t466 false))))) else (none)) else (none)) = some r := by first | (rw [hji6] at H; exact H) | (simp only [hji6] at H ⊢; exact H)
  (try rw [hji6] at A3)
  (try rw [hji6] at A4)
  (try rw [hji6] at A5)
  (try (have hji6h : ji6 ≤ 60 := by (rw [← hji6]; unfold mn; (repeat' split) <;> omega)))
  (try (have hji6g : ji6 ≤ 64 := by omega))
  (try (have hji6l : 0 ≤ ji6 := by (rw [← hji6]; unfold mn; (repeat' split) <;> omega)))
  (try (have hji6m : 0 ≤ ji6 := by omega))
  have hji6_ : (if 60 < (l0.length : Int) then 60 else (l0.length : Int)) = ji6 := hji6
  by_cases c7 : 0 ≤ (ji6)
  · rw [if_pos c7] at H
    have c7b0 := eq_true c7
    have c7b1 : decide (0 ≤ (ji6)) = true := decide_eq_true c7
    clear c7
    by_cases c8 : (ji6) ≤ (l0.length : Int)
    · rw [if_pos c8] at H
      have c8b0 := eq_true c8
      have c8b1 : decide ((ji6) ≤ (l0.length : Int)) = true := decide_eq_true c8
      clear c8
      have HC9 := Aside0.mk H
      clear H
      go_enter Try.func9, Try.ntmps9
      go_upto_region 5 with (first | ((with_reducible refine gate_callee (f := 12) rfl ?_); refine goesL_ (some 10) rfl rfl Try.func12 (by kernel_rfl) rfl #[] rfl (by (try simp only [List.map_toArray, List.map_cons, List.map_nil]); first | done | rfl | (simp only [List.length_drop, List.length_take]; rfl)) ?_; (with_reducible refine (arboristlaw01_shown.calls k  t462 _ A3.out).mono ?_); rintro e w10 ⟨rfl, hb⟩; refine ⟨_, rfl, ?_⟩; have n0_ := Aside0.mk (below_step (by repeat (first | (with_reducible first | exact HB.out | apply below_alloc | apply pw_below_drewN | apply below_drew1) | exact HB.out)) hb); clear HB; have HB := n0_; clear n0_; (try clear hb); (try clear hb2); (try clear hk); (try clear hi)) | ((with_reducible refine gate_callee (f := 23) rfl ?_); refine goesL_ (some 12) rfl rfl Try.func23 (by kernel_rfl) rfl #[.slice A0 l0.length c0] rfl (by (try simp only [List.map_toArray, List.map_cons, List.map_nil]); first | done | rfl | (simp only [List.length_drop, List.length_take]; rfl)) ?_; (with_reducible refine (arboristlaw01_rise.calls k _ _ l0 t463 _ ?side1 ?side2 A4.out).mono ?_); (case side1 => repeat (first | exact (Kd.C_below HR0.out HB.out) | (with_reducible refine Kd.C_alloc ?_ _) | (with_reducible refine Kd.C_drewN ?_ _) | (with_reducible refine Kd.C_drew ?_))); (case side2 => exact HC0.out); rintro e w11 ⟨v464, rfl, ho0, hb⟩; refine ⟨_, rfl, ?_⟩; have n0_ := Aside0.mk (Kd.R_lower ho0 (below_size (by repeat (first | (with_reducible first | exact HB.out | apply below_alloc | apply pw_below_drewN | apply below_drew1) | exact HB.out)))); have n1_ := Aside0.mk (below_step (by repeat (first | (with_reducible first | exact HB.out | apply below_alloc | apply pw_below_drewN | apply below_drew1) | exact HB.out)) hb); clear HB; have HO465 := n0_; have HB := n1_; clear n0_ n1_; (try clear hb); (try clear hb2); (try clear hk); (try clear hi); (try clear ho0)) | ((with_reducible refine gate_callee (f := 23) rfl ?_); refine goesL_ (some 14) rfl rfl Try.func23 (by kernel_rfl) rfl #[.slice A1 l1.length c1] rfl (by (try simp only [List.map_toArray, List.map_cons, List.map_nil]); first | done | rfl | (simp only [List.length_drop, List.length_take]; rfl)) ?_; (with_reducible refine (arboristlaw01_rise.calls k _ _ l1 t466 _ ?side1 ?side2 A5.out).mono ?_); (case side1 => repeat (first | exact (Kd.C_below HR1.out HB.out) | (with_reducible refine Kd.C_alloc ?_ _) | (with_reducible refine Kd.C_drewN ?_ _) | (with_reducible refine Kd.C_drew ?_))); (case side2 => exact HC1.out); rintro e w12 ⟨v467, rfl, ho0, hb⟩; refine ⟨_, rfl, ?_⟩; have n0_ := Aside0.mk (Kd.R_elder' (by (with_reducible repeat (first | apply Kd.R_alloc | apply Kd.R_drewN | apply Kd.R_drew)); exact HO465.out) (Kd.R_base ho0) hb); have n1_ := Aside0.mk (Kd.R_lower (Kd.R_new' ho0 (Kd.R_lt (by (with_reducible repeat (first | apply Kd.R_alloc | apply Kd.R_drewN | apply Kd.R_drew)); exact HO465.out))) (below_size (by repeat (first | (with_reducible first | exact HB.out | apply below_alloc | apply pw_below_drewN | apply below_drew1) | exact HB.out)))); have n2_ := Aside0.mk (below_step (by repeat (first | (with_reducible first | exact HB.out | apply below_alloc | apply pw_below_drewN | apply below_drew1) | exact HB.out)) hb); clear HO465; clear HB; have HO465 := n0_; have HO468 := n1_; have HB := n2_; clear n0_ n1_ n2_; (try clear hb); (try clear hb2); (try clear hk); (try clear hi); (try clear ho0); obtain ⟨i013, hi013, _, hsz13, _⟩ := info_parts info3; obtain ⟨hcut13, hA13, hC13⟩ := print_take_of (P := Try.prog) (Value.int .i64) 0 23 3 .i64 Try.underlying23 hi013 hsz13 A0 c0 l0 (ji6) (of_decide_eq_true (by first | (with_reducible assumption) | assumption)) (of_decide_eq_true (by first | (with_reducible assumption) | assumption)) HC0.out; have HR469 := Aside0.mk (Kd.C_of_reads (h1 := fun _ => rfl) (hA13 _ (Kd.reads_of_C HR0.out))); have HC469 := Aside0.mk hC13; clear hA13 hC13 hi013 hsz13))
      (try simp only [Act.put, List.setIfInBounds_toArray, List.set_cons_zero, List.set_cons_succ])
      go_cut [8] (fun v8 wc => ∃ (kq : Nat) (x8_8 : Bool), v8 = .bool x8_8 ∧ Aside0 (arboristlaw01_TupleSets.j0 kq (l0.take ((ji6) : Int).toNat) t462 t463 t466 x8_8 = some r) ∧ Aside0 (kq ≤ k) ∧ Aside0 (Kd.R (Kd.int .i64) 3 wc w.heap.size (fun k_ => some k_ ≠ (v467 : Value).ownBlock) v464 t463) ∧ Aside0 (Kd.R (Kd.int .i64) 3 wc w.heap.size (fun k_ => some k_ ≠ (v464 : Value).ownBlock) v467 t466) ∧ Aside0 (Below w.heap.size w wc))
      case first =>
        have H := HC9.out
        clear HC9
        replace H := Option.bind_eq_some_iff.mp H
        obtain ⟨t470, A140, H⟩ := H
        replace H : ((arboristref01_Unite.f k t463 t466).bind fun t473 => ((arboristref01_Compare.f k t470 t473).bind fun t476 => (if t476 = 0 then ((tuple_Meet.f t463 t466).bind fun t477 => ((arboristref01_Meet.f k t463 t466).bind fun t480 => ((arboristref01_Compare.f k t477 t480).bind fun t483 => (arboristlaw01_TupleSets.j0 k (l0.take ((ji6) : Int).toNat) t462 t463 t466 (t483 == 0))))) else (arboristlaw01_TupleSets.j0 k (l0.take ((ji6) : Int).toNat) t462 t463 t466 false)))) = some r := H
        have A14 := Aside0.mk A140
        clear A140
        replace H := Option.bind_eq_some_iff.mp H
        obtain ⟨t473, A150, H⟩ := H
        replace H : ((arboristref01_Compare.f k t470 t473).bind fun t476 => (if t476 = 0 then ((tuple_Meet.f t463 t466).bind fun t477 => ((arboristref01_Meet.f k t463 t466).bind fun t480 => ((arboristref01_Compare.f k t477 t480).bind fun t483 => (arboristlaw01_TupleSets.j0 k (l0.take ((ji6) : Int).toNat) t462 t463 t466 (t483 == 0))))) else (arboristlaw01_TupleSets.j0 k (l0.take ((ji6) : Int).toNat) t462 t463 t466 false))) = some r := H
        have A15 := Aside0.mk A150
        clear A150
        replace H := Option.bind_eq_some_iff.mp H
        obtain ⟨t476, A160, H⟩ := H
        replace H : (if t476 = 0 then ((tuple_Meet.f t463 t466).bind fun t477 => ((arboristref01_Meet.f k t463 t466).bind fun t480 => ((arboristref01_Compare.f k t477 t480).bind fun t483 => (arboristlaw01_TupleSets.j0 k (l0.take ((ji6) : Int).toNat) t462 t463 t466 (t483 == 0))))) else (arboristlaw01_TupleSets.j0 k (l0.take ((ji6) : Int).toNat) t462 t463 t466 false)) = some r := H
        have A16 := Aside0.mk A160
        clear A160
        by_cases c17 : t476 = 0
        · rw [if_pos c17] at H
          have c17b0 : (t476 == 0) = true := beq_iff_eq.mpr c17
          have c17b1 : (t476 != 0) = false := bne_eq_false_iff_eq.mpr c17
          clear c17
          (first | rw [c17b0] | (simp only [i64_w, i32_w]; rw [c17b0]) | skip)
          replace H := Option.bind_eq_some_iff.mp H
          obtain ⟨t477, A180, H⟩ := H
          replace H : ((arboristref01_Meet.f k t463 t466).bind fun t480 => ((arboristref01_Compare.f k t477 t480).bind fun t483 => (arboristlaw01_TupleSets.j0 k (l0.take ((ji6) : Int).toNat) t462 t463 t466 (t483 == 0)))) = some r := H
          have A18 := Aside0.mk A180
          clear A180
          replace H := Option.bind_eq_some_iff.mp H
          obtain ⟨t480, A190, H⟩ := H
          replace H : ((arboristref01_Compare.f k t477 t480).bind fun t483 => (arboristlaw01_TupleSets.j0 k (l0.take ((ji6) : Int).toNat) t462 t463 t466 (t483 == 0))) = some r := H
          have A19 := Aside0.mk A190
          clear A190
          replace H := Option.bind_eq_some_iff.mp H
          obtain ⟨t483, A200, H⟩ := H
          replace H : (arboristlaw01_TupleSets.j0 k (l0.take ((ji6) : Int).toNat) t462 t463 t466 (t483 == 0)) = some r := H
          have A20 := Aside0.mk A200
          clear A200
          have H' := Aside0.mk H
          clear H
          obtain ⟨Ao21, co21, eo21⟩ := Kd.R_slice HO465.out
          subst eo21
          obtain ⟨Ao22, co22, eo22⟩ := Kd.R_slice HO468.out
          subst eo22
          go_wp2_with (first | ((with_reducible refine gate_callee (f := 24) rfl ?_); refine goesL_ (some 22) rfl rfl Try.func24 (by kernel_rfl) rfl #[.slice Ao21 t463.length co21, .slice Ao22 t466.length co22] rfl (by (try simp only [List.map_toArray, List.map_cons, List.map_nil]); first | done | rfl | (simp only [List.length_drop, List.length_take]; rfl)) ?_; (with_reducible refine (tuple_Unite.calls _ _ t463 _ _ t466 t470 _ ?side1 ?side2 ?side3 ?side4 A14.out).mono ?_); (case side1 => repeat (first | exact (Kd.R_reads' HO465.out).2.2 | (with_reducible refine Kd.C_alloc ?_ _) | (with_reducible refine Kd.C_drewN ?_ _) | (with_reducible refine Kd.C_drew ?_))); (case side2 => exact (Kd.R_reads' HO465.out).2.1); (case side3 => repeat (first | exact (Kd.R_reads' HO468.out).2.2 | (with_reducible refine Kd.C_alloc ?_ _) | (with_reducible refine Kd.C_drewN ?_ _) | (with_reducible refine Kd.C_drew ?_))); (case side4 => exact (Kd.R_reads' HO468.out).2.1); rintro e w23 ⟨v471, rfl, ho0, hb⟩; refine ⟨_, rfl, ?_⟩; have n0_ := Aside0.mk (Kd.R_elder' (by (with_reducible repeat (first | apply Kd.R_alloc | apply Kd.R_drewN | apply Kd.R_drew)); exact HO465.out) (Kd.R_base ho0) hb); have n1_ := Aside0.mk (Kd.R_elder' (by (with_reducible repeat (first | apply Kd.R_alloc | apply Kd.R_drewN | apply Kd.R_drew)); exact HO468.out) (Kd.R_base ho0) hb); have n2_ := Aside0.mk (Kd.R_lower (Kd.R_new' (Kd.R_new' ho0 (Kd.R_lt (by (with_reducible repeat (first | apply Kd.R_alloc | apply Kd.R_drewN | apply Kd.R_drew)); exact HO465.out))) (Kd.R_lt (by (with_reducible repeat (first | apply Kd.R_alloc | apply Kd.R_drewN | apply Kd.R_drew)); exact HO468.out))) (below_size (by repeat (first | (with_reducible first | exact HB.out | apply below_alloc | apply pw_below_drewN | apply below_drew1) | exact HB.out)))); have n3_ := Aside0.mk (below_step (by repeat (first | (with_reducible first | exact HB.out | apply below_alloc | apply pw_below_drewN | apply below_drew1) | exact HB.out)) hb); clear HO465; clear HO468; clear HB; have HO465 := n0_; have HO468 := n1_; have HO472 := n2_; have HB := n3_; clear n0_ n1_ n2_ n3_; (try clear hb); (try clear hb2); (try clear hk); (try clear hi); (try clear ho0)) | ((with_reducible refine gate_callee (f := 25) rfl ?_); refine goesL_ (some 25) rfl rfl Try.func25 (by kernel_rfl) rfl #[.slice Ao21 t463.length co21, .slice Ao22 t466.length co22] rfl (by (try simp only [List.map_toArray, List.map_cons, List.map_nil]); first | done | rfl | (simp only [List.length_drop, List.length_take]; rfl)) ?_; (with_reducible refine (arboristref01_Unite.calls k _ _ t463 _ _ t466 t473 _ ?side1 ?side2 ?side3 ?side4 A15.out).mono ?_); (case side1 => repeat (first | exact (Kd.R_reads' HO465.out).2.2 | (with_reducible refine Kd.C_alloc ?_ _) | (with_reducible refine Kd.C_drewN ?_ _) | (with_reducible refine Kd.C_drew ?_))); (case side2 => exact (Kd.R_reads' HO465.out).2.1); (case side3 => repeat (first | exact (Kd.R_reads' HO468.out).2.2 | (with_reducible refine Kd.C_alloc ?_ _) | (with_reducible refine Kd.C_drewN ?_ _) | (with_reducible refine Kd.C_drew ?_))); (case side4 => exact (Kd.R_reads' HO468.out).2.1); rintro e w24 ⟨v474, rfl, ho0, hb⟩; refine ⟨_, rfl, ?_⟩; have n0_ := Aside0.mk (Kd.R_elder' (by (with_reducible repeat (first | apply Kd.R_alloc | apply Kd.R_drewN | apply Kd.R_drew)); exact HO465.out) (Kd.R_base ho0) hb); have n1_ := Aside0.mk (Kd.R_elder' (by (with_reducible repeat (first | apply Kd.R_alloc | apply Kd.R_drewN | apply Kd.R_drew)); exact HO468.out) (Kd.R_base ho0) hb); have n2_ := Aside0.mk (Kd.R_elder' (by (with_reducible repeat (first | apply Kd.R_alloc | apply Kd.R_drewN | apply Kd.R_drew)); exact HO472.out) (Kd.R_base ho0) hb); have n3_ := Aside0.mk (Kd.R_lower (Kd.R_new' (Kd.R_new' (Kd.R_new' ho0 (Kd.R_lt (by (with_reducible repeat (first | apply Kd.R_alloc | apply Kd.R_drewN | apply Kd.R_drew)); exact HO465.out))) (Kd.R_lt (by (with_reducible repeat (first | apply Kd.R_alloc | apply Kd.R_drewN | apply Kd.R_drew)); exact HO468.out))) (Kd.R_lt (by (with_reducible repeat (first | apply Kd.R_alloc | apply Kd.R_drewN | apply Kd.R_drew)); exact HO472.out))) (below_size (by repeat (first | (with_reducible first | exact HB.out | apply below_alloc | apply pw_below_drewN | apply below_drew1) | exact HB.out)))); have n4_ := Aside0.mk (below_step (by repeat (first | (with_reducible first | exact HB.out | apply below_alloc | apply pw_below_drewN | apply below_drew1) | exact HB.out)) hb); clear HO465; clear HO468; clear HO472; clear HB; have HO465 := n0_; have HO468 := n1_; have HO472 := n2_; have HO475 := n3_; have HB := n4_; clear n0_ n1_ n2_ n3_ n4_; (try clear hb); (try clear hb2); (try clear hk); (try clear hi); (try clear ho0); obtain ⟨Ao25, co25, eo25⟩ := Kd.R_slice HO472.out; subst eo25; obtain ⟨Ao26, co26, eo26⟩ := Kd.R_slice HO475.out; subst eo26) | ((with_reducible refine gate_callee (f := 19) rfl ?_); refine goesL_ (some 26) rfl rfl Try.func19 (by kernel_rfl) rfl #[.slice Ao25 t470.length co25, .slice Ao26 t473.length co26] rfl (by (try simp only [List.map_toArray, List.map_cons, List.map_nil]); first | done | rfl | (simp only [List.length_drop, List.length_take]; rfl)) ?_; (with_reducible refine (arboristref01_Compare.calls k _ _ t470 _ _ t473 t476 _ ?side1 ?side2 ?side3 ?side4 A16.out).mono ?_); (case side1 => repeat (first | exact (Kd.R_reads' HO472.out).2.2 | (with_reducible refine Kd.C_alloc ?_ _) | (with_reducible refine Kd.C_drewN ?_ _) | (with_reducible refine Kd.C_drew ?_))); (case side2 => exact (Kd.R_reads' HO472.out).2.1); (case side3 => repeat (first | exact (Kd.R_reads' HO475.out).2.2 | (with_reducible refine Kd.C_alloc ?_ _) | (with_reducible refine Kd.C_drewN ?_ _) | (with_reducible refine Kd.C_drew ?_))); (case side4 => exact (Kd.R_reads' HO475.out).2.1); rintro e w' ⟨rfl, ⟨nd, rfl⟩⟩; refine ⟨_, rfl, ?_⟩) | (go_at_call 26; (with_reducible refine (tuple_Meet.calls _ _ t463 _ _ t466 t477 _ ?side1 ?side2 ?side3 ?side4 A18.out).mono ?_); (case side1 => repeat (first | exact (Kd.R_reads' HO465.out).2.2 | (with_reducible refine Kd.C_alloc ?_ _) | (with_reducible refine Kd.C_drewN ?_ _) | (with_reducible refine Kd.C_drew ?_))); (case side2 => exact (Kd.R_reads' HO465.out).2.1); (case side3 => repeat (first | exact (Kd.R_reads' HO468.out).2.2 | (with_reducible refine Kd.C_alloc ?_ _) | (with_reducible refine Kd.C_drewN ?_ _) | (with_reducible refine Kd.C_drew ?_))); (case side4 => exact (Kd.R_reads' HO468.out).2.1); rintro e w27 ⟨v478, rfl, ho0, hb⟩; have n0_ := Aside0.mk (Kd.R_elder' (by (with_reducible repeat (first | apply Kd.R_alloc | apply Kd.R_drewN | apply Kd.R_drew)); exact HO465.out) (Kd.R_base ho0) hb); have n1_ := Aside0.mk (Kd.R_elder' (by (with_reducible repeat (first | apply Kd.R_alloc | apply Kd.R_drewN | apply Kd.R_drew)); exact HO468.out) (Kd.R_base ho0) hb); have n2_ := Aside0.mk (Kd.R_elder' (by (with_reducible repeat (first | apply Kd.R_alloc | apply Kd.R_drewN | apply Kd.R_drew)); exact HO472.out) (Kd.R_base ho0) hb); have n3_ := Aside0.mk (Kd.R_elder' (by (with_reducible repeat (first | apply Kd.R_alloc | apply Kd.R_drewN | apply Kd.R_drew)); exact HO475.out) (Kd.R_base ho0) hb); have n4_ := Aside0.mk (Kd.R_lower (Kd.R_new' (Kd.R_new' (Kd.R_new' (Kd.R_new' ho0 (Kd.R_lt (by (with_reducible repeat (first | apply Kd.R_alloc | apply Kd.R_drewN | apply Kd.R_drew)); exact HO465.out))) (Kd.R_lt (by (with_reducible repeat (first | apply Kd.R_alloc | apply Kd.R_drewN | apply Kd.R_drew)); exact HO468.out))) (Kd.R_lt (by (with_reducible repeat (first | apply Kd.R_alloc | apply Kd.R_drewN | apply Kd.R_drew)); exact HO472.out))) (Kd.R_lt (by (with_reducible repeat (first | apply Kd.R_alloc | apply Kd.R_drewN | apply Kd.R_drew)); exact HO475.out))) (below_size (by repeat (first | (with_reducible first | exact HB.out | apply below_alloc | apply pw_below_drewN | apply below_drew1) | exact HB.out)))); have n5_ := Aside0.mk (below_step (by repeat (first | (with_reducible first | exact HB.out | apply below_alloc | apply pw_below_drewN | apply below_drew1) | exact HB.out)) hb); clear HO465; clear HO468; clear HO472; clear HO475; clear HB; have HO465 := n0_; have HO468 := n1_; have HO472 := n2_; have HO475 := n3_; have HO479 := n4_; have HB := n5_; clear n0_ n1_ n2_ n3_ n4_ n5_; (try clear hb); (try clear hb2); (try clear hk); (try clear hi); (try clear ho0)) | (go_at_call 27; (with_reducible refine (arboristref01_Meet.calls k _ _ t463 _ _ t466 t480 _ ?side1 ?side2 ?side3 ?side4 A19.out).mono ?_); (case side1 => repeat (first | exact (Kd.R_reads' HO465.out).2.2 | (with_reducible refine Kd.C_alloc ?_ _) | (with_reducible refine Kd.C_drewN ?_ _) | (with_reducible refine Kd.C_drew ?_))); (case side2 => exact (Kd.R_reads' HO465.out).2.1); (case side3 => repeat (first | exact (Kd.R_reads' HO468.out).2.2 | (with_reducible refine Kd.C_alloc ?_ _) | (with_reducible refine Kd.C_drewN ?_ _) | (with_reducible refine Kd.C_drew ?_))); (case side4 => exact (Kd.R_reads' HO468.out).2.1); rintro e w28 ⟨v481, rfl, ho0, hb⟩; have n0_ := Aside0.mk (Kd.R_elder' (by (with_reducible repeat (first | apply Kd.R_alloc | apply Kd.R_drewN | apply Kd.R_drew)); exact HO465.out) (Kd.R_base ho0) hb); have n1_ := Aside0.mk (Kd.R_elder' (by (with_reducible repeat (first | apply Kd.R_alloc | apply Kd.R_drewN | apply Kd.R_drew)); exact HO468.out) (Kd.R_base ho0) hb); have n2_ := Aside0.mk (Kd.R_elder' (by (with_reducible repeat (first | apply Kd.R_alloc | apply Kd.R_drewN | apply Kd.R_drew)); exact HO472.out) (Kd.R_base ho0) hb); have n3_ := Aside0.mk (Kd.R_elder' (by (with_reducible repeat (first | apply Kd.R_alloc | apply Kd.R_drewN | apply Kd.R_drew)); exact HO475.out) (Kd.R_base ho0) hb); have n4_ := Aside0.mk (Kd.R_elder' (by (with_reducible repeat (first | apply Kd.R_alloc | apply Kd.R_drewN | apply Kd.R_drew)); exact HO479.out) (Kd.R_base ho0) hb); have n5_ := Aside0.mk (Kd.R_lower (Kd.R_new' (Kd.R_new' (Kd.R_new' (Kd.R_new' (Kd.R_new' ho0 (Kd.R_lt (by (with_reducible repeat (first | apply Kd.R_alloc | apply Kd.R_drewN | apply Kd.R_drew)); exact HO465.out))) (Kd.R_lt (by (with_reducible repeat (first | apply Kd.R_alloc | apply Kd.R_drewN | apply Kd.R_drew)); exact HO468.out))) (Kd.R_lt (by (with_reducible repeat (first | apply Kd.R_alloc | apply Kd.R_drewN | apply Kd.R_drew)); exact HO472.out))) (Kd.R_lt (by (with_reducible repeat (first | apply Kd.R_alloc | apply Kd.R_drewN | apply Kd.R_drew)); exact HO475.out))) (Kd.R_lt (by (with_reducible repeat (first | apply Kd.R_alloc | apply Kd.R_drewN | apply Kd.R_drew)); exact HO479.out))) (below_size (by repeat (first | (with_reducible first | exact HB.out | apply below_alloc | apply pw_below_drewN | apply below_drew1) | exact HB.out)))); have n6_ := Aside0.mk (below_step (by repeat (first | (with_reducible first | exact HB.out | apply below_alloc | apply pw_below_drewN | apply below_drew1) | exact HB.out)) hb); clear HO465; clear HO468; clear HO472; clear HO475; clear HO479; clear HB; have HO465 := n0_; have HO468 := n1_; have HO472 := n2_; have HO475 := n3_; have HO479 := n4_; have HO482 := n5_; have HB := n6_; clear n0_ n1_ n2_ n3_ n4_ n5_ n6_; (try clear hb); (try clear hb2); (try clear hk); (try clear hi); (try clear ho0); obtain ⟨Ao29, co29, eo29⟩ := Kd.R_slice HO479.out; subst eo29; obtain ⟨Ao30, co30, eo30⟩ := Kd.R_slice HO482.out; subst eo30) | (go_at_call 19; (with_reducible refine (arboristref01_Compare.calls k _ _ t477 _ _ t480 t483 _ ?side1 ?side2 ?side3 ?side4 A20.out).mono ?_); (case side1 => repeat (first | exact (Kd.R_reads' HO479.out).2.2 | (with_reducible refine Kd.C_alloc ?_ _) | (with_reducible refine Kd.C_drewN ?_ _) | (with_reducible refine Kd.C_drew ?_))); (case side2 => exact (Kd.R_reads' HO479.out).2.1); (case side3 => repeat (first | exact (Kd.R_reads' HO482.out).2.2 | (with_reducible refine Kd.C_alloc ?_ _) | (with_reducible refine Kd.C_drewN ?_ _) | (with_reducible refine Kd.C_drew ?_))); (case side4 => exact (Kd.R_reads' HO482.out).2.1); rintro e w' ⟨rfl, ⟨nd, rfl⟩⟩))
          go_meet
          case rel => exact ⟨_, ((t483 == 0)), (by first | rfl | (simp; done) | (simp [*]; done)), H', ⟨by first | omega | exact Nat.le_refl _⟩, ⟨by (with_reducible repeat (first | apply Kd.R_alloc | apply Kd.R_drewN | apply Kd.R_drew)); exact Kd.R_mono HO465.out (fun _ hk => hk.1.1.1.1.2)⟩, ⟨by (with_reducible repeat (first | apply Kd.R_alloc | apply Kd.R_drewN | apply Kd.R_drew)); exact Kd.R_mono HO468.out (fun _ hk => hk.1.1.1.1.2)⟩, ⟨by repeat (first | (with_reducible first | exact HB.out | apply below_alloc | apply pw_below_drewN | apply below_drew1) | exact HB.out)⟩⟩
        · rw [if_neg c17] at H
          have c17b0 : (t476 == 0) = false := beq_eq_false_iff_ne.mpr c17
          have c17b1 : (t476 != 0) = true := bne_iff_ne.mpr c17
          (first | rw [c17b0] | (simp only [i64_w, i32_w]; rw [c17b0]) | skip)
          have H' := Aside0.mk H
          clear H
          obtain ⟨Ao31, co31, eo31⟩ := Kd.R_slice HO465.out
          subst eo31
          obtain ⟨Ao32, co32, eo32⟩ := Kd.R_slice HO468.out
          subst eo32
          go_wp2_with (first | ((with_reducible refine gate_callee (f := 24) rfl ?_); refine goesL_ (some 22) rfl rfl Try.func24 (by kernel_rfl) rfl #[.slice Ao31 t463.length co31, .slice Ao32 t466.length co32] rfl (by (try simp only [List.map_toArray, List.map_cons, List.map_nil]); first | done | rfl | (simp only [List.length_drop, List.length_take]; rfl)) ?_; (with_reducible refine (tuple_Unite.calls _ _ t463 _ _ t466 t470 _ ?side1 ?side2 ?side3 ?side4 A14.out).mono ?_); (case side1 => repeat (first | exact (Kd.R_reads' HO465.out).2.2 | (with_reducible refine Kd.C_alloc ?_ _) | (with_reducible refine Kd.C_drewN ?_ _) | (with_reducible refine Kd.C_drew ?_))); (case side2 => exact (Kd.R_reads' HO465.out).2.1); (case side3 => repeat (first | exact (Kd.R_reads' HO468.out).2.2 | (with_reducible refine Kd.C_alloc ?_ _) | (with_reducible refine Kd.C_drewN ?_ _) | (with_reducible refine Kd.C_drew ?_))); (case side4 => exact (Kd.R_reads' HO468.out).2.1); rintro e w33 ⟨v471, rfl, ho0, hb⟩; refine ⟨_, rfl, ?_⟩; have n0_ := Aside0.mk (Kd.R_elder' (by (with_reducible repeat (first | apply Kd.R_alloc | apply Kd.R_drewN | apply Kd.R_drew)); exact HO465.out) (Kd.R_base ho0) hb); have n1_ := Aside0.mk (Kd.R_elder' (by (with_reducible repeat (first | apply Kd.R_alloc | apply Kd.R_drewN | apply Kd.R_drew)); exact HO468.out) (Kd.R_base ho0) hb); have n2_ := Aside0.mk (Kd.R_lower (Kd.R_new' (Kd.R_new' ho0 (Kd.R_lt (by (with_reducible repeat (first | apply Kd.R_alloc | apply Kd.R_drewN | apply Kd.R_drew)); exact HO465.out))) (Kd.R_lt (by (with_reducible repeat (first | apply Kd.R_alloc | apply Kd.R_drewN | apply Kd.R_drew)); exact HO468.out))) (below_size (by repeat (first | (with_reducible first | exact HB.out | apply below_alloc | apply pw_below_drewN | apply below_drew1) | exact HB.out)))); have n3_ := Aside0.mk (below_step (by repeat (first | (with_reducible first | exact HB.out | apply below_alloc | apply pw_below_drewN | apply below_drew1) | exact HB.out)) hb); clear HO465; clear HO468; clear HB; have HO465 := n0_; have HO468 := n1_; have HO472 := n2_; have HB := n3_; clear n0_ n1_ n2_ n3_; (try clear hb); (try clear hb2); (try clear hk); (try clear hi); (try clear ho0)) | ((with_reducible refine gate_callee (f := 25) rfl ?_); refine goesL_ (some 25) rfl rfl Try.func25 (by kernel_rfl) rfl #[.slice Ao31 t463.length co31, .slice Ao32 t466.length co32] rfl (by (try simp only [List.map_toArray, List.map_cons, List.map_nil]); first | done | rfl | (simp only [List.length_drop, List.length_take]; rfl)) ?_; (with_reducible refine (arboristref01_Unite.calls k _ _ t463 _ _ t466 t473 _ ?side1 ?side2 ?side3 ?side4 A15.out).mono ?_); (case side1 => repeat (first | exact (Kd.R_reads' HO465.out).2.2 | (with_reducible refine Kd.C_alloc ?_ _) | (with_reducible refine Kd.C_drewN ?_ _) | (with_reducible refine Kd.C_drew ?_))); (case side2 => exact (Kd.R_reads' HO465.out).2.1); (case side3 => repeat (first | exact (Kd.R_reads' HO468.out).2.2 | (with_reducible refine Kd.C_alloc ?_ _) | (with_reducible refine Kd.C_drewN ?_ _) | (with_reducible refine Kd.C_drew ?_))); (case side4 => exact (Kd.R_reads' HO468.out).2.1); rintro e w34 ⟨v474, rfl, ho0, hb⟩; refine ⟨_, rfl, ?_⟩; have n0_ := Aside0.mk (Kd.R_elder' (by (with_reducible repeat (first | apply Kd.R_alloc | apply Kd.R_drewN | apply Kd.R_drew)); exact HO465.out) (Kd.R_base ho0) hb); have n1_ := Aside0.mk (Kd.R_elder' (by (with_reducible repeat (first | apply Kd.R_alloc | apply Kd.R_drewN | apply Kd.R_drew)); exact HO468.out) (Kd.R_base ho0) hb); have n2_ := Aside0.mk (Kd.R_elder' (by (with_reducible repeat (first | apply Kd.R_alloc | apply Kd.R_drewN | apply Kd.R_drew)); exact HO472.out) (Kd.R_base ho0) hb); have n3_ := Aside0.mk (Kd.R_lower (Kd.R_new' (Kd.R_new' (Kd.R_new' ho0 (Kd.R_lt (by (with_reducible repeat (first | apply Kd.R_alloc | apply Kd.R_drewN | apply Kd.R_drew)); exact HO465.out))) (Kd.R_lt (by (with_reducible repeat (first | apply Kd.R_alloc | apply Kd.R_drewN | apply Kd.R_drew)); exact HO468.out))) (Kd.R_lt (by (with_reducible repeat (first | apply Kd.R_alloc | apply Kd.R_drewN | apply Kd.R_drew)); exact HO472.out))) (below_size (by repeat (first | (with_reducible first | exact HB.out | apply below_alloc | apply pw_below_drewN | apply below_drew1) | exact HB.out)))); have n4_ := Aside0.mk (below_step (by repeat (first | (with_reducible first | exact HB.out | apply below_alloc | apply pw_below_drewN | apply below_drew1) | exact HB.out)) hb); clear HO465; clear HO468; clear HO472; clear HB; have HO465 := n0_; have HO468 := n1_; have HO472 := n2_; have HO475 := n3_; have HB := n4_; clear n0_ n1_ n2_ n3_ n4_; (try clear hb); (try clear hb2); (try clear hk); (try clear hi); (try clear ho0); obtain ⟨Ao35, co35, eo35⟩ := Kd.R_slice HO472.out; subst eo35; obtain ⟨Ao36, co36, eo36⟩ := Kd.R_slice HO475.out; subst eo36) | ((with_reducible refine gate_callee (f := 19) rfl ?_); refine goesL_ (some 26) rfl rfl Try.func19 (by kernel_rfl) rfl #[.slice Ao35 t470.length co35, .slice Ao36 t473.length co36] rfl (by (try simp only [List.map_toArray, List.map_cons, List.map_nil]); first | done | rfl | (simp only [List.length_drop, List.length_take]; rfl)) ?_; (with_reducible refine (arboristref01_Compare.calls k _ _ t470 _ _ t473 t476 _ ?side1 ?side2 ?side3 ?side4 A16.out).mono ?_); (case side1 => repeat (first | exact (Kd.R_reads' HO472.out).2.2 | (with_reducible refine Kd.C_alloc ?_ _) | (with_reducible refine Kd.C_drewN ?_ _) | (with_reducible refine Kd.C_drew ?_))); (case side2 => exact (Kd.R_reads' HO472.out).2.1); (case side3 => repeat (first | exact (Kd.R_reads' HO475.out).2.2 | (with_reducible refine Kd.C_alloc ?_ _) | (with_reducible refine Kd.C_drewN ?_ _) | (with_reducible refine Kd.C_drew ?_))); (case side4 => exact (Kd.R_reads' HO475.out).2.1); rintro e w' ⟨rfl, ⟨nd, rfl⟩⟩; refine ⟨_, rfl, ?_⟩))
          go_meet
          case rel => exact ⟨_, (false), (by first | rfl | (simp; done) | (simp [*]; done)), H', ⟨by first | omega | exact Nat.le_refl _⟩, ⟨by (with_reducible repeat (first | apply Kd.R_alloc | apply Kd.R_drewN | apply Kd.R_drew)); exact Kd.R_mono HO465.out (fun _ hk => hk.1.1.2)⟩, ⟨by (with_reducible repeat (first | apply Kd.R_alloc | apply Kd.R_drewN | apply Kd.R_drew)); exact Kd.R_mono HO468.out (fun _ hk => hk.1.1.2)⟩, ⟨by repeat (first | (with_reducible first | exact HB.out | apply below_alloc | apply pw_below_drewN | apply below_drew1) | exact HB.out)⟩⟩
      case rest =>
        clear HC9
        try clear c1
        try clear c2
        try clear p2
        try clear c7
        try clear c7b0
        try clear c7b1
        try clear c8
        try clear c8b0
        try clear c8b1
        try clear c9
        try clear c12
        try clear c17
        try clear c17b0
        try clear c17b1
        try clear c19
        try clear c23
        try clear c24
        try clear c25
        obtain ⟨kq, x8_8, rfl, HA, HJ8, HO_6, HO_7, HB⟩ := hcut
        cases kq with
        | zero => exact absurd HA.out (by simp [arboristlaw01_TupleSets.j0])
        | succ kj8 =>
          have H := HA.out
          clear HA
          simp only [arboristlaw01_TupleSets.j0] at H
          replace H := Option.bind_eq_some_iff.mp H
          obtain ⟨t484, A370, H⟩ := H
          replace H : ((arboristref01_Without.f kj8 t463 t466).bind fun t487 => ((arboristref01_Compare.f kj8 t484 t487).bind fun t490 => (if t490 = 0 then ((tuple_Within.f t463 t466).bind fun t491 => ((arboristref01_Within.f kj8 t463 t466).bind fun t492 => (if t462 = true then (if x8_8 = true then (if (t491 == t492) = true then ((tuple_Rising.f kj8 (l0.take ((ji6) : Int).toNat)).bind fun t493 => ((arboristref01_Rising.f kj8 (l0.take ((ji6) : Int).toNat)).bind fun t494 => (if (t493 == t494) = true then ((tuple_Rising.f kj8 t463).bind fun t495 => (some t495)) else (some false)))) else (some false)) else (some false)) else (some false)))) else (if t462 = true then (if x8_8 = true then (some false) else (some false)) else (some false))))) = some r := H
          have A37 := Aside0.mk A370
          clear A370
          replace H := Option.bind_eq_some_iff.mp H
          obtain ⟨t487, A380, H⟩ := H
          replace H : ((arboristref01_Compare.f kj8 t484 t487).bind fun t490 => (if t490 = 0 then ((tuple_Within.f t463 t466).bind fun t491 => ((arboristref01_Within.f kj8 t463 t466).bind fun t492 => (if t462 = true then (if x8_8 = true then (if (t491 == t492) = true then ((tuple_Rising.f kj8 (l0.take ((ji6) : Int).toNat)).bind fun t493 => ((arboristref01_Rising.f kj8 (l0.take ((ji6) : Int).toNat)).bind fun t494 => (if (t493 == t494) = true then ((tuple_Rising.f kj8 t463).bind fun t495 => (some t495)) else (some false)))) else (some false)) else (some false)) else (some false)))) else (if t462 = true then (if x8_8 = true then (some false) else (some false)) else (some false)))) = some r := H
          have A38 := Aside0.mk A380
          clear A380
          replace H := Option.bind_eq_some_iff.mp H
          obtain ⟨t490, A390, H⟩ := H
          replace H : (if t490 = 0 then ((tuple_Within.f t463 t466).bind fun t491 => ((arboristref01_Within.f kj8 t463 t466).bind fun t492 => (if t462 = true then (if x8_8 = true then (if (t491 == t492) = true then ((tuple_Rising.f kj8 (l0.take ((ji6) : Int).toNat)).bind fun t493 => ((arboristref01_Rising.f kj8 (l0.take ((ji6) : Int).toNat)).bind fun t494 => (if (t493 == t494) = true then ((tuple_Rising.f kj8 t463).bind fun t495 => (some t495)) else (some false)))) else (some false)) else (some false)) else (some false)))) else (if t462 = true then (if x8_8 = true then (some false) else (some false)) else (some false))) = some r := H
          have A39 := Aside0.mk A390
          clear A390
          by_cases c40 : t490 = 0
          · rw [if_pos c40] at H
            have c40b0 : (t490 == 0) = true := beq_iff_eq.mpr c40
            have c40b1 : (t490 != 0) = false := bne_eq_false_iff_eq.mpr c40
            clear c40
            replace H := Option.bind_eq_some_iff.mp H
            obtain ⟨t491, A410, H⟩ := H
            replace H : ((arboristref01_Within.f kj8 t463 t466).bind fun t492 => (if t462 = true then (if x8_8 = true then (if (t491 == t492) = true then ((tuple_Rising.f kj8 (l0.take ((ji6) : Int).toNat)).bind fun t493 => ((arboristref01_Rising.f kj8 (l0.take ((ji6) : Int).toNat)).bind fun t494 => (if (t493 == t494) = true then ((tuple_Rising.f kj8 t463).bind fun t495 => (some t495)) else (some false)))) else (some false)) else (some false)) else (some false))) = some r := H
            have A41 := Aside0.mk A410
            clear A410
            replace H := Option.bind_eq_some_iff.mp H
            obtain ⟨t492, A420, H⟩ := H
            replace H : (if t462 = true then (if x8_8 = true then (if (t491 == t492) = true then ((tuple_Rising.f kj8 (l0.take ((ji6) : Int).toNat)).bind fun t493 => ((arboristref01_Rising.f kj8 (l0.take ((ji6) : Int).toNat)).bind fun t494 => (if (t493 == t494) = true then ((tuple_Rising.f kj8 t463).bind fun t495 => (some t495)) else (some false)))) else (some false)) else (some false)) else (some false)) = some r := H
            have A42 := Aside0.mk A420
            clear A420
            by_cases c43 : t462 = true
            · subst c43
              have H1 : (if x8_8 = true then (if (t491 == t492) = true then ((tuple_Rising.f kj8 (l0.take ((ji6) : Int).toNat)).bind fun t493 => ((arboristref01_Rising.f kj8 (l0.take ((ji6) : Int).toNat)).bind fun t494 => (if (t493 == t494) = true then ((tuple_Rising.f kj8 t463).bind fun t495 => (some t495)) else (some false)))) else (some false)) else (some false)) = some r := by rw [if_pos rfl] at H; exact H
              clear H
              have H := H1
              clear H1
              by_cases c44 : x8_8 = true
              · subst c44
                have H1 : (if (t491 == t492) = true then ((tuple_Rising.f kj8 (l0.take ((ji6) : Int).toNat)).bind fun t493 => ((arboristref01_Rising.f kj8 (l0.take ((ji6) : Int).toNat)).bind fun t494 => (if (t493 == t494) = true then ((tuple_Rising.f kj8 t463).bind fun t495 => (some t495)) else (some false)))) else (some false)) = some r := by rw [if_pos rfl] at H; exact H
                clear H
                have H := H1
                clear H1
                by_cases c45 : (t491 == t492) = true
                · rw [if_pos c45] at H
                  have c45b0 : (t491 == t492) = true := c45
                  (try (have c45b1 : decide (t491 = t492) = true := by simpa using c45))
                  (try (have c45b2 : (t491 == t492) = true := by simpa using c45))
                  clear c45
                  replace H := Option.bind_eq_some_iff.mp H
                  obtain ⟨t493, A460, H⟩ := H
                  replace H : ((arboristref01_Rising.f kj8 (l0.take ((ji6) : Int).toNat)).bind fun t494 => (if (t493 == t494) = true then ((tuple_Rising.f kj8 t463).bind fun t495 => (some t495)) else (some false))) = some r := H
                  have A46 := Aside0.mk A460
                  clear A460
                  replace H := Option.bind_eq_some_iff.mp H
                  obtain ⟨t494, A470, H⟩ := H
                  replace H : (if (t493 == t494) = true then ((tuple_Rising.f kj8 t463).bind fun t495 => (some t495)) else (some false)) = some r := H
                  have A47 := Aside0.mk A470
                  clear A470
                  by_cases c48 : (t493 == t494) = true
                  · rw [if_pos c48] at H
                    have c48b0 : (t493 == t494) = true := c48
                    (try (have c48b1 : decide (t493 = t494) = true := by simpa using c48))
                    (try (have c48b2 : (t493 == t494) = true := by simpa using c48))
                    clear c48
                    replace H := Option.bind_eq_some_iff.mp H
                    obtain ⟨t495, A490, H⟩ := H
                    replace H : (some t495) = some r := H
                    have A49 := Aside0.mk A490
                    clear A490
                    obtain rfl := Option.some.inj H
                    obtain ⟨Ao50, co50, eo50⟩ := Kd.R_slice HO_6.out
                    subst eo50
                    obtain ⟨Ao51, co51, eo51⟩ := Kd.R_slice HO_7.out
                    subst eo51
                    go_wp2_with (first | ((with_reducible refine gate_callee (f := 28) rfl ?_); refine goesL_ (some 40) rfl rfl Try.func28 (by kernel_rfl) rfl #[.slice Ao50 t463.length co50, .slice Ao51 t466.length co51] rfl (by (try simp only [List.map_toArray, List.map_cons, List.map_nil]); first | done | rfl | (simp only [List.length_drop, List.length_take]; rfl)) ?_; (with_reducible refine (tuple_Without.calls _ _ t463 _ _ t466 t484 _ ?side1 ?side2 ?side3 ?side4 A37.out).mono ?_); (case side1 => repeat (first | exact (Kd.R_reads' HO_6.out).2.2 | (with_reducible refine Kd.C_alloc ?_ _) | (with_reducible refine Kd.C_drewN ?_ _) | (with_reducible refine Kd.C_drew ?_))); (case side2 => exact (Kd.R_reads' HO_6.out).2.1); (case side3 => repeat (first | exact (Kd.R_reads' HO_7.out).2.2 | (with_reducible refine Kd.C_alloc ?_ _) | (with_reducible refine Kd.C_drewN ?_ _) | (with_reducible refine Kd.C_drew ?_))); (case side4 => exact (Kd.R_reads' HO_7.out).2.1); rintro e w52 ⟨v485, rfl, ho0, hb⟩; refine ⟨_, rfl, ?_⟩; have n0_ := Aside0.mk (Kd.R_elder' (by (with_reducible repeat (first | apply Kd.R_alloc | apply Kd.R_drewN | apply Kd.R_drew)); exact HO_6.out) (Kd.R_base ho0) hb); have n1_ := Aside0.mk (Kd.R_elder' (by (with_reducible repeat (first | apply Kd.R_alloc | apply Kd.R_drewN | apply Kd.R_drew)); exact HO_7.out) (Kd.R_base ho0) hb); have n2_ := Aside0.mk (Kd.R_lower (Kd.R_new' (Kd.R_new' ho0 (Kd.R_lt (by (with_reducible repeat (first | apply Kd.R_alloc | apply Kd.R_drewN | apply Kd.R_drew)); exact HO_6.out))) (Kd.R_lt (by (with_reducible repeat (first | apply Kd.R_alloc | apply Kd.R_drewN | apply Kd.R_drew)); exact HO_7.out))) (below_size (by repeat (first | (with_reducible first | exact HB.out | apply below_alloc | apply pw_below_drewN | apply below_drew1) | exact HB.out)))); have n3_ := Aside0.mk (below_step (by repeat (first | (with_reducible first | exact HB.out | apply below_alloc | apply pw_below_drewN | apply below_drew1) | exact HB.out)) hb); clear HO_6; clear HO_7; clear HB; have HO_6 := n0_; have HO_7 := n1_; have HO486 := n2_; have HB := n3_; clear n0_ n1_ n2_ n3_; (try clear hb); (try clear hb2); (try clear hk); (try clear hi); (try clear ho0)) | ((with_reducible refine gate_callee (f := 29) rfl ?_); refine goesL_ (some 43) rfl rfl Try.func29 (by kernel_rfl) rfl #[.slice Ao50 t463.length co50, .slice Ao51 t466.length co51] rfl (by (try simp only [List.map_toArray, List.map_cons, List.map_nil]); first | done | rfl | (simp only [List.length_drop, List.length_take]; rfl)) ?_; (with_reducible refine (arboristref01_Without.calls kj8 _ _ t463 _ _ t466 t487 _ ?side1 ?side2 ?side3 ?side4 A38.out).mono ?_); (case side1 => repeat (first | exact (Kd.R_reads' HO_6.out).2.2 | (with_reducible refine Kd.C_alloc ?_ _) | (with_reducible refine Kd.C_drewN ?_ _) | (with_reducible refine Kd.C_drew ?_))); (case side2 => exact (Kd.R_reads' HO_6.out).2.1); (case side3 => repeat (first | exact (Kd.R_reads' HO_7.out).2.2 | (with_reducible refine Kd.C_alloc ?_ _) | (with_reducible refine Kd.C_drewN ?_ _) | (with_reducible refine Kd.C_drew ?_))); (case side4 => exact (Kd.R_reads' HO_7.out).2.1); rintro e w53 ⟨v488, rfl, ho0, hb⟩; refine ⟨_, rfl, ?_⟩; have n0_ := Aside0.mk (Kd.R_elder' (by (with_reducible repeat (first | apply Kd.R_alloc | apply Kd.R_drewN | apply Kd.R_drew)); exact HO_6.out) (Kd.R_base ho0) hb); have n1_ := Aside0.mk (Kd.R_elder' (by (with_reducible repeat (first | apply Kd.R_alloc | apply Kd.R_drewN | apply Kd.R_drew)); exact HO_7.out) (Kd.R_base ho0) hb); have n2_ := Aside0.mk (Kd.R_elder' (by (with_reducible repeat (first | apply Kd.R_alloc | apply Kd.R_drewN | apply Kd.R_drew)); exact HO486.out) (Kd.R_base ho0) hb); have n3_ := Aside0.mk (Kd.R_lower (Kd.R_new' (Kd.R_new' (Kd.R_new' ho0 (Kd.R_lt (by (with_reducible repeat (first | apply Kd.R_alloc | apply Kd.R_drewN | apply Kd.R_drew)); exact HO_6.out))) (Kd.R_lt (by (with_reducible repeat (first | apply Kd.R_alloc | apply Kd.R_drewN | apply Kd.R_drew)); exact HO_7.out))) (Kd.R_lt (by (with_reducible repeat (first | apply Kd.R_alloc | apply Kd.R_drewN | apply Kd.R_drew)); exact HO486.out))) (below_size (by repeat (first | (with_reducible first | exact HB.out | apply below_alloc | apply pw_below_drewN | apply below_drew1) | exact HB.out)))); have n4_ := Aside0.mk (below_step (by repeat (first | (with_reducible first | exact HB.out | apply below_alloc | apply pw_below_drewN | apply below_drew1) | exact HB.out)) hb); clear HO_6; clear HO_7; clear HO486; clear HB; have HO_6 := n0_; have HO_7 := n1_; have HO486 := n2_; have HO489 := n3_; have HB := n4_; clear n0_ n1_ n2_ n3_ n4_; (try clear hb); (try clear hb2); (try clear hk); (try clear hi); (try clear ho0); obtain ⟨Ao54, co54, eo54⟩ := Kd.R_slice HO486.out; subst eo54; obtain ⟨Ao55, co55, eo55⟩ := Kd.R_slice HO489.out; subst eo55) | ((with_reducible refine gate_callee (f := 19) rfl ?_); refine goesL_ (some 44) rfl rfl Try.func19 (by kernel_rfl) rfl #[.slice Ao54 t484.length co54, .slice Ao55 t487.length co55] rfl (by (try simp only [List.map_toArray, List.map_cons, List.map_nil]); first | done | rfl | (simp only [List.length_drop, List.length_take]; rfl)) ?_; (with_reducible refine (arboristref01_Compare.calls kj8 _ _ t484 _ _ t487 t490 _ ?side1 ?side2 ?side3 ?side4 A39.out).mono ?_); (case side1 => repeat (first | exact (Kd.R_reads' HO486.out).2.2 | (with_reducible refine Kd.C_alloc ?_ _) | (with_reducible refine Kd.C_drewN ?_ _) | (with_reducible refine Kd.C_drew ?_))); (case side2 => exact (Kd.R_reads' HO486.out).2.1); (case side3 => repeat (first | exact (Kd.R_reads' HO489.out).2.2 | (with_reducible refine Kd.C_alloc ?_ _) | (with_reducible refine Kd.C_drewN ?_ _) | (with_reducible refine Kd.C_drew ?_))); (case side4 => exact (Kd.R_reads' HO489.out).2.1); rintro e w' ⟨rfl, ⟨nd, rfl⟩⟩; refine ⟨_, rfl, ?_⟩) | (go_at_call 30; (with_reducible refine (tuple_Within.calls _ _ t463 _ _ t466 t491 _ ?side1 ?side2 ?side3 ?side4 A41.out).mono ?_); (case side1 => repeat (first | exact (Kd.R_reads' HO_6.out).2.2 | (with_reducible refine Kd.C_alloc ?_ _) | (with_reducible refine Kd.C_drewN ?_ _) | (with_reducible refine Kd.C_drew ?_))); (case side2 => exact (Kd.R_reads' HO_6.out).2.1); (case side3 => repeat (first | exact (Kd.R_reads' HO_7.out).2.2 | (with_reducible refine Kd.C_alloc ?_ _) | (with_reducible refine Kd.C_drewN ?_ _) | (with_reducible refine Kd.C_drew ?_))); (case side4 => exact (Kd.R_reads' HO_7.out).2.1); rintro e w56 ⟨rfl, hb⟩; have n0_ := Aside0.mk (Kd.R_below (by (with_reducible repeat (first | apply Kd.R_alloc | apply Kd.R_drewN | apply Kd.R_drew)); exact HO_6.out) hb); have n1_ := Aside0.mk (Kd.R_below (by (with_reducible repeat (first | apply Kd.R_alloc | apply Kd.R_drewN | apply Kd.R_drew)); exact HO_7.out) hb); have n2_ := Aside0.mk (Kd.R_below (by (with_reducible repeat (first | apply Kd.R_alloc | apply Kd.R_drewN | apply Kd.R_drew)); exact HO486.out) hb); have n3_ := Aside0.mk (Kd.R_below (by (with_reducible repeat (first | apply Kd.R_alloc | apply Kd.R_drewN | apply Kd.R_drew)); exact HO489.out) hb); have n4_ := Aside0.mk (below_step (by repeat (first | (with_reducible first | exact HB.out | apply below_alloc | apply pw_below_drewN | apply below_drew1) | exact HB.out)) hb); clear HO_6; clear HO_7; clear HO486; clear HO489; clear HB; have HO_6 := n0_; have HO_7 := n1_; have HO486 := n2_; have HO489 := n3_; have HB := n4_; clear n0_ n1_ n2_ n3_ n4_; (try clear hb); (try clear hb2); (try clear hk); (try clear hi)) | (go_at_call 31; (with_reducible refine (arboristref01_Within.calls kj8 _ _ t463 _ _ t466 t492 _ ?side1 ?side2 ?side3 ?side4 A42.out).mono ?_); (case side1 => repeat (first | exact (Kd.R_reads' HO_6.out).2.2 | (with_reducible refine Kd.C_alloc ?_ _) | (with_reducible refine Kd.C_drewN ?_ _) | (with_reducible refine Kd.C_drew ?_))); (case side2 => exact (Kd.R_reads' HO_6.out).2.1); (case side3 => repeat (first | exact (Kd.R_reads' HO_7.out).2.2 | (with_reducible refine Kd.C_alloc ?_ _) | (with_reducible refine Kd.C_drewN ?_ _) | (with_reducible refine Kd.C_drew ?_))); (case side4 => exact (Kd.R_reads' HO_7.out).2.1); rintro e w57 ⟨rfl, hb⟩; have n0_ := Aside0.mk (Kd.R_below (by (with_reducible repeat (first | apply Kd.R_alloc | apply Kd.R_drewN | apply Kd.R_drew)); exact HO_6.out) hb); have n1_ := Aside0.mk (Kd.R_below (by (with_reducible repeat (first | apply Kd.R_alloc | apply Kd.R_drewN | apply Kd.R_drew)); exact HO_7.out) hb); have n2_ := Aside0.mk (Kd.R_below (by (with_reducible repeat (first | apply Kd.R_alloc | apply Kd.R_drewN | apply Kd.R_drew)); exact HO486.out) hb); have n3_ := Aside0.mk (Kd.R_below (by (with_reducible repeat (first | apply Kd.R_alloc | apply Kd.R_drewN | apply Kd.R_drew)); exact HO489.out) hb); have n4_ := Aside0.mk (below_step (by repeat (first | (with_reducible first | exact HB.out | apply below_alloc | apply pw_below_drewN | apply below_drew1) | exact HB.out)) hb); clear HO_6; clear HO_7; clear HO486; clear HO489; clear HB; have HO_6 := n0_; have HO_7 := n1_; have HO486 := n2_; have HO489 := n3_; have HB := n4_; clear n0_ n1_ n2_ n3_ n4_; (try clear hb); (try clear hb2); (try clear hk); (try clear hi)) | (go_at_call 32; (first | (with_reducible refine (tuple_Rising.calls kj8 _ _ (l0.take ((ji6) : Int).toNat) t493 _ ?side1 ?side2 A46.out).mono ?_) | (have e0_ : (l0.take ((ji6) : Int).toNat).length = ((ji6) : Int).toNat := (by rw [List.length_take]; have q_ : (ji6) ≤ (l0.length : Int) := (by rw [← hji6]; unfold mn; (repeat' split) <;> omega); omega); (with_reducible refine calls_at ((tuple_Rising.calls kj8 _ _ (l0.take ((ji6) : Int).toNat) t493 _ ?side1 ?side2 A46.out).mono ?_) (by (try simp only [e0_]); first | done | rfl)); clear e0_)); (case side1 => repeat (first | exact (Kd.C_below HR469.out HB.out) | (with_reducible refine Kd.C_alloc ?_ _) | (with_reducible refine Kd.C_drewN ?_ _) | (with_reducible refine Kd.C_drew ?_))); (case side2 => exact HC469.out); rintro e w' ⟨rfl, ⟨nd, rfl⟩⟩) | (go_at_call 33; (first | (with_reducible refine (arboristref01_Rising.calls kj8 _ _ (l0.take ((ji6) : Int).toNat) t494 _ ?side1 ?side2 A47.out).mono ?_) | (have e0_ : (l0.take ((ji6) : Int).toNat).length = ((ji6) : Int).toNat := (by rw [List.length_take]; have q_ : (ji6) ≤ (l0.length : Int) := (by rw [← hji6]; unfold mn; (repeat' split) <;> omega); omega); (with_reducible refine calls_at ((arboristref01_Rising.calls kj8 _ _ (l0.take ((ji6) : Int).toNat) t494 _ ?side1 ?side2 A47.out).mono ?_) (by (try simp only [e0_]); first | done | rfl)); clear e0_)); (case side1 => repeat (first | exact (Kd.C_below HR469.out (by repeat (first | (with_reducible first | exact HB.out | apply below_alloc | apply pw_below_drewN | apply below_drew1) | exact HB.out))) | (with_reducible refine Kd.C_alloc ?_ _) | (with_reducible refine Kd.C_drewN ?_ _) | (with_reducible refine Kd.C_drew ?_))); (case side2 => exact HC469.out); rintro e w' ⟨rfl, ⟨nd, rfl⟩⟩) | (go_at_call 32; (with_reducible refine (tuple_Rising.calls kj8 _ _ t463 t495 _ ?side1 ?side2 A49.out).mono ?_); (case side1 => repeat (first | exact (Kd.R_reads' HO_6.out).2.2 | (with_reducible refine Kd.C_alloc ?_ _) | (with_reducible refine Kd.C_drewN ?_ _) | (with_reducible refine Kd.C_drew ?_))); (case side2 => exact (Kd.R_reads' HO_6.out).2.1); rintro e w' ⟨rfl, ⟨nd, rfl⟩⟩))
                    go_ret
                    exact ⟨by first | rfl | (simp [errW_none, errW_some] <;> rfl) | (simp only [← hji6]; first | rfl | (simp [errW_none, errW_some] <;> rfl)) | (simp [*, errW_none, errW_some] <;> rfl), by repeat (first | (with_reducible first | exact HB.out | apply below_alloc | apply pw_below_drewN | apply below_drew1) | exact HB.out)⟩
                  · rw [if_neg c48] at H
                    have c48b0 : (t493 == t494) = false := by simpa using c48
                    (try (have c48b1 : decide (t493 = t494) = false := by simpa using c48))
                    (try (have c48b2 : (t493 == t494) = false := by simpa using c48))
                    (try (have c48b3 : ¬ (t493 = t494) := by simpa using c48))
                    clear c48
                    exact absurd ((Option.some.inj H).trans HT_.out) (by decide)
                · rw [if_neg c45] at H
                  have c45b0 : (t491 == t492) = false := by simpa using c45
                  (try (have c45b1 : decide (t491 = t492) = false := by simpa using c45))
                  (try (have c45b2 : (t491 == t492) = false := by simpa using c45))
                  (try (have c45b3 : ¬ (t491 = t492) := by simpa using c45))
                  clear c45
                  exact absurd ((Option.some.inj H).trans HT_.out) (by decide)
              · replace c44 := Bool.eq_false_iff.mpr c44
                subst c44
                have H1 : (some false) = some r := by rw [if_neg (show ¬ (false = true) by decide)] at H; exact H
                clear H
                have H := H1
                clear H1
                exact absurd ((Option.some.inj H).trans HT_.out) (by decide)
            · replace c43 := Bool.eq_false_iff.mpr c43
              subst c43
              have H1 : (some false) = some r := by rw [if_neg (show ¬ (false = true) by decide)] at H; exact H
              clear H
              have H := H1
              clear H1
              exact absurd ((Option.some.inj H).trans HT_.out) (by decide)
          · rw [if_neg c40] at H
            have c40b0 : (t490 == 0) = false := beq_eq_false_iff_ne.mpr c40
            have c40b1 : (t490 != 0) = true := bne_iff_ne.mpr c40
            by_cases c58 : t462 = true
            · subst c58
              have H1 : (if x8_8 = true then (some false) else (some false)) = some r := by rw [if_pos rfl] at H; exact H
              clear H
              have H := H1
              clear H1
              by_cases c59 : x8_8 = true
              · subst c59
                have H1 : (some false) = some r := by rw [if_pos rfl] at H; exact H
                clear H
                have H := H1
                clear H1
                exact absurd ((Option.some.inj H).trans HT_.out) (by decide)
              · replace c59 := Bool.eq_false_iff.mpr c59
                subst c59
                have H1 : (some false) = some r := by rw [if_neg (show ¬ (false = true) by decide)] at H; exact H
                clear H
                have H := H1
                clear H1
                exact absurd ((Option.some.inj H).trans HT_.out) (by decide)
            · replace c58 := Bool.eq_false_iff.mpr c58
              subst c58
              have H1 : (some false) = some r := by rw [if_neg (show ¬ (false = true) by decide)] at H; exact H
              clear H
              have H := H1
              clear H1
              exact absurd ((Option.some.inj H).trans HT_.out) (by decide)
    · rw [if_neg c8] at H
      exact absurd H (by simp)
  · rw [if_neg c7] at H
    exact absurd H (by simp)

/-- THE ONE PURE STATEMENT of arboristlaw01_TupleSets: yours. -/
def arboristlaw01_TupleSets.Pure : Prop := ∀ (l0 : List Int) (l1 : List Int), l0.length ≤ maxLen → l0.length * 8 ≤ 140737488351232 → (∀ x ∈ l0, (Lit.int .i64 x).wf = true) → l1.length ≤ maxLen → l1.length * 8 ≤ 140737488351232 → (∀ x ∈ l1, (Lit.int .i64 x).wf = true) → ∃ k, arboristlaw01_TupleSets.f k l0 l1 = some true
theorem arboristlaw01_TupleSets.walk (P : arboristlaw01_TupleSets.Pure) (a0 : Option Addr) (len0 cap0 : Nat) (z0 : List Int) (a1 : Option Addr) (len1 cap1 : Nat) (z1 : List Int) (w : World) (w0 : (a0 = none ∧ len0 = 0 ∧ cap0 = 0 ∧ z0 = []) ∨ ∃ x, a0 = some x ∧ len0 ≤ cap0 ∧ cap0 ≤ maxLen ∧ z0.length = cap0 ∧ (∀ i, i < z0.length → w.cell? (x.add i) = some (.int .i64 (z0.getD i 0))) ∧ ∀ n ∈ z0, (Lit.int .i64 n).wf = true) (y0 : len0 * 8 ≤ 140737488351232) (w1 : (a1 = none ∧ len1 = 0 ∧ cap1 = 0 ∧ z1 = []) ∨ ∃ x, a1 = some x ∧ len1 ≤ cap1 ∧ cap1 ≤ maxLen ∧ z1.length = cap1 ∧ (∀ i, i < z1.length → w.cell? (x.add i) = some (.int .i64 (z1.getD i 0))) ∧ ∀ n ∈ z1, (Lit.int .i64 n).wf = true) (y1 : len1 * 8 ≤ 140737488351232) :
    Calls Try.prog 9 #[.slice a0 len0 cap0, .slice a1 len1 cap1] w fun e w' => e = .returned (.bool true) ∧ Below w.heap.size w w' := by
  obtain ⟨l0, rfl, hr0, hm0, hw0, hc0⟩ := ReadsInt.ofRowC w0
  obtain ⟨l1, rfl, hr1, hm1, hw1, hc1⟩ := ReadsInt.ofRowC w1
  obtain ⟨k, h⟩ := P l0 l1 hm0 y0 hw0 hm1 y1 hw1
  refine (arboristlaw01_TupleSets.calls k _ _ l0 _ _ l1 true w (Kd.C_of_reads (d := (0 : Int)) (h1 := fun _ => rfl) hr0) hc0 (Kd.C_of_reads (d := (0 : Int)) (h1 := fun _ => rfl) hr1) hc1 rfl h).mono ?_
  rintro e w' ⟨rfl, hd⟩
  exact ⟨rfl, hd⟩

end Go.Proofs.Ytlnmgljiggebiaa.Pr
