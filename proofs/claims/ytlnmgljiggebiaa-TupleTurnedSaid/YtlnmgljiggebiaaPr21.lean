-- Printed by a program of this session's own (wip/tools/pp.py) over the kit's print.py; Lean checks it.
import Derived.Test.YtlnmgljiggebiaaPr0
import Derived.Test.YtlnmgljiggebiaaPr1
import Derived.Test.YtlnmgljiggebiaaPr13
namespace Go.Proofs.Ytlnmgljiggebiaa.Pr
open Go.RowKit Go.Proofs.YtlnmgljiggebiaaW.PrintWords Go.Proofs.YtlnmgljiggebiaaW.PrintLast Go.Proofs.YtlnmgljiggebiaaW.PrintMore
attribute [local go_sem] max2_int min2_int max_two min_two max_three min_three max_four min_four   -- for this text's walks alone
set_option linter.unusedVariables false
set_option linter.unusedSimpArgs false

/-! ### arboristlaw01_TupleTurned: function 6 -/
def arboristlaw01_TupleTurned.j0 : Nat → List Int → List Int → Bool → Int → Bool → Option (Bool)
  | 0, _, _, _, _, _ => none
  | k + 1, x0, x1, x7, x8, x43 => if x43 = true then (some false) else (if x7 = true then ((tuple_Compare.f k x1 x0).bind fun t339 => (if x8 = (wrap64 (-t339)) then ((tuple_Compare.f k x0 x0).bind fun t340 => (some (t340 == 0))) else (some false))) else (some false))
def arboristlaw01_TupleTurned.f (k : Nat) (l0 : List Int) (l1 : List Int) (l2 : List Int) : Option (Bool) := (arboristlaw01_shown.f k).bind fun t332 => (if 0 ≤ (mn (l0.length : Int) 60) then (if (mn (l0.length : Int) 60) ≤ (l0.length : Int) then (if 0 ≤ (mn (l1.length : Int) 60) then (if (mn (l1.length : Int) 60) ≤ (l1.length : Int) then (if 0 ≤ (mn (l2.length : Int) 60) then (if (mn (l2.length : Int) 60) ≤ (l2.length : Int) then ((tuple_Compare.f k (l0.take ((mn (l0.length : Int) 60) : Int).toNat) (l1.take ((mn (l1.length : Int) 60) : Int).toNat)).bind fun t336 => ((tuple_Compare.f k (l1.take ((mn (l1.length : Int) 60) : Int).toNat) (l2.take ((mn (l2.length : Int) 60) : Int).toNat)).bind fun t337 => (if t336 < 0 then (if t337 < 0 then ((tuple_Compare.f k (l0.take ((mn (l0.length : Int) 60) : Int).toNat) (l2.take ((mn (l2.length : Int) 60) : Int).toNat)).bind fun t338 => (arboristlaw01_TupleTurned.j0 k (l0.take ((mn (l0.length : Int) 60) : Int).toNat) (l1.take ((mn (l1.length : Int) 60) : Int).toNat) t332 t336 (decide (t338 ≥ 0)))) else (arboristlaw01_TupleTurned.j0 k (l0.take ((mn (l0.length : Int) 60) : Int).toNat) (l1.take ((mn (l1.length : Int) 60) : Int).toNat) t332 t336 false)) else (arboristlaw01_TupleTurned.j0 k (l0.take ((mn (l0.length : Int) 60) : Int).toNat) (l1.take ((mn (l1.length : Int) 60) : Int).toNat) t332 t336 false)))) else (none)) else (none)) else (none)) else (none)) else (none)) else (none))
theorem arboristlaw01_TupleTurned.mono_l : ∀ k, (∀ y0 y1 y2 y3 y4, LeO (arboristlaw01_TupleTurned.j0 k y0 y1 y2 y3 y4) (arboristlaw01_TupleTurned.j0 (k + 1) y0 y1 y2 y3 y4))
  | 0 => fun _ _ _ _ _ r h => by simp [arboristlaw01_TupleTurned.j0] at h
  | k + 1 => by
    have ih0 := arboristlaw01_TupleTurned.mono_l k
    all_goals intros
    all_goals (first | unfold arboristlaw01_TupleTurned.j0)
    all_goals repeat' first
    | (with_reducible exact ih0 _ _ _ _ _)
    | (with_reducible exact arboristlaw01_shown.mono _)
    | (with_reducible exact tuple_Compare.mono _ _ _)
    | (with_reducible exact LeO.refl _)
    | (with_reducible exact LeO.none _)
    | (with_reducible refine LeO.ite ?_ ?_)
    | (with_reducible refine LeO.bind ?_ (fun _ => ?_))
    | exact ih0 _ _ _ _ _
    | exact arboristlaw01_shown.mono _
    | exact tuple_Compare.mono _ _ _
    | exact LeO.none _
    | refine LeO.ite ?_ ?_
    | refine LeO.bind ?_ (fun _ => ?_)
theorem arboristlaw01_TupleTurned.mono : ∀ a0 a1 a2 k, LeO (arboristlaw01_TupleTurned.f k a0 a1 a2) (arboristlaw01_TupleTurned.f (k + 1) a0 a1 a2) := by
  intro a0 a1 a2 k
  have ih0 := arboristlaw01_TupleTurned.mono_l k
  unfold arboristlaw01_TupleTurned.f
  repeat' first
      | (with_reducible exact ih0 _ _ _ _ _)
      | (with_reducible exact arboristlaw01_shown.mono _)
      | (with_reducible exact tuple_Compare.mono _ _ _)
      | (with_reducible exact LeO.refl _)
      | (with_reducible exact LeO.none _)
      | (with_reducible refine LeO.ite ?_ ?_)
      | (with_reducible refine LeO.bind ?_ (fun _ => ?_))
      | exact ih0 _ _ _ _ _
      | exact arboristlaw01_shown.mono _
      | exact tuple_Compare.mono _ _ _
      | exact LeO.none _
      | refine LeO.ite ?_ ?_
      | refine LeO.bind ?_ (fun _ => ?_)
set_option maxHeartbeats 8000000 in
set_option maxRecDepth 100000 in
theorem arboristlaw01_TupleTurned.calls (k : Nat) (A0 : Option Addr) (c0 : Nat) (l0 : List Int) (A1 : Option Addr) (c1 : Nat) (l1 : List Int) (A2 : Option Addr) (c2 : Nat) (l2 : List Int) (r : Bool) (w : World) (hr0 : Kd.C (Kd.int .i64) w A0 l0.length l0) (hc0 : l0.length ≤ c0) (hr1 : Kd.C (Kd.int .i64) w A1 l1.length l1) (hc1 : l1.length ≤ c1) (hr2 : Kd.C (Kd.int .i64) w A2 l2.length l2) (hc2 : l2.length ≤ c2) (hT : r = true) (h : arboristlaw01_TupleTurned.f k l0 l1 l2 = some r) :
    Calls Try.prog 6 #[.slice A0 l0.length c0, .slice A1 l1.length c1, .slice A2 l2.length c2] w fun e w' => e = .returned (.bool r) ∧ Below w.heap.size w w' := by
  have HT_ := Aside0.mk (show r = true from hT)
  clear hT
  have HR0 := Aside0.mk hr0
  have HC0 := Aside0.mk hc0
  clear hr0 hc0
  have HR1 := Aside0.mk hr1
  have HC1 := Aside0.mk hc1
  clear hr1 hc1
  have HR2 := Aside0.mk hr2
  have HC2 := Aside0.mk hc2
  clear hr2 hc2
  have HB := Aside0.mk (Below.refl w.heap.size w)
  have H : ((arboristlaw01_shown.f k).bind fun t332 => (if 0 ≤ (mn (l0.length : Int) 60) then (if (mn (l0.length : Int) 60) ≤ (l0.length : Int) then (if 0 ≤ (mn (l1.length : Int) 60) then (if (mn (l1.length : Int) 60) ≤ (l1.length : Int) then (if 0 ≤ (mn (l2.length : Int) 60) then (if (mn (l2.length : Int) 60) ≤ (l2.length : Int) then ((tuple_Compare.f k (l0.take ((mn (l0.length : Int) 60) : Int).toNat) (l1.take ((mn (l1.length : Int) 60) : Int).toNat)).bind fun t336 => ((tuple_Compare.f k (l1.take ((mn (l1.length : Int) 60) : Int).toNat) (l2.take ((mn (l2.length : Int) 60) : Int).toNat)).bind fun t337 => (if t336 < 0 then (if t337 < 0 then ((tuple_Compare.f k (l0.take ((mn (l0.length : Int) 60) : Int).toNat) (l2.take ((mn (l2.length : Int) 60) : Int).toNat)).bind fun t338 => (arboristlaw01_TupleTurned.j0 k (l0.take ((mn (l0.length : Int) 60) : Int).toNat) (l1.take ((mn (l1.length : Int) 60) : Int).toNat) t332 t336 (decide (t338 ≥ 0)))) else (arboristlaw01_TupleTurned.j0 k (l0.take ((mn (l0.length : Int) 60) : Int).toNat) (l1.take ((mn (l1.length : Int) 60) : Int).toNat) t332 t336 false)) else (arboristlaw01_TupleTurned.j0 k (l0.take ((mn (l0.length : Int) 60) : Int).toNat) (l1.take ((mn (l1.length : Int) 60) : Int).toNat) t332 t336 false)))) else (none)) else (none)) else (none)) else (none)) else (none)) else (none))) = some r := h
  clear h
  replace H := Option.bind_eq_some_iff.mp H
  obtain ⟨t332, A40, H⟩ := H
  replace H : (if 0 ≤ (mn (l0.length : Int) 60) then (if (mn (l0.length : Int) 60) ≤ (l0.length : Int) then (if 0 ≤ (mn (l1.length : Int) 60) then (if (mn (l1.length : Int) 60) ≤ (l1.length : Int) then (if 0 ≤ (mn (l2.length : Int) 60) then (if (mn (l2.length : Int) 60) ≤ (l2.length : Int) then ((tuple_Compare.f k (l0.take ((mn (l0.length : Int) 60) : Int).toNat) (l1.take ((mn (l1.length : Int) 60) : Int).toNat)).bind fun t336 => ((tuple_Compare.f k (l1.take ((mn (l1.length : Int) 60) : Int).toNat) (l2.take ((mn (l2.length : Int) 60) : Int).toNat)).bind fun t337 => (if t336 < 0 then (if t337 < 0 then ((tuple_Compare.f k (l0.take ((mn (l0.length : Int) 60) : Int).toNat) (l2.take ((mn (l2.length : Int) 60) : Int).toNat)).bind fun t338 => (arboristlaw01_TupleTurned.j0 k (l0.take ((mn (l0.length : Int) 60) : Int).toNat) (l1.take ((mn (l1.length : Int) 60) : Int).toNat) t332 t336 (decide (t338 ≥ 0)))) else (arboristlaw01_TupleTurned.j0 k (l0.take ((mn (l0.length : Int) 60) : Int).toNat) (l1.take ((mn (l1.length : Int) 60) : Int).toNat) t332 t336 false)) else (arboristlaw01_TupleTurned.j0 k (l0.take ((mn (l0.length : Int) 60) : Int).toNat) (l1.take ((mn (l1.length : Int) 60) : Int).toNat) t332 t336 false)))) else (none)) else (none)) else (none)) else (none)) else (none)) else (none)) = some r := H
  have A4 := Aside0.mk A40
  clear A40
  obtain ⟨ji5, hji5⟩ : ∃ j_ : Int, (mn (l0.length : Int) 60) = j_ := ⟨_, rfl⟩
  replace H : (if 0 ≤ (ji5) then (if (ji5) ≤ (l0.length : Int) then (if 0 ≤ (mn (l1.length : Int) 60) then (if (mn (l1.length : Int) 60) ≤ (l1.length : Int) then (if 0 ≤ (mn (l2.length : Int) 60) then (if (mn (l2.length : Int) 60) ≤ (l2.length : Int) then ((tuple_Compare.f k (l0.take ((ji5) : Int).toNat) (l1.take ((mn (l1.length : Int) 60) : Int).toNat)).bind fun t336 => ((tuple_Compare.f k (l1.take ((mn (l1.length : Int) 60) : Int).toNat) (l2.take ((mn (l2.length : Int) 60) : Int).toNat)).bind fun t337 => (if t336 < 0 then (if t337 < 0 then ((tuple_Compare.f k (l0.take ((ji5) : Int).toNat) (l2.take ((mn (l2.length : Int) 60) : Int).toNat)).bind fun t338 => (arboristlaw01_TupleTurned.j0 k (l0.take ((ji5) : Int).toNat) (l1.take ((mn (l1.length : Int) 60) : Int).toNat) t332 t336 (decide (t338 ≥ 0)))) else (arboristlaw01_TupleTurned.j0 k (l0.take ((ji5) : Int).toNat) (l1.take ((mn (l1.length : Int) 60) : Int).toNat) t332 t336 false)) else (arboristlaw01_TupleTurned.j0 k (l0.take ((ji5) : Int).toNat) (l1.take ((mn (l1.length : Int) 60) : Int).toNat) t332 t336 false)))) else (none)) else (none)) else (none)) else (none)) else (none)) else (none)) = some r := by first | (rw [hji5] at H; exact H) | (simp only [hji5] at H ⊢; exact H)
  (try rw [hji5] at A4)
  (try (have hji5h : ji5 ≤ 60 := by (rw [← hji5]; unfold mn; (repeat' split) <;> omega)))
  (try (have hji5g : ji5 ≤ 64 := by omega))
  (try (have hji5l : 0 ≤ ji5 := by (rw [← hji5]; unfold mn; (repeat' split) <;> omega)))
  (try (have hji5m : 0 ≤ ji5 := by omega))
  have hji5_ : (if 60 < (l0.length : Int) then 60 else (l0.length : Int)) = ji5 := hji5
  by_cases c6 : 0 ≤ (ji5)
  · rw [if_pos c6] at H
    have c6b0 := eq_true c6
    have c6b1 : decide (0 ≤ (ji5)) = true := decide_eq_true c6
    clear c6
    by_cases c7 : (ji5) ≤ (l0.length : Int)
    · rw [if_pos c7] at H
      have c7b0 := eq_true c7
      have c7b1 : decide ((ji5) ≤ (l0.length : Int)) = true := decide_eq_true c7
      clear c7
      obtain ⟨ji8, hji8⟩ : ∃ j_ : Int, (mn (l1.length : Int) 60) = j_ := ⟨_, rfl⟩
      replace H : (if 0 ≤ (ji8) then (if (ji8) ≤ (l1.length : Int) then (if 0 ≤ (mn (l2.length : Int) 60) then (if (mn (l2.length : Int) 60) ≤ (l2.length : Int) then ((tuple_Compare.f k (l0.take ((ji5) : Int).toNat) (l1.take ((ji8) : Int).toNat)).bind fun t336 => ((tuple_Compare.f k (l1.take ((ji8) : Int).toNat) (l2.take ((mn (l2.length : Int) 60) : Int).toNat)).bind fun t337 => (if t336 < 0 then (if t337 < 0 then ((tuple_Compare.f k (l0.take ((ji5) : Int).toNat) (l2.take ((mn (l2.length : Int) 60) : Int).toNat)).bind fun t338 => (arboristlaw01_TupleTurned.j0 k (l0.take ((ji5) : Int).toNat) (l1.take ((ji8) : Int).toNat) t332 t336 (decide (t338 ≥ 0)))) else (arboristlaw01_TupleTurned.j0 k (l0.take ((ji5) : Int).toNat) (l1.take ((ji8) : Int).toNat) t332 t336 false)) else (arboristlaw01_TupleTurned.j0 k (l0.take ((ji5) : Int).toNat) (l1.take ((ji8) : Int).toNat) t332 t336 false)))) else (none)) else (none)) else (none)) else (none)) = some r := by first | (rw [hji8] at H; exact H) | (simp only [hji8] at H ⊢; exact H)
      (try rw [hji8] at A4)
      (try (have hji8h : ji8 ≤ 60 := by (rw [← hji8]; unfold mn; (repeat' split) <;> omega)))
      (try (have hji8g : ji8 ≤ 64 := by omega))
      (try (have hji8l : 0 ≤ ji8 := by (rw [← hji8]; unfold mn; (repeat' split) <;> omega)))
      (try (have hji8m : 0 ≤ ji8 := by omega))
      have hji8_ : (if 60 < (l1.length : Int) then 60 else (l1.length : Int)) = ji8 := hji8
      by_cases c9 : 0 ≤ (ji8)
      · rw [if_pos c9] at H
        have c9b0 := eq_true c9
        have c9b1 : decide (0 ≤ (ji8)) = true := decide_eq_true c9
        clear c9
        by_cases c10 : (ji8) ≤ (l1.length : Int)
        · rw [if_pos c10] at H
          have c10b0 := eq_true c10
          have c10b1 : decide ((ji8) ≤ (l1.length : Int)) = true := decide_eq_true c10
          clear c10
          obtain ⟨ji11, hji11⟩ : ∃ j_ : Int, (mn (l2.length : Int) 60) = j_ := ⟨_, rfl⟩
          replace H : (if 0 ≤ (ji11) then (if (ji11) ≤ (l2.length : Int) then ((tuple_Compare.f k (l0.take ((ji5) : Int).toNat) (l1.take ((ji8) : Int).toNat)).bind fun t336 => ((tuple_Compare.f k (l1.take ((ji8) : Int).toNat) (l2.take ((ji11) : Int).toNat)).bind fun t337 => (if t336 < 0 then (if t337 < 0 then ((tuple_Compare.f k (l0.take ((ji5) : Int).toNat) (l2.take ((ji11) : Int).toNat)).bind fun t338 => (arboristlaw01_TupleTurned.j0 k (l0.take ((ji5) : Int).toNat) (l1.take ((ji8) : Int).toNat) t332 t336 (decide (t338 ≥ 0)))) else (arboristlaw01_TupleTurned.j0 k (l0.take ((ji5) : Int).toNat) (l1.take ((ji8) : Int).toNat) t332 t336 false)) else (arboristlaw01_TupleTurned.j0 k (l0.take ((ji5) : Int).toNat) (l1.take ((ji8) : Int).toNat) t332 t336 false)))) else (none)) else (none)) = some r := by first | (rw [hji11] at H; exact H) | (simp only [hji11] at H ⊢; exact H)
          (try rw [hji11] at A4)
          (try (have hji11h : ji11 ≤ 60 := by (rw [← hji11]; unfold mn; (repeat' split) <;> omega)))
          (try (have hji11g : ji11 ≤ 64 := by omega))
          (try (have hji11l : 0 ≤ ji11 := by (rw [← hji11]; unfold mn; (repeat' split) <;> omega)))
          (try (have hji11m : 0 ≤ ji11 := by omega))
          have hji11_ : (if 60 < (l2.length : Int) then 60 else (l2.length : Int)) = ji11 := hji11
          by_cases c12 : 0 ≤ (ji11)
          · rw [if_pos c12] at H
            have c12b0 := eq_true c12
            have c12b1 : decide (0 ≤ (ji11)) = true := decide_eq_true c12
            clear c12
            by_cases c13 : (ji11) ≤ (l2.length : Int)
            · rw [if_pos c13] at H
              have c13b0 := eq_true c13
              have c13b1 : decide ((ji11) ≤ (l2.length : Int)) = true := decide_eq_true c13
              clear c13
              replace H := Option.bind_eq_some_iff.mp H
              obtain ⟨t336, A140, H⟩ := H
              replace H : ((tuple_Compare.f k (l1.take ((ji8) : Int).toNat) (l2.take ((ji11) : Int).toNat)).bind fun t337 => (if t336 < 0 then (if t337 < 0 then ((tuple_Compare.f k (l0.take ((ji5) : Int).toNat) (l2.take ((ji11) : Int).toNat)).bind fun t338 => (arboristlaw01_TupleTurned.j0 k (l0.take ((ji5) : Int).toNat) (l1.take ((ji8) : Int).toNat) t332 t336 (decide (t338 ≥ 0)))) else (arboristlaw01_TupleTurned.j0 k (l0.take ((ji5) : Int).toNat) (l1.take ((ji8) : Int).toNat) t332 t336 false)) else (arboristlaw01_TupleTurned.j0 k (l0.take ((ji5) : Int).toNat) (l1.take ((ji8) : Int).toNat) t332 t336 false))) = some r := H
              have A14 := Aside0.mk A140
              clear A140
              replace H := Option.bind_eq_some_iff.mp H
              obtain ⟨t337, A150, H⟩ := H
              replace H : (if t336 < 0 then (if t337 < 0 then ((tuple_Compare.f k (l0.take ((ji5) : Int).toNat) (l2.take ((ji11) : Int).toNat)).bind fun t338 => (arboristlaw01_TupleTurned.j0 k (l0.take ((ji5) : Int).toNat) (l1.take ((ji8) : Int).toNat) t332 t336 (decide (t338 ≥ 0)))) else (arboristlaw01_TupleTurned.j0 k (l0.take ((ji5) : Int).toNat) (l1.take ((ji8) : Int).toNat) t332 t336 false)) else (arboristlaw01_TupleTurned.j0 k (l0.take ((ji5) : Int).toNat) (l1.take ((ji8) : Int).toNat) t332 t336 false)) = some r := H
              have A15 := Aside0.mk A150
              clear A150
              have HC16 := Aside0.mk H
              clear H
              go_enter Try.func6, Try.ntmps6
              go_upto_region 7 with (first | ((with_reducible refine gate_callee (f := 12) rfl ?_); refine goesL_ (some 10) rfl rfl Try.func12 (by kernel_rfl) rfl #[] rfl (by (try simp only [List.map_toArray, List.map_cons, List.map_nil]); first | done | rfl | (simp only [List.length_drop, List.length_take]; rfl)) ?_; (with_reducible refine (arboristlaw01_shown.calls k  t332 _ A4.out).mono ?_); rintro e w17 ⟨rfl, hb⟩; refine ⟨_, rfl, ?_⟩; have n0_ := Aside0.mk (below_step (by repeat (first | (with_reducible first | exact HB.out | apply below_alloc | apply pw_below_drewN | apply below_drew1) | exact HB.out)) hb); clear HB; have HB := n0_; clear n0_; (try clear hb); (try clear hb2); (try clear hk); (try clear hi); obtain ⟨i018, hi018, _, hsz18, _⟩ := info_parts info3; obtain ⟨hcut18, hA18, hC18⟩ := print_take_of (P := Try.prog) (Value.int .i64) 0 23 3 .i64 Try.underlying23 hi018 hsz18 A0 c0 l0 (ji5) (of_decide_eq_true (by first | (with_reducible assumption) | assumption)) (of_decide_eq_true (by first | (with_reducible assumption) | assumption)) HC0.out; have HR333 := Aside0.mk (Kd.C_of_reads (h1 := fun _ => rfl) (hA18 _ (Kd.reads_of_C HR0.out))); have HC333 := Aside0.mk hC18; clear hA18 hC18 hi018 hsz18; obtain ⟨i019, hi019, _, hsz19, _⟩ := info_parts info3; obtain ⟨hcut19, hA19, hC19⟩ := print_take_of (P := Try.prog) (Value.int .i64) 0 23 3 .i64 Try.underlying23 hi019 hsz19 A1 c1 l1 (ji8) (of_decide_eq_true (by first | (with_reducible assumption) | assumption)) (of_decide_eq_true (by first | (with_reducible assumption) | assumption)) HC1.out; have HR334 := Aside0.mk (Kd.C_of_reads (h1 := fun _ => rfl) (hA19 _ (Kd.reads_of_C HR1.out))); have HC334 := Aside0.mk hC19; clear hA19 hC19 hi019 hsz19; obtain ⟨i020, hi020, _, hsz20, _⟩ := info_parts info3; obtain ⟨hcut20, hA20, hC20⟩ := print_take_of (P := Try.prog) (Value.int .i64) 0 23 3 .i64 Try.underlying23 hi020 hsz20 A2 c2 l2 (ji11) (of_decide_eq_true (by first | (with_reducible assumption) | assumption)) (of_decide_eq_true (by first | (with_reducible assumption) | assumption)) HC2.out; have HR335 := Aside0.mk (Kd.C_of_reads (h1 := fun _ => rfl) (hA20 _ (Kd.reads_of_C HR2.out))); have HC335 := Aside0.mk hC20; clear hA20 hC20 hi020 hsz20) | ((with_reducible refine gate_callee (f := 18) rfl ?_); refine goesL_ (some 28) rfl rfl Try.func18 (by kernel_rfl) rfl #[.slice A0 (l0.take ((ji5) : Int).toNat).length c0, .slice A1 (l1.take ((ji8) : Int).toNat).length c1] rfl (by (try simp only [List.map_toArray, List.map_cons, List.map_nil]); first | done | ((try rw [show (l0.take ((ji5) : Int).toNat).length = (ji5).toNat from (by rw [List.length_take]; have h_ : ((ji5) : Int) ≤ (l0.length : Int) := of_decide_eq_true (by first | (with_reducible assumption) | assumption); omega)]); (try rw [show (l1.take ((ji8) : Int).toNat).length = (ji8).toNat from (by rw [List.length_take]; have h_ : ((ji8) : Int) ≤ (l1.length : Int) := of_decide_eq_true (by first | (with_reducible assumption) | assumption); omega)]); rfl) | (rw [show (l0.take ((ji5) : Int).toNat).length = (ji5).toNat from (by rw [List.length_take]; have h_ : ((ji5) : Int) ≤ (l0.length : Int) := of_decide_eq_true (by first | (with_reducible assumption) | assumption); omega)] <;> rfl) | (rw [show (l1.take ((ji8) : Int).toNat).length = (ji8).toNat from (by rw [List.length_take]; have h_ : ((ji8) : Int) ≤ (l1.length : Int) := of_decide_eq_true (by first | (with_reducible assumption) | assumption); omega)] <;> rfl) | (simp only [hji5, hji8]; rfl) | rfl | (simp only [List.length_drop, List.length_take]; rfl)) ?_; (with_reducible refine (tuple_Compare.calls k _ _ (l0.take ((ji5) : Int).toNat) _ _ (l1.take ((ji8) : Int).toNat) t336 _ ?side1 ?side2 ?side3 ?side4 A14.out).mono ?_); (case side1 => repeat (first | exact (Kd.C_below HR333.out HB.out) | (with_reducible refine Kd.C_alloc ?_ _) | (with_reducible refine Kd.C_drewN ?_ _) | (with_reducible refine Kd.C_drew ?_))); (case side2 => exact HC333.out); (case side3 => repeat (first | exact (Kd.C_below HR334.out HB.out) | (with_reducible refine Kd.C_alloc ?_ _) | (with_reducible refine Kd.C_drewN ?_ _) | (with_reducible refine Kd.C_drew ?_))); (case side4 => exact HC334.out); rintro e w' ⟨rfl, ⟨nd, rfl⟩⟩; refine ⟨_, rfl, ?_⟩) | ((with_reducible refine gate_callee (f := 18) rfl ?_); refine goesL_ (some 31) rfl rfl Try.func18 (by kernel_rfl) rfl #[.slice A1 (l1.take ((ji8) : Int).toNat).length c1, .slice A2 (l2.take ((ji11) : Int).toNat).length c2] rfl (by (try simp only [List.map_toArray, List.map_cons, List.map_nil]); first | done | ((try rw [show (l1.take ((ji8) : Int).toNat).length = (ji8).toNat from (by rw [List.length_take]; have h_ : ((ji8) : Int) ≤ (l1.length : Int) := of_decide_eq_true (by first | (with_reducible assumption) | assumption); omega)]); (try rw [show (l2.take ((ji11) : Int).toNat).length = (ji11).toNat from (by rw [List.length_take]; have h_ : ((ji11) : Int) ≤ (l2.length : Int) := of_decide_eq_true (by first | (with_reducible assumption) | assumption); omega)]); rfl) | (rw [show (l1.take ((ji8) : Int).toNat).length = (ji8).toNat from (by rw [List.length_take]; have h_ : ((ji8) : Int) ≤ (l1.length : Int) := of_decide_eq_true (by first | (with_reducible assumption) | assumption); omega)] <;> rfl) | (rw [show (l2.take ((ji11) : Int).toNat).length = (ji11).toNat from (by rw [List.length_take]; have h_ : ((ji11) : Int) ≤ (l2.length : Int) := of_decide_eq_true (by first | (with_reducible assumption) | assumption); omega)] <;> rfl) | (simp only [hji11, hji8]; rfl) | rfl | (simp only [List.length_drop, List.length_take]; rfl)) ?_; (with_reducible refine (tuple_Compare.calls k _ _ (l1.take ((ji8) : Int).toNat) _ _ (l2.take ((ji11) : Int).toNat) t337 _ ?side1 ?side2 ?side3 ?side4 A15.out).mono ?_); (case side1 => repeat (first | exact (Kd.C_below HR334.out (by repeat (first | (with_reducible first | exact HB.out | apply below_alloc | apply pw_below_drewN | apply below_drew1) | exact HB.out))) | (with_reducible refine Kd.C_alloc ?_ _) | (with_reducible refine Kd.C_drewN ?_ _) | (with_reducible refine Kd.C_drew ?_))); (case side2 => exact HC334.out); (case side3 => repeat (first | exact (Kd.C_below HR335.out (by repeat (first | (with_reducible first | exact HB.out | apply below_alloc | apply pw_below_drewN | apply below_drew1) | exact HB.out))) | (with_reducible refine Kd.C_alloc ?_ _) | (with_reducible refine Kd.C_drewN ?_ _) | (with_reducible refine Kd.C_drew ?_))); (case side4 => exact HC335.out); rintro e w' ⟨rfl, ⟨nd, rfl⟩⟩; refine ⟨_, rfl, ?_⟩))
              (try simp only [Act.put, List.setIfInBounds_toArray, List.set_cons_zero, List.set_cons_succ])
              go_cut [43] (fun v43 wc => ∃ (kq : Nat) (x43_15 : Bool), v43 = .bool x43_15 ∧ Aside0 (arboristlaw01_TupleTurned.j0 kq (l0.take ((ji5) : Int).toNat) (l1.take ((ji8) : Int).toNat) t332 t336 x43_15 = some r) ∧ Aside0 (kq ≤ k) ∧ Aside0 (Below w.heap.size w wc))
              case first =>
                have H := HC16.out
                clear HC16
                by_cases c21 : t336 < 0
                · rw [if_pos c21] at H
                  have c21b0 : decide (t336 < 0) = true := decide_eq_true c21
                  clear c21
                  (first | rw [c21b0] | (simp only [i64_w, i32_w]; rw [c21b0]) | skip)
                  by_cases c22 : t337 < 0
                  · rw [if_pos c22] at H
                    have c22b0 : decide (t337 < 0) = true := decide_eq_true c22
                    clear c22
                    replace H := Option.bind_eq_some_iff.mp H
                    obtain ⟨t338, A230, H⟩ := H
                    replace H : (arboristlaw01_TupleTurned.j0 k (l0.take ((ji5) : Int).toNat) (l1.take ((ji8) : Int).toNat) t332 t336 (decide (t338 ≥ 0))) = some r := H
                    have A23 := Aside0.mk A230
                    clear A230
                    have H' := Aside0.mk H
                    clear H
                    go_wp2_with (first | (go_at_call 18; (first | (with_reducible refine (tuple_Compare.calls k _ _ (l0.take ((ji5) : Int).toNat) _ _ (l2.take ((ji11) : Int).toNat) t338 _ ?side1 ?side2 ?side3 ?side4 A23.out).mono ?_) | (have e0_ : (l0.take ((ji5) : Int).toNat).length = ((ji5) : Int).toNat := (by rw [List.length_take]; have q_ : (ji5) ≤ (l0.length : Int) := (by rw [← hji5]; unfold mn; (repeat' split) <;> omega); omega); have e1_ : (l2.take ((ji11) : Int).toNat).length = ((ji11) : Int).toNat := (by rw [List.length_take]; have q_ : (ji11) ≤ (l2.length : Int) := (by rw [← hji11]; unfold mn; (repeat' split) <;> omega); omega); (with_reducible refine calls_at ((tuple_Compare.calls k _ _ (l0.take ((ji5) : Int).toNat) _ _ (l2.take ((ji11) : Int).toNat) t338 _ ?side1 ?side2 ?side3 ?side4 A23.out).mono ?_) (by (try simp only [e0_, e1_]); first | done | rfl)); clear e0_ e1_)); (case side1 => repeat (first | exact (Kd.C_below HR333.out HB.out) | (with_reducible refine Kd.C_alloc ?_ _) | (with_reducible refine Kd.C_drewN ?_ _) | (with_reducible refine Kd.C_drew ?_))); (case side2 => exact HC333.out); (case side3 => repeat (first | exact (Kd.C_below HR335.out HB.out) | (with_reducible refine Kd.C_alloc ?_ _) | (with_reducible refine Kd.C_drewN ?_ _) | (with_reducible refine Kd.C_drew ?_))); (case side4 => exact HC335.out); rintro e w' ⟨rfl, ⟨nd, rfl⟩⟩))
                    go_meet
                    case rel => exact ⟨_, (decide (t338 ≥ 0)), (by first | rfl | (simp; done) | (simp [*]; done)), H', ⟨by first | omega | exact Nat.le_refl _⟩, ⟨by repeat (first | (with_reducible first | exact HB.out | apply below_alloc | apply pw_below_drewN | apply below_drew1) | exact HB.out)⟩⟩
                  · rw [if_neg c22] at H
                    have c22b0 : decide (t337 < 0) = false := decide_eq_false c22
                    clear c22
                    have H' := Aside0.mk H
                    clear H
                    go_wp2
                    go_meet
                    case rel => exact ⟨_, (false), (by first | rfl | (simp; done) | (simp [*]; done)), H', ⟨by first | omega | exact Nat.le_refl _⟩, ⟨by repeat (first | (with_reducible first | exact HB.out | apply below_alloc | apply pw_below_drewN | apply below_drew1) | exact HB.out)⟩⟩
                · rw [if_neg c21] at H
                  have c21b0 : decide (t336 < 0) = false := decide_eq_false c21
                  clear c21
                  (first | rw [c21b0] | (simp only [i64_w, i32_w]; rw [c21b0]) | skip)
                  have H' := Aside0.mk H
                  clear H
                  go_wp2
                  go_meet
                  case rel => exact ⟨_, (false), (by first | rfl | (simp; done) | (simp [*]; done)), H', ⟨by first | omega | exact Nat.le_refl _⟩, ⟨by repeat (first | (with_reducible first | exact HB.out | apply below_alloc | apply pw_below_drewN | apply below_drew1) | exact HB.out)⟩⟩
              case rest =>
                clear HC16
                try clear c1
                try clear c2
                try clear p2
                try clear c6
                try clear c6b0
                try clear c6b1
                try clear c7
                try clear c7b0
                try clear c7b1
                try clear c9
                try clear c9b0
                try clear c9b1
                try clear c10
                try clear c10b0
                try clear c10b1
                try clear c12
                try clear c12b0
                try clear c12b1
                try clear c13
                try clear c13b0
                try clear c13b1
                try clear c18
                try clear c21
                try clear c21b0
                try clear c22
                try clear c22b0
                obtain ⟨kq, x43_15, rfl, HA, HJ15, HB⟩ := hcut
                cases kq with
                | zero => exact absurd HA.out (by simp [arboristlaw01_TupleTurned.j0])
                | succ kj15 =>
                  have H := HA.out
                  clear HA
                  simp only [arboristlaw01_TupleTurned.j0] at H
                  by_cases c24 : x43_15 = true
                  · subst c24
                    have H1 : (some false) = some r := by rw [if_pos rfl] at H; exact H
                    clear H
                    have H := H1
                    clear H1
                    exact absurd ((Option.some.inj H).trans HT_.out) (by decide)
                  · replace c24 := Bool.eq_false_iff.mpr c24
                    subst c24
                    have H1 : (if t332 = true then ((tuple_Compare.f kj15 (l1.take ((ji8) : Int).toNat) (l0.take ((ji5) : Int).toNat)).bind fun t339 => (if t336 = (wrap64 (-t339)) then ((tuple_Compare.f kj15 (l0.take ((ji5) : Int).toNat) (l0.take ((ji5) : Int).toNat)).bind fun t340 => (some (t340 == 0))) else (some false))) else (some false)) = some r := by rw [if_neg (show ¬ (false = true) by decide)] at H; exact H
                    clear H
                    have H := H1
                    clear H1
                    by_cases c25 : t332 = true
                    · subst c25
                      have H1 : ((tuple_Compare.f kj15 (l1.take ((ji8) : Int).toNat) (l0.take ((ji5) : Int).toNat)).bind fun t339 => (if t336 = (wrap64 (-t339)) then ((tuple_Compare.f kj15 (l0.take ((ji5) : Int).toNat) (l0.take ((ji5) : Int).toNat)).bind fun t340 => (some (t340 == 0))) else (some false))) = some r := by rw [if_pos rfl] at H; exact H
                      clear H
                      have H := H1
                      clear H1
                      replace H := Option.bind_eq_some_iff.mp H
                      obtain ⟨t339, A260, H⟩ := H
                      replace H : (if t336 = (wrap64 (-t339)) then ((tuple_Compare.f kj15 (l0.take ((ji5) : Int).toNat) (l0.take ((ji5) : Int).toNat)).bind fun t340 => (some (t340 == 0))) else (some false)) = some r := H
                      have A26 := Aside0.mk A260
                      clear A260
                      by_cases c27 : t336 = (wrap64 (-t339))
                      · rw [if_pos c27] at H
                        have c27b0 : (t336 == (wrap64 (-t339))) = true := beq_iff_eq.mpr c27
                        have c27b1 : (t336 != (wrap64 (-t339))) = false := bne_eq_false_iff_eq.mpr c27
                        clear c27
                        replace H := Option.bind_eq_some_iff.mp H
                        obtain ⟨t340, A280, H⟩ := H
                        replace H : (some (t340 == 0)) = some r := H
                        have A28 := Aside0.mk A280
                        clear A280
                        obtain rfl := Option.some.inj H
                        go_wp2_with (first | (go_at_call 18; (first | (with_reducible refine (tuple_Compare.calls kj15 _ _ (l1.take ((ji8) : Int).toNat) _ _ (l0.take ((ji5) : Int).toNat) t339 _ ?side1 ?side2 ?side3 ?side4 A26.out).mono ?_) | (have e0_ : (l1.take ((ji8) : Int).toNat).length = ((ji8) : Int).toNat := (by rw [List.length_take]; have q_ : (ji8) ≤ (l1.length : Int) := (by rw [← hji8]; unfold mn; (repeat' split) <;> omega); omega); have e1_ : (l0.take ((ji5) : Int).toNat).length = ((ji5) : Int).toNat := (by rw [List.length_take]; have q_ : (ji5) ≤ (l0.length : Int) := (by rw [← hji5]; unfold mn; (repeat' split) <;> omega); omega); (with_reducible refine calls_at ((tuple_Compare.calls kj15 _ _ (l1.take ((ji8) : Int).toNat) _ _ (l0.take ((ji5) : Int).toNat) t339 _ ?side1 ?side2 ?side3 ?side4 A26.out).mono ?_) (by (try simp only [e0_, e1_]); first | done | rfl)); clear e0_ e1_)); (case side1 => repeat (first | exact (Kd.C_below HR334.out HB.out) | (with_reducible refine Kd.C_alloc ?_ _) | (with_reducible refine Kd.C_drewN ?_ _) | (with_reducible refine Kd.C_drew ?_))); (case side2 => exact HC334.out); (case side3 => repeat (first | exact (Kd.C_below HR333.out HB.out) | (with_reducible refine Kd.C_alloc ?_ _) | (with_reducible refine Kd.C_drewN ?_ _) | (with_reducible refine Kd.C_drew ?_))); (case side4 => exact HC333.out); rintro e w' ⟨rfl, ⟨nd, rfl⟩⟩) | (go_at_call 18; (first | (with_reducible refine (tuple_Compare.calls kj15 _ _ (l0.take ((ji5) : Int).toNat) _ _ (l0.take ((ji5) : Int).toNat) t340 _ ?side1 ?side2 ?side3 ?side4 A28.out).mono ?_) | (have e0_ : (l0.take ((ji5) : Int).toNat).length = ((ji5) : Int).toNat := (by rw [List.length_take]; have q_ : (ji5) ≤ (l0.length : Int) := (by rw [← hji5]; unfold mn; (repeat' split) <;> omega); omega); (with_reducible refine calls_at ((tuple_Compare.calls kj15 _ _ (l0.take ((ji5) : Int).toNat) _ _ (l0.take ((ji5) : Int).toNat) t340 _ ?side1 ?side2 ?side3 ?side4 A28.out).mono ?_) (by (try simp only [e0_]); first | done | rfl)); clear e0_)); (case side1 => repeat (first | exact (Kd.C_below HR333.out (by repeat (first | (with_reducible first | exact HB.out | apply below_alloc | apply pw_below_drewN | apply below_drew1) | exact HB.out))) | (with_reducible refine Kd.C_alloc ?_ _) | (with_reducible refine Kd.C_drewN ?_ _) | (with_reducible refine Kd.C_drew ?_))); (case side2 => exact HC333.out); (case side3 => repeat (first | exact (Kd.C_below HR333.out (by repeat (first | (with_reducible first | exact HB.out | apply below_alloc | apply pw_below_drewN | apply below_drew1) | exact HB.out))) | (with_reducible refine Kd.C_alloc ?_ _) | (with_reducible refine Kd.C_drewN ?_ _) | (with_reducible refine Kd.C_drew ?_))); (case side4 => exact HC333.out); rintro e w' ⟨rfl, ⟨nd, rfl⟩⟩))
                        go_ret
                        exact ⟨by first | rfl | (simp [errW_none, errW_some] <;> rfl) | (simp only [← hji5, ← hji8, ← hji11]; first | rfl | (simp [errW_none, errW_some] <;> rfl)) | (simp [*, errW_none, errW_some] <;> rfl), by repeat (first | (with_reducible first | exact HB.out | apply below_alloc | apply pw_below_drewN | apply below_drew1) | exact HB.out)⟩
                      · rw [if_neg c27] at H
                        have c27b0 : (t336 == (wrap64 (-t339))) = false := beq_eq_false_iff_ne.mpr c27
                        have c27b1 : (t336 != (wrap64 (-t339))) = true := bne_iff_ne.mpr c27
                        exact absurd ((Option.some.inj H).trans HT_.out) (by decide)
                    · replace c25 := Bool.eq_false_iff.mpr c25
                      subst c25
                      have H1 : (some false) = some r := by rw [if_neg (show ¬ (false = true) by decide)] at H; exact H
                      clear H
                      have H := H1
                      clear H1
                      exact absurd ((Option.some.inj H).trans HT_.out) (by decide)
            · rw [if_neg c13] at H
              exact absurd H (by simp)
          · rw [if_neg c12] at H
            exact absurd H (by simp)
        · rw [if_neg c10] at H
          exact absurd H (by simp)
      · rw [if_neg c9] at H
        exact absurd H (by simp)
    · rw [if_neg c7] at H
      exact absurd H (by simp)
  · rw [if_neg c6] at H
    exact absurd H (by simp)

/-- THE ONE PURE STATEMENT of arboristlaw01_TupleTurned: yours. -/
def arboristlaw01_TupleTurned.Pure : Prop := ∀ (l0 : List Int) (l1 : List Int) (l2 : List Int), l0.length ≤ maxLen → l0.length * 8 ≤ 140737488351232 → (∀ x ∈ l0, (Lit.int .i64 x).wf = true) → l1.length ≤ maxLen → l1.length * 8 ≤ 140737488351232 → (∀ x ∈ l1, (Lit.int .i64 x).wf = true) → l2.length ≤ maxLen → l2.length * 8 ≤ 140737488351232 → (∀ x ∈ l2, (Lit.int .i64 x).wf = true) → ∃ k, arboristlaw01_TupleTurned.f k l0 l1 l2 = some true
theorem arboristlaw01_TupleTurned.walk (P : arboristlaw01_TupleTurned.Pure) (a0 : Option Addr) (len0 cap0 : Nat) (z0 : List Int) (a1 : Option Addr) (len1 cap1 : Nat) (z1 : List Int) (a2 : Option Addr) (len2 cap2 : Nat) (z2 : List Int) (w : World) (w0 : (a0 = none ∧ len0 = 0 ∧ cap0 = 0 ∧ z0 = []) ∨ ∃ x, a0 = some x ∧ len0 ≤ cap0 ∧ cap0 ≤ maxLen ∧ z0.length = cap0 ∧ (∀ i, i < z0.length → w.cell? (x.add i) = some (.int .i64 (z0.getD i 0))) ∧ ∀ n ∈ z0, (Lit.int .i64 n).wf = true) (y0 : len0 * 8 ≤ 140737488351232) (w1 : (a1 = none ∧ len1 = 0 ∧ cap1 = 0 ∧ z1 = []) ∨ ∃ x, a1 = some x ∧ len1 ≤ cap1 ∧ cap1 ≤ maxLen ∧ z1.length = cap1 ∧ (∀ i, i < z1.length → w.cell? (x.add i) = some (.int .i64 (z1.getD i 0))) ∧ ∀ n ∈ z1, (Lit.int .i64 n).wf = true) (y1 : len1 * 8 ≤ 140737488351232) (w2 : (a2 = none ∧ len2 = 0 ∧ cap2 = 0 ∧ z2 = []) ∨ ∃ x, a2 = some x ∧ len2 ≤ cap2 ∧ cap2 ≤ maxLen ∧ z2.length = cap2 ∧ (∀ i, i < z2.length → w.cell? (x.add i) = some (.int .i64 (z2.getD i 0))) ∧ ∀ n ∈ z2, (Lit.int .i64 n).wf = true) (y2 : len2 * 8 ≤ 140737488351232) :
    Calls Try.prog 6 #[.slice a0 len0 cap0, .slice a1 len1 cap1, .slice a2 len2 cap2] w fun e w' => e = .returned (.bool true) ∧ Below w.heap.size w w' := by
  obtain ⟨l0, rfl, hr0, hm0, hw0, hc0⟩ := ReadsInt.ofRowC w0
  obtain ⟨l1, rfl, hr1, hm1, hw1, hc1⟩ := ReadsInt.ofRowC w1
  obtain ⟨l2, rfl, hr2, hm2, hw2, hc2⟩ := ReadsInt.ofRowC w2
  obtain ⟨k, h⟩ := P l0 l1 l2 hm0 y0 hw0 hm1 y1 hw1 hm2 y2 hw2
  refine (arboristlaw01_TupleTurned.calls k _ _ l0 _ _ l1 _ _ l2 true w (Kd.C_of_reads (d := (0 : Int)) (h1 := fun _ => rfl) hr0) hc0 (Kd.C_of_reads (d := (0 : Int)) (h1 := fun _ => rfl) hr1) hc1 (Kd.C_of_reads (d := (0 : Int)) (h1 := fun _ => rfl) hr2) hc2 rfl h).mono ?_
  rintro e w' ⟨rfl, hd⟩
  exact ⟨rfl, hd⟩

end Go.Proofs.Ytlnmgljiggebiaa.Pr
