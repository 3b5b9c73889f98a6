-- Printed by a program of this session's own (wip/tools/pp.py) over the kit's print.py; Lean checks it.
import Derived.Test.YtlnmgljiggebiaaPr0
import Derived.Test.YtlnmgljiggebiaaPr1
import Derived.Test.YtlnmgljiggebiaaPr11
import Derived.Test.YtlnmgljiggebiaaPr13
namespace Go.Proofs.Ytlnmgljiggebiaa.Pr
open Go.RowKit Go.Proofs.YtlnmgljiggebiaaW.PrintWords Go.Proofs.YtlnmgljiggebiaaW.PrintLast Go.Proofs.YtlnmgljiggebiaaW.PrintMore
attribute [local go_sem] max2_int min2_int max_two min_two max_three min_three max_four min_four   -- for this text's walks alone
set_option linter.unusedVariables false
set_option linter.unusedSimpArgs false

/-! ### arboristlaw01_TupleAll: function 8 -/
mutual
def arboristlaw01_TupleAll.j0 : Nat → List Int → List Int → List Int → Bool → Bool → Option (Bool)
  | 0, _, _, _, _, _ => none
  | k + 1, x0, x1, x2, x7, x29 => if x29 = true then (if x7 = true then ((tuple_Pick.f x0 ([] : List Int)).bind fun t369 => (some ((t369.length : Int) == 0))) else (some false)) else (arboristlaw01_TupleAll.l0 k x0 x1 x2 x7 ([] : List Int) 0)
def arboristlaw01_TupleAll.l0 : Nat → List Int → List Int → List Int → Bool → List Int → Int → Option (Bool)
  | 0, _, _, _, _, _, _ => none
  | k + 1, x0, x1, x2, x7, x8, x9 => if x9 < (x0.length : Int) then (if x8.length < 17592186044416 then (arboristlaw01_TupleAll.l0 k x0 x1 x2 x7 (x8 ++ [x9]) (wrap64 (x9 + 1))) else (none)) else (arboristlaw01_TupleAll.l1 k x0 x1 x2 x7 x8 ([] : List Int) 0)
def arboristlaw01_TupleAll.j3 : Nat → List Int → List Int → Bool → List Int → List Int → Option (Bool)
  | 0, _, _, _, _, _ => none
  | k + 1, x0, x2, x7, x8, x10 => arboristlaw01_TupleAll.l2 k x0 x2 x7 x8 x10 ([] : List Int) ([] : List Int) 0
def arboristlaw01_TupleAll.j5 : Nat → List Int → Bool → List Int → List Int → List Int → List Int → Option (Bool)
  | 0, _, _, _, _, _, _ => none
  | k + 1, x0, x7, x8, x10, x12, x13 => if x7 = true then ((tuple_Pick.f x0 x8).bind fun t387 => ((tuple_Compare.f k t387 x0).bind fun t390 => (if t390 = 0 then ((tuple_Pick.f x0 x10).bind fun t391 => ((tuple_Pick.f t391 x12).bind fun t394 => ((tuple_Pick.f x0 x13).bind fun t397 => ((tuple_Compare.f k t394 t397).bind fun t400 => (some (t400 == 0)))))) else (some false)))) else (some false)
def arboristlaw01_TupleAll.l2 : Nat → List Int → List Int → Bool → List Int → List Int → List Int → List Int → Int → Option (Bool)
  | 0, _, _, _, _, _, _, _, _ => none
  | k + 1, x0, x2, x7, x8, x10, x12, x13, x14 => if x14 < (x2.length : Int) then (if x14 < 60 then (if 0 ≤ x14 then (if (x10.length : Int) = 0 then (none) else (if x12.length < 17592186044416 then (if 0 ≤ (Int.tmod (Go.bits .and .i64 (rd x2 x14) 65535) (x10.length : Int)) then (if (Int.tmod (Go.bits .and .i64 (rd x2 x14) 65535) (x10.length : Int)) < (x10.length : Int) then (if x13.length < 17592186044416 then (arboristlaw01_TupleAll.l2 k x0 x2 x7 x8 x10 (x12 ++ [Int.tmod (Go.bits .and .i64 (rd x2 x14) 65535) (x10.length : Int)]) (x13 ++ [rd x10 (Int.tmod (Go.bits .and .i64 (rd x2 x14) 65535) (x10.length : Int))]) (wrap64 (x14 + 1))) else (none)) else (none)) else (none)) else (none))) else (none)) else (arboristlaw01_TupleAll.j5 k x0 x7 x8 x10 x12 x13)) else (arboristlaw01_TupleAll.j5 k x0 x7 x8 x10 x12 x13)
def arboristlaw01_TupleAll.l1 : Nat → List Int → List Int → List Int → Bool → List Int → List Int → Int → Option (Bool)
  | 0, _, _, _, _, _, _, _ => none
  | k + 1, x0, x1, x2, x7, x8, x10, x11 => if x11 < (x1.length : Int) then (if x11 < 60 then (if 0 ≤ x11 then (if (x0.length : Int) = 0 then (none) else (if x10.length < 17592186044416 then (arboristlaw01_TupleAll.l1 k x0 x1 x2 x7 x8 (x10 ++ [Int.tmod (Go.bits .and .i64 (rd x1 x11) 65535) (x0.length : Int)]) (wrap64 (x11 + 1))) else (none))) else (none)) else (arboristlaw01_TupleAll.j3 k x0 x2 x7 x8 x10)) else (arboristlaw01_TupleAll.j3 k x0 x2 x7 x8 x10)
end
def arboristlaw01_TupleAll.f (k : Nat) (l0 : List Int) (l1 : List Int) (l2 : List Int) : Option (Bool) := (arboristlaw01_shown.f k).bind fun t367 => (if 0 ≤ (mn (l0.length : Int) 60) then (if (mn (l0.length : Int) 60) ≤ (l0.length : Int) then (if ((l0.take ((mn (l0.length : Int) 60) : Int).toNat).length : Int) = 0 then (arboristlaw01_TupleAll.j0 k (l0.take ((mn (l0.length : Int) 60) : Int).toNat) l1 l2 t367 true) else (arboristlaw01_TupleAll.j0 k (l0.take ((mn (l0.length : Int) 60) : Int).toNat) l1 l2 t367 ((l1.length : Int) == 0))) else (none)) else (none))
theorem arboristlaw01_TupleAll.mono_l : ∀ k, (∀ y0 y1 y2 y3 y4, LeO (arboristlaw01_TupleAll.j0 k y0 y1 y2 y3 y4) (arboristlaw01_TupleAll.j0 (k + 1) y0 y1 y2 y3 y4)) ∧ (∀ y0 y1 y2 y3 y4 y5, LeO (arboristlaw01_TupleAll.l0 k y0 y1 y2 y3 y4 y5) (arboristlaw01_TupleAll.l0 (k + 1) y0 y1 y2 y3 y4 y5)) ∧ (∀ y0 y1 y2 y3 y4, LeO (arboristlaw01_TupleAll.j3 k y0 y1 y2 y3 y4) (arboristlaw01_TupleAll.j3 (k + 1) y0 y1 y2 y3 y4)) ∧ (∀ y0 y1 y2 y3 y4 y5, LeO (arboristlaw01_TupleAll.j5 k y0 y1 y2 y3 y4 y5) (arboristlaw01_TupleAll.j5 (k + 1) y0 y1 y2 y3 y4 y5)) ∧ (∀ y0 y1 y2 y3 y4 y5 y6 y7, LeO (arboristlaw01_TupleAll.l2 k y0 y1 y2 y3 y4 y5 y6 y7) (arboristlaw01_TupleAll.l2 (k + 1) y0 y1 y2 y3 y4 y5 y6 y7)) ∧ (∀ y0 y1 y2 y3 y4 y5 y6, LeO (arboristlaw01_TupleAll.l1 k y0 y1 y2 y3 y4 y5 y6) (arboristlaw01_TupleAll.l1 (k + 1) y0 y1 y2 y3 y4 y5 y6))
  | 0 => ⟨fun _ _ _ _ _ r h => by simp [arboristlaw01_TupleAll.j0] at h, fun _ _ _ _ _ _ r h => by simp [arboristlaw01_TupleAll.l0] at h, fun _ _ _ _ _ r h => by simp [arboristlaw01_TupleAll.j3] at h, fun _ _ _ _ _ _ r h => by simp [arboristlaw01_TupleAll.j5] at h, fun _ _ _ _ _ _ _ _ r h => by simp [arboristlaw01_TupleAll.l2] at h, fun _ _ _ _ _ _ _ r h => by simp [arboristlaw01_TupleAll.l1] at h⟩
  | k + 1 => by
    obtain ⟨ih0, ih1, ih2, ih3, ih4, ih5⟩ := arboristlaw01_TupleAll.mono_l k
    refine ⟨?_, ?_, ?_, ?_, ?_, ?_⟩
    all_goals intros
    all_goals (first | unfold arboristlaw01_TupleAll.j0 | unfold arboristlaw01_TupleAll.l0 | unfold arboristlaw01_TupleAll.j3 | unfold arboristlaw01_TupleAll.j5 | unfold arboristlaw01_TupleAll.l2 | unfold arboristlaw01_TupleAll.l1)
    all_goals repeat' first
    | (with_reducible exact ih0 _ _ _ _ _)
    | (with_reducible exact ih1 _ _ _ _ _ _)
    | (with_reducible exact ih2 _ _ _ _ _)
    | (with_reducible exact ih3 _ _ _ _ _ _)
    | (with_reducible exact ih4 _ _ _ _ _ _ _ _)
    | (with_reducible exact ih5 _ _ _ _ _ _ _)
    | (with_reducible exact arboristlaw01_shown.mono _)
    | (with_reducible exact tuple_Compare.mono _ _ _)
    | (with_reducible exact LeO.refl _)
    | (with_reducible exact LeO.none _)
    | (with_reducible refine LeO.ite ?_ ?_)
    | (with_reducible refine LeO.bind ?_ (fun _ => ?_))
    | exact ih0 _ _ _ _ _
    | exact ih1 _ _ _ _ _ _
    | exact ih2 _ _ _ _ _
    | exact ih3 _ _ _ _ _ _
    | exact ih4 _ _ _ _ _ _ _ _
    | exact ih5 _ _ _ _ _ _ _
    | exact arboristlaw01_shown.mono _
    | exact tuple_Compare.mono _ _ _
    | exact LeO.none _
    | refine LeO.ite ?_ ?_
    | refine LeO.bind ?_ (fun _ => ?_)
theorem arboristlaw01_TupleAll.mono : ∀ a0 a1 a2 k, LeO (arboristlaw01_TupleAll.f k a0 a1 a2) (arboristlaw01_TupleAll.f (k + 1) a0 a1 a2) := by
  intro a0 a1 a2 k
  obtain ⟨ih0, ih1, ih2, ih3, ih4, ih5⟩ := arboristlaw01_TupleAll.mono_l k
  unfold arboristlaw01_TupleAll.f
  repeat' first
      | (with_reducible exact ih0 _ _ _ _ _)
      | (with_reducible exact ih1 _ _ _ _ _ _)
      | (with_reducible exact ih2 _ _ _ _ _)
      | (with_reducible exact ih3 _ _ _ _ _ _)
      | (with_reducible exact ih4 _ _ _ _ _ _ _ _)
      | (with_reducible exact ih5 _ _ _ _ _ _ _)
      | (with_reducible exact arboristlaw01_shown.mono _)
      | (with_reducible exact tuple_Compare.mono _ _ _)
      | (with_reducible exact LeO.refl _)
      | (with_reducible exact LeO.none _)
      | (with_reducible refine LeO.ite ?_ ?_)
      | (with_reducible refine LeO.bind ?_ (fun _ => ?_))
      | exact ih0 _ _ _ _ _
      | exact ih1 _ _ _ _ _ _
      | exact ih2 _ _ _ _ _
      | exact ih3 _ _ _ _ _ _
      | exact ih4 _ _ _ _ _ _ _ _
      | exact ih5 _ _ _ _ _ _ _
      | exact arboristlaw01_shown.mono _
      | exact tuple_Compare.mono _ _ _
      | exact LeO.none _
      | refine LeO.ite ?_ ?_
      | refine LeO.bind ?_ (fun _ => ?_)
set_option maxHeartbeats 8000000 in
set_option maxRecDepth 100000 in
theorem arboristlaw01_TupleAll.calls (k : Nat) (A0 : Option Addr) (c0 : Nat) (l0 : List Int) (A1 : Option Addr) (c1 : Nat) (l1 : List Int) (A2 : Option Addr) (c2 : Nat) (l2 : List Int) (r : Bool) (w : World) (hr0 : Kd.C (Kd.int .i64) w A0 l0.length l0) (hc0 : l0.length ≤ c0) (hr1 : Kd.C (Kd.int .i64) w A1 l1.length l1) (hc1 : l1.length ≤ c1) (hr2 : Kd.C (Kd.int .i64) w A2 l2.length l2) (hc2 : l2.length ≤ c2) (hT : r = true) (h : arboristlaw01_TupleAll.f k l0 l1 l2 = some r) :
    Calls Try.prog 8 #[.slice A0 l0.length c0, .slice A1 l1.length c1, .slice A2 l2.length c2] w fun e w' => e = .returned (.bool r) ∧ Below w.heap.size w w' := by
  have HT_ := Aside0.mk (show r = true from hT)
  clear hT
  have HR0 := Aside0.mk hr0
  have HC0 := Aside0.mk hc0
  clear hr0 hc0
  have HR1 := Aside0.mk hr1
  have HC1 := Aside0.mk hc1
  clear hr1 hc1
  have HR2 := Aside0.mk hr2
  have HC2 := Aside0.mk hc2
  clear hr2 hc2
  have HB := Aside0.mk (Below.refl w.heap.size w)
  have H : ((arboristlaw01_shown.f k).bind fun t367 => (if 0 ≤ (mn (l0.length : Int) 60) then (if (mn (l0.length : Int) 60) ≤ (l0.length : Int) then (if ((l0.take ((mn (l0.length : Int) 60) : Int).toNat).length : Int) = 0 then (arboristlaw01_TupleAll.j0 k (l0.take ((mn (l0.length : Int) 60) : Int).toNat) l1 l2 t367 true) else (arboristlaw01_TupleAll.j0 k (l0.take ((mn (l0.length : Int) 60) : Int).toNat) l1 l2 t367 ((l1.length : Int) == 0))) else (none)) else (none))) = some r := h
  clear h
  replace H := Option.bind_eq_some_iff.mp H
  obtain ⟨t367, A40, H⟩ := H
  replace H : (if 0 ≤ (mn (l0.length : Int) 60) then (if (mn (l0.length : Int) 60) ≤ (l0.length : Int) then (if ((l0.take ((mn (l0.length : Int) 60) : Int).toNat).length : Int) = 0 then (arboristlaw01_TupleAll.j0 k (l0.take ((mn (l0.length : Int) 60) : Int).toNat) l1 l2 t367 true) else (arboristlaw01_TupleAll.j0 k (l0.take ((mn (l0.length : Int) 60) : Int).toNat) l1 l2 t367 ((l1.length : Int) == 0))) else (none)) else (none)) = some r := H
  have A4 := Aside0.mk A40
  clear A40
  obtain ⟨ji5, hji5⟩ : ∃ j_ : Int, (mn (l0.length : Int) 60) = j_ := ⟨_, rfl⟩
  replace H : (if 0 ≤ (ji5) then (if (ji5) ≤ (l0.length : Int) then (if ((l0.take ((ji5) : Int).toNat).length : Int) = 0 then (arboristlaw01_TupleAll.j0 k (l0.take ((ji5) : Int).toNat) l1 l2 t367 true) else (arboristlaw01_TupleAll.j0 k (l0.take ((ji5) : Int).toNat) l1 l2 t367 ((l1.length : Int) == 0))) else (none)) else (none)) = some r := by first | (rw [hji5] at H; exact H) | (simp only [hji5] at H ⊢; exact H)
  (try rw [hji5] at A4)
  (try (have hji5h : ji5 ≤ 60 := by (rw [← hji5]; unfold mn; (repeat' split) <;> omega)))
  (try (have hji5g : ji5 ≤ 64 := by omega))
  (try (have hji5l : 0 ≤ ji5 := by (rw [← hji5]; unfold mn; (repeat' split) <;> omega)))
  (try (have hji5m : 0 ≤ ji5 := by omega))
  have hji5_ : (if 60 < (l0.length : Int) then 60 else (l0.length : Int)) = ji5 := hji5
  by_cases c6 : 0 ≤ (ji5)
  · rw [if_pos c6] at H
    have c6b0 := eq_true c6
    have c6b1 : decide (0 ≤ (ji5)) = true := decide_eq_true c6
    clear c6
    by_cases c7 : (ji5) ≤ (l0.length : Int)
    · rw [if_pos c7] at H
      have c7b0 := eq_true c7
      have c7b1 : decide ((ji5) ≤ (l0.length : Int)) = true := decide_eq_true c7
      clear c7
      have HC8 := Aside0.mk H
      clear H
      go_enter Try.func8, Try.ntmps8
      go_upto_region 3 with (first | ((with_reducible refine gate_callee (f := 12) rfl ?_); refine goesL_ (some 16) rfl rfl Try.func12 (by kernel_rfl) rfl #[] rfl (by (try simp only [List.map_toArray, List.map_cons, List.map_nil]); first | done | rfl | (simp only [List.length_drop, List.length_take]; rfl)) ?_; (with_reducible refine (arboristlaw01_shown.calls k  t367 _ A4.out).mono ?_); rintro e w9 ⟨rfl, hb⟩; refine ⟨_, rfl, ?_⟩; have n0_ := Aside0.mk (below_step (by repeat (first | (with_reducible first | exact HB.out | apply below_alloc | apply pw_below_drewN | apply below_drew1) | exact HB.out)) hb); clear HB; have HB := n0_; clear n0_; (try clear hb); (try clear hb2); (try clear hk); (try clear hi); obtain ⟨i010, hi010, _, hsz10, _⟩ := info_parts info3; obtain ⟨hcut10, hA10, hC10⟩ := print_take_of (P := Try.prog) (Value.int .i64) 0 23 3 .i64 Try.underlying23 hi010 hsz10 A0 c0 l0 (ji5) (of_decide_eq_true (by first | (with_reducible assumption) | assumption)) (of_decide_eq_true (by first | (with_reducible assumption) | assumption)) HC0.out; have HR368 := Aside0.mk (Kd.C_of_reads (h1 := fun _ => rfl) (hA10 _ (Kd.reads_of_C HR0.out))); have HC368 := Aside0.mk hC10; clear hA10 hC10 hi010 hsz10))
      (try simp only [Act.put, List.setIfInBounds_toArray, List.set_cons_zero, List.set_cons_succ])
      go_cut [29] (fun v29 wc => ∃ (kq : Nat) (x29_7 : Bool), v29 = .bool x29_7 ∧ Aside0 (arboristlaw01_TupleAll.j0 kq (l0.take ((ji5) : Int).toNat) l1 l2 t367 x29_7 = some r) ∧ Aside0 (kq ≤ k) ∧ Aside0 (Below w.heap.size w wc))
      case first =>
        have H := HC8.out
        clear HC8
        by_cases c11 : ((l0.take ((ji5) : Int).toNat).length : Int) = 0
        · rw [if_pos c11] at H
          have c11b0 : (((l0.take ((ji5) : Int).toNat).length : Int) == 0) = true := beq_iff_eq.mpr c11
          (try (have c11q0 : ((max (ji5) 0 : Int) == 0) = true := (by have e0_ : ((l0.take ((ji5) : Int).toNat).length : Int) = max (ji5) 0 := (by rw [List.length_take]; have q_ : (ji5) ≤ (l0.length : Int) := (by rw [← hji5]; unfold mn; (repeat' split) <;> omega); omega); rw [← e0_]; exact c11b0)))
          have c11m2 : ((max (ji5) 0 : Int) == 0) = true := by have e0_ : ((l0.take ((ji5) : Int).toNat).length : Int) = max (ji5) 0 := (by rw [List.length_take]; have q_ : (ji5) ≤ (l0.length : Int) := (by rw [← hji5]; unfold mn; (repeat' split) <;> omega); omega); rw [← e0_]; exact c11b0
          have c11b1 : (((l0.take ((ji5) : Int).toNat).length : Int) != 0) = false := bne_eq_false_iff_eq.mpr c11
          (try (have c11q1 : ((max (ji5) 0 : Int) != 0) = false := (by have e0_ : ((l0.take ((ji5) : Int).toNat).length : Int) = max (ji5) 0 := (by rw [List.length_take]; have q_ : (ji5) ≤ (l0.length : Int) := (by rw [← hji5]; unfold mn; (repeat' split) <;> omega); omega); rw [← e0_]; exact c11b1)))
          clear c11
          (first | rw [c11b0] | (simp only [i64_w, i32_w]; rw [c11b0]) | skip)
          have H' := Aside0.mk H
          clear H
          go_wp2
          go_meet
          case rel => exact ⟨_, (true), (by first | rfl | (simp; done) | (simp [*]; done)), H', ⟨by first | omega | exact Nat.le_refl _⟩, ⟨by repeat (first | (with_reducible first | exact HB.out | apply below_alloc | apply pw_below_drewN | apply below_drew1) | exact HB.out)⟩⟩
        · rw [if_neg c11] at H
          have c11b0 : (((l0.take ((ji5) : Int).toNat).length : Int) == 0) = false := beq_eq_false_iff_ne.mpr c11
          (try (have c11q0 : ((max (ji5) 0 : Int) == 0) = false := (by have e0_ : ((l0.take ((ji5) : Int).toNat).length : Int) = max (ji5) 0 := (by rw [List.length_take]; have q_ : (ji5) ≤ (l0.length : Int) := (by rw [← hji5]; unfold mn; (repeat' split) <;> omega); omega); rw [← e0_]; exact c11b0)))
          (try (have c11r0 : ¬ (max (ji5) 0 : Int) = 0 := by have e0_ : ((l0.take ((ji5) : Int).toNat).length : Int) = max (ji5) 0 := (by rw [List.length_take]; have q_ : (ji5) ≤ (l0.length : Int) := (by rw [← hji5]; unfold mn; (repeat' split) <;> omega); omega); rw [← e0_]; simpa using c11b0))
          have c11m2 : ((max (ji5) 0 : Int) == 0) = false := by have e0_ : ((l0.take ((ji5) : Int).toNat).length : Int) = max (ji5) 0 := (by rw [List.length_take]; have q_ : (ji5) ≤ (l0.length : Int) := (by rw [← hji5]; unfold mn; (repeat' split) <;> omega); omega); rw [← e0_]; exact c11b0
          have c11b1 : (((l0.take ((ji5) : Int).toNat).length : Int) != 0) = true := bne_iff_ne.mpr c11
          (try (have c11q1 : ((max (ji5) 0 : Int) != 0) = true := (by have e0_ : ((l0.take ((ji5) : Int).toNat).length : Int) = max (ji5) 0 := (by rw [List.length_take]; have q_ : (ji5) ≤ (l0.length : Int) := (by rw [← hji5]; unfold mn; (repeat' split) <;> omega); omega); rw [← e0_]; exact c11b1)))
          have c11b2 : ¬ ((l0.take ((ji5) : Int).toNat) = []) := fun h_ => c11 (by rw [h_]; rfl)
          (first | rw [c11b0] | (simp only [i64_w, i32_w]; rw [c11b0]) | skip)
          have H' := Aside0.mk H
          clear H
          go_wp2
          go_meet
          case rel => exact ⟨_, (((l1.length : Int) == 0)), (by first | rfl | (simp; done) | (simp [*]; done)), H', ⟨by first | omega | exact Nat.le_refl _⟩, ⟨by repeat (first | (with_reducible first | exact HB.out | apply below_alloc | apply pw_below_drewN | apply below_drew1) | exact HB.out)⟩⟩
      case rest =>
        clear HC8
        try clear c1
        try clear c2
        try clear p2
        try clear c6
        try clear c6b0
        try clear c6b1
        try clear c7
        try clear c7b0
        try clear c7b1
        try clear c8
        try clear c11
        try clear c11b0
        try clear c11b1
        try clear c11b2
        obtain ⟨kq, x29_7, rfl, HA, HJ7, HB⟩ := hcut
        cases kq with
        | zero => exact absurd HA.out (by simp [arboristlaw01_TupleAll.j0])
        | succ kj7 =>
          have H := HA.out
          clear HA
          simp only [arboristlaw01_TupleAll.j0] at H
          by_cases c12 : x29_7 = true
          · subst c12
            have H1 : (if t367 = true then ((tuple_Pick.f (l0.take ((ji5) : Int).toNat) ([] : List Int)).bind fun t369 => (some ((t369.length : Int) == 0))) else (some false)) = some r := by rw [if_pos rfl] at H; exact H
            clear H
            have H := H1
            clear H1
            by_cases c13 : t367 = true
            · subst c13
              have H1 : ((tuple_Pick.f (l0.take ((ji5) : Int).toNat) ([] : List Int)).bind fun t369 => (some ((t369.length : Int) == 0))) = some r := by rw [if_pos rfl] at H; exact H
              clear H
              have H := H1
              clear H1
              replace H := Option.bind_eq_some_iff.mp H
              obtain ⟨t369, A140, H⟩ := H
              replace H : (some ((t369.length : Int) == 0)) = some r := H
              have A14 := Aside0.mk A140
              clear A140
              obtain rfl := Option.some.inj H
              go_wp2_with (first | (go_at_call 21; (with_reducible show Calls _ _ #[_, .slice none 0 0] _ _); have e0_ : (l0.take ((ji5) : Int).toNat).length = ((ji5) : Int).toNat := (by rw [List.length_take]; have q_ : (ji5) ≤ (l0.length : Int) := (by rw [← hji5]; unfold mn; (repeat' split) <;> omega); omega); (with_reducible refine calls_at ((tuple_Pick.calls _ _ (l0.take ((ji5) : Int).toNat) _ _ ([] : List Int) t369 _ ?side1 ?side2 ?side3 ?side4 A14.out).mono ?_) (by (try simp only [e0_, List.length_nil]); first | done | rfl)); clear e0_; (case side1 => repeat (first | exact (Kd.C_below HR368.out HB.out) | (with_reducible refine Kd.C_alloc ?_ _) | (with_reducible refine Kd.C_drewN ?_ _) | (with_reducible refine Kd.C_drew ?_))); (case side2 => exact HC368.out); (case side3 => exact Kd.C_nil _ _); (case side4 => exact Nat.le_refl _); rintro e w15 ⟨v370, rfl, ho0, hb⟩; have n0_ := Aside0.mk (Kd.R_lower ho0 (below_size (by repeat (first | (with_reducible first | exact HB.out | apply below_alloc | apply pw_below_drewN | apply below_drew1) | exact HB.out)))); have n1_ := Aside0.mk (below_step (by repeat (first | (with_reducible first | exact HB.out | apply below_alloc | apply pw_below_drewN | apply below_drew1) | exact HB.out)) hb); clear HB; have HO371 := n0_; have HB := n1_; clear n0_ n1_; (try clear hb); (try clear hb2); (try clear hk); (try clear hi); (try clear ho0); obtain ⟨Ao16, co16, eo16⟩ := Kd.R_slice HO371.out; subst eo16))
              go_ret
              exact ⟨by first | rfl | (simp [errW_none, errW_some] <;> rfl) | (simp only [← hji5]; first | rfl | (simp [errW_none, errW_some] <;> rfl)) | (simp [*, errW_none, errW_some] <;> rfl), by repeat (first | (with_reducible first | exact HB.out | apply below_alloc | apply pw_below_drewN | apply below_drew1) | exact HB.out)⟩
            · replace c13 := Bool.eq_false_iff.mpr c13
              subst c13
              have H1 : (some false) = some r := by rw [if_neg (show ¬ (false = true) by decide)] at H; exact H
              clear H
              have H := H1
              clear H1
              exact absurd ((Option.some.inj H).trans HT_.out) (by decide)
          · replace c12 := Bool.eq_false_iff.mpr c12
            subst c12
            have H1 : (arboristlaw01_TupleAll.l0 kj7 (l0.take ((ji5) : Int).toNat) l1 l2 t367 ([] : List Int) 0) = some r := by rw [if_neg (show ¬ (false = true) by decide)] at H; exact H
            clear H
            have H := H1
            clear H1
            have H' := Aside0.mk H
            clear H
            go_wp2
            go_loopg [8, 9] kj7 (fun kq v8 v9 w' => ∃ (x8_2 : List Int) (x9_2 : Int), v9 = .int .i64 x9_2 ∧ Aside0 (arboristlaw01_TupleAll.l0 kq (l0.take ((ji5) : Int).toNat) l1 l2 t367 x8_2 x9_2 = some r) ∧ Aside0 (kq ≤ kj7) ∧ Aside0 (Kd.R (Kd.int .i64) 3 w' w.heap.size (fun _ => True) v8 x8_2) ∧ Aside0 (Below w.heap.size w w'))
            case atStart => exact ⟨(([] : List Int)), (0), (by first | rfl | (simp; done) | (simp [*]; done)), H', ⟨Nat.le_refl _⟩, ⟨by first | exact Kd.R_nil _ _ _ _ _ | exact Kd.N_nil _ _ _ _ _ | exact Kd.V_nil _ _ _ _ _ | exact Kd.Q_nil _ _ _ _ _ | exact Kd.S_nil _ _ _ _ _⟩, ⟨by repeat (first | (with_reducible first | exact HB.out | apply below_alloc | apply pw_below_drewN | apply below_drew1) | exact HB.out)⟩⟩
            case round =>
              clear H'
              try clear c1
              try clear c2
              try clear p2
              try clear c6
              try clear c6b0
              try clear c6b1
              try clear c7
              try clear c7b0
              try clear c7b1
              try clear c8
              try clear c11
              try clear c11b0
              try clear c11b1
              try clear c11b2
              try clear c12
              try clear c13
              try clear p2
              obtain ⟨x8_2, x9_2, rfl, HA, HK2, HO_8, HB⟩ := hrel
              cases gk with
              | zero => exact absurd HA.out (by simp [arboristlaw01_TupleAll.l0])
              | succ k2 =>
                have H := HA.out
                clear HA
                simp only [arboristlaw01_TupleAll.l0] at H
                by_cases c17 : x9_2 < ((l0.take ((ji5) : Int).toNat).length : Int)
                · rw [if_pos c17] at H
                  have c17b0 : decide (x9_2 < ((l0.take ((ji5) : Int).toNat).length : Int)) = true := decide_eq_true c17
                  (try (have c17q0 : decide (x9_2 < (max (ji5) 0 : Int)) = true := (by have e0_ : ((l0.take ((ji5) : Int).toNat).length : Int) = max (ji5) 0 := (by rw [List.length_take]; have q_ : (ji5) ≤ (l0.length : Int) := (by rw [← hji5]; unfold mn; (repeat' split) <;> omega); omega); rw [← e0_]; exact c17b0)))
                  clear c17
                  by_cases c18 : x8_2.length < 17592186044416
                  · rw [if_pos c18] at H
                    have LMc18 := Aside0.mk c18
                    clear c18
                    obtain ⟨y372, hy372⟩ : ∃ y_ : List Int, y_ = (x8_2 ++ [x9_2]) := ⟨_, rfl⟩
                    replace H : (arboristlaw01_TupleAll.l0 k2 (l0.take ((ji5) : Int).toNat) l1 l2 t367 y372 (wrap64 (x9_2 + 1))) = some r := by first | (rw [hy372]; with_reducible exact H) | (have H2_ := (Option.bind_some _ _).symm.trans H; rw [hy372]; with_reducible exact H2_) | (have H2_ := (Option.bind_some _ _).symm.trans H; with_reducible exact H2_) | with_reducible exact H | (rw [hy372]; exact H) | exact H
                    have Ny372 := Aside0.mk hy372
                    clear hy372
                    have H' := Aside0.mk H
                    clear H
                    go_wp2_with (first | ((with_reducible refine gate_builtin (b := .append) (xs := #[.tmp 43, .tmp 45]) rfl ?_); (try (refine gate_guard (by rfl) ?_; dsimp only)); at_builtin; refine Kd.R_append (Kd.int .i64) (w0 := w) w.heap.size rfl (.tmp 43) (.tmp 45) 23 3 (.int .i64 0) 8 rfl Try.underlying23 info3 rfl (by decide) (by omega) u8 x8_2 x9_2 [.int .i64 x9_2] (fun _ => True) (fun _ => False) rfl rfl ?aP (fun _ hk => hk.elim) ?aF ?aO ?aB ?aS ?aL ?_; (case aP => exact rfl); (case aB => exact (by repeat (first | (with_reducible first | exact HB.out | apply below_alloc | apply pw_below_drewN | apply below_drew1) | exact HB.out))); (case aF => exact (fun _ _ => trivial)); (case aO => exact (by (with_reducible repeat (first | apply Kd.R_alloc | apply Kd.R_drewN | apply Kd.R_drew)); exact HO_8.out)); (case aS => exact (below_size (by repeat (first | (with_reducible first | exact HB.out | apply below_alloc | apply pw_below_drewN | apply below_drew1) | exact HB.out)))); (case aL => have := LMc18.out; omega); intro v373 w19 ho hb hg hat; rw [← Ny372.out] at ho; have n0_ := Aside0.mk (hb); have n1_ := Aside0.mk (ho); clear HB; clear HO_8; have HB := n0_; have HO374 := n1_; clear n0_ n1_; clear ho hb hg hat))
                    go_roundg k2
                    case measure => have := HJ7.out; have := HK2.out; omega
                    case rel => exact ⟨(y372), (wrap64 (x9_2 + 1)), (by first | rfl | (simp; done) | (simp [*]; done)), H', ⟨by have := HJ7.out; have := HK2.out; omega⟩, ⟨by (with_reducible repeat (first | apply Kd.R_alloc | apply Kd.R_drewN | apply Kd.R_drew)); exact HO374.out⟩, ⟨by repeat (first | (with_reducible first | exact HB.out | apply below_alloc | apply pw_below_drewN | apply below_drew1) | exact HB.out)⟩⟩
                  · rw [if_neg c18] at H
                    exact absurd H (by simp)
                · rw [if_neg c17] at H
                  have c17b0 : decide (x9_2 < ((l0.take ((ji5) : Int).toNat).length : Int)) = false := decide_eq_false c17
                  (try (have c17q0 : decide (x9_2 < (max (ji5) 0 : Int)) = false := (by have e0_ : ((l0.take ((ji5) : Int).toNat).length : Int) = max (ji5) 0 := (by rw [List.length_take]; have q_ : (ji5) ≤ (l0.length : Int) := (by rw [← hji5]; unfold mn; (repeat' split) <;> omega); omega); rw [← e0_]; exact c17b0)))
                  clear c17
                  have HC20 := Aside0.mk H
                  clear H
                  go_upto_block 2 with (fail)
                  go_cut [10] (fun v10 wc => ∃ (kq : Nat) (x10_19 : List Int), Aside0 (arboristlaw01_TupleAll.j3 kq (l0.take ((ji5) : Int).toNat) l2 t367 x8_2 x10_19 = some r) ∧ Aside0 (kq ≤ k2) ∧ Aside0 (Kd.R (Kd.int .i64) 3 wc w.heap.size (fun k_ => some k_ ≠ (v10 : Value).ownBlock) u8 x8_2) ∧ Aside0 (Kd.R (Kd.int .i64) 3 wc w.heap.size (fun k_ => some k_ ≠ (u8 : Value).ownBlock) v10 x10_19) ∧ Aside0 (Below w.heap.size w wc))
                  case first =>
                    have H := HC20.out
                    clear HC20
                    have H' := Aside0.mk H
                    clear H
                    go_wp2
                    go_loopg [10, 11] k2 (fun kq v10 v11 w' => ∃ (x10_3 : List Int) (x11_3 : Int), v11 = .int .i64 x11_3 ∧ Aside0 (arboristlaw01_TupleAll.l1 kq (l0.take ((ji5) : Int).toNat) l1 l2 t367 x8_2 x10_3 x11_3 = some r) ∧ Aside0 (kq ≤ k2) ∧ Aside0 (Kd.R (Kd.int .i64) 3 w' w.heap.size (fun k_ => some k_ ≠ (v10 : Value).ownBlock) u8 x8_2) ∧ Aside0 (Kd.R (Kd.int .i64) 3 w' w.heap.size (fun k_ => some k_ ≠ (u8 : Value).ownBlock) v10 x10_3) ∧ Aside0 (Below w.heap.size w w'))
                    case atStart => exact ⟨(([] : List Int)), (0), (by first | rfl | (simp; done) | (simp [*]; done)), H', ⟨Nat.le_refl _⟩, ⟨by (with_reducible repeat (first | apply Kd.R_alloc | apply Kd.R_drewN | apply Kd.R_drew)); exact Kd.R_mono HO_8.out (fun _ hk => (by simp [Value.ownBlock]))⟩, ⟨by first | exact Kd.R_nil _ _ _ _ _ | exact Kd.N_nil _ _ _ _ _ | exact Kd.V_nil _ _ _ _ _ | exact Kd.Q_nil _ _ _ _ _ | exact Kd.S_nil _ _ _ _ _⟩, ⟨by repeat (first | (with_reducible first | exact HB.out | apply below_alloc | apply pw_below_drewN | apply below_drew1) | exact HB.out)⟩⟩
                    case round =>
                      clear H'
                      try clear c1
                      try clear c2
                      try clear p2
                      try clear c6
                      try clear c6b0
                      try clear c6b1
                      try clear p6
                      try clear c7
                      try clear c7b0
                      try clear c7b1
                      try clear c8
                      try clear c11
                      try clear c11b0
                      try clear c11b1
                      try clear c11b2
                      try clear c12
                      try clear c13
                      try clear c17
                      try clear c17b0
                      try clear c18
                      try clear p2
                      obtain ⟨x10_3, x11_3, rfl, HA, HK3, HO_8, HO_10, HB⟩ := hrel
                      cases gk with
                      | zero => exact absurd HA.out (by simp [arboristlaw01_TupleAll.l1])
                      | succ k3 =>
                        have H := HA.out
                        clear HA
                        simp only [arboristlaw01_TupleAll.l1] at H
                        by_cases c21 : x11_3 < (l1.length : Int)
                        · rw [if_pos c21] at H
                          have c21b0 : decide (x11_3 < (l1.length : Int)) = true := decide_eq_true c21
                          clear c21
                          (first | rw [c21b0] | (simp only [i64_w, i32_w]; rw [c21b0]) | skip)
                          by_cases c22 : x11_3 < 60
                          · rw [if_pos c22] at H
                            have c22b0 : decide (x11_3 < 60) = true := decide_eq_true c22
                            clear c22
                            by_cases c23 : 0 ≤ x11_3
                            · rw [if_pos c23] at H
                              have c23b0 : decide (0 ≤ x11_3) = true := decide_eq_true c23
                              clear c23
                              by_cases c24 : ((l0.take ((ji5) : Int).toNat).length : Int) = 0
                              · rw [if_pos c24] at H
                                exact absurd H (by simp)
                              · rw [if_neg c24] at H
                                have c24b0 : (((l0.take ((ji5) : Int).toNat).length : Int) == 0) = false := beq_eq_false_iff_ne.mpr c24
                                (try (have c24q0 : ((max (ji5) 0 : Int) == 0) = false := (by have e0_ : ((l0.take ((ji5) : Int).toNat).length : Int) = max (ji5) 0 := (by rw [List.length_take]; have q_ : (ji5) ≤ (l0.length : Int) := (by rw [← hji5]; unfold mn; (repeat' split) <;> omega); omega); rw [← e0_]; exact c24b0)))
                                (try (have c24r0 : ¬ (max (ji5) 0 : Int) = 0 := by have e0_ : ((l0.take ((ji5) : Int).toNat).length : Int) = max (ji5) 0 := (by rw [List.length_take]; have q_ : (ji5) ≤ (l0.length : Int) := (by rw [← hji5]; unfold mn; (repeat' split) <;> omega); omega); rw [← e0_]; simpa using c24b0))
                                have c24m2 : ((max (ji5) 0 : Int) == 0) = false := by have e0_ : ((l0.take ((ji5) : Int).toNat).length : Int) = max (ji5) 0 := (by rw [List.length_take]; have q_ : (ji5) ≤ (l0.length : Int) := (by rw [← hji5]; unfold mn; (repeat' split) <;> omega); omega); rw [← e0_]; exact c24b0
                                have c24b1 : (((l0.take ((ji5) : Int).toNat).length : Int) != 0) = true := bne_iff_ne.mpr c24
                                (try (have c24q1 : ((max (ji5) 0 : Int) != 0) = true := (by have e0_ : ((l0.take ((ji5) : Int).toNat).length : Int) = max (ji5) 0 := (by rw [List.length_take]; have q_ : (ji5) ≤ (l0.length : Int) := (by rw [← hji5]; unfold mn; (repeat' split) <;> omega); omega); rw [← e0_]; exact c24b1)))
                                have c24b2 : ¬ ((l0.take ((ji5) : Int).toNat) = []) := fun h_ => c24 (by rw [h_]; rfl)
                                by_cases c25 : x10_3.length < 17592186044416
                                · rw [if_pos c25] at H
                                  have LMc25 := Aside0.mk c25
                                  clear c25
                                  obtain ⟨y376, hy376⟩ : ∃ y_ : List Int, y_ = (x10_3 ++ [Int.tmod (Go.bits .and .i64 (rd l1 x11_3) 65535) ((l0.take ((ji5) : Int).toNat).length : Int)]) := ⟨_, rfl⟩
                                  replace H : (arboristlaw01_TupleAll.l1 k3 (l0.take ((ji5) : Int).toNat) l1 l2 t367 x8_2 y376 (wrap64 (x11_3 + 1))) = some r := by first | (rw [hy376]; with_reducible exact H) | (have H2_ := (Option.bind_some _ _).symm.trans H; rw [hy376]; with_reducible exact H2_) | (have H2_ := (Option.bind_some _ _).symm.trans H; with_reducible exact H2_) | with_reducible exact H | (rw [hy376]; exact H) | exact H
                                  rw [show ((l0.take ((ji5) : Int).toNat).length : Int) = max (ji5) 0 from (by rw [List.length_take]; have q_ : (ji5) ≤ (l0.length : Int) := (by rw [← hji5]; unfold mn; (repeat' split) <;> omega); omega)] at hy376
                                  have Ny376 := Aside0.mk hy376
                                  clear hy376
                                  have H' := Aside0.mk H
                                  clear H
                                  have p375 : 0 ≤ (x11_3 : Int) := of_decide_eq_true (by first | (with_reducible assumption) | assumption)
                                  have q375 : x11_3 < (l1.length : Int) := of_decide_eq_true (by first | (with_reducible assumption) | assumption)
                                  obtain ⟨ad375, e375, hx375_0⟩ := Kd.at_int HR1.out x11_3 p375 q375
                                  cases e375
                                  replace hx375_0 := (HB.out.cell (World.block_lt_of_cell? w _ hx375_0)).trans hx375_0
                                  replace p375 := eq_true p375
                                  replace q375 := eq_true q375
                                  go_wp2_with (first | ((with_reducible refine gate_builtin (b := .append) (xs := #[.tmp 57, .tmp 66]) rfl ?_); (try (refine gate_guard (by rfl) ?_; dsimp only)); at_builtin; refine Kd.R_append (Kd.int .i64) (w0 := w) w.heap.size rfl (.tmp 57) (.tmp 66) 23 3 (.int .i64 0) 8 rfl Try.underlying23 info3 rfl (by decide) (by omega) u10 x10_3 (Int.tmod (Go.bits .and .i64 (rd l1 x11_3) 65535) (max (ji5) 0 : Int)) [.int .i64 (Int.tmod (Go.bits .and .i64 (rd l1 x11_3) 65535) (max (ji5) 0 : Int))] (fun k_ => some k_ ≠ (u8 : Value).ownBlock) (fun _ => False) rfl rfl ?aP (fun _ hk => hk.elim) ?aF ?aO ?aB ?aS ?aL ?_; (case aP => exact rfl); (case aB => exact (by repeat (first | (with_reducible first | exact HB.out | apply below_alloc | apply pw_below_drewN | apply below_drew1) | exact HB.out))); (case aF => exact (fun k_ hk => Kd.fresh' (Kd.R_lt (by (with_reducible repeat (first | apply Kd.R_alloc | apply Kd.R_drewN | apply Kd.R_drew)); exact HO_8.out)) k_ hk)); (case aO => exact (by (with_reducible repeat (first | apply Kd.R_alloc | apply Kd.R_drewN | apply Kd.R_drew)); exact HO_10.out)); (case aS => exact (below_size (by repeat (first | (with_reducible first | exact HB.out | apply below_alloc | apply pw_below_drewN | apply below_drew1) | exact HB.out)))); (case aL => have := LMc25.out; omega); intro v377 w26 ho hb hg hat; rw [← Ny376.out] at ho; have n0_ := Aside0.mk (Kd.R_after (ok := (fun _ => True)) (by (with_reducible repeat (first | apply Kd.R_alloc | apply Kd.R_drewN | apply Kd.R_drew)); exact Kd.R_mono HO_8.out (fun _ hk => ⟨trivial, hk⟩)) hg hat); have n1_ := Aside0.mk (hb); have n2_ := Aside0.mk (ho); clear HO_8; clear HB; clear HO_10; have HO_8 := n0_; have HB := n1_; have HO378 := n2_; clear n0_ n1_ n2_; clear ho hb hg hat))
                                  go_roundg k3
                                  case measure => have := HJ7.out; have := HK2.out; have := HK3.out; omega
                                  case rel => exact ⟨(y376), (wrap64 (x11_3 + 1)), (by first | rfl | (simp; done) | (simp [*]; done)), H', ⟨by have := HJ7.out; have := HK2.out; have := HK3.out; omega⟩, ⟨by (with_reducible repeat (first | apply Kd.R_alloc | apply Kd.R_drewN | apply Kd.R_drew)); exact Kd.R_mono HO_8.out (fun _ hk => hk.2)⟩, ⟨by (with_reducible repeat (first | apply Kd.R_alloc | apply Kd.R_drewN | apply Kd.R_drew)); exact HO378.out⟩, ⟨by repeat (first | (with_reducible first | exact HB.out | apply below_alloc | apply pw_below_drewN | apply below_drew1) | exact HB.out)⟩⟩
                                · rw [if_neg c25] at H
                                  exact absurd H (by simp)
                            · rw [if_neg c23] at H
                              exact absurd H (by simp)
                          · rw [if_neg c22] at H
                            have c22b0 : decide (x11_3 < 60) = false := decide_eq_false c22
                            clear c22
                            have H' := Aside0.mk H
                            clear H
                            go_wp2
                            go_meet
                            case rel => exact ⟨_, (x10_3), H', ⟨by have := HJ7.out; have := HK2.out; have := HK3.out; first | omega | exact Nat.le_refl _⟩, ⟨by (with_reducible repeat (first | apply Kd.R_alloc | apply Kd.R_drewN | apply Kd.R_drew)); exact HO_8.out⟩, ⟨by (with_reducible repeat (first | apply Kd.R_alloc | apply Kd.R_drewN | apply Kd.R_drew)); exact HO_10.out⟩, ⟨by repeat (first | (with_reducible first | exact HB.out | apply below_alloc | apply pw_below_drewN | apply below_drew1) | exact HB.out)⟩⟩
                        · rw [if_neg c21] at H
                          have c21b0 : decide (x11_3 < (l1.length : Int)) = false := decide_eq_false c21
                          clear c21
                          (first | rw [c21b0] | (simp only [i64_w, i32_w]; rw [c21b0]) | skip)
                          have H' := Aside0.mk H
                          clear H
                          go_wp2
                          go_meet
                          case rel => exact ⟨_, (x10_3), H', ⟨by have := HJ7.out; have := HK2.out; have := HK3.out; first | omega | exact Nat.le_refl _⟩, ⟨by (with_reducible repeat (first | apply Kd.R_alloc | apply Kd.R_drewN | apply Kd.R_drew)); exact HO_8.out⟩, ⟨by (with_reducible repeat (first | apply Kd.R_alloc | apply Kd.R_drewN | apply Kd.R_drew)); exact HO_10.out⟩, ⟨by repeat (first | (with_reducible first | exact HB.out | apply below_alloc | apply pw_below_drewN | apply below_drew1) | exact HB.out)⟩⟩
                  case rest =>
                    clear HC20
                    try clear c1
                    try clear c2
                    try clear p2
                    try clear p3
                    try clear q3
                    try clear hx3
                    try clear c6
                    try clear c6b0
                    try clear c6b1
                    try clear p6
                    try clear c7
                    try clear c7b0
                    try clear c7b1
                    try clear c8
                    try clear c11
                    try clear c11b0
                    try clear c11b1
                    try clear c11b2
                    try clear c12
                    try clear c13
                    try clear c17
                    try clear c17b0
                    try clear c18
                    try clear c21
                    try clear c21b0
                    try clear c22
                    try clear c22b0
                    try clear c23
                    try clear c23b0
                    try clear c24
                    try clear c24b0
                    try clear c24b1
                    try clear c24b2
                    try clear c25
                    try clear hx375_0
                    try clear p2
                    try clear p375
                    try clear p6
                    try clear q375
                    obtain ⟨kq, x10_19, HA, HJ19, HO_8, HO_10, HB⟩ := hcut
                    cases kq with
                    | zero => exact absurd HA.out (by simp [arboristlaw01_TupleAll.j3])
                    | succ kj19 =>
                      have H := HA.out
                      clear HA
                      simp only [arboristlaw01_TupleAll.j3] at H
                      have HC27 := Aside0.mk H
                      clear H
                      go_upto_block 4 with (fail)
                      go_cut [12, 13] (fun v12 v13 wc => ∃ (kq : Nat) (x12_26 : List Int) (x13_26 : List Int), Aside0 (arboristlaw01_TupleAll.j5 kq (l0.take ((ji5) : Int).toNat) t367 x8_2 x10_19 x12_26 x13_26 = some r) ∧ Aside0 (kq ≤ kj19) ∧ Aside0 (Kd.R (Kd.int .i64) 3 wc w.heap.size (fun k_ => some k_ ≠ (u10 : Value).ownBlock ∧ some k_ ≠ (v12 : Value).ownBlock ∧ some k_ ≠ (v13 : Value).ownBlock) u8 x8_2) ∧ Aside0 (Kd.R (Kd.int .i64) 3 wc w.heap.size (fun k_ => some k_ ≠ (u8 : Value).ownBlock ∧ some k_ ≠ (v12 : Value).ownBlock ∧ some k_ ≠ (v13 : Value).ownBlock) u10 x10_19) ∧ Aside0 (Kd.R (Kd.int .i64) 3 wc w.heap.size (fun k_ => some k_ ≠ (u8 : Value).ownBlock ∧ some k_ ≠ (u10 : Value).ownBlock ∧ some k_ ≠ (v13 : Value).ownBlock) v12 x12_26) ∧ Aside0 (Kd.R (Kd.int .i64) 3 wc w.heap.size (fun k_ => some k_ ≠ (u8 : Value).ownBlock ∧ some k_ ≠ (u10 : Value).ownBlock ∧ some k_ ≠ (v12 : Value).ownBlock) v13 x13_26) ∧ Aside0 (Below w.heap.size w wc))
                      case first =>
                        have H := HC27.out
                        clear HC27
                        have H' := Aside0.mk H
                        clear H
                        go_wp2
                        go_loopg [12, 13, 14] kj19 (fun kq v12 v13 v14 w' => ∃ (x12_4 : List Int) (x13_4 : List Int) (x14_4 : Int), v14 = .int .i64 x14_4 ∧ Aside0 (arboristlaw01_TupleAll.l2 kq (l0.take ((ji5) : Int).toNat) l2 t367 x8_2 x10_19 x12_4 x13_4 x14_4 = some r) ∧ Aside0 (kq ≤ kj19) ∧ Aside0 (Kd.R (Kd.int .i64) 3 w' w.heap.size (fun k_ => some k_ ≠ (u10 : Value).ownBlock ∧ some k_ ≠ (v12 : Value).ownBlock ∧ some k_ ≠ (v13 : Value).ownBlock) u8 x8_2) ∧ Aside0 (Kd.R (Kd.int .i64) 3 w' w.heap.size (fun k_ => some k_ ≠ (u8 : Value).ownBlock ∧ some k_ ≠ (v12 : Value).ownBlock ∧ some k_ ≠ (v13 : Value).ownBlock) u10 x10_19) ∧ Aside0 (Kd.R (Kd.int .i64) 3 w' w.heap.size (fun k_ => some k_ ≠ (u8 : Value).ownBlock ∧ some k_ ≠ (u10 : Value).ownBlock ∧ some k_ ≠ (v13 : Value).ownBlock) v12 x12_4) ∧ Aside0 (Kd.R (Kd.int .i64) 3 w' w.heap.size (fun k_ => some k_ ≠ (u8 : Value).ownBlock ∧ some k_ ≠ (u10 : Value).ownBlock ∧ some k_ ≠ (v12 : Value).ownBlock) v13 x13_4) ∧ Aside0 (Below w.heap.size w w'))
                        case atStart => exact ⟨(([] : List Int)), (([] : List Int)), (0), (by first | rfl | (simp; done) | (simp [*]; done)), H', ⟨Nat.le_refl _⟩, ⟨by (with_reducible repeat (first | apply Kd.R_alloc | apply Kd.R_drewN | apply Kd.R_drew)); exact Kd.R_mono HO_8.out (fun _ hk => ⟨hk, ⟨(by simp [Value.ownBlock]), (by simp [Value.ownBlock])⟩⟩)⟩, ⟨by (with_reducible repeat (first | apply Kd.R_alloc | apply Kd.R_drewN | apply Kd.R_drew)); exact Kd.R_mono HO_10.out (fun _ hk => ⟨hk, ⟨(by simp [Value.ownBlock]), (by simp [Value.ownBlock])⟩⟩)⟩, ⟨by first | exact Kd.R_nil _ _ _ _ _ | exact Kd.N_nil _ _ _ _ _ | exact Kd.V_nil _ _ _ _ _ | exact Kd.Q_nil _ _ _ _ _ | exact Kd.S_nil _ _ _ _ _⟩, ⟨by first | exact Kd.R_nil _ _ _ _ _ | exact Kd.N_nil _ _ _ _ _ | exact Kd.V_nil _ _ _ _ _ | exact Kd.Q_nil _ _ _ _ _ | exact Kd.S_nil _ _ _ _ _⟩, ⟨by repeat (first | (with_reducible first | exact HB.out | apply below_alloc | apply pw_below_drewN | apply below_drew1) | exact HB.out)⟩⟩
                        case round =>
                          clear H'
                          try clear c1
                          try clear c2
                          try clear p2
                          try clear p3
                          try clear q3
                          try clear hx3
                          try clear c6
                          try clear c6b0
                          try clear c6b1
                          try clear p6
                          try clear c7
                          try clear c7b0
                          try clear c7b1
                          try clear c8
                          try clear c11
                          try clear c11b0
                          try clear c11b1
                          try clear c11b2
                          try clear c12
                          try clear c13
                          try clear c17
                          try clear c17b0
                          try clear c18
                          try clear c21
                          try clear c21b0
                          try clear c22
                          try clear c22b0
                          try clear c23
                          try clear c23b0
                          try clear c24
                          try clear c24b0
                          try clear c24b1
                          try clear c24b2
                          try clear c25
                          try clear hx375_0
                          try clear p2
                          try clear p3
                          try clear p375
                          try clear p6
                          try clear q3
                          try clear q375
                          obtain ⟨x12_4, x13_4, x14_4, rfl, HA, HK4, HO_8, HO_10, HO_12, HO_13, HB⟩ := hrel
                          cases gk with
                          | zero => exact absurd HA.out (by simp [arboristlaw01_TupleAll.l2])
                          | succ k4 =>
                            have H := HA.out
                            clear HA
                            simp only [arboristlaw01_TupleAll.l2] at H
                            by_cases c28 : x14_4 < (l2.length : Int)
                            · rw [if_pos c28] at H
                              have c28b0 : decide (x14_4 < (l2.length : Int)) = true := decide_eq_true c28
                              clear c28
                              (first | rw [c28b0] | (simp only [i64_w, i32_w]; rw [c28b0]) | skip)
                              by_cases c29 : x14_4 < 60
                              · rw [if_pos c29] at H
                                have c29b0 : decide (x14_4 < 60) = true := decide_eq_true c29
                                clear c29
                                by_cases c30 : 0 ≤ x14_4
                                · rw [if_pos c30] at H
                                  have c30b0 : decide (0 ≤ x14_4) = true := decide_eq_true c30
                                  clear c30
                                  by_cases c31 : (x10_19.length : Int) = 0
                                  · rw [if_pos c31] at H
                                    exact absurd H (by simp)
                                  · rw [if_neg c31] at H
                                    have c31b0 : ((x10_19.length : Int) == 0) = false := beq_eq_false_iff_ne.mpr c31
                                    have c31b1 : ((x10_19.length : Int) != 0) = true := bne_iff_ne.mpr c31
                                    have c31b2 : ¬ (x10_19 = []) := fun h_ => c31 (by rw [h_]; rfl)
                                    by_cases c32 : x12_4.length < 17592186044416
                                    · rw [if_pos c32] at H
                                      have LMc32 := Aside0.mk c32
                                      clear c32
                                      obtain ⟨y380, hy380⟩ : ∃ y_ : List Int, y_ = (x12_4 ++ [Int.tmod (Go.bits .and .i64 (rd l2 x14_4) 65535) (x10_19.length : Int)]) := ⟨_, rfl⟩
                                      replace H : (if 0 ≤ (Int.tmod (Go.bits .and .i64 (rd l2 x14_4) 65535) (x10_19.length : Int)) then (if (Int.tmod (Go.bits .and .i64 (rd l2 x14_4) 65535) (x10_19.length : Int)) < (x10_19.length : Int) then (if x13_4.length < 17592186044416 then (arboristlaw01_TupleAll.l2 k4 (l0.take ((ji5) : Int).toNat) l2 t367 x8_2 x10_19 y380 (x13_4 ++ [rd x10_19 (Int.tmod (Go.bits .and .i64 (rd l2 x14_4) 65535) (x10_19.length : Int))]) (wrap64 (x14_4 + 1))) else (none)) else (none)) else (none)) = some r := by first | (rw [hy380]; with_reducible exact H) | (have H2_ := (Option.bind_some _ _).symm.trans H; rw [hy380]; with_reducible exact H2_) | (have H2_ := (Option.bind_some _ _).symm.trans H; with_reducible exact H2_) | with_reducible exact H | (rw [hy380]; exact H) | exact H
                                      have Ny380 := Aside0.mk hy380
                                      clear hy380
                                      obtain ⟨ji33, hji33⟩ : ∃ j_ : Int, (Int.tmod (Go.bits .and .i64 (rd l2 x14_4) 65535) (x10_19.length : Int)) = j_ := ⟨_, rfl⟩
                                      replace H : (if 0 ≤ (ji33) then (if (ji33) < (x10_19.length : Int) then (if x13_4.length < 17592186044416 then (arboristlaw01_TupleAll.l2 k4 (l0.take ((ji5) : Int).toNat) l2 t367 x8_2 x10_19 y380 (x13_4 ++ [rd x10_19 (ji33)]) (wrap64 (x14_4 + 1))) else (none)) else (none)) else (none)) = some r := by first | (rw [hji33] at H; exact H) | (simp only [hji33] at H ⊢; exact H)
                                      (try rw [hji33] at Ny380)
                                      by_cases c34 : 0 ≤ (ji33)
                                      · rw [if_pos c34] at H
                                        have c34b0 : decide (0 ≤ (ji33)) = true := decide_eq_true c34
                                        clear c34
                                        by_cases c35 : (ji33) < (x10_19.length : Int)
                                        · rw [if_pos c35] at H
                                          have c35b0 : decide ((ji33) < (x10_19.length : Int)) = true := decide_eq_true c35
                                          clear c35
                                          by_cases c36 : x13_4.length < 17592186044416
                                          · rw [if_pos c36] at H
                                            have LMc36 := Aside0.mk c36
                                            clear c36
                                            obtain ⟨y384, hy384⟩ : ∃ y_ : List Int, y_ = (x13_4 ++ [rd x10_19 (ji33)]) := ⟨_, rfl⟩
                                            replace H : (arboristlaw01_TupleAll.l2 k4 (l0.take ((ji5) : Int).toNat) l2 t367 x8_2 x10_19 y380 y384 (wrap64 (x14_4 + 1))) = some r := by first | (rw [hy384]; with_reducible exact H) | (have H2_ := (Option.bind_some _ _).symm.trans H; rw [hy384]; with_reducible exact H2_) | (have H2_ := (Option.bind_some _ _).symm.trans H; with_reducible exact H2_) | with_reducible exact H | (rw [hy384]; exact H) | exact H
                                            have Ny384 := Aside0.mk hy384
                                            clear hy384
                                            have H' := Aside0.mk H
                                            clear H
                                            have p379 : 0 ≤ (x14_4 : Int) := of_decide_eq_true (by first | (with_reducible assumption) | assumption)
                                            have q379 : x14_4 < (l2.length : Int) := of_decide_eq_true (by first | (with_reducible assumption) | assumption)
                                            obtain ⟨ad379, e379, hx379_0⟩ := Kd.at_int HR2.out x14_4 p379 q379
                                            cases e379
                                            replace hx379_0 := (HB.out.cell (World.block_lt_of_cell? w _ hx379_0)).trans hx379_0
                                            replace p379 := eq_true p379
                                            replace q379 := eq_true q379
                                            obtain ⟨Ao37, co37, eo37⟩ := Kd.R_slice HO_10.out
                                            subst eo37
                                            go_wp2_with (first | ((with_reducible refine gate_builtin (b := .append) (xs := #[.tmp 86, .tmp 88]) rfl ?_); (try (refine gate_guard (by rfl) ?_; dsimp only)); at_builtin; refine Kd.R_append (Kd.int .i64) (w0 := w) w.heap.size rfl (.tmp 86) (.tmp 88) 23 3 (.int .i64 0) 8 rfl Try.underlying23 info3 rfl (by decide) (by omega) u12 x12_4 ji33 [.int .i64 ji33] (fun k_ => some k_ ≠ (u8 : Value).ownBlock ∧ some k_ ≠ (.slice Ao37 x10_19.length co37 : Value).ownBlock ∧ some k_ ≠ (u13 : Value).ownBlock) (fun _ => False) rfl rfl ?aP (fun _ hk => hk.elim) ?aF ?aO ?aB ?aS ?aL ?_; (case aP => exact rfl); (case aB => exact (by repeat (first | (with_reducible first | exact HB.out | apply below_alloc | apply pw_below_drewN | apply below_drew1) | exact HB.out))); (case aF => exact (fun k_ hk => ⟨Kd.fresh' (Kd.R_lt (by (with_reducible repeat (first | apply Kd.R_alloc | apply Kd.R_drewN | apply Kd.R_drew)); exact HO_8.out)) k_ hk, Kd.fresh' (Kd.R_lt (by (with_reducible repeat (first | apply Kd.R_alloc | apply Kd.R_drewN | apply Kd.R_drew)); exact HO_10.out)) k_ hk, Kd.fresh' (Kd.R_lt (by (with_reducible repeat (first | apply Kd.R_alloc | apply Kd.R_drewN | apply Kd.R_drew)); exact HO_13.out)) k_ hk⟩)); (case aO => exact (by (with_reducible repeat (first | apply Kd.R_alloc | apply Kd.R_drewN | apply Kd.R_drew)); exact HO_12.out)); (case aS => exact (below_size (by repeat (first | (with_reducible first | exact HB.out | apply below_alloc | apply pw_below_drewN | apply below_drew1) | exact HB.out)))); (case aL => have := LMc32.out; omega); intro v381 w38 ho hb hg hat; rw [← Ny380.out] at ho; have n0_ := Aside0.mk (Kd.R_after (ok := (fun k_ => some k_ ≠ (.slice Ao37 x10_19.length co37 : Value).ownBlock ∧ some k_ ≠ (u13 : Value).ownBlock)) (by (with_reducible repeat (first | apply Kd.R_alloc | apply Kd.R_drewN | apply Kd.R_drew)); exact Kd.R_mono HO_8.out (fun _ hk => ⟨⟨hk.1, hk.2.2⟩, hk.2.1⟩)) hg hat); have n1_ := Aside0.mk (Kd.R_after (ok := (fun k_ => some k_ ≠ (u8 : Value).ownBlock ∧ some k_ ≠ (u13 : Value).ownBlock)) (by (with_reducible repeat (first | apply Kd.R_alloc | apply Kd.R_drewN | apply Kd.R_drew)); exact Kd.R_mono HO_10.out (fun _ hk => ⟨⟨hk.1, hk.2.2⟩, hk.2.1⟩)) hg hat); have n2_ := Aside0.mk (Kd.R_after (ok := (fun k_ => some k_ ≠ (u8 : Value).ownBlock ∧ some k_ ≠ (.slice Ao37 x10_19.length co37 : Value).ownBlock)) (by (with_reducible repeat (first | apply Kd.R_alloc | apply Kd.R_drewN | apply Kd.R_drew)); exact Kd.R_mono HO_13.out (fun _ hk => ⟨⟨hk.1, hk.2.1⟩, hk.2.2⟩)) hg hat); have n3_ := Aside0.mk (hb); have n4_ := Aside0.mk (ho); clear HO_8; clear HO_10; clear HO_13; clear HB; clear HO_12; have HO_8 := n0_; have HO_10 := n1_; have HO_13 := n2_; have HB := n3_; have HO382 := n4_; clear n0_ n1_ n2_ n3_ n4_; clear ho hb hg hat; have p383 : 0 ≤ ((ji33) : Int) := of_decide_eq_true (by first | (with_reducible assumption) | assumption); have q383 : (ji33) < (x10_19.length : Int) := of_decide_eq_true (by first | (with_reducible assumption) | assumption); obtain ⟨ad383, e383, hx383_0⟩ := Kd.at_int (Kd.R_reads' HO_10.out).2.2 (ji33) p383 q383; cases e383; replace p383 := eq_true p383; replace q383 := eq_true q383) | ((with_reducible refine gate_builtin (b := .append) (xs := #[.tmp 90, .tmp 95]) rfl ?_); (try (refine gate_guard (by rfl) ?_; dsimp only)); at_builtin; refine Kd.R_append (Kd.int .i64) (w0 := w) w.heap.size rfl (.tmp 90) (.tmp 95) 23 3 (.int .i64 0) 8 rfl Try.underlying23 info3 rfl (by decide) (by omega) u13 x13_4 (rd x10_19 (ji33)) [.int .i64 (rd x10_19 (ji33))] (fun k_ => some k_ ≠ (u8 : Value).ownBlock ∧ some k_ ≠ (.slice (some ad383) x10_19.length co37 : Value).ownBlock ∧ some k_ ≠ (v381 : Value).ownBlock) (fun _ => False) rfl rfl ?aP (fun _ hk => hk.elim) ?aF ?aO ?aB ?aS ?aL ?_; (case aP => exact rfl); (case aB => exact (by repeat (first | (with_reducible first | exact HB.out | apply below_alloc | apply pw_below_drewN | apply below_drew1) | exact HB.out))); (case aF => exact (fun k_ hk => ⟨Kd.fresh' (Kd.R_lt (by (with_reducible repeat (first | apply Kd.R_alloc | apply Kd.R_drewN | apply Kd.R_drew)); exact HO_8.out)) k_ hk, Kd.fresh' (Kd.R_lt (by (with_reducible repeat (first | apply Kd.R_alloc | apply Kd.R_drewN | apply Kd.R_drew)); exact HO_10.out)) k_ hk, Kd.fresh' (Kd.R_lt (by (with_reducible repeat (first | apply Kd.R_alloc | apply Kd.R_drewN | apply Kd.R_drew)); exact HO382.out)) k_ hk⟩)); (case aO => exact (by (with_reducible repeat (first | apply Kd.R_alloc | apply Kd.R_drewN | apply Kd.R_drew)); exact Kd.R_mono HO_13.out (fun _ hk => ⟨hk.1.1, ⟨hk.1.2, hk.2⟩⟩))); (case aS => exact (below_size (by repeat (first | (with_reducible first | exact HB.out | apply below_alloc | apply pw_below_drewN | apply below_drew1) | exact HB.out)))); (case aL => have := LMc36.out; omega); intro v385 w39 ho hb hg hat; rw [← Ny384.out] at ho; have n0_ := Aside0.mk (Kd.R_after (ok := (fun k_ => some k_ ≠ (.slice (some ad383) x10_19.length co37 : Value).ownBlock ∧ some k_ ≠ (v381 : Value).ownBlock)) (by (with_reducible repeat (first | apply Kd.R_alloc | apply Kd.R_drewN | apply Kd.R_drew)); exact Kd.R_mono HO_8.out (fun _ hk => ⟨⟨hk.1.1, hk.2⟩, hk.1.2⟩)) hg hat); have n1_ := Aside0.mk (Kd.R_after (ok := (fun k_ => some k_ ≠ (u8 : Value).ownBlock ∧ some k_ ≠ (v381 : Value).ownBlock)) (by (with_reducible repeat (first | apply Kd.R_alloc | apply Kd.R_drewN | apply Kd.R_drew)); exact Kd.R_mono HO_10.out (fun _ hk => ⟨⟨hk.1.1, hk.2⟩, hk.1.2⟩)) hg hat); have n2_ := Aside0.mk (Kd.R_after (ok := (fun k_ => some k_ ≠ (u8 : Value).ownBlock ∧ some k_ ≠ (.slice (some ad383) x10_19.length co37 : Value).ownBlock)) (by (with_reducible repeat (first | apply Kd.R_alloc | apply Kd.R_drewN | apply Kd.R_drew)); exact Kd.R_mono HO382.out (fun _ hk => ⟨⟨hk.1, hk.2.1⟩, hk.2.2⟩)) hg hat); have n3_ := Aside0.mk (hb); have n4_ := Aside0.mk (ho); clear HO_8; clear HO_10; clear HO382; clear HB; clear HO_13; have HO_8 := n0_; have HO_10 := n1_; have HO382 := n2_; have HB := n3_; have HO386 := n4_; clear n0_ n1_ n2_ n3_ n4_; clear ho hb hg hat))
                                            go_roundg k4
                                            case measure => have := HJ7.out; have := HK2.out; have := HJ19.out; have := HK4.out; omega
                                            case rel => exact ⟨(y380), (y384), (wrap64 (x14_4 + 1)), (by first | rfl | (simp; done) | (simp [*]; done)), H', ⟨by have := HJ7.out; have := HK2.out; have := HJ19.out; have := HK4.out; omega⟩, ⟨by (with_reducible repeat (first | apply Kd.R_alloc | apply Kd.R_drewN | apply Kd.R_drew)); exact Kd.R_mono HO_8.out (fun _ hk => ⟨hk.1.1, ⟨hk.1.2, hk.2⟩⟩)⟩, ⟨by (with_reducible repeat (first | apply Kd.R_alloc | apply Kd.R_drewN | apply Kd.R_drew)); exact Kd.R_mono HO_10.out (fun _ hk => ⟨hk.1.1, ⟨hk.1.2, hk.2⟩⟩)⟩, ⟨by (with_reducible repeat (first | apply Kd.R_alloc | apply Kd.R_drewN | apply Kd.R_drew)); exact Kd.R_mono HO382.out (fun _ hk => ⟨hk.1.1, ⟨hk.1.2, hk.2⟩⟩)⟩, ⟨by (with_reducible repeat (first | apply Kd.R_alloc | apply Kd.R_drewN | apply Kd.R_drew)); exact HO386.out⟩, ⟨by repeat (first | (with_reducible first | exact HB.out | apply below_alloc | apply pw_below_drewN | apply below_drew1) | exact HB.out)⟩⟩
                                          · rw [if_neg c36] at H
                                            exact absurd H (by simp)
                                        · rw [if_neg c35] at H
                                          exact absurd H (by simp)
                                      · rw [if_neg c34] at H
                                        exact absurd H (by simp)
                                    · rw [if_neg c32] at H
                                      exact absurd H (by simp)
                                · rw [if_neg c30] at H
                                  exact absurd H (by simp)
                              · rw [if_neg c29] at H
                                have c29b0 : decide (x14_4 < 60) = false := decide_eq_false c29
                                clear c29
                                have H' := Aside0.mk H
                                clear H
                                go_wp2
                                go_meet
                                case rel => exact ⟨_, (x12_4), (x13_4), H', ⟨by have := HJ7.out; have := HK2.out; have := HJ19.out; have := HK4.out; first | omega | exact Nat.le_refl _⟩, ⟨by (with_reducible repeat (first | apply Kd.R_alloc | apply Kd.R_drewN | apply Kd.R_drew)); exact HO_8.out⟩, ⟨by (with_reducible repeat (first | apply Kd.R_alloc | apply Kd.R_drewN | apply Kd.R_drew)); exact HO_10.out⟩, ⟨by (with_reducible repeat (first | apply Kd.R_alloc | apply Kd.R_drewN | apply Kd.R_drew)); exact HO_12.out⟩, ⟨by (with_reducible repeat (first | apply Kd.R_alloc | apply Kd.R_drewN | apply Kd.R_drew)); exact HO_13.out⟩, ⟨by repeat (first | (with_reducible first | exact HB.out | apply below_alloc | apply pw_below_drewN | apply below_drew1) | exact HB.out)⟩⟩
                            · rw [if_neg c28] at H
                              have c28b0 : decide (x14_4 < (l2.length : Int)) = false := decide_eq_false c28
                              clear c28
                              (first | rw [c28b0] | (simp only [i64_w, i32_w]; rw [c28b0]) | skip)
                              have H' := Aside0.mk H
                              clear H
                              go_wp2
                              go_meet
                              case rel => exact ⟨_, (x12_4), (x13_4), H', ⟨by have := HJ7.out; have := HK2.out; have := HJ19.out; have := HK4.out; first | omega | exact Nat.le_refl _⟩, ⟨by (with_reducible repeat (first | apply Kd.R_alloc | apply Kd.R_drewN | apply Kd.R_drew)); exact HO_8.out⟩, ⟨by (with_reducible repeat (first | apply Kd.R_alloc | apply Kd.R_drewN | apply Kd.R_drew)); exact HO_10.out⟩, ⟨by (with_reducible repeat (first | apply Kd.R_alloc | apply Kd.R_drewN | apply Kd.R_drew)); exact HO_12.out⟩, ⟨by (with_reducible repeat (first | apply Kd.R_alloc | apply Kd.R_drewN | apply Kd.R_drew)); exact HO_13.out⟩, ⟨by repeat (first | (with_reducible first | exact HB.out | apply below_alloc | apply pw_below_drewN | apply below_drew1) | exact HB.out)⟩⟩
                      case rest =>
                        clear HC27
                        try clear c1
                        try clear c2
                        try clear p2
                        try clear c3
                        try clear p3
                        try clear q3
                        try clear hx3
                        try clear c6
                        try clear c6b0
                        try clear c6b1
                        try clear p6
                        try clear c7
                        try clear c7b0
                        try clear c7b1
                        try clear c8
                        try clear c11
                        try clear c11b0
                        try clear c11b1
                        try clear c11b2
                        try clear c12
                        try clear c13
                        try clear c17
                        try clear c17b0
                        try clear c18
                        try clear c21
                        try clear c21b0
                        try clear c22
                        try clear c22b0
                        try clear c23
                        try clear c23b0
                        try clear c24
                        try clear c24b0
                        try clear c24b1
                        try clear c24b2
                        try clear c25
                        try clear c28
                        try clear c28b0
                        try clear c29
                        try clear c29b0
                        try clear c30
                        try clear c30b0
                        try clear c31
                        try clear c31b0
                        try clear c31b1
                        try clear c31b2
                        try clear c32
                        try clear c34
                        try clear c34b0
                        try clear c35
                        try clear c35b0
                        try clear c36
                        try clear p37
                        try clear q37
                        try clear hx37
                        try clear p38
                        try clear q38
                        try clear hx38
                        try clear hx375_0
                        try clear hx379_0
                        try clear hx383_0
                        try clear p2
                        try clear p3
                        try clear p375
                        try clear p379
                        try clear p383
                        try clear p6
                        try clear q3
                        try clear q375
                        try clear q379
                        try clear q383
                        obtain ⟨kq, x12_26, x13_26, HA, HJ26, HO_8, HO_10, HO_12, HO_13, HB⟩ := hcut
                        cases kq with
                        | zero => exact absurd HA.out (by simp [arboristlaw01_TupleAll.j5])
                        | succ kj26 =>
                          have H := HA.out
                          clear HA
                          simp only [arboristlaw01_TupleAll.j5] at H
                          by_cases c40 : t367 = true
                          · subst c40
                            have H1 : ((tuple_Pick.f (l0.take ((ji5) : Int).toNat) x8_2).bind fun t387 => ((tuple_Compare.f kj26 t387 (l0.take ((ji5) : Int).toNat)).bind fun t390 => (if t390 = 0 then ((tuple_Pick.f (l0.take ((ji5) : Int).toNat) x10_19).bind fun t391 => ((tuple_Pick.f t391 x12_26).bind fun t394 => ((tuple_Pick.f (l0.take ((ji5) : Int).toNat) x13_26).bind fun t397 => ((tuple_Compare.f kj26 t394 t397).bind fun t400 => (some (t400 == 0)))))) else (some false)))) = some r := by rw [if_pos rfl] at H; exact H
                            clear H
                            have H := H1
                            clear H1
                            replace H := Option.bind_eq_some_iff.mp H
                            obtain ⟨t387, A410, H⟩ := H
                            replace H : ((tuple_Compare.f kj26 t387 (l0.take ((ji5) : Int).toNat)).bind fun t390 => (if t390 = 0 then ((tuple_Pick.f (l0.take ((ji5) : Int).toNat) x10_19).bind fun t391 => ((tuple_Pick.f t391 x12_26).bind fun t394 => ((tuple_Pick.f (l0.take ((ji5) : Int).toNat) x13_26).bind fun t397 => ((tuple_Compare.f kj26 t394 t397).bind fun t400 => (some (t400 == 0)))))) else (some false))) = some r := H
                            have A41 := Aside0.mk A410
                            clear A410
                            replace H := Option.bind_eq_some_iff.mp H
                            obtain ⟨t390, A420, H⟩ := H
                            replace H : (if t390 = 0 then ((tuple_Pick.f (l0.take ((ji5) : Int).toNat) x10_19).bind fun t391 => ((tuple_Pick.f t391 x12_26).bind fun t394 => ((tuple_Pick.f (l0.take ((ji5) : Int).toNat) x13_26).bind fun t397 => ((tuple_Compare.f kj26 t394 t397).bind fun t400 => (some (t400 == 0)))))) else (some false)) = some r := H
                            have A42 := Aside0.mk A420
                            clear A420
                            by_cases c43 : t390 = 0
                            · rw [if_pos c43] at H
                              have c43b0 : (t390 == 0) = true := beq_iff_eq.mpr c43
                              have c43b1 : (t390 != 0) = false := bne_eq_false_iff_eq.mpr c43
                              clear c43
                              replace H := Option.bind_eq_some_iff.mp H
                              obtain ⟨t391, A440, H⟩ := H
                              replace H : ((tuple_Pick.f t391 x12_26).bind fun t394 => ((tuple_Pick.f (l0.take ((ji5) : Int).toNat) x13_26).bind fun t397 => ((tuple_Compare.f kj26 t394 t397).bind fun t400 => (some (t400 == 0))))) = some r := H
                              have A44 := Aside0.mk A440
                              clear A440
                              replace H := Option.bind_eq_some_iff.mp H
                              obtain ⟨t394, A450, H⟩ := H
                              replace H : ((tuple_Pick.f (l0.take ((ji5) : Int).toNat) x13_26).bind fun t397 => ((tuple_Compare.f kj26 t394 t397).bind fun t400 => (some (t400 == 0)))) = some r := H
                              have A45 := Aside0.mk A450
                              clear A450
                              replace H := Option.bind_eq_some_iff.mp H
                              obtain ⟨t397, A460, H⟩ := H
                              replace H : ((tuple_Compare.f kj26 t394 t397).bind fun t400 => (some (t400 == 0))) = some r := H
                              have A46 := Aside0.mk A460
                              clear A460
                              replace H := Option.bind_eq_some_iff.mp H
                              obtain ⟨t400, A470, H⟩ := H
                              replace H : (some (t400 == 0)) = some r := H
                              have A47 := Aside0.mk A470
                              clear A470
                              obtain rfl := Option.some.inj H
                              obtain ⟨Ao48, co48, eo48⟩ := Kd.R_slice HO_8.out
                              subst eo48
                              go_wp2_with (first | (go_at_call 21; (first | (with_reducible refine (tuple_Pick.calls _ _ (l0.take ((ji5) : Int).toNat) _ _ x8_2 t387 _ ?side1 ?side2 ?side3 ?side4 A41.out).mono ?_) | (have e0_ : (l0.take ((ji5) : Int).toNat).length = ((ji5) : Int).toNat := (by rw [List.length_take]; have q_ : (ji5) ≤ (l0.length : Int) := (by rw [← hji5]; unfold mn; (repeat' split) <;> omega); omega); (with_reducible refine calls_at ((tuple_Pick.calls _ _ (l0.take ((ji5) : Int).toNat) _ _ x8_2 t387 _ ?side1 ?side2 ?side3 ?side4 A41.out).mono ?_) (by (try simp only [e0_]); first | done | rfl)); clear e0_)); (case side1 => repeat (first | exact (Kd.C_below HR368.out HB.out) | (with_reducible refine Kd.C_alloc ?_ _) | (with_reducible refine Kd.C_drewN ?_ _) | (with_reducible refine Kd.C_drew ?_))); (case side2 => exact HC368.out); (case side3 => repeat (first | exact (Kd.R_reads' HO_8.out).2.2 | (with_reducible refine Kd.C_alloc ?_ _) | (with_reducible refine Kd.C_drewN ?_ _) | (with_reducible refine Kd.C_drew ?_))); (case side4 => exact (Kd.R_reads' HO_8.out).2.1); rintro e w49 ⟨v388, rfl, ho0, hb⟩; have n0_ := Aside0.mk (Kd.R_elder' (by (with_reducible repeat (first | apply Kd.R_alloc | apply Kd.R_drewN | apply Kd.R_drew)); exact HO_8.out) (Kd.R_base ho0) hb); have n1_ := Aside0.mk (Kd.R_elder' (by (with_reducible repeat (first | apply Kd.R_alloc | apply Kd.R_drewN | apply Kd.R_drew)); exact HO_10.out) (Kd.R_base ho0) hb); have n2_ := Aside0.mk (Kd.R_elder' (by (with_reducible repeat (first | apply Kd.R_alloc | apply Kd.R_drewN | apply Kd.R_drew)); exact HO_12.out) (Kd.R_base ho0) hb); have n3_ := Aside0.mk (Kd.R_elder' (by (with_reducible repeat (first | apply Kd.R_alloc | apply Kd.R_drewN | apply Kd.R_drew)); exact HO_13.out) (Kd.R_base ho0) hb); have n4_ := Aside0.mk (Kd.R_lower (Kd.R_new' (Kd.R_new' (Kd.R_new' (Kd.R_new' ho0 (Kd.R_lt (by (with_reducible repeat (first | apply Kd.R_alloc | apply Kd.R_drewN | apply Kd.R_drew)); exact HO_8.out))) (Kd.R_lt (by (with_reducible repeat (first | apply Kd.R_alloc | apply Kd.R_drewN | apply Kd.R_drew)); exact HO_10.out))) (Kd.R_lt (by (with_reducible repeat (first | apply Kd.R_alloc | apply Kd.R_drewN | apply Kd.R_drew)); exact HO_12.out))) (Kd.R_lt (by (with_reducible repeat (first | apply Kd.R_alloc | apply Kd.R_drewN | apply Kd.R_drew)); exact HO_13.out))) (below_size (by repeat (first | (with_reducible first | exact HB.out | apply below_alloc | apply pw_below_drewN | apply below_drew1) | exact HB.out)))); have n5_ := Aside0.mk (below_step (by repeat (first | (with_reducible first | exact HB.out | apply below_alloc | apply pw_below_drewN | apply below_drew1) | exact HB.out)) hb); clear HO_8; clear HO_10; clear HO_12; clear HO_13; clear HB; have HO_8 := n0_; have HO_10 := n1_; have HO_12 := n2_; have HO_13 := n3_; have HO389 := n4_; have HB := n5_; clear n0_ n1_ n2_ n3_ n4_ n5_; (try clear hb); (try clear hb2); (try clear hk); (try clear hi); (try clear ho0); obtain ⟨Ao50, co50, eo50⟩ := Kd.R_slice HO389.out; subst eo50) | (go_at_call 18; (first | (with_reducible refine (tuple_Compare.calls kj26 _ _ t387 _ _ (l0.take ((ji5) : Int).toNat) t390 _ ?side1 ?side2 ?side3 ?side4 A42.out).mono ?_) | (have e0_ : (l0.take ((ji5) : Int).toNat).length = ((ji5) : Int).toNat := (by rw [List.length_take]; have q_ : (ji5) ≤ (l0.length : Int) := (by rw [← hji5]; unfold mn; (repeat' split) <;> omega); omega); (with_reducible refine calls_at ((tuple_Compare.calls kj26 _ _ t387 _ _ (l0.take ((ji5) : Int).toNat) t390 _ ?side1 ?side2 ?side3 ?side4 A42.out).mono ?_) (by (try simp only [e0_]); first | done | rfl)); clear e0_)); (case side1 => repeat (first | exact (Kd.R_reads' HO389.out).2.2 | (with_reducible refine Kd.C_alloc ?_ _) | (with_reducible refine Kd.C_drewN ?_ _) | (with_reducible refine Kd.C_drew ?_))); (case side2 => exact (Kd.R_reads' HO389.out).2.1); (case side3 => repeat (first | exact (Kd.C_below HR368.out HB.out) | (with_reducible refine Kd.C_alloc ?_ _) | (with_reducible refine Kd.C_drewN ?_ _) | (with_reducible refine Kd.C_drew ?_))); (case side4 => exact HC368.out); rintro e w' ⟨rfl, ⟨nd, rfl⟩⟩; obtain ⟨Ao51, co51, eo51⟩ := Kd.R_slice HO_10.out; subst eo51) | (go_at_call 21; (first | (with_reducible refine (tuple_Pick.calls _ _ (l0.take ((ji5) : Int).toNat) _ _ x10_19 t391 _ ?side1 ?side2 ?side3 ?side4 A44.out).mono ?_) | (have e0_ : (l0.take ((ji5) : Int).toNat).length = ((ji5) : Int).toNat := (by rw [List.length_take]; have q_ : (ji5) ≤ (l0.length : Int) := (by rw [← hji5]; unfold mn; (repeat' split) <;> omega); omega); (with_reducible refine calls_at ((tuple_Pick.calls _ _ (l0.take ((ji5) : Int).toNat) _ _ x10_19 t391 _ ?side1 ?side2 ?side3 ?side4 A44.out).mono ?_) (by (try simp only [e0_]); first | done | rfl)); clear e0_)); (case side1 => repeat (first | exact (Kd.C_below HR368.out (by repeat (first | (with_reducible first | exact HB.out | apply below_alloc | apply pw_below_drewN | apply below_drew1) | exact HB.out))) | (with_reducible refine Kd.C_alloc ?_ _) | (with_reducible refine Kd.C_drewN ?_ _) | (with_reducible refine Kd.C_drew ?_))); (case side2 => exact HC368.out); (case side3 => repeat (first | exact (Kd.R_reads' HO_10.out).2.2 | (with_reducible refine Kd.C_alloc ?_ _) | (with_reducible refine Kd.C_drewN ?_ _) | (with_reducible refine Kd.C_drew ?_))); (case side4 => exact (Kd.R_reads' HO_10.out).2.1); rintro e w52 ⟨v392, rfl, ho0, hb⟩; have n0_ := Aside0.mk (Kd.R_elder' (by (with_reducible repeat (first | apply Kd.R_alloc | apply Kd.R_drewN | apply Kd.R_drew)); exact HO_8.out) (Kd.R_base ho0) hb); have n1_ := Aside0.mk (Kd.R_elder' (by (with_reducible repeat (first | apply Kd.R_alloc | apply Kd.R_drewN | apply Kd.R_drew)); exact HO_10.out) (Kd.R_base ho0) hb); have n2_ := Aside0.mk (Kd.R_elder' (by (with_reducible repeat (first | apply Kd.R_alloc | apply Kd.R_drewN | apply Kd.R_drew)); exact HO_12.out) (Kd.R_base ho0) hb); have n3_ := Aside0.mk (Kd.R_elder' (by (with_reducible repeat (first | apply Kd.R_alloc | apply Kd.R_drewN | apply Kd.R_drew)); exact HO_13.out) (Kd.R_base ho0) hb); have n4_ := Aside0.mk (Kd.R_elder' (by (with_reducible repeat (first | apply Kd.R_alloc | apply Kd.R_drewN | apply Kd.R_drew)); exact HO389.out) (Kd.R_base ho0) hb); have n5_ := Aside0.mk (Kd.R_lower (Kd.R_new' (Kd.R_new' (Kd.R_new' (Kd.R_new' (Kd.R_new' ho0 (Kd.R_lt (by (with_reducible repeat (first | apply Kd.R_alloc | apply Kd.R_drewN | apply Kd.R_drew)); exact HO_8.out))) (Kd.R_lt (by (with_reducible repeat (first | apply Kd.R_alloc | apply Kd.R_drewN | apply Kd.R_drew)); exact HO_10.out))) (Kd.R_lt (by (with_reducible repeat (first | apply Kd.R_alloc | apply Kd.R_drewN | apply Kd.R_drew)); exact HO_12.out))) (Kd.R_lt (by (with_reducible repeat (first | apply Kd.R_alloc | apply Kd.R_drewN | apply Kd.R_drew)); exact HO_13.out))) (Kd.R_lt (by (with_reducible repeat (first | apply Kd.R_alloc | apply Kd.R_drewN | apply Kd.R_drew)); exact HO389.out))) (below_size (by repeat (first | (with_reducible first | exact HB.out | apply below_alloc | apply pw_below_drewN | apply below_drew1) | exact HB.out)))); have n6_ := Aside0.mk (below_step (by repeat (first | (with_reducible first | exact HB.out | apply below_alloc | apply pw_below_drewN | apply below_drew1) | exact HB.out)) hb); clear HO_8; clear HO_10; clear HO_12; clear HO_13; clear HO389; clear HB; have HO_8 := n0_; have HO_10 := n1_; have HO_12 := n2_; have HO_13 := n3_; have HO389 := n4_; have HO393 := n5_; have HB := n6_; clear n0_ n1_ n2_ n3_ n4_ n5_ n6_; (try clear hb); (try clear hb2); (try clear hk); (try clear hi); (try clear ho0); obtain ⟨Ao53, co53, eo53⟩ := Kd.R_slice HO393.out; subst eo53; obtain ⟨Ao54, co54, eo54⟩ := Kd.R_slice HO_12.out; subst eo54) | (go_at_call 21; (with_reducible refine (tuple_Pick.calls _ _ t391 _ _ x12_26 t394 _ ?side1 ?side2 ?side3 ?side4 A45.out).mono ?_); (case side1 => repeat (first | exact (Kd.R_reads' HO393.out).2.2 | (with_reducible refine Kd.C_alloc ?_ _) | (with_reducible refine Kd.C_drewN ?_ _) | (with_reducible refine Kd.C_drew ?_))); (case side2 => exact (Kd.R_reads' HO393.out).2.1); (case side3 => repeat (first | exact (Kd.R_reads' HO_12.out).2.2 | (with_reducible refine Kd.C_alloc ?_ _) | (with_reducible refine Kd.C_drewN ?_ _) | (with_reducible refine Kd.C_drew ?_))); (case side4 => exact (Kd.R_reads' HO_12.out).2.1); rintro e w55 ⟨v395, rfl, ho0, hb⟩; have n0_ := Aside0.mk (Kd.R_elder' (by (with_reducible repeat (first | apply Kd.R_alloc | apply Kd.R_drewN | apply Kd.R_drew)); exact HO_8.out) (Kd.R_base ho0) hb); have n1_ := Aside0.mk (Kd.R_elder' (by (with_reducible repeat (first | apply Kd.R_alloc | apply Kd.R_drewN | apply Kd.R_drew)); exact HO_10.out) (Kd.R_base ho0) hb); have n2_ := Aside0.mk (Kd.R_elder' (by (with_reducible repeat (first | apply Kd.R_alloc | apply Kd.R_drewN | apply Kd.R_drew)); exact HO_12.out) (Kd.R_base ho0) hb); have n3_ := Aside0.mk (Kd.R_elder' (by (with_reducible repeat (first | apply Kd.R_alloc | apply Kd.R_drewN | apply Kd.R_drew)); exact HO_13.out) (Kd.R_base ho0) hb); have n4_ := Aside0.mk (Kd.R_elder' (by (with_reducible repeat (first | apply Kd.R_alloc | apply Kd.R_drewN | apply Kd.R_drew)); exact HO389.out) (Kd.R_base ho0) hb); have n5_ := Aside0.mk (Kd.R_elder' (by (with_reducible repeat (first | apply Kd.R_alloc | apply Kd.R_drewN | apply Kd.R_drew)); exact HO393.out) (Kd.R_base ho0) hb); have n6_ := Aside0.mk (Kd.R_lower (Kd.R_new' (Kd.R_new' (Kd.R_new' (Kd.R_new' (Kd.R_new' (Kd.R_new' ho0 (Kd.R_lt (by (with_reducible repeat (first | apply Kd.R_alloc | apply Kd.R_drewN | apply Kd.R_drew)); exact HO_8.out))) (Kd.R_lt (by (with_reducible repeat (first | apply Kd.R_alloc | apply Kd.R_drewN | apply Kd.R_drew)); exact HO_10.out))) (Kd.R_lt (by (with_reducible repeat (first | apply Kd.R_alloc | apply Kd.R_drewN | apply Kd.R_drew)); exact HO_12.out))) (Kd.R_lt (by (with_reducible repeat (first | apply Kd.R_alloc | apply Kd.R_drewN | apply Kd.R_drew)); exact HO_13.out))) (Kd.R_lt (by (with_reducible repeat (first | apply Kd.R_alloc | apply Kd.R_drewN | apply Kd.R_drew)); exact HO389.out))) (Kd.R_lt (by (with_reducible repeat (first | apply Kd.R_alloc | apply Kd.R_drewN | apply Kd.R_drew)); exact HO393.out))) (below_size (by repeat (first | (with_reducible first | exact HB.out | apply below_alloc | apply pw_below_drewN | apply below_drew1) | exact HB.out)))); have n7_ := Aside0.mk (below_step (by repeat (first | (with_reducible first | exact HB.out | apply below_alloc | apply pw_below_drewN | apply below_drew1) | exact HB.out)) hb); clear HO_8; clear HO_10; clear HO_12; clear HO_13; clear HO389; clear HO393; clear HB; have HO_8 := n0_; have HO_10 := n1_; have HO_12 := n2_; have HO_13 := n3_; have HO389 := n4_; have HO393 := n5_; have HO396 := n6_; have HB := n7_; clear n0_ n1_ n2_ n3_ n4_ n5_ n6_ n7_; (try clear hb); (try clear hb2); (try clear hk); (try clear hi); (try clear ho0); obtain ⟨Ao56, co56, eo56⟩ := Kd.R_slice HO_13.out; subst eo56) | (go_at_call 21; (first | (with_reducible refine (tuple_Pick.calls _ _ (l0.take ((ji5) : Int).toNat) _ _ x13_26 t397 _ ?side1 ?side2 ?side3 ?side4 A46.out).mono ?_) | (have e0_ : (l0.take ((ji5) : Int).toNat).length = ((ji5) : Int).toNat := (by rw [List.length_take]; have q_ : (ji5) ≤ (l0.length : Int) := (by rw [← hji5]; unfold mn; (repeat' split) <;> omega); omega); (with_reducible refine calls_at ((tuple_Pick.calls _ _ (l0.take ((ji5) : Int).toNat) _ _ x13_26 t397 _ ?side1 ?side2 ?side3 ?side4 A46.out).mono ?_) (by (try simp only [e0_]); first | done | rfl)); clear e0_)); (case side1 => repeat (first | exact (Kd.C_below HR368.out HB.out) | (with_reducible refine Kd.C_alloc ?_ _) | (with_reducible refine Kd.C_drewN ?_ _) | (with_reducible refine Kd.C_drew ?_))); (case side2 => exact HC368.out); (case side3 => repeat (first | exact (Kd.R_reads' HO_13.out).2.2 | (with_reducible refine Kd.C_alloc ?_ _) | (with_reducible refine Kd.C_drewN ?_ _) | (with_reducible refine Kd.C_drew ?_))); (case side4 => exact (Kd.R_reads' HO_13.out).2.1); rintro e w57 ⟨v398, rfl, ho0, hb⟩; have n0_ := Aside0.mk (Kd.R_elder' (by (with_reducible repeat (first | apply Kd.R_alloc | apply Kd.R_drewN | apply Kd.R_drew)); exact HO_8.out) (Kd.R_base ho0) hb); have n1_ := Aside0.mk (Kd.R_elder' (by (with_reducible repeat (first | apply Kd.R_alloc | apply Kd.R_drewN | apply Kd.R_drew)); exact HO_10.out) (Kd.R_base ho0) hb); have n2_ := Aside0.mk (Kd.R_elder' (by (with_reducible repeat (first | apply Kd.R_alloc | apply Kd.R_drewN | apply Kd.R_drew)); exact HO_12.out) (Kd.R_base ho0) hb); have n3_ := Aside0.mk (Kd.R_elder' (by (with_reducible repeat (first | apply Kd.R_alloc | apply Kd.R_drewN | apply Kd.R_drew)); exact HO_13.out) (Kd.R_base ho0) hb); have n4_ := Aside0.mk (Kd.R_elder' (by (with_reducible repeat (first | apply Kd.R_alloc | apply Kd.R_drewN | apply Kd.R_drew)); exact HO389.out) (Kd.R_base ho0) hb); have n5_ := Aside0.mk (Kd.R_elder' (by (with_reducible repeat (first | apply Kd.R_alloc | apply Kd.R_drewN | apply Kd.R_drew)); exact HO393.out) (Kd.R_base ho0) hb); have n6_ := Aside0.mk (Kd.R_elder' (by (with_reducible repeat (first | apply Kd.R_alloc | apply Kd.R_drewN | apply Kd.R_drew)); exact HO396.out) (Kd.R_base ho0) hb); have n7_ := Aside0.mk (Kd.R_lower (Kd.R_new' (Kd.R_new' (Kd.R_new' (Kd.R_new' (Kd.R_new' (Kd.R_new' (Kd.R_new' ho0 (Kd.R_lt (by (with_reducible repeat (first | apply Kd.R_alloc | apply Kd.R_drewN | apply Kd.R_drew)); exact HO_8.out))) (Kd.R_lt (by (with_reducible repeat (first | apply Kd.R_alloc | apply Kd.R_drewN | apply Kd.R_drew)); exact HO_10.out))) (Kd.R_lt (by (with_reducible repeat (first | apply Kd.R_alloc | apply Kd.R_drewN | apply Kd.R_drew)); exact HO_12.out))) (Kd.R_lt (by (with_reducible repeat (first | apply Kd.R_alloc | apply Kd.R_drewN | apply Kd.R_drew)); exact HO_13.out))) (Kd.R_lt (by (with_reducible repeat (first | apply Kd.R_alloc | apply Kd.R_drewN | apply Kd.R_drew)); exact HO389.out))) (Kd.R_lt (by (with_reducible repeat (first | apply Kd.R_alloc | apply Kd.R_drewN | apply Kd.R_drew)); exact HO393.out))) (Kd.R_lt (by (with_reducible repeat (first | apply Kd.R_alloc | apply Kd.R_drewN | apply Kd.R_drew)); exact HO396.out))) (below_size (by repeat (first | (with_reducible first | exact HB.out | apply below_alloc | apply pw_below_drewN | apply below_drew1) | exact HB.out)))); have n8_ := Aside0.mk (below_step (by repeat (first | (with_reducible first | exact HB.out | apply below_alloc | apply pw_below_drewN | apply below_drew1) | exact HB.out)) hb); clear HO_8; clear HO_10; clear HO_12; clear HO_13; clear HO389; clear HO393; clear HO396; clear HB; have HO_8 := n0_; have HO_10 := n1_; have HO_12 := n2_; have HO_13 := n3_; have HO389 := n4_; have HO393 := n5_; have HO396 := n6_; have HO399 := n7_; have HB := n8_; clear n0_ n1_ n2_ n3_ n4_ n5_ n6_ n7_ n8_; (try clear hb); (try clear hb2); (try clear hk); (try clear hi); (try clear ho0); obtain ⟨Ao58, co58, eo58⟩ := Kd.R_slice HO396.out; subst eo58; obtain ⟨Ao59, co59, eo59⟩ := Kd.R_slice HO399.out; subst eo59) | (go_at_call 18; (with_reducible refine (tuple_Compare.calls kj26 _ _ t394 _ _ t397 t400 _ ?side1 ?side2 ?side3 ?side4 A47.out).mono ?_); (case side1 => repeat (first | exact (Kd.R_reads' HO396.out).2.2 | (with_reducible refine Kd.C_alloc ?_ _) | (with_reducible refine Kd.C_drewN ?_ _) | (with_reducible refine Kd.C_drew ?_))); (case side2 => exact (Kd.R_reads' HO396.out).2.1); (case side3 => repeat (first | exact (Kd.R_reads' HO399.out).2.2 | (with_reducible refine Kd.C_alloc ?_ _) | (with_reducible refine Kd.C_drewN ?_ _) | (with_reducible refine Kd.C_drew ?_))); (case side4 => exact (Kd.R_reads' HO399.out).2.1); rintro e w' ⟨rfl, ⟨nd, rfl⟩⟩))
                              go_ret
                              exact ⟨by first | rfl | (simp [errW_none, errW_some] <;> rfl) | (simp only [← hji5]; first | rfl | (simp [errW_none, errW_some] <;> rfl)) | (simp [*, errW_none, errW_some] <;> rfl), by repeat (first | (with_reducible first | exact HB.out | apply below_alloc | apply pw_below_drewN | apply below_drew1) | exact HB.out)⟩
                            · rw [if_neg c43] at H
                              have c43b0 : (t390 == 0) = false := beq_eq_false_iff_ne.mpr c43
                              have c43b1 : (t390 != 0) = true := bne_iff_ne.mpr c43
                              exact absurd ((Option.some.inj H).trans HT_.out) (by decide)
                          · replace c40 := Bool.eq_false_iff.mpr c40
                            subst c40
                            have H1 : (some false) = some r := by rw [if_neg (show ¬ (false = true) by decide)] at H; exact H
                            clear H
                            have H := H1
                            clear H1
                            exact absurd ((Option.some.inj H).trans HT_.out) (by decide)
    · rw [if_neg c7] at H
      exact absurd H (by simp)
  · rw [if_neg c6] at H
    exact absurd H (by simp)

/-- THE ONE PURE STATEMENT of arboristlaw01_TupleAll: yours. -/
def arboristlaw01_TupleAll.Pure : Prop := ∀ (l0 : List Int) (l1 : List Int) (l2 : List Int), l0.length ≤ maxLen → l0.length * 8 ≤ 140737488351232 → (∀ x ∈ l0, (Lit.int .i64 x).wf = true) → l1.length ≤ maxLen → l1.length * 8 ≤ 140737488351232 → (∀ x ∈ l1, (Lit.int .i64 x).wf = true) → l2.length ≤ maxLen → l2.length * 8 ≤ 140737488351232 → (∀ x ∈ l2, (Lit.int .i64 x).wf = true) → ∃ k, arboristlaw01_TupleAll.f k l0 l1 l2 = some true
theorem arboristlaw01_TupleAll.walk (P : arboristlaw01_TupleAll.Pure) (a0 : Option Addr) (len0 cap0 : Nat) (z0 : List Int) (a1 : Option Addr) (len1 cap1 : Nat) (z1 : List Int) (a2 : Option Addr) (len2 cap2 : Nat) (z2 : List Int) (w : World) (w0 : (a0 = none ∧ len0 = 0 ∧ cap0 = 0 ∧ z0 = []) ∨ ∃ x, a0 = some x ∧ len0 ≤ cap0 ∧ cap0 ≤ maxLen ∧ z0.length = cap0 ∧ (∀ i, i < z0.length → w.cell? (x.add i) = some (.int .i64 (z0.getD i 0))) ∧ ∀ n ∈ z0, (Lit.int .i64 n).wf = true) (y0 : len0 * 8 ≤ 140737488351232) (w1 : (a1 = none ∧ len1 = 0 ∧ cap1 = 0 ∧ z1 = []) ∨ ∃ x, a1 = some x ∧ len1 ≤ cap1 ∧ cap1 ≤ maxLen ∧ z1.length = cap1 ∧ (∀ i, i < z1.length → w.cell? (x.add i) = some (.int .i64 (z1.getD i 0))) ∧ ∀ n ∈ z1, (Lit.int .i64 n).wf = true) (y1 : len1 * 8 ≤ 140737488351232) (w2 : (a2 = none ∧ len2 = 0 ∧ cap2 = 0 ∧ z2 = []) ∨ ∃ x, a2 = some x ∧ len2 ≤ cap2 ∧ cap2 ≤ maxLen ∧ z2.length = cap2 ∧ (∀ i, i < z2.length → w.cell? (x.add i) = some (.int .i64 (z2.getD i 0))) ∧ ∀ n ∈ z2, (Lit.int .i64 n).wf = true) (y2 : len2 * 8 ≤ 140737488351232) :
    Calls Try.prog 8 #[.slice a0 len0 cap0, .slice a1 len1 cap1, .slice a2 len2 cap2] w fun e w' => e = .returned (.bool true) ∧ Below w.heap.size w w' := by
  obtain ⟨l0, rfl, hr0, hm0, hw0, hc0⟩ := ReadsInt.ofRowC w0
  obtain ⟨l1, rfl, hr1, hm1, hw1, hc1⟩ := ReadsInt.ofRowC w1
  obtain ⟨l2, rfl, hr2, hm2, hw2, hc2⟩ := ReadsInt.ofRowC w2
  obtain ⟨k, h⟩ := P l0 l1 l2 hm0 y0 hw0 hm1 y1 hw1 hm2 y2 hw2
  refine (arboristlaw01_TupleAll.calls k _ _ l0 _ _ l1 _ _ l2 true w (Kd.C_of_reads (d := (0 : Int)) (h1 := fun _ => rfl) hr0) hc0 (Kd.C_of_reads (d := (0 : Int)) (h1 := fun _ => rfl) hr1) hc1 (Kd.C_of_reads (d := (0 : Int)) (h1 := fun _ => rfl) hr2) hc2 rfl h).mono ?_
  rintro e w' ⟨rfl, hd⟩
  exact ⟨rfl, hd⟩

end Go.Proofs.Ytlnmgljiggebiaa.Pr
