-- Printed by a program of this session's own (wip/tools/pp.py) over the kit's print.py; Lean checks it.
import Derived.Test.YtfgabdfnbkmaeaaDoorPr0
import Derived.Test.YtfgabdfnbkmaeaaDoorPr11
import Derived.Test.YtfgabdfnbkmaeaaDoorPr12
namespace Go.Proofs.YtfgabdfnbkmaeaaDoor.Pr
open Go.RowKit Go.Proofs.YtfgabdfnbkmaeaaDoorW.PrintWords Go.Proofs.YtfgabdfnbkmaeaaDoorW.PrintLast Go.Proofs.YtfgabdfnbkmaeaaDoorW.PrintMore
attribute [local go_sem] max2_int min2_int max_two min_two max_three min_three max_four min_four   -- for this text's walks alone
set_option linter.unusedVariables false
set_option linter.unusedSimpArgs false

/-! ### arboristlaw05_ScanPlaces: function 4 -/
mutual
def arboristlaw05_ScanPlaces.l0 : Nat → ByteArray → Bool → List (S32) → Int → Int → Option (Bool)
  | 0, _, _, _, _, _ => none
  | k + 1, x0, x3, x4, x7, x8 => if x8 < (x4.length : Int) then (if 0 ≤ x8 then (if ((rd_T32 x4 x8).f3) < x7 then (arboristlaw05_ScanPlaces.j1 k x0 x3 x4 x8 true ((rd_T32 x4 x8).f0) ((rd_T32 x4 x8).f1) ((rd_T32 x4 x8).f2) ((rd_T32 x4 x8).f3)) else (if ((rd_T32 x4 x8).f3) > (x0.size : Int) then (arboristlaw05_ScanPlaces.j1 k x0 x3 x4 x8 true ((rd_T32 x4 x8).f0) ((rd_T32 x4 x8).f1) ((rd_T32 x4 x8).f2) ((rd_T32 x4 x8).f3)) else (arboristlaw05_ScanPlaces.j1 k x0 x3 x4 x8 ((((rd_T32 x4 x8).f0) == 4) != (x8 == (wrap64 ((x4.length : Int) - 1)))) ((rd_T32 x4 x8).f0) ((rd_T32 x4 x8).f1) ((rd_T32 x4 x8).f2) ((rd_T32 x4 x8).f3)))) else (none)) else (if x3 = true then (if (x4.length : Int) > 0 then (if 0 ≤ (wrap64 ((x4.length : Int) - 1)) then (if (wrap64 ((x4.length : Int) - 1)) < (x4.length : Int) then (some (((rd_T32 x4 (wrap64 ((x4.length : Int) - 1))).f3) == (x0.size : Int))) else (none)) else (none)) else (some false)) else (some false))
def arboristlaw05_ScanPlaces.j1 : Nat → ByteArray → Bool → List (S32) → Int → Bool → Int → ByteArray → Int → Int → Option (Bool)
  | 0, _, _, _, _, _, _, _, _, _ => none
  | k + 1, x0, x3, x4, x8, x71, x212000, x212001, x212002, x212003 => if x71 = true then (some false) else (if x212000 = 2 then (if x212001.toList = ([] : List UInt8) then (arboristlaw05_ScanPlaces.j2 k x0 x3 x4 x8 (decide (x212003 ≥ (x0.size : Int))) x212000 x212001 x212002 x212003) else (arboristlaw05_ScanPlaces.j2 k x0 x3 x4 x8 true x212000 x212001 x212002 x212003)) else (if (wrap64 (x212003 + (x212001.size : Int))) > (x0.size : Int) then (some false) else (if 0 ≤ x212003 then (if x212003 ≤ (wrap64 (x212003 + (x212001.size : Int))) then (if (wrap64 (x212003 + (x212001.size : Int))) ≤ (x0.size : Int) then (if (x0.extract (x212003 : Int).toNat ((wrap64 (x212003 + (x212001.size : Int))) : Int).toNat).toList = x212001.toList then (arboristlaw05_ScanPlaces.l0 k x0 x3 x4 (wrap64 (x212003 + (x212001.size : Int))) (wrap64 (x8 + 1))) else (some false)) else (none)) else (none)) else (none))))
def arboristlaw05_ScanPlaces.j2 : Nat → ByteArray → Bool → List (S32) → Int → Bool → Int → ByteArray → Int → Int → Option (Bool)
  | 0, _, _, _, _, _, _, _, _, _ => none
  | k + 1, x0, x3, x4, x8, x90, x212000, x212001, x212002, x212003 => if x90 = true then (some false) else (if (wrap64 (x212003 + 1)) > (x0.size : Int) then (some false) else (if x212000 = 2 then (arboristlaw05_ScanPlaces.l0 k x0 x3 x4 (wrap64 (x212003 + 1)) (wrap64 (x8 + 1))) else (if 0 ≤ x212003 then (if x212003 ≤ (wrap64 (x212003 + 1)) then (if (wrap64 (x212003 + 1)) ≤ (x0.size : Int) then (if (x0.extract (x212003 : Int).toNat ((wrap64 (x212003 + 1)) : Int).toNat).toList = x212001.toList then (arboristlaw05_ScanPlaces.l0 k x0 x3 x4 (wrap64 (x212003 + 1)) (wrap64 (x8 + 1))) else (some false)) else (none)) else (none)) else (none))))
end
def arboristlaw05_ScanPlaces.f (k : Nat) (a0 : ByteArray) : Option (Bool) := (arboristlaw05_shown.f).bind fun t203 => (if 0 ≤ (mn (a0.size : Int) 3000) then (if (mn (a0.size : Int) 3000) ≤ (a0.size : Int) then ((scan_All.f (a0.extract 0 ((mn (a0.size : Int) 3000) : Int).toNat)).bind fun bt204 => (if bt204.2.2 = 0 then (arboristlaw05_ScanPlaces.l0 k (a0.extract 0 ((mn (a0.size : Int) 3000) : Int).toNat) t203 bt204.1 0 0) else (if t203 = true then (if (bt204.1.length : Int) = 0 then (if bt204.2.1 ≥ 0 then (some (decide (bt204.2.1 < ((a0.extract 0 ((mn (a0.size : Int) 3000) : Int).toNat).size : Int)))) else (some false)) else (some false)) else (some false)))) else (none)) else (none))
theorem arboristlaw05_ScanPlaces.mono_l : ∀ k, (∀ y0 y1 y2 y3 y4, LeO (arboristlaw05_ScanPlaces.l0 k y0 y1 y2 y3 y4) (arboristlaw05_ScanPlaces.l0 (k + 1) y0 y1 y2 y3 y4)) ∧ (∀ y0 y1 y2 y3 y4 y5 y6 y7 y8, LeO (arboristlaw05_ScanPlaces.j1 k y0 y1 y2 y3 y4 y5 y6 y7 y8) (arboristlaw05_ScanPlaces.j1 (k + 1) y0 y1 y2 y3 y4 y5 y6 y7 y8)) ∧ (∀ y0 y1 y2 y3 y4 y5 y6 y7 y8, LeO (arboristlaw05_ScanPlaces.j2 k y0 y1 y2 y3 y4 y5 y6 y7 y8) (arboristlaw05_ScanPlaces.j2 (k + 1) y0 y1 y2 y3 y4 y5 y6 y7 y8))
  | 0 => ⟨fun _ _ _ _ _ r h => by simp [arboristlaw05_ScanPlaces.l0] at h, fun _ _ _ _ _ _ _ _ _ r h => by simp [arboristlaw05_ScanPlaces.j1] at h, fun _ _ _ _ _ _ _ _ _ r h => by simp [arboristlaw05_ScanPlaces.j2] at h⟩
  | k + 1 => by
    obtain ⟨ih0, ih1, ih2⟩ := arboristlaw05_ScanPlaces.mono_l k
    refine ⟨?_, ?_, ?_⟩
    all_goals intros
    all_goals (first | unfold arboristlaw05_ScanPlaces.l0 | unfold arboristlaw05_ScanPlaces.j1 | unfold arboristlaw05_ScanPlaces.j2)
    all_goals repeat' first
    | (with_reducible exact ih0 _ _ _ _ _)
    | (with_reducible exact ih1 _ _ _ _ _ _ _ _ _)
    | (with_reducible exact ih2 _ _ _ _ _ _ _ _ _)
    | (with_reducible exact LeO.refl _)
    | (with_reducible exact LeO.none _)
    | (with_reducible refine LeO.ite ?_ ?_)
    | (with_reducible refine LeO.bind ?_ (fun _ => ?_))
    | exact ih0 _ _ _ _ _
    | exact ih1 _ _ _ _ _ _ _ _ _
    | exact ih2 _ _ _ _ _ _ _ _ _
    | exact LeO.none _
    | refine LeO.ite ?_ ?_
    | refine LeO.bind ?_ (fun _ => ?_)
theorem arboristlaw05_ScanPlaces.mono : ∀ a0 k, LeO (arboristlaw05_ScanPlaces.f k a0) (arboristlaw05_ScanPlaces.f (k + 1) a0) := by
  intro a0 k
  obtain ⟨ih0, ih1, ih2⟩ := arboristlaw05_ScanPlaces.mono_l k
  unfold arboristlaw05_ScanPlaces.f
  repeat' first
      | (with_reducible exact ih0 _ _ _ _ _)
      | (with_reducible exact ih1 _ _ _ _ _ _ _ _ _)
      | (with_reducible exact ih2 _ _ _ _ _ _ _ _ _)
      | (with_reducible exact LeO.refl _)
      | (with_reducible exact LeO.none _)
      | (with_reducible refine LeO.ite ?_ ?_)
      | (with_reducible refine LeO.bind ?_ (fun _ => ?_))
      | exact ih0 _ _ _ _ _
      | exact ih1 _ _ _ _ _ _ _ _ _
      | exact ih2 _ _ _ _ _ _ _ _ _
      | exact LeO.none _
      | refine LeO.ite ?_ ?_
      | refine LeO.bind ?_ (fun _ => ?_)
set_option maxHeartbeats 8000000 in
set_option maxRecDepth 100000 in
theorem arboristlaw05_ScanPlaces.calls (k : Nat) (a0 : ByteArray) (r : Bool) (w : World) (hTb : Tab64 w) (hT : r = true) (h : arboristlaw05_ScanPlaces.f k a0 = some r) :
    Calls Tryd.prog 4 #[.string a0] w fun e w' => e = .returned (.bool r) ∧ Below w.heap.size w w' := by
  have HTAB := Aside0.mk hTb
  clear hTb
  have HT_ := Aside0.mk (show r = true from hT)
  clear hT
  have hu32 := Tryd.underlying32
  have HB := Aside0.mk (Below.refl w.heap.size w)
  have H : ((arboristlaw05_shown.f).bind fun t203 => (if 0 ≤ (mn (a0.size : Int) 3000) then (if (mn (a0.size : Int) 3000) ≤ (a0.size : Int) then ((scan_All.f (a0.extract 0 ((mn (a0.size : Int) 3000) : Int).toNat)).bind fun bt204 => (if bt204.2.2 = 0 then (arboristlaw05_ScanPlaces.l0 k (a0.extract 0 ((mn (a0.size : Int) 3000) : Int).toNat) t203 bt204.1 0 0) else (if t203 = true then (if (bt204.1.length : Int) = 0 then (if bt204.2.1 ≥ 0 then (some (decide (bt204.2.1 < ((a0.extract 0 ((mn (a0.size : Int) 3000) : Int).toNat).size : Int)))) else (some false)) else (some false)) else (some false)))) else (none)) else (none))) = some r := h
  clear h
  replace H := Option.bind_eq_some_iff.mp H
  obtain ⟨t203, A20, H⟩ := H
  replace H : (if 0 ≤ (mn (a0.size : Int) 3000) then (if (mn (a0.size : Int) 3000) ≤ (a0.size : Int) then ((scan_All.f (a0.extract 0 ((mn (a0.size : Int) 3000) : Int).toNat)).bind fun bt204 => (if bt204.2.2 = 0 then (arboristlaw05_ScanPlaces.l0 k (a0.extract 0 ((mn (a0.size : Int) 3000) : Int).toNat) t203 bt204.1 0 0) else (if t203 = true then (if (bt204.1.length : Int) = 0 then (if bt204.2.1 ≥ 0 then (some (decide (bt204.2.1 < ((a0.extract 0 ((mn (a0.size : Int) 3000) : Int).toNat).size : Int)))) else (some false)) else (some false)) else (some false)))) else (none)) else (none)) = some r := H
  have A2 := Aside0.mk A20
  clear A20
  obtain ⟨ji3, hji3⟩ : ∃ j_ : Int, (mn (a0.size : Int) 3000) = j_ := ⟨_, rfl⟩
  replace H : (if 0 ≤ (ji3) then (if (ji3) ≤ (a0.size : Int) then ((scan_All.f (a0.extract 0 ((ji3) : Int).toNat)).bind fun bt204 => (if bt204.2.2 = 0 then (arboristlaw05_ScanPlaces.l0 k (a0.extract 0 ((ji3) : Int).toNat) t203 bt204.1 0 0) else (if t203 = true then (if (bt204.1.length : Int) = 0 then (if bt204.2.1 ≥ 0 then (some (decide (bt204.2.1 < ((a0.extract 0 ((ji3) : Int).toNat).size : Int)))) else (some false)) else (some false)) else (some false)))) else (none)) else (none)) = some r := by first | (rw [hji3] at H; exact H) | (simp only [hji3] at H ⊢; exact H)
  (try rw [hji3] at A2)
  (try (have hji3h : ji3 ≤ 3000 := by (rw [← hji3]; unfold mn; (repeat' split) <;> omega)))
  (try (have hji3g : ji3 ≤ 64 := by omega))
  (try (have hji3l : 0 ≤ ji3 := by (rw [← hji3]; unfold mn; (repeat' split) <;> omega)))
  (try (have hji3m : 0 ≤ ji3 := by omega))
  have hji3_ : (if 3000 < (a0.size : Int) then 3000 else (a0.size : Int)) = ji3 := hji3
  by_cases c4 : 0 ≤ (ji3)
  · rw [if_pos c4] at H
    have c4b0 := eq_true c4
    have c4b1 : decide (0 ≤ (ji3)) = true := decide_eq_true c4
    clear c4
    by_cases c5 : (ji3) ≤ (a0.size : Int)
    · rw [if_pos c5] at H
      have c5b0 := eq_true c5
      have c5b1 : decide ((ji3) ≤ (a0.size : Int)) = true := decide_eq_true c5
      clear c5
      replace H := Option.bind_eq_some_iff.mp H
      obtain ⟨⟨t204, t205, t206⟩, A60, H⟩ := H
      replace H : (if t206 = 0 then (arboristlaw05_ScanPlaces.l0 k (a0.extract 0 ((ji3) : Int).toNat) t203 t204 0 0) else (if t203 = true then (if (t204.length : Int) = 0 then (if t205 ≥ 0 then (some (decide (t205 < ((a0.extract 0 ((ji3) : Int).toNat).size : Int)))) else (some false)) else (some false)) else (some false))) = some r := H
      have A6 := Aside0.mk A60
      clear A60
      by_cases c7 : t206 = 0
      · rw [if_pos c7] at H
        have c7b0 : (t206 == 0) = true := beq_iff_eq.mpr c7
        have c7b1 : (t206 != 0) = false := bne_eq_false_iff_eq.mpr c7
        clear c7
        have H' := Aside0.mk H
        clear H
        go_enter Tryd.func4, Tryd.ntmps4
        go_wp2_with (first | (go_at_call 10; (with_reducible refine (arboristlaw05_shown.calls (hTb := (by first | exact HTAB.out | exact tab_drewN HTAB.out _ | exact tab_below HTAB.out (by repeat (first | (with_reducible first | exact HB.out | apply below_alloc | apply pw_below_drewN | apply below_drew1 | refine below_set ?_ GE211.out) | exact HB.out))))  t203 _ A2.out).mono ?_); rintro e w8 ⟨rfl, hb⟩; have n0_ := Aside0.mk (below_step (by repeat (first | (with_reducible first | exact HB.out | apply below_alloc | apply pw_below_drewN | apply below_drew1) | exact HB.out)) hb); clear HB; have HB := n0_; clear n0_; (try clear hb); (try clear hb2); (try clear hk); (try clear hi)) | (go_at_call 11; (with_reducible refine (scan_All.calls (hTb := (by first | exact HTAB.out | exact tab_drewN HTAB.out _ | exact tab_below HTAB.out (by repeat (first | (with_reducible first | exact HB.out | apply below_alloc | apply pw_below_drewN | apply below_drew1 | refine below_set ?_ GE211.out) | exact HB.out)))) (a0.extract 0 ((ji3) : Int).toNat) t204 t205 t206 _ A6.out).mono ?_); rintro e w9 ⟨v207, rfl, ho0, hb⟩; have n0_ := Aside0.mk (Kd.R_lower ho0 (below_size (by repeat (first | (with_reducible first | exact HB.out | apply below_alloc | apply pw_below_drewN | apply below_drew1) | exact HB.out)))); have n1_ := Aside0.mk (below_step (by repeat (first | (with_reducible first | exact HB.out | apply below_alloc | apply pw_below_drewN | apply below_drew1) | exact HB.out)) hb); clear HB; have HO208 := n0_; have HB := n1_; clear n0_ n1_; (try clear hb); (try clear hb2); (try clear hk); (try clear hi); (try clear ho0)))
        repeat (go_quiet (first | (go_at_call 10; (with_reducible refine (arboristlaw05_shown.calls (hTb := (by first | exact HTAB.out | exact tab_drewN HTAB.out _ | exact tab_below HTAB.out (by repeat (first | (with_reducible first | exact HB.out | apply below_alloc | apply pw_below_drewN | apply below_drew1 | refine below_set ?_ GE211.out) | exact HB.out))))  t203 _ A2.out).mono ?_); rintro e w8 ⟨rfl, hb⟩; have n0_ := Aside0.mk (below_step (by repeat (first | (with_reducible first | exact HB.out | apply below_alloc | apply pw_below_drewN | apply below_drew1) | exact HB.out)) hb); clear HB; have HB := n0_; clear n0_; (try clear hb); (try clear hb2); (try clear hk); (try clear hi)) | (go_at_call 11; (with_reducible refine (scan_All.calls (hTb := (by first | exact HTAB.out | exact tab_drewN HTAB.out _ | exact tab_below HTAB.out (by repeat (first | (with_reducible first | exact HB.out | apply below_alloc | apply pw_below_drewN | apply below_drew1 | refine below_set ?_ GE211.out) | exact HB.out)))) (a0.extract 0 ((ji3) : Int).toNat) t204 t205 t206 _ A6.out).mono ?_); rintro e w9 ⟨v207, rfl, ho0, hb⟩; have n0_ := Aside0.mk (Kd.R_lower ho0 (below_size (by repeat (first | (with_reducible first | exact HB.out | apply below_alloc | apply pw_below_drewN | apply below_drew1) | exact HB.out)))); have n1_ := Aside0.mk (below_step (by repeat (first | (with_reducible first | exact HB.out | apply below_alloc | apply pw_below_drewN | apply below_drew1) | exact HB.out)) hb); clear HB; have HO208 := n0_; have HB := n1_; clear n0_ n1_; (try clear hb); (try clear hb2); (try clear hk); (try clear hi); (try clear ho0))); try go_wp2_with (first | (go_at_call 10; (with_reducible refine (arboristlaw05_shown.calls (hTb := (by first | exact HTAB.out | exact tab_drewN HTAB.out _ | exact tab_below HTAB.out (by repeat (first | (with_reducible first | exact HB.out | apply below_alloc | apply pw_below_drewN | apply below_drew1 | refine below_set ?_ GE211.out) | exact HB.out))))  t203 _ A2.out).mono ?_); rintro e w8 ⟨rfl, hb⟩; have n0_ := Aside0.mk (below_step (by repeat (first | (with_reducible first | exact HB.out | apply below_alloc | apply pw_below_drewN | apply below_drew1) | exact HB.out)) hb); clear HB; have HB := n0_; clear n0_; (try clear hb); (try clear hb2); (try clear hk); (try clear hi)) | (go_at_call 11; (with_reducible refine (scan_All.calls (hTb := (by first | exact HTAB.out | exact tab_drewN HTAB.out _ | exact tab_below HTAB.out (by repeat (first | (with_reducible first | exact HB.out | apply below_alloc | apply pw_below_drewN | apply below_drew1 | refine below_set ?_ GE211.out) | exact HB.out)))) (a0.extract 0 ((ji3) : Int).toNat) t204 t205 t206 _ A6.out).mono ?_); rintro e w9 ⟨v207, rfl, ho0, hb⟩; have n0_ := Aside0.mk (Kd.R_lower ho0 (below_size (by repeat (first | (with_reducible first | exact HB.out | apply below_alloc | apply pw_below_drewN | apply below_drew1) | exact HB.out)))); have n1_ := Aside0.mk (below_step (by repeat (first | (with_reducible first | exact HB.out | apply below_alloc | apply pw_below_drewN | apply below_drew1) | exact HB.out)) hb); clear HB; have HO208 := n0_; have HB := n1_; clear n0_ n1_; (try clear hb); (try clear hb2); (try clear hk); (try clear hi); (try clear ho0))))
        go_loopg [7, 8] k (fun kq v7 v8 w' => ∃ (x7_1 : Int) (x8_1 : Int), v7 = .int .i64 x7_1 ∧ v8 = .int .i64 x8_1 ∧ Aside0 (arboristlaw05_ScanPlaces.l0 kq (a0.extract 0 ((ji3) : Int).toNat) t203 t204 x7_1 x8_1 = some r) ∧ Aside0 (kq ≤ k) ∧ Aside0 (Kd.R k32 32 w' w.heap.size (fun _ => True) v207 t204) ∧ Aside0 (Below w.heap.size w w'))
        case atStart => exact ⟨(0), (0), (by first | rfl | (simp; done) | (simp [*]; done)), (by first | rfl | (simp; done) | (simp [*]; done)), H', ⟨Nat.le_refl _⟩, ⟨by (with_reducible repeat (first | apply Kd.R_alloc | apply Kd.R_drewN | apply Kd.R_drew)); exact HO208.out⟩, ⟨by repeat (first | (with_reducible first | exact HB.out | apply below_alloc | apply pw_below_drewN | apply below_drew1) | exact HB.out)⟩⟩
        case round =>
          clear H'
          try clear p2
          try clear c4
          try clear c4b0
          try clear c4b1
          try clear c5
          try clear c5b0
          try clear c5b1
          try clear c7
          try clear c7b0
          try clear c7b1
          obtain ⟨x7_1, x8_1, rfl, rfl, HA, HK1, HO_4, HB⟩ := hrel
          cases gk with
          | zero => exact absurd HA.out (by simp [arboristlaw05_ScanPlaces.l0])
          | succ k1 =>
            have H := HA.out
            clear HA
            simp only [arboristlaw05_ScanPlaces.l0] at H
            by_cases c10 : x8_1 < (t204.length : Int)
            · rw [if_pos c10] at H
              have c10b0 : decide (x8_1 < (t204.length : Int)) = true := decide_eq_true c10
              clear c10
              by_cases c11 : 0 ≤ x8_1
              · rw [if_pos c11] at H
                have c11b0 : decide (0 ≤ x8_1) = true := decide_eq_true c11
                clear c11
                have HC12 := Aside0.mk H
                clear H
                obtain ⟨Ao13, co13, eo13⟩ := Kd.R_slice HO_4.out
                subst eo13
                have p210 : 0 ≤ (x8_1 : Int) := of_decide_eq_true (by first | (with_reducible assumption) | assumption)
                have q210 : x8_1 < (t204.length : Int) := of_decide_eq_true (by first | (with_reducible assumption) | assumption)
                obtain ⟨ad210, e210, hx210_0, hx210_1, hx210_2, hx210_3⟩ := at_T32 (Kd.R_reads' HO_4.out).2.2 x8_1 p210 q210
                cases e210
                replace p210 := eq_true p210
                replace q210 := eq_true q210
                go_upto_region 11 with (first | ((with_reducible refine gate_dst (N := 9) rfl ?_); (try (refine gate_guard (by rfl) ?_; dsimp only)); refine box_event ?hg (N := 9) ?hd (cs := #[.int .i64 0, .string (⟨#[]⟩ : ByteArray), .int .i64 0, .int .i64 0]) (t := 32) ?hr ?_; (case hd => rfl); (case hg => rfl); (case hr => first | (go_simp; done) | (go_simp; rfl)); intro gb211 hg w14 hbox hb; have n0_ := Aside0.mk (Kd.R_below (Kd.R_elderB (by (with_reducible repeat (first | apply Kd.R_alloc | apply Kd.R_drewN | apply Kd.R_drew)); exact HO_4.out) gb211 (Nat.le_of_eq hg.symm)) hb); have n1_ := Aside0.mk (below_step (by repeat (first | (with_reducible first | exact HB.out | apply below_alloc | apply pw_below_drewN | apply below_drew1) | exact HB.out)) hb); have n2_ := Aside0.mk (hbox); have n3_ := Aside0.mk ((by rw [hg]; exact (below_size (by repeat (first | (with_reducible first | exact HB.out | apply below_alloc | apply pw_below_drewN | apply below_drew1) | exact HB.out))) : w.heap.size ≤ gb211)); have n4_ := Aside0.mk ((by rw [hg]; exact (below_size (by repeat (first | (with_reducible first | exact HB.out | apply below_alloc | apply pw_below_drewN | apply below_drew1) | exact HB.out))) : w.heap.size ≤ gb211)); clear HO_4; clear HB; have HO_4 := n0_; have HB := n1_; have BK211 := n2_; have GW211 := n3_; have GE211 := n4_; clear n0_ n1_ n2_ n3_ n4_; clear hb hbox hg; have hcz15_0 : w14.cell? ⟨gb211, 0, none⟩ = some (.int .i64 0) := (blk_cell BK211.out 0).trans rfl; have hcz15_1 : w14.cell? ⟨gb211, 1, none⟩ = some (.string (⟨#[]⟩ : ByteArray)) := (blk_cell BK211.out 1).trans rfl; have hcz15_2 : w14.cell? ⟨gb211, 2, none⟩ = some (.int .i64 0) := (blk_cell BK211.out 2).trans rfl; have hcz15_3 : w14.cell? ⟨gb211, 3, none⟩ = some (.int .i64 0) := (blk_cell BK211.out 3).trans rfl; have hfz15_0 := blk_frozen BK211.out 0; have hfz15_1 := blk_frozen BK211.out 1; have hfz15_2 := blk_frozen BK211.out 2; have hfz15_3 := blk_frozen BK211.out 3))
                repeat (go_quiet (first | ((with_reducible refine gate_dst (N := 9) rfl ?_); (try (refine gate_guard (by rfl) ?_; dsimp only)); refine box_event ?hg (N := 9) ?hd (cs := #[.int .i64 0, .string (⟨#[]⟩ : ByteArray), .int .i64 0, .int .i64 0]) (t := 32) ?hr ?_; (case hd => rfl); (case hg => rfl); (case hr => first | (go_simp; done) | (go_simp; rfl)); intro gb211 hg w14 hbox hb; have n0_ := Aside0.mk (Kd.R_below (Kd.R_elderB (by (with_reducible repeat (first | apply Kd.R_alloc | apply Kd.R_drewN | apply Kd.R_drew)); exact HO_4.out) gb211 (Nat.le_of_eq hg.symm)) hb); have n1_ := Aside0.mk (below_step (by repeat (first | (with_reducible first | exact HB.out | apply below_alloc | apply pw_below_drewN | apply below_drew1) | exact HB.out)) hb); have n2_ := Aside0.mk (hbox); have n3_ := Aside0.mk ((by rw [hg]; exact (below_size (by repeat (first | (with_reducible first | exact HB.out | apply below_alloc | apply pw_below_drewN | apply below_drew1) | exact HB.out))) : w.heap.size ≤ gb211)); have n4_ := Aside0.mk ((by rw [hg]; exact (below_size (by repeat (first | (with_reducible first | exact HB.out | apply below_alloc | apply pw_below_drewN | apply below_drew1) | exact HB.out))) : w.heap.size ≤ gb211)); clear HO_4; clear HB; have HO_4 := n0_; have HB := n1_; have BK211 := n2_; have GW211 := n3_; have GE211 := n4_; clear n0_ n1_ n2_ n3_ n4_; clear hb hbox hg; have hcz15_0 : w14.cell? ⟨gb211, 0, none⟩ = some (.int .i64 0) := (blk_cell BK211.out 0).trans rfl; have hcz15_1 : w14.cell? ⟨gb211, 1, none⟩ = some (.string (⟨#[]⟩ : ByteArray)) := (blk_cell BK211.out 1).trans rfl; have hcz15_2 : w14.cell? ⟨gb211, 2, none⟩ = some (.int .i64 0) := (blk_cell BK211.out 2).trans rfl; have hcz15_3 : w14.cell? ⟨gb211, 3, none⟩ = some (.int .i64 0) := (blk_cell BK211.out 3).trans rfl; have hfz15_0 := blk_frozen BK211.out 0; have hfz15_1 := blk_frozen BK211.out 1; have hfz15_2 := blk_frozen BK211.out 2; have hfz15_3 := blk_frozen BK211.out 3)); go_upto_region 11 with (first | ((with_reducible refine gate_dst (N := 9) rfl ?_); (try (refine gate_guard (by rfl) ?_; dsimp only)); refine box_event ?hg (N := 9) ?hd (cs := #[.int .i64 0, .string (⟨#[]⟩ : ByteArray), .int .i64 0, .int .i64 0]) (t := 32) ?hr ?_; (case hd => rfl); (case hg => rfl); (case hr => first | (go_simp; done) | (go_simp; rfl)); intro gb211 hg w14 hbox hb; have n0_ := Aside0.mk (Kd.R_below (Kd.R_elderB (by (with_reducible repeat (first | apply Kd.R_alloc | apply Kd.R_drewN | apply Kd.R_drew)); exact HO_4.out) gb211 (Nat.le_of_eq hg.symm)) hb); have n1_ := Aside0.mk (below_step (by repeat (first | (with_reducible first | exact HB.out | apply below_alloc | apply pw_below_drewN | apply below_drew1) | exact HB.out)) hb); have n2_ := Aside0.mk (hbox); have n3_ := Aside0.mk ((by rw [hg]; exact (below_size (by repeat (first | (with_reducible first | exact HB.out | apply below_alloc | apply pw_below_drewN | apply below_drew1) | exact HB.out))) : w.heap.size ≤ gb211)); have n4_ := Aside0.mk ((by rw [hg]; exact (below_size (by repeat (first | (with_reducible first | exact HB.out | apply below_alloc | apply pw_below_drewN | apply below_drew1) | exact HB.out))) : w.heap.size ≤ gb211)); clear HO_4; clear HB; have HO_4 := n0_; have HB := n1_; have BK211 := n2_; have GW211 := n3_; have GE211 := n4_; clear n0_ n1_ n2_ n3_ n4_; clear hb hbox hg; have hcz15_0 : w14.cell? ⟨gb211, 0, none⟩ = some (.int .i64 0) := (blk_cell BK211.out 0).trans rfl; have hcz15_1 : w14.cell? ⟨gb211, 1, none⟩ = some (.string (⟨#[]⟩ : ByteArray)) := (blk_cell BK211.out 1).trans rfl; have hcz15_2 : w14.cell? ⟨gb211, 2, none⟩ = some (.int .i64 0) := (blk_cell BK211.out 2).trans rfl; have hcz15_3 : w14.cell? ⟨gb211, 3, none⟩ = some (.int .i64 0) := (blk_cell BK211.out 3).trans rfl; have hfz15_0 := blk_frozen BK211.out 0; have hfz15_1 := blk_frozen BK211.out 1; have hfz15_2 := blk_frozen BK211.out 2; have hfz15_3 := blk_frozen BK211.out 3)))
                (try simp only [Act.put, List.setIfInBounds_toArray, List.set_cons_zero, List.set_cons_succ])
                go_cut [71] (fun v71 wc => ∃ (kq : Nat) (x71_11 : Bool), v71 = .bool x71_11 ∧ Aside0 (arboristlaw05_ScanPlaces.j1 kq (a0.extract 0 ((ji3) : Int).toNat) t203 t204 x8_1 x71_11 ((rd_T32 t204 x8_1).f0) ((rd_T32 t204 x8_1).f1) ((rd_T32 t204 x8_1).f2) ((rd_T32 t204 x8_1).f3) = some r) ∧ Aside0 (kq ≤ k1) ∧ Aside0 (Kd.R k32 32 wc w.heap.size (fun k_ => k_ ≠ gb211) (.slice (some ad210) t204.length co13) t204) ∧ Aside0 (wc.heap[gb211]? = some (.cells #[.int .i64 ((rd_T32 t204 x8_1).f0), .string ((rd_T32 t204 x8_1).f1), .int .i64 ((rd_T32 t204 x8_1).f2), .int .i64 ((rd_T32 t204 x8_1).f3)] 32 (0, 0))) ∧ Aside0 (Below w.heap.size w wc))
                case first =>
                  have H := HC12.out
                  clear HC12
                  by_cases c16 : ((rd_T32 t204 x8_1).f3) < x7_1
                  · rw [if_pos c16] at H
                    have c16b0 : decide (((rd_T32 t204 x8_1).f3) < x7_1) = true := decide_eq_true c16
                    clear c16
                    (first | rw [c16b0] | (simp only [i64_w, i32_w]; rw [c16b0]) | skip)
                    have H' := Aside0.mk H
                    clear H
                    have hcz17_0 : w14.cell? ⟨gb211, 0, none⟩ = some (.int .i64 0) := (blk_cell BK211.out 0).trans rfl
                    have hcz17_1 : w14.cell? ⟨gb211, 1, none⟩ = some (.string (⟨#[]⟩ : ByteArray)) := (blk_cell BK211.out 1).trans rfl
                    have hcz17_2 : w14.cell? ⟨gb211, 2, none⟩ = some (.int .i64 0) := (blk_cell BK211.out 2).trans rfl
                    have hcz17_3 : w14.cell? ⟨gb211, 3, none⟩ = some (.int .i64 0) := (blk_cell BK211.out 3).trans rfl
                    have hfz17_0 := blk_frozen BK211.out 0
                    have hfz17_1 := blk_frozen BK211.out 1
                    have hfz17_2 := blk_frozen BK211.out 2
                    have hfz17_3 := blk_frozen BK211.out 3
                    go_wp2
                    repeat (go_quiet (fail); try go_wp2)
                    go_meet
                    case rel => exact ⟨_, (true), (by first | rfl | (simp; done) | (simp [*]; done)), H', ⟨by have := HK1.out; first | omega | exact Nat.le_refl _⟩, ⟨by (with_reducible repeat (first | apply Kd.R_alloc | apply Kd.R_drewN | apply Kd.R_drew)); exact Kd.R_mono (Kd.R_far (p := ⟨gb211, 3, none⟩) (Kd.R_far (p := ⟨gb211, 2, none⟩) (Kd.R_far (p := ⟨gb211, 1, none⟩) (Kd.R_far (p := ⟨gb211, 0, none⟩) (Kd.R_mono HO_4.out (fun k_ hk => (⟨hk, hk.2⟩ : _ ∧ k_ ≠ gb211))) (fun _ hk => hk.2) (.int .i64 ((rd_T32 t204 x8_1).f0))) (fun _ hk => hk.2) (.string ((rd_T32 t204 x8_1).f1))) (fun _ hk => hk.2) (.int .i64 ((rd_T32 t204 x8_1).f2))) (fun _ hk => hk.2) (.int .i64 ((rd_T32 t204 x8_1).f3))) (fun _ hk => hk.1.2)⟩, ⟨by (with_reducible repeat (first | refine blk_drewN ?_ _ | refine blk_drew ?_ | refine blk_alloc ?_ _)); refine blk_put (cs := #[.int .i64 ((rd_T32 t204 x8_1).f0), .string ((rd_T32 t204 x8_1).f1), .int .i64 ((rd_T32 t204 x8_1).f2), .int .i64 0]) ?_ 3 _ rfl; (with_reducible repeat (first | refine blk_drewN ?_ _ | refine blk_drew ?_ | refine blk_alloc ?_ _)); refine blk_put (cs := #[.int .i64 ((rd_T32 t204 x8_1).f0), .string ((rd_T32 t204 x8_1).f1), .int .i64 0, .int .i64 0]) ?_ 2 _ rfl; (with_reducible repeat (first | refine blk_drewN ?_ _ | refine blk_drew ?_ | refine blk_alloc ?_ _)); refine blk_put (cs := #[.int .i64 ((rd_T32 t204 x8_1).f0), .string (⟨#[]⟩ : ByteArray), .int .i64 0, .int .i64 0]) ?_ 1 _ rfl; (with_reducible repeat (first | refine blk_drewN ?_ _ | refine blk_drew ?_ | refine blk_alloc ?_ _)); refine blk_put (cs := #[.int .i64 0, .string (⟨#[]⟩ : ByteArray), .int .i64 0, .int .i64 0]) ?_ 0 _ rfl; (with_reducible repeat (first | refine blk_drewN ?_ _ | refine blk_drew ?_ | refine blk_alloc ?_ _)); exact BK211.out⟩, ⟨by repeat (first | (with_reducible first | exact HB.out | apply below_alloc | apply pw_below_drewN | apply below_drew1 | refine below_set ?_ GE211.out) | exact HB.out)⟩⟩
                  · rw [if_neg c16] at H
                    have c16b0 : decide (((rd_T32 t204 x8_1).f3) < x7_1) = false := decide_eq_false c16
                    clear c16
                    (first | rw [c16b0] | (simp only [i64_w, i32_w]; rw [c16b0]) | skip)
                    by_cases c18 : ((rd_T32 t204 x8_1).f3) > ((a0.extract 0 ((ji3) : Int).toNat).size : Int)
                    · rw [if_pos c18] at H
                      have c18b0 : decide (((a0.extract 0 ((ji3) : Int).toNat).size : Int) < ((rd_T32 t204 x8_1).f3)) = true := decide_eq_true c18
                      (try simp only [ByteArray.size_extract, Nat.sub_zero] at c18b0)
                      clear c18
                      have H' := Aside0.mk H
                      clear H
                      have hcz19_0 : w14.cell? ⟨gb211, 0, none⟩ = some (.int .i64 0) := (blk_cell BK211.out 0).trans rfl
                      have hcz19_1 : w14.cell? ⟨gb211, 1, none⟩ = some (.string (⟨#[]⟩ : ByteArray)) := (blk_cell BK211.out 1).trans rfl
                      have hcz19_2 : w14.cell? ⟨gb211, 2, none⟩ = some (.int .i64 0) := (blk_cell BK211.out 2).trans rfl
                      have hcz19_3 : w14.cell? ⟨gb211, 3, none⟩ = some (.int .i64 0) := (blk_cell BK211.out 3).trans rfl
                      have hfz19_0 := blk_frozen BK211.out 0
                      have hfz19_1 := blk_frozen BK211.out 1
                      have hfz19_2 := blk_frozen BK211.out 2
                      have hfz19_3 := blk_frozen BK211.out 3
                      go_wp2
                      repeat (go_quiet (fail); try go_wp2)
                      go_meet
                      case rel => exact ⟨_, (true), (by first | rfl | (simp; done) | (simp [*]; done)), H', ⟨by have := HK1.out; first | omega | exact Nat.le_refl _⟩, ⟨by (with_reducible repeat (first | apply Kd.R_alloc | apply Kd.R_drewN | apply Kd.R_drew)); exact Kd.R_mono (Kd.R_far (p := ⟨gb211, 3, none⟩) (Kd.R_far (p := ⟨gb211, 2, none⟩) (Kd.R_far (p := ⟨gb211, 1, none⟩) (Kd.R_far (p := ⟨gb211, 0, none⟩) (Kd.R_mono HO_4.out (fun k_ hk => (⟨hk, hk.2⟩ : _ ∧ k_ ≠ gb211))) (fun _ hk => hk.2) (.int .i64 ((rd_T32 t204 x8_1).f0))) (fun _ hk => hk.2) (.string ((rd_T32 t204 x8_1).f1))) (fun _ hk => hk.2) (.int .i64 ((rd_T32 t204 x8_1).f2))) (fun _ hk => hk.2) (.int .i64 ((rd_T32 t204 x8_1).f3))) (fun _ hk => hk.1.2)⟩, ⟨by (with_reducible repeat (first | refine blk_drewN ?_ _ | refine blk_drew ?_ | refine blk_alloc ?_ _)); refine blk_put (cs := #[.int .i64 ((rd_T32 t204 x8_1).f0), .string ((rd_T32 t204 x8_1).f1), .int .i64 ((rd_T32 t204 x8_1).f2), .int .i64 0]) ?_ 3 _ rfl; (with_reducible repeat (first | refine blk_drewN ?_ _ | refine blk_drew ?_ | refine blk_alloc ?_ _)); refine blk_put (cs := #[.int .i64 ((rd_T32 t204 x8_1).f0), .string ((rd_T32 t204 x8_1).f1), .int .i64 0, .int .i64 0]) ?_ 2 _ rfl; (with_reducible repeat (first | refine blk_drewN ?_ _ | refine blk_drew ?_ | refine blk_alloc ?_ _)); refine blk_put (cs := #[.int .i64 ((rd_T32 t204 x8_1).f0), .string (⟨#[]⟩ : ByteArray), .int .i64 0, .int .i64 0]) ?_ 1 _ rfl; (with_reducible repeat (first | refine blk_drewN ?_ _ | refine blk_drew ?_ | refine blk_alloc ?_ _)); refine blk_put (cs := #[.int .i64 0, .string (⟨#[]⟩ : ByteArray), .int .i64 0, .int .i64 0]) ?_ 0 _ rfl; (with_reducible repeat (first | refine blk_drewN ?_ _ | refine blk_drew ?_ | refine blk_alloc ?_ _)); exact BK211.out⟩, ⟨by repeat (first | (with_reducible first | exact HB.out | apply below_alloc | apply pw_below_drewN | apply below_drew1 | refine below_set ?_ GE211.out) | exact HB.out)⟩⟩
                    · rw [if_neg c18] at H
                      have c18b0 : decide (((a0.extract 0 ((ji3) : Int).toNat).size : Int) < ((rd_T32 t204 x8_1).f3)) = false := decide_eq_false c18
                      (try simp only [ByteArray.size_extract, Nat.sub_zero] at c18b0)
                      clear c18
                      have H' := Aside0.mk H
                      clear H
                      have hcz20_0 : w14.cell? ⟨gb211, 0, none⟩ = some (.int .i64 0) := (blk_cell BK211.out 0).trans rfl
                      have hcz20_1 : w14.cell? ⟨gb211, 1, none⟩ = some (.string (⟨#[]⟩ : ByteArray)) := (blk_cell BK211.out 1).trans rfl
                      have hcz20_2 : w14.cell? ⟨gb211, 2, none⟩ = some (.int .i64 0) := (blk_cell BK211.out 2).trans rfl
                      have hcz20_3 : w14.cell? ⟨gb211, 3, none⟩ = some (.int .i64 0) := (blk_cell BK211.out 3).trans rfl
                      have hfz20_0 := blk_frozen BK211.out 0
                      have hfz20_1 := blk_frozen BK211.out 1
                      have hfz20_2 := blk_frozen BK211.out 2
                      have hfz20_3 := blk_frozen BK211.out 3
                      go_wp2
                      repeat (go_quiet (fail); try go_wp2)
                      go_meet
                      case rel => exact ⟨_, (((((rd_T32 t204 x8_1).f0) == 4) != (x8_1 == (wrap64 ((t204.length : Int) - 1))))), (by first | rfl | (simp; done) | (simp [*]; done)), H', ⟨by have := HK1.out; first | omega | exact Nat.le_refl _⟩, ⟨by (with_reducible repeat (first | apply Kd.R_alloc | apply Kd.R_drewN | apply Kd.R_drew)); exact Kd.R_mono (Kd.R_far (p := ⟨gb211, 3, none⟩) (Kd.R_far (p := ⟨gb211, 2, none⟩) (Kd.R_far (p := ⟨gb211, 1, none⟩) (Kd.R_far (p := ⟨gb211, 0, none⟩) (Kd.R_mono HO_4.out (fun k_ hk => (⟨hk, hk.2⟩ : _ ∧ k_ ≠ gb211))) (fun _ hk => hk.2) (.int .i64 ((rd_T32 t204 x8_1).f0))) (fun _ hk => hk.2) (.string ((rd_T32 t204 x8_1).f1))) (fun _ hk => hk.2) (.int .i64 ((rd_T32 t204 x8_1).f2))) (fun _ hk => hk.2) (.int .i64 ((rd_T32 t204 x8_1).f3))) (fun _ hk => hk.1.2)⟩, ⟨by (with_reducible repeat (first | refine blk_drewN ?_ _ | refine blk_drew ?_ | refine blk_alloc ?_ _)); refine blk_put (cs := #[.int .i64 ((rd_T32 t204 x8_1).f0), .string ((rd_T32 t204 x8_1).f1), .int .i64 ((rd_T32 t204 x8_1).f2), .int .i64 0]) ?_ 3 _ rfl; (with_reducible repeat (first | refine blk_drewN ?_ _ | refine blk_drew ?_ | refine blk_alloc ?_ _)); refine blk_put (cs := #[.int .i64 ((rd_T32 t204 x8_1).f0), .string ((rd_T32 t204 x8_1).f1), .int .i64 0, .int .i64 0]) ?_ 2 _ rfl; (with_reducible repeat (first | refine blk_drewN ?_ _ | refine blk_drew ?_ | refine blk_alloc ?_ _)); refine blk_put (cs := #[.int .i64 ((rd_T32 t204 x8_1).f0), .string (⟨#[]⟩ : ByteArray), .int .i64 0, .int .i64 0]) ?_ 1 _ rfl; (with_reducible repeat (first | refine blk_drewN ?_ _ | refine blk_drew ?_ | refine blk_alloc ?_ _)); refine blk_put (cs := #[.int .i64 0, .string (⟨#[]⟩ : ByteArray), .int .i64 0, .int .i64 0]) ?_ 0 _ rfl; (with_reducible repeat (first | refine blk_drewN ?_ _ | refine blk_drew ?_ | refine blk_alloc ?_ _)); exact BK211.out⟩, ⟨by repeat (first | (with_reducible first | exact HB.out | apply below_alloc | apply pw_below_drewN | apply below_drew1 | refine below_set ?_ GE211.out) | exact HB.out)⟩⟩
                case rest =>
                  clear HC12
                  try clear c1
                  try clear p2
                  try clear q2
                  try clear hx2
                  try clear c4
                  try clear c4b0
                  try clear c4b1
                  try clear c5
                  try clear c5b0
                  try clear c5b1
                  try clear p6
                  try clear c7
                  try clear c7b0
                  try clear c7b1
                  try clear c10
                  try clear c10b0
                  try clear c11
                  try clear c11b0
                  try clear c16
                  try clear c16b0
                  try clear c18
                  try clear c18b0
                  try clear hcz15_0
                  try clear hcz15_1
                  try clear hcz15_2
                  try clear hcz15_3
                  try clear hcz17_0
                  try clear hcz17_1
                  try clear hcz17_2
                  try clear hcz17_3
                  try clear hcz19_0
                  try clear hcz19_1
                  try clear hcz19_2
                  try clear hcz19_3
                  try clear hcz20_0
                  try clear hcz20_1
                  try clear hcz20_2
                  try clear hcz20_3
                  try clear hfz15_0
                  try clear hfz15_1
                  try clear hfz15_2
                  try clear hfz15_3
                  try clear hfz17_0
                  try clear hfz17_1
                  try clear hfz17_2
                  try clear hfz17_3
                  try clear hfz19_0
                  try clear hfz19_1
                  try clear hfz19_2
                  try clear hfz19_3
                  try clear hfz20_0
                  try clear hfz20_1
                  try clear hfz20_2
                  try clear hfz20_3
                  try clear hx210_0
                  try clear hx210_1
                  try clear hx210_2
                  try clear hx210_3
                  try clear p2
                  try clear p210
                  try clear q210
                  obtain ⟨kq, x71_11, rfl, HA, HJ11, HO_4, BK211, HB⟩ := hcut
                  cases kq with
                  | zero => exact absurd HA.out (by simp [arboristlaw05_ScanPlaces.j1])
                  | succ kj11 =>
                    have H := HA.out
                    clear HA
                    simp only [arboristlaw05_ScanPlaces.j1] at H
                    by_cases c21 : x71_11 = true
                    · subst c21
                      have H1 : (some false) = some r := by rw [if_pos rfl] at H; exact H
                      clear H
                      have H := H1
                      clear H1
                      exact absurd ((Option.some.inj H).trans HT_.out) (by decide)
                    · replace c21 := Bool.eq_false_iff.mpr c21
                      subst c21
                      have H1 : (if ((rd_T32 t204 x8_1).f0) = 2 then (if ((rd_T32 t204 x8_1).f1).toList = ([] : List UInt8) then (arboristlaw05_ScanPlaces.j2 kj11 (a0.extract 0 ((ji3) : Int).toNat) t203 t204 x8_1 (decide (((rd_T32 t204 x8_1).f3) ≥ ((a0.extract 0 ((ji3) : Int).toNat).size : Int))) ((rd_T32 t204 x8_1).f0) ((rd_T32 t204 x8_1).f1) ((rd_T32 t204 x8_1).f2) ((rd_T32 t204 x8_1).f3)) else (arboristlaw05_ScanPlaces.j2 kj11 (a0.extract 0 ((ji3) : Int).toNat) t203 t204 x8_1 true ((rd_T32 t204 x8_1).f0) ((rd_T32 t204 x8_1).f1) ((rd_T32 t204 x8_1).f2) ((rd_T32 t204 x8_1).f3))) else (if (wrap64 (((rd_T32 t204 x8_1).f3) + (((rd_T32 t204 x8_1).f1).size : Int))) > ((a0.extract 0 ((ji3) : Int).toNat).size : Int) then (some false) else (if 0 ≤ ((rd_T32 t204 x8_1).f3) then (if ((rd_T32 t204 x8_1).f3) ≤ (wrap64 (((rd_T32 t204 x8_1).f3) + (((rd_T32 t204 x8_1).f1).size : Int))) then (if (wrap64 (((rd_T32 t204 x8_1).f3) + (((rd_T32 t204 x8_1).f1).size : Int))) ≤ ((a0.extract 0 ((ji3) : Int).toNat).size : Int) then (if ((a0.extract 0 ((ji3) : Int).toNat).extract (((rd_T32 t204 x8_1).f3) : Int).toNat ((wrap64 (((rd_T32 t204 x8_1).f3) + (((rd_T32 t204 x8_1).f1).size : Int))) : Int).toNat).toList = ((rd_T32 t204 x8_1).f1).toList then (arboristlaw05_ScanPlaces.l0 kj11 (a0.extract 0 ((ji3) : Int).toNat) t203 t204 (wrap64 (((rd_T32 t204 x8_1).f3) + (((rd_T32 t204 x8_1).f1).size : Int))) (wrap64 (x8_1 + 1))) else (some false)) else (none)) else (none)) else (none)))) = some r := by rw [if_neg (show ¬ (false = true) by decide)] at H; exact H
                      clear H
                      have H := H1
                      clear H1
                      by_cases c22 : ((rd_T32 t204 x8_1).f0) = 2
                      · rw [if_pos c22] at H
                        have c22b0 : (((rd_T32 t204 x8_1).f0) == 2) = true := beq_iff_eq.mpr c22
                        have c22b1 : (((rd_T32 t204 x8_1).f0) != 2) = false := bne_eq_false_iff_eq.mpr c22
                        clear c22
                        have HC23 := Aside0.mk H
                        clear H
                        have hcz24_0 : wc.cell? ⟨gb211, 0, none⟩ = some (.int .i64 ((rd_T32 t204 x8_1).f0)) := (blk_cell BK211.out 0).trans rfl
                        have hcz24_1 : wc.cell? ⟨gb211, 1, none⟩ = some (.string ((rd_T32 t204 x8_1).f1)) := (blk_cell BK211.out 1).trans rfl
                        have hcz24_2 : wc.cell? ⟨gb211, 2, none⟩ = some (.int .i64 ((rd_T32 t204 x8_1).f2)) := (blk_cell BK211.out 2).trans rfl
                        have hcz24_3 : wc.cell? ⟨gb211, 3, none⟩ = some (.int .i64 ((rd_T32 t204 x8_1).f3)) := (blk_cell BK211.out 3).trans rfl
                        have hfz24_0 := blk_frozen BK211.out 0
                        have hfz24_1 := blk_frozen BK211.out 1
                        have hfz24_2 := blk_frozen BK211.out 2
                        have hfz24_3 := blk_frozen BK211.out 3
                        go_upto_region 15 with (fail)
                        repeat (go_quiet (fail); go_upto_region 15 with (fail))
                        go_cut [90] (fun v90 wc => ∃ (kq : Nat) (x90_22 : Bool), v90 = .bool x90_22 ∧ Aside0 (arboristlaw05_ScanPlaces.j2 kq (a0.extract 0 ((ji3) : Int).toNat) t203 t204 x8_1 x90_22 ((rd_T32 t204 x8_1).f0) ((rd_T32 t204 x8_1).f1) ((rd_T32 t204 x8_1).f2) ((rd_T32 t204 x8_1).f3) = some r) ∧ Aside0 (kq ≤ kj11) ∧ Aside0 (Kd.R k32 32 wc w.heap.size (fun k_ => k_ ≠ gb211) (.slice (some ad210) t204.length co13) t204) ∧ Aside0 (wc.heap[gb211]? = some (.cells #[.int .i64 ((rd_T32 t204 x8_1).f0), .string ((rd_T32 t204 x8_1).f1), .int .i64 ((rd_T32 t204 x8_1).f2), .int .i64 ((rd_T32 t204 x8_1).f3)] 32 (0, 0))) ∧ Aside0 (Below w.heap.size w wc))
                        case first =>
                          have H := HC23.out
                          clear HC23
                          by_cases c25 : ((rd_T32 t204 x8_1).f1).toList = ([] : List UInt8)
                          · rw [if_pos c25] at H
                            have c25b0 : (((rd_T32 t204 x8_1).f1).toList == ([] : List UInt8)) = true := beq_iff_eq.mpr c25
                            have c25b1 : (((rd_T32 t204 x8_1).f1).toList != ([] : List UInt8)) = false := bne_eq_false_iff_eq.mpr c25
                            clear c25
                            (first | rw [c25b0] | (simp only [i64_w, i32_w]; rw [c25b0]) | skip)
                            have H' := Aside0.mk H
                            clear H
                            have hcz26_0 : wc.cell? ⟨gb211, 0, none⟩ = some (.int .i64 ((rd_T32 t204 x8_1).f0)) := (blk_cell BK211.out 0).trans rfl
                            have hcz26_1 : wc.cell? ⟨gb211, 1, none⟩ = some (.string ((rd_T32 t204 x8_1).f1)) := (blk_cell BK211.out 1).trans rfl
                            have hcz26_2 : wc.cell? ⟨gb211, 2, none⟩ = some (.int .i64 ((rd_T32 t204 x8_1).f2)) := (blk_cell BK211.out 2).trans rfl
                            have hcz26_3 : wc.cell? ⟨gb211, 3, none⟩ = some (.int .i64 ((rd_T32 t204 x8_1).f3)) := (blk_cell BK211.out 3).trans rfl
                            have hfz26_0 := blk_frozen BK211.out 0
                            have hfz26_1 := blk_frozen BK211.out 1
                            have hfz26_2 := blk_frozen BK211.out 2
                            have hfz26_3 := blk_frozen BK211.out 3
                            go_wp2
                            repeat (go_quiet (fail); try go_wp2)
                            go_meet
                            case rel => exact ⟨_, (decide (((rd_T32 t204 x8_1).f3) ≥ ((a0.extract 0 ((ji3) : Int).toNat).size : Int))), (by first | rfl | (simp; done) | (simp only [← hji3] <;> (first | rfl | simp)) | (simp [*]; done)), H', ⟨by have := HK1.out; have := HJ11.out; first | omega | exact Nat.le_refl _⟩, ⟨by (with_reducible repeat (first | apply Kd.R_alloc | apply Kd.R_drewN | apply Kd.R_drew)); exact HO_4.out⟩, ⟨by (with_reducible repeat (first | refine blk_drewN ?_ _ | refine blk_drew ?_ | refine blk_alloc ?_ _)); exact BK211.out⟩, ⟨by repeat (first | (with_reducible first | exact HB.out | apply below_alloc | apply pw_below_drewN | apply below_drew1 | refine below_set ?_ GE211.out) | exact HB.out)⟩⟩
                          · rw [if_neg c25] at H
                            have c25b0 : (((rd_T32 t204 x8_1).f1).toList == ([] : List UInt8)) = false := beq_eq_false_iff_ne.mpr c25
                            have c25b1 : (((rd_T32 t204 x8_1).f1).toList != ([] : List UInt8)) = true := bne_iff_ne.mpr c25
                            (first | rw [c25b0] | (simp only [i64_w, i32_w]; rw [c25b0]) | skip)
                            have H' := Aside0.mk H
                            clear H
                            have hcz27_0 : wc.cell? ⟨gb211, 0, none⟩ = some (.int .i64 ((rd_T32 t204 x8_1).f0)) := (blk_cell BK211.out 0).trans rfl
                            have hcz27_1 : wc.cell? ⟨gb211, 1, none⟩ = some (.string ((rd_T32 t204 x8_1).f1)) := (blk_cell BK211.out 1).trans rfl
                            have hcz27_2 : wc.cell? ⟨gb211, 2, none⟩ = some (.int .i64 ((rd_T32 t204 x8_1).f2)) := (blk_cell BK211.out 2).trans rfl
                            have hcz27_3 : wc.cell? ⟨gb211, 3, none⟩ = some (.int .i64 ((rd_T32 t204 x8_1).f3)) := (blk_cell BK211.out 3).trans rfl
                            have hfz27_0 := blk_frozen BK211.out 0
                            have hfz27_1 := blk_frozen BK211.out 1
                            have hfz27_2 := blk_frozen BK211.out 2
                            have hfz27_3 := blk_frozen BK211.out 3
                            go_wp2
                            repeat (go_quiet (fail); try go_wp2)
                            go_meet
                            case rel => exact ⟨_, (true), (by first | rfl | (simp; done) | (simp [*]; done)), H', ⟨by have := HK1.out; have := HJ11.out; first | omega | exact Nat.le_refl _⟩, ⟨by (with_reducible repeat (first | apply Kd.R_alloc | apply Kd.R_drewN | apply Kd.R_drew)); exact HO_4.out⟩, ⟨by (with_reducible repeat (first | refine blk_drewN ?_ _ | refine blk_drew ?_ | refine blk_alloc ?_ _)); exact BK211.out⟩, ⟨by repeat (first | (with_reducible first | exact HB.out | apply below_alloc | apply pw_below_drewN | apply below_drew1 | refine below_set ?_ GE211.out) | exact HB.out)⟩⟩
                        case rest =>
                          clear HC23
                          try clear c1
                          try clear c2
                          try clear p2
                          try clear q2
                          try clear hx2
                          try clear c4
                          try clear c4b0
                          try clear c4b1
                          try clear c5
                          try clear c5b0
                          try clear c5b1
                          try clear p6
                          try clear c7
                          try clear c7b0
                          try clear c7b1
                          try clear c10
                          try clear c10b0
                          try clear c11
                          try clear c11b0
                          try clear c16
                          try clear c16b0
                          try clear c18
                          try clear c18b0
                          try clear c21
                          try clear p21
                          try clear q21
                          try clear hx21
                          try clear c22
                          try clear c22b0
                          try clear c22b1
                          try clear c25
                          try clear c25b0
                          try clear c25b1
                          try clear hcz15_0
                          try clear hcz15_1
                          try clear hcz15_2
                          try clear hcz15_3
                          try clear hcz17_0
                          try clear hcz17_1
                          try clear hcz17_2
                          try clear hcz17_3
                          try clear hcz19_0
                          try clear hcz19_1
                          try clear hcz19_2
                          try clear hcz19_3
                          try clear hcz20_0
                          try clear hcz20_1
                          try clear hcz20_2
                          try clear hcz20_3
                          try clear hcz24_0
                          try clear hcz24_1
                          try clear hcz24_2
                          try clear hcz24_3
                          try clear hcz26_0
                          try clear hcz26_1
                          try clear hcz26_2
                          try clear hcz26_3
                          try clear hcz27_0
                          try clear hcz27_1
                          try clear hcz27_2
                          try clear hcz27_3
                          try clear hfz15_0
                          try clear hfz15_1
                          try clear hfz15_2
                          try clear hfz15_3
                          try clear hfz17_0
                          try clear hfz17_1
                          try clear hfz17_2
                          try clear hfz17_3
                          try clear hfz19_0
                          try clear hfz19_1
                          try clear hfz19_2
                          try clear hfz19_3
                          try clear hfz20_0
                          try clear hfz20_1
                          try clear hfz20_2
                          try clear hfz20_3
                          try clear hfz24_0
                          try clear hfz24_1
                          try clear hfz24_2
                          try clear hfz24_3
                          try clear hfz26_0
                          try clear hfz26_1
                          try clear hfz26_2
                          try clear hfz26_3
                          try clear hfz27_0
                          try clear hfz27_1
                          try clear hfz27_2
                          try clear hfz27_3
                          try clear hx210_0
                          try clear hx210_1
                          try clear hx210_2
                          try clear hx210_3
                          try clear p2
                          try clear p210
                          try clear p6
                          try clear q2
                          try clear q210
                          obtain ⟨kq, x90_22, rfl, HA, HJ22, HO_4, BK211, HB⟩ := hcut
                          cases kq with
                          | zero => exact absurd HA.out (by simp [arboristlaw05_ScanPlaces.j2])
                          | succ kj22 =>
                            have H := HA.out
                            clear HA
                            simp only [arboristlaw05_ScanPlaces.j2] at H
                            by_cases c28 : x90_22 = true
                            · subst c28
                              have H1 : (some false) = some r := by rw [if_pos rfl] at H; exact H
                              clear H
                              have H := H1
                              clear H1
                              exact absurd ((Option.some.inj H).trans HT_.out) (by decide)
                            · replace c28 := Bool.eq_false_iff.mpr c28
                              subst c28
                              have H1 : (if (wrap64 (((rd_T32 t204 x8_1).f3) + 1)) > ((a0.extract 0 ((ji3) : Int).toNat).size : Int) then (some false) else (if ((rd_T32 t204 x8_1).f0) = 2 then (arboristlaw05_ScanPlaces.l0 kj22 (a0.extract 0 ((ji3) : Int).toNat) t203 t204 (wrap64 (((rd_T32 t204 x8_1).f3) + 1)) (wrap64 (x8_1 + 1))) else (if 0 ≤ ((rd_T32 t204 x8_1).f3) then (if ((rd_T32 t204 x8_1).f3) ≤ (wrap64 (((rd_T32 t204 x8_1).f3) + 1)) then (if (wrap64 (((rd_T32 t204 x8_1).f3) + 1)) ≤ ((a0.extract 0 ((ji3) : Int).toNat).size : Int) then (if ((a0.extract 0 ((ji3) : Int).toNat).extract (((rd_T32 t204 x8_1).f3) : Int).toNat ((wrap64 (((rd_T32 t204 x8_1).f3) + 1)) : Int).toNat).toList = ((rd_T32 t204 x8_1).f1).toList then (arboristlaw05_ScanPlaces.l0 kj22 (a0.extract 0 ((ji3) : Int).toNat) t203 t204 (wrap64 (((rd_T32 t204 x8_1).f3) + 1)) (wrap64 (x8_1 + 1))) else (some false)) else (none)) else (none)) else (none)))) = some r := by rw [if_neg (show ¬ (false = true) by decide)] at H; exact H
                              clear H
                              have H := H1
                              clear H1
                              by_cases c29 : (wrap64 (((rd_T32 t204 x8_1).f3) + 1)) > ((a0.extract 0 ((ji3) : Int).toNat).size : Int)
                              · rw [if_pos c29] at H
                                have c29b0 : decide (((a0.extract 0 ((ji3) : Int).toNat).size : Int) < (wrap64 (((rd_T32 t204 x8_1).f3) + 1))) = true := decide_eq_true c29
                                (try simp only [ByteArray.size_extract, Nat.sub_zero] at c29b0)
                                clear c29
                                exact absurd ((Option.some.inj H).trans HT_.out) (by decide)
                              · rw [if_neg c29] at H
                                have c29b0 : decide (((a0.extract 0 ((ji3) : Int).toNat).size : Int) < (wrap64 (((rd_T32 t204 x8_1).f3) + 1))) = false := decide_eq_false c29
                                (try simp only [ByteArray.size_extract, Nat.sub_zero] at c29b0)
                                clear c29
                                by_cases c30 : ((rd_T32 t204 x8_1).f0) = 2
                                · rw [if_pos c30] at H
                                  have c30b0 : (((rd_T32 t204 x8_1).f0) == 2) = true := beq_iff_eq.mpr c30
                                  have c30b1 : (((rd_T32 t204 x8_1).f0) != 2) = false := bne_eq_false_iff_eq.mpr c30
                                  clear c30
                                  have H' := Aside0.mk H
                                  clear H
                                  have hcz31_0 : wc.cell? ⟨gb211, 0, none⟩ = some (.int .i64 ((rd_T32 t204 x8_1).f0)) := (blk_cell BK211.out 0).trans rfl
                                  have hcz31_1 : wc.cell? ⟨gb211, 1, none⟩ = some (.string ((rd_T32 t204 x8_1).f1)) := (blk_cell BK211.out 1).trans rfl
                                  have hcz31_2 : wc.cell? ⟨gb211, 2, none⟩ = some (.int .i64 ((rd_T32 t204 x8_1).f2)) := (blk_cell BK211.out 2).trans rfl
                                  have hcz31_3 : wc.cell? ⟨gb211, 3, none⟩ = some (.int .i64 ((rd_T32 t204 x8_1).f3)) := (blk_cell BK211.out 3).trans rfl
                                  have hfz31_0 := blk_frozen BK211.out 0
                                  have hfz31_1 := blk_frozen BK211.out 1
                                  have hfz31_2 := blk_frozen BK211.out 2
                                  have hfz31_3 := blk_frozen BK211.out 3
                                  go_wp2
                                  repeat (go_quiet (fail); try go_wp2)
                                  go_roundg kj22
                                  case measure => have := HK1.out; have := HJ11.out; have := HJ22.out; omega
                                  case rel => exact ⟨(wrap64 (((rd_T32 t204 x8_1).f3) + 1)), (wrap64 (x8_1 + 1)), (by first | rfl | (simp; done) | (simp [*]; done)), (by first | rfl | (simp; done) | (simp [*]; done)), H', ⟨by have := HK1.out; have := HJ11.out; have := HJ22.out; omega⟩, ⟨by (with_reducible repeat (first | apply Kd.R_alloc | apply Kd.R_drewN | apply Kd.R_drew)); exact Kd.R_mono HO_4.out (fun _ hk => trivial)⟩, ⟨by repeat (first | (with_reducible first | exact HB.out | apply below_alloc | apply pw_below_drewN | apply below_drew1 | refine below_set ?_ GE211.out) | exact HB.out)⟩⟩
                                · rw [if_neg c30] at H
                                  have c30b0 : (((rd_T32 t204 x8_1).f0) == 2) = false := beq_eq_false_iff_ne.mpr c30
                                  have c30b1 : (((rd_T32 t204 x8_1).f0) != 2) = true := bne_iff_ne.mpr c30
                                  by_cases c32 : 0 ≤ ((rd_T32 t204 x8_1).f3)
                                  · rw [if_pos c32] at H
                                    have c32b0 := eq_true c32
                                    have c32b1 : decide (0 ≤ ((rd_T32 t204 x8_1).f3)) = true := decide_eq_true c32
                                    clear c32
                                    by_cases c33 : ((rd_T32 t204 x8_1).f3) ≤ (wrap64 (((rd_T32 t204 x8_1).f3) + 1))
                                    · rw [if_pos c33] at H
                                      have c33b0 := eq_true c33
                                      have c33b1 : decide (((rd_T32 t204 x8_1).f3) ≤ (wrap64 (((rd_T32 t204 x8_1).f3) + 1))) = true := decide_eq_true c33
                                      by_cases c34 : (wrap64 (((rd_T32 t204 x8_1).f3) + 1)) ≤ ((a0.extract 0 ((ji3) : Int).toNat).size : Int)
                                      · rw [if_pos c34] at H
                                        have c34b0 := eq_true c34
                                        (try simp only [ByteArray.size_extract, Nat.sub_zero] at c34b0)
                                        have c34b1 : decide ((wrap64 (((rd_T32 t204 x8_1).f3) + 1)) ≤ ((a0.extract 0 ((ji3) : Int).toNat).size : Int)) = true := decide_eq_true c34
                                        (try simp only [ByteArray.size_extract, Nat.sub_zero] at c34b1)
                                        by_cases c35 : ((a0.extract 0 ((ji3) : Int).toNat).extract (((rd_T32 t204 x8_1).f3) : Int).toNat ((wrap64 (((rd_T32 t204 x8_1).f3) + 1)) : Int).toNat).toList = ((rd_T32 t204 x8_1).f1).toList
                                        · rw [if_pos c35] at H
                                          have c35b0 : (((a0.extract 0 ((ji3) : Int).toNat).extract (((rd_T32 t204 x8_1).f3) : Int).toNat ((wrap64 (((rd_T32 t204 x8_1).f3) + 1)) : Int).toNat).toList == ((rd_T32 t204 x8_1).f1).toList) = true := beq_iff_eq.mpr c35
                                          have c35b1 : (((a0.extract 0 ((ji3) : Int).toNat).extract (((rd_T32 t204 x8_1).f3) : Int).toNat ((wrap64 (((rd_T32 t204 x8_1).f3) + 1)) : Int).toNat).toList != ((rd_T32 t204 x8_1).f1).toList) = false := bne_eq_false_iff_eq.mpr c35
                                          clear c35
                                          have H' := Aside0.mk H
                                          clear H
                                          have hcz36_0 : wc.cell? ⟨gb211, 0, none⟩ = some (.int .i64 ((rd_T32 t204 x8_1).f0)) := (blk_cell BK211.out 0).trans rfl
                                          have hcz36_1 : wc.cell? ⟨gb211, 1, none⟩ = some (.string ((rd_T32 t204 x8_1).f1)) := (blk_cell BK211.out 1).trans rfl
                                          have hcz36_2 : wc.cell? ⟨gb211, 2, none⟩ = some (.int .i64 ((rd_T32 t204 x8_1).f2)) := (blk_cell BK211.out 2).trans rfl
                                          have hcz36_3 : wc.cell? ⟨gb211, 3, none⟩ = some (.int .i64 ((rd_T32 t204 x8_1).f3)) := (blk_cell BK211.out 3).trans rfl
                                          have hfz36_0 := blk_frozen BK211.out 0
                                          have hfz36_1 := blk_frozen BK211.out 1
                                          have hfz36_2 := blk_frozen BK211.out 2
                                          have hfz36_3 := blk_frozen BK211.out 3
                                          go_wp2
                                          repeat (go_quiet (fail); try go_wp2)
                                          go_roundg kj22
                                          case measure => have := HK1.out; have := HJ11.out; have := HJ22.out; omega
                                          case rel => exact ⟨(wrap64 (((rd_T32 t204 x8_1).f3) + 1)), (wrap64 (x8_1 + 1)), (by first | rfl | (simp; done) | (simp [*]; done)), (by first | rfl | (simp; done) | (simp [*]; done)), H', ⟨by have := HK1.out; have := HJ11.out; have := HJ22.out; omega⟩, ⟨by (with_reducible repeat (first | apply Kd.R_alloc | apply Kd.R_drewN | apply Kd.R_drew)); exact Kd.R_mono HO_4.out (fun _ hk => trivial)⟩, ⟨by repeat (first | (with_reducible first | exact HB.out | apply below_alloc | apply pw_below_drewN | apply below_drew1 | refine below_set ?_ GE211.out) | exact HB.out)⟩⟩
                                        · rw [if_neg c35] at H
                                          have c35b0 : (((a0.extract 0 ((ji3) : Int).toNat).extract (((rd_T32 t204 x8_1).f3) : Int).toNat ((wrap64 (((rd_T32 t204 x8_1).f3) + 1)) : Int).toNat).toList == ((rd_T32 t204 x8_1).f1).toList) = false := beq_eq_false_iff_ne.mpr c35
                                          have c35b1 : (((a0.extract 0 ((ji3) : Int).toNat).extract (((rd_T32 t204 x8_1).f3) : Int).toNat ((wrap64 (((rd_T32 t204 x8_1).f3) + 1)) : Int).toNat).toList != ((rd_T32 t204 x8_1).f1).toList) = true := bne_iff_ne.mpr c35
                                          exact absurd ((Option.some.inj H).trans HT_.out) (by decide)
                                      · rw [if_neg c34] at H
                                        exact absurd H (by simp)
                                    · rw [if_neg c33] at H
                                      exact absurd H (by simp)
                                  · rw [if_neg c32] at H
                                    exact absurd H (by simp)
                      · rw [if_neg c22] at H
                        have c22b0 : (((rd_T32 t204 x8_1).f0) == 2) = false := beq_eq_false_iff_ne.mpr c22
                        have c22b1 : (((rd_T32 t204 x8_1).f0) != 2) = true := bne_iff_ne.mpr c22
                        by_cases c37 : (wrap64 (((rd_T32 t204 x8_1).f3) + (((rd_T32 t204 x8_1).f1).size : Int))) > ((a0.extract 0 ((ji3) : Int).toNat).size : Int)
                        · rw [if_pos c37] at H
                          have c37b0 : decide (((a0.extract 0 ((ji3) : Int).toNat).size : Int) < (wrap64 (((rd_T32 t204 x8_1).f3) + (((rd_T32 t204 x8_1).f1).size : Int)))) = true := decide_eq_true c37
                          (try simp only [ByteArray.size_extract, Nat.sub_zero] at c37b0)
                          clear c37
                          exact absurd ((Option.some.inj H).trans HT_.out) (by decide)
                        · rw [if_neg c37] at H
                          have c37b0 : decide (((a0.extract 0 ((ji3) : Int).toNat).size : Int) < (wrap64 (((rd_T32 t204 x8_1).f3) + (((rd_T32 t204 x8_1).f1).size : Int)))) = false := decide_eq_false c37
                          (try simp only [ByteArray.size_extract, Nat.sub_zero] at c37b0)
                          clear c37
                          by_cases c38 : 0 ≤ ((rd_T32 t204 x8_1).f3)
                          · rw [if_pos c38] at H
                            have c38b0 := eq_true c38
                            have c38b1 : decide (0 ≤ ((rd_T32 t204 x8_1).f3)) = true := decide_eq_true c38
                            clear c38
                            by_cases c39 : ((rd_T32 t204 x8_1).f3) ≤ (wrap64 (((rd_T32 t204 x8_1).f3) + (((rd_T32 t204 x8_1).f1).size : Int)))
                            · rw [if_pos c39] at H
                              have c39b0 := eq_true c39
                              have c39b1 : decide (((rd_T32 t204 x8_1).f3) ≤ (wrap64 (((rd_T32 t204 x8_1).f3) + (((rd_T32 t204 x8_1).f1).size : Int)))) = true := decide_eq_true c39
                              by_cases c40 : (wrap64 (((rd_T32 t204 x8_1).f3) + (((rd_T32 t204 x8_1).f1).size : Int))) ≤ ((a0.extract 0 ((ji3) : Int).toNat).size : Int)
                              · rw [if_pos c40] at H
                                have c40b0 := eq_true c40
                                (try simp only [ByteArray.size_extract, Nat.sub_zero] at c40b0)
                                have c40b1 : decide ((wrap64 (((rd_T32 t204 x8_1).f3) + (((rd_T32 t204 x8_1).f1).size : Int))) ≤ ((a0.extract 0 ((ji3) : Int).toNat).size : Int)) = true := decide_eq_true c40
                                (try simp only [ByteArray.size_extract, Nat.sub_zero] at c40b1)
                                by_cases c41 : ((a0.extract 0 ((ji3) : Int).toNat).extract (((rd_T32 t204 x8_1).f3) : Int).toNat ((wrap64 (((rd_T32 t204 x8_1).f3) + (((rd_T32 t204 x8_1).f1).size : Int))) : Int).toNat).toList = ((rd_T32 t204 x8_1).f1).toList
                                · rw [if_pos c41] at H
                                  have c41b0 : (((a0.extract 0 ((ji3) : Int).toNat).extract (((rd_T32 t204 x8_1).f3) : Int).toNat ((wrap64 (((rd_T32 t204 x8_1).f3) + (((rd_T32 t204 x8_1).f1).size : Int))) : Int).toNat).toList == ((rd_T32 t204 x8_1).f1).toList) = true := beq_iff_eq.mpr c41
                                  have c41b1 : (((a0.extract 0 ((ji3) : Int).toNat).extract (((rd_T32 t204 x8_1).f3) : Int).toNat ((wrap64 (((rd_T32 t204 x8_1).f3) + (((rd_T32 t204 x8_1).f1).size : Int))) : Int).toNat).toList != ((rd_T32 t204 x8_1).f1).toList) = false := bne_eq_false_iff_eq.mpr c41
                                  clear c41
                                  have H' := Aside0.mk H
                                  clear H
                                  have hcz42_0 : wc.cell? ⟨gb211, 0, none⟩ = some (.int .i64 ((rd_T32 t204 x8_1).f0)) := (blk_cell BK211.out 0).trans rfl
                                  have hcz42_1 : wc.cell? ⟨gb211, 1, none⟩ = some (.string ((rd_T32 t204 x8_1).f1)) := (blk_cell BK211.out 1).trans rfl
                                  have hcz42_2 : wc.cell? ⟨gb211, 2, none⟩ = some (.int .i64 ((rd_T32 t204 x8_1).f2)) := (blk_cell BK211.out 2).trans rfl
                                  have hcz42_3 : wc.cell? ⟨gb211, 3, none⟩ = some (.int .i64 ((rd_T32 t204 x8_1).f3)) := (blk_cell BK211.out 3).trans rfl
                                  have hfz42_0 := blk_frozen BK211.out 0
                                  have hfz42_1 := blk_frozen BK211.out 1
                                  have hfz42_2 := blk_frozen BK211.out 2
                                  have hfz42_3 := blk_frozen BK211.out 3
                                  go_wp2
                                  repeat (go_quiet (fail); try go_wp2)
                                  go_roundg kj11
                                  case measure => have := HK1.out; have := HJ11.out; omega
                                  case rel => exact ⟨(wrap64 (((rd_T32 t204 x8_1).f3) + (((rd_T32 t204 x8_1).f1).size : Int))), (wrap64 (x8_1 + 1)), (by first | rfl | (simp; done) | (simp [*]; done)), (by first | rfl | (simp; done) | (simp [*]; done)), H', ⟨by have := HK1.out; have := HJ11.out; omega⟩, ⟨by (with_reducible repeat (first | apply Kd.R_alloc | apply Kd.R_drewN | apply Kd.R_drew)); exact Kd.R_mono HO_4.out (fun _ hk => trivial)⟩, ⟨by repeat (first | (with_reducible first | exact HB.out | apply below_alloc | apply pw_below_drewN | apply below_drew1 | refine below_set ?_ GE211.out) | exact HB.out)⟩⟩
                                · rw [if_neg c41] at H
                                  have c41b0 : (((a0.extract 0 ((ji3) : Int).toNat).extract (((rd_T32 t204 x8_1).f3) : Int).toNat ((wrap64 (((rd_T32 t204 x8_1).f3) + (((rd_T32 t204 x8_1).f1).size : Int))) : Int).toNat).toList == ((rd_T32 t204 x8_1).f1).toList) = false := beq_eq_false_iff_ne.mpr c41
                                  have c41b1 : (((a0.extract 0 ((ji3) : Int).toNat).extract (((rd_T32 t204 x8_1).f3) : Int).toNat ((wrap64 (((rd_T32 t204 x8_1).f3) + (((rd_T32 t204 x8_1).f1).size : Int))) : Int).toNat).toList != ((rd_T32 t204 x8_1).f1).toList) = true := bne_iff_ne.mpr c41
                                  exact absurd ((Option.some.inj H).trans HT_.out) (by decide)
                              · rw [if_neg c40] at H
                                exact absurd H (by simp)
                            · rw [if_neg c39] at H
                              exact absurd H (by simp)
                          · rw [if_neg c38] at H
                            exact absurd H (by simp)
              · rw [if_neg c11] at H
                exact absurd H (by simp)
            · rw [if_neg c10] at H
              have c10b0 : decide (x8_1 < (t204.length : Int)) = false := decide_eq_false c10
              clear c10
              by_cases c43 : t203 = true
              · subst c43
                have H1 : (if (t204.length : Int) > 0 then (if 0 ≤ (wrap64 ((t204.length : Int) - 1)) then (if (wrap64 ((t204.length : Int) - 1)) < (t204.length : Int) then (some (((rd_T32 t204 (wrap64 ((t204.length : Int) - 1))).f3) == ((a0.extract 0 ((ji3) : Int).toNat).size : Int))) else (none)) else (none)) else (some false)) = some r := by rw [if_pos rfl] at H; exact H
                clear H
                have H := H1
                clear H1
                by_cases c44 : (t204.length : Int) > 0
                · rw [if_pos c44] at H
                  have c44b0 : decide (0 < (t204.length : Int)) = true := decide_eq_true c44
                  have c44b1 : decide (0 < t204.length) = true := decide_eq_true (by omega)
                  clear c44
                  obtain ⟨ji45, hji45⟩ : ∃ j_ : Int, (wrap64 ((t204.length : Int) - 1)) = j_ := ⟨_, rfl⟩
                  replace H : (if 0 ≤ (ji45) then (if (ji45) < (t204.length : Int) then (some (((rd_T32 t204 (ji45)).f3) == ((a0.extract 0 ((ji3) : Int).toNat).size : Int))) else (none)) else (none)) = some r := by first | (rw [hji45] at H; exact H) | (simp only [hji45] at H ⊢; exact H)
                  have hji45w : (IntKind.i64.wrap ((t204.length : Int) - 1)) = ji45 := (i64_w _).trans hji45
                  by_cases c46 : 0 ≤ (ji45)
                  · rw [if_pos c46] at H
                    have c46b0 : decide (0 ≤ (ji45)) = true := decide_eq_true c46
                    clear c46
                    by_cases c47 : (ji45) < (t204.length : Int)
                    · rw [if_pos c47] at H
                      have c47b0 : decide ((ji45) < (t204.length : Int)) = true := decide_eq_true c47
                      clear c47
                      obtain rfl := Option.some.inj H
                      obtain ⟨Ao48, co48, eo48⟩ := Kd.R_slice HO_4.out
                      subst eo48
                      have p209 : 0 ≤ ((ji45) : Int) := of_decide_eq_true (by first | (with_reducible assumption) | assumption)
                      have q209 : (ji45) < (t204.length : Int) := of_decide_eq_true (by first | (with_reducible assumption) | assumption)
                      obtain ⟨ad209, e209, hx209_0, hx209_1, hx209_2, hx209_3⟩ := at_T32 (Kd.R_reads' HO_4.out).2.2 (ji45) p209 q209
                      cases e209
                      replace p209 := eq_true p209
                      replace q209 := eq_true q209
                      go_wp2
                      repeat (go_quiet (fail); try go_wp2)
                      go_ret
                      exact ⟨by first | rfl | (simp [errW_none, errW_some] <;> rfl) | (simp only [← hji3, ← hji45]; first | rfl | (simp [errW_none, errW_some] <;> rfl)) | (simp [*, errW_none, errW_some] <;> rfl), by repeat (first | (with_reducible first | exact HB.out | apply below_alloc | apply pw_below_drewN | apply below_drew1) | exact HB.out)⟩
                    · rw [if_neg c47] at H
                      exact absurd H (by simp)
                  · rw [if_neg c46] at H
                    exact absurd H (by simp)
                · rw [if_neg c44] at H
                  have c44b0 : decide (0 < (t204.length : Int)) = false := decide_eq_false c44
                  have c44b1 : decide (0 < t204.length) = false := decide_eq_false (by omega)
                  clear c44
                  exact absurd ((Option.some.inj H).trans HT_.out) (by decide)
              · replace c43 := Bool.eq_false_iff.mpr c43
                subst c43
                have H1 : (some false) = some r := by rw [if_neg (show ¬ (false = true) by decide)] at H; exact H
                clear H
                have H := H1
                clear H1
                exact absurd ((Option.some.inj H).trans HT_.out) (by decide)
      · rw [if_neg c7] at H
        have c7b0 : (t206 == 0) = false := beq_eq_false_iff_ne.mpr c7
        have c7b1 : (t206 != 0) = true := bne_iff_ne.mpr c7
        by_cases c49 : t203 = true
        · subst c49
          have H1 : (if (t204.length : Int) = 0 then (if t205 ≥ 0 then (some (decide (t205 < ((a0.extract 0 ((ji3) : Int).toNat).size : Int)))) else (some false)) else (some false)) = some r := by rw [if_pos rfl] at H; exact H
          clear H
          have H := H1
          clear H1
          by_cases c50 : (t204.length : Int) = 0
          · rw [if_pos c50] at H
            have c50b0 : ((t204.length : Int) == 0) = true := beq_iff_eq.mpr c50
            have c50b1 : ((t204.length : Int) != 0) = false := bne_eq_false_iff_eq.mpr c50
            clear c50
            by_cases c51 : t205 ≥ 0
            · rw [if_pos c51] at H
              have c51b0 : decide (0 ≤ t205) = true := decide_eq_true c51
              clear c51
              obtain rfl := Option.some.inj H
              go_enter Tryd.func4, Tryd.ntmps4
              go_wp2_with (first | (go_at_call 10; (with_reducible refine (arboristlaw05_shown.calls (hTb := (by first | exact HTAB.out | exact tab_drewN HTAB.out _ | exact tab_below HTAB.out (by repeat (first | (with_reducible first | exact HB.out | apply below_alloc | apply pw_below_drewN | apply below_drew1 | refine below_set ?_ GE211.out) | exact HB.out))))  true _ A2.out).mono ?_); rintro e w52 ⟨rfl, hb⟩; have n0_ := Aside0.mk (below_step (by repeat (first | (with_reducible first | exact HB.out | apply below_alloc | apply pw_below_drewN | apply below_drew1) | exact HB.out)) hb); clear HB; have HB := n0_; clear n0_; (try clear hb); (try clear hb2); (try clear hk); (try clear hi)) | (go_at_call 11; (with_reducible refine (scan_All.calls (hTb := (by first | exact HTAB.out | exact tab_drewN HTAB.out _ | exact tab_below HTAB.out (by repeat (first | (with_reducible first | exact HB.out | apply below_alloc | apply pw_below_drewN | apply below_drew1 | refine below_set ?_ GE211.out) | exact HB.out)))) (a0.extract 0 ((ji3) : Int).toNat) t204 t205 t206 _ A6.out).mono ?_); rintro e w53 ⟨v207, rfl, ho0, hb⟩; have n0_ := Aside0.mk (Kd.R_lower ho0 (below_size (by repeat (first | (with_reducible first | exact HB.out | apply below_alloc | apply pw_below_drewN | apply below_drew1) | exact HB.out)))); have n1_ := Aside0.mk (below_step (by repeat (first | (with_reducible first | exact HB.out | apply below_alloc | apply pw_below_drewN | apply below_drew1) | exact HB.out)) hb); clear HB; have HO208 := n0_; have HB := n1_; clear n0_ n1_; (try clear hb); (try clear hb2); (try clear hk); (try clear hi); (try clear ho0); obtain ⟨Ao54, co54, eo54⟩ := Kd.R_slice HO208.out; subst eo54))
              repeat (go_quiet (first | (go_at_call 10; (with_reducible refine (arboristlaw05_shown.calls (hTb := (by first | exact HTAB.out | exact tab_drewN HTAB.out _ | exact tab_below HTAB.out (by repeat (first | (with_reducible first | exact HB.out | apply below_alloc | apply pw_below_drewN | apply below_drew1 | refine below_set ?_ GE211.out) | exact HB.out))))  true _ A2.out).mono ?_); rintro e w52 ⟨rfl, hb⟩; have n0_ := Aside0.mk (below_step (by repeat (first | (with_reducible first | exact HB.out | apply below_alloc | apply pw_below_drewN | apply below_drew1) | exact HB.out)) hb); clear HB; have HB := n0_; clear n0_; (try clear hb); (try clear hb2); (try clear hk); (try clear hi)) | (go_at_call 11; (with_reducible refine (scan_All.calls (hTb := (by first | exact HTAB.out | exact tab_drewN HTAB.out _ | exact tab_below HTAB.out (by repeat (first | (with_reducible first | exact HB.out | apply below_alloc | apply pw_below_drewN | apply below_drew1 | refine below_set ?_ GE211.out) | exact HB.out)))) (a0.extract 0 ((ji3) : Int).toNat) t204 t205 t206 _ A6.out).mono ?_); rintro e w53 ⟨v207, rfl, ho0, hb⟩; have n0_ := Aside0.mk (Kd.R_lower ho0 (below_size (by repeat (first | (with_reducible first | exact HB.out | apply below_alloc | apply pw_below_drewN | apply below_drew1) | exact HB.out)))); have n1_ := Aside0.mk (below_step (by repeat (first | (with_reducible first | exact HB.out | apply below_alloc | apply pw_below_drewN | apply below_drew1) | exact HB.out)) hb); clear HB; have HO208 := n0_; have HB := n1_; clear n0_ n1_; (try clear hb); (try clear hb2); (try clear hk); (try clear hi); (try clear ho0); obtain ⟨Ao54, co54, eo54⟩ := Kd.R_slice HO208.out; subst eo54)); try go_wp2_with (first | (go_at_call 10; (with_reducible refine (arboristlaw05_shown.calls (hTb := (by first | exact HTAB.out | exact tab_drewN HTAB.out _ | exact tab_below HTAB.out (by repeat (first | (with_reducible first | exact HB.out | apply below_alloc | apply pw_below_drewN | apply below_drew1 | refine below_set ?_ GE211.out) | exact HB.out))))  true _ A2.out).mono ?_); rintro e w52 ⟨rfl, hb⟩; have n0_ := Aside0.mk (below_step (by repeat (first | (with_reducible first | exact HB.out | apply below_alloc | apply pw_below_drewN | apply below_drew1) | exact HB.out)) hb); clear HB; have HB := n0_; clear n0_; (try clear hb); (try clear hb2); (try clear hk); (try clear hi)) | (go_at_call 11; (with_reducible refine (scan_All.calls (hTb := (by first | exact HTAB.out | exact tab_drewN HTAB.out _ | exact tab_below HTAB.out (by repeat (first | (with_reducible first | exact HB.out | apply below_alloc | apply pw_below_drewN | apply below_drew1 | refine below_set ?_ GE211.out) | exact HB.out)))) (a0.extract 0 ((ji3) : Int).toNat) t204 t205 t206 _ A6.out).mono ?_); rintro e w53 ⟨v207, rfl, ho0, hb⟩; have n0_ := Aside0.mk (Kd.R_lower ho0 (below_size (by repeat (first | (with_reducible first | exact HB.out | apply below_alloc | apply pw_below_drewN | apply below_drew1) | exact HB.out)))); have n1_ := Aside0.mk (below_step (by repeat (first | (with_reducible first | exact HB.out | apply below_alloc | apply pw_below_drewN | apply below_drew1) | exact HB.out)) hb); clear HB; have HO208 := n0_; have HB := n1_; clear n0_ n1_; (try clear hb); (try clear hb2); (try clear hk); (try clear hi); (try clear ho0); obtain ⟨Ao54, co54, eo54⟩ := Kd.R_slice HO208.out; subst eo54)))
              go_ret
              exact ⟨by first | rfl | (simp [errW_none, errW_some] <;> rfl) | (simp only [← hji3]; first | rfl | (simp [errW_none, errW_some] <;> rfl)) | (simp [*, errW_none, errW_some] <;> rfl), by repeat (first | (with_reducible first | exact HB.out | apply below_alloc | apply pw_below_drewN | apply below_drew1) | exact HB.out)⟩
            · rw [if_neg c51] at H
              have c51b0 : decide (0 ≤ t205) = false := decide_eq_false c51
              clear c51
              exact absurd ((Option.some.inj H).trans HT_.out) (by decide)
          · rw [if_neg c50] at H
            have c50b0 : ((t204.length : Int) == 0) = false := beq_eq_false_iff_ne.mpr c50
            have c50b1 : ((t204.length : Int) != 0) = true := bne_iff_ne.mpr c50
            have c50b2 : ¬ (t204 = []) := fun h_ => c50 (by rw [h_]; rfl)
            exact absurd ((Option.some.inj H).trans HT_.out) (by decide)
        · replace c49 := Bool.eq_false_iff.mpr c49
          subst c49
          have H1 : (some false) = some r := by rw [if_neg (show ¬ (false = true) by decide)] at H; exact H
          clear H
          have H := H1
          clear H1
          exact absurd ((Option.some.inj H).trans HT_.out) (by decide)
    · rw [if_neg c5] at H
      exact absurd H (by simp)
  · rw [if_neg c4] at H
    exact absurd H (by simp)

/-- THE ONE PURE STATEMENT of arboristlaw05_ScanPlaces. -/
def arboristlaw05_ScanPlaces.Pure : Prop := ∀ (a0 : ByteArray), (a0.size ≤ maxLen) → ∃ k, arboristlaw05_ScanPlaces.f k a0 = some true

end Go.Proofs.YtfgabdfnbkmaeaaDoor.Pr
