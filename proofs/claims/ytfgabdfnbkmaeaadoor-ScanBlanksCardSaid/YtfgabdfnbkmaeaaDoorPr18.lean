-- Printed by a program of this session's own (wip/tools/pp.py) over the kit's print.py; Lean checks it.
import Derived.Test.YtfgabdfnbkmaeaaDoorPr0
import Derived.Test.YtfgabdfnbkmaeaaDoorPr11
import Derived.Test.YtfgabdfnbkmaeaaDoorPr12
namespace Go.Proofs.YtfgabdfnbkmaeaaDoor.Pr
open Go.RowKit Go.Proofs.YtfgabdfnbkmaeaaDoorW.PrintWords Go.Proofs.YtfgabdfnbkmaeaaDoorW.PrintLast Go.Proofs.YtfgabdfnbkmaeaaDoorW.PrintMore
attribute [local go_sem] max2_int min2_int max_two min_two max_three min_three max_four min_four   -- for this text's walks alone
set_option linter.unusedVariables false
set_option linter.unusedSimpArgs false

/-! ### arboristlaw05_ScanBlanks: function 5 -/
mutual
def arboristlaw05_ScanBlanks.j0 : Nat → Bool → List (S32) → List (S32) → Bool → Option (Bool)
  | 0, _, _, _, _ => none
  | k + 1, x3, x4, x7, x40 => if x40 = true then (some false) else (arboristlaw05_ScanBlanks.l0 k x3 x4 x7 0)
def arboristlaw05_ScanBlanks.l0 : Nat → Bool → List (S32) → List (S32) → Int → Option (Bool)
  | 0, _, _, _, _ => none
  | k + 1, x3, x4, x7, x10 => if (wrap64 (x10 + 1)) < (x4.length : Int) then (if 0 ≤ x10 then (if x10 < (x4.length : Int) then (if x10 < (x7.length : Int) then (if ((rd_T32 x4 x10).f0) = ((rd_T32 x7 x10).f0) then (if ((rd_T32 x4 x10).f1).toList = ((rd_T32 x7 x10).f1).toList then (if ((rd_T32 x4 x10).f2) = ((rd_T32 x7 x10).f2) then (if ((rd_T32 x7 x10).f3) = (wrap64 (((rd_T32 x4 x10).f3) + 1)) then (arboristlaw05_ScanBlanks.l0 k x3 x4 x7 (wrap64 (x10 + 1))) else (some false)) else (some false)) else (some false)) else (some false)) else (none)) else (none)) else (none)) else (some x3)
end
def arboristlaw05_ScanBlanks.f (k : Nat) (a0 : ByteArray) : Option (Bool) := (arboristlaw05_shown.f).bind fun t212 => (if 0 ≤ (mn (a0.size : Int) 1000) then (if (mn (a0.size : Int) 1000) ≤ (a0.size : Int) then ((scan_All.f (a0.extract 0 ((mn (a0.size : Int) 1000) : Int).toNat)).bind fun bt213 => (if 1 + (a0.extract 0 ((mn (a0.size : Int) 1000) : Int).toNat).size ≤ 9223372036854775807 then (if ((⟨#[10]⟩ : ByteArray) ++ (a0.extract 0 ((mn (a0.size : Int) 1000) : Int).toNat)).size + 7 ≤ 9223372036854775807 then ((scan_All.f (((⟨#[10]⟩ : ByteArray) ++ (a0.extract 0 ((mn (a0.size : Int) 1000) : Int).toNat)) ++ (⟨#[10, 32, 35, 120, 59, 10, 9]⟩ : ByteArray))).bind fun bt218 => (if bt213.2.2 = bt218.2.2 then (arboristlaw05_ScanBlanks.j0 k t212 bt213.1 bt218.1 ((bt213.1.length : Int) != (bt218.1.length : Int))) else (arboristlaw05_ScanBlanks.j0 k t212 bt213.1 bt218.1 true))) else (none)) else (none))) else (none)) else (none))
theorem arboristlaw05_ScanBlanks.mono_l : ∀ k, (∀ y0 y1 y2 y3, LeO (arboristlaw05_ScanBlanks.j0 k y0 y1 y2 y3) (arboristlaw05_ScanBlanks.j0 (k + 1) y0 y1 y2 y3)) ∧ (∀ y0 y1 y2 y3, LeO (arboristlaw05_ScanBlanks.l0 k y0 y1 y2 y3) (arboristlaw05_ScanBlanks.l0 (k + 1) y0 y1 y2 y3))
  | 0 => ⟨fun _ _ _ _ r h => by simp [arboristlaw05_ScanBlanks.j0] at h, fun _ _ _ _ r h => by simp [arboristlaw05_ScanBlanks.l0] at h⟩
  | k + 1 => by
    obtain ⟨ih0, ih1⟩ := arboristlaw05_ScanBlanks.mono_l k
    refine ⟨?_, ?_⟩
    all_goals intros
    all_goals (first | unfold arboristlaw05_ScanBlanks.j0 | unfold arboristlaw05_ScanBlanks.l0)
    all_goals repeat' first
    | (with_reducible exact ih0 _ _ _ _)
    | (with_reducible exact ih1 _ _ _ _)
    | (with_reducible exact LeO.refl _)
    | (with_reducible exact LeO.none _)
    | (with_reducible refine LeO.ite ?_ ?_)
    | (with_reducible refine LeO.bind ?_ (fun _ => ?_))
    | exact ih0 _ _ _ _
    | exact ih1 _ _ _ _
    | exact LeO.none _
    | refine LeO.ite ?_ ?_
    | refine LeO.bind ?_ (fun _ => ?_)
theorem arboristlaw05_ScanBlanks.mono : ∀ a0 k, LeO (arboristlaw05_ScanBlanks.f k a0) (arboristlaw05_ScanBlanks.f (k + 1) a0) := by
  intro a0 k
  obtain ⟨ih0, ih1⟩ := arboristlaw05_ScanBlanks.mono_l k
  unfold arboristlaw05_ScanBlanks.f
  repeat' first
      | (with_reducible exact ih0 _ _ _ _)
      | (with_reducible exact ih1 _ _ _ _)
      | (with_reducible exact LeO.refl _)
      | (with_reducible exact LeO.none _)
      | (with_reducible refine LeO.ite ?_ ?_)
      | (with_reducible refine LeO.bind ?_ (fun _ => ?_))
      | exact ih0 _ _ _ _
      | exact ih1 _ _ _ _
      | exact LeO.none _
      | refine LeO.ite ?_ ?_
      | refine LeO.bind ?_ (fun _ => ?_)
set_option maxHeartbeats 8000000 in
set_option maxRecDepth 100000 in
theorem arboristlaw05_ScanBlanks.calls (k : Nat) (a0 : ByteArray) (r : Bool) (w : World) (hTb : Tab64 w) (hT : r = true) (h : arboristlaw05_ScanBlanks.f k a0 = some r) :
    Calls Tryd.prog 5 #[.string a0] w fun e w' => e = .returned (.bool r) ∧ Below w.heap.size w w' := by
  have HTAB := Aside0.mk hTb
  clear hTb
  have HT_ := Aside0.mk (show r = true from hT)
  clear hT
  have HB := Aside0.mk (Below.refl w.heap.size w)
  have H : ((arboristlaw05_shown.f).bind fun t212 => (if 0 ≤ (mn (a0.size : Int) 1000) then (if (mn (a0.size : Int) 1000) ≤ (a0.size : Int) then ((scan_All.f (a0.extract 0 ((mn (a0.size : Int) 1000) : Int).toNat)).bind fun bt213 => (if 1 + (a0.extract 0 ((mn (a0.size : Int) 1000) : Int).toNat).size ≤ 9223372036854775807 then (if ((⟨#[10]⟩ : ByteArray) ++ (a0.extract 0 ((mn (a0.size : Int) 1000) : Int).toNat)).size + 7 ≤ 9223372036854775807 then ((scan_All.f (((⟨#[10]⟩ : ByteArray) ++ (a0.extract 0 ((mn (a0.size : Int) 1000) : Int).toNat)) ++ (⟨#[10, 32, 35, 120, 59, 10, 9]⟩ : ByteArray))).bind fun bt218 => (if bt213.2.2 = bt218.2.2 then (arboristlaw05_ScanBlanks.j0 k t212 bt213.1 bt218.1 ((bt213.1.length : Int) != (bt218.1.length : Int))) else (arboristlaw05_ScanBlanks.j0 k t212 bt213.1 bt218.1 true))) else (none)) else (none))) else (none)) else (none))) = some r := h
  clear h
  replace H := Option.bind_eq_some_iff.mp H
  obtain ⟨t212, A20, H⟩ := H
  replace H : (if 0 ≤ (mn (a0.size : Int) 1000) then (if (mn (a0.size : Int) 1000) ≤ (a0.size : Int) then ((scan_All.f (a0.extract 0 ((mn (a0.size : Int) 1000) : Int).toNat)).bind fun bt213 => (if 1 + (a0.extract 0 ((mn (a0.size : Int) 1000) : Int).toNat).size ≤ 9223372036854775807 then (if ((⟨#[10]⟩ : ByteArray) ++ (a0.extract 0 ((mn (a0.size : Int) 1000) : Int).toNat)).size + 7 ≤ 9223372036854775807 then ((scan_All.f (((⟨#[10]⟩ : ByteArray) ++ (a0.extract 0 ((mn (a0.size : Int) 1000) : Int).toNat)) ++ (⟨#[10, 32, 35, 120, 59, 10, 9]⟩ : ByteArray))).bind fun bt218 => (if bt213.2.2 = bt218.2.2 then (arboristlaw05_ScanBlanks.j0 k t212 bt213.1 bt218.1 ((bt213.1.length : Int) != (bt218.1.length : Int))) else (arboristlaw05_ScanBlanks.j0 k t212 bt213.1 bt218.1 true))) else (none)) else (none))) else (none)) else (none)) = some r := H
  have A2 := Aside0.mk A20
  clear A20
  obtain ⟨ji3, hji3⟩ : ∃ j_ : Int, (mn (a0.size : Int) 1000) = j_ := ⟨_, rfl⟩
  replace H : (if 0 ≤ (ji3) then (if (ji3) ≤ (a0.size : Int) then ((scan_All.f (a0.extract 0 ((ji3) : Int).toNat)).bind fun bt213 => (if 1 + (a0.extract 0 ((ji3) : Int).toNat).size ≤ 9223372036854775807 then (if ((⟨#[10]⟩ : ByteArray) ++ (a0.extract 0 ((ji3) : Int).toNat)).size + 7 ≤ 9223372036854775807 then ((scan_All.f (((⟨#[10]⟩ : ByteArray) ++ (a0.extract 0 ((ji3) : Int).toNat)) ++ (⟨#[10, 32, 35, 120, 59, 10, 9]⟩ : ByteArray))).bind fun bt218 => (if bt213.2.2 = bt218.2.2 then (arboristlaw05_ScanBlanks.j0 k t212 bt213.1 bt218.1 ((bt213.1.length : Int) != (bt218.1.length : Int))) else (arboristlaw05_ScanBlanks.j0 k t212 bt213.1 bt218.1 true))) else (none)) else (none))) else (none)) else (none)) = some r := by first | (rw [hji3] at H; exact H) | (simp only [hji3] at H ⊢; exact H)
  (try rw [hji3] at A2)
  (try (have hji3h : ji3 ≤ 1000 := by (rw [← hji3]; unfold mn; (repeat' split) <;> omega)))
  (try (have hji3g : ji3 ≤ 64 := by omega))
  (try (have hji3l : 0 ≤ ji3 := by (rw [← hji3]; unfold mn; (repeat' split) <;> omega)))
  (try (have hji3m : 0 ≤ ji3 := by omega))
  have hji3_ : (if 1000 < (a0.size : Int) then 1000 else (a0.size : Int)) = ji3 := hji3
  by_cases c4 : 0 ≤ (ji3)
  · rw [if_pos c4] at H
    have c4b0 := eq_true c4
    have c4b1 : decide (0 ≤ (ji3)) = true := decide_eq_true c4
    clear c4
    by_cases c5 : (ji3) ≤ (a0.size : Int)
    · rw [if_pos c5] at H
      have c5b0 := eq_true c5
      have c5b1 : decide ((ji3) ≤ (a0.size : Int)) = true := decide_eq_true c5
      clear c5
      replace H := Option.bind_eq_some_iff.mp H
      obtain ⟨⟨t213, t214, t215⟩, A60, H⟩ := H
      replace H : (if 1 + (a0.extract 0 ((ji3) : Int).toNat).size ≤ 9223372036854775807 then (if ((⟨#[10]⟩ : ByteArray) ++ (a0.extract 0 ((ji3) : Int).toNat)).size + 7 ≤ 9223372036854775807 then ((scan_All.f (((⟨#[10]⟩ : ByteArray) ++ (a0.extract 0 ((ji3) : Int).toNat)) ++ (⟨#[10, 32, 35, 120, 59, 10, 9]⟩ : ByteArray))).bind fun bt218 => (if t215 = bt218.2.2 then (arboristlaw05_ScanBlanks.j0 k t212 t213 bt218.1 ((t213.length : Int) != (bt218.1.length : Int))) else (arboristlaw05_ScanBlanks.j0 k t212 t213 bt218.1 true))) else (none)) else (none)) = some r := H
      have A6 := Aside0.mk A60
      clear A60
      by_cases c7 : 1 + (a0.extract 0 ((ji3) : Int).toNat).size ≤ 9223372036854775807
      · rw [if_pos c7] at H
        have c7b0 := eq_true c7
        have c7b1 : decide (1 + (a0.extract 0 ((ji3) : Int).toNat).size ≤ 9223372036854775807) = true := decide_eq_true c7
        try have c7b2 : (9223372036854775807 < 1 + (a0.extract 0 ((ji3) : Int).toNat).size) = False := eq_false (Nat.not_lt.2 c7)
        by_cases c8 : ((⟨#[10]⟩ : ByteArray) ++ (a0.extract 0 ((ji3) : Int).toNat)).size + 7 ≤ 9223372036854775807
        · rw [if_pos c8] at H
          have c8b0 := eq_true c8
          have c8b1 : decide (((⟨#[10]⟩ : ByteArray) ++ (a0.extract 0 ((ji3) : Int).toNat)).size + 7 ≤ 9223372036854775807) = true := decide_eq_true c8
          try have c8b2 : (9223372036854775807 < ((⟨#[10]⟩ : ByteArray) ++ (a0.extract 0 ((ji3) : Int).toNat)).size + 7) = False := eq_false (Nat.not_lt.2 c8)
          replace H := Option.bind_eq_some_iff.mp H
          obtain ⟨⟨t218, t219, t220⟩, A90, H⟩ := H
          replace H : (if t215 = t220 then (arboristlaw05_ScanBlanks.j0 k t212 t213 t218 ((t213.length : Int) != (t218.length : Int))) else (arboristlaw05_ScanBlanks.j0 k t212 t213 t218 true)) = some r := H
          have A9 := Aside0.mk A90
          clear A90
          have HC10 := Aside0.mk H
          clear H
          go_enter Tryd.func5, Tryd.ntmps5
          go_upto_region 5 with (first | (go_at_call 10; (with_reducible refine (arboristlaw05_shown.calls (hTb := (by first | exact HTAB.out | exact tab_drewN HTAB.out _ | exact tab_below HTAB.out (by repeat (first | (with_reducible first | exact HB.out | apply below_alloc | apply pw_below_drewN | apply below_drew1) | exact HB.out))))  t212 _ A2.out).mono ?_); rintro e w11 ⟨rfl, hb⟩; have n0_ := Aside0.mk (below_step (by repeat (first | (with_reducible first | exact HB.out | apply below_alloc | apply pw_below_drewN | apply below_drew1) | exact HB.out)) hb); clear HB; have HB := n0_; clear n0_; (try clear hb); (try clear hb2); (try clear hk); (try clear hi)) | (go_at_call 11; (with_reducible refine (scan_All.calls (hTb := (by first | exact HTAB.out | exact tab_drewN HTAB.out _ | exact tab_below HTAB.out (by repeat (first | (with_reducible first | exact HB.out | apply below_alloc | apply pw_below_drewN | apply below_drew1) | exact HB.out)))) (a0.extract 0 ((ji3) : Int).toNat) t213 t214 t215 _ A6.out).mono ?_); rintro e w12 ⟨v216, rfl, ho0, hb⟩; have n0_ := Aside0.mk (Kd.R_lower ho0 (below_size (by repeat (first | (with_reducible first | exact HB.out | apply below_alloc | apply pw_below_drewN | apply below_drew1) | exact HB.out)))); have n1_ := Aside0.mk (below_step (by repeat (first | (with_reducible first | exact HB.out | apply below_alloc | apply pw_below_drewN | apply below_drew1) | exact HB.out)) hb); clear HB; have HO217 := n0_; have HB := n1_; clear n0_ n1_; (try clear hb); (try clear hb2); (try clear hk); (try clear hi); (try clear ho0)) | (go_at_call 11; (with_reducible refine (scan_All.calls (hTb := (by first | exact HTAB.out | exact tab_drewN HTAB.out _ | exact tab_below HTAB.out (by repeat (first | (with_reducible first | exact HB.out | apply below_alloc | apply pw_below_drewN | apply below_drew1) | exact HB.out)))) (((⟨#[10]⟩ : ByteArray) ++ (a0.extract 0 ((ji3) : Int).toNat)) ++ (⟨#[10, 32, 35, 120, 59, 10, 9]⟩ : ByteArray)) t218 t219 t220 _ A9.out).mono ?_); rintro e w13 ⟨v221, rfl, ho0, hb⟩; have n0_ := Aside0.mk (Kd.R_elder' (by (with_reducible repeat (first | apply Kd.R_alloc | apply Kd.R_drewN | apply Kd.R_drew)); exact HO217.out) (Kd.R_base ho0) hb); have n1_ := Aside0.mk (Kd.R_lower (Kd.R_new' ho0 (Kd.R_lt (by (with_reducible repeat (first | apply Kd.R_alloc | apply Kd.R_drewN | apply Kd.R_drew)); exact HO217.out))) (below_size (by repeat (first | (with_reducible first | exact HB.out | apply below_alloc | apply pw_below_drewN | apply below_drew1) | exact HB.out)))); have n2_ := Aside0.mk (below_step (by repeat (first | (with_reducible first | exact HB.out | apply below_alloc | apply pw_below_drewN | apply below_drew1) | exact HB.out)) hb); clear HO217; clear HB; have HO217 := n0_; have HO222 := n1_; have HB := n2_; clear n0_ n1_ n2_; (try clear hb); (try clear hb2); (try clear hk); (try clear hi); (try clear ho0)))
          repeat (go_quiet (first | (go_at_call 10; (with_reducible refine (arboristlaw05_shown.calls (hTb := (by first | exact HTAB.out | exact tab_drewN HTAB.out _ | exact tab_below HTAB.out (by repeat (first | (with_reducible first | exact HB.out | apply below_alloc | apply pw_below_drewN | apply below_drew1) | exact HB.out))))  t212 _ A2.out).mono ?_); rintro e w11 ⟨rfl, hb⟩; have n0_ := Aside0.mk (below_step (by repeat (first | (with_reducible first | exact HB.out | apply below_alloc | apply pw_below_drewN | apply below_drew1) | exact HB.out)) hb); clear HB; have HB := n0_; clear n0_; (try clear hb); (try clear hb2); (try clear hk); (try clear hi)) | (go_at_call 11; (with_reducible refine (scan_All.calls (hTb := (by first | exact HTAB.out | exact tab_drewN HTAB.out _ | exact tab_below HTAB.out (by repeat (first | (with_reducible first | exact HB.out | apply below_alloc | apply pw_below_drewN | apply below_drew1) | exact HB.out)))) (a0.extract 0 ((ji3) : Int).toNat) t213 t214 t215 _ A6.out).mono ?_); rintro e w12 ⟨v216, rfl, ho0, hb⟩; have n0_ := Aside0.mk (Kd.R_lower ho0 (below_size (by repeat (first | (with_reducible first | exact HB.out | apply below_alloc | apply pw_below_drewN | apply below_drew1) | exact HB.out)))); have n1_ := Aside0.mk (below_step (by repeat (first | (with_reducible first | exact HB.out | apply below_alloc | apply pw_below_drewN | apply below_drew1) | exact HB.out)) hb); clear HB; have HO217 := n0_; have HB := n1_; clear n0_ n1_; (try clear hb); (try clear hb2); (try clear hk); (try clear hi); (try clear ho0)) | (go_at_call 11; (with_reducible refine (scan_All.calls (hTb := (by first | exact HTAB.out | exact tab_drewN HTAB.out _ | exact tab_below HTAB.out (by repeat (first | (with_reducible first | exact HB.out | apply below_alloc | apply pw_below_drewN | apply below_drew1) | exact HB.out)))) (((⟨#[10]⟩ : ByteArray) ++ (a0.extract 0 ((ji3) : Int).toNat)) ++ (⟨#[10, 32, 35, 120, 59, 10, 9]⟩ : ByteArray)) t218 t219 t220 _ A9.out).mono ?_); rintro e w13 ⟨v221, rfl, ho0, hb⟩; have n0_ := Aside0.mk (Kd.R_elder' (by (with_reducible repeat (first | apply Kd.R_alloc | apply Kd.R_drewN | apply Kd.R_drew)); exact HO217.out) (Kd.R_base ho0) hb); have n1_ := Aside0.mk (Kd.R_lower (Kd.R_new' ho0 (Kd.R_lt (by (with_reducible repeat (first | apply Kd.R_alloc | apply Kd.R_drewN | apply Kd.R_drew)); exact HO217.out))) (below_size (by repeat (first | (with_reducible first | exact HB.out | apply below_alloc | apply pw_below_drewN | apply below_drew1) | exact HB.out)))); have n2_ := Aside0.mk (below_step (by repeat (first | (with_reducible first | exact HB.out | apply below_alloc | apply pw_below_drewN | apply below_drew1) | exact HB.out)) hb); clear HO217; clear HB; have HO217 := n0_; have HO222 := n1_; have HB := n2_; clear n0_ n1_ n2_; (try clear hb); (try clear hb2); (try clear hk); (try clear hi); (try clear ho0))); go_upto_region 5 with (first | (go_at_call 10; (with_reducible refine (arboristlaw05_shown.calls (hTb := (by first | exact HTAB.out | exact tab_drewN HTAB.out _ | exact tab_below HTAB.out (by repeat (first | (with_reducible first | exact HB.out | apply below_alloc | apply pw_below_drewN | apply below_drew1) | exact HB.out))))  t212 _ A2.out).mono ?_); rintro e w11 ⟨rfl, hb⟩; have n0_ := Aside0.mk (below_step (by repeat (first | (with_reducible first | exact HB.out | apply below_alloc | apply pw_below_drewN | apply below_drew1) | exact HB.out)) hb); clear HB; have HB := n0_; clear n0_; (try clear hb); (try clear hb2); (try clear hk); (try clear hi)) | (go_at_call 11; (with_reducible refine (scan_All.calls (hTb := (by first | exact HTAB.out | exact tab_drewN HTAB.out _ | exact tab_below HTAB.out (by repeat (first | (with_reducible first | exact HB.out | apply below_alloc | apply pw_below_drewN | apply below_drew1) | exact HB.out)))) (a0.extract 0 ((ji3) : Int).toNat) t213 t214 t215 _ A6.out).mono ?_); rintro e w12 ⟨v216, rfl, ho0, hb⟩; have n0_ := Aside0.mk (Kd.R_lower ho0 (below_size (by repeat (first | (with_reducible first | exact HB.out | apply below_alloc | apply pw_below_drewN | apply below_drew1) | exact HB.out)))); have n1_ := Aside0.mk (below_step (by repeat (first | (with_reducible first | exact HB.out | apply below_alloc | apply pw_below_drewN | apply below_drew1) | exact HB.out)) hb); clear HB; have HO217 := n0_; have HB := n1_; clear n0_ n1_; (try clear hb); (try clear hb2); (try clear hk); (try clear hi); (try clear ho0)) | (go_at_call 11; (with_reducible refine (scan_All.calls (hTb := (by first | exact HTAB.out | exact tab_drewN HTAB.out _ | exact tab_below HTAB.out (by repeat (first | (with_reducible first | exact HB.out | apply below_alloc | apply pw_below_drewN | apply below_drew1) | exact HB.out)))) (((⟨#[10]⟩ : ByteArray) ++ (a0.extract 0 ((ji3) : Int).toNat)) ++ (⟨#[10, 32, 35, 120, 59, 10, 9]⟩ : ByteArray)) t218 t219 t220 _ A9.out).mono ?_); rintro e w13 ⟨v221, rfl, ho0, hb⟩; have n0_ := Aside0.mk (Kd.R_elder' (by (with_reducible repeat (first | apply Kd.R_alloc | apply Kd.R_drewN | apply Kd.R_drew)); exact HO217.out) (Kd.R_base ho0) hb); have n1_ := Aside0.mk (Kd.R_lower (Kd.R_new' ho0 (Kd.R_lt (by (with_reducible repeat (first | apply Kd.R_alloc | apply Kd.R_drewN | apply Kd.R_drew)); exact HO217.out))) (below_size (by repeat (first | (with_reducible first | exact HB.out | apply below_alloc | apply pw_below_drewN | apply below_drew1) | exact HB.out)))); have n2_ := Aside0.mk (below_step (by repeat (first | (with_reducible first | exact HB.out | apply below_alloc | apply pw_below_drewN | apply below_drew1) | exact HB.out)) hb); clear HO217; clear HB; have HO217 := n0_; have HO222 := n1_; have HB := n2_; clear n0_ n1_ n2_; (try clear hb); (try clear hb2); (try clear hk); (try clear hi); (try clear ho0))))
          (try simp only [Act.put, List.setIfInBounds_toArray, List.set_cons_zero, List.set_cons_succ])
          go_cut [40] (fun v40 wc => ∃ (kq : Nat) (x40_9 : Bool), v40 = .bool x40_9 ∧ Aside0 (arboristlaw05_ScanBlanks.j0 kq t212 t213 t218 x40_9 = some r) ∧ Aside0 (kq ≤ k) ∧ Aside0 (Kd.R k32 32 wc w.heap.size (fun k_ => some k_ ≠ (v221 : Value).ownBlock) v216 t213) ∧ Aside0 (Kd.R k32 32 wc w.heap.size (fun k_ => some k_ ≠ (v216 : Value).ownBlock) v221 t218) ∧ Aside0 (Below w.heap.size w wc))
          case first =>
            have H := HC10.out
            clear HC10
            by_cases c14 : t215 = t220
            · rw [if_pos c14] at H
              have c14b0 : (t215 == t220) = true := beq_iff_eq.mpr c14
              have c14b1 : (t215 != t220) = false := bne_eq_false_iff_eq.mpr c14
              clear c14
              (first | rw [c14b0] | (simp only [i64_w, i32_w]; rw [c14b0]) | skip)
              have H' := Aside0.mk H
              clear H
              obtain ⟨Ao15, co15, eo15⟩ := Kd.R_slice HO217.out
              subst eo15
              obtain ⟨Ao16, co16, eo16⟩ := Kd.R_slice HO222.out
              subst eo16
              go_wp2
              repeat (go_quiet (fail); try go_wp2)
              go_meet
              case rel => exact ⟨_, (((t213.length : Int) != (t218.length : Int))), (by first | rfl | (simp; done) | (simp [*]; done)), H', ⟨by first | omega | exact Nat.le_refl _⟩, ⟨by (with_reducible repeat (first | apply Kd.R_alloc | apply Kd.R_drewN | apply Kd.R_drew)); exact Kd.R_mono HO217.out (fun _ hk => hk.2)⟩, ⟨by (with_reducible repeat (first | apply Kd.R_alloc | apply Kd.R_drewN | apply Kd.R_drew)); exact Kd.R_mono HO222.out (fun _ hk => hk.2)⟩, ⟨by repeat (first | (with_reducible first | exact HB.out | apply below_alloc | apply pw_below_drewN | apply below_drew1) | exact HB.out)⟩⟩
            · rw [if_neg c14] at H
              have c14b0 : (t215 == t220) = false := beq_eq_false_iff_ne.mpr c14
              have c14b1 : (t215 != t220) = true := bne_iff_ne.mpr c14
              (first | rw [c14b0] | (simp only [i64_w, i32_w]; rw [c14b0]) | skip)
              have H' := Aside0.mk H
              clear H
              go_wp2
              repeat (go_quiet (fail); try go_wp2)
              go_meet
              case rel => exact ⟨_, (true), (by first | rfl | (simp; done) | (simp [*]; done)), H', ⟨by first | omega | exact Nat.le_refl _⟩, ⟨by (with_reducible repeat (first | apply Kd.R_alloc | apply Kd.R_drewN | apply Kd.R_drew)); exact Kd.R_mono HO217.out (fun _ hk => hk.2)⟩, ⟨by (with_reducible repeat (first | apply Kd.R_alloc | apply Kd.R_drewN | apply Kd.R_drew)); exact Kd.R_mono HO222.out (fun _ hk => hk.2)⟩, ⟨by repeat (first | (with_reducible first | exact HB.out | apply below_alloc | apply pw_below_drewN | apply below_drew1) | exact HB.out)⟩⟩
          case rest =>
            clear HC10
            try clear c1
            try clear p2
            try clear c4
            try clear c4b0
            try clear c4b1
            try clear c5
            try clear c5b0
            try clear c5b1
            try clear c7
            try clear c7b0
            try clear c7b1
            try clear c7b2
            try clear c8
            try clear c8b0
            try clear c8b1
            try clear c8b2
            try clear c14
            try clear c14b0
            try clear c14b1
            obtain ⟨kq, x40_9, rfl, HA, HJ9, HO_4, HO_7, HB⟩ := hcut
            cases kq with
            | zero => exact absurd HA.out (by simp [arboristlaw05_ScanBlanks.j0])
            | succ kj9 =>
              have H := HA.out
              clear HA
              simp only [arboristlaw05_ScanBlanks.j0] at H
              by_cases c17 : x40_9 = true
              · subst c17
                have H1 : (some false) = some r := by rw [if_pos rfl] at H; exact H
                clear H
                have H := H1
                clear H1
                exact absurd ((Option.some.inj H).trans HT_.out) (by decide)
              · replace c17 := Bool.eq_false_iff.mpr c17
                subst c17
                have H1 : (arboristlaw05_ScanBlanks.l0 kj9 t212 t213 t218 0) = some r := by rw [if_neg (show ¬ (false = true) by decide)] at H; exact H
                clear H
                have H := H1
                clear H1
                have H' := Aside0.mk H
                clear H
                go_wp2
                repeat (go_quiet (fail); try go_wp2)
                go_loopg [10] kj9 (fun kq v10 w' => ∃ (x10_2 : Int), v10 = .int .i64 x10_2 ∧ Aside0 (arboristlaw05_ScanBlanks.l0 kq t212 t213 t218 x10_2 = some r) ∧ Aside0 (kq ≤ kj9) ∧ Aside0 (Kd.R k32 32 w' w.heap.size (fun k_ => some k_ ≠ (v221 : Value).ownBlock) v216 t213) ∧ Aside0 (Kd.R k32 32 w' w.heap.size (fun k_ => some k_ ≠ (v216 : Value).ownBlock) v221 t218) ∧ Aside0 (Below w.heap.size w w'))
                case atStart => exact ⟨(0), (by first | rfl | (simp; done) | (simp [*]; done)), H', ⟨Nat.le_refl _⟩, ⟨by (with_reducible repeat (first | apply Kd.R_alloc | apply Kd.R_drewN | apply Kd.R_drew)); exact HO_4.out⟩, ⟨by (with_reducible repeat (first | apply Kd.R_alloc | apply Kd.R_drewN | apply Kd.R_drew)); exact HO_7.out⟩, ⟨by repeat (first | (with_reducible first | exact HB.out | apply below_alloc | apply pw_below_drewN | apply below_drew1) | exact HB.out)⟩⟩
                case round =>
                  clear H'
                  try clear c1
                  try clear p2
                  try clear c4
                  try clear c4b0
                  try clear c4b1
                  try clear c5
                  try clear c5b0
                  try clear c5b1
                  try clear c7
                  try clear c7b0
                  try clear c7b1
                  try clear c7b2
                  try clear c8
                  try clear c8b0
                  try clear c8b1
                  try clear c8b2
                  try clear c14
                  try clear c14b0
                  try clear c14b1
                  try clear c17
                  try clear p2
                  obtain ⟨x10_2, rfl, HA, HK2, HO_4, HO_7, HB⟩ := hrel
                  cases gk with
                  | zero => exact absurd HA.out (by simp [arboristlaw05_ScanBlanks.l0])
                  | succ k2 =>
                    have H := HA.out
                    clear HA
                    simp only [arboristlaw05_ScanBlanks.l0] at H
                    by_cases c18 : (wrap64 (x10_2 + 1)) < (t213.length : Int)
                    · rw [if_pos c18] at H
                      have c18b0 : decide ((wrap64 (x10_2 + 1)) < (t213.length : Int)) = true := decide_eq_true c18
                      clear c18
                      by_cases c19 : 0 ≤ x10_2
                      · rw [if_pos c19] at H
                        have c19b0 : decide (0 ≤ x10_2) = true := decide_eq_true c19
                        clear c19
                        by_cases c20 : x10_2 < (t213.length : Int)
                        · rw [if_pos c20] at H
                          have c20b0 : decide (x10_2 < (t213.length : Int)) = true := decide_eq_true c20
                          clear c20
                          by_cases c21 : x10_2 < (t218.length : Int)
                          · rw [if_pos c21] at H
                            have c21b0 : decide (x10_2 < (t218.length : Int)) = true := decide_eq_true c21
                            clear c21
                            by_cases c22 : ((rd_T32 t213 x10_2).f0) = ((rd_T32 t218 x10_2).f0)
                            · rw [if_pos c22] at H
                              have c22b0 : (((rd_T32 t213 x10_2).f0) == ((rd_T32 t218 x10_2).f0)) = true := beq_iff_eq.mpr c22
                              have c22b1 : (((rd_T32 t213 x10_2).f0) != ((rd_T32 t218 x10_2).f0)) = false := bne_eq_false_iff_eq.mpr c22
                              clear c22
                              by_cases c23 : ((rd_T32 t213 x10_2).f1).toList = ((rd_T32 t218 x10_2).f1).toList
                              · rw [if_pos c23] at H
                                have c23b0 : (((rd_T32 t213 x10_2).f1).toList == ((rd_T32 t218 x10_2).f1).toList) = true := beq_iff_eq.mpr c23
                                have c23b1 : (((rd_T32 t213 x10_2).f1).toList != ((rd_T32 t218 x10_2).f1).toList) = false := bne_eq_false_iff_eq.mpr c23
                                clear c23
                                by_cases c24 : ((rd_T32 t213 x10_2).f2) = ((rd_T32 t218 x10_2).f2)
                                · rw [if_pos c24] at H
                                  have c24b0 : (((rd_T32 t213 x10_2).f2) == ((rd_T32 t218 x10_2).f2)) = true := beq_iff_eq.mpr c24
                                  have c24b1 : (((rd_T32 t213 x10_2).f2) != ((rd_T32 t218 x10_2).f2)) = false := bne_eq_false_iff_eq.mpr c24
                                  clear c24
                                  by_cases c25 : ((rd_T32 t218 x10_2).f3) = (wrap64 (((rd_T32 t213 x10_2).f3) + 1))
                                  · rw [if_pos c25] at H
                                    have c25b0 : (((rd_T32 t218 x10_2).f3) == (wrap64 (((rd_T32 t213 x10_2).f3) + 1))) = true := beq_iff_eq.mpr c25
                                    have c25b1 : (((rd_T32 t218 x10_2).f3) != (wrap64 (((rd_T32 t213 x10_2).f3) + 1))) = false := bne_eq_false_iff_eq.mpr c25
                                    clear c25
                                    have H' := Aside0.mk H
                                    clear H
                                    obtain ⟨Ao26, co26, eo26⟩ := Kd.R_slice HO_4.out
                                    subst eo26
                                    have p223 : 0 ≤ (x10_2 : Int) := of_decide_eq_true (by first | (with_reducible assumption) | assumption)
                                    have q223 : x10_2 < (t213.length : Int) := of_decide_eq_true (by first | (with_reducible assumption) | assumption)
                                    obtain ⟨ad223, e223, hx223_0, hx223_1, hx223_2, hx223_3⟩ := at_T32 (Kd.R_reads' HO_4.out).2.2 x10_2 p223 q223
                                    cases e223
                                    replace p223 := eq_true p223
                                    replace q223 := eq_true q223
                                    obtain ⟨Ao27, co27, eo27⟩ := Kd.R_slice HO_7.out
                                    subst eo27
                                    have p224 : 0 ≤ (x10_2 : Int) := of_decide_eq_true (by first | (with_reducible assumption) | assumption)
                                    have q224 : x10_2 < (t218.length : Int) := of_decide_eq_true (by first | (with_reducible assumption) | assumption)
                                    obtain ⟨ad224, e224, hx224_0, hx224_1, hx224_2, hx224_3⟩ := at_T32 (Kd.R_reads' HO_7.out).2.2 x10_2 p224 q224
                                    cases e224
                                    replace p224 := eq_true p224
                                    replace q224 := eq_true q224
                                    have p225 : 0 ≤ (x10_2 : Int) := of_decide_eq_true (by first | (with_reducible assumption) | assumption)
                                    have q225 : x10_2 < (t213.length : Int) := of_decide_eq_true (by first | (with_reducible assumption) | assumption)
                                    obtain ⟨ad225, e225, hx225_0, hx225_1, hx225_2, hx225_3⟩ := at_T32 (Kd.R_reads' HO_4.out).2.2 x10_2 p225 q225
                                    obtain rfl : ad223 = ad225 := (by injection e225)
                                    replace p225 := eq_true p225
                                    replace q225 := eq_true q225
                                    have p226 : 0 ≤ (x10_2 : Int) := of_decide_eq_true (by first | (with_reducible assumption) | assumption)
                                    have q226 : x10_2 < (t218.length : Int) := of_decide_eq_true (by first | (with_reducible assumption) | assumption)
                                    obtain ⟨ad226, e226, hx226_0, hx226_1, hx226_2, hx226_3⟩ := at_T32 (Kd.R_reads' HO_7.out).2.2 x10_2 p226 q226
                                    obtain rfl : ad224 = ad226 := (by injection e226)
                                    replace p226 := eq_true p226
                                    replace q226 := eq_true q226
                                    have p227 : 0 ≤ (x10_2 : Int) := of_decide_eq_true (by first | (with_reducible assumption) | assumption)
                                    have q227 : x10_2 < (t213.length : Int) := of_decide_eq_true (by first | (with_reducible assumption) | assumption)
                                    obtain ⟨ad227, e227, hx227_0, hx227_1, hx227_2, hx227_3⟩ := at_T32 (Kd.R_reads' HO_4.out).2.2 x10_2 p227 q227
                                    obtain rfl : ad223 = ad227 := (by injection e227)
                                    replace p227 := eq_true p227
                                    replace q227 := eq_true q227
                                    have p228 : 0 ≤ (x10_2 : Int) := of_decide_eq_true (by first | (with_reducible assumption) | assumption)
                                    have q228 : x10_2 < (t218.length : Int) := of_decide_eq_true (by first | (with_reducible assumption) | assumption)
                                    obtain ⟨ad228, e228, hx228_0, hx228_1, hx228_2, hx228_3⟩ := at_T32 (Kd.R_reads' HO_7.out).2.2 x10_2 p228 q228
                                    obtain rfl : ad224 = ad228 := (by injection e228)
                                    replace p228 := eq_true p228
                                    replace q228 := eq_true q228
                                    have p229 : 0 ≤ (x10_2 : Int) := of_decide_eq_true (by first | (with_reducible assumption) | assumption)
                                    have q229 : x10_2 < (t218.length : Int) := of_decide_eq_true (by first | (with_reducible assumption) | assumption)
                                    obtain ⟨ad229, e229, hx229_0, hx229_1, hx229_2, hx229_3⟩ := at_T32 (Kd.R_reads' HO_7.out).2.2 x10_2 p229 q229
                                    obtain rfl : ad224 = ad229 := (by injection e229)
                                    replace p229 := eq_true p229
                                    replace q229 := eq_true q229
                                    have p230 : 0 ≤ (x10_2 : Int) := of_decide_eq_true (by first | (with_reducible assumption) | assumption)
                                    have q230 : x10_2 < (t213.length : Int) := of_decide_eq_true (by first | (with_reducible assumption) | assumption)
                                    obtain ⟨ad230, e230, hx230_0, hx230_1, hx230_2, hx230_3⟩ := at_T32 (Kd.R_reads' HO_4.out).2.2 x10_2 p230 q230
                                    obtain rfl : ad223 = ad230 := (by injection e230)
                                    replace p230 := eq_true p230
                                    replace q230 := eq_true q230
                                    go_wp2
                                    repeat (go_quiet (fail); try go_wp2)
                                    go_roundg k2
                                    case measure => have := HJ9.out; have := HK2.out; omega
                                    case rel => exact ⟨(wrap64 (x10_2 + 1)), (by first | rfl | (simp; done) | (simp [*]; done)), H', ⟨by have := HJ9.out; have := HK2.out; omega⟩, ⟨by (with_reducible repeat (first | apply Kd.R_alloc | apply Kd.R_drewN | apply Kd.R_drew)); exact HO_4.out⟩, ⟨by (with_reducible repeat (first | apply Kd.R_alloc | apply Kd.R_drewN | apply Kd.R_drew)); exact HO_7.out⟩, ⟨by repeat (first | (with_reducible first | exact HB.out | apply below_alloc | apply pw_below_drewN | apply below_drew1) | exact HB.out)⟩⟩
                                  · rw [if_neg c25] at H
                                    have c25b0 : (((rd_T32 t218 x10_2).f3) == (wrap64 (((rd_T32 t213 x10_2).f3) + 1))) = false := beq_eq_false_iff_ne.mpr c25
                                    have c25b1 : (((rd_T32 t218 x10_2).f3) != (wrap64 (((rd_T32 t213 x10_2).f3) + 1))) = true := bne_iff_ne.mpr c25
                                    exact absurd ((Option.some.inj H).trans HT_.out) (by decide)
                                · rw [if_neg c24] at H
                                  have c24b0 : (((rd_T32 t213 x10_2).f2) == ((rd_T32 t218 x10_2).f2)) = false := beq_eq_false_iff_ne.mpr c24
                                  have c24b1 : (((rd_T32 t213 x10_2).f2) != ((rd_T32 t218 x10_2).f2)) = true := bne_iff_ne.mpr c24
                                  exact absurd ((Option.some.inj H).trans HT_.out) (by decide)
                              · rw [if_neg c23] at H
                                have c23b0 : (((rd_T32 t213 x10_2).f1).toList == ((rd_T32 t218 x10_2).f1).toList) = false := beq_eq_false_iff_ne.mpr c23
                                have c23b1 : (((rd_T32 t213 x10_2).f1).toList != ((rd_T32 t218 x10_2).f1).toList) = true := bne_iff_ne.mpr c23
                                exact absurd ((Option.some.inj H).trans HT_.out) (by decide)
                            · rw [if_neg c22] at H
                              have c22b0 : (((rd_T32 t213 x10_2).f0) == ((rd_T32 t218 x10_2).f0)) = false := beq_eq_false_iff_ne.mpr c22
                              have c22b1 : (((rd_T32 t213 x10_2).f0) != ((rd_T32 t218 x10_2).f0)) = true := bne_iff_ne.mpr c22
                              exact absurd ((Option.some.inj H).trans HT_.out) (by decide)
                          · rw [if_neg c21] at H
                            exact absurd H (by simp)
                        · rw [if_neg c20] at H
                          exact absurd H (by simp)
                      · rw [if_neg c19] at H
                        exact absurd H (by simp)
                    · rw [if_neg c18] at H
                      have c18b0 : decide ((wrap64 (x10_2 + 1)) < (t213.length : Int)) = false := decide_eq_false c18
                      clear c18
                      obtain rfl := Option.some.inj H
                      obtain ⟨Ao28, co28, eo28⟩ := Kd.R_slice HO_4.out
                      subst eo28
                      go_wp2
                      repeat (go_quiet (fail); try go_wp2)
                      go_ret
                      exact ⟨by first | rfl | (simp [errW_none, errW_some] <;> rfl) | (simp only [← hji3]; first | rfl | (simp [errW_none, errW_some] <;> rfl)) | (simp [*, errW_none, errW_some] <;> rfl), by repeat (first | (with_reducible first | exact HB.out | apply below_alloc | apply pw_below_drewN | apply below_drew1) | exact HB.out)⟩
        · rw [if_neg c8] at H
          exact absurd H (by simp)
      · rw [if_neg c7] at H
        exact absurd H (by simp)
    · rw [if_neg c5] at H
      exact absurd H (by simp)
  · rw [if_neg c4] at H
    exact absurd H (by simp)

/-- THE ONE PURE STATEMENT of arboristlaw05_ScanBlanks. -/
def arboristlaw05_ScanBlanks.Pure : Prop := ∀ (a0 : ByteArray), (a0.size ≤ maxLen) → ∃ k, arboristlaw05_ScanBlanks.f k a0 = some true

end Go.Proofs.YtfgabdfnbkmaeaaDoor.Pr
