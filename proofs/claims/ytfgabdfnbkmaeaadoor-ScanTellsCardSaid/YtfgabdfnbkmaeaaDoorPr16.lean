-- Printed by a program of this session's own (wip/tools/pp.py) over the kit's print.py; Lean checks it.
import Derived.Test.YtfgabdfnbkmaeaaDoorPr0
import Derived.Test.YtfgabdfnbkmaeaaDoorPr1
import Derived.Test.YtfgabdfnbkmaeaaDoorPr2
import Derived.Test.YtfgabdfnbkmaeaaDoorPr11
import Derived.Test.YtfgabdfnbkmaeaaDoorPr12
import Derived.Test.YtfgabdfnbkmaeaaDoorPr15
namespace Go.Proofs.YtfgabdfnbkmaeaaDoor.Pr
open Go.RowKit Go.Proofs.YtfgabdfnbkmaeaaDoorW.PrintWords Go.Proofs.YtfgabdfnbkmaeaaDoorW.PrintLast Go.Proofs.YtfgabdfnbkmaeaaDoorW.PrintMore
attribute [local go_sem] max2_int min2_int max_two min_two max_three min_three max_four min_four   -- for this text's walks alone
set_option linter.unusedVariables false
set_option linter.unusedSimpArgs false

attribute [local go_sem high] eqA31 eqA32
/-! ### arboristlaw05_ScanTells: function 3 -/
mutual
def arboristlaw05_ScanTells.j0 : Nat → Bool → List (S32) → List (S31) → Bool → Option (Bool)
  | 0, _, _, _, _ => none
  | k + 1, x3, x4, x7, x43 => if x43 = true then (some false) else (arboristlaw05_ScanTells.l0 k x3 x4 x7 0)
def arboristlaw05_ScanTells.l0 : Nat → Bool → List (S32) → List (S31) → Int → Option (Bool)
  | 0, _, _, _, _ => none
  | k + 1, x3, x4, x7, x10 => if x10 < (x4.length : Int) then (if 0 ≤ x10 then (if x10 < (x7.length : Int) then (if (!(((rd_T32 x4 x10).f0) == ((rd_T31 x7 x10).f0)) || (!((((rd_T32 x4 x10).f1).toList) == (((rd_T31 x7 x10).f1).toList)) || (!(((rd_T32 x4 x10).f2) == ((rd_T31 x7 x10).f2)) || (!(((rd_T32 x4 x10).f3) == ((rd_T31 x7 x10).f3)))))) = true then (some false) else (arboristlaw05_ScanTells.l0 k x3 x4 x7 (wrap64 (x10 + 1)))) else (none)) else (none)) else (some x3)
end
def arboristlaw05_ScanTells.f (k : Nat) (a0 : ByteArray) : Option (Bool) := (arboristlaw05_shown.f).bind fun t190 => (if 0 ≤ (mn (a0.size : Int) 3000) then (if (mn (a0.size : Int) 3000) ≤ (a0.size : Int) then ((scan_All.f (a0.extract 0 ((mn (a0.size : Int) 3000) : Int).toNat)).bind fun bt191 => ((arboristref05_All.f k (a0.extract 0 ((mn (a0.size : Int) 3000) : Int).toNat)).bind fun bt196 => (if bt191.2.1 = bt196.2.1 then (if bt191.2.2 = bt196.2.2 then (arboristlaw05_ScanTells.j0 k t190 bt191.1 bt196.1 ((bt191.1.length : Int) != (bt196.1.length : Int))) else (arboristlaw05_ScanTells.j0 k t190 bt191.1 bt196.1 true)) else (arboristlaw05_ScanTells.j0 k t190 bt191.1 bt196.1 true)))) else (none)) else (none))
theorem arboristlaw05_ScanTells.mono_l : ∀ k, (∀ y0 y1 y2 y3, LeO (arboristlaw05_ScanTells.j0 k y0 y1 y2 y3) (arboristlaw05_ScanTells.j0 (k + 1) y0 y1 y2 y3)) ∧ (∀ y0 y1 y2 y3, LeO (arboristlaw05_ScanTells.l0 k y0 y1 y2 y3) (arboristlaw05_ScanTells.l0 (k + 1) y0 y1 y2 y3))
  | 0 => ⟨fun _ _ _ _ r h => by simp [arboristlaw05_ScanTells.j0] at h, fun _ _ _ _ r h => by simp [arboristlaw05_ScanTells.l0] at h⟩
  | k + 1 => by
    obtain ⟨ih0, ih1⟩ := arboristlaw05_ScanTells.mono_l k
    refine ⟨?_, ?_⟩
    all_goals intros
    all_goals (first | unfold arboristlaw05_ScanTells.j0 | unfold arboristlaw05_ScanTells.l0)
    all_goals repeat' first
    | (with_reducible exact ih0 _ _ _ _)
    | (with_reducible exact ih1 _ _ _ _)
    | (with_reducible exact arboristref05_All.mono _ _)
    | (with_reducible exact LeO.refl _)
    | (with_reducible exact LeO.none _)
    | (with_reducible refine LeO.ite ?_ ?_)
    | (with_reducible refine LeO.bind ?_ (fun _ => ?_))
    | exact ih0 _ _ _ _
    | exact ih1 _ _ _ _
    | exact arboristref05_All.mono _ _
    | exact LeO.none _
    | refine LeO.ite ?_ ?_
    | refine LeO.bind ?_ (fun _ => ?_)
theorem arboristlaw05_ScanTells.mono : ∀ a0 k, LeO (arboristlaw05_ScanTells.f k a0) (arboristlaw05_ScanTells.f (k + 1) a0) := by
  intro a0 k
  obtain ⟨ih0, ih1⟩ := arboristlaw05_ScanTells.mono_l k
  unfold arboristlaw05_ScanTells.f
  repeat' first
      | (with_reducible exact ih0 _ _ _ _)
      | (with_reducible exact ih1 _ _ _ _)
      | (with_reducible exact arboristref05_All.mono _ _)
      | (with_reducible exact LeO.refl _)
      | (with_reducible exact LeO.none _)
      | (with_reducible refine LeO.ite ?_ ?_)
      | (with_reducible refine LeO.bind ?_ (fun _ => ?_))
      | exact ih0 _ _ _ _
      | exact ih1 _ _ _ _
      | exact arboristref05_All.mono _ _
      | exact LeO.none _
      | refine LeO.ite ?_ ?_
      | refine LeO.bind ?_ (fun _ => ?_)
set_option maxHeartbeats 8000000 in
set_option maxRecDepth 100000 in
theorem arboristlaw05_ScanTells.calls (k : Nat) (a0 : ByteArray) (r : Bool) (w : World) (hTb : Tab64 w) (hT : r = true) (h : arboristlaw05_ScanTells.f k a0 = some r) :
    Calls Tryd.prog 3 #[.string a0] w fun e w' => e = .returned (.bool r) ∧ Below w.heap.size w w' := by
  have HTAB := Aside0.mk hTb
  clear hTb
  have HT_ := Aside0.mk (show r = true from hT)
  clear hT
  have hu32 := Tryd.underlying32
  have hu31 := Tryd.underlying31
  have HB := Aside0.mk (Below.refl w.heap.size w)
  have H : ((arboristlaw05_shown.f).bind fun t190 => (if 0 ≤ (mn (a0.size : Int) 3000) then (if (mn (a0.size : Int) 3000) ≤ (a0.size : Int) then ((scan_All.f (a0.extract 0 ((mn (a0.size : Int) 3000) : Int).toNat)).bind fun bt191 => ((arboristref05_All.f k (a0.extract 0 ((mn (a0.size : Int) 3000) : Int).toNat)).bind fun bt196 => (if bt191.2.1 = bt196.2.1 then (if bt191.2.2 = bt196.2.2 then (arboristlaw05_ScanTells.j0 k t190 bt191.1 bt196.1 ((bt191.1.length : Int) != (bt196.1.length : Int))) else (arboristlaw05_ScanTells.j0 k t190 bt191.1 bt196.1 true)) else (arboristlaw05_ScanTells.j0 k t190 bt191.1 bt196.1 true)))) else (none)) else (none))) = some r := h
  clear h
  replace H := Option.bind_eq_some_iff.mp H
  obtain ⟨t190, A20, H⟩ := H
  replace H : (if 0 ≤ (mn (a0.size : Int) 3000) then (if (mn (a0.size : Int) 3000) ≤ (a0.size : Int) then ((scan_All.f (a0.extract 0 ((mn (a0.size : Int) 3000) : Int).toNat)).bind fun bt191 => ((arboristref05_All.f k (a0.extract 0 ((mn (a0.size : Int) 3000) : Int).toNat)).bind fun bt196 => (if bt191.2.1 = bt196.2.1 then (if bt191.2.2 = bt196.2.2 then (arboristlaw05_ScanTells.j0 k t190 bt191.1 bt196.1 ((bt191.1.length : Int) != (bt196.1.length : Int))) else (arboristlaw05_ScanTells.j0 k t190 bt191.1 bt196.1 true)) else (arboristlaw05_ScanTells.j0 k t190 bt191.1 bt196.1 true)))) else (none)) else (none)) = some r := H
  have A2 := Aside0.mk A20
  clear A20
  obtain ⟨ji3, hji3⟩ : ∃ j_ : Int, (mn (a0.size : Int) 3000) = j_ := ⟨_, rfl⟩
  replace H : (if 0 ≤ (ji3) then (if (ji3) ≤ (a0.size : Int) then ((scan_All.f (a0.extract 0 ((ji3) : Int).toNat)).bind fun bt191 => ((arboristref05_All.f k (a0.extract 0 ((ji3) : Int).toNat)).bind fun bt196 => (if bt191.2.1 = bt196.2.1 then (if bt191.2.2 = bt196.2.2 then (arboristlaw05_ScanTells.j0 k t190 bt191.1 bt196.1 ((bt191.1.length : Int) != (bt196.1.length : Int))) else (arboristlaw05_ScanTells.j0 k t190 bt191.1 bt196.1 true)) else (arboristlaw05_ScanTells.j0 k t190 bt191.1 bt196.1 true)))) else (none)) else (none)) = some r := by first | (rw [hji3] at H; exact H) | (simp only [hji3] at H ⊢; exact H)
  (try rw [hji3] at A2)
  (try (have hji3h : ji3 ≤ 3000 := by (rw [← hji3]; unfold mn; (repeat' split) <;> omega)))
  (try (have hji3g : ji3 ≤ 64 := by omega))
  (try (have hji3l : 0 ≤ ji3 := by (rw [← hji3]; unfold mn; (repeat' split) <;> omega)))
  (try (have hji3m : 0 ≤ ji3 := by omega))
  have hji3_ : (if 3000 < (a0.size : Int) then 3000 else (a0.size : Int)) = ji3 := hji3
  by_cases c4 : 0 ≤ (ji3)
  · rw [if_pos c4] at H
    have c4b0 := eq_true c4
    have c4b1 : decide (0 ≤ (ji3)) = true := decide_eq_true c4
    clear c4
    by_cases c5 : (ji3) ≤ (a0.size : Int)
    · rw [if_pos c5] at H
      have c5b0 := eq_true c5
      have c5b1 : decide ((ji3) ≤ (a0.size : Int)) = true := decide_eq_true c5
      clear c5
      replace H := Option.bind_eq_some_iff.mp H
      obtain ⟨⟨t191, t192, t193⟩, A60, H⟩ := H
      replace H : ((arboristref05_All.f k (a0.extract 0 ((ji3) : Int).toNat)).bind fun bt196 => (if t192 = bt196.2.1 then (if t193 = bt196.2.2 then (arboristlaw05_ScanTells.j0 k t190 t191 bt196.1 ((t191.length : Int) != (bt196.1.length : Int))) else (arboristlaw05_ScanTells.j0 k t190 t191 bt196.1 true)) else (arboristlaw05_ScanTells.j0 k t190 t191 bt196.1 true))) = some r := H
      have A6 := Aside0.mk A60
      clear A60
      replace H := Option.bind_eq_some_iff.mp H
      obtain ⟨⟨t196, t197, t198⟩, A70, H⟩ := H
      replace H : (if t192 = t197 then (if t193 = t198 then (arboristlaw05_ScanTells.j0 k t190 t191 t196 ((t191.length : Int) != (t196.length : Int))) else (arboristlaw05_ScanTells.j0 k t190 t191 t196 true)) else (arboristlaw05_ScanTells.j0 k t190 t191 t196 true)) = some r := H
      have A7 := Aside0.mk A70
      clear A70
      have HC8 := Aside0.mk H
      clear H
      go_enter Tryd.func3, Tryd.ntmps3
      go_upto_region 5 with (first | (go_at_call 10; (with_reducible refine (arboristlaw05_shown.calls (hTb := (by first | exact HTAB.out | exact tab_drewN HTAB.out _ | exact tab_below HTAB.out (by repeat (first | (with_reducible first | exact HB.out | apply below_alloc | apply pw_below_drewN | apply below_drew1) | exact HB.out))))  t190 _ A2.out).mono ?_); rintro e w9 ⟨rfl, hb⟩; have n0_ := Aside0.mk (below_step (by repeat (first | (with_reducible first | exact HB.out | apply below_alloc | apply pw_below_drewN | apply below_drew1) | exact HB.out)) hb); clear HB; have HB := n0_; clear n0_; (try clear hb); (try clear hb2); (try clear hk); (try clear hi)) | (go_at_call 11; (with_reducible refine (scan_All.calls (hTb := (by first | exact HTAB.out | exact tab_drewN HTAB.out _ | exact tab_below HTAB.out (by repeat (first | (with_reducible first | exact HB.out | apply below_alloc | apply pw_below_drewN | apply below_drew1) | exact HB.out)))) (a0.extract 0 ((ji3) : Int).toNat) t191 t192 t193 _ A6.out).mono ?_); rintro e w10 ⟨v194, rfl, ho0, hb⟩; have n0_ := Aside0.mk (Kd.R_lower ho0 (below_size (by repeat (first | (with_reducible first | exact HB.out | apply below_alloc | apply pw_below_drewN | apply below_drew1) | exact HB.out)))); have n1_ := Aside0.mk (below_step (by repeat (first | (with_reducible first | exact HB.out | apply below_alloc | apply pw_below_drewN | apply below_drew1) | exact HB.out)) hb); clear HB; have HO195 := n0_; have HB := n1_; clear n0_ n1_; (try clear hb); (try clear hb2); (try clear hk); (try clear hi); (try clear ho0)) | (go_at_call 12; (with_reducible refine (arboristref05_All.calls k (a0.extract 0 ((ji3) : Int).toNat) t196 t197 t198 _ A7.out).mono ?_); rintro e w11 ⟨v199, rfl, ho0, hb⟩; have n0_ := Aside0.mk (Kd.R_below (by (with_reducible repeat (first | apply Kd.R_alloc | apply Kd.R_drewN | apply Kd.R_drew)); exact HO195.out) hb); have n1_ := Aside0.mk (Kd.R_lower ho0 (below_size (by repeat (first | (with_reducible first | exact HB.out | apply below_alloc | apply pw_below_drewN | apply below_drew1) | exact HB.out)))); have n2_ := Aside0.mk (below_step (by repeat (first | (with_reducible first | exact HB.out | apply below_alloc | apply pw_below_drewN | apply below_drew1) | exact HB.out)) hb); clear HO195; clear HB; have HO195 := n0_; have HO200 := n1_; have HB := n2_; clear n0_ n1_ n2_; (try clear hb); (try clear hb2); (try clear hk); (try clear hi); (try clear ho0)))
      repeat (go_quiet (first | (go_at_call 10; (with_reducible refine (arboristlaw05_shown.calls (hTb := (by first | exact HTAB.out | exact tab_drewN HTAB.out _ | exact tab_below HTAB.out (by repeat (first | (with_reducible first | exact HB.out | apply below_alloc | apply pw_below_drewN | apply below_drew1) | exact HB.out))))  t190 _ A2.out).mono ?_); rintro e w9 ⟨rfl, hb⟩; have n0_ := Aside0.mk (below_step (by repeat (first | (with_reducible first | exact HB.out | apply below_alloc | apply pw_below_drewN | apply below_drew1) | exact HB.out)) hb); clear HB; have HB := n0_; clear n0_; (try clear hb); (try clear hb2); (try clear hk); (try clear hi)) | (go_at_call 11; (with_reducible refine (scan_All.calls (hTb := (by first | exact HTAB.out | exact tab_drewN HTAB.out _ | exact tab_below HTAB.out (by repeat (first | (with_reducible first | exact HB.out | apply below_alloc | apply pw_below_drewN | apply below_drew1) | exact HB.out)))) (a0.extract 0 ((ji3) : Int).toNat) t191 t192 t193 _ A6.out).mono ?_); rintro e w10 ⟨v194, rfl, ho0, hb⟩; have n0_ := Aside0.mk (Kd.R_lower ho0 (below_size (by repeat (first | (with_reducible first | exact HB.out | apply below_alloc | apply pw_below_drewN | apply below_drew1) | exact HB.out)))); have n1_ := Aside0.mk (below_step (by repeat (first | (with_reducible first | exact HB.out | apply below_alloc | apply pw_below_drewN | apply below_drew1) | exact HB.out)) hb); clear HB; have HO195 := n0_; have HB := n1_; clear n0_ n1_; (try clear hb); (try clear hb2); (try clear hk); (try clear hi); (try clear ho0)) | (go_at_call 12; (with_reducible refine (arboristref05_All.calls k (a0.extract 0 ((ji3) : Int).toNat) t196 t197 t198 _ A7.out).mono ?_); rintro e w11 ⟨v199, rfl, ho0, hb⟩; have n0_ := Aside0.mk (Kd.R_below (by (with_reducible repeat (first | apply Kd.R_alloc | apply Kd.R_drewN | apply Kd.R_drew)); exact HO195.out) hb); have n1_ := Aside0.mk (Kd.R_lower ho0 (below_size (by repeat (first | (with_reducible first | exact HB.out | apply below_alloc | apply pw_below_drewN | apply below_drew1) | exact HB.out)))); have n2_ := Aside0.mk (below_step (by repeat (first | (with_reducible first | exact HB.out | apply below_alloc | apply pw_below_drewN | apply below_drew1) | exact HB.out)) hb); clear HO195; clear HB; have HO195 := n0_; have HO200 := n1_; have HB := n2_; clear n0_ n1_ n2_; (try clear hb); (try clear hb2); (try clear hk); (try clear hi); (try clear ho0))); go_upto_region 5 with (first | (go_at_call 10; (with_reducible refine (arboristlaw05_shown.calls (hTb := (by first | exact HTAB.out | exact tab_drewN HTAB.out _ | exact tab_below HTAB.out (by repeat (first | (with_reducible first | exact HB.out | apply below_alloc | apply pw_below_drewN | apply below_drew1) | exact HB.out))))  t190 _ A2.out).mono ?_); rintro e w9 ⟨rfl, hb⟩; have n0_ := Aside0.mk (below_step (by repeat (first | (with_reducible first | exact HB.out | apply below_alloc | apply pw_below_drewN | apply below_drew1) | exact HB.out)) hb); clear HB; have HB := n0_; clear n0_; (try clear hb); (try clear hb2); (try clear hk); (try clear hi)) | (go_at_call 11; (with_reducible refine (scan_All.calls (hTb := (by first | exact HTAB.out | exact tab_drewN HTAB.out _ | exact tab_below HTAB.out (by repeat (first | (with_reducible first | exact HB.out | apply below_alloc | apply pw_below_drewN | apply below_drew1) | exact HB.out)))) (a0.extract 0 ((ji3) : Int).toNat) t191 t192 t193 _ A6.out).mono ?_); rintro e w10 ⟨v194, rfl, ho0, hb⟩; have n0_ := Aside0.mk (Kd.R_lower ho0 (below_size (by repeat (first | (with_reducible first | exact HB.out | apply below_alloc | apply pw_below_drewN | apply below_drew1) | exact HB.out)))); have n1_ := Aside0.mk (below_step (by repeat (first | (with_reducible first | exact HB.out | apply below_alloc | apply pw_below_drewN | apply below_drew1) | exact HB.out)) hb); clear HB; have HO195 := n0_; have HB := n1_; clear n0_ n1_; (try clear hb); (try clear hb2); (try clear hk); (try clear hi); (try clear ho0)) | (go_at_call 12; (with_reducible refine (arboristref05_All.calls k (a0.extract 0 ((ji3) : Int).toNat) t196 t197 t198 _ A7.out).mono ?_); rintro e w11 ⟨v199, rfl, ho0, hb⟩; have n0_ := Aside0.mk (Kd.R_below (by (with_reducible repeat (first | apply Kd.R_alloc | apply Kd.R_drewN | apply Kd.R_drew)); exact HO195.out) hb); have n1_ := Aside0.mk (Kd.R_lower ho0 (below_size (by repeat (first | (with_reducible first | exact HB.out | apply below_alloc | apply pw_below_drewN | apply below_drew1) | exact HB.out)))); have n2_ := Aside0.mk (below_step (by repeat (first | (with_reducible first | exact HB.out | apply below_alloc | apply pw_below_drewN | apply below_drew1) | exact HB.out)) hb); clear HO195; clear HB; have HO195 := n0_; have HO200 := n1_; have HB := n2_; clear n0_ n1_ n2_; (try clear hb); (try clear hb2); (try clear hk); (try clear hi); (try clear ho0))))
      (try simp only [Act.put, List.setIfInBounds_toArray, List.set_cons_zero, List.set_cons_succ])
      go_cut [43] (fun v43 wc => ∃ (kq : Nat) (x43_7 : Bool), v43 = .bool x43_7 ∧ Aside0 (arboristlaw05_ScanTells.j0 kq t190 t191 t196 x43_7 = some r) ∧ Aside0 (kq ≤ k) ∧ Aside0 (Kd.R k32 32 wc w.heap.size (fun _ => True) v194 t191) ∧ Aside0 (Kd.R k31 31 wc w.heap.size (fun _ => True) v199 t196) ∧ Aside0 (Below w.heap.size w wc))
      case first =>
        have H := HC8.out
        clear HC8
        by_cases c12 : t192 = t197
        · rw [if_pos c12] at H
          have c12b0 : (t192 == t197) = true := beq_iff_eq.mpr c12
          have c12b1 : (t192 != t197) = false := bne_eq_false_iff_eq.mpr c12
          clear c12
          (first | rw [c12b0] | (simp only [i64_w, i32_w]; rw [c12b0]) | skip)
          by_cases c13 : t193 = t198
          · rw [if_pos c13] at H
            have c13b0 : (t193 == t198) = true := beq_iff_eq.mpr c13
            have c13b1 : (t193 != t198) = false := bne_eq_false_iff_eq.mpr c13
            clear c13
            have H' := Aside0.mk H
            clear H
            obtain ⟨Ao14, co14, eo14⟩ := Kd.R_slice HO195.out
            subst eo14
            obtain ⟨Ao15, co15, eo15⟩ := Kd.R_slice HO200.out
            subst eo15
            go_wp2
            repeat (go_quiet (fail); try go_wp2)
            go_meet
            case rel => exact ⟨_, (((t191.length : Int) != (t196.length : Int))), (by first | rfl | (simp; done) | (simp [*]; done)), H', ⟨by first | omega | exact Nat.le_refl _⟩, ⟨by (with_reducible repeat (first | apply Kd.R_alloc | apply Kd.R_drewN | apply Kd.R_drew)); exact HO195.out⟩, ⟨by (with_reducible repeat (first | apply Kd.R_alloc | apply Kd.R_drewN | apply Kd.R_drew)); exact HO200.out⟩, ⟨by repeat (first | (with_reducible first | exact HB.out | apply below_alloc | apply pw_below_drewN | apply below_drew1) | exact HB.out)⟩⟩
          · rw [if_neg c13] at H
            have c13b0 : (t193 == t198) = false := beq_eq_false_iff_ne.mpr c13
            have c13b1 : (t193 != t198) = true := bne_iff_ne.mpr c13
            have H' := Aside0.mk H
            clear H
            go_wp2
            repeat (go_quiet (fail); try go_wp2)
            go_meet
            case rel => exact ⟨_, (true), (by first | rfl | (simp; done) | (simp [*]; done)), H', ⟨by first | omega | exact Nat.le_refl _⟩, ⟨by (with_reducible repeat (first | apply Kd.R_alloc | apply Kd.R_drewN | apply Kd.R_drew)); exact HO195.out⟩, ⟨by (with_reducible repeat (first | apply Kd.R_alloc | apply Kd.R_drewN | apply Kd.R_drew)); exact HO200.out⟩, ⟨by repeat (first | (with_reducible first | exact HB.out | apply below_alloc | apply pw_below_drewN | apply below_drew1) | exact HB.out)⟩⟩
        · rw [if_neg c12] at H
          have c12b0 : (t192 == t197) = false := beq_eq_false_iff_ne.mpr c12
          have c12b1 : (t192 != t197) = true := bne_iff_ne.mpr c12
          (first | rw [c12b0] | (simp only [i64_w, i32_w]; rw [c12b0]) | skip)
          have H' := Aside0.mk H
          clear H
          go_wp2
          repeat (go_quiet (fail); try go_wp2)
          go_meet
          case rel => exact ⟨_, (true), (by first | rfl | (simp; done) | (simp [*]; done)), H', ⟨by first | omega | exact Nat.le_refl _⟩, ⟨by (with_reducible repeat (first | apply Kd.R_alloc | apply Kd.R_drewN | apply Kd.R_drew)); exact HO195.out⟩, ⟨by (with_reducible repeat (first | apply Kd.R_alloc | apply Kd.R_drewN | apply Kd.R_drew)); exact HO200.out⟩, ⟨by repeat (first | (with_reducible first | exact HB.out | apply below_alloc | apply pw_below_drewN | apply below_drew1) | exact HB.out)⟩⟩
      case rest =>
        clear HC8
        try clear c1
        try clear p2
        try clear c3
        try clear c4
        try clear c4b0
        try clear c4b1
        try clear c5
        try clear c5b0
        try clear c5b1
        try clear c12
        try clear c12b0
        try clear c12b1
        try clear c13
        try clear c13b0
        try clear c13b1
        obtain ⟨kq, x43_7, rfl, HA, HJ7, HO_4, HO_7, HB⟩ := hcut
        cases kq with
        | zero => exact absurd HA.out (by simp [arboristlaw05_ScanTells.j0])
        | succ kj7 =>
          have H := HA.out
          clear HA
          simp only [arboristlaw05_ScanTells.j0] at H
          by_cases c16 : x43_7 = true
          · subst c16
            have H1 : (some false) = some r := by rw [if_pos rfl] at H; exact H
            clear H
            have H := H1
            clear H1
            exact absurd ((Option.some.inj H).trans HT_.out) (by decide)
          · replace c16 := Bool.eq_false_iff.mpr c16
            subst c16
            have H1 : (arboristlaw05_ScanTells.l0 kj7 t190 t191 t196 0) = some r := by rw [if_neg (show ¬ (false = true) by decide)] at H; exact H
            clear H
            have H := H1
            clear H1
            have H' := Aside0.mk H
            clear H
            go_wp2
            repeat (go_quiet (fail); try go_wp2)
            go_loopg [10] kj7 (fun kq v10 w' => ∃ (x10_2 : Int), v10 = .int .i64 x10_2 ∧ Aside0 (arboristlaw05_ScanTells.l0 kq t190 t191 t196 x10_2 = some r) ∧ Aside0 (kq ≤ kj7) ∧ Aside0 (Kd.R k32 32 w' w.heap.size (fun _ => True) v194 t191) ∧ Aside0 (Kd.R k31 31 w' w.heap.size (fun _ => True) v199 t196) ∧ Aside0 (Below w.heap.size w w'))
            case atStart => exact ⟨(0), (by first | rfl | (simp; done) | (simp [*]; done)), H', ⟨Nat.le_refl _⟩, ⟨by (with_reducible repeat (first | apply Kd.R_alloc | apply Kd.R_drewN | apply Kd.R_drew)); exact HO_4.out⟩, ⟨by (with_reducible repeat (first | apply Kd.R_alloc | apply Kd.R_drewN | apply Kd.R_drew)); exact HO_7.out⟩, ⟨by repeat (first | (with_reducible first | exact HB.out | apply below_alloc | apply pw_below_drewN | apply below_drew1) | exact HB.out)⟩⟩
            case round =>
              clear H'
              try clear c1
              try clear p2
              try clear c3
              try clear c4
              try clear c4b0
              try clear c4b1
              try clear c5
              try clear c5b0
              try clear c5b1
              try clear c12
              try clear c12b0
              try clear c12b1
              try clear c13
              try clear c13b0
              try clear c13b1
              try clear c16
              try clear p2
              obtain ⟨x10_2, rfl, HA, HK2, HO_4, HO_7, HB⟩ := hrel
              cases gk with
              | zero => exact absurd HA.out (by simp [arboristlaw05_ScanTells.l0])
              | succ k2 =>
                have H := HA.out
                clear HA
                simp only [arboristlaw05_ScanTells.l0] at H
                by_cases c17 : x10_2 < (t191.length : Int)
                · rw [if_pos c17] at H
                  have c17b0 : decide (x10_2 < (t191.length : Int)) = true := decide_eq_true c17
                  clear c17
                  by_cases c18 : 0 ≤ x10_2
                  · rw [if_pos c18] at H
                    have c18b0 : decide (0 ≤ x10_2) = true := decide_eq_true c18
                    clear c18
                    by_cases c19 : x10_2 < (t196.length : Int)
                    · rw [if_pos c19] at H
                      have c19b0 : decide (x10_2 < (t196.length : Int)) = true := decide_eq_true c19
                      clear c19
                      by_cases c20 : (!(((rd_T32 t191 x10_2).f0) == ((rd_T31 t196 x10_2).f0)) || (!((((rd_T32 t191 x10_2).f1).toList) == (((rd_T31 t196 x10_2).f1).toList)) || (!(((rd_T32 t191 x10_2).f2) == ((rd_T31 t196 x10_2).f2)) || (!(((rd_T32 t191 x10_2).f3) == ((rd_T31 t196 x10_2).f3)))))) = true
                      · rw [if_pos c20] at H
                        have c20b0 : (!(((rd_T32 t191 x10_2).f0) == ((rd_T31 t196 x10_2).f0)) || (!((((rd_T32 t191 x10_2).f1).toList) == (((rd_T31 t196 x10_2).f1).toList)) || (!(((rd_T32 t191 x10_2).f2) == ((rd_T31 t196 x10_2).f2)) || (!(((rd_T32 t191 x10_2).f3) == ((rd_T31 t196 x10_2).f3)))))) = true := c20
                        clear c20
                        exact absurd ((Option.some.inj H).trans HT_.out) (by decide)
                      · rw [if_neg c20] at H
                        have c20b0 : (!(((rd_T32 t191 x10_2).f0) == ((rd_T31 t196 x10_2).f0)) || (!((((rd_T32 t191 x10_2).f1).toList) == (((rd_T31 t196 x10_2).f1).toList)) || (!(((rd_T32 t191 x10_2).f2) == ((rd_T31 t196 x10_2).f2)) || (!(((rd_T32 t191 x10_2).f3) == ((rd_T31 t196 x10_2).f3)))))) = false := by simpa using c20
                        clear c20
                        have H' := Aside0.mk H
                        clear H
                        obtain ⟨Ao21, co21, eo21⟩ := Kd.R_slice HO_4.out
                        subst eo21
                        have p201 : 0 ≤ (x10_2 : Int) := of_decide_eq_true (by first | (with_reducible assumption) | assumption)
                        have q201 : x10_2 < (t191.length : Int) := of_decide_eq_true (by first | (with_reducible assumption) | assumption)
                        obtain ⟨ad201, e201, hx201_0, hx201_1, hx201_2, hx201_3⟩ := at_T32 (Kd.R_reads' HO_4.out).2.2 x10_2 p201 q201
                        cases e201
                        replace p201 := eq_true p201
                        replace q201 := eq_true q201
                        obtain ⟨Ao22, co22, eo22⟩ := Kd.R_slice HO_7.out
                        subst eo22
                        have p202 : 0 ≤ (x10_2 : Int) := of_decide_eq_true (by first | (with_reducible assumption) | assumption)
                        have q202 : x10_2 < (t196.length : Int) := of_decide_eq_true (by first | (with_reducible assumption) | assumption)
                        obtain ⟨ad202, e202, hx202_0, hx202_1, hx202_2, hx202_3⟩ := at_T31 (Kd.R_reads' HO_7.out).2.2 x10_2 p202 q202
                        cases e202
                        replace p202 := eq_true p202
                        replace q202 := eq_true q202
                        go_wp2
                        repeat (go_quiet (fail); try go_wp2)
                        go_roundg k2
                        case measure => have := HJ7.out; have := HK2.out; omega
                        case rel => exact ⟨(wrap64 (x10_2 + 1)), (by first | rfl | (simp; done) | (simp [*]; done)), H', ⟨by have := HJ7.out; have := HK2.out; omega⟩, ⟨by (with_reducible repeat (first | apply Kd.R_alloc | apply Kd.R_drewN | apply Kd.R_drew)); exact HO_4.out⟩, ⟨by (with_reducible repeat (first | apply Kd.R_alloc | apply Kd.R_drewN | apply Kd.R_drew)); exact HO_7.out⟩, ⟨by repeat (first | (with_reducible first | exact HB.out | apply below_alloc | apply pw_below_drewN | apply below_drew1) | exact HB.out)⟩⟩
                    · rw [if_neg c19] at H
                      exact absurd H (by simp)
                  · rw [if_neg c18] at H
                    exact absurd H (by simp)
                · rw [if_neg c17] at H
                  have c17b0 : decide (x10_2 < (t191.length : Int)) = false := decide_eq_false c17
                  clear c17
                  obtain rfl := Option.some.inj H
                  obtain ⟨Ao23, co23, eo23⟩ := Kd.R_slice HO_4.out
                  subst eo23
                  go_wp2
                  repeat (go_quiet (fail); try go_wp2)
                  go_ret
                  exact ⟨by first | rfl | (simp [errW_none, errW_some] <;> rfl) | (simp only [← hji3]; first | rfl | (simp [errW_none, errW_some] <;> rfl)) | (simp [*, errW_none, errW_some] <;> rfl), by repeat (first | (with_reducible first | exact HB.out | apply below_alloc | apply pw_below_drewN | apply below_drew1) | exact HB.out)⟩
    · rw [if_neg c5] at H
      exact absurd H (by simp)
  · rw [if_neg c4] at H
    exact absurd H (by simp)

/-- THE ONE PURE STATEMENT of arboristlaw05_ScanTells. -/
def arboristlaw05_ScanTells.Pure : Prop := ∀ (a0 : ByteArray), (a0.size ≤ maxLen) → ∃ k, arboristlaw05_ScanTells.f k a0 = some true

end Go.Proofs.YtfgabdfnbkmaeaaDoor.Pr
