-- Printed by a program of this session's own (wip/tools/pp.py) over the kit's print.py; Lean checks it.
import Derived.Test.YtpmfdggbccbfaaaPr0
import Derived.Test.YtpmfdggbccbfaaaPr16
import Derived.Test.YtpmfdggbccbfaaaPr28
import Derived.Test.YtpmfdggbccbfaaaPr31
import Derived.Test.YtpmfdggbccbfaaaPr33
namespace Go.Proofs.Ytpmfdggbccbfaaa.Pr
open Go.RowKit Go.Proofs.YtpmfdggbccbfaaaW.PrintWords Go.Proofs.YtpmfdggbccbfaaaW.PrintLast Go.Proofs.YtpmfdggbccbfaaaW.PrintMore
attribute [local go_sem] max2_int min2_int max_two min_two max_three min_three max_four min_four   -- for this text's walks alone
set_option linter.unusedVariables false
set_option linter.unusedSimpArgs false

/-! ### arboristlaw13_PlaceAfter: function 10 -/
mutual
def arboristlaw13_PlaceAfter.l0 : Nat → Bool → List Int → Int → List (List Int) → List Int → Option (Bool)
  | 0, _, _, _, _, _ => none
  | k + 1, x5, x7, x8, x527000, x527001 => if x8 < (x7.length : Int) then (if 0 ≤ x8 then (if (rd x7 x8) < 0 then (arboristlaw13_PlaceAfter.j1 k x5 x7 x8 true x527000 x527001) else (arboristlaw13_PlaceAfter.j1 k x5 x7 x8 (decide ((rd x7 x8) ≥ (x527000.length : Int))) x527000 x527001)) else (none)) else (some x5)
def arboristlaw13_PlaceAfter.j1 : Nat → Bool → List Int → Int → Bool → List (List Int) → List Int → Option (Bool)
  | 0, _, _, _, _, _, _ => none
  | k + 1, x5, x7, x8, x43, x527000, x527001 => if x43 = true then (some false) else (if 0 ≤ x8 then (if x8 ≤ (x7.length : Int) then ((some (x7.take (x8 : Int).toNat : List Int)).bind fun y532 => (if x8 < (x7.length : Int) then ((arboristref01_In.f k y532 (rd x7 x8)).bind fun t537 => (if 0 ≤ (rd x7 x8) then (if (rd x7 x8) < (x527001.length : Int) then (if (rd x527001 (rd x7 x8)) ≥ 0 then ((arboristref01_In.f k y532 (rd x527001 (rd x7 x8))).bind fun t546 => (if t537 = true then (some false) else (if t546 = true then (some false) else (arboristlaw13_PlaceAfter.l0 k x5 x7 (wrap64 (x8 + 1)) x527000 x527001)))) else (if t537 = true then (some false) else (arboristlaw13_PlaceAfter.l0 k x5 x7 (wrap64 (x8 + 1)) x527000 x527001))) else (none)) else (none))) else (none))) else (none)) else (none))
end
def arboristlaw13_PlaceAfter.f (k : Nat) (l0 : List Int) (l1 : List (List Int)) : Option (Bool) := (arboristlaw13_shown.f k).bind fun t519 => ((arboristlaw13_shape.f k l0 l1).bind fun bt520 => ((place_After.f k bt520.1 bt520.2).bind fun t527 => (if (t527.length : Int) = (bt520.1.length : Int) then (arboristlaw13_PlaceAfter.l0 k t519 t527 0 bt520.1 bt520.2) else (some false))))
theorem arboristlaw13_PlaceAfter.mono_l : ∀ k, (∀ y0 y1 y2 y3 y4, LeO (arboristlaw13_PlaceAfter.l0 k y0 y1 y2 y3 y4) (arboristlaw13_PlaceAfter.l0 (k + 1) y0 y1 y2 y3 y4)) ∧ (∀ y0 y1 y2 y3 y4 y5, LeO (arboristlaw13_PlaceAfter.j1 k y0 y1 y2 y3 y4 y5) (arboristlaw13_PlaceAfter.j1 (k + 1) y0 y1 y2 y3 y4 y5))
  | 0 => ⟨fun _ _ _ _ _ r h => by simp [arboristlaw13_PlaceAfter.l0] at h, fun _ _ _ _ _ _ r h => by simp [arboristlaw13_PlaceAfter.j1] at h⟩
  | k + 1 => by
    obtain ⟨ih0, ih1⟩ := arboristlaw13_PlaceAfter.mono_l k
    refine ⟨?_, ?_⟩
    all_goals intros
    all_goals (first | unfold arboristlaw13_PlaceAfter.l0 | unfold arboristlaw13_PlaceAfter.j1)
    all_goals repeat' first
    | (with_reducible exact ih0 _ _ _ _ _)
    | (with_reducible exact ih1 _ _ _ _ _ _)
    | (with_reducible exact arboristlaw13_shape.mono _ _ _)
    | (with_reducible exact arboristlaw13_shown.mono _)
    | (with_reducible exact arboristref01_In.mono _ _ _)
    | (with_reducible exact place_After.mono _ _ _)
    | (with_reducible exact LeO.refl _)
    | (with_reducible exact LeO.none _)
    | (with_reducible refine LeO.ite ?_ ?_)
    | (with_reducible refine LeO.bind ?_ (fun _ => ?_))
    | exact ih0 _ _ _ _ _
    | exact ih1 _ _ _ _ _ _
    | exact arboristlaw13_shape.mono _ _ _
    | exact arboristlaw13_shown.mono _
    | exact arboristref01_In.mono _ _ _
    | exact place_After.mono _ _ _
    | exact LeO.none _
    | refine LeO.ite ?_ ?_
    | refine LeO.bind ?_ (fun _ => ?_)
theorem arboristlaw13_PlaceAfter.mono : ∀ a0 a1 k, LeO (arboristlaw13_PlaceAfter.f k a0 a1) (arboristlaw13_PlaceAfter.f (k + 1) a0 a1) := by
  intro a0 a1 k
  obtain ⟨ih0, ih1⟩ := arboristlaw13_PlaceAfter.mono_l k
  unfold arboristlaw13_PlaceAfter.f
  repeat' first
      | (with_reducible exact ih0 _ _ _ _ _)
      | (with_reducible exact ih1 _ _ _ _ _ _)
      | (with_reducible exact arboristlaw13_shape.mono _ _ _)
      | (with_reducible exact arboristlaw13_shown.mono _)
      | (with_reducible exact arboristref01_In.mono _ _ _)
      | (with_reducible exact place_After.mono _ _ _)
      | (with_reducible exact LeO.refl _)
      | (with_reducible exact LeO.none _)
      | (with_reducible refine LeO.ite ?_ ?_)
      | (with_reducible refine LeO.bind ?_ (fun _ => ?_))
      | exact ih0 _ _ _ _ _
      | exact ih1 _ _ _ _ _ _
      | exact arboristlaw13_shape.mono _ _ _
      | exact arboristlaw13_shown.mono _
      | exact arboristref01_In.mono _ _ _
      | exact place_After.mono _ _ _
      | exact LeO.none _
      | refine LeO.ite ?_ ?_
      | refine LeO.bind ?_ (fun _ => ?_)
set_option maxHeartbeats 8000000 in
set_option maxRecDepth 100000 in
theorem arboristlaw13_PlaceAfter.calls (k : Nat) (A0 : Option Addr) (c0 : Nat) (l0 : List Int) (A1 : Option Addr) (c1 : Nat) (l1 : List (List Int)) (r : Bool) (w : World) (hr0 : Kd.C (Kd.int .i64) w A0 l0.length l0) (hc0 : l0.length ≤ c0) (hr1 : Kd.C (Kd.slice 3 (Kd.int .i64)) w A1 l1.length l1) (hc1 : l1.length ≤ c1) (hT : r = true) (h : arboristlaw13_PlaceAfter.f k l0 l1 = some r) :
    Calls Try.prog 10 #[.slice A0 l0.length c0, .slice A1 l1.length c1] w fun e w' => e = .returned (.bool r) ∧ Below w.heap.size w w' := by
  have HT_ := Aside0.mk (show r = true from hT)
  clear hT
  have hu25 := Try.underlying25
  have HR0 := Aside0.mk hr0
  have HC0 := Aside0.mk hc0
  clear hr0 hc0
  have HR1 := Aside0.mk hr1
  have HC1 := Aside0.mk hc1
  clear hr1 hc1
  have HB := Aside0.mk (Below.refl w.heap.size w)
  have H : ((arboristlaw13_shown.f k).bind fun t519 => ((arboristlaw13_shape.f k l0 l1).bind fun bt520 => ((place_After.f k bt520.1 bt520.2).bind fun t527 => (if (t527.length : Int) = (bt520.1.length : Int) then (arboristlaw13_PlaceAfter.l0 k t519 t527 0 bt520.1 bt520.2) else (some false))))) = some r := h
  clear h
  replace H := Option.bind_eq_some_iff.mp H
  obtain ⟨t519, A30, H⟩ := H
  replace H : ((arboristlaw13_shape.f k l0 l1).bind fun bt520 => ((place_After.f k bt520.1 bt520.2).bind fun t527 => (if (t527.length : Int) = (bt520.1.length : Int) then (arboristlaw13_PlaceAfter.l0 k t519 t527 0 bt520.1 bt520.2) else (some false)))) = some r := H
  have A3 := Aside0.mk A30
  clear A30
  replace H := Option.bind_eq_some_iff.mp H
  obtain ⟨⟨t520, t523⟩, A40, H⟩ := H
  replace H : ((place_After.f k t520 t523).bind fun t527 => (if (t527.length : Int) = (t520.length : Int) then (arboristlaw13_PlaceAfter.l0 k t519 t527 0 t520 t523) else (some false))) = some r := H
  have A4 := Aside0.mk A40
  clear A40
  replace H := Option.bind_eq_some_iff.mp H
  obtain ⟨t527, A50, H⟩ := H
  replace H : (if (t527.length : Int) = (t520.length : Int) then (arboristlaw13_PlaceAfter.l0 k t519 t527 0 t520 t523) else (some false)) = some r := H
  have A5 := Aside0.mk A50
  clear A50
  by_cases c6 : (t527.length : Int) = (t520.length : Int)
  · rw [if_pos c6] at H
    have c6b0 : ((t527.length : Int) == (t520.length : Int)) = true := beq_iff_eq.mpr c6
    have c6b1 : ((t527.length : Int) != (t520.length : Int)) = false := bne_eq_false_iff_eq.mpr c6
    have c6b2 : (t527.length == t520.length) = true := by first | simpa using c6 | (simp at c6 ⊢; omega)
    clear c6
    have H' := Aside0.mk H
    clear H
    go_enter Try.func10, Try.ntmps10
    go_wp2_with (first | (go_at_call 26; (with_reducible refine (arboristlaw13_shown.calls k  t519 _ A3.out).mono ?_); rintro e w7 ⟨rfl, hb⟩; have n0_ := Aside0.mk (below_step (by repeat (first | (with_reducible first | exact HB.out | apply below_alloc | apply pw_below_drewN | apply below_drew1) | exact HB.out)) hb); clear HB; have HB := n0_; clear n0_; (try clear hb); (try clear hb2); (try clear hk); (try clear hi)) | (go_at_call 27; (with_reducible refine (arboristlaw13_shape.calls k _ _ l0 _ _ l1 t520 t523 _ ?side1 ?side2 ?side3 ?side4 A4.out).mono ?_); (case side1 => repeat (first | exact (Kd.C_below HR0.out HB.out) | (with_reducible refine Kd.C_alloc ?_ _) | (with_reducible refine Kd.C_drewN ?_ _) | (with_reducible refine Kd.C_drew ?_))); (case side2 => exact HC0.out); (case side3 => repeat (first | exact (Kd.C_below HR1.out HB.out) | (with_reducible refine Kd.C_alloc ?_ _) | (with_reducible refine Kd.C_drewN ?_ _) | (with_reducible refine Kd.C_drew ?_))); (case side4 => exact HC1.out); rintro e w8 ⟨v521, v524, rfl, ho0, ho1, hb⟩; have n0_ := Aside0.mk (Kd.S_lower ho0 (below_size (by repeat (first | (with_reducible first | exact HB.out | apply below_alloc | apply pw_below_drewN | apply below_drew1) | exact HB.out)))); have n1_ := Aside0.mk (Kd.R_lower ho1 (below_size (by repeat (first | (with_reducible first | exact HB.out | apply below_alloc | apply pw_below_drewN | apply below_drew1) | exact HB.out)))); have n2_ := Aside0.mk (below_step (by repeat (first | (with_reducible first | exact HB.out | apply below_alloc | apply pw_below_drewN | apply below_drew1) | exact HB.out)) hb); clear HB; have HO522 := n0_; have HO525 := n1_; have HB := n2_; clear n0_ n1_ n2_; (try clear hb); (try clear hb2); (try clear hk); (try clear hi); (try clear ho0); (try clear ho1)) | ((with_reducible refine gate_dst (N := 6) rfl ?_); (try (refine gate_guard (by rfl) ?_; dsimp only)); refine box_event ?hg (N := 6) ?hd (cs := #[.slice none 0 0, .slice none 0 0]) (t := 25) ?hr ?_; (case hd => rfl); (case hg => rfl); (case hr => first | (go_simp; done) | (go_simp; rfl)); intro gb526 hg w9 hbox hb; have n0_ := Aside0.mk (Kd.S_below (by (with_reducible repeat (first | apply Kd.S_alloc | apply Kd.S_drewN | apply Kd.S_drew)); exact HO522.out) hb); have n1_ := Aside0.mk (Kd.R_below (by (with_reducible repeat (first | apply Kd.R_alloc | apply Kd.R_drewN | apply Kd.R_drew)); exact HO525.out) hb); have n2_ := Aside0.mk (below_step (by repeat (first | (with_reducible first | exact HB.out | apply below_alloc | apply pw_below_drewN | apply below_drew1) | exact HB.out)) hb); have n3_ := Aside0.mk (hbox); have n4_ := Aside0.mk ((by rw [hg]; exact (below_size (by repeat (first | (with_reducible first | exact HB.out | apply below_alloc | apply pw_below_drewN | apply below_drew1) | exact HB.out))) : w.heap.size ≤ gb526)); have n5_ := Aside0.mk ((by rw [hg]; exact (below_size (by repeat (first | (with_reducible first | exact HB.out | apply below_alloc | apply pw_below_drewN | apply below_drew1) | exact HB.out))) : w.heap.size ≤ gb526)); clear HO522; clear HO525; clear HB; have HO522 := n0_; have HO525 := n1_; have HB := n2_; have BK526 := n3_; have GW526 := n4_; have GE526 := n5_; clear n0_ n1_ n2_ n3_ n4_ n5_; clear hb hbox hg; obtain ⟨Ao10, co10, eo10⟩ := Kd.S_slice HO522.out; subst eo10; have hcz11_0 : w9.cell? ⟨gb526, 0, none⟩ = some (.slice none 0 0) := (blk_cell BK526.out 0).trans rfl; have hcz11_1 : w9.cell? ⟨gb526, 1, none⟩ = some (.slice none 0 0) := (blk_cell BK526.out 1).trans rfl; have hfz11_0 := blk_frozen BK526.out 0; have hfz11_1 := blk_frozen BK526.out 1; obtain ⟨Ao12, co12, eo12⟩ := Kd.R_slice HO525.out; subst eo12) | (go_at_call 35; (with_reducible refine (place_After.calls k _ _ t520 _ _ t523 t527 _ ?side1 ?side2 ?side3 ?side4 A5.out).mono ?_); (case side1 => refine (Kd.S_reads' (e := 23) (base := w.heap.size) (ok := fun k_ => some k_ ≠ (.slice Ao12 t523.length co12 : Value).ownBlock) (n := t520.length) (c := co10) ?_).2.2; exact (by (with_reducible repeat (first | apply Kd.S_alloc | apply Kd.S_drewN | apply Kd.S_drew)); exact (Kd.S_mono (Kd.S_far (p := ⟨gb526, 1, none⟩) (Kd.S_far (p := ⟨gb526, 0, none⟩) (Kd.S_types HO522.out BK526.out (by decide)) (fun _ hk => hk.2) (.slice Ao10 t520.length co10)) (fun _ hk => hk.2) (.slice Ao12 t523.length co12)) (fun _ h_ => h_.1)))); (case side2 => exact (Kd.S_reads' HO522.out).2.1); (case side3 => refine (Kd.R_reads' (e := 3) (base := w.heap.size) (ok := fun k_ => True) (n := t523.length) (c := co12) ?_).2.2; exact (by (with_reducible repeat (first | apply Kd.R_alloc | apply Kd.R_drewN | apply Kd.R_drew)); exact (Kd.R_mono (Kd.R_far (p := ⟨gb526, 1, none⟩) (Kd.R_far (p := ⟨gb526, 0, none⟩) (Kd.R_types HO525.out BK526.out (by decide)) (fun _ hk => hk.2) (.slice Ao10 t520.length co10)) (fun _ hk => hk.2) (.slice Ao12 t523.length co12)) (fun _ h_ => h_.1)))); (case side4 => exact (Kd.R_reads' HO525.out).2.1); rintro e w13 ⟨v528, rfl, ho0, hb⟩; have n0_ := Aside0.mk (Kd.S_elder' (by (with_reducible repeat (first | apply Kd.S_alloc | apply Kd.S_drewN | apply Kd.S_drew)); exact (Kd.S_mono (Kd.S_far (p := ⟨gb526, 1, none⟩) (Kd.S_far (p := ⟨gb526, 0, none⟩) (Kd.S_types HO522.out BK526.out (by decide)) (fun _ hk => hk.2) (.slice Ao10 t520.length co10)) (fun _ hk => hk.2) (.slice Ao12 t523.length co12)) (fun _ h_ => h_.1))) (Kd.R_base ho0) hb); have n1_ := Aside0.mk (Kd.R_elder' (by (with_reducible repeat (first | apply Kd.R_alloc | apply Kd.R_drewN | apply Kd.R_drew)); exact (Kd.R_mono (Kd.R_far (p := ⟨gb526, 1, none⟩) (Kd.R_far (p := ⟨gb526, 0, none⟩) (Kd.R_types HO525.out BK526.out (by decide)) (fun _ hk => hk.2) (.slice Ao10 t520.length co10)) (fun _ hk => hk.2) (.slice Ao12 t523.length co12)) (fun _ h_ => h_.1))) (Kd.R_base ho0) hb); have n2_ := Aside0.mk (Kd.R_lower (Kd.R_new' ho0 (Kd.R_lt (by (with_reducible repeat (first | apply Kd.R_alloc | apply Kd.R_drewN | apply Kd.R_drew)); exact (Kd.R_mono (Kd.R_far (p := ⟨gb526, 1, none⟩) (Kd.R_far (p := ⟨gb526, 0, none⟩) (Kd.R_types HO525.out BK526.out (by decide)) (fun _ hk => hk.2) (.slice Ao10 t520.length co10)) (fun _ hk => hk.2) (.slice Ao12 t523.length co12)) (fun _ h_ => h_.1))))) (below_size (by repeat (first | (with_reducible first | exact HB.out | apply below_alloc | apply pw_below_drewN | apply below_drew1 | refine below_set ?_ GE526.out) | exact HB.out)))); have n3_ := Aside0.mk (blk_below (g := gb526) (o := .cells #[.slice Ao10 t520.length co10, .slice Ao12 t523.length co12] 25 (0, 0)) (by (with_reducible repeat (first | refine blk_drewN ?_ _ | refine blk_drew ?_ | refine blk_alloc ?_ _)); refine blk_put (cs := #[.slice Ao10 t520.length co10, .slice none 0 0]) ?_ 1 _ rfl; (with_reducible repeat (first | refine blk_drewN ?_ _ | refine blk_drew ?_ | refine blk_alloc ?_ _)); refine blk_put (cs := #[.slice none 0 0, .slice none 0 0]) ?_ 0 _ rfl; (with_reducible repeat (first | refine blk_drewN ?_ _ | refine blk_drew ?_ | refine blk_alloc ?_ _)); exact BK526.out) hb); have n4_ := Aside0.mk (below_step (by repeat (first | (with_reducible first | exact HB.out | apply below_alloc | apply pw_below_drewN | apply below_drew1 | refine below_set ?_ GE526.out) | exact HB.out)) hb); clear HO522; clear HO525; clear BK526; clear HB; have HO522 := n0_; have HO525 := n1_; have HO529 := n2_; have BK526 := n3_; have HB := n4_; clear n0_ n1_ n2_ n3_ n4_; (try clear hb); (try clear hb2); (try clear hk); (try clear hi); (try clear ho0); obtain ⟨Ao14, co14, eo14⟩ := Kd.R_slice HO529.out; subst eo14; have hcz15_0 : w13.cell? ⟨gb526, 0, none⟩ = some (.slice Ao10 t520.length co10) := (blk_cell BK526.out 0).trans rfl; have hcz15_1 : w13.cell? ⟨gb526, 1, none⟩ = some (.slice Ao12 t523.length co12) := (blk_cell BK526.out 1).trans rfl; have hfz15_0 := blk_frozen BK526.out 0; have hfz15_1 := blk_frozen BK526.out 1))
    repeat (go_quiet (first | (go_at_call 26; (with_reducible refine (arboristlaw13_shown.calls k  t519 _ A3.out).mono ?_); rintro e w7 ⟨rfl, hb⟩; have n0_ := Aside0.mk (below_step (by repeat (first | (with_reducible first | exact HB.out | apply below_alloc | apply pw_below_drewN | apply below_drew1) | exact HB.out)) hb); clear HB; have HB := n0_; clear n0_; (try clear hb); (try clear hb2); (try clear hk); (try clear hi)) | (go_at_call 27; (with_reducible refine (arboristlaw13_shape.calls k _ _ l0 _ _ l1 t520 t523 _ ?side1 ?side2 ?side3 ?side4 A4.out).mono ?_); (case side1 => repeat (first | exact (Kd.C_below HR0.out HB.out) | (with_reducible refine Kd.C_alloc ?_ _) | (with_reducible refine Kd.C_drewN ?_ _) | (with_reducible refine Kd.C_drew ?_))); (case side2 => exact HC0.out); (case side3 => repeat (first | exact (Kd.C_below HR1.out HB.out) | (with_reducible refine Kd.C_alloc ?_ _) | (with_reducible refine Kd.C_drewN ?_ _) | (with_reducible refine Kd.C_drew ?_))); (case side4 => exact HC1.out); rintro e w8 ⟨v521, v524, rfl, ho0, ho1, hb⟩; have n0_ := Aside0.mk (Kd.S_lower ho0 (below_size (by repeat (first | (with_reducible first | exact HB.out | apply below_alloc | apply pw_below_drewN | apply below_drew1) | exact HB.out)))); have n1_ := Aside0.mk (Kd.R_lower ho1 (below_size (by repeat (first | (with_reducible first | exact HB.out | apply below_alloc | apply pw_below_drewN | apply below_drew1) | exact HB.out)))); have n2_ := Aside0.mk (below_step (by repeat (first | (with_reducible first | exact HB.out | apply below_alloc | apply pw_below_drewN | apply below_drew1) | exact HB.out)) hb); clear HB; have HO522 := n0_; have HO525 := n1_; have HB := n2_; clear n0_ n1_ n2_; (try clear hb); (try clear hb2); (try clear hk); (try clear hi); (try clear ho0); (try clear ho1)) | ((with_reducible refine gate_dst (N := 6) rfl ?_); (try (refine gate_guard (by rfl) ?_; dsimp only)); refine box_event ?hg (N := 6) ?hd (cs := #[.slice none 0 0, .slice none 0 0]) (t := 25) ?hr ?_; (case hd => rfl); (case hg => rfl); (case hr => first | (go_simp; done) | (go_simp; rfl)); intro gb526 hg w9 hbox hb; have n0_ := Aside0.mk (Kd.S_below (by (with_reducible repeat (first | apply Kd.S_alloc | apply Kd.S_drewN | apply Kd.S_drew)); exact HO522.out) hb); have n1_ := Aside0.mk (Kd.R_below (by (with_reducible repeat (first | apply Kd.R_alloc | apply Kd.R_drewN | apply Kd.R_drew)); exact HO525.out) hb); have n2_ := Aside0.mk (below_step (by repeat (first | (with_reducible first | exact HB.out | apply below_alloc | apply pw_below_drewN | apply below_drew1) | exact HB.out)) hb); have n3_ := Aside0.mk (hbox); have n4_ := Aside0.mk ((by rw [hg]; exact (below_size (by repeat (first | (with_reducible first | exact HB.out | apply below_alloc | apply pw_below_drewN | apply below_drew1) | exact HB.out))) : w.heap.size ≤ gb526)); have n5_ := Aside0.mk ((by rw [hg]; exact (below_size (by repeat (first | (with_reducible first | exact HB.out | apply below_alloc | apply pw_below_drewN | apply below_drew1) | exact HB.out))) : w.heap.size ≤ gb526)); clear HO522; clear HO525; clear HB; have HO522 := n0_; have HO525 := n1_; have HB := n2_; have BK526 := n3_; have GW526 := n4_; have GE526 := n5_; clear n0_ n1_ n2_ n3_ n4_ n5_; clear hb hbox hg; obtain ⟨Ao10, co10, eo10⟩ := Kd.S_slice HO522.out; subst eo10; have hcz11_0 : w9.cell? ⟨gb526, 0, none⟩ = some (.slice none 0 0) := (blk_cell BK526.out 0).trans rfl; have hcz11_1 : w9.cell? ⟨gb526, 1, none⟩ = some (.slice none 0 0) := (blk_cell BK526.out 1).trans rfl; have hfz11_0 := blk_frozen BK526.out 0; have hfz11_1 := blk_frozen BK526.out 1; obtain ⟨Ao12, co12, eo12⟩ := Kd.R_slice HO525.out; subst eo12) | (go_at_call 35; (with_reducible refine (place_After.calls k _ _ t520 _ _ t523 t527 _ ?side1 ?side2 ?side3 ?side4 A5.out).mono ?_); (case side1 => refine (Kd.S_reads' (e := 23) (base := w.heap.size) (ok := fun k_ => some k_ ≠ (.slice Ao12 t523.length co12 : Value).ownBlock) (n := t520.length) (c := co10) ?_).2.2; exact (by (with_reducible repeat (first | apply Kd.S_alloc | apply Kd.S_drewN | apply Kd.S_drew)); exact (Kd.S_mono (Kd.S_far (p := ⟨gb526, 1, none⟩) (Kd.S_far (p := ⟨gb526, 0, none⟩) (Kd.S_types HO522.out BK526.out (by decide)) (fun _ hk => hk.2) (.slice Ao10 t520.length co10)) (fun _ hk => hk.2) (.slice Ao12 t523.length co12)) (fun _ h_ => h_.1)))); (case side2 => exact (Kd.S_reads' HO522.out).2.1); (case side3 => refine (Kd.R_reads' (e := 3) (base := w.heap.size) (ok := fun k_ => True) (n := t523.length) (c := co12) ?_).2.2; exact (by (with_reducible repeat (first | apply Kd.R_alloc | apply Kd.R_drewN | apply Kd.R_drew)); exact (Kd.R_mono (Kd.R_far (p := ⟨gb526, 1, none⟩) (Kd.R_far (p := ⟨gb526, 0, none⟩) (Kd.R_types HO525.out BK526.out (by decide)) (fun _ hk => hk.2) (.slice Ao10 t520.length co10)) (fun _ hk => hk.2) (.slice Ao12 t523.length co12)) (fun _ h_ => h_.1)))); (case side4 => exact (Kd.R_reads' HO525.out).2.1); rintro e w13 ⟨v528, rfl, ho0, hb⟩; have n0_ := Aside0.mk (Kd.S_elder' (by (with_reducible repeat (first | apply Kd.S_alloc | apply Kd.S_drewN | apply Kd.S_drew)); exact (Kd.S_mono (Kd.S_far (p := ⟨gb526, 1, none⟩) (Kd.S_far (p := ⟨gb526, 0, none⟩) (Kd.S_types HO522.out BK526.out (by decide)) (fun _ hk => hk.2) (.slice Ao10 t520.length co10)) (fun _ hk => hk.2) (.slice Ao12 t523.length co12)) (fun _ h_ => h_.1))) (Kd.R_base ho0) hb); have n1_ := Aside0.mk (Kd.R_elder' (by (with_reducible repeat (first | apply Kd.R_alloc | apply Kd.R_drewN | apply Kd.R_drew)); exact (Kd.R_mono (Kd.R_far (p := ⟨gb526, 1, none⟩) (Kd.R_far (p := ⟨gb526, 0, none⟩) (Kd.R_types HO525.out BK526.out (by decide)) (fun _ hk => hk.2) (.slice Ao10 t520.length co10)) (fun _ hk => hk.2) (.slice Ao12 t523.length co12)) (fun _ h_ => h_.1))) (Kd.R_base ho0) hb); have n2_ := Aside0.mk (Kd.R_lower (Kd.R_new' ho0 (Kd.R_lt (by (with_reducible repeat (first | apply Kd.R_alloc | apply Kd.R_drewN | apply Kd.R_drew)); exact (Kd.R_mono (Kd.R_far (p := ⟨gb526, 1, none⟩) (Kd.R_far (p := ⟨gb526, 0, none⟩) (Kd.R_types HO525.out BK526.out (by decide)) (fun _ hk => hk.2) (.slice Ao10 t520.length co10)) (fun _ hk => hk.2) (.slice Ao12 t523.length co12)) (fun _ h_ => h_.1))))) (below_size (by repeat (first | (with_reducible first | exact HB.out | apply below_alloc | apply pw_below_drewN | apply below_drew1 | refine below_set ?_ GE526.out) | exact HB.out)))); have n3_ := Aside0.mk (blk_below (g := gb526) (o := .cells #[.slice Ao10 t520.length co10, .slice Ao12 t523.length co12] 25 (0, 0)) (by (with_reducible repeat (first | refine blk_drewN ?_ _ | refine blk_drew ?_ | refine blk_alloc ?_ _)); refine blk_put (cs := #[.slice Ao10 t520.length co10, .slice none 0 0]) ?_ 1 _ rfl; (with_reducible repeat (first | refine blk_drewN ?_ _ | refine blk_drew ?_ | refine blk_alloc ?_ _)); refine blk_put (cs := #[.slice none 0 0, .slice none 0 0]) ?_ 0 _ rfl; (with_reducible repeat (first | refine blk_drewN ?_ _ | refine blk_drew ?_ | refine blk_alloc ?_ _)); exact BK526.out) hb); have n4_ := Aside0.mk (below_step (by repeat (first | (with_reducible first | exact HB.out | apply below_alloc | apply pw_below_drewN | apply below_drew1 | refine below_set ?_ GE526.out) | exact HB.out)) hb); clear HO522; clear HO525; clear BK526; clear HB; have HO522 := n0_; have HO525 := n1_; have HO529 := n2_; have BK526 := n3_; have HB := n4_; clear n0_ n1_ n2_ n3_ n4_; (try clear hb); (try clear hb2); (try clear hk); (try clear hi); (try clear ho0); obtain ⟨Ao14, co14, eo14⟩ := Kd.R_slice HO529.out; subst eo14; have hcz15_0 : w13.cell? ⟨gb526, 0, none⟩ = some (.slice Ao10 t520.length co10) := (blk_cell BK526.out 0).trans rfl; have hcz15_1 : w13.cell? ⟨gb526, 1, none⟩ = some (.slice Ao12 t523.length co12) := (blk_cell BK526.out 1).trans rfl; have hfz15_0 := blk_frozen BK526.out 0; have hfz15_1 := blk_frozen BK526.out 1)); try go_wp2_with (first | (go_at_call 26; (with_reducible refine (arboristlaw13_shown.calls k  t519 _ A3.out).mono ?_); rintro e w7 ⟨rfl, hb⟩; have n0_ := Aside0.mk (below_step (by repeat (first | (with_reducible first | exact HB.out | apply below_alloc | apply pw_below_drewN | apply below_drew1) | exact HB.out)) hb); clear HB; have HB := n0_; clear n0_; (try clear hb); (try clear hb2); (try clear hk); (try clear hi)) | (go_at_call 27; (with_reducible refine (arboristlaw13_shape.calls k _ _ l0 _ _ l1 t520 t523 _ ?side1 ?side2 ?side3 ?side4 A4.out).mono ?_); (case side1 => repeat (first | exact (Kd.C_below HR0.out HB.out) | (with_reducible refine Kd.C_alloc ?_ _) | (with_reducible refine Kd.C_drewN ?_ _) | (with_reducible refine Kd.C_drew ?_))); (case side2 => exact HC0.out); (case side3 => repeat (first | exact (Kd.C_below HR1.out HB.out) | (with_reducible refine Kd.C_alloc ?_ _) | (with_reducible refine Kd.C_drewN ?_ _) | (with_reducible refine Kd.C_drew ?_))); (case side4 => exact HC1.out); rintro e w8 ⟨v521, v524, rfl, ho0, ho1, hb⟩; have n0_ := Aside0.mk (Kd.S_lower ho0 (below_size (by repeat (first | (with_reducible first | exact HB.out | apply below_alloc | apply pw_below_drewN | apply below_drew1) | exact HB.out)))); have n1_ := Aside0.mk (Kd.R_lower ho1 (below_size (by repeat (first | (with_reducible first | exact HB.out | apply below_alloc | apply pw_below_drewN | apply below_drew1) | exact HB.out)))); have n2_ := Aside0.mk (below_step (by repeat (first | (with_reducible first | exact HB.out | apply below_alloc | apply pw_below_drewN | apply below_drew1) | exact HB.out)) hb); clear HB; have HO522 := n0_; have HO525 := n1_; have HB := n2_; clear n0_ n1_ n2_; (try clear hb); (try clear hb2); (try clear hk); (try clear hi); (try clear ho0); (try clear ho1)) | ((with_reducible refine gate_dst (N := 6) rfl ?_); (try (refine gate_guard (by rfl) ?_; dsimp only)); refine box_event ?hg (N := 6) ?hd (cs := #[.slice none 0 0, .slice none 0 0]) (t := 25) ?hr ?_; (case hd => rfl); (case hg => rfl); (case hr => first | (go_simp; done) | (go_simp; rfl)); intro gb526 hg w9 hbox hb; have n0_ := Aside0.mk (Kd.S_below (by (with_reducible repeat (first | apply Kd.S_alloc | apply Kd.S_drewN | apply Kd.S_drew)); exact HO522.out) hb); have n1_ := Aside0.mk (Kd.R_below (by (with_reducible repeat (first | apply Kd.R_alloc | apply Kd.R_drewN | apply Kd.R_drew)); exact HO525.out) hb); have n2_ := Aside0.mk (below_step (by repeat (first | (with_reducible first | exact HB.out | apply below_alloc | apply pw_below_drewN | apply below_drew1) | exact HB.out)) hb); have n3_ := Aside0.mk (hbox); have n4_ := Aside0.mk ((by rw [hg]; exact (below_size (by repeat (first | (with_reducible first | exact HB.out | apply below_alloc | apply pw_below_drewN | apply below_drew1) | exact HB.out))) : w.heap.size ≤ gb526)); have n5_ := Aside0.mk ((by rw [hg]; exact (below_size (by repeat (first | (with_reducible first | exact HB.out | apply below_alloc | apply pw_below_drewN | apply below_drew1) | exact HB.out))) : w.heap.size ≤ gb526)); clear HO522; clear HO525; clear HB; have HO522 := n0_; have HO525 := n1_; have HB := n2_; have BK526 := n3_; have GW526 := n4_; have GE526 := n5_; clear n0_ n1_ n2_ n3_ n4_ n5_; clear hb hbox hg; obtain ⟨Ao10, co10, eo10⟩ := Kd.S_slice HO522.out; subst eo10; have hcz11_0 : w9.cell? ⟨gb526, 0, none⟩ = some (.slice none 0 0) := (blk_cell BK526.out 0).trans rfl; have hcz11_1 : w9.cell? ⟨gb526, 1, none⟩ = some (.slice none 0 0) := (blk_cell BK526.out 1).trans rfl; have hfz11_0 := blk_frozen BK526.out 0; have hfz11_1 := blk_frozen BK526.out 1; obtain ⟨Ao12, co12, eo12⟩ := Kd.R_slice HO525.out; subst eo12) | (go_at_call 35; (with_reducible refine (place_After.calls k _ _ t520 _ _ t523 t527 _ ?side1 ?side2 ?side3 ?side4 A5.out).mono ?_); (case side1 => refine (Kd.S_reads' (e := 23) (base := w.heap.size) (ok := fun k_ => some k_ ≠ (.slice Ao12 t523.length co12 : Value).ownBlock) (n := t520.length) (c := co10) ?_).2.2; exact (by (with_reducible repeat (first | apply Kd.S_alloc | apply Kd.S_drewN | apply Kd.S_drew)); exact (Kd.S_mono (Kd.S_far (p := ⟨gb526, 1, none⟩) (Kd.S_far (p := ⟨gb526, 0, none⟩) (Kd.S_types HO522.out BK526.out (by decide)) (fun _ hk => hk.2) (.slice Ao10 t520.length co10)) (fun _ hk => hk.2) (.slice Ao12 t523.length co12)) (fun _ h_ => h_.1)))); (case side2 => exact (Kd.S_reads' HO522.out).2.1); (case side3 => refine (Kd.R_reads' (e := 3) (base := w.heap.size) (ok := fun k_ => True) (n := t523.length) (c := co12) ?_).2.2; exact (by (with_reducible repeat (first | apply Kd.R_alloc | apply Kd.R_drewN | apply Kd.R_drew)); exact (Kd.R_mono (Kd.R_far (p := ⟨gb526, 1, none⟩) (Kd.R_far (p := ⟨gb526, 0, none⟩) (Kd.R_types HO525.out BK526.out (by decide)) (fun _ hk => hk.2) (.slice Ao10 t520.length co10)) (fun _ hk => hk.2) (.slice Ao12 t523.length co12)) (fun _ h_ => h_.1)))); (case side4 => exact (Kd.R_reads' HO525.out).2.1); rintro e w13 ⟨v528, rfl, ho0, hb⟩; have n0_ := Aside0.mk (Kd.S_elder' (by (with_reducible repeat (first | apply Kd.S_alloc | apply Kd.S_drewN | apply Kd.S_drew)); exact (Kd.S_mono (Kd.S_far (p := ⟨gb526, 1, none⟩) (Kd.S_far (p := ⟨gb526, 0, none⟩) (Kd.S_types HO522.out BK526.out (by decide)) (fun _ hk => hk.2) (.slice Ao10 t520.length co10)) (fun _ hk => hk.2) (.slice Ao12 t523.length co12)) (fun _ h_ => h_.1))) (Kd.R_base ho0) hb); have n1_ := Aside0.mk (Kd.R_elder' (by (with_reducible repeat (first | apply Kd.R_alloc | apply Kd.R_drewN | apply Kd.R_drew)); exact (Kd.R_mono (Kd.R_far (p := ⟨gb526, 1, none⟩) (Kd.R_far (p := ⟨gb526, 0, none⟩) (Kd.R_types HO525.out BK526.out (by decide)) (fun _ hk => hk.2) (.slice Ao10 t520.length co10)) (fun _ hk => hk.2) (.slice Ao12 t523.length co12)) (fun _ h_ => h_.1))) (Kd.R_base ho0) hb); have n2_ := Aside0.mk (Kd.R_lower (Kd.R_new' ho0 (Kd.R_lt (by (with_reducible repeat (first | apply Kd.R_alloc | apply Kd.R_drewN | apply Kd.R_drew)); exact (Kd.R_mono (Kd.R_far (p := ⟨gb526, 1, none⟩) (Kd.R_far (p := ⟨gb526, 0, none⟩) (Kd.R_types HO525.out BK526.out (by decide)) (fun _ hk => hk.2) (.slice Ao10 t520.length co10)) (fun _ hk => hk.2) (.slice Ao12 t523.length co12)) (fun _ h_ => h_.1))))) (below_size (by repeat (first | (with_reducible first | exact HB.out | apply below_alloc | apply pw_below_drewN | apply below_drew1 | refine below_set ?_ GE526.out) | exact HB.out)))); have n3_ := Aside0.mk (blk_below (g := gb526) (o := .cells #[.slice Ao10 t520.length co10, .slice Ao12 t523.length co12] 25 (0, 0)) (by (with_reducible repeat (first | refine blk_drewN ?_ _ | refine blk_drew ?_ | refine blk_alloc ?_ _)); refine blk_put (cs := #[.slice Ao10 t520.length co10, .slice none 0 0]) ?_ 1 _ rfl; (with_reducible repeat (first | refine blk_drewN ?_ _ | refine blk_drew ?_ | refine blk_alloc ?_ _)); refine blk_put (cs := #[.slice none 0 0, .slice none 0 0]) ?_ 0 _ rfl; (with_reducible repeat (first | refine blk_drewN ?_ _ | refine blk_drew ?_ | refine blk_alloc ?_ _)); exact BK526.out) hb); have n4_ := Aside0.mk (below_step (by repeat (first | (with_reducible first | exact HB.out | apply below_alloc | apply pw_below_drewN | apply below_drew1 | refine below_set ?_ GE526.out) | exact HB.out)) hb); clear HO522; clear HO525; clear BK526; clear HB; have HO522 := n0_; have HO525 := n1_; have HO529 := n2_; have BK526 := n3_; have HB := n4_; clear n0_ n1_ n2_ n3_ n4_; (try clear hb); (try clear hb2); (try clear hk); (try clear hi); (try clear ho0); obtain ⟨Ao14, co14, eo14⟩ := Kd.R_slice HO529.out; subst eo14; have hcz15_0 : w13.cell? ⟨gb526, 0, none⟩ = some (.slice Ao10 t520.length co10) := (blk_cell BK526.out 0).trans rfl; have hcz15_1 : w13.cell? ⟨gb526, 1, none⟩ = some (.slice Ao12 t523.length co12) := (blk_cell BK526.out 1).trans rfl; have hfz15_0 := blk_frozen BK526.out 0; have hfz15_1 := blk_frozen BK526.out 1)))
    go_loopg [8] k (fun kq v8 w' => ∃ (x8_1 : Int), v8 = .int .i64 x8_1 ∧ Aside0 (arboristlaw13_PlaceAfter.l0 kq t519 t527 x8_1 t520 t523 = some r) ∧ Aside0 (kq ≤ k) ∧ Aside0 (Kd.R (Kd.int .i64) 3 w' w.heap.size (fun k_ => some k_ ≠ ((.slice Ao12 t523.length co12) : Value).ownBlock) (.slice Ao14 t527.length co14) t527) ∧ Aside0 (Kd.S (Kd.slice 3 (Kd.int .i64)) 23 w' w.heap.size (fun k_ => some k_ ≠ ((.slice Ao14 t527.length co14) : Value).ownBlock ∧ some k_ ≠ ((.slice Ao12 t523.length co12) : Value).ownBlock) (.slice Ao10 t520.length co10) t520) ∧ Aside0 (Kd.R (Kd.int .i64) 3 w' w.heap.size (fun k_ => some k_ ≠ ((.slice Ao14 t527.length co14) : Value).ownBlock) (.slice Ao12 t523.length co12) t523) ∧ Aside0 (w'.heap[gb526]? = some (.cells #[(.slice Ao10 t520.length co10), (.slice Ao12 t523.length co12)] 25 (0, 0))) ∧ Aside0 (Below w.heap.size w w'))
    case atStart => exact ⟨(0), (by first | rfl | (simp; done) | (simp [*]; done)), H', ⟨Nat.le_refl _⟩, ⟨by (with_reducible repeat (first | apply Kd.R_alloc | apply Kd.R_drewN | apply Kd.R_drew)); exact Kd.R_mono HO529.out (fun _ hk => hk.2)⟩, ⟨by (with_reducible repeat (first | apply Kd.S_alloc | apply Kd.S_drewN | apply Kd.S_drew)); exact Kd.S_mono HO522.out (fun _ hk => ⟨hk.2, hk.1⟩)⟩, ⟨by (with_reducible repeat (first | apply Kd.R_alloc | apply Kd.R_drewN | apply Kd.R_drew)); exact Kd.R_mono HO525.out (fun _ hk => hk.2)⟩, ⟨by (with_reducible repeat (first | refine blk_drewN ?_ _ | refine blk_drew ?_ | refine blk_alloc ?_ _)); exact BK526.out⟩, ⟨by repeat (first | (with_reducible first | exact HB.out | apply below_alloc | apply pw_below_drewN | apply below_drew1 | refine below_set ?_ GE526.out) | exact HB.out)⟩⟩
    case round =>
      clear H'
      try clear c1
      try clear p2
      try clear c6
      try clear c6b0
      try clear c6b1
      try clear c6b2
      try clear c10
      try clear hcz11_0
      try clear hcz11_1
      try clear hcz15_0
      try clear hcz15_1
      try clear hfz11_0
      try clear hfz11_1
      try clear hfz15_0
      try clear hfz15_1
      obtain ⟨x8_1, rfl, HA, HK1, HO_7, HO_527000, HO_527001, BK526, HB⟩ := hrel
      cases gk with
      | zero => exact absurd HA.out (by simp [arboristlaw13_PlaceAfter.l0])
      | succ k1 =>
        have H := HA.out
        clear HA
        simp only [arboristlaw13_PlaceAfter.l0] at H
        by_cases c16 : x8_1 < (t527.length : Int)
        · rw [if_pos c16] at H
          have c16b0 : decide (x8_1 < (t527.length : Int)) = true := decide_eq_true c16
          clear c16
          have HC17 := Aside0.mk H
          clear H
          go_upto_region 9 with (fail)
          repeat (go_quiet (fail); go_upto_region 9 with (fail))
          go_cut [43] (fun v43 wc => ∃ (kq : Nat) (x43_16 : Bool), v43 = .bool x43_16 ∧ Aside0 (arboristlaw13_PlaceAfter.j1 kq t519 t527 x8_1 x43_16 t520 t523 = some r) ∧ Aside0 (kq ≤ k1) ∧ Aside0 (Kd.R (Kd.int .i64) 3 wc w.heap.size (fun k_ => some k_ ≠ ((.slice Ao12 t523.length co12) : Value).ownBlock) (.slice Ao14 t527.length co14) t527) ∧ Aside0 (Kd.S (Kd.slice 3 (Kd.int .i64)) 23 wc w.heap.size (fun k_ => some k_ ≠ ((.slice Ao14 t527.length co14) : Value).ownBlock ∧ some k_ ≠ ((.slice Ao12 t523.length co12) : Value).ownBlock) (.slice Ao10 t520.length co10) t520) ∧ Aside0 (Kd.R (Kd.int .i64) 3 wc w.heap.size (fun k_ => some k_ ≠ ((.slice Ao14 t527.length co14) : Value).ownBlock) (.slice Ao12 t523.length co12) t523) ∧ Aside0 (wc.heap[gb526]? = some (.cells #[(.slice Ao10 t520.length co10), (.slice Ao12 t523.length co12)] 25 (0, 0))) ∧ Aside0 (Below w.heap.size w wc))
          case first =>
            have H := HC17.out
            clear HC17
            by_cases c18 : 0 ≤ x8_1
            · rw [if_pos c18] at H
              have c18b0 : decide (0 ≤ x8_1) = true := decide_eq_true c18
              clear c18
              (first | rw [c18b0] | (simp only [i64_w, i32_w]; rw [c18b0]) | skip)
              by_cases c19 : (rd t527 x8_1) < 0
              · rw [if_pos c19] at H
                have c19b0 : decide ((rd t527 x8_1) < 0) = true := decide_eq_true c19
                clear c19
                have H' := Aside0.mk H
                clear H
                have p530 : 0 ≤ (x8_1 : Int) := of_decide_eq_true (by first | (with_reducible assumption) | assumption)
                have q530 : x8_1 < (t527.length : Int) := of_decide_eq_true (by first | (with_reducible assumption) | assumption)
                obtain ⟨ad530, e530, hx530_0⟩ := Kd.at_int (Kd.R_reads' HO_7.out).2.2 x8_1 p530 q530
                cases e530
                replace p530 := eq_true p530
                replace q530 := eq_true q530
                go_wp2
                repeat (go_quiet (fail); try go_wp2)
                go_meet
                case rel => exact ⟨_, (true), (by first | rfl | (simp; done) | (simp [*]; done)), H', ⟨by have := HK1.out; first | omega | exact Nat.le_refl _⟩, ⟨by (with_reducible repeat (first | apply Kd.R_alloc | apply Kd.R_drewN | apply Kd.R_drew)); exact HO_7.out⟩, ⟨by (with_reducible repeat (first | apply Kd.S_alloc | apply Kd.S_drewN | apply Kd.S_drew)); exact HO_527000.out⟩, ⟨by (with_reducible repeat (first | apply Kd.R_alloc | apply Kd.R_drewN | apply Kd.R_drew)); exact HO_527001.out⟩, ⟨by (with_reducible repeat (first | refine blk_drewN ?_ _ | refine blk_drew ?_ | refine blk_alloc ?_ _)); exact BK526.out⟩, ⟨by repeat (first | (with_reducible first | exact HB.out | apply below_alloc | apply pw_below_drewN | apply below_drew1 | refine below_set ?_ GE526.out) | exact HB.out)⟩⟩
              · rw [if_neg c19] at H
                have c19b0 : decide ((rd t527 x8_1) < 0) = false := decide_eq_false c19
                clear c19
                have H' := Aside0.mk H
                clear H
                have p530 : 0 ≤ (x8_1 : Int) := of_decide_eq_true (by first | (with_reducible assumption) | assumption)
                have q530 : x8_1 < (t527.length : Int) := of_decide_eq_true (by first | (with_reducible assumption) | assumption)
                obtain ⟨ad530, e530, hx530_0⟩ := Kd.at_int (Kd.R_reads' HO_7.out).2.2 x8_1 p530 q530
                cases e530
                replace p530 := eq_true p530
                replace q530 := eq_true q530
                have p531 : 0 ≤ (x8_1 : Int) := of_decide_eq_true (by first | (with_reducible assumption) | assumption)
                have q531 : x8_1 < (t527.length : Int) := of_decide_eq_true (by first | (with_reducible assumption) | assumption)
                obtain ⟨ad531, e531, hx531_0⟩ := Kd.at_int (Kd.R_reads' HO_7.out).2.2 x8_1 p531 q531
                obtain rfl : ad530 = ad531 := (by injection e531)
                replace p531 := eq_true p531
                replace q531 := eq_true q531
                have hcz20_0 : wr.cell? ⟨gb526, 0, none⟩ = some (.slice Ao10 t520.length co10) := (blk_cell BK526.out 0).trans rfl
                have hcz20_1 : wr.cell? ⟨gb526, 1, none⟩ = some (.slice Ao12 t523.length co12) := (blk_cell BK526.out 1).trans rfl
                have hfz20_0 := blk_frozen BK526.out 0
                have hfz20_1 := blk_frozen BK526.out 1
                go_wp2
                repeat (go_quiet (fail); try go_wp2)
                go_meet
                case rel => exact ⟨_, (decide ((rd t527 x8_1) ≥ (t520.length : Int))), (by first | rfl | (simp; done) | (simp [*]; done)), H', ⟨by have := HK1.out; first | omega | exact Nat.le_refl _⟩, ⟨by (with_reducible repeat (first | apply Kd.R_alloc | apply Kd.R_drewN | apply Kd.R_drew)); exact HO_7.out⟩, ⟨by (with_reducible repeat (first | apply Kd.S_alloc | apply Kd.S_drewN | apply Kd.S_drew)); exact HO_527000.out⟩, ⟨by (with_reducible repeat (first | apply Kd.R_alloc | apply Kd.R_drewN | apply Kd.R_drew)); exact HO_527001.out⟩, ⟨by (with_reducible repeat (first | refine blk_drewN ?_ _ | refine blk_drew ?_ | refine blk_alloc ?_ _)); exact BK526.out⟩, ⟨by repeat (first | (with_reducible first | exact HB.out | apply below_alloc | apply pw_below_drewN | apply below_drew1 | refine below_set ?_ GE526.out) | exact HB.out)⟩⟩
            · rw [if_neg c18] at H
              exact absurd H (by simp)
          case rest =>
            clear HC17
            try clear c1
            try clear p2
            try clear p5
            try clear q5
            try clear hx5
            try clear c6
            try clear c6b0
            try clear c6b1
            try clear c6b2
            try clear c10
            try clear c16
            try clear c16b0
            try clear c18
            try clear c18b0
            try clear c19
            try clear c19b0
            try clear hcz11_0
            try clear hcz11_1
            try clear hcz15_0
            try clear hcz15_1
            try clear hcz20_0
            try clear hcz20_1
            try clear hfz11_0
            try clear hfz11_1
            try clear hfz15_0
            try clear hfz15_1
            try clear hfz20_0
            try clear hfz20_1
            try clear hx530_0
            try clear hx531_0
            try clear p2
            try clear p530
            try clear p531
            try clear q530
            try clear q531
            obtain ⟨kq, x43_16, rfl, HA, HJ16, HO_7, HO_527000, HO_527001, BK526, HB⟩ := hcut
            cases kq with
            | zero => exact absurd HA.out (by simp [arboristlaw13_PlaceAfter.j1])
            | succ kj16 =>
              have H := HA.out
              clear HA
              simp only [arboristlaw13_PlaceAfter.j1] at H
              by_cases c21 : x43_16 = true
              · subst c21
                have H1 : (some false) = some r := by rw [if_pos rfl] at H; exact H
                clear H
                have H := H1
                clear H1
                exact absurd ((Option.some.inj H).trans HT_.out) (by decide)
              · replace c21 := Bool.eq_false_iff.mpr c21
                subst c21
                have H1 : (if 0 ≤ x8_1 then (if x8_1 ≤ (t527.length : Int) then ((some (t527.take (x8_1 : Int).toNat : List Int)).bind fun y532 => (if x8_1 < (t527.length : Int) then ((arboristref01_In.f kj16 y532 (rd t527 x8_1)).bind fun t537 => (if 0 ≤ (rd t527 x8_1) then (if (rd t527 x8_1) < (t523.length : Int) then (if (rd t523 (rd t527 x8_1)) ≥ 0 then ((arboristref01_In.f kj16 y532 (rd t523 (rd t527 x8_1))).bind fun t546 => (if t537 = true then (some false) else (if t546 = true then (some false) else (arboristlaw13_PlaceAfter.l0 kj16 t519 t527 (wrap64 (x8_1 + 1)) t520 t523)))) else (if t537 = true then (some false) else (arboristlaw13_PlaceAfter.l0 kj16 t519 t527 (wrap64 (x8_1 + 1)) t520 t523))) else (none)) else (none))) else (none))) else (none)) else (none)) = some r := by rw [if_neg (show ¬ (false = true) by decide)] at H; exact H
                clear H
                have H := H1
                clear H1
                by_cases c22 : 0 ≤ x8_1
                · rw [if_pos c22] at H
                  have c22b0 := eq_true c22
                  have c22b1 : decide (0 ≤ x8_1) = true := decide_eq_true c22
                  clear c22
                  by_cases c23 : x8_1 ≤ (t527.length : Int)
                  · rw [if_pos c23] at H
                    have c23b0 := eq_true c23
                    have c23b1 : decide (x8_1 ≤ (t527.length : Int)) = true := decide_eq_true c23
                    clear c23
                    obtain ⟨y532, hy532⟩ : ∃ y_ : List Int, y_ = (t527.take (x8_1 : Int).toNat) := ⟨_, rfl⟩
                    replace H : (if x8_1 < (t527.length : Int) then ((arboristref01_In.f kj16 y532 (rd t527 x8_1)).bind fun t537 => (if 0 ≤ (rd t527 x8_1) then (if (rd t527 x8_1) < (t523.length : Int) then (if (rd t523 (rd t527 x8_1)) ≥ 0 then ((arboristref01_In.f kj16 y532 (rd t523 (rd t527 x8_1))).bind fun t546 => (if t537 = true then (some false) else (if t546 = true then (some false) else (arboristlaw13_PlaceAfter.l0 kj16 t519 t527 (wrap64 (x8_1 + 1)) t520 t523)))) else (if t537 = true then (some false) else (arboristlaw13_PlaceAfter.l0 kj16 t519 t527 (wrap64 (x8_1 + 1)) t520 t523))) else (none)) else (none))) else (none)) = some r := by first | (rw [hy532]; with_reducible exact H) | (have H2_ := (Option.bind_some _ _).symm.trans H; rw [hy532]; with_reducible exact H2_) | (have H2_ := (Option.bind_some _ _).symm.trans H; with_reducible exact H2_) | with_reducible exact H | (rw [hy532]; exact H) | exact H
                    have Ny532 := Aside0.mk hy532
                    clear hy532
                    by_cases c24 : x8_1 < (t527.length : Int)
                    · rw [if_pos c24] at H
                      have c24b0 : decide (x8_1 < (t527.length : Int)) = true := decide_eq_true c24
                      clear c24
                      replace H := Option.bind_eq_some_iff.mp H
                      obtain ⟨t537, A250, H⟩ := H
                      replace H : (if 0 ≤ (rd t527 x8_1) then (if (rd t527 x8_1) < (t523.length : Int) then (if (rd t523 (rd t527 x8_1)) ≥ 0 then ((arboristref01_In.f kj16 y532 (rd t523 (rd t527 x8_1))).bind fun t546 => (if t537 = true then (some false) else (if t546 = true then (some false) else (arboristlaw13_PlaceAfter.l0 kj16 t519 t527 (wrap64 (x8_1 + 1)) t520 t523)))) else (if t537 = true then (some false) else (arboristlaw13_PlaceAfter.l0 kj16 t519 t527 (wrap64 (x8_1 + 1)) t520 t523))) else (none)) else (none)) = some r := H
                      have A25 := Aside0.mk A250
                      clear A250
                      by_cases c26 : 0 ≤ (rd t527 x8_1)
                      · rw [if_pos c26] at H
                        have c26b0 : decide (0 ≤ (rd t527 x8_1)) = true := decide_eq_true c26
                        clear c26
                        by_cases c27 : (rd t527 x8_1) < (t523.length : Int)
                        · rw [if_pos c27] at H
                          have c27b0 : decide ((rd t527 x8_1) < (t523.length : Int)) = true := decide_eq_true c27
                          clear c27
                          by_cases c28 : (rd t523 (rd t527 x8_1)) ≥ 0
                          · rw [if_pos c28] at H
                            have c28b0 : decide (0 ≤ (rd t523 (rd t527 x8_1))) = true := decide_eq_true c28
                            clear c28
                            replace H := Option.bind_eq_some_iff.mp H
                            obtain ⟨t546, A290, H⟩ := H
                            replace H : (if t537 = true then (some false) else (if t546 = true then (some false) else (arboristlaw13_PlaceAfter.l0 kj16 t519 t527 (wrap64 (x8_1 + 1)) t520 t523))) = some r := H
                            have A29 := Aside0.mk A290
                            clear A290
                            by_cases c30 : t537 = true
                            · subst c30
                              have H1 : (some false) = some r := by rw [if_pos rfl] at H; exact H
                              clear H
                              have H := H1
                              clear H1
                              exact absurd ((Option.some.inj H).trans HT_.out) (by decide)
                            · replace c30 := Bool.eq_false_iff.mpr c30
                              subst c30
                              have H1 : (if t546 = true then (some false) else (arboristlaw13_PlaceAfter.l0 kj16 t519 t527 (wrap64 (x8_1 + 1)) t520 t523)) = some r := by rw [if_neg (show ¬ (false = true) by decide)] at H; exact H
                              clear H
                              have H := H1
                              clear H1
                              by_cases c31 : t546 = true
                              · subst c31
                                have H1 : (some false) = some r := by rw [if_pos rfl] at H; exact H
                                clear H
                                have H := H1
                                clear H1
                                exact absurd ((Option.some.inj H).trans HT_.out) (by decide)
                              · replace c31 := Bool.eq_false_iff.mpr c31
                                subst c31
                                have H1 : (arboristlaw13_PlaceAfter.l0 kj16 t519 t527 (wrap64 (x8_1 + 1)) t520 t523) = some r := by rw [if_neg (show ¬ (false = true) by decide)] at H; exact H
                                clear H
                                have H := H1
                                clear H1
                                have H' := Aside0.mk H
                                clear H
                                have q32 : (x8_1 : Int) ≤ ((t527.length : Int) : Int) := of_decide_eq_true (by first | (with_reducible assumption) | assumption)
                                obtain ⟨i032, hi032, _, hsz32, _⟩ := info_parts info3
                                have hroom32 : t527.length ≤ co14 := (Kd.R_reads' HO_7.out).2.1
                                have hC32 : Kd.C (Kd.int .i64) _ Ao14 t527.length t527 := (Kd.R_reads' HO_7.out).2.2
                                have hcut32 := cut_to (P := Try.prog) 23 3 .i64 Try.underlying23 hi032 Ao14 t527.length co14 x8_1 (of_decide_eq_true (by first | (with_reducible assumption) | assumption)) q32 hroom32
                                have hr32 := Kd.C_take (m := (x8_1 : Int).toNat) hC32 (by omega)
                                have hy32 : y532.length = (x8_1 : Int).toNat := (by rw [Ny532.out, List.length_take]; omega)
                                rw [← Ny532.out] at hr32
                                rw [← hy32] at hcut32
                                have HR535 := Aside0.mk hr32
                                have HC535 := Aside0.mk (show y532.length ≤ co14 from by omega)
                                clear hr32 hC32 hroom32 hi032 hsz32
                                have KY32 := Aside0.mk hy32
                                clear hy32
                                have KL32 := Aside0.mk (show (x8_1 : Int).toNat ≤ t527.length from by omega)
                                replace q32 := eq_true q32
                                have p536 : 0 ≤ (x8_1 : Int) := of_decide_eq_true (by first | (with_reducible assumption) | assumption)
                                have q536 : x8_1 < (t527.length : Int) := of_decide_eq_true (by first | (with_reducible assumption) | assumption)
                                obtain ⟨ad536, e536, hx536_0⟩ := Kd.at_int (Kd.R_reads' HO_7.out).2.2 x8_1 p536 q536
                                cases e536
                                replace p536 := eq_true p536
                                replace q536 := eq_true q536
                                (try (have hcz33_0 : wc.cell? ⟨gb526, 0, none⟩ = some (.slice Ao10 t520.length co10) := (blk_cell BK526.out 0).trans rfl; have hcz33_1 : wc.cell? ⟨gb526, 1, none⟩ = some (.slice Ao12 t523.length co12) := (blk_cell BK526.out 1).trans rfl; have hfz33_0 := blk_frozen BK526.out 0; have hfz33_1 := blk_frozen BK526.out 1; have p538 : 0 ≤ (x8_1 : Int) := of_decide_eq_true (by first | (with_reducible assumption) | assumption); have q538 : x8_1 < (t527.length : Int) := of_decide_eq_true (by first | (with_reducible assumption) | assumption); obtain ⟨ad538, e538, hx538_0⟩ := Kd.at_int (Kd.R_reads' HO_7.out).2.2 x8_1 p538 q538; obtain rfl : ad536 = ad538 := (by injection e538); replace p538 := eq_true p538; replace q538 := eq_true q538; have p539 : 0 ≤ ((rd t527 x8_1) : Int) := of_decide_eq_true (by first | (with_reducible assumption) | assumption); have q539 : (rd t527 x8_1) < (t523.length : Int) := of_decide_eq_true (by first | (with_reducible assumption) | assumption); obtain ⟨ad539, e539, hx539_0⟩ := Kd.at_int (Kd.R_reads' HO_527001.out).2.2 (rd t527 x8_1) p539 q539; cases e539; replace p539 := eq_true p539; replace q539 := eq_true q539; have p544 : 0 ≤ (x8_1 : Int) := of_decide_eq_true (by first | (with_reducible assumption) | assumption); have q544 : x8_1 < (t527.length : Int) := of_decide_eq_true (by first | (with_reducible assumption) | assumption); obtain ⟨ad544, e544, hx544_0⟩ := Kd.at_int (Kd.R_reads' HO_7.out).2.2 x8_1 p544 q544; obtain rfl : ad536 = ad544 := (by injection e544); replace p544 := eq_true p544; replace q544 := eq_true q544; have p545 : 0 ≤ ((rd t527 x8_1) : Int) := of_decide_eq_true (by first | (with_reducible assumption) | assumption); have q545 : (rd t527 x8_1) < (t523.length : Int) := of_decide_eq_true (by first | (with_reducible assumption) | assumption); obtain ⟨ad545, e545, hx545_0⟩ := Kd.at_int (Kd.R_reads' HO_527001.out).2.2 (rd t527 x8_1) p545 q545; obtain rfl : ad539 = ad545 := (by injection e545); replace p545 := eq_true p545; replace q545 := eq_true q545))
                                go_wp2_with (first | (go_at_call 37; (with_reducible refine (arboristref01_In.calls kj16 _ _ y532 (rd t527 x8_1) false _ ?side1 ?side2 A25.out).mono ?_); (case side1 => repeat (first | exact (by repeat (first | (with_reducible exact HR535.out) | (with_reducible refine Kd.C_alloc ?_ _) | (with_reducible refine Kd.C_drewN ?_ _) | (with_reducible refine Kd.C_drew ?_) | exact HR535.out)) | (with_reducible refine Kd.C_alloc ?_ _) | (with_reducible refine Kd.C_drewN ?_ _) | (with_reducible refine Kd.C_drew ?_))); (case side2 => exact HC535.out); rintro e w' ⟨rfl, ⟨nd, rfl⟩⟩; (try first | exact ⟨rfl, _, World.drewN_drewN _ _ _⟩ | exact ⟨rfl, _, Eq.trans (World.drewN_drewN _ _ _) (congrArg (World.drewN _) (Nat.add_assoc _ _ _))⟩); all_goals (have hcz33_0 : wc.cell? ⟨gb526, 0, none⟩ = some (.slice Ao10 t520.length co10) := (blk_cell BK526.out 0).trans rfl; have hcz33_1 : wc.cell? ⟨gb526, 1, none⟩ = some (.slice Ao12 t523.length co12) := (blk_cell BK526.out 1).trans rfl; have hfz33_0 := blk_frozen BK526.out 0; have hfz33_1 := blk_frozen BK526.out 1; have p538 : 0 ≤ (x8_1 : Int) := of_decide_eq_true (by first | (with_reducible assumption) | assumption); have q538 : x8_1 < (t527.length : Int) := of_decide_eq_true (by first | (with_reducible assumption) | assumption); obtain ⟨ad538, e538, hx538_0⟩ := Kd.at_int (Kd.R_reads' HO_7.out).2.2 x8_1 p538 q538; obtain rfl : ad536 = ad538 := (by injection e538); replace p538 := eq_true p538; replace q538 := eq_true q538; have p539 : 0 ≤ ((rd t527 x8_1) : Int) := of_decide_eq_true (by first | (with_reducible assumption) | assumption); have q539 : (rd t527 x8_1) < (t523.length : Int) := of_decide_eq_true (by first | (with_reducible assumption) | assumption); obtain ⟨ad539, e539, hx539_0⟩ := Kd.at_int (Kd.R_reads' HO_527001.out).2.2 (rd t527 x8_1) p539 q539; cases e539; replace p539 := eq_true p539; replace q539 := eq_true q539; have p544 : 0 ≤ (x8_1 : Int) := of_decide_eq_true (by first | (with_reducible assumption) | assumption); have q544 : x8_1 < (t527.length : Int) := of_decide_eq_true (by first | (with_reducible assumption) | assumption); obtain ⟨ad544, e544, hx544_0⟩ := Kd.at_int (Kd.R_reads' HO_7.out).2.2 x8_1 p544 q544; obtain rfl : ad536 = ad544 := (by injection e544); replace p544 := eq_true p544; replace q544 := eq_true q544; have p545 : 0 ≤ ((rd t527 x8_1) : Int) := of_decide_eq_true (by first | (with_reducible assumption) | assumption); have q545 : (rd t527 x8_1) < (t523.length : Int) := of_decide_eq_true (by first | (with_reducible assumption) | assumption); obtain ⟨ad545, e545, hx545_0⟩ := Kd.at_int (Kd.R_reads' HO_527001.out).2.2 (rd t527 x8_1) p545 q545; obtain rfl : ad539 = ad545 := (by injection e545); replace p545 := eq_true p545; replace q545 := eq_true q545)) | (go_at_call 37; (with_reducible refine (arboristref01_In.calls kj16 _ _ y532 (rd t523 (rd t527 x8_1)) false _ ?side1 ?side2 A29.out).mono ?_); (case side1 => repeat (first | exact (by repeat (first | (with_reducible exact HR535.out) | (with_reducible refine Kd.C_alloc ?_ _) | (with_reducible refine Kd.C_drewN ?_ _) | (with_reducible refine Kd.C_drew ?_) | exact HR535.out)) | (with_reducible refine Kd.C_alloc ?_ _) | (with_reducible refine Kd.C_drewN ?_ _) | (with_reducible refine Kd.C_drew ?_))); (case side2 => exact HC535.out); rintro e w' ⟨rfl, ⟨nd, rfl⟩⟩; (try first | exact ⟨rfl, _, World.drewN_drewN _ _ _⟩ | exact ⟨rfl, _, Eq.trans (World.drewN_drewN _ _ _) (congrArg (World.drewN _) (Nat.add_assoc _ _ _))⟩)))
                                repeat (go_quiet (first | (go_at_call 37; (with_reducible refine (arboristref01_In.calls kj16 _ _ y532 (rd t527 x8_1) false _ ?side1 ?side2 A25.out).mono ?_); (case side1 => repeat (first | exact (by repeat (first | (with_reducible exact HR535.out) | (with_reducible refine Kd.C_alloc ?_ _) | (with_reducible refine Kd.C_drewN ?_ _) | (with_reducible refine Kd.C_drew ?_) | exact HR535.out)) | (with_reducible refine Kd.C_alloc ?_ _) | (with_reducible refine Kd.C_drewN ?_ _) | (with_reducible refine Kd.C_drew ?_))); (case side2 => exact HC535.out); rintro e w' ⟨rfl, ⟨nd, rfl⟩⟩; (try first | exact ⟨rfl, _, World.drewN_drewN _ _ _⟩ | exact ⟨rfl, _, Eq.trans (World.drewN_drewN _ _ _) (congrArg (World.drewN _) (Nat.add_assoc _ _ _))⟩); all_goals (have hcz33_0 : wc.cell? ⟨gb526, 0, none⟩ = some (.slice Ao10 t520.length co10) := (blk_cell BK526.out 0).trans rfl; have hcz33_1 : wc.cell? ⟨gb526, 1, none⟩ = some (.slice Ao12 t523.length co12) := (blk_cell BK526.out 1).trans rfl; have hfz33_0 := blk_frozen BK526.out 0; have hfz33_1 := blk_frozen BK526.out 1; have p538 : 0 ≤ (x8_1 : Int) := of_decide_eq_true (by first | (with_reducible assumption) | assumption); have q538 : x8_1 < (t527.length : Int) := of_decide_eq_true (by first | (with_reducible assumption) | assumption); obtain ⟨ad538, e538, hx538_0⟩ := Kd.at_int (Kd.R_reads' HO_7.out).2.2 x8_1 p538 q538; obtain rfl : ad536 = ad538 := (by injection e538); replace p538 := eq_true p538; replace q538 := eq_true q538; have p539 : 0 ≤ ((rd t527 x8_1) : Int) := of_decide_eq_true (by first | (with_reducible assumption) | assumption); have q539 : (rd t527 x8_1) < (t523.length : Int) := of_decide_eq_true (by first | (with_reducible assumption) | assumption); obtain ⟨ad539, e539, hx539_0⟩ := Kd.at_int (Kd.R_reads' HO_527001.out).2.2 (rd t527 x8_1) p539 q539; cases e539; replace p539 := eq_true p539; replace q539 := eq_true q539; have p544 : 0 ≤ (x8_1 : Int) := of_decide_eq_true (by first | (with_reducible assumption) | assumption); have q544 : x8_1 < (t527.length : Int) := of_decide_eq_true (by first | (with_reducible assumption) | assumption); obtain ⟨ad544, e544, hx544_0⟩ := Kd.at_int (Kd.R_reads' HO_7.out).2.2 x8_1 p544 q544; obtain rfl : ad536 = ad544 := (by injection e544); replace p544 := eq_true p544; replace q544 := eq_true q544; have p545 : 0 ≤ ((rd t527 x8_1) : Int) := of_decide_eq_true (by first | (with_reducible assumption) | assumption); have q545 : (rd t527 x8_1) < (t523.length : Int) := of_decide_eq_true (by first | (with_reducible assumption) | assumption); obtain ⟨ad545, e545, hx545_0⟩ := Kd.at_int (Kd.R_reads' HO_527001.out).2.2 (rd t527 x8_1) p545 q545; obtain rfl : ad539 = ad545 := (by injection e545); replace p545 := eq_true p545; replace q545 := eq_true q545)) | (go_at_call 37; (with_reducible refine (arboristref01_In.calls kj16 _ _ y532 (rd t523 (rd t527 x8_1)) false _ ?side1 ?side2 A29.out).mono ?_); (case side1 => repeat (first | exact (by repeat (first | (with_reducible exact HR535.out) | (with_reducible refine Kd.C_alloc ?_ _) | (with_reducible refine Kd.C_drewN ?_ _) | (with_reducible refine Kd.C_drew ?_) | exact HR535.out)) | (with_reducible refine Kd.C_alloc ?_ _) | (with_reducible refine Kd.C_drewN ?_ _) | (with_reducible refine Kd.C_drew ?_))); (case side2 => exact HC535.out); rintro e w' ⟨rfl, ⟨nd, rfl⟩⟩; (try first | exact ⟨rfl, _, World.drewN_drewN _ _ _⟩ | exact ⟨rfl, _, Eq.trans (World.drewN_drewN _ _ _) (congrArg (World.drewN _) (Nat.add_assoc _ _ _))⟩))); try go_wp2_with (first | (go_at_call 37; (with_reducible refine (arboristref01_In.calls kj16 _ _ y532 (rd t527 x8_1) false _ ?side1 ?side2 A25.out).mono ?_); (case side1 => repeat (first | exact (by repeat (first | (with_reducible exact HR535.out) | (with_reducible refine Kd.C_alloc ?_ _) | (with_reducible refine Kd.C_drewN ?_ _) | (with_reducible refine Kd.C_drew ?_) | exact HR535.out)) | (with_reducible refine Kd.C_alloc ?_ _) | (with_reducible refine Kd.C_drewN ?_ _) | (with_reducible refine Kd.C_drew ?_))); (case side2 => exact HC535.out); rintro e w' ⟨rfl, ⟨nd, rfl⟩⟩; (try first | exact ⟨rfl, _, World.drewN_drewN _ _ _⟩ | exact ⟨rfl, _, Eq.trans (World.drewN_drewN _ _ _) (congrArg (World.drewN _) (Nat.add_assoc _ _ _))⟩); all_goals (have hcz33_0 : wc.cell? ⟨gb526, 0, none⟩ = some (.slice Ao10 t520.length co10) := (blk_cell BK526.out 0).trans rfl; have hcz33_1 : wc.cell? ⟨gb526, 1, none⟩ = some (.slice Ao12 t523.length co12) := (blk_cell BK526.out 1).trans rfl; have hfz33_0 := blk_frozen BK526.out 0; have hfz33_1 := blk_frozen BK526.out 1; have p538 : 0 ≤ (x8_1 : Int) := of_decide_eq_true (by first | (with_reducible assumption) | assumption); have q538 : x8_1 < (t527.length : Int) := of_decide_eq_true (by first | (with_reducible assumption) | assumption); obtain ⟨ad538, e538, hx538_0⟩ := Kd.at_int (Kd.R_reads' HO_7.out).2.2 x8_1 p538 q538; obtain rfl : ad536 = ad538 := (by injection e538); replace p538 := eq_true p538; replace q538 := eq_true q538; have p539 : 0 ≤ ((rd t527 x8_1) : Int) := of_decide_eq_true (by first | (with_reducible assumption) | assumption); have q539 : (rd t527 x8_1) < (t523.length : Int) := of_decide_eq_true (by first | (with_reducible assumption) | assumption); obtain ⟨ad539, e539, hx539_0⟩ := Kd.at_int (Kd.R_reads' HO_527001.out).2.2 (rd t527 x8_1) p539 q539; cases e539; replace p539 := eq_true p539; replace q539 := eq_true q539; have p544 : 0 ≤ (x8_1 : Int) := of_decide_eq_true (by first | (with_reducible assumption) | assumption); have q544 : x8_1 < (t527.length : Int) := of_decide_eq_true (by first | (with_reducible assumption) | assumption); obtain ⟨ad544, e544, hx544_0⟩ := Kd.at_int (Kd.R_reads' HO_7.out).2.2 x8_1 p544 q544; obtain rfl : ad536 = ad544 := (by injection e544); replace p544 := eq_true p544; replace q544 := eq_true q544; have p545 : 0 ≤ ((rd t527 x8_1) : Int) := of_decide_eq_true (by first | (with_reducible assumption) | assumption); have q545 : (rd t527 x8_1) < (t523.length : Int) := of_decide_eq_true (by first | (with_reducible assumption) | assumption); obtain ⟨ad545, e545, hx545_0⟩ := Kd.at_int (Kd.R_reads' HO_527001.out).2.2 (rd t527 x8_1) p545 q545; obtain rfl : ad539 = ad545 := (by injection e545); replace p545 := eq_true p545; replace q545 := eq_true q545)) | (go_at_call 37; (with_reducible refine (arboristref01_In.calls kj16 _ _ y532 (rd t523 (rd t527 x8_1)) false _ ?side1 ?side2 A29.out).mono ?_); (case side1 => repeat (first | exact (by repeat (first | (with_reducible exact HR535.out) | (with_reducible refine Kd.C_alloc ?_ _) | (with_reducible refine Kd.C_drewN ?_ _) | (with_reducible refine Kd.C_drew ?_) | exact HR535.out)) | (with_reducible refine Kd.C_alloc ?_ _) | (with_reducible refine Kd.C_drewN ?_ _) | (with_reducible refine Kd.C_drew ?_))); (case side2 => exact HC535.out); rintro e w' ⟨rfl, ⟨nd, rfl⟩⟩; (try first | exact ⟨rfl, _, World.drewN_drewN _ _ _⟩ | exact ⟨rfl, _, Eq.trans (World.drewN_drewN _ _ _) (congrArg (World.drewN _) (Nat.add_assoc _ _ _))⟩))))
                                go_roundg kj16
                                case measure => have := HK1.out; have := HJ16.out; omega
                                case rel => exact ⟨(wrap64 (x8_1 + 1)), (by first | rfl | (simp; done) | (simp [*]; done)), H', ⟨by have := HK1.out; have := HJ16.out; omega⟩, ⟨by (with_reducible repeat (first | apply Kd.R_alloc | apply Kd.R_drewN | apply Kd.R_drew)); exact HO_7.out⟩, ⟨by (with_reducible repeat (first | apply Kd.S_alloc | apply Kd.S_drewN | apply Kd.S_drew)); exact HO_527000.out⟩, ⟨by (with_reducible repeat (first | apply Kd.R_alloc | apply Kd.R_drewN | apply Kd.R_drew)); exact HO_527001.out⟩, ⟨by (with_reducible repeat (first | refine blk_drewN ?_ _ | refine blk_drew ?_ | refine blk_alloc ?_ _)); exact BK526.out⟩, ⟨by repeat (first | (with_reducible first | exact HB.out | apply below_alloc | apply pw_below_drewN | apply below_drew1 | refine below_set ?_ GE526.out) | exact HB.out)⟩⟩
                          · rw [if_neg c28] at H
                            have c28b0 : decide (0 ≤ (rd t523 (rd t527 x8_1))) = false := decide_eq_false c28
                            clear c28
                            by_cases c34 : t537 = true
                            · subst c34
                              have H1 : (some false) = some r := by rw [if_pos rfl] at H; exact H
                              clear H
                              have H := H1
                              clear H1
                              exact absurd ((Option.some.inj H).trans HT_.out) (by decide)
                            · replace c34 := Bool.eq_false_iff.mpr c34
                              subst c34
                              have H1 : (arboristlaw13_PlaceAfter.l0 kj16 t519 t527 (wrap64 (x8_1 + 1)) t520 t523) = some r := by rw [if_neg (show ¬ (false = true) by decide)] at H; exact H
                              clear H
                              have H := H1
                              clear H1
                              have H' := Aside0.mk H
                              clear H
                              have q35 : (x8_1 : Int) ≤ ((t527.length : Int) : Int) := of_decide_eq_true (by first | (with_reducible assumption) | assumption)
                              obtain ⟨i035, hi035, _, hsz35, _⟩ := info_parts info3
                              have hroom35 : t527.length ≤ co14 := (Kd.R_reads' HO_7.out).2.1
                              have hC35 : Kd.C (Kd.int .i64) _ Ao14 t527.length t527 := (Kd.R_reads' HO_7.out).2.2
                              have hcut35 := cut_to (P := Try.prog) 23 3 .i64 Try.underlying23 hi035 Ao14 t527.length co14 x8_1 (of_decide_eq_true (by first | (with_reducible assumption) | assumption)) q35 hroom35
                              have hr35 := Kd.C_take (m := (x8_1 : Int).toNat) hC35 (by omega)
                              have hy35 : y532.length = (x8_1 : Int).toNat := (by rw [Ny532.out, List.length_take]; omega)
                              rw [← Ny532.out] at hr35
                              rw [← hy35] at hcut35
                              have HR535 := Aside0.mk hr35
                              have HC535 := Aside0.mk (show y532.length ≤ co14 from by omega)
                              clear hr35 hC35 hroom35 hi035 hsz35
                              have KY35 := Aside0.mk hy35
                              clear hy35
                              have KL35 := Aside0.mk (show (x8_1 : Int).toNat ≤ t527.length from by omega)
                              replace q35 := eq_true q35
                              have p536 : 0 ≤ (x8_1 : Int) := of_decide_eq_true (by first | (with_reducible assumption) | assumption)
                              have q536 : x8_1 < (t527.length : Int) := of_decide_eq_true (by first | (with_reducible assumption) | assumption)
                              obtain ⟨ad536, e536, hx536_0⟩ := Kd.at_int (Kd.R_reads' HO_7.out).2.2 x8_1 p536 q536
                              cases e536
                              replace p536 := eq_true p536
                              replace q536 := eq_true q536
                              (try (have hcz36_0 : wc.cell? ⟨gb526, 0, none⟩ = some (.slice Ao10 t520.length co10) := (blk_cell BK526.out 0).trans rfl; have hcz36_1 : wc.cell? ⟨gb526, 1, none⟩ = some (.slice Ao12 t523.length co12) := (blk_cell BK526.out 1).trans rfl; have hfz36_0 := blk_frozen BK526.out 0; have hfz36_1 := blk_frozen BK526.out 1; have p538 : 0 ≤ (x8_1 : Int) := of_decide_eq_true (by first | (with_reducible assumption) | assumption); have q538 : x8_1 < (t527.length : Int) := of_decide_eq_true (by first | (with_reducible assumption) | assumption); obtain ⟨ad538, e538, hx538_0⟩ := Kd.at_int (Kd.R_reads' HO_7.out).2.2 x8_1 p538 q538; obtain rfl : ad536 = ad538 := (by injection e538); replace p538 := eq_true p538; replace q538 := eq_true q538; have p539 : 0 ≤ ((rd t527 x8_1) : Int) := of_decide_eq_true (by first | (with_reducible assumption) | assumption); have q539 : (rd t527 x8_1) < (t523.length : Int) := of_decide_eq_true (by first | (with_reducible assumption) | assumption); obtain ⟨ad539, e539, hx539_0⟩ := Kd.at_int (Kd.R_reads' HO_527001.out).2.2 (rd t527 x8_1) p539 q539; cases e539; replace p539 := eq_true p539; replace q539 := eq_true q539))
                              go_wp2_with (first | (go_at_call 37; (with_reducible refine (arboristref01_In.calls kj16 _ _ y532 (rd t527 x8_1) false _ ?side1 ?side2 A25.out).mono ?_); (case side1 => repeat (first | exact (by repeat (first | (with_reducible exact HR535.out) | (with_reducible refine Kd.C_alloc ?_ _) | (with_reducible refine Kd.C_drewN ?_ _) | (with_reducible refine Kd.C_drew ?_) | exact HR535.out)) | (with_reducible refine Kd.C_alloc ?_ _) | (with_reducible refine Kd.C_drewN ?_ _) | (with_reducible refine Kd.C_drew ?_))); (case side2 => exact HC535.out); rintro e w' ⟨rfl, ⟨nd, rfl⟩⟩; (try first | exact ⟨rfl, _, World.drewN_drewN _ _ _⟩ | exact ⟨rfl, _, Eq.trans (World.drewN_drewN _ _ _) (congrArg (World.drewN _) (Nat.add_assoc _ _ _))⟩); all_goals (have hcz36_0 : wc.cell? ⟨gb526, 0, none⟩ = some (.slice Ao10 t520.length co10) := (blk_cell BK526.out 0).trans rfl; have hcz36_1 : wc.cell? ⟨gb526, 1, none⟩ = some (.slice Ao12 t523.length co12) := (blk_cell BK526.out 1).trans rfl; have hfz36_0 := blk_frozen BK526.out 0; have hfz36_1 := blk_frozen BK526.out 1; have p538 : 0 ≤ (x8_1 : Int) := of_decide_eq_true (by first | (with_reducible assumption) | assumption); have q538 : x8_1 < (t527.length : Int) := of_decide_eq_true (by first | (with_reducible assumption) | assumption); obtain ⟨ad538, e538, hx538_0⟩ := Kd.at_int (Kd.R_reads' HO_7.out).2.2 x8_1 p538 q538; obtain rfl : ad536 = ad538 := (by injection e538); replace p538 := eq_true p538; replace q538 := eq_true q538; have p539 : 0 ≤ ((rd t527 x8_1) : Int) := of_decide_eq_true (by first | (with_reducible assumption) | assumption); have q539 : (rd t527 x8_1) < (t523.length : Int) := of_decide_eq_true (by first | (with_reducible assumption) | assumption); obtain ⟨ad539, e539, hx539_0⟩ := Kd.at_int (Kd.R_reads' HO_527001.out).2.2 (rd t527 x8_1) p539 q539; cases e539; replace p539 := eq_true p539; replace q539 := eq_true q539)))
                              repeat (go_quiet (first | (go_at_call 37; (with_reducible refine (arboristref01_In.calls kj16 _ _ y532 (rd t527 x8_1) false _ ?side1 ?side2 A25.out).mono ?_); (case side1 => repeat (first | exact (by repeat (first | (with_reducible exact HR535.out) | (with_reducible refine Kd.C_alloc ?_ _) | (with_reducible refine Kd.C_drewN ?_ _) | (with_reducible refine Kd.C_drew ?_) | exact HR535.out)) | (with_reducible refine Kd.C_alloc ?_ _) | (with_reducible refine Kd.C_drewN ?_ _) | (with_reducible refine Kd.C_drew ?_))); (case side2 => exact HC535.out); rintro e w' ⟨rfl, ⟨nd, rfl⟩⟩; (try first | exact ⟨rfl, _, World.drewN_drewN _ _ _⟩ | exact ⟨rfl, _, Eq.trans (World.drewN_drewN _ _ _) (congrArg (World.drewN _) (Nat.add_assoc _ _ _))⟩); all_goals (have hcz36_0 : wc.cell? ⟨gb526, 0, none⟩ = some (.slice Ao10 t520.length co10) := (blk_cell BK526.out 0).trans rfl; have hcz36_1 : wc.cell? ⟨gb526, 1, none⟩ = some (.slice Ao12 t523.length co12) := (blk_cell BK526.out 1).trans rfl; have hfz36_0 := blk_frozen BK526.out 0; have hfz36_1 := blk_frozen BK526.out 1; have p538 : 0 ≤ (x8_1 : Int) := of_decide_eq_true (by first | (with_reducible assumption) | assumption); have q538 : x8_1 < (t527.length : Int) := of_decide_eq_true (by first | (with_reducible assumption) | assumption); obtain ⟨ad538, e538, hx538_0⟩ := Kd.at_int (Kd.R_reads' HO_7.out).2.2 x8_1 p538 q538; obtain rfl : ad536 = ad538 := (by injection e538); replace p538 := eq_true p538; replace q538 := eq_true q538; have p539 : 0 ≤ ((rd t527 x8_1) : Int) := of_decide_eq_true (by first | (with_reducible assumption) | assumption); have q539 : (rd t527 x8_1) < (t523.length : Int) := of_decide_eq_true (by first | (with_reducible assumption) | assumption); obtain ⟨ad539, e539, hx539_0⟩ := Kd.at_int (Kd.R_reads' HO_527001.out).2.2 (rd t527 x8_1) p539 q539; cases e539; replace p539 := eq_true p539; replace q539 := eq_true q539))); try go_wp2_with (first | (go_at_call 37; (with_reducible refine (arboristref01_In.calls kj16 _ _ y532 (rd t527 x8_1) false _ ?side1 ?side2 A25.out).mono ?_); (case side1 => repeat (first | exact (by repeat (first | (with_reducible exact HR535.out) | (with_reducible refine Kd.C_alloc ?_ _) | (with_reducible refine Kd.C_drewN ?_ _) | (with_reducible refine Kd.C_drew ?_) | exact HR535.out)) | (with_reducible refine Kd.C_alloc ?_ _) | (with_reducible refine Kd.C_drewN ?_ _) | (with_reducible refine Kd.C_drew ?_))); (case side2 => exact HC535.out); rintro e w' ⟨rfl, ⟨nd, rfl⟩⟩; (try first | exact ⟨rfl, _, World.drewN_drewN _ _ _⟩ | exact ⟨rfl, _, Eq.trans (World.drewN_drewN _ _ _) (congrArg (World.drewN _) (Nat.add_assoc _ _ _))⟩); all_goals (have hcz36_0 : wc.cell? ⟨gb526, 0, none⟩ = some (.slice Ao10 t520.length co10) := (blk_cell BK526.out 0).trans rfl; have hcz36_1 : wc.cell? ⟨gb526, 1, none⟩ = some (.slice Ao12 t523.length co12) := (blk_cell BK526.out 1).trans rfl; have hfz36_0 := blk_frozen BK526.out 0; have hfz36_1 := blk_frozen BK526.out 1; have p538 : 0 ≤ (x8_1 : Int) := of_decide_eq_true (by first | (with_reducible assumption) | assumption); have q538 : x8_1 < (t527.length : Int) := of_decide_eq_true (by first | (with_reducible assumption) | assumption); obtain ⟨ad538, e538, hx538_0⟩ := Kd.at_int (Kd.R_reads' HO_7.out).2.2 x8_1 p538 q538; obtain rfl : ad536 = ad538 := (by injection e538); replace p538 := eq_true p538; replace q538 := eq_true q538; have p539 : 0 ≤ ((rd t527 x8_1) : Int) := of_decide_eq_true (by first | (with_reducible assumption) | assumption); have q539 : (rd t527 x8_1) < (t523.length : Int) := of_decide_eq_true (by first | (with_reducible assumption) | assumption); obtain ⟨ad539, e539, hx539_0⟩ := Kd.at_int (Kd.R_reads' HO_527001.out).2.2 (rd t527 x8_1) p539 q539; cases e539; replace p539 := eq_true p539; replace q539 := eq_true q539))))
                              go_roundg kj16
                              case measure => have := HK1.out; have := HJ16.out; omega
                              case rel => exact ⟨(wrap64 (x8_1 + 1)), (by first | rfl | (simp; done) | (simp [*]; done)), H', ⟨by have := HK1.out; have := HJ16.out; omega⟩, ⟨by (with_reducible repeat (first | apply Kd.R_alloc | apply Kd.R_drewN | apply Kd.R_drew)); exact HO_7.out⟩, ⟨by (with_reducible repeat (first | apply Kd.S_alloc | apply Kd.S_drewN | apply Kd.S_drew)); exact HO_527000.out⟩, ⟨by (with_reducible repeat (first | apply Kd.R_alloc | apply Kd.R_drewN | apply Kd.R_drew)); exact HO_527001.out⟩, ⟨by (with_reducible repeat (first | refine blk_drewN ?_ _ | refine blk_drew ?_ | refine blk_alloc ?_ _)); exact BK526.out⟩, ⟨by repeat (first | (with_reducible first | exact HB.out | apply below_alloc | apply pw_below_drewN | apply below_drew1 | refine below_set ?_ GE526.out) | exact HB.out)⟩⟩
                        · rw [if_neg c27] at H
                          exact absurd H (by simp)
                      · rw [if_neg c26] at H
                        exact absurd H (by simp)
                    · rw [if_neg c24] at H
                      exact absurd H (by simp)
                  · rw [if_neg c23] at H
                    exact absurd H (by simp)
                · rw [if_neg c22] at H
                  exact absurd H (by simp)
        · rw [if_neg c16] at H
          have c16b0 : decide (x8_1 < (t527.length : Int)) = false := decide_eq_false c16
          clear c16
          obtain rfl := Option.some.inj H
          go_wp2
          repeat (go_quiet (fail); try go_wp2)
          go_ret
          exact ⟨by first | rfl | (simp [errW_none, errW_some] <;> rfl) | (simp [*, errW_none, errW_some] <;> rfl), by repeat (first | (with_reducible first | exact HB.out | apply below_alloc | apply pw_below_drewN | apply below_drew1 | refine below_set ?_ GE526.out) | exact HB.out)⟩
  · rw [if_neg c6] at H
    have c6b0 : ((t527.length : Int) == (t520.length : Int)) = false := beq_eq_false_iff_ne.mpr c6
    have c6b1 : ((t527.length : Int) != (t520.length : Int)) = true := bne_iff_ne.mpr c6
    have c6b2 : (t527.length == t520.length) = false := by first | simpa using c6 | (simp at c6 ⊢; omega)
    exact absurd ((Option.some.inj H).trans HT_.out) (by decide)

/-- THE ONE PURE STATEMENT of arboristlaw13_PlaceAfter. -/
def arboristlaw13_PlaceAfter.Pure : Prop := ∀ (l0 : List Int) (l1 : List (List Int)), (l0.length ≤ maxLen ∧ ∀ z0 ∈ l0, (Lit.int .i64 z0).wf = true) → (l1.length ≤ maxLen ∧ ∀ z0 ∈ l1, (z0.length ≤ maxLen ∧ ∀ z1 ∈ z0, (Lit.int .i64 z1).wf = true)) → ∃ k, arboristlaw13_PlaceAfter.f k l0 l1 = some true

end Go.Proofs.Ytpmfdggbccbfaaa.Pr
