-- Printed by a program of this session's own (wip/tools/pp.py) over the kit's print.py; Lean checks it.
import Derived.Test.YtbdlelojlnhhfaaDoorPr0
import Derived.Test.YtbdlelojlnhhfaaDoorPr29
import Derived.Test.YtbdlelojlnhhfaaDoorPr32
import Derived.Test.YtbdlelojlnhhfaaDoorPr35
namespace Go.Proofs.YtbdlelojlnhhfaaDoor.Pr
open Go.RowKit Go.Proofs.YtbdlelojlnhhfaaDoorW.PrintWords Go.Proofs.YtbdlelojlnhhfaaDoorW.PrintLast Go.Proofs.YtbdlelojlnhhfaaDoorW.PrintMore
attribute [local go_sem] max2_int min2_int max_two min_two max_three min_three max_four min_four   -- for this text's walks alone
set_option linter.unusedVariables false
set_option linter.unusedSimpArgs false

/-! ### arboristlaw11_DecompWhole: function 4 -/
mutual
def arboristlaw11_DecompWhole.l0 : Nat → Int → Bool → List Int → List (List Bool) → Int → Int → List (List Int) → List Int → Option (Bool)
  | 0, _, _, _, _, _, _, _, _ => none
  | k + 1, x0, x5, x6, x7, x9, x10, x421000, x421001 => if x10 < x0 then (arboristlaw11_DecompWhole.l1 k x0 x5 x6 x7 x9 x10 0 x421000 x421001) else ((arboristref08_Graph.f k x7).bind fun t425 => ((decomp_Build.f t425 x6).bind fun bt428 => (if bt428.2.2 = 0 then (if x9 = 0 then (if (bt428.1.length : Int) = 1 then (if 0 < (bt428.1.length : Int) then (if ((rd_L1 bt428.1 0).length : Int) = x0 then (if (x421000.length : Int) = x0 then (arboristlaw11_DecompWhole.j2 k x0 x5 x6 ((x421001.length : Int) != x0) x421000 x421001 bt428.1 bt428.2.1) else (arboristlaw11_DecompWhole.j2 k x0 x5 x6 true x421000 x421001 bt428.1 bt428.2.1)) else (arboristlaw11_DecompWhole.j2 k x0 x5 x6 true x421000 x421001 bt428.1 bt428.2.1)) else (none)) else (arboristlaw11_DecompWhole.j2 k x0 x5 x6 true x421000 x421001 bt428.1 bt428.2.1)) else (arboristlaw11_DecompWhole.j2 k x0 x5 x6 true x421000 x421001 bt428.1 bt428.2.1)) else (arboristlaw11_DecompWhole.j2 k x0 x5 x6 true x421000 x421001 bt428.1 bt428.2.1))))
def arboristlaw11_DecompWhole.l1 : Nat → Int → Bool → List Int → List (List Bool) → Int → Int → Int → List (List Int) → List Int → Option (Bool)
  | 0, _, _, _, _, _, _, _, _, _ => none
  | k + 1, x0, x5, x6, x7, x9, x10, x11, x421000, x421001 => if x11 < x0 then (if 0 ≤ x10 then (if x10 < (x7.length : Int) then (if 0 ≤ x11 then (if x11 < ((rd_L8 x7 x10).length : Int) then (arboristlaw11_DecompWhole.l1 k x0 x5 x6 (x7.set (x10 : Int).toNat ((rd_L8 x7 x10).set (x11 : Int).toNat (x10 != x11))) x9 x10 (wrap64 (x11 + 1)) x421000 x421001) else (none)) else (none)) else (none)) else (none)) else (arboristlaw11_DecompWhole.l0 k x0 x5 x6 x7 x9 (wrap64 (x10 + 1)) x421000 x421001)
def arboristlaw11_DecompWhole.j2 : Nat → Int → Bool → List Int → Bool → List (List Int) → List Int → List (List Int) → List Int → Option (Bool)
  | 0, _, _, _, _, _, _, _, _ => none
  | k + 1, x0, x5, x6, x93, x421000, x421001, x436000, x436001 => if x93 = true then (some false) else (arboristlaw11_DecompWhole.l2 k x0 x5 x6 0 x421000 x421001 x436000 x436001)
def arboristlaw11_DecompWhole.l2 : Nat → Int → Bool → List Int → Int → List (List Int) → List Int → List (List Int) → List Int → Option (Bool)
  | 0, _, _, _, _, _, _, _, _ => none
  | k + 1, x0, x5, x6, x14, x421000, x421001, x436000, x436001 => if x14 < x0 then (if x14 = 0 then (if 0 < (x436000.length : Int) then (if 0 ≤ x14 then (if x14 < ((rd_L1 x436000 0).length : Int) then (if (rd (rd_L1 x436000 0) x14) = x14 then (if x14 < (x421000.length : Int) then (if ((rd_L1 x421000 x14).length : Int) = 1 then (if 0 < ((rd_L1 x421000 x14).length : Int) then (if x14 < (x6.length : Int) then (if (rd (rd_L1 x421000 x14) 0) = (rd x6 x14) then (if x14 < (x421001.length : Int) then (if (rd x421001 x14) = (-1) then (arboristlaw11_DecompWhole.l2 k x0 x5 x6 (wrap64 (x14 + 1)) x421000 x421001 x436000 x436001) else (some false)) else (none)) else (some false)) else (none)) else (none)) else (some false)) else (none)) else (some false)) else (none)) else (none)) else (none)) else (if 0 < (x436000.length : Int) then (if 0 ≤ x14 then (if x14 < ((rd_L1 x436000 0).length : Int) then (if (rd (rd_L1 x436000 0) x14) = x14 then (if x14 < (x421000.length : Int) then (if ((rd_L1 x421000 x14).length : Int) = 1 then (if 0 < ((rd_L1 x421000 x14).length : Int) then (if x14 < (x6.length : Int) then (if (rd (rd_L1 x421000 x14) 0) = (rd x6 x14) then (if x14 < (x421001.length : Int) then (if (rd x421001 x14) = 0 then (arboristlaw11_DecompWhole.l2 k x0 x5 x6 (wrap64 (x14 + 1)) x421000 x421001 x436000 x436001) else (some false)) else (none)) else (some false)) else (none)) else (none)) else (some false)) else (none)) else (some false)) else (none)) else (none)) else (none))) else (if x5 = true then (if (x436001.length : Int) = 1 then (if 0 < (x436001.length : Int) then (some ((rd x436001 0) == (-1))) else (none)) else (some false)) else (some false))
end
def arboristlaw11_DecompWhole.f (k : Nat) (a0 : Int) (l1 : List Int) : Option (Bool) := (arboristlaw11_shown.f).bind fun t403 => ((arboristlaw11_given.f k (wrap64 (1 + (Int.tmod (Go.bits .and .i64 a0 65535) 12))) l1).bind fun t404 => ((arboristref08_Empty.f k (wrap64 (1 + (Int.tmod (Go.bits .and .i64 a0 65535) 12)))).bind fun t407 => ((arboristref08_Graph.f k t407).bind fun t410 => ((decomp_Build.f t410 t404).bind fun bt413 => (arboristlaw11_DecompWhole.l0 k (wrap64 (1 + (Int.tmod (Go.bits .and .i64 a0 65535) 12))) t403 t404 t407 bt413.2.2 0 bt413.1 bt413.2.1)))))
theorem arboristlaw11_DecompWhole.mono_l : ∀ k, (∀ y0 y1 y2 y3 y4 y5 y6 y7, LeO (arboristlaw11_DecompWhole.l0 k y0 y1 y2 y3 y4 y5 y6 y7) (arboristlaw11_DecompWhole.l0 (k + 1) y0 y1 y2 y3 y4 y5 y6 y7)) ∧ (∀ y0 y1 y2 y3 y4 y5 y6 y7 y8, LeO (arboristlaw11_DecompWhole.l1 k y0 y1 y2 y3 y4 y5 y6 y7 y8) (arboristlaw11_DecompWhole.l1 (k + 1) y0 y1 y2 y3 y4 y5 y6 y7 y8)) ∧ (∀ y0 y1 y2 y3 y4 y5 y6 y7, LeO (arboristlaw11_DecompWhole.j2 k y0 y1 y2 y3 y4 y5 y6 y7) (arboristlaw11_DecompWhole.j2 (k + 1) y0 y1 y2 y3 y4 y5 y6 y7)) ∧ (∀ y0 y1 y2 y3 y4 y5 y6 y7, LeO (arboristlaw11_DecompWhole.l2 k y0 y1 y2 y3 y4 y5 y6 y7) (arboristlaw11_DecompWhole.l2 (k + 1) y0 y1 y2 y3 y4 y5 y6 y7))
  | 0 => ⟨fun _ _ _ _ _ _ _ _ r h => by simp [arboristlaw11_DecompWhole.l0] at h, fun _ _ _ _ _ _ _ _ _ r h => by simp [arboristlaw11_DecompWhole.l1] at h, fun _ _ _ _ _ _ _ _ r h => by simp [arboristlaw11_DecompWhole.j2] at h, fun _ _ _ _ _ _ _ _ r h => by simp [arboristlaw11_DecompWhole.l2] at h⟩
  | k + 1 => by
    obtain ⟨ih0, ih1, ih2, ih3⟩ := arboristlaw11_DecompWhole.mono_l k
    refine ⟨?_, ?_, ?_, ?_⟩
    all_goals intros
    all_goals (first | unfold arboristlaw11_DecompWhole.l0 | unfold arboristlaw11_DecompWhole.l1 | unfold arboristlaw11_DecompWhole.j2 | unfold arboristlaw11_DecompWhole.l2)
    all_goals repeat' first
    | (with_reducible exact ih0 _ _ _ _ _ _ _ _)
    | (with_reducible exact ih1 _ _ _ _ _ _ _ _ _)
    | (with_reducible exact ih2 _ _ _ _ _ _ _ _)
    | (with_reducible exact ih3 _ _ _ _ _ _ _ _)
    | (with_reducible exact arboristlaw11_given.mono _ _ _)
    | (with_reducible exact arboristref08_Empty.mono _ _)
    | (with_reducible exact arboristref08_Graph.mono _ _)
    | (with_reducible exact LeO.refl _)
    | (with_reducible exact LeO.none _)
    | (with_reducible refine LeO.ite ?_ ?_)
    | (with_reducible refine LeO.bind ?_ (fun _ => ?_))
    | exact ih0 _ _ _ _ _ _ _ _
    | exact ih1 _ _ _ _ _ _ _ _ _
    | exact ih2 _ _ _ _ _ _ _ _
    | exact ih3 _ _ _ _ _ _ _ _
    | exact arboristlaw11_given.mono _ _ _
    | exact arboristref08_Empty.mono _ _
    | exact arboristref08_Graph.mono _ _
    | exact LeO.none _
    | refine LeO.ite ?_ ?_
    | refine LeO.bind ?_ (fun _ => ?_)
theorem arboristlaw11_DecompWhole.mono : ∀ a0 a1 k, LeO (arboristlaw11_DecompWhole.f k a0 a1) (arboristlaw11_DecompWhole.f (k + 1) a0 a1) := by
  intro a0 a1 k
  obtain ⟨ih0, ih1, ih2, ih3⟩ := arboristlaw11_DecompWhole.mono_l k
  unfold arboristlaw11_DecompWhole.f
  repeat' first
      | (with_reducible exact ih0 _ _ _ _ _ _ _ _)
      | (with_reducible exact ih1 _ _ _ _ _ _ _ _ _)
      | (with_reducible exact ih2 _ _ _ _ _ _ _ _)
      | (with_reducible exact ih3 _ _ _ _ _ _ _ _)
      | (with_reducible exact arboristlaw11_given.mono _ _ _)
      | (with_reducible exact arboristref08_Empty.mono _ _)
      | (with_reducible exact arboristref08_Graph.mono _ _)
      | (with_reducible exact LeO.refl _)
      | (with_reducible exact LeO.none _)
      | (with_reducible refine LeO.ite ?_ ?_)
      | (with_reducible refine LeO.bind ?_ (fun _ => ?_))
      | exact ih0 _ _ _ _ _ _ _ _
      | exact ih1 _ _ _ _ _ _ _ _ _
      | exact ih2 _ _ _ _ _ _ _ _
      | exact ih3 _ _ _ _ _ _ _ _
      | exact arboristlaw11_given.mono _ _ _
      | exact arboristref08_Empty.mono _ _
      | exact arboristref08_Graph.mono _ _
      | exact LeO.none _
      | refine LeO.ite ?_ ?_
      | refine LeO.bind ?_ (fun _ => ?_)
set_option maxHeartbeats 8000000 in
set_option maxRecDepth 100000 in
theorem arboristlaw11_DecompWhole.calls (k : Nat) (a0 : Int) (A1 : Option Addr) (c1 : Nat) (l1 : List Int) (r : Bool) (w : World) (hTb : Tab64 w) (hr1 : Kd.C (Kd.int .i64) w A1 l1.length l1) (hc1 : l1.length ≤ c1) (hT : r = true) (h : arboristlaw11_DecompWhole.f k a0 l1 = some r) :
    Calls Tryd.prog 4 #[.int .i64 a0, .slice A1 l1.length c1] w fun e w' => e = .returned (.bool r) ∧ Below w.heap.size w w' := by
  have HTAB := Aside0.mk hTb
  clear hTb
  have HT_ := Aside0.mk (show r = true from hT)
  clear hT
  have hu28 := Tryd.underlying28
  have HR1 := Aside0.mk hr1
  have HC1 := Aside0.mk hc1
  clear hr1 hc1
  have HB := Aside0.mk (Below.refl w.heap.size w)
  have H : ((arboristlaw11_shown.f).bind fun t403 => ((arboristlaw11_given.f k (wrap64 (1 + (Int.tmod (Go.bits .and .i64 a0 65535) 12))) l1).bind fun t404 => ((arboristref08_Empty.f k (wrap64 (1 + (Int.tmod (Go.bits .and .i64 a0 65535) 12)))).bind fun t407 => ((arboristref08_Graph.f k t407).bind fun t410 => ((decomp_Build.f t410 t404).bind fun bt413 => (arboristlaw11_DecompWhole.l0 k (wrap64 (1 + (Int.tmod (Go.bits .and .i64 a0 65535) 12))) t403 t404 t407 bt413.2.2 0 bt413.1 bt413.2.1)))))) = some r := h
  clear h
  replace H := Option.bind_eq_some_iff.mp H
  obtain ⟨t403, A30, H⟩ := H
  replace H : ((arboristlaw11_given.f k (wrap64 (1 + (Int.tmod (Go.bits .and .i64 a0 65535) 12))) l1).bind fun t404 => ((arboristref08_Empty.f k (wrap64 (1 + (Int.tmod (Go.bits .and .i64 a0 65535) 12)))).bind fun t407 => ((arboristref08_Graph.f k t407).bind fun t410 => ((decomp_Build.f t410 t404).bind fun bt413 => (arboristlaw11_DecompWhole.l0 k (wrap64 (1 + (Int.tmod (Go.bits .and .i64 a0 65535) 12))) t403 t404 t407 bt413.2.2 0 bt413.1 bt413.2.1))))) = some r := H
  have A3 := Aside0.mk A30
  clear A30
  replace H := Option.bind_eq_some_iff.mp H
  obtain ⟨t404, A40, H⟩ := H
  replace H : ((arboristref08_Empty.f k (wrap64 (1 + (Int.tmod (Go.bits .and .i64 a0 65535) 12)))).bind fun t407 => ((arboristref08_Graph.f k t407).bind fun t410 => ((decomp_Build.f t410 t404).bind fun bt413 => (arboristlaw11_DecompWhole.l0 k (wrap64 (1 + (Int.tmod (Go.bits .and .i64 a0 65535) 12))) t403 t404 t407 bt413.2.2 0 bt413.1 bt413.2.1)))) = some r := H
  have A4 := Aside0.mk A40
  clear A40
  replace H := Option.bind_eq_some_iff.mp H
  obtain ⟨t407, A50, H⟩ := H
  replace H : ((arboristref08_Graph.f k t407).bind fun t410 => ((decomp_Build.f t410 t404).bind fun bt413 => (arboristlaw11_DecompWhole.l0 k (wrap64 (1 + (Int.tmod (Go.bits .and .i64 a0 65535) 12))) t403 t404 t407 bt413.2.2 0 bt413.1 bt413.2.1))) = some r := H
  have A5 := Aside0.mk A50
  clear A50
  replace H := Option.bind_eq_some_iff.mp H
  obtain ⟨t410, A60, H⟩ := H
  replace H : ((decomp_Build.f t410 t404).bind fun bt413 => (arboristlaw11_DecompWhole.l0 k (wrap64 (1 + (Int.tmod (Go.bits .and .i64 a0 65535) 12))) t403 t404 t407 bt413.2.2 0 bt413.1 bt413.2.1)) = some r := H
  have A6 := Aside0.mk A60
  clear A60
  replace H := Option.bind_eq_some_iff.mp H
  obtain ⟨⟨t413, t416, t419⟩, A70, H⟩ := H
  replace H : (arboristlaw11_DecompWhole.l0 k (wrap64 (1 + (Int.tmod (Go.bits .and .i64 a0 65535) 12))) t403 t404 t407 t419 0 t413 t416) = some r := H
  have A7 := Aside0.mk A70
  clear A70
  have H' := Aside0.mk H
  clear H
  go_enter Tryd.func4, Tryd.ntmps4
  go_wp2_with (first | (go_at_call 10; (with_reducible refine (arboristlaw11_shown.calls (hTb := (by first | exact HTAB.out | exact tab_drewN HTAB.out _ | exact tab_below HTAB.out (by repeat (first | (with_reducible first | exact HB.out | apply below_alloc | apply pw_below_drewN | apply below_drew1 | refine below_set ?_ GE420.out | refine below_set ?_ GE435.out) | exact HB.out))))  t403 _ A3.out).mono ?_); rintro e w8 ⟨rfl, hb⟩; have n0_ := Aside0.mk (below_step (by repeat (first | (with_reducible first | exact HB.out | apply below_alloc | apply pw_below_drewN | apply below_drew1) | exact HB.out)) hb); clear HB; have HB := n0_; clear n0_; (try clear hb); (try clear hb2); (try clear hk); (try clear hi)) | (go_at_call 14; (with_reducible refine (arboristlaw11_given.calls k (wrap64 (1 + (Int.tmod (Go.bits .and .i64 a0 65535) 12))) _ _ l1 t404 _ ?side1 ?side2 A4.out).mono ?_); (case side1 => repeat (first | exact (Kd.C_below HR1.out HB.out) | (with_reducible refine Kd.C_alloc ?_ _) | (with_reducible refine Kd.C_drewN ?_ _) | (with_reducible refine Kd.C_drew ?_))); (case side2 => exact HC1.out); rintro e w9 ⟨v405, rfl, ho0, hb⟩; have n0_ := Aside0.mk (Kd.R_lower ho0 (below_size (by repeat (first | (with_reducible first | exact HB.out | apply below_alloc | apply pw_below_drewN | apply below_drew1) | exact HB.out)))); have n1_ := Aside0.mk (below_step (by repeat (first | (with_reducible first | exact HB.out | apply below_alloc | apply pw_below_drewN | apply below_drew1) | exact HB.out)) hb); clear HB; have HO406 := n0_; have HB := n1_; clear n0_ n1_; (try clear hb); (try clear hb2); (try clear hk); (try clear hi); (try clear ho0)) | (go_at_call 16; (with_reducible refine (arboristref08_Empty.calls k (wrap64 (1 + (Int.tmod (Go.bits .and .i64 a0 65535) 12))) t407 _ A5.out).mono ?_); rintro e w10 ⟨v408, rfl, ho0, hb⟩; have n0_ := Aside0.mk (Kd.R_below (by (with_reducible repeat (first | apply Kd.R_alloc | apply Kd.R_drewN | apply Kd.R_drew)); exact HO406.out) hb); have n1_ := Aside0.mk (Kd.S_lower ho0 (below_size (by repeat (first | (with_reducible first | exact HB.out | apply below_alloc | apply pw_below_drewN | apply below_drew1) | exact HB.out)))); have n2_ := Aside0.mk (below_step (by repeat (first | (with_reducible first | exact HB.out | apply below_alloc | apply pw_below_drewN | apply below_drew1) | exact HB.out)) hb); clear HO406; clear HB; have HO406 := n0_; have HO409 := n1_; have HB := n2_; clear n0_ n1_ n2_; (try clear hb); (try clear hb2); (try clear hk); (try clear hi); (try clear ho0); obtain ⟨Ao11, co11, eo11⟩ := Kd.S_slice HO409.out; subst eo11) | (go_at_call 13; (with_reducible refine (arboristref08_Graph.calls k _ _ t407 t410 _ ?side1 ?side2 A6.out).mono ?_); (case side1 => repeat (first | exact (Kd.S_reads' HO409.out).2.2 | (with_reducible refine Kd.C_alloc ?_ _) | (with_reducible refine Kd.C_drewN ?_ _) | (with_reducible refine Kd.C_drew ?_))); (case side2 => exact (Kd.S_reads' HO409.out).2.1); rintro e w12 ⟨v411, rfl, ho0, hb⟩; have n0_ := Aside0.mk (Kd.R_below (by (with_reducible repeat (first | apply Kd.R_alloc | apply Kd.R_drewN | apply Kd.R_drew)); exact HO406.out) hb); have n1_ := Aside0.mk (Kd.S_below (by (with_reducible repeat (first | apply Kd.S_alloc | apply Kd.S_drewN | apply Kd.S_drew)); exact HO409.out) hb); have n2_ := Aside0.mk (Kd.R_lower ho0 (below_size (by repeat (first | (with_reducible first | exact HB.out | apply below_alloc | apply pw_below_drewN | apply below_drew1) | exact HB.out)))); have n3_ := Aside0.mk (below_step (by repeat (first | (with_reducible first | exact HB.out | apply below_alloc | apply pw_below_drewN | apply below_drew1) | exact HB.out)) hb); clear HO406; clear HO409; clear HB; have HO406 := n0_; have HO409 := n1_; have HO412 := n2_; have HB := n3_; clear n0_ n1_ n2_ n3_; (try clear hb); (try clear hb2); (try clear hk); (try clear hi); (try clear ho0); obtain ⟨Ao13, co13, eo13⟩ := Kd.R_slice HO412.out; subst eo13; obtain ⟨Ao14, co14, eo14⟩ := Kd.R_slice HO406.out; subst eo14) | (go_at_call 12; (with_reducible refine (decomp_Build.calls (hTb := (by first | exact HTAB.out | exact tab_drewN HTAB.out _ | exact tab_below HTAB.out (by repeat (first | (with_reducible first | exact HB.out | apply below_alloc | apply pw_below_drewN | apply below_drew1 | refine below_set ?_ GE420.out | refine below_set ?_ GE435.out) | exact HB.out)))) _ _ t410 _ _ t404 t413 t416 t419 _ ?side1 ?side2 ?side3 ?side4 A7.out).mono ?_); (case side1 => repeat (first | exact (Kd.R_reads' HO412.out).2.2 | (with_reducible refine Kd.C_alloc ?_ _) | (with_reducible refine Kd.C_drewN ?_ _) | (with_reducible refine Kd.C_drew ?_))); (case side2 => exact (Kd.R_reads' HO412.out).2.1); (case side3 => repeat (first | exact (Kd.R_reads' HO406.out).2.2 | (with_reducible refine Kd.C_alloc ?_ _) | (with_reducible refine Kd.C_drewN ?_ _) | (with_reducible refine Kd.C_drew ?_))); (case side4 => exact (Kd.R_reads' HO406.out).2.1); rintro e w15 ⟨v414, v417, rfl, ho0, ho1, hb⟩; have n0_ := Aside0.mk (Kd.R_elder' (by (with_reducible repeat (first | apply Kd.R_alloc | apply Kd.R_drewN | apply Kd.R_drew)); exact HO406.out) (Kd.R_base ho1) hb); have n1_ := Aside0.mk (Kd.S_below (by (with_reducible repeat (first | apply Kd.S_alloc | apply Kd.S_drewN | apply Kd.S_drew)); exact HO409.out) hb); have n2_ := Aside0.mk (Kd.R_below (by (with_reducible repeat (first | apply Kd.R_alloc | apply Kd.R_drewN | apply Kd.R_drew)); exact HO412.out) hb); have n3_ := Aside0.mk (Kd.S_lower (Kd.S_new' ho0 (Kd.R_lt (by (with_reducible repeat (first | apply Kd.R_alloc | apply Kd.R_drewN | apply Kd.R_drew)); exact HO406.out))) (below_size (by repeat (first | (with_reducible first | exact HB.out | apply below_alloc | apply pw_below_drewN | apply below_drew1) | exact HB.out)))); have n4_ := Aside0.mk (Kd.R_lower (Kd.R_new' ho1 (Kd.R_lt (by (with_reducible repeat (first | apply Kd.R_alloc | apply Kd.R_drewN | apply Kd.R_drew)); exact HO406.out))) (below_size (by repeat (first | (with_reducible first | exact HB.out | apply below_alloc | apply pw_below_drewN | apply below_drew1) | exact HB.out)))); have n5_ := Aside0.mk (below_step (by repeat (first | (with_reducible first | exact HB.out | apply below_alloc | apply pw_below_drewN | apply below_drew1) | exact HB.out)) hb); clear HO406; clear HO409; clear HO412; clear HB; have HO406 := n0_; have HO409 := n1_; have HO412 := n2_; have HO415 := n3_; have HO418 := n4_; have HB := n5_; clear n0_ n1_ n2_ n3_ n4_ n5_; (try clear hb); (try clear hb2); (try clear hk); (try clear hi); (try clear ho0); (try clear ho1)) | ((with_reducible refine gate_dst (N := 8) rfl ?_); (try (refine gate_guard (by rfl) ?_; dsimp only)); refine box_event ?hg (N := 8) ?hd (cs := #[.slice none 0 0, .slice none 0 0]) (t := 28) ?hr ?_; (case hd => rfl); (case hg => rfl); (case hr => first | (go_simp; done) | (go_simp; rfl)); intro gb420 hg w16 hbox hb; have n0_ := Aside0.mk (Kd.R_below (by (with_reducible repeat (first | apply Kd.R_alloc | apply Kd.R_drewN | apply Kd.R_drew)); exact HO406.out) hb); have n1_ := Aside0.mk (Kd.S_below (by (with_reducible repeat (first | apply Kd.S_alloc | apply Kd.S_drewN | apply Kd.S_drew)); exact HO409.out) hb); have n2_ := Aside0.mk (Kd.R_below (by (with_reducible repeat (first | apply Kd.R_alloc | apply Kd.R_drewN | apply Kd.R_drew)); exact HO412.out) hb); have n3_ := Aside0.mk (Kd.S_below (by (with_reducible repeat (first | apply Kd.S_alloc | apply Kd.S_drewN | apply Kd.S_drew)); exact HO415.out) hb); have n4_ := Aside0.mk (Kd.R_below (by (with_reducible repeat (first | apply Kd.R_alloc | apply Kd.R_drewN | apply Kd.R_drew)); exact HO418.out) hb); have n5_ := Aside0.mk (below_step (by repeat (first | (with_reducible first | exact HB.out | apply below_alloc | apply pw_below_drewN | apply below_drew1) | exact HB.out)) hb); have n6_ := Aside0.mk (hbox); have n7_ := Aside0.mk ((by rw [hg]; exact (below_size (by repeat (first | (with_reducible first | exact HB.out | apply below_alloc | apply pw_below_drewN | apply below_drew1) | exact HB.out))) : w.heap.size ≤ gb420)); have n8_ := Aside0.mk ((by rw [hg]; exact (below_size (by repeat (first | (with_reducible first | exact HB.out | apply below_alloc | apply pw_below_drewN | apply below_drew1) | exact HB.out))) : w.heap.size ≤ gb420)); clear HO406; clear HO409; clear HO412; clear HO415; clear HO418; clear HB; have HO406 := n0_; have HO409 := n1_; have HO412 := n2_; have HO415 := n3_; have HO418 := n4_; have HB := n5_; have BK420 := n6_; have GW420 := n7_; have GE420 := n8_; clear n0_ n1_ n2_ n3_ n4_ n5_ n6_ n7_ n8_; clear hb hbox hg; obtain ⟨Ao17, co17, eo17⟩ := Kd.S_slice HO415.out; subst eo17; have hcz18_0 : w16.cell? ⟨gb420, 0, none⟩ = some (.slice none 0 0) := (blk_cell BK420.out 0).trans rfl; have hcz18_1 : w16.cell? ⟨gb420, 1, none⟩ = some (.slice none 0 0) := (blk_cell BK420.out 1).trans rfl; have hfz18_0 := blk_frozen BK420.out 0; have hfz18_1 := blk_frozen BK420.out 1; obtain ⟨Ao19, co19, eo19⟩ := Kd.R_slice HO418.out; subst eo19))
  repeat (go_quiet (first | (go_at_call 10; (with_reducible refine (arboristlaw11_shown.calls (hTb := (by first | exact HTAB.out | exact tab_drewN HTAB.out _ | exact tab_below HTAB.out (by repeat (first | (with_reducible first | exact HB.out | apply below_alloc | apply pw_below_drewN | apply below_drew1 | refine below_set ?_ GE420.out | refine below_set ?_ GE435.out) | exact HB.out))))  t403 _ A3.out).mono ?_); rintro e w8 ⟨rfl, hb⟩; have n0_ := Aside0.mk (below_step (by repeat (first | (with_reducible first | exact HB.out | apply below_alloc | apply pw_below_drewN | apply below_drew1) | exact HB.out)) hb); clear HB; have HB := n0_; clear n0_; (try clear hb); (try clear hb2); (try clear hk); (try clear hi)) | (go_at_call 14; (with_reducible refine (arboristlaw11_given.calls k (wrap64 (1 + (Int.tmod (Go.bits .and .i64 a0 65535) 12))) _ _ l1 t404 _ ?side1 ?side2 A4.out).mono ?_); (case side1 => repeat (first | exact (Kd.C_below HR1.out HB.out) | (with_reducible refine Kd.C_alloc ?_ _) | (with_reducible refine Kd.C_drewN ?_ _) | (with_reducible refine Kd.C_drew ?_))); (case side2 => exact HC1.out); rintro e w9 ⟨v405, rfl, ho0, hb⟩; have n0_ := Aside0.mk (Kd.R_lower ho0 (below_size (by repeat (first | (with_reducible first | exact HB.out | apply below_alloc | apply pw_below_drewN | apply below_drew1) | exact HB.out)))); have n1_ := Aside0.mk (below_step (by repeat (first | (with_reducible first | exact HB.out | apply below_alloc | apply pw_below_drewN | apply below_drew1) | exact HB.out)) hb); clear HB; have HO406 := n0_; have HB := n1_; clear n0_ n1_; (try clear hb); (try clear hb2); (try clear hk); (try clear hi); (try clear ho0)) | (go_at_call 16; (with_reducible refine (arboristref08_Empty.calls k (wrap64 (1 + (Int.tmod (Go.bits .and .i64 a0 65535) 12))) t407 _ A5.out).mono ?_); rintro e w10 ⟨v408, rfl, ho0, hb⟩; have n0_ := Aside0.mk (Kd.R_below (by (with_reducible repeat (first | apply Kd.R_alloc | apply Kd.R_drewN | apply Kd.R_drew)); exact HO406.out) hb); have n1_ := Aside0.mk (Kd.S_lower ho0 (below_size (by repeat (first | (with_reducible first | exact HB.out | apply below_alloc | apply pw_below_drewN | apply below_drew1) | exact HB.out)))); have n2_ := Aside0.mk (below_step (by repeat (first | (with_reducible first | exact HB.out | apply below_alloc | apply pw_below_drewN | apply below_drew1) | exact HB.out)) hb); clear HO406; clear HB; have HO406 := n0_; have HO409 := n1_; have HB := n2_; clear n0_ n1_ n2_; (try clear hb); (try clear hb2); (try clear hk); (try clear hi); (try clear ho0); obtain ⟨Ao11, co11, eo11⟩ := Kd.S_slice HO409.out; subst eo11) | (go_at_call 13; (with_reducible refine (arboristref08_Graph.calls k _ _ t407 t410 _ ?side1 ?side2 A6.out).mono ?_); (case side1 => repeat (first | exact (Kd.S_reads' HO409.out).2.2 | (with_reducible refine Kd.C_alloc ?_ _) | (with_reducible refine Kd.C_drewN ?_ _) | (with_reducible refine Kd.C_drew ?_))); (case side2 => exact (Kd.S_reads' HO409.out).2.1); rintro e w12 ⟨v411, rfl, ho0, hb⟩; have n0_ := Aside0.mk (Kd.R_below (by (with_reducible repeat (first | apply Kd.R_alloc | apply Kd.R_drewN | apply Kd.R_drew)); exact HO406.out) hb); have n1_ := Aside0.mk (Kd.S_below (by (with_reducible repeat (first | apply Kd.S_alloc | apply Kd.S_drewN | apply Kd.S_drew)); exact HO409.out) hb); have n2_ := Aside0.mk (Kd.R_lower ho0 (below_size (by repeat (first | (with_reducible first | exact HB.out | apply below_alloc | apply pw_below_drewN | apply below_drew1) | exact HB.out)))); have n3_ := Aside0.mk (below_step (by repeat (first | (with_reducible first | exact HB.out | apply below_alloc | apply pw_below_drewN | apply below_drew1) | exact HB.out)) hb); clear HO406; clear HO409; clear HB; have HO406 := n0_; have HO409 := n1_; have HO412 := n2_; have HB := n3_; clear n0_ n1_ n2_ n3_; (try clear hb); (try clear hb2); (try clear hk); (try clear hi); (try clear ho0); obtain ⟨Ao13, co13, eo13⟩ := Kd.R_slice HO412.out; subst eo13; obtain ⟨Ao14, co14, eo14⟩ := Kd.R_slice HO406.out; subst eo14) | (go_at_call 12; (with_reducible refine (decomp_Build.calls (hTb := (by first | exact HTAB.out | exact tab_drewN HTAB.out _ | exact tab_below HTAB.out (by repeat (first | (with_reducible first | exact HB.out | apply below_alloc | apply pw_below_drewN | apply below_drew1 | refine below_set ?_ GE420.out | refine below_set ?_ GE435.out) | exact HB.out)))) _ _ t410 _ _ t404 t413 t416 t419 _ ?side1 ?side2 ?side3 ?side4 A7.out).mono ?_); (case side1 => repeat (first | exact (Kd.R_reads' HO412.out).2.2 | (with_reducible refine Kd.C_alloc ?_ _) | (with_reducible refine Kd.C_drewN ?_ _) | (with_reducible refine Kd.C_drew ?_))); (case side2 => exact (Kd.R_reads' HO412.out).2.1); (case side3 => repeat (first | exact (Kd.R_reads' HO406.out).2.2 | (with_reducible refine Kd.C_alloc ?_ _) | (with_reducible refine Kd.C_drewN ?_ _) | (with_reducible refine Kd.C_drew ?_))); (case side4 => exact (Kd.R_reads' HO406.out).2.1); rintro e w15 ⟨v414, v417, rfl, ho0, ho1, hb⟩; have n0_ := Aside0.mk (Kd.R_elder' (by (with_reducible repeat (first | apply Kd.R_alloc | apply Kd.R_drewN | apply Kd.R_drew)); exact HO406.out) (Kd.R_base ho1) hb); have n1_ := Aside0.mk (Kd.S_below (by (with_reducible repeat (first | apply Kd.S_alloc | apply Kd.S_drewN | apply Kd.S_drew)); exact HO409.out) hb); have n2_ := Aside0.mk (Kd.R_below (by (with_reducible repeat (first | apply Kd.R_alloc | apply Kd.R_drewN | apply Kd.R_drew)); exact HO412.out) hb); have n3_ := Aside0.mk (Kd.S_lower (Kd.S_new' ho0 (Kd.R_lt (by (with_reducible repeat (first | apply Kd.R_alloc | apply Kd.R_drewN | apply Kd.R_drew)); exact HO406.out))) (below_size (by repeat (first | (with_reducible first | exact HB.out | apply below_alloc | apply pw_below_drewN | apply below_drew1) | exact HB.out)))); have n4_ := Aside0.mk (Kd.R_lower (Kd.R_new' ho1 (Kd.R_lt (by (with_reducible repeat (first | apply Kd.R_alloc | apply Kd.R_drewN | apply Kd.R_drew)); exact HO406.out))) (below_size (by repeat (first | (with_reducible first | exact HB.out | apply below_alloc | apply pw_below_drewN | apply below_drew1) | exact HB.out)))); have n5_ := Aside0.mk (below_step (by repeat (first | (with_reducible first | exact HB.out | apply below_alloc | apply pw_below_drewN | apply below_drew1) | exact HB.out)) hb); clear HO406; clear HO409; clear HO412; clear HB; have HO406 := n0_; have HO409 := n1_; have HO412 := n2_; have HO415 := n3_; have HO418 := n4_; have HB := n5_; clear n0_ n1_ n2_ n3_ n4_ n5_; (try clear hb); (try clear hb2); (try clear hk); (try clear hi); (try clear ho0); (try clear ho1)) | ((with_reducible refine gate_dst (N := 8) rfl ?_); (try (refine gate_guard (by rfl) ?_; dsimp only)); refine box_event ?hg (N := 8) ?hd (cs := #[.slice none 0 0, .slice none 0 0]) (t := 28) ?hr ?_; (case hd => rfl); (case hg => rfl); (case hr => first | (go_simp; done) | (go_simp; rfl)); intro gb420 hg w16 hbox hb; have n0_ := Aside0.mk (Kd.R_below (by (with_reducible repeat (first | apply Kd.R_alloc | apply Kd.R_drewN | apply Kd.R_drew)); exact HO406.out) hb); have n1_ := Aside0.mk (Kd.S_below (by (with_reducible repeat (first | apply Kd.S_alloc | apply Kd.S_drewN | apply Kd.S_drew)); exact HO409.out) hb); have n2_ := Aside0.mk (Kd.R_below (by (with_reducible repeat (first | apply Kd.R_alloc | apply Kd.R_drewN | apply Kd.R_drew)); exact HO412.out) hb); have n3_ := Aside0.mk (Kd.S_below (by (with_reducible repeat (first | apply Kd.S_alloc | apply Kd.S_drewN | apply Kd.S_drew)); exact HO415.out) hb); have n4_ := Aside0.mk (Kd.R_below (by (with_reducible repeat (first | apply Kd.R_alloc | apply Kd.R_drewN | apply Kd.R_drew)); exact HO418.out) hb); have n5_ := Aside0.mk (below_step (by repeat (first | (with_reducible first | exact HB.out | apply below_alloc | apply pw_below_drewN | apply below_drew1) | exact HB.out)) hb); have n6_ := Aside0.mk (hbox); have n7_ := Aside0.mk ((by rw [hg]; exact (below_size (by repeat (first | (with_reducible first | exact HB.out | apply below_alloc | apply pw_below_drewN | apply below_drew1) | exact HB.out))) : w.heap.size ≤ gb420)); have n8_ := Aside0.mk ((by rw [hg]; exact (below_size (by repeat (first | (with_reducible first | exact HB.out | apply below_alloc | apply pw_below_drewN | apply below_drew1) | exact HB.out))) : w.heap.size ≤ gb420)); clear HO406; clear HO409; clear HO412; clear HO415; clear HO418; clear HB; have HO406 := n0_; have HO409 := n1_; have HO412 := n2_; have HO415 := n3_; have HO418 := n4_; have HB := n5_; have BK420 := n6_; have GW420 := n7_; have GE420 := n8_; clear n0_ n1_ n2_ n3_ n4_ n5_ n6_ n7_ n8_; clear hb hbox hg; obtain ⟨Ao17, co17, eo17⟩ := Kd.S_slice HO415.out; subst eo17; have hcz18_0 : w16.cell? ⟨gb420, 0, none⟩ = some (.slice none 0 0) := (blk_cell BK420.out 0).trans rfl; have hcz18_1 : w16.cell? ⟨gb420, 1, none⟩ = some (.slice none 0 0) := (blk_cell BK420.out 1).trans rfl; have hfz18_0 := blk_frozen BK420.out 0; have hfz18_1 := blk_frozen BK420.out 1; obtain ⟨Ao19, co19, eo19⟩ := Kd.R_slice HO418.out; subst eo19)); try go_wp2_with (first | (go_at_call 10; (with_reducible refine (arboristlaw11_shown.calls (hTb := (by first | exact HTAB.out | exact tab_drewN HTAB.out _ | exact tab_below HTAB.out (by repeat (first | (with_reducible first | exact HB.out | apply below_alloc | apply pw_below_drewN | apply below_drew1 | refine below_set ?_ GE420.out | refine below_set ?_ GE435.out) | exact HB.out))))  t403 _ A3.out).mono ?_); rintro e w8 ⟨rfl, hb⟩; have n0_ := Aside0.mk (below_step (by repeat (first | (with_reducible first | exact HB.out | apply below_alloc | apply pw_below_drewN | apply below_drew1) | exact HB.out)) hb); clear HB; have HB := n0_; clear n0_; (try clear hb); (try clear hb2); (try clear hk); (try clear hi)) | (go_at_call 14; (with_reducible refine (arboristlaw11_given.calls k (wrap64 (1 + (Int.tmod (Go.bits .and .i64 a0 65535) 12))) _ _ l1 t404 _ ?side1 ?side2 A4.out).mono ?_); (case side1 => repeat (first | exact (Kd.C_below HR1.out HB.out) | (with_reducible refine Kd.C_alloc ?_ _) | (with_reducible refine Kd.C_drewN ?_ _) | (with_reducible refine Kd.C_drew ?_))); (case side2 => exact HC1.out); rintro e w9 ⟨v405, rfl, ho0, hb⟩; have n0_ := Aside0.mk (Kd.R_lower ho0 (below_size (by repeat (first | (with_reducible first | exact HB.out | apply below_alloc | apply pw_below_drewN | apply below_drew1) | exact HB.out)))); have n1_ := Aside0.mk (below_step (by repeat (first | (with_reducible first | exact HB.out | apply below_alloc | apply pw_below_drewN | apply below_drew1) | exact HB.out)) hb); clear HB; have HO406 := n0_; have HB := n1_; clear n0_ n1_; (try clear hb); (try clear hb2); (try clear hk); (try clear hi); (try clear ho0)) | (go_at_call 16; (with_reducible refine (arboristref08_Empty.calls k (wrap64 (1 + (Int.tmod (Go.bits .and .i64 a0 65535) 12))) t407 _ A5.out).mono ?_); rintro e w10 ⟨v408, rfl, ho0, hb⟩; have n0_ := Aside0.mk (Kd.R_below (by (with_reducible repeat (first | apply Kd.R_alloc | apply Kd.R_drewN | apply Kd.R_drew)); exact HO406.out) hb); have n1_ := Aside0.mk (Kd.S_lower ho0 (below_size (by repeat (first | (with_reducible first | exact HB.out | apply below_alloc | apply pw_below_drewN | apply below_drew1) | exact HB.out)))); have n2_ := Aside0.mk (below_step (by repeat (first | (with_reducible first | exact HB.out | apply below_alloc | apply pw_below_drewN | apply below_drew1) | exact HB.out)) hb); clear HO406; clear HB; have HO406 := n0_; have HO409 := n1_; have HB := n2_; clear n0_ n1_ n2_; (try clear hb); (try clear hb2); (try clear hk); (try clear hi); (try clear ho0); obtain ⟨Ao11, co11, eo11⟩ := Kd.S_slice HO409.out; subst eo11) | (go_at_call 13; (with_reducible refine (arboristref08_Graph.calls k _ _ t407 t410 _ ?side1 ?side2 A6.out).mono ?_); (case side1 => repeat (first | exact (Kd.S_reads' HO409.out).2.2 | (with_reducible refine Kd.C_alloc ?_ _) | (with_reducible refine Kd.C_drewN ?_ _) | (with_reducible refine Kd.C_drew ?_))); (case side2 => exact (Kd.S_reads' HO409.out).2.1); rintro e w12 ⟨v411, rfl, ho0, hb⟩; have n0_ := Aside0.mk (Kd.R_below (by (with_reducible repeat (first | apply Kd.R_alloc | apply Kd.R_drewN | apply Kd.R_drew)); exact HO406.out) hb); have n1_ := Aside0.mk (Kd.S_below (by (with_reducible repeat (first | apply Kd.S_alloc | apply Kd.S_drewN | apply Kd.S_drew)); exact HO409.out) hb); have n2_ := Aside0.mk (Kd.R_lower ho0 (below_size (by repeat (first | (with_reducible first | exact HB.out | apply below_alloc | apply pw_below_drewN | apply below_drew1) | exact HB.out)))); have n3_ := Aside0.mk (below_step (by repeat (first | (with_reducible first | exact HB.out | apply below_alloc | apply pw_below_drewN | apply below_drew1) | exact HB.out)) hb); clear HO406; clear HO409; clear HB; have HO406 := n0_; have HO409 := n1_; have HO412 := n2_; have HB := n3_; clear n0_ n1_ n2_ n3_; (try clear hb); (try clear hb2); (try clear hk); (try clear hi); (try clear ho0); obtain ⟨Ao13, co13, eo13⟩ := Kd.R_slice HO412.out; subst eo13; obtain ⟨Ao14, co14, eo14⟩ := Kd.R_slice HO406.out; subst eo14) | (go_at_call 12; (with_reducible refine (decomp_Build.calls (hTb := (by first | exact HTAB.out | exact tab_drewN HTAB.out _ | exact tab_below HTAB.out (by repeat (first | (with_reducible first | exact HB.out | apply below_alloc | apply pw_below_drewN | apply below_drew1 | refine below_set ?_ GE420.out | refine below_set ?_ GE435.out) | exact HB.out)))) _ _ t410 _ _ t404 t413 t416 t419 _ ?side1 ?side2 ?side3 ?side4 A7.out).mono ?_); (case side1 => repeat (first | exact (Kd.R_reads' HO412.out).2.2 | (with_reducible refine Kd.C_alloc ?_ _) | (with_reducible refine Kd.C_drewN ?_ _) | (with_reducible refine Kd.C_drew ?_))); (case side2 => exact (Kd.R_reads' HO412.out).2.1); (case side3 => repeat (first | exact (Kd.R_reads' HO406.out).2.2 | (with_reducible refine Kd.C_alloc ?_ _) | (with_reducible refine Kd.C_drewN ?_ _) | (with_reducible refine Kd.C_drew ?_))); (case side4 => exact (Kd.R_reads' HO406.out).2.1); rintro e w15 ⟨v414, v417, rfl, ho0, ho1, hb⟩; have n0_ := Aside0.mk (Kd.R_elder' (by (with_reducible repeat (first | apply Kd.R_alloc | apply Kd.R_drewN | apply Kd.R_drew)); exact HO406.out) (Kd.R_base ho1) hb); have n1_ := Aside0.mk (Kd.S_below (by (with_reducible repeat (first | apply Kd.S_alloc | apply Kd.S_drewN | apply Kd.S_drew)); exact HO409.out) hb); have n2_ := Aside0.mk (Kd.R_below (by (with_reducible repeat (first | apply Kd.R_alloc | apply Kd.R_drewN | apply Kd.R_drew)); exact HO412.out) hb); have n3_ := Aside0.mk (Kd.S_lower (Kd.S_new' ho0 (Kd.R_lt (by (with_reducible repeat (first | apply Kd.R_alloc | apply Kd.R_drewN | apply Kd.R_drew)); exact HO406.out))) (below_size (by repeat (first | (with_reducible first | exact HB.out | apply below_alloc | apply pw_below_drewN | apply below_drew1) | exact HB.out)))); have n4_ := Aside0.mk (Kd.R_lower (Kd.R_new' ho1 (Kd.R_lt (by (with_reducible repeat (first | apply Kd.R_alloc | apply Kd.R_drewN | apply Kd.R_drew)); exact HO406.out))) (below_size (by repeat (first | (with_reducible first | exact HB.out | apply below_alloc | apply pw_below_drewN | apply below_drew1) | exact HB.out)))); have n5_ := Aside0.mk (below_step (by repeat (first | (with_reducible first | exact HB.out | apply below_alloc | apply pw_below_drewN | apply below_drew1) | exact HB.out)) hb); clear HO406; clear HO409; clear HO412; clear HB; have HO406 := n0_; have HO409 := n1_; have HO412 := n2_; have HO415 := n3_; have HO418 := n4_; have HB := n5_; clear n0_ n1_ n2_ n3_ n4_ n5_; (try clear hb); (try clear hb2); (try clear hk); (try clear hi); (try clear ho0); (try clear ho1)) | ((with_reducible refine gate_dst (N := 8) rfl ?_); (try (refine gate_guard (by rfl) ?_; dsimp only)); refine box_event ?hg (N := 8) ?hd (cs := #[.slice none 0 0, .slice none 0 0]) (t := 28) ?hr ?_; (case hd => rfl); (case hg => rfl); (case hr => first | (go_simp; done) | (go_simp; rfl)); intro gb420 hg w16 hbox hb; have n0_ := Aside0.mk (Kd.R_below (by (with_reducible repeat (first | apply Kd.R_alloc | apply Kd.R_drewN | apply Kd.R_drew)); exact HO406.out) hb); have n1_ := Aside0.mk (Kd.S_below (by (with_reducible repeat (first | apply Kd.S_alloc | apply Kd.S_drewN | apply Kd.S_drew)); exact HO409.out) hb); have n2_ := Aside0.mk (Kd.R_below (by (with_reducible repeat (first | apply Kd.R_alloc | apply Kd.R_drewN | apply Kd.R_drew)); exact HO412.out) hb); have n3_ := Aside0.mk (Kd.S_below (by (with_reducible repeat (first | apply Kd.S_alloc | apply Kd.S_drewN | apply Kd.S_drew)); exact HO415.out) hb); have n4_ := Aside0.mk (Kd.R_below (by (with_reducible repeat (first | apply Kd.R_alloc | apply Kd.R_drewN | apply Kd.R_drew)); exact HO418.out) hb); have n5_ := Aside0.mk (below_step (by repeat (first | (with_reducible first | exact HB.out | apply below_alloc | apply pw_below_drewN | apply below_drew1) | exact HB.out)) hb); have n6_ := Aside0.mk (hbox); have n7_ := Aside0.mk ((by rw [hg]; exact (below_size (by repeat (first | (with_reducible first | exact HB.out | apply below_alloc | apply pw_below_drewN | apply below_drew1) | exact HB.out))) : w.heap.size ≤ gb420)); have n8_ := Aside0.mk ((by rw [hg]; exact (below_size (by repeat (first | (with_reducible first | exact HB.out | apply below_alloc | apply pw_below_drewN | apply below_drew1) | exact HB.out))) : w.heap.size ≤ gb420)); clear HO406; clear HO409; clear HO412; clear HO415; clear HO418; clear HB; have HO406 := n0_; have HO409 := n1_; have HO412 := n2_; have HO415 := n3_; have HO418 := n4_; have HB := n5_; have BK420 := n6_; have GW420 := n7_; have GE420 := n8_; clear n0_ n1_ n2_ n3_ n4_ n5_ n6_ n7_ n8_; clear hb hbox hg; obtain ⟨Ao17, co17, eo17⟩ := Kd.S_slice HO415.out; subst eo17; have hcz18_0 : w16.cell? ⟨gb420, 0, none⟩ = some (.slice none 0 0) := (blk_cell BK420.out 0).trans rfl; have hcz18_1 : w16.cell? ⟨gb420, 1, none⟩ = some (.slice none 0 0) := (blk_cell BK420.out 1).trans rfl; have hfz18_0 := blk_frozen BK420.out 0; have hfz18_1 := blk_frozen BK420.out 1; obtain ⟨Ao19, co19, eo19⟩ := Kd.R_slice HO418.out; subst eo19)))
  go_loopg [10] k (fun kq v10 w' => ∃ (x7_1 : List (List Bool)) (x10_1 : Int), v10 = .int .i64 x10_1 ∧ Aside0 (arboristlaw11_DecompWhole.l0 kq (wrap64 (1 + (Int.tmod (Go.bits .and .i64 a0 65535) 12))) t403 t404 x7_1 t419 x10_1 t413 t416 = some r) ∧ Aside0 (kq ≤ k) ∧ Aside0 (Kd.R (Kd.int .i64) 3 w' w.heap.size (fun k_ => some k_ ≠ ((.slice Ao19 t416.length co19) : Value).ownBlock) (.slice Ao14 t404.length co14) t404) ∧ Aside0 (Kd.S (Kd.slice 4 Kd.bool) 40 w' w.heap.size (fun _ => True) (.slice Ao11 t407.length co11) x7_1) ∧ Aside0 (Kd.S (Kd.slice 3 (Kd.int .i64)) 23 w' w.heap.size (fun k_ => some k_ ≠ ((.slice Ao14 t404.length co14) : Value).ownBlock ∧ some k_ ≠ ((.slice Ao19 t416.length co19) : Value).ownBlock) (.slice Ao17 t413.length co17) t413) ∧ Aside0 (Kd.R (Kd.int .i64) 3 w' w.heap.size (fun k_ => some k_ ≠ ((.slice Ao14 t404.length co14) : Value).ownBlock) (.slice Ao19 t416.length co19) t416) ∧ Aside0 (w'.heap[gb420]? = some (.cells #[(.slice Ao17 t413.length co17), (.slice Ao19 t416.length co19)] 28 (0, 0))) ∧ Aside0 (Below w.heap.size w w'))
  case atStart => exact ⟨(t407), (0), (by first | rfl | (simp; done) | (simp [*]; done)), H', ⟨Nat.le_refl _⟩, ⟨by (with_reducible repeat (first | apply Kd.R_alloc | apply Kd.R_drewN | apply Kd.R_drew)); exact Kd.R_mono (Kd.R_far (p := ⟨gb420, 1, none⟩) (Kd.R_far (p := ⟨gb420, 0, none⟩) (Kd.R_types HO406.out BK420.out (by decide)) (fun _ hk => hk.2) (.slice Ao17 t413.length co17)) (fun _ hk => hk.2) (.slice Ao19 t416.length co19)) (fun _ hk => hk.1.2)⟩, ⟨by (with_reducible repeat (first | apply Kd.S_alloc | apply Kd.S_drewN | apply Kd.S_drew)); exact Kd.S_mono (Kd.S_far (p := ⟨gb420, 1, none⟩) (Kd.S_far (p := ⟨gb420, 0, none⟩) (Kd.S_types HO409.out BK420.out (by decide)) (fun _ hk => hk.2) (.slice Ao17 t413.length co17)) (fun _ hk => hk.2) (.slice Ao19 t416.length co19)) (fun _ hk => trivial)⟩, ⟨by (with_reducible repeat (first | apply Kd.S_alloc | apply Kd.S_drewN | apply Kd.S_drew)); exact Kd.S_mono (Kd.S_far (p := ⟨gb420, 1, none⟩) (Kd.S_far (p := ⟨gb420, 0, none⟩) (Kd.S_types HO415.out BK420.out (by decide)) (fun _ hk => hk.2) (.slice Ao17 t413.length co17)) (fun _ hk => hk.2) (.slice Ao19 t416.length co19)) (fun _ hk => ⟨hk.1.2, hk.1.1⟩)⟩, ⟨by (with_reducible repeat (first | apply Kd.R_alloc | apply Kd.R_drewN | apply Kd.R_drew)); exact Kd.R_mono (Kd.R_far (p := ⟨gb420, 1, none⟩) (Kd.R_far (p := ⟨gb420, 0, none⟩) (Kd.R_types HO418.out BK420.out (by decide)) (fun _ hk => hk.2) (.slice Ao17 t413.length co17)) (fun _ hk => hk.2) (.slice Ao19 t416.length co19)) (fun _ hk => hk.1.2)⟩, ⟨by (with_reducible repeat (first | refine blk_drewN ?_ _ | refine blk_drew ?_ | refine blk_alloc ?_ _)); refine blk_put (cs := #[.slice Ao17 t413.length co17, .slice none 0 0]) ?_ 1 _ rfl; (with_reducible repeat (first | refine blk_drewN ?_ _ | refine blk_drew ?_ | refine blk_alloc ?_ _)); refine blk_put (cs := #[.slice none 0 0, .slice none 0 0]) ?_ 0 _ rfl; (with_reducible repeat (first | refine blk_drewN ?_ _ | refine blk_drew ?_ | refine blk_alloc ?_ _)); exact BK420.out⟩, ⟨by repeat (first | (with_reducible first | exact HB.out | apply below_alloc | apply pw_below_drewN | apply below_drew1 | refine below_set ?_ GE420.out) | exact HB.out)⟩⟩
  case round =>
    clear H'
    try clear c1
    try clear p2
    try clear c4
    try clear p6
    try clear hcz18_0
    try clear hcz18_1
    try clear hfz18_0
    try clear hfz18_1
    obtain ⟨x7_1, x10_1, rfl, HA, HK1, HO_6, HO_7, HO_421000, HO_421001, BK420, HB⟩ := hrel
    have hl7_1 := (Kd.S_reads' HO_7.out).1
    rw [hl7_1] at HO_7
    (try simp only [hl7_1])
    (try simp only [hl7_1] at BK420)
    (try simp only [hl7_1] at HO_6)
    (try simp only [hl7_1] at HO_421000)
    (try simp only [hl7_1] at HO_421001)
    cases gk with
    | zero => exact absurd HA.out (by simp [arboristlaw11_DecompWhole.l0])
    | succ k1 =>
      have H := HA.out
      clear HA
      simp only [arboristlaw11_DecompWhole.l0] at H
      by_cases c20 : x10_1 < (wrap64 (1 + (Int.tmod (Go.bits .and .i64 a0 65535) 12)))
      · rw [if_pos c20] at H
        have c20b0 : decide (x10_1 < (wrap64 (1 + (Int.tmod (Go.bits .and .i64 a0 65535) 12)))) = true := decide_eq_true c20
        clear c20
        have H' := Aside0.mk H
        clear H
        go_wp2
        repeat (go_quiet (fail); try go_wp2)
        go_loopg [11] k1 (fun kq v11 w' => ∃ (x7_2 : List (List Bool)) (x11_2 : Int), v11 = .int .i64 x11_2 ∧ Aside0 (arboristlaw11_DecompWhole.l1 kq (wrap64 (1 + (Int.tmod (Go.bits .and .i64 a0 65535) 12))) t403 t404 x7_2 t419 x10_1 x11_2 t413 t416 = some r) ∧ Aside0 (kq ≤ k1) ∧ Aside0 (Kd.R (Kd.int .i64) 3 w' w.heap.size (fun k_ => some k_ ≠ ((.slice Ao19 t416.length co19) : Value).ownBlock) (.slice Ao14 t404.length co14) t404) ∧ Aside0 (Kd.S (Kd.slice 4 Kd.bool) 40 w' w.heap.size (fun _ => True) (.slice Ao11 x7_1.length co11) x7_2) ∧ Aside0 (Kd.S (Kd.slice 3 (Kd.int .i64)) 23 w' w.heap.size (fun k_ => some k_ ≠ ((.slice Ao14 t404.length co14) : Value).ownBlock ∧ some k_ ≠ ((.slice Ao19 t416.length co19) : Value).ownBlock) (.slice Ao17 t413.length co17) t413) ∧ Aside0 (Kd.R (Kd.int .i64) 3 w' w.heap.size (fun k_ => some k_ ≠ ((.slice Ao14 t404.length co14) : Value).ownBlock) (.slice Ao19 t416.length co19) t416) ∧ Aside0 (w'.heap[gb420]? = some (.cells #[(.slice Ao17 t413.length co17), (.slice Ao19 t416.length co19)] 28 (0, 0))) ∧ Aside0 (Below w.heap.size w w'))
        case atStart => exact ⟨(x7_1), (0), (by first | rfl | (simp; done) | (simp [*]; done)), H', ⟨Nat.le_refl _⟩, ⟨by (try simp only [hl7_1]); (with_reducible repeat (first | apply Kd.R_alloc | apply Kd.R_drewN | apply Kd.R_drew)); exact HO_6.out⟩, ⟨by (try simp only [hl7_1]); (with_reducible repeat (first | apply Kd.S_alloc | apply Kd.S_drewN | apply Kd.S_drew)); exact HO_7.out⟩, ⟨by (try simp only [hl7_1]); (with_reducible repeat (first | apply Kd.S_alloc | apply Kd.S_drewN | apply Kd.S_drew)); exact HO_421000.out⟩, ⟨by (try simp only [hl7_1]); (with_reducible repeat (first | apply Kd.R_alloc | apply Kd.R_drewN | apply Kd.R_drew)); exact HO_421001.out⟩, ⟨by (try simp only [hl7_1]); (with_reducible repeat (first | refine blk_drewN ?_ _ | refine blk_drew ?_ | refine blk_alloc ?_ _)); exact BK420.out⟩, ⟨by repeat (first | (with_reducible first | exact HB.out | apply below_alloc | apply pw_below_drewN | apply below_drew1 | refine below_set ?_ GE420.out) | exact HB.out)⟩⟩
        case round =>
          clear H'
          try clear c1
          try clear c2
          try clear p2
          try clear c4
          try clear p6
          try clear c20
          try clear c20b0
          try clear hcz18_0
          try clear hcz18_1
          try clear hfz18_0
          try clear hfz18_1
          try clear p2
          try clear p6
          obtain ⟨x7_2, x11_2, rfl, HA, HK2, HO_6, HO_7, HO_421000, HO_421001, BK420, HB⟩ := hrel
          have hl7_2 := (Kd.S_reads' HO_7.out).1
          rw [hl7_2] at HO_7
          (try simp only [hl7_2])
          (try simp only [hl7_2] at BK420)
          (try simp only [hl7_2] at HO_6)
          (try simp only [hl7_2] at HO_421000)
          (try simp only [hl7_2] at HO_421001)
          cases gk with
          | zero => exact absurd HA.out (by simp [arboristlaw11_DecompWhole.l1])
          | succ k2 =>
            have H := HA.out
            clear HA
            simp only [arboristlaw11_DecompWhole.l1] at H
            by_cases c21 : x11_2 < (wrap64 (1 + (Int.tmod (Go.bits .and .i64 a0 65535) 12)))
            · rw [if_pos c21] at H
              have c21b0 : decide (x11_2 < (wrap64 (1 + (Int.tmod (Go.bits .and .i64 a0 65535) 12)))) = true := decide_eq_true c21
              clear c21
              by_cases c22 : 0 ≤ x10_1
              · rw [if_pos c22] at H
                have c22b0 : decide (0 ≤ x10_1) = true := decide_eq_true c22
                clear c22
                by_cases c23 : x10_1 < (x7_2.length : Int)
                · rw [if_pos c23] at H
                  have c23b0 : decide (x10_1 < (x7_2.length : Int)) = true := decide_eq_true c23
                  clear c23
                  by_cases c24 : 0 ≤ x11_2
                  · rw [if_pos c24] at H
                    have c24b0 : decide (0 ≤ x11_2) = true := decide_eq_true c24
                    clear c24
                    by_cases c25 : x11_2 < ((rd_L8 x7_2 x10_1).length : Int)
                    · rw [if_pos c25] at H
                      have c25b0 : decide (x11_2 < ((rd_L8 x7_2 x10_1).length : Int)) = true := decide_eq_true c25
                      clear c25
                      obtain ⟨y422, hy422⟩ : ∃ y_ : List Bool, y_ = ((rd_L8 x7_2 x10_1).set (x11_2 : Int).toNat (x10_1 != x11_2)) := ⟨_, rfl⟩
                      replace H : (arboristlaw11_DecompWhole.l1 k2 (wrap64 (1 + (Int.tmod (Go.bits .and .i64 a0 65535) 12))) t403 t404 (x7_2.set (x10_1 : Int).toNat y422) t419 x10_1 (wrap64 (x11_2 + 1)) t413 t416) = some r := by first | (rw [hy422]; with_reducible exact H) | (have H2_ := (Option.bind_some _ _).symm.trans H; rw [hy422]; with_reducible exact H2_) | (have H2_ := (Option.bind_some _ _).symm.trans H; with_reducible exact H2_) | with_reducible exact H | (rw [hy422]; exact H) | exact H
                      have Ny422 := Aside0.mk hy422
                      clear hy422
                      obtain ⟨y424, hy424⟩ : ∃ y_ : List (List Bool), y_ = (x7_2.set (x10_1 : Int).toNat y422) := ⟨_, rfl⟩
                      replace H : (arboristlaw11_DecompWhole.l1 k2 (wrap64 (1 + (Int.tmod (Go.bits .and .i64 a0 65535) 12))) t403 t404 y424 t419 x10_1 (wrap64 (x11_2 + 1)) t413 t416) = some r := by first | (rw [hy424]; with_reducible exact H) | (have H2_ := (Option.bind_some _ _).symm.trans H; rw [hy424]; with_reducible exact H2_) | (have H2_ := (Option.bind_some _ _).symm.trans H; with_reducible exact H2_) | with_reducible exact H | (rw [hy424]; exact H) | exact H
                      have Ny424 := Aside0.mk hy424
                      clear hy424
                      have H' := Aside0.mk H
                      clear H
                      have p421 : 0 ≤ (x10_1 : Int) := of_decide_eq_true (by first | (with_reducible assumption) | assumption)
                      have q421 : x10_1 < (x7_2.length : Int) := of_decide_eq_true (by first | (with_reducible assumption) | assumption)
                      obtain ⟨ad421, A421_0, c421_0, e421, hx421_0, hl421_0, hi421_0⟩ := at_L8 (Kd.S_reads' HO_7.out).2.2 x10_1 p421 q421
                      cases e421
                      obtain ⟨ce421, hce421, hMe421, hcc421⟩ := Kd.S_get HO_7.out [] x10_1 p421 (by first | exact q421 | exact of_decide_eq_true (by first | (with_reducible assumption) | assumption) | (have e_ := (Kd.S_reads' HO_7.out).1; omega))
                      obtain ⟨ve421_0, rfl, ge421_0⟩ := hMe421
                      have hv421_0 := hcc421 0 _ rfl
                      rw [Nat.add_zero, show ((Kd.slice 4 Kd.bool)).sz = 1 from rfl, Nat.mul_one] at hv421_0
                      replace hv421_0 := Option.some.inj (hv421_0.symm.trans hx421_0)
                      rw [hv421_0] at ge421_0
                      have HL421_0 := Aside0.mk (show Kd.R Kd.bool 4 _ _ _ _ (rd_L8 x7_2 x10_1) from ge421_0)
                      clear hv421_0 ge421_0
                      have HX421_0 := Aside0.mk hx421_0
                      clear hcc421 hce421
                      have HR421_0 := Aside0.mk hi421_0
                      have HC421_0 := Aside0.mk hl421_0
                      clear hi421_0 hl421_0
                      replace p421 := eq_true p421
                      replace q421 := eq_true q421
                      have p26 : 0 ≤ (x11_2 : Int) := of_decide_eq_true (by first | (with_reducible assumption) | assumption)
                      have q26 : (x11_2 : Int) < (((rd_L8 x7_2 x10_1).length : Int) : Int) := of_decide_eq_true (by first | (with_reducible assumption) | assumption)
                      obtain ⟨go26, co26, eo26, gb26, gl26, cl26, HG26⟩ := Kd.R_form HL421_0.out (by omega)
                      (first | cases eo26 | (injection eo26 with ea_ en_ ec_; (first | subst ea_ | (injection ea_ with ea_; subst ea_)); subst ec_; clear en_))
                      have GB26 := Aside0.mk gb26
                      have GG26 := Aside0.mk HG26
                      clear gb26 gl26 HG26
                      obtain ⟨hx26_0, hf26_0⟩ := Kd.R_celln false HL421_0.out (x11_2 : Int) p26 q26
                      replace p26 := eq_true p26
                      replace q26 := eq_true q26
                      have hq27 : (x10_1 : Int) < (x7_2.length : Int) := (by have h_ : (x10_1 : Int) < ((x7_2.length : Int) : Int) := of_decide_eq_true (by first | (with_reducible assumption) | assumption); first | exact h_ | (have e_ := (Kd.S_reads' HO_7.out).1; omega) | simpa only [List.length_set, List.length_set] using h_)
                      obtain ⟨oki27, ce27, hcl27, hM27, hcc27, hok27, hbk27⟩ := Kd.S_borrow HO_7.out [] (x10_1 : Int) (of_decide_eq_true (by first | (with_reducible assumption) | assumption)) (by first | exact hq27 | (have e_ := (Kd.S_reads' HO_7.out).1; have h_ := hq27; omega))
                      obtain ⟨ve27_0, rfl, ge27_0⟩ := hM27
                      have hv27 := hcc27 0 _ rfl
                      rw [Nat.add_zero, show ((Kd.slice 4 Kd.bool)).sz = 1 from rfl, Nat.mul_one] at hv27
                      replace hv27 := Option.some.inj (hv27.symm.trans HX421_0.out)
                      subst hv27
                      clear hcc27 hcl27
                      replace ge27_0 := (show Kd.R Kd.bool 4 _ _ _ _ (rd_L8 x7_2 x10_1) from ge27_0)
                      have HP27 := Kd.R_putg ge27_0 (x11_2 : Int) (x10_1 != x11_2)
                      go_wp2_with (first | ((with_reducible refine gate_store (t := 4) (p := 51) rfl ?_); (try (rw [drewN_self wr]; generalize hq_ : World.drewN wr _ = wr; have n0_ := Aside0.mk (Kd.R_at hq_ HO_6.out); have n1_ := Aside0.mk (Kd.S_at hq_ HO_7.out); have n2_ := Aside0.mk (Kd.S_at hq_ HO_421000.out); have n3_ := Aside0.mk (Kd.R_at hq_ HO_421001.out); have n4_ := Aside0.mk (Kd.R_at hq_ HL452.out); have n5_ := Aside0.mk (blk_at hq_ BK420.out); have n6_ := Aside0.mk (below_at hq_ HB.out); clear hq_ HO_6 HO_7 HO_421000 HO_421001 HL452 BK420 HB; have HO_6 := n0_; have HO_7 := n1_; have HO_421000 := n2_; have HO_421001 := n3_; have HL452 := n4_; have BK420 := n5_; have HB := n6_; clear n0_ n1_ n2_ n3_ n4_ n5_ n6_; (try (have hq27 : (x10_1 : Int) < (x7_2.length : Int) := (by have h_ : (x10_1 : Int) < ((x7_2.length : Int) : Int) := of_decide_eq_true (by first | (with_reducible assumption) | assumption); first | exact h_ | (have e_ := (Kd.S_reads' HO_7.out).1; omega) | simpa only [List.length_set, List.length_set] using h_))); (try (obtain ⟨oki27, ce27, hcl27, hM27, hcc27, hok27, hbk27⟩ := Kd.S_borrow HO_7.out [] (x10_1 : Int) (of_decide_eq_true (by first | (with_reducible assumption) | assumption)) (by first | exact hq27 | (have e_ := (Kd.S_reads' HO_7.out).1; have h_ := hq27; omega)))); (try (obtain ⟨ve27_0, rfl, ge27_0⟩ := hM27)); (try (have hv27 := hcc27 0 _ rfl)); (try (rw [Nat.add_zero, show ((Kd.slice 4 Kd.bool)).sz = 1 from rfl, Nat.mul_one] at hv27)); (try (replace hv27 := Option.some.inj (hv27.symm.trans HX421_0.out))); (try (subst hv27)); (try (clear hcc27 hcl27)); (try (replace ge27_0 := (show Kd.R Kd.bool 4 _ _ _ _ (rd_L8 x7_2 x10_1) from ge27_0))); (try (have HP27 := Kd.R_putg ge27_0 (x11_2 : Int) (x10_1 != x11_2))))); refine store_event (t := 4) (p := 51) (v := ?vo_w28) (w1 := (wr.setCell ⟨go26, (x11_2 : Int).toNat, none⟩ (.bool (x10_1 != x11_2)))) ?hg ?ho ?hn ?hr ?_; (case ho => rfl); (case hg => rfl); (case hn => rfl); (case hr => first | (go_simp; done) | (go_simp; rfl)); intro w28 hw; have hg : wr.grownBy w28 (some go26) := (by rw [hw]; exact HP27.2); have hz_ : Kd.R Kd.bool 4 w28 w.heap.size oki27 (.slice (some ⟨go26, 0, none⟩) (rd_L8 x7_2 x10_1).length c421_0) y422 := (by rw [hw, Ny422.out]; exact HP27.1); have hp_ : Kd.S (Kd.slice 4 Kd.bool) 40 w28 w.heap.size (fun _ => True) (.slice (some ad421) x7_2.length co11) y424 := (by rw [Ny424.out]; exact hbk27 hg (fun k_ e_ => by injection e_ with e_; subst e_; exact ge27_0.1 _ rfl) (Kd.M_row hz_)); have hm_ := Kd.R_mono hz_ hok27; clear HP27 hbk27; have n0_ := Aside0.mk (Kd.R_over' (v := (.slice (some ⟨go26, 0, none⟩) (rd_L8 x7_2 x10_1).length c421_0)) (by (with_reducible repeat (first | apply Kd.R_alloc | apply Kd.R_drewN | apply Kd.R_drew)); exact HO_6.out) (Kd.R_typed HL421_0.out) (by decide) hg); have n1_ := Aside0.mk (hp_); have n2_ := Aside0.mk (Kd.S_over' (v := (.slice (some ⟨go26, 0, none⟩) (rd_L8 x7_2 x10_1).length c421_0)) (by (with_reducible repeat (first | apply Kd.S_alloc | apply Kd.S_drewN | apply Kd.S_drew)); exact HO_421000.out) (Kd.R_typed HL421_0.out) (by decide) hg); have n3_ := Aside0.mk (Kd.R_over' (v := (.slice (some ⟨go26, 0, none⟩) (rd_L8 x7_2 x10_1).length c421_0)) (by (with_reducible repeat (first | apply Kd.R_alloc | apply Kd.R_drewN | apply Kd.R_drew)); exact HO_421001.out) (Kd.R_typed HL421_0.out) (by decide) hg); have n4_ := Aside0.mk (blk_grown (g := gb420) (o := .cells #[.slice Ao17 t413.length co17, .slice Ao19 t416.length co19] 28 (0, 0)) (by (with_reducible repeat (first | refine blk_drewN ?_ _ | refine blk_drew ?_ | refine blk_alloc ?_ _)); exact BK420.out) hg (Kd.R_ne HL421_0.out BK420.out (by decide))); have n5_ := Aside0.mk ((by rw [hw]; exact below_set (HB.out) GB26.out : Below w.heap.size w w28)); have n6_ := Aside0.mk (hm_); have n7_ := Aside0.mk ((Kd.R_reads' hm_).2.1); clear HO_6; clear HO_7; clear HO_421000; clear HO_421001; clear BK420; clear HB; clear HL421_0; have HO_6 := n0_; have HO_7 := n1_; have HO_421000 := n2_; have HO_421001 := n3_; have BK420 := n4_; have HB := n5_; have HL452 := n6_; have HC423 := n7_; clear n0_ n1_ n2_ n3_ n4_ n5_ n6_ n7_; clear hg hw hp_ hz_ hm_ hok27))
                      repeat (go_quiet (first | ((with_reducible refine gate_store (t := 4) (p := 51) rfl ?_); (try (rw [drewN_self wr]; generalize hq_ : World.drewN wr _ = wr; have n0_ := Aside0.mk (Kd.R_at hq_ HO_6.out); have n1_ := Aside0.mk (Kd.S_at hq_ HO_7.out); have n2_ := Aside0.mk (Kd.S_at hq_ HO_421000.out); have n3_ := Aside0.mk (Kd.R_at hq_ HO_421001.out); have n4_ := Aside0.mk (Kd.R_at hq_ HL452.out); have n5_ := Aside0.mk (blk_at hq_ BK420.out); have n6_ := Aside0.mk (below_at hq_ HB.out); clear hq_ HO_6 HO_7 HO_421000 HO_421001 HL452 BK420 HB; have HO_6 := n0_; have HO_7 := n1_; have HO_421000 := n2_; have HO_421001 := n3_; have HL452 := n4_; have BK420 := n5_; have HB := n6_; clear n0_ n1_ n2_ n3_ n4_ n5_ n6_; (try (have hq27 : (x10_1 : Int) < (x7_2.length : Int) := (by have h_ : (x10_1 : Int) < ((x7_2.length : Int) : Int) := of_decide_eq_true (by first | (with_reducible assumption) | assumption); first | exact h_ | (have e_ := (Kd.S_reads' HO_7.out).1; omega) | simpa only [List.length_set, List.length_set] using h_))); (try (obtain ⟨oki27, ce27, hcl27, hM27, hcc27, hok27, hbk27⟩ := Kd.S_borrow HO_7.out [] (x10_1 : Int) (of_decide_eq_true (by first | (with_reducible assumption) | assumption)) (by first | exact hq27 | (have e_ := (Kd.S_reads' HO_7.out).1; have h_ := hq27; omega)))); (try (obtain ⟨ve27_0, rfl, ge27_0⟩ := hM27)); (try (have hv27 := hcc27 0 _ rfl)); (try (rw [Nat.add_zero, show ((Kd.slice 4 Kd.bool)).sz = 1 from rfl, Nat.mul_one] at hv27)); (try (replace hv27 := Option.some.inj (hv27.symm.trans HX421_0.out))); (try (subst hv27)); (try (clear hcc27 hcl27)); (try (replace ge27_0 := (show Kd.R Kd.bool 4 _ _ _ _ (rd_L8 x7_2 x10_1) from ge27_0))); (try (have HP27 := Kd.R_putg ge27_0 (x11_2 : Int) (x10_1 != x11_2))))); refine store_event (t := 4) (p := 51) (v := ?vo_w28) (w1 := (wr.setCell ⟨go26, (x11_2 : Int).toNat, none⟩ (.bool (x10_1 != x11_2)))) ?hg ?ho ?hn ?hr ?_; (case ho => rfl); (case hg => rfl); (case hn => rfl); (case hr => first | (go_simp; done) | (go_simp; rfl)); intro w28 hw; have hg : wr.grownBy w28 (some go26) := (by rw [hw]; exact HP27.2); have hz_ : Kd.R Kd.bool 4 w28 w.heap.size oki27 (.slice (some ⟨go26, 0, none⟩) (rd_L8 x7_2 x10_1).length c421_0) y422 := (by rw [hw, Ny422.out]; exact HP27.1); have hp_ : Kd.S (Kd.slice 4 Kd.bool) 40 w28 w.heap.size (fun _ => True) (.slice (some ad421) x7_2.length co11) y424 := (by rw [Ny424.out]; exact hbk27 hg (fun k_ e_ => by injection e_ with e_; subst e_; exact ge27_0.1 _ rfl) (Kd.M_row hz_)); have hm_ := Kd.R_mono hz_ hok27; clear HP27 hbk27; have n0_ := Aside0.mk (Kd.R_over' (v := (.slice (some ⟨go26, 0, none⟩) (rd_L8 x7_2 x10_1).length c421_0)) (by (with_reducible repeat (first | apply Kd.R_alloc | apply Kd.R_drewN | apply Kd.R_drew)); exact HO_6.out) (Kd.R_typed HL421_0.out) (by decide) hg); have n1_ := Aside0.mk (hp_); have n2_ := Aside0.mk (Kd.S_over' (v := (.slice (some ⟨go26, 0, none⟩) (rd_L8 x7_2 x10_1).length c421_0)) (by (with_reducible repeat (first | apply Kd.S_alloc | apply Kd.S_drewN | apply Kd.S_drew)); exact HO_421000.out) (Kd.R_typed HL421_0.out) (by decide) hg); have n3_ := Aside0.mk (Kd.R_over' (v := (.slice (some ⟨go26, 0, none⟩) (rd_L8 x7_2 x10_1).length c421_0)) (by (with_reducible repeat (first | apply Kd.R_alloc | apply Kd.R_drewN | apply Kd.R_drew)); exact HO_421001.out) (Kd.R_typed HL421_0.out) (by decide) hg); have n4_ := Aside0.mk (blk_grown (g := gb420) (o := .cells #[.slice Ao17 t413.length co17, .slice Ao19 t416.length co19] 28 (0, 0)) (by (with_reducible repeat (first | refine blk_drewN ?_ _ | refine blk_drew ?_ | refine blk_alloc ?_ _)); exact BK420.out) hg (Kd.R_ne HL421_0.out BK420.out (by decide))); have n5_ := Aside0.mk ((by rw [hw]; exact below_set (HB.out) GB26.out : Below w.heap.size w w28)); have n6_ := Aside0.mk (hm_); have n7_ := Aside0.mk ((Kd.R_reads' hm_).2.1); clear HO_6; clear HO_7; clear HO_421000; clear HO_421001; clear BK420; clear HB; clear HL421_0; have HO_6 := n0_; have HO_7 := n1_; have HO_421000 := n2_; have HO_421001 := n3_; have BK420 := n4_; have HB := n5_; have HL452 := n6_; have HC423 := n7_; clear n0_ n1_ n2_ n3_ n4_ n5_ n6_ n7_; clear hg hw hp_ hz_ hm_ hok27)); try go_wp2_with (first | ((with_reducible refine gate_store (t := 4) (p := 51) rfl ?_); (try (rw [drewN_self wr]; generalize hq_ : World.drewN wr _ = wr; have n0_ := Aside0.mk (Kd.R_at hq_ HO_6.out); have n1_ := Aside0.mk (Kd.S_at hq_ HO_7.out); have n2_ := Aside0.mk (Kd.S_at hq_ HO_421000.out); have n3_ := Aside0.mk (Kd.R_at hq_ HO_421001.out); have n4_ := Aside0.mk (Kd.R_at hq_ HL452.out); have n5_ := Aside0.mk (blk_at hq_ BK420.out); have n6_ := Aside0.mk (below_at hq_ HB.out); clear hq_ HO_6 HO_7 HO_421000 HO_421001 HL452 BK420 HB; have HO_6 := n0_; have HO_7 := n1_; have HO_421000 := n2_; have HO_421001 := n3_; have HL452 := n4_; have BK420 := n5_; have HB := n6_; clear n0_ n1_ n2_ n3_ n4_ n5_ n6_; (try (have hq27 : (x10_1 : Int) < (x7_2.length : Int) := (by have h_ : (x10_1 : Int) < ((x7_2.length : Int) : Int) := of_decide_eq_true (by first | (with_reducible assumption) | assumption); first | exact h_ | (have e_ := (Kd.S_reads' HO_7.out).1; omega) | simpa only [List.length_set, List.length_set] using h_))); (try (obtain ⟨oki27, ce27, hcl27, hM27, hcc27, hok27, hbk27⟩ := Kd.S_borrow HO_7.out [] (x10_1 : Int) (of_decide_eq_true (by first | (with_reducible assumption) | assumption)) (by first | exact hq27 | (have e_ := (Kd.S_reads' HO_7.out).1; have h_ := hq27; omega)))); (try (obtain ⟨ve27_0, rfl, ge27_0⟩ := hM27)); (try (have hv27 := hcc27 0 _ rfl)); (try (rw [Nat.add_zero, show ((Kd.slice 4 Kd.bool)).sz = 1 from rfl, Nat.mul_one] at hv27)); (try (replace hv27 := Option.some.inj (hv27.symm.trans HX421_0.out))); (try (subst hv27)); (try (clear hcc27 hcl27)); (try (replace ge27_0 := (show Kd.R Kd.bool 4 _ _ _ _ (rd_L8 x7_2 x10_1) from ge27_0))); (try (have HP27 := Kd.R_putg ge27_0 (x11_2 : Int) (x10_1 != x11_2))))); refine store_event (t := 4) (p := 51) (v := ?vo_w28) (w1 := (wr.setCell ⟨go26, (x11_2 : Int).toNat, none⟩ (.bool (x10_1 != x11_2)))) ?hg ?ho ?hn ?hr ?_; (case ho => rfl); (case hg => rfl); (case hn => rfl); (case hr => first | (go_simp; done) | (go_simp; rfl)); intro w28 hw; have hg : wr.grownBy w28 (some go26) := (by rw [hw]; exact HP27.2); have hz_ : Kd.R Kd.bool 4 w28 w.heap.size oki27 (.slice (some ⟨go26, 0, none⟩) (rd_L8 x7_2 x10_1).length c421_0) y422 := (by rw [hw, Ny422.out]; exact HP27.1); have hp_ : Kd.S (Kd.slice 4 Kd.bool) 40 w28 w.heap.size (fun _ => True) (.slice (some ad421) x7_2.length co11) y424 := (by rw [Ny424.out]; exact hbk27 hg (fun k_ e_ => by injection e_ with e_; subst e_; exact ge27_0.1 _ rfl) (Kd.M_row hz_)); have hm_ := Kd.R_mono hz_ hok27; clear HP27 hbk27; have n0_ := Aside0.mk (Kd.R_over' (v := (.slice (some ⟨go26, 0, none⟩) (rd_L8 x7_2 x10_1).length c421_0)) (by (with_reducible repeat (first | apply Kd.R_alloc | apply Kd.R_drewN | apply Kd.R_drew)); exact HO_6.out) (Kd.R_typed HL421_0.out) (by decide) hg); have n1_ := Aside0.mk (hp_); have n2_ := Aside0.mk (Kd.S_over' (v := (.slice (some ⟨go26, 0, none⟩) (rd_L8 x7_2 x10_1).length c421_0)) (by (with_reducible repeat (first | apply Kd.S_alloc | apply Kd.S_drewN | apply Kd.S_drew)); exact HO_421000.out) (Kd.R_typed HL421_0.out) (by decide) hg); have n3_ := Aside0.mk (Kd.R_over' (v := (.slice (some ⟨go26, 0, none⟩) (rd_L8 x7_2 x10_1).length c421_0)) (by (with_reducible repeat (first | apply Kd.R_alloc | apply Kd.R_drewN | apply Kd.R_drew)); exact HO_421001.out) (Kd.R_typed HL421_0.out) (by decide) hg); have n4_ := Aside0.mk (blk_grown (g := gb420) (o := .cells #[.slice Ao17 t413.length co17, .slice Ao19 t416.length co19] 28 (0, 0)) (by (with_reducible repeat (first | refine blk_drewN ?_ _ | refine blk_drew ?_ | refine blk_alloc ?_ _)); exact BK420.out) hg (Kd.R_ne HL421_0.out BK420.out (by decide))); have n5_ := Aside0.mk ((by rw [hw]; exact below_set (HB.out) GB26.out : Below w.heap.size w w28)); have n6_ := Aside0.mk (hm_); have n7_ := Aside0.mk ((Kd.R_reads' hm_).2.1); clear HO_6; clear HO_7; clear HO_421000; clear HO_421001; clear BK420; clear HB; clear HL421_0; have HO_6 := n0_; have HO_7 := n1_; have HO_421000 := n2_; have HO_421001 := n3_; have BK420 := n4_; have HB := n5_; have HL452 := n6_; have HC423 := n7_; clear n0_ n1_ n2_ n3_ n4_ n5_ n6_ n7_; clear hg hw hp_ hz_ hm_ hok27)))
                      (try simp only [← hl7_2])
                      go_roundg k2
                      case measure => have := HK1.out; have := HK2.out; omega
                      case rel => exact ⟨(y424), (wrap64 (x11_2 + 1)), (by first | rfl | (simp; done) | (simp [*]; done)), H', ⟨by have := HK1.out; have := HK2.out; omega⟩, ⟨by (try simp only [hl7_1]); (try simp only [hl7_2]); (with_reducible repeat (first | apply Kd.R_alloc | apply Kd.R_drewN | apply Kd.R_drew)); exact HO_6.out⟩, ⟨by (try simp only [hl7_1]); (try simp only [hl7_2]); (with_reducible repeat (first | apply Kd.S_alloc | apply Kd.S_drewN | apply Kd.S_drew)); exact HO_7.out⟩, ⟨by (try simp only [hl7_1]); (try simp only [hl7_2]); (with_reducible repeat (first | apply Kd.S_alloc | apply Kd.S_drewN | apply Kd.S_drew)); exact HO_421000.out⟩, ⟨by (try simp only [hl7_1]); (try simp only [hl7_2]); (with_reducible repeat (first | apply Kd.R_alloc | apply Kd.R_drewN | apply Kd.R_drew)); exact HO_421001.out⟩, ⟨by (try simp only [hl7_1]); (try simp only [hl7_2]); (with_reducible repeat (first | refine blk_drewN ?_ _ | refine blk_drew ?_ | refine blk_alloc ?_ _)); exact BK420.out⟩, ⟨by repeat (first | (with_reducible first | exact HB.out | apply below_alloc | apply pw_below_drewN | apply below_drew1 | refine below_set ?_ GE420.out) | exact HB.out)⟩⟩
                    · rw [if_neg c25] at H
                      exact absurd H (by simp)
                  · rw [if_neg c24] at H
                    exact absurd H (by simp)
                · rw [if_neg c23] at H
                  exact absurd H (by simp)
              · rw [if_neg c22] at H
                exact absurd H (by simp)
            · rw [if_neg c21] at H
              have c21b0 : decide (x11_2 < (wrap64 (1 + (Int.tmod (Go.bits .and .i64 a0 65535) 12)))) = false := decide_eq_false c21
              clear c21
              have H' := Aside0.mk H
              clear H
              go_wp2
              repeat (go_quiet (fail); try go_wp2)
              (try simp only [← hl7_1, ← hl7_2])
              go_roundg k2
              case measure => have := HK1.out; have := HK2.out; omega
              case rel => exact ⟨(x7_2), (wrap64 (x10_1 + 1)), (by first | rfl | (simp; done) | (simp [*]; done)), H', ⟨by have := HK1.out; have := HK2.out; omega⟩, ⟨by (try simp only [hl7_1]); (try simp only [hl7_2]); (with_reducible repeat (first | apply Kd.R_alloc | apply Kd.R_drewN | apply Kd.R_drew)); exact HO_6.out⟩, ⟨by (try simp only [hl7_1]); (try simp only [hl7_2]); (with_reducible repeat (first | apply Kd.S_alloc | apply Kd.S_drewN | apply Kd.S_drew)); exact HO_7.out⟩, ⟨by (try simp only [hl7_1]); (try simp only [hl7_2]); (with_reducible repeat (first | apply Kd.S_alloc | apply Kd.S_drewN | apply Kd.S_drew)); exact HO_421000.out⟩, ⟨by (try simp only [hl7_1]); (try simp only [hl7_2]); (with_reducible repeat (first | apply Kd.R_alloc | apply Kd.R_drewN | apply Kd.R_drew)); exact HO_421001.out⟩, ⟨by (try simp only [hl7_1]); (try simp only [hl7_2]); (with_reducible repeat (first | refine blk_drewN ?_ _ | refine blk_drew ?_ | refine blk_alloc ?_ _)); exact BK420.out⟩, ⟨by repeat (first | (with_reducible first | exact HB.out | apply below_alloc | apply pw_below_drewN | apply below_drew1 | refine below_set ?_ GE420.out) | exact HB.out)⟩⟩
      · rw [if_neg c20] at H
        have c20b0 : decide (x10_1 < (wrap64 (1 + (Int.tmod (Go.bits .and .i64 a0 65535) 12)))) = false := decide_eq_false c20
        clear c20
        replace H := Option.bind_eq_some_iff.mp H
        obtain ⟨t425, A290, H⟩ := H
        replace H : ((decomp_Build.f t425 t404).bind fun bt428 => (if bt428.2.2 = 0 then (if t419 = 0 then (if (bt428.1.length : Int) = 1 then (if 0 < (bt428.1.length : Int) then (if ((rd_L1 bt428.1 0).length : Int) = (wrap64 (1 + (Int.tmod (Go.bits .and .i64 a0 65535) 12))) then (if (t413.length : Int) = (wrap64 (1 + (Int.tmod (Go.bits .and .i64 a0 65535) 12))) then (arboristlaw11_DecompWhole.j2 k1 (wrap64 (1 + (Int.tmod (Go.bits .and .i64 a0 65535) 12))) t403 t404 ((t416.length : Int) != (wrap64 (1 + (Int.tmod (Go.bits .and .i64 a0 65535) 12)))) t413 t416 bt428.1 bt428.2.1) else (arboristlaw11_DecompWhole.j2 k1 (wrap64 (1 + (Int.tmod (Go.bits .and .i64 a0 65535) 12))) t403 t404 true t413 t416 bt428.1 bt428.2.1)) else (arboristlaw11_DecompWhole.j2 k1 (wrap64 (1 + (Int.tmod (Go.bits .and .i64 a0 65535) 12))) t403 t404 true t413 t416 bt428.1 bt428.2.1)) else (none)) else (arboristlaw11_DecompWhole.j2 k1 (wrap64 (1 + (Int.tmod (Go.bits .and .i64 a0 65535) 12))) t403 t404 true t413 t416 bt428.1 bt428.2.1)) else (arboristlaw11_DecompWhole.j2 k1 (wrap64 (1 + (Int.tmod (Go.bits .and .i64 a0 65535) 12))) t403 t404 true t413 t416 bt428.1 bt428.2.1)) else (arboristlaw11_DecompWhole.j2 k1 (wrap64 (1 + (Int.tmod (Go.bits .and .i64 a0 65535) 12))) t403 t404 true t413 t416 bt428.1 bt428.2.1))) = some r := H
        have A29 := Aside0.mk A290
        clear A290
        replace H := Option.bind_eq_some_iff.mp H
        obtain ⟨⟨t428, t431, t434⟩, A300, H⟩ := H
        replace H : (if t434 = 0 then (if t419 = 0 then (if (t428.length : Int) = 1 then (if 0 < (t428.length : Int) then (if ((rd_L1 t428 0).length : Int) = (wrap64 (1 + (Int.tmod (Go.bits .and .i64 a0 65535) 12))) then (if (t413.length : Int) = (wrap64 (1 + (Int.tmod (Go.bits .and .i64 a0 65535) 12))) then (arboristlaw11_DecompWhole.j2 k1 (wrap64 (1 + (Int.tmod (Go.bits .and .i64 a0 65535) 12))) t403 t404 ((t416.length : Int) != (wrap64 (1 + (Int.tmod (Go.bits .and .i64 a0 65535) 12)))) t413 t416 t428 t431) else (arboristlaw11_DecompWhole.j2 k1 (wrap64 (1 + (Int.tmod (Go.bits .and .i64 a0 65535) 12))) t403 t404 true t413 t416 t428 t431)) else (arboristlaw11_DecompWhole.j2 k1 (wrap64 (1 + (Int.tmod (Go.bits .and .i64 a0 65535) 12))) t403 t404 true t413 t416 t428 t431)) else (none)) else (arboristlaw11_DecompWhole.j2 k1 (wrap64 (1 + (Int.tmod (Go.bits .and .i64 a0 65535) 12))) t403 t404 true t413 t416 t428 t431)) else (arboristlaw11_DecompWhole.j2 k1 (wrap64 (1 + (Int.tmod (Go.bits .and .i64 a0 65535) 12))) t403 t404 true t413 t416 t428 t431)) else (arboristlaw11_DecompWhole.j2 k1 (wrap64 (1 + (Int.tmod (Go.bits .and .i64 a0 65535) 12))) t403 t404 true t413 t416 t428 t431)) = some r := H
        have A30 := Aside0.mk A300
        clear A300
        have HC31 := Aside0.mk H
        clear H
        go_upto_region 14 with (first | (go_at_call 13; (with_reducible refine (arboristref08_Graph.calls k1 _ _ x7_1 t425 _ ?side1 ?side2 A29.out).mono ?_); (case side1 => repeat (first | exact (Kd.S_reads' HO_7.out).2.2 | (with_reducible refine Kd.C_alloc ?_ _) | (with_reducible refine Kd.C_drewN ?_ _) | (with_reducible refine Kd.C_drew ?_))); (case side2 => exact (Kd.S_reads' HO_7.out).2.1); rintro e w32 ⟨v426, rfl, ho0, hb⟩; have n0_ := Aside0.mk (Kd.R_below (by (with_reducible repeat (first | apply Kd.R_alloc | apply Kd.R_drewN | apply Kd.R_drew)); exact HO_6.out) hb); have n1_ := Aside0.mk (Kd.S_below (by (with_reducible repeat (first | apply Kd.S_alloc | apply Kd.S_drewN | apply Kd.S_drew)); exact HO_7.out) hb); have n2_ := Aside0.mk (Kd.S_below (by (with_reducible repeat (first | apply Kd.S_alloc | apply Kd.S_drewN | apply Kd.S_drew)); exact HO_421000.out) hb); have n3_ := Aside0.mk (Kd.R_below (by (with_reducible repeat (first | apply Kd.R_alloc | apply Kd.R_drewN | apply Kd.R_drew)); exact HO_421001.out) hb); have n4_ := Aside0.mk (Kd.R_lower ho0 (below_size (by repeat (first | (with_reducible first | exact HB.out | apply below_alloc | apply pw_below_drewN | apply below_drew1 | refine below_set ?_ GE420.out) | exact HB.out)))); have n5_ := Aside0.mk (blk_below (g := gb420) (o := .cells #[.slice Ao17 t413.length co17, .slice Ao19 t416.length co19] 28 (0, 0)) (by (with_reducible repeat (first | refine blk_drewN ?_ _ | refine blk_drew ?_ | refine blk_alloc ?_ _)); exact BK420.out) hb); have n6_ := Aside0.mk (below_step (by repeat (first | (with_reducible first | exact HB.out | apply below_alloc | apply pw_below_drewN | apply below_drew1 | refine below_set ?_ GE420.out) | exact HB.out)) hb); clear HO_6; clear HO_7; clear HO_421000; clear HO_421001; clear BK420; clear HB; have HO_6 := n0_; have HO_7 := n1_; have HO_421000 := n2_; have HO_421001 := n3_; have HO427 := n4_; have BK420 := n5_; have HB := n6_; clear n0_ n1_ n2_ n3_ n4_ n5_ n6_; (try clear hb); (try clear hb2); (try clear hk); (try clear hi); (try clear ho0); obtain ⟨Ao33, co33, eo33⟩ := Kd.R_slice HO427.out; subst eo33) | (go_at_call 12; (with_reducible refine (decomp_Build.calls (hTb := (by first | exact HTAB.out | exact tab_drewN HTAB.out _ | exact tab_below HTAB.out (by repeat (first | (with_reducible first | exact HB.out | apply below_alloc | apply pw_below_drewN | apply below_drew1 | refine below_set ?_ GE420.out | refine below_set ?_ GE435.out) | exact HB.out)))) _ _ t425 _ _ t404 t428 t431 t434 _ ?side1 ?side2 ?side3 ?side4 A30.out).mono ?_); (case side1 => repeat (first | exact (Kd.R_reads' HO427.out).2.2 | (with_reducible refine Kd.C_alloc ?_ _) | (with_reducible refine Kd.C_drewN ?_ _) | (with_reducible refine Kd.C_drew ?_))); (case side2 => exact (Kd.R_reads' HO427.out).2.1); (case side3 => repeat (first | exact (Kd.R_reads' HO_6.out).2.2 | (with_reducible refine Kd.C_alloc ?_ _) | (with_reducible refine Kd.C_drewN ?_ _) | (with_reducible refine Kd.C_drew ?_))); (case side4 => exact (Kd.R_reads' HO_6.out).2.1); rintro e w34 ⟨v429, v432, rfl, ho0, ho1, hb⟩; have n0_ := Aside0.mk (Kd.R_elder' (by (with_reducible repeat (first | apply Kd.R_alloc | apply Kd.R_drewN | apply Kd.R_drew)); exact HO_6.out) (Kd.R_base ho1) hb); have n1_ := Aside0.mk (Kd.S_below (by (with_reducible repeat (first | apply Kd.S_alloc | apply Kd.S_drewN | apply Kd.S_drew)); exact HO_7.out) hb); have n2_ := Aside0.mk (Kd.S_mono (Kd.S_told (Kd.S_told (Kd.S_old (by (with_reducible repeat (first | apply Kd.S_alloc | apply Kd.S_drewN | apply Kd.S_drew)); exact HO_421000.out) hb) (Kd.S_base ho0)) (Kd.R_base ho1)) (fun _ h_ => h_.1)); have n3_ := Aside0.mk (Kd.R_elder' (by (with_reducible repeat (first | apply Kd.R_alloc | apply Kd.R_drewN | apply Kd.R_drew)); exact HO_421001.out) (Kd.R_base ho1) hb); have n4_ := Aside0.mk (Kd.R_below (by (with_reducible repeat (first | apply Kd.R_alloc | apply Kd.R_drewN | apply Kd.R_drew)); exact HO427.out) hb); have n5_ := Aside0.mk (Kd.S_lower (Kd.S_new' (Kd.S_new' (Kd.S_new' ho0 (Kd.R_lt (by (with_reducible repeat (first | apply Kd.R_alloc | apply Kd.R_drewN | apply Kd.R_drew)); exact HO_6.out))) (Kd.S_lt (by (with_reducible repeat (first | apply Kd.S_alloc | apply Kd.S_drewN | apply Kd.S_drew)); exact HO_421000.out))) (Kd.R_lt (by (with_reducible repeat (first | apply Kd.R_alloc | apply Kd.R_drewN | apply Kd.R_drew)); exact HO_421001.out))) (below_size (by repeat (first | (with_reducible first | exact HB.out | apply below_alloc | apply pw_below_drewN | apply below_drew1 | refine below_set ?_ GE420.out) | exact HB.out)))); have n6_ := Aside0.mk (Kd.R_lower (Kd.R_new' (Kd.R_new' ho1 (Kd.R_lt (by (with_reducible repeat (first | apply Kd.R_alloc | apply Kd.R_drewN | apply Kd.R_drew)); exact HO_6.out))) (Kd.R_lt (by (with_reducible repeat (first | apply Kd.R_alloc | apply Kd.R_drewN | apply Kd.R_drew)); exact HO_421001.out))) (below_size (by repeat (first | (with_reducible first | exact HB.out | apply below_alloc | apply pw_below_drewN | apply below_drew1 | refine below_set ?_ GE420.out) | exact HB.out)))); have n7_ := Aside0.mk (blk_below (g := gb420) (o := .cells #[.slice Ao17 t413.length co17, .slice Ao19 t416.length co19] 28 (0, 0)) (by (with_reducible repeat (first | refine blk_drewN ?_ _ | refine blk_drew ?_ | refine blk_alloc ?_ _)); exact BK420.out) hb); have n8_ := Aside0.mk (below_step (by repeat (first | (with_reducible first | exact HB.out | apply below_alloc | apply pw_below_drewN | apply below_drew1 | refine below_set ?_ GE420.out) | exact HB.out)) hb); clear HO_6; clear HO_7; clear HO_421000; clear HO_421001; clear HO427; clear BK420; clear HB; have HO_6 := n0_; have HO_7 := n1_; have HO_421000 := n2_; have HO_421001 := n3_; have HO427 := n4_; have HO430 := n5_; have HO433 := n6_; have BK420 := n7_; have HB := n8_; clear n0_ n1_ n2_ n3_ n4_ n5_ n6_ n7_ n8_; (try clear hb); (try clear hb2); (try clear hk); (try clear hi); (try clear ho0); (try clear ho1)) | ((with_reducible refine gate_dst (N := 12) rfl ?_); (try (refine gate_guard (by rfl) ?_; dsimp only)); refine box_event ?hg (N := 12) ?hd (cs := #[.slice none 0 0, .slice none 0 0]) (t := 28) ?hr ?_; (case hd => rfl); (case hg => rfl); (case hr => first | (go_simp; done) | (go_simp; rfl)); intro gb435 hg w35 hbox hb; have n0_ := Aside0.mk (Kd.R_below (by (with_reducible repeat (first | apply Kd.R_alloc | apply Kd.R_drewN | apply Kd.R_drew)); exact HO_6.out) hb); have n1_ := Aside0.mk (Kd.S_below (by (with_reducible repeat (first | apply Kd.S_alloc | apply Kd.S_drewN | apply Kd.S_drew)); exact HO_7.out) hb); have n2_ := Aside0.mk (Kd.S_below (by (with_reducible repeat (first | apply Kd.S_alloc | apply Kd.S_drewN | apply Kd.S_drew)); exact HO_421000.out) hb); have n3_ := Aside0.mk (Kd.R_below (by (with_reducible repeat (first | apply Kd.R_alloc | apply Kd.R_drewN | apply Kd.R_drew)); exact HO_421001.out) hb); have n4_ := Aside0.mk (Kd.R_below (by (with_reducible repeat (first | apply Kd.R_alloc | apply Kd.R_drewN | apply Kd.R_drew)); exact HO427.out) hb); have n5_ := Aside0.mk (Kd.S_below (by (with_reducible repeat (first | apply Kd.S_alloc | apply Kd.S_drewN | apply Kd.S_drew)); exact HO430.out) hb); have n6_ := Aside0.mk (Kd.R_below (by (with_reducible repeat (first | apply Kd.R_alloc | apply Kd.R_drewN | apply Kd.R_drew)); exact HO433.out) hb); have n7_ := Aside0.mk (blk_below (g := gb420) (o := .cells #[.slice Ao17 t413.length co17, .slice Ao19 t416.length co19] 28 (0, 0)) (by (with_reducible repeat (first | refine blk_drewN ?_ _ | refine blk_drew ?_ | refine blk_alloc ?_ _)); exact BK420.out) hb); have n8_ := Aside0.mk (below_step (by repeat (first | (with_reducible first | exact HB.out | apply below_alloc | apply pw_below_drewN | apply below_drew1 | refine below_set ?_ GE420.out) | exact HB.out)) hb); have n9_ := Aside0.mk (hbox); have n10_ := Aside0.mk ((by rw [hg]; exact (below_size (by repeat (first | (with_reducible first | exact HB.out | apply below_alloc | apply pw_below_drewN | apply below_drew1 | refine below_set ?_ GE420.out) | exact HB.out))) : w.heap.size ≤ gb435)); have n11_ := Aside0.mk ((by rw [hg]; exact (below_size (by repeat (first | (with_reducible first | exact HB.out | apply below_alloc | apply pw_below_drewN | apply below_drew1 | refine below_set ?_ GE420.out) | exact HB.out))) : w.heap.size ≤ gb435)); have n12_ := Aside0.mk ((by rw [hg]; exact Nat.ne_of_lt (blk_lt (g := gb420) (o := .cells #[.slice Ao17 t413.length co17, .slice Ao19 t416.length co19] 28 (0, 0)) (by (with_reducible repeat (first | refine blk_drewN ?_ _ | refine blk_drew ?_ | refine blk_alloc ?_ _)); exact BK420.out)) : gb420 ≠ gb435)); have n13_ := Aside0.mk ((by rw [hg]; exact Nat.ne_of_gt (blk_lt (g := gb420) (o := .cells #[.slice Ao17 t413.length co17, .slice Ao19 t416.length co19] 28 (0, 0)) (by (with_reducible repeat (first | refine blk_drewN ?_ _ | refine blk_drew ?_ | refine blk_alloc ?_ _)); exact BK420.out)) : gb435 ≠ gb420)); clear HO_6; clear HO_7; clear HO_421000; clear HO_421001; clear HO427; clear HO430; clear HO433; clear BK420; clear HB; have HO_6 := n0_; have HO_7 := n1_; have HO_421000 := n2_; have HO_421001 := n3_; have HO427 := n4_; have HO430 := n5_; have HO433 := n6_; have BK420 := n7_; have HB := n8_; have BK435 := n9_; have GW435 := n10_; have GE435 := n11_; have NB420_435 := n12_; have NB435_420 := n13_; clear n0_ n1_ n2_ n3_ n4_ n5_ n6_ n7_ n8_ n9_ n10_ n11_ n12_ n13_; clear hb hbox hg; obtain ⟨Ao36, co36, eo36⟩ := Kd.S_slice HO430.out; subst eo36; have hnb37 := NB435_420.out; have hnc37 := NB420_435.out; have hcz38_0 : w35.cell? ⟨gb435, 0, none⟩ = some (.slice none 0 0) := (blk_cell BK435.out 0).trans rfl; have hcz38_1 : w35.cell? ⟨gb435, 1, none⟩ = some (.slice none 0 0) := (blk_cell BK435.out 1).trans rfl; have hfz38_0 := blk_frozen BK435.out 0; have hfz38_1 := blk_frozen BK435.out 1; obtain ⟨Ao39, co39, eo39⟩ := Kd.R_slice HO433.out; subst eo39))
        repeat (go_quiet (first | (go_at_call 13; (with_reducible refine (arboristref08_Graph.calls k1 _ _ x7_1 t425 _ ?side1 ?side2 A29.out).mono ?_); (case side1 => repeat (first | exact (Kd.S_reads' HO_7.out).2.2 | (with_reducible refine Kd.C_alloc ?_ _) | (with_reducible refine Kd.C_drewN ?_ _) | (with_reducible refine Kd.C_drew ?_))); (case side2 => exact (Kd.S_reads' HO_7.out).2.1); rintro e w32 ⟨v426, rfl, ho0, hb⟩; have n0_ := Aside0.mk (Kd.R_below (by (with_reducible repeat (first | apply Kd.R_alloc | apply Kd.R_drewN | apply Kd.R_drew)); exact HO_6.out) hb); have n1_ := Aside0.mk (Kd.S_below (by (with_reducible repeat (first | apply Kd.S_alloc | apply Kd.S_drewN | apply Kd.S_drew)); exact HO_7.out) hb); have n2_ := Aside0.mk (Kd.S_below (by (with_reducible repeat (first | apply Kd.S_alloc | apply Kd.S_drewN | apply Kd.S_drew)); exact HO_421000.out) hb); have n3_ := Aside0.mk (Kd.R_below (by (with_reducible repeat (first | apply Kd.R_alloc | apply Kd.R_drewN | apply Kd.R_drew)); exact HO_421001.out) hb); have n4_ := Aside0.mk (Kd.R_lower ho0 (below_size (by repeat (first | (with_reducible first | exact HB.out | apply below_alloc | apply pw_below_drewN | apply below_drew1 | refine below_set ?_ GE420.out) | exact HB.out)))); have n5_ := Aside0.mk (blk_below (g := gb420) (o := .cells #[.slice Ao17 t413.length co17, .slice Ao19 t416.length co19] 28 (0, 0)) (by (with_reducible repeat (first | refine blk_drewN ?_ _ | refine blk_drew ?_ | refine blk_alloc ?_ _)); exact BK420.out) hb); have n6_ := Aside0.mk (below_step (by repeat (first | (with_reducible first | exact HB.out | apply below_alloc | apply pw_below_drewN | apply below_drew1 | refine below_set ?_ GE420.out) | exact HB.out)) hb); clear HO_6; clear HO_7; clear HO_421000; clear HO_421001; clear BK420; clear HB; have HO_6 := n0_; have HO_7 := n1_; have HO_421000 := n2_; have HO_421001 := n3_; have HO427 := n4_; have BK420 := n5_; have HB := n6_; clear n0_ n1_ n2_ n3_ n4_ n5_ n6_; (try clear hb); (try clear hb2); (try clear hk); (try clear hi); (try clear ho0); obtain ⟨Ao33, co33, eo33⟩ := Kd.R_slice HO427.out; subst eo33) | (go_at_call 12; (with_reducible refine (decomp_Build.calls (hTb := (by first | exact HTAB.out | exact tab_drewN HTAB.out _ | exact tab_below HTAB.out (by repeat (first | (with_reducible first | exact HB.out | apply below_alloc | apply pw_below_drewN | apply below_drew1 | refine below_set ?_ GE420.out | refine below_set ?_ GE435.out) | exact HB.out)))) _ _ t425 _ _ t404 t428 t431 t434 _ ?side1 ?side2 ?side3 ?side4 A30.out).mono ?_); (case side1 => repeat (first | exact (Kd.R_reads' HO427.out).2.2 | (with_reducible refine Kd.C_alloc ?_ _) | (with_reducible refine Kd.C_drewN ?_ _) | (with_reducible refine Kd.C_drew ?_))); (case side2 => exact (Kd.R_reads' HO427.out).2.1); (case side3 => repeat (first | exact (Kd.R_reads' HO_6.out).2.2 | (with_reducible refine Kd.C_alloc ?_ _) | (with_reducible refine Kd.C_drewN ?_ _) | (with_reducible refine Kd.C_drew ?_))); (case side4 => exact (Kd.R_reads' HO_6.out).2.1); rintro e w34 ⟨v429, v432, rfl, ho0, ho1, hb⟩; have n0_ := Aside0.mk (Kd.R_elder' (by (with_reducible repeat (first | apply Kd.R_alloc | apply Kd.R_drewN | apply Kd.R_drew)); exact HO_6.out) (Kd.R_base ho1) hb); have n1_ := Aside0.mk (Kd.S_below (by (with_reducible repeat (first | apply Kd.S_alloc | apply Kd.S_drewN | apply Kd.S_drew)); exact HO_7.out) hb); have n2_ := Aside0.mk (Kd.S_mono (Kd.S_told (Kd.S_told (Kd.S_old (by (with_reducible repeat (first | apply Kd.S_alloc | apply Kd.S_drewN | apply Kd.S_drew)); exact HO_421000.out) hb) (Kd.S_base ho0)) (Kd.R_base ho1)) (fun _ h_ => h_.1)); have n3_ := Aside0.mk (Kd.R_elder' (by (with_reducible repeat (first | apply Kd.R_alloc | apply Kd.R_drewN | apply Kd.R_drew)); exact HO_421001.out) (Kd.R_base ho1) hb); have n4_ := Aside0.mk (Kd.R_below (by (with_reducible repeat (first | apply Kd.R_alloc | apply Kd.R_drewN | apply Kd.R_drew)); exact HO427.out) hb); have n5_ := Aside0.mk (Kd.S_lower (Kd.S_new' (Kd.S_new' (Kd.S_new' ho0 (Kd.R_lt (by (with_reducible repeat (first | apply Kd.R_alloc | apply Kd.R_drewN | apply Kd.R_drew)); exact HO_6.out))) (Kd.S_lt (by (with_reducible repeat (first | apply Kd.S_alloc | apply Kd.S_drewN | apply Kd.S_drew)); exact HO_421000.out))) (Kd.R_lt (by (with_reducible repeat (first | apply Kd.R_alloc | apply Kd.R_drewN | apply Kd.R_drew)); exact HO_421001.out))) (below_size (by repeat (first | (with_reducible first | exact HB.out | apply below_alloc | apply pw_below_drewN | apply below_drew1 | refine below_set ?_ GE420.out) | exact HB.out)))); have n6_ := Aside0.mk (Kd.R_lower (Kd.R_new' (Kd.R_new' ho1 (Kd.R_lt (by (with_reducible repeat (first | apply Kd.R_alloc | apply Kd.R_drewN | apply Kd.R_drew)); exact HO_6.out))) (Kd.R_lt (by (with_reducible repeat (first | apply Kd.R_alloc | apply Kd.R_drewN | apply Kd.R_drew)); exact HO_421001.out))) (below_size (by repeat (first | (with_reducible first | exact HB.out | apply below_alloc | apply pw_below_drewN | apply below_drew1 | refine below_set ?_ GE420.out) | exact HB.out)))); have n7_ := Aside0.mk (blk_below (g := gb420) (o := .cells #[.slice Ao17 t413.length co17, .slice Ao19 t416.length co19] 28 (0, 0)) (by (with_reducible repeat (first | refine blk_drewN ?_ _ | refine blk_drew ?_ | refine blk_alloc ?_ _)); exact BK420.out) hb); have n8_ := Aside0.mk (below_step (by repeat (first | (with_reducible first | exact HB.out | apply below_alloc | apply pw_below_drewN | apply below_drew1 | refine below_set ?_ GE420.out) | exact HB.out)) hb); clear HO_6; clear HO_7; clear HO_421000; clear HO_421001; clear HO427; clear BK420; clear HB; have HO_6 := n0_; have HO_7 := n1_; have HO_421000 := n2_; have HO_421001 := n3_; have HO427 := n4_; have HO430 := n5_; have HO433 := n6_; have BK420 := n7_; have HB := n8_; clear n0_ n1_ n2_ n3_ n4_ n5_ n6_ n7_ n8_; (try clear hb); (try clear hb2); (try clear hk); (try clear hi); (try clear ho0); (try clear ho1)) | ((with_reducible refine gate_dst (N := 12) rfl ?_); (try (refine gate_guard (by rfl) ?_; dsimp only)); refine box_event ?hg (N := 12) ?hd (cs := #[.slice none 0 0, .slice none 0 0]) (t := 28) ?hr ?_; (case hd => rfl); (case hg => rfl); (case hr => first | (go_simp; done) | (go_simp; rfl)); intro gb435 hg w35 hbox hb; have n0_ := Aside0.mk (Kd.R_below (by (with_reducible repeat (first | apply Kd.R_alloc | apply Kd.R_drewN | apply Kd.R_drew)); exact HO_6.out) hb); have n1_ := Aside0.mk (Kd.S_below (by (with_reducible repeat (first | apply Kd.S_alloc | apply Kd.S_drewN | apply Kd.S_drew)); exact HO_7.out) hb); have n2_ := Aside0.mk (Kd.S_below (by (with_reducible repeat (first | apply Kd.S_alloc | apply Kd.S_drewN | apply Kd.S_drew)); exact HO_421000.out) hb); have n3_ := Aside0.mk (Kd.R_below (by (with_reducible repeat (first | apply Kd.R_alloc | apply Kd.R_drewN | apply Kd.R_drew)); exact HO_421001.out) hb); have n4_ := Aside0.mk (Kd.R_below (by (with_reducible repeat (first | apply Kd.R_alloc | apply Kd.R_drewN | apply Kd.R_drew)); exact HO427.out) hb); have n5_ := Aside0.mk (Kd.S_below (by (with_reducible repeat (first | apply Kd.S_alloc | apply Kd.S_drewN | apply Kd.S_drew)); exact HO430.out) hb); have n6_ := Aside0.mk (Kd.R_below (by (with_reducible repeat (first | apply Kd.R_alloc | apply Kd.R_drewN | apply Kd.R_drew)); exact HO433.out) hb); have n7_ := Aside0.mk (blk_below (g := gb420) (o := .cells #[.slice Ao17 t413.length co17, .slice Ao19 t416.length co19] 28 (0, 0)) (by (with_reducible repeat (first | refine blk_drewN ?_ _ | refine blk_drew ?_ | refine blk_alloc ?_ _)); exact BK420.out) hb); have n8_ := Aside0.mk (below_step (by repeat (first | (with_reducible first | exact HB.out | apply below_alloc | apply pw_below_drewN | apply below_drew1 | refine below_set ?_ GE420.out) | exact HB.out)) hb); have n9_ := Aside0.mk (hbox); have n10_ := Aside0.mk ((by rw [hg]; exact (below_size (by repeat (first | (with_reducible first | exact HB.out | apply below_alloc | apply pw_below_drewN | apply below_drew1 | refine below_set ?_ GE420.out) | exact HB.out))) : w.heap.size ≤ gb435)); have n11_ := Aside0.mk ((by rw [hg]; exact (below_size (by repeat (first | (with_reducible first | exact HB.out | apply below_alloc | apply pw_below_drewN | apply below_drew1 | refine below_set ?_ GE420.out) | exact HB.out))) : w.heap.size ≤ gb435)); have n12_ := Aside0.mk ((by rw [hg]; exact Nat.ne_of_lt (blk_lt (g := gb420) (o := .cells #[.slice Ao17 t413.length co17, .slice Ao19 t416.length co19] 28 (0, 0)) (by (with_reducible repeat (first | refine blk_drewN ?_ _ | refine blk_drew ?_ | refine blk_alloc ?_ _)); exact BK420.out)) : gb420 ≠ gb435)); have n13_ := Aside0.mk ((by rw [hg]; exact Nat.ne_of_gt (blk_lt (g := gb420) (o := .cells #[.slice Ao17 t413.length co17, .slice Ao19 t416.length co19] 28 (0, 0)) (by (with_reducible repeat (first | refine blk_drewN ?_ _ | refine blk_drew ?_ | refine blk_alloc ?_ _)); exact BK420.out)) : gb435 ≠ gb420)); clear HO_6; clear HO_7; clear HO_421000; clear HO_421001; clear HO427; clear HO430; clear HO433; clear BK420; clear HB; have HO_6 := n0_; have HO_7 := n1_; have HO_421000 := n2_; have HO_421001 := n3_; have HO427 := n4_; have HO430 := n5_; have HO433 := n6_; have BK420 := n7_; have HB := n8_; have BK435 := n9_; have GW435 := n10_; have GE435 := n11_; have NB420_435 := n12_; have NB435_420 := n13_; clear n0_ n1_ n2_ n3_ n4_ n5_ n6_ n7_ n8_ n9_ n10_ n11_ n12_ n13_; clear hb hbox hg; obtain ⟨Ao36, co36, eo36⟩ := Kd.S_slice HO430.out; subst eo36; have hnb37 := NB435_420.out; have hnc37 := NB420_435.out; have hcz38_0 : w35.cell? ⟨gb435, 0, none⟩ = some (.slice none 0 0) := (blk_cell BK435.out 0).trans rfl; have hcz38_1 : w35.cell? ⟨gb435, 1, none⟩ = some (.slice none 0 0) := (blk_cell BK435.out 1).trans rfl; have hfz38_0 := blk_frozen BK435.out 0; have hfz38_1 := blk_frozen BK435.out 1; obtain ⟨Ao39, co39, eo39⟩ := Kd.R_slice HO433.out; subst eo39)); go_upto_region 14 with (first | (go_at_call 13; (with_reducible refine (arboristref08_Graph.calls k1 _ _ x7_1 t425 _ ?side1 ?side2 A29.out).mono ?_); (case side1 => repeat (first | exact (Kd.S_reads' HO_7.out).2.2 | (with_reducible refine Kd.C_alloc ?_ _) | (with_reducible refine Kd.C_drewN ?_ _) | (with_reducible refine Kd.C_drew ?_))); (case side2 => exact (Kd.S_reads' HO_7.out).2.1); rintro e w32 ⟨v426, rfl, ho0, hb⟩; have n0_ := Aside0.mk (Kd.R_below (by (with_reducible repeat (first | apply Kd.R_alloc | apply Kd.R_drewN | apply Kd.R_drew)); exact HO_6.out) hb); have n1_ := Aside0.mk (Kd.S_below (by (with_reducible repeat (first | apply Kd.S_alloc | apply Kd.S_drewN | apply Kd.S_drew)); exact HO_7.out) hb); have n2_ := Aside0.mk (Kd.S_below (by (with_reducible repeat (first | apply Kd.S_alloc | apply Kd.S_drewN | apply Kd.S_drew)); exact HO_421000.out) hb); have n3_ := Aside0.mk (Kd.R_below (by (with_reducible repeat (first | apply Kd.R_alloc | apply Kd.R_drewN | apply Kd.R_drew)); exact HO_421001.out) hb); have n4_ := Aside0.mk (Kd.R_lower ho0 (below_size (by repeat (first | (with_reducible first | exact HB.out | apply below_alloc | apply pw_below_drewN | apply below_drew1 | refine below_set ?_ GE420.out) | exact HB.out)))); have n5_ := Aside0.mk (blk_below (g := gb420) (o := .cells #[.slice Ao17 t413.length co17, .slice Ao19 t416.length co19] 28 (0, 0)) (by (with_reducible repeat (first | refine blk_drewN ?_ _ | refine blk_drew ?_ | refine blk_alloc ?_ _)); exact BK420.out) hb); have n6_ := Aside0.mk (below_step (by repeat (first | (with_reducible first | exact HB.out | apply below_alloc | apply pw_below_drewN | apply below_drew1 | refine below_set ?_ GE420.out) | exact HB.out)) hb); clear HO_6; clear HO_7; clear HO_421000; clear HO_421001; clear BK420; clear HB; have HO_6 := n0_; have HO_7 := n1_; have HO_421000 := n2_; have HO_421001 := n3_; have HO427 := n4_; have BK420 := n5_; have HB := n6_; clear n0_ n1_ n2_ n3_ n4_ n5_ n6_; (try clear hb); (try clear hb2); (try clear hk); (try clear hi); (try clear ho0); obtain ⟨Ao33, co33, eo33⟩ := Kd.R_slice HO427.out; subst eo33) | (go_at_call 12; (with_reducible refine (decomp_Build.calls (hTb := (by first | exact HTAB.out | exact tab_drewN HTAB.out _ | exact tab_below HTAB.out (by repeat (first | (with_reducible first | exact HB.out | apply below_alloc | apply pw_below_drewN | apply below_drew1 | refine below_set ?_ GE420.out | refine below_set ?_ GE435.out) | exact HB.out)))) _ _ t425 _ _ t404 t428 t431 t434 _ ?side1 ?side2 ?side3 ?side4 A30.out).mono ?_); (case side1 => repeat (first | exact (Kd.R_reads' HO427.out).2.2 | (with_reducible refine Kd.C_alloc ?_ _) | (with_reducible refine Kd.C_drewN ?_ _) | (with_reducible refine Kd.C_drew ?_))); (case side2 => exact (Kd.R_reads' HO427.out).2.1); (case side3 => repeat (first | exact (Kd.R_reads' HO_6.out).2.2 | (with_reducible refine Kd.C_alloc ?_ _) | (with_reducible refine Kd.C_drewN ?_ _) | (with_reducible refine Kd.C_drew ?_))); (case side4 => exact (Kd.R_reads' HO_6.out).2.1); rintro e w34 ⟨v429, v432, rfl, ho0, ho1, hb⟩; have n0_ := Aside0.mk (Kd.R_elder' (by (with_reducible repeat (first | apply Kd.R_alloc | apply Kd.R_drewN | apply Kd.R_drew)); exact HO_6.out) (Kd.R_base ho1) hb); have n1_ := Aside0.mk (Kd.S_below (by (with_reducible repeat (first | apply Kd.S_alloc | apply Kd.S_drewN | apply Kd.S_drew)); exact HO_7.out) hb); have n2_ := Aside0.mk (Kd.S_mono (Kd.S_told (Kd.S_told (Kd.S_old (by (with_reducible repeat (first | apply Kd.S_alloc | apply Kd.S_drewN | apply Kd.S_drew)); exact HO_421000.out) hb) (Kd.S_base ho0)) (Kd.R_base ho1)) (fun _ h_ => h_.1)); have n3_ := Aside0.mk (Kd.R_elder' (by (with_reducible repeat (first | apply Kd.R_alloc | apply Kd.R_drewN | apply Kd.R_drew)); exact HO_421001.out) (Kd.R_base ho1) hb); have n4_ := Aside0.mk (Kd.R_below (by (with_reducible repeat (first | apply Kd.R_alloc | apply Kd.R_drewN | apply Kd.R_drew)); exact HO427.out) hb); have n5_ := Aside0.mk (Kd.S_lower (Kd.S_new' (Kd.S_new' (Kd.S_new' ho0 (Kd.R_lt (by (with_reducible repeat (first | apply Kd.R_alloc | apply Kd.R_drewN | apply Kd.R_drew)); exact HO_6.out))) (Kd.S_lt (by (with_reducible repeat (first | apply Kd.S_alloc | apply Kd.S_drewN | apply Kd.S_drew)); exact HO_421000.out))) (Kd.R_lt (by (with_reducible repeat (first | apply Kd.R_alloc | apply Kd.R_drewN | apply Kd.R_drew)); exact HO_421001.out))) (below_size (by repeat (first | (with_reducible first | exact HB.out | apply below_alloc | apply pw_below_drewN | apply below_drew1 | refine below_set ?_ GE420.out) | exact HB.out)))); have n6_ := Aside0.mk (Kd.R_lower (Kd.R_new' (Kd.R_new' ho1 (Kd.R_lt (by (with_reducible repeat (first | apply Kd.R_alloc | apply Kd.R_drewN | apply Kd.R_drew)); exact HO_6.out))) (Kd.R_lt (by (with_reducible repeat (first | apply Kd.R_alloc | apply Kd.R_drewN | apply Kd.R_drew)); exact HO_421001.out))) (below_size (by repeat (first | (with_reducible first | exact HB.out | apply below_alloc | apply pw_below_drewN | apply below_drew1 | refine below_set ?_ GE420.out) | exact HB.out)))); have n7_ := Aside0.mk (blk_below (g := gb420) (o := .cells #[.slice Ao17 t413.length co17, .slice Ao19 t416.length co19] 28 (0, 0)) (by (with_reducible repeat (first | refine blk_drewN ?_ _ | refine blk_drew ?_ | refine blk_alloc ?_ _)); exact BK420.out) hb); have n8_ := Aside0.mk (below_step (by repeat (first | (with_reducible first | exact HB.out | apply below_alloc | apply pw_below_drewN | apply below_drew1 | refine below_set ?_ GE420.out) | exact HB.out)) hb); clear HO_6; clear HO_7; clear HO_421000; clear HO_421001; clear HO427; clear BK420; clear HB; have HO_6 := n0_; have HO_7 := n1_; have HO_421000 := n2_; have HO_421001 := n3_; have HO427 := n4_; have HO430 := n5_; have HO433 := n6_; have BK420 := n7_; have HB := n8_; clear n0_ n1_ n2_ n3_ n4_ n5_ n6_ n7_ n8_; (try clear hb); (try clear hb2); (try clear hk); (try clear hi); (try clear ho0); (try clear ho1)) | ((with_reducible refine gate_dst (N := 12) rfl ?_); (try (refine gate_guard (by rfl) ?_; dsimp only)); refine box_event ?hg (N := 12) ?hd (cs := #[.slice none 0 0, .slice none 0 0]) (t := 28) ?hr ?_; (case hd => rfl); (case hg => rfl); (case hr => first | (go_simp; done) | (go_simp; rfl)); intro gb435 hg w35 hbox hb; have n0_ := Aside0.mk (Kd.R_below (by (with_reducible repeat (first | apply Kd.R_alloc | apply Kd.R_drewN | apply Kd.R_drew)); exact HO_6.out) hb); have n1_ := Aside0.mk (Kd.S_below (by (with_reducible repeat (first | apply Kd.S_alloc | apply Kd.S_drewN | apply Kd.S_drew)); exact HO_7.out) hb); have n2_ := Aside0.mk (Kd.S_below (by (with_reducible repeat (first | apply Kd.S_alloc | apply Kd.S_drewN | apply Kd.S_drew)); exact HO_421000.out) hb); have n3_ := Aside0.mk (Kd.R_below (by (with_reducible repeat (first | apply Kd.R_alloc | apply Kd.R_drewN | apply Kd.R_drew)); exact HO_421001.out) hb); have n4_ := Aside0.mk (Kd.R_below (by (with_reducible repeat (first | apply Kd.R_alloc | apply Kd.R_drewN | apply Kd.R_drew)); exact HO427.out) hb); have n5_ := Aside0.mk (Kd.S_below (by (with_reducible repeat (first | apply Kd.S_alloc | apply Kd.S_drewN | apply Kd.S_drew)); exact HO430.out) hb); have n6_ := Aside0.mk (Kd.R_below (by (with_reducible repeat (first | apply Kd.R_alloc | apply Kd.R_drewN | apply Kd.R_drew)); exact HO433.out) hb); have n7_ := Aside0.mk (blk_below (g := gb420) (o := .cells #[.slice Ao17 t413.length co17, .slice Ao19 t416.length co19] 28 (0, 0)) (by (with_reducible repeat (first | refine blk_drewN ?_ _ | refine blk_drew ?_ | refine blk_alloc ?_ _)); exact BK420.out) hb); have n8_ := Aside0.mk (below_step (by repeat (first | (with_reducible first | exact HB.out | apply below_alloc | apply pw_below_drewN | apply below_drew1 | refine below_set ?_ GE420.out) | exact HB.out)) hb); have n9_ := Aside0.mk (hbox); have n10_ := Aside0.mk ((by rw [hg]; exact (below_size (by repeat (first | (with_reducible first | exact HB.out | apply below_alloc | apply pw_below_drewN | apply below_drew1 | refine below_set ?_ GE420.out) | exact HB.out))) : w.heap.size ≤ gb435)); have n11_ := Aside0.mk ((by rw [hg]; exact (below_size (by repeat (first | (with_reducible first | exact HB.out | apply below_alloc | apply pw_below_drewN | apply below_drew1 | refine below_set ?_ GE420.out) | exact HB.out))) : w.heap.size ≤ gb435)); have n12_ := Aside0.mk ((by rw [hg]; exact Nat.ne_of_lt (blk_lt (g := gb420) (o := .cells #[.slice Ao17 t413.length co17, .slice Ao19 t416.length co19] 28 (0, 0)) (by (with_reducible repeat (first | refine blk_drewN ?_ _ | refine blk_drew ?_ | refine blk_alloc ?_ _)); exact BK420.out)) : gb420 ≠ gb435)); have n13_ := Aside0.mk ((by rw [hg]; exact Nat.ne_of_gt (blk_lt (g := gb420) (o := .cells #[.slice Ao17 t413.length co17, .slice Ao19 t416.length co19] 28 (0, 0)) (by (with_reducible repeat (first | refine blk_drewN ?_ _ | refine blk_drew ?_ | refine blk_alloc ?_ _)); exact BK420.out)) : gb435 ≠ gb420)); clear HO_6; clear HO_7; clear HO_421000; clear HO_421001; clear HO427; clear HO430; clear HO433; clear BK420; clear HB; have HO_6 := n0_; have HO_7 := n1_; have HO_421000 := n2_; have HO_421001 := n3_; have HO427 := n4_; have HO430 := n5_; have HO433 := n6_; have BK420 := n7_; have HB := n8_; have BK435 := n9_; have GW435 := n10_; have GE435 := n11_; have NB420_435 := n12_; have NB435_420 := n13_; clear n0_ n1_ n2_ n3_ n4_ n5_ n6_ n7_ n8_ n9_ n10_ n11_ n12_ n13_; clear hb hbox hg; obtain ⟨Ao36, co36, eo36⟩ := Kd.S_slice HO430.out; subst eo36; have hnb37 := NB435_420.out; have hnc37 := NB420_435.out; have hcz38_0 : w35.cell? ⟨gb435, 0, none⟩ = some (.slice none 0 0) := (blk_cell BK435.out 0).trans rfl; have hcz38_1 : w35.cell? ⟨gb435, 1, none⟩ = some (.slice none 0 0) := (blk_cell BK435.out 1).trans rfl; have hfz38_0 := blk_frozen BK435.out 0; have hfz38_1 := blk_frozen BK435.out 1; obtain ⟨Ao39, co39, eo39⟩ := Kd.R_slice HO433.out; subst eo39)))
        (try simp only [Act.put, List.setIfInBounds_toArray, List.set_cons_zero, List.set_cons_succ])
        go_cut [93] (fun v93 wc => ∃ (kq : Nat) (x93_30 : Bool), v93 = .bool x93_30 ∧ Aside0 (arboristlaw11_DecompWhole.j2 kq (wrap64 (1 + (Int.tmod (Go.bits .and .i64 a0 65535) 12))) t403 t404 x93_30 t413 t416 t428 t431 = some r) ∧ Aside0 (kq ≤ k1) ∧ Aside0 (Kd.R (Kd.int .i64) 3 wc w.heap.size (fun k_ => some k_ ≠ ((.slice Ao19 t416.length co19) : Value).ownBlock ∧ some k_ ≠ ((.slice Ao39 t431.length co39) : Value).ownBlock) (.slice Ao14 t404.length co14) t404) ∧ Aside0 (Kd.S (Kd.slice 3 (Kd.int .i64)) 23 wc w.heap.size (fun k_ => some k_ ≠ ((.slice Ao14 t404.length co14) : Value).ownBlock ∧ some k_ ≠ ((.slice Ao19 t416.length co19) : Value).ownBlock ∧ some k_ ≠ ((.slice Ao36 t428.length co36) : Value).ownBlock ∧ some k_ ≠ ((.slice Ao39 t431.length co39) : Value).ownBlock) (.slice Ao17 t413.length co17) t413) ∧ Aside0 (Kd.R (Kd.int .i64) 3 wc w.heap.size (fun k_ => some k_ ≠ ((.slice Ao14 t404.length co14) : Value).ownBlock ∧ some k_ ≠ ((.slice Ao39 t431.length co39) : Value).ownBlock) (.slice Ao19 t416.length co19) t416) ∧ Aside0 (Kd.S (Kd.slice 3 (Kd.int .i64)) 23 wc w.heap.size (fun k_ => some k_ ≠ ((.slice Ao14 t404.length co14) : Value).ownBlock ∧ some k_ ≠ ((.slice Ao17 t413.length co17) : Value).ownBlock ∧ some k_ ≠ ((.slice Ao19 t416.length co19) : Value).ownBlock ∧ some k_ ≠ ((.slice Ao39 t431.length co39) : Value).ownBlock) (.slice Ao36 t428.length co36) t428) ∧ Aside0 (Kd.R (Kd.int .i64) 3 wc w.heap.size (fun k_ => some k_ ≠ ((.slice Ao14 t404.length co14) : Value).ownBlock ∧ some k_ ≠ ((.slice Ao19 t416.length co19) : Value).ownBlock) (.slice Ao39 t431.length co39) t431) ∧ Aside0 (wc.heap[gb420]? = some (.cells #[(.slice Ao17 t413.length co17), (.slice Ao19 t416.length co19)] 28 (0, 0))) ∧ Aside0 (wc.heap[gb435]? = some (.cells #[(.slice Ao36 t428.length co36), (.slice Ao39 t431.length co39)] 28 (0, 0))) ∧ Aside0 (Below w.heap.size w wc))
        case first =>
          have H := HC31.out
          clear HC31
          by_cases c40 : t434 = 0
          · rw [if_pos c40] at H
            have c40b0 : (t434 == 0) = true := beq_iff_eq.mpr c40
            have c40b1 : (t434 != 0) = false := bne_eq_false_iff_eq.mpr c40
            clear c40
            (first | rw [c40b0] | (simp only [i64_w, i32_w]; rw [c40b0]) | skip)
            by_cases c41 : t419 = 0
            · rw [if_pos c41] at H
              have c41b0 : (t419 == 0) = true := beq_iff_eq.mpr c41
              have c41b1 : (t419 != 0) = false := bne_eq_false_iff_eq.mpr c41
              clear c41
              by_cases c42 : (t428.length : Int) = 1
              · rw [if_pos c42] at H
                have c42b0 : ((t428.length : Int) == 1) = true := beq_iff_eq.mpr c42
                have c42b1 : ((t428.length : Int) != 1) = false := bne_eq_false_iff_eq.mpr c42
                clear c42
                by_cases c43 : 0 < (t428.length : Int)
                · rw [if_pos c43] at H
                  have c43b0 : decide (0 < (t428.length : Int)) = true := decide_eq_true c43
                  have c43b1 : decide (0 < t428.length) = true := decide_eq_true (by omega)
                  clear c43
                  by_cases c44 : ((rd_L1 t428 0).length : Int) = (wrap64 (1 + (Int.tmod (Go.bits .and .i64 a0 65535) 12)))
                  · rw [if_pos c44] at H
                    have c44b0 : (((rd_L1 t428 0).length : Int) == (wrap64 (1 + (Int.tmod (Go.bits .and .i64 a0 65535) 12)))) = true := beq_iff_eq.mpr c44
                    have c44b1 : (((rd_L1 t428 0).length : Int) != (wrap64 (1 + (Int.tmod (Go.bits .and .i64 a0 65535) 12)))) = false := bne_eq_false_iff_eq.mpr c44
                    clear c44
                    by_cases c45 : (t413.length : Int) = (wrap64 (1 + (Int.tmod (Go.bits .and .i64 a0 65535) 12)))
                    · rw [if_pos c45] at H
                      have c45b0 : ((t413.length : Int) == (wrap64 (1 + (Int.tmod (Go.bits .and .i64 a0 65535) 12)))) = true := beq_iff_eq.mpr c45
                      have c45b1 : ((t413.length : Int) != (wrap64 (1 + (Int.tmod (Go.bits .and .i64 a0 65535) 12)))) = false := bne_eq_false_iff_eq.mpr c45
                      clear c45
                      have H' := Aside0.mk H
                      clear H
                      have hnb46 := NB435_420.out
                      have hnc46 := NB420_435.out
                      have hcz47_0 : w35.cell? ⟨gb435, 0, none⟩ = some (.slice none 0 0) := (blk_cell BK435.out 0).trans rfl
                      have hcz47_1 : w35.cell? ⟨gb435, 1, none⟩ = some (.slice none 0 0) := (blk_cell BK435.out 1).trans rfl
                      have hfz47_0 := blk_frozen BK435.out 0
                      have hfz47_1 := blk_frozen BK435.out 1
                      have p436 : 0 ≤ (0 : Int) := (by omega)
                      have q436 : 0 < (t428.length : Int) := of_decide_eq_true (by first | (with_reducible assumption) | assumption)
                      obtain ⟨ad436, A436_0, c436_0, e436, hx436_0, hl436_0, hi436_0⟩ := at_L1 (Kd.S_reads' HO430.out).2.2 0 p436 q436
                      cases e436
                      have qi436 : (0 < t428.length) = True := eq_true (by omega)
                      (try rw [show ((0 : Int)).toNat = 0 from rfl] at hx436_0)
                      (try rw [Addr.add_zero'] at hx436_0)
                      have hn436_0 : ad436.block ≠ gb435 := (by first | exact Kd.own_blk (Kd.S_ne HO430.out BK435.out (by decide)) | exact Kd.own_blk (Kd.S_away HO430.out (fun _ hk => by first | exact hk.2 | exact hk.1.2 | exact hk.1.1.2 | exact hk.1.1.1.2)))
                      have hn436_1 : ad436.block ≠ gb435 := (by first | exact Kd.own_blk (Kd.S_ne HO430.out BK435.out (by decide)) | exact Kd.own_blk (Kd.S_away HO430.out (fun _ hk => by first | exact hk.2 | exact hk.1.2 | exact hk.1.1.2 | exact hk.1.1.1.2)))
                      have HR436_0 := Aside0.mk hi436_0
                      have HC436_0 := Aside0.mk hl436_0
                      clear hi436_0 hl436_0
                      replace hx436_0 := (cell_far (p := ⟨gb435, 0, none⟩) (by first | (rw [add_block]; exact hn436_0) | (show (Addr.add _ _).block ≠ _; rw [add_block]; exact hn436_0) | exact hn436_0) (.slice (some ad436) t428.length co36)).trans hx436_0
                      replace hx436_0 := (cell_far (p := ⟨gb435, 1, none⟩) (by first | (rw [add_block]; exact hn436_1) | (show (Addr.add _ _).block ≠ _; rw [add_block]; exact hn436_1) | exact hn436_1) (.slice Ao39 t431.length co39)).trans hx436_0
                      (try have hy436_0 := fun (n_ : Nat) => (show ((((w35.drewN n_).setCell ⟨gb435, 0, none⟩ (.slice (some ad436) t428.length co36)).setCell ⟨gb435, 1, none⟩ (.slice Ao39 t431.length co39))).cell? _ = some _ from hx436_0))
                      clear hn436_0
                      clear hn436_1
                      replace p436 := eq_true p436
                      replace q436 := eq_true q436
                      have hcz48_0 : w35.cell? ⟨gb420, 0, none⟩ = some (.slice Ao17 t413.length co17) := (blk_cell BK420.out 0).trans rfl
                      have hcz48_1 : w35.cell? ⟨gb420, 1, none⟩ = some (.slice Ao19 t416.length co19) := (blk_cell BK420.out 1).trans rfl
                      have hfz48_0 := blk_frozen BK420.out 0
                      have hfz48_1 := blk_frozen BK420.out 1
                      go_wp2
                      repeat (go_quiet (fail); try go_wp2)
                      go_meet
                      case rel => exact ⟨_, (((t416.length : Int) != (wrap64 (1 + (Int.tmod (Go.bits .and .i64 a0 65535) 12))))), (by first | rfl | (simp; done) | (simp [*]; done)), H', ⟨by have := HK1.out; first | omega | exact Nat.le_refl _⟩, ⟨by (try simp only [hl7_1]); (with_reducible repeat (first | apply Kd.R_alloc | apply Kd.R_drewN | apply Kd.R_drew)); exact Kd.R_mono (Kd.R_far (p := ⟨gb435, 1, none⟩) (Kd.R_far (p := ⟨gb435, 0, none⟩) (Kd.R_types HO_6.out BK435.out (by decide)) (fun _ hk => hk.2) (.slice (some ad436) t428.length co36)) (fun _ hk => hk.2) (.slice Ao39 t431.length co39)) (fun _ hk => ⟨hk.1.1, hk.1.2⟩)⟩, ⟨by (try simp only [hl7_1]); (with_reducible repeat (first | apply Kd.S_alloc | apply Kd.S_drewN | apply Kd.S_drew)); exact Kd.S_mono (Kd.S_far (p := ⟨gb435, 1, none⟩) (Kd.S_far (p := ⟨gb435, 0, none⟩) (Kd.S_types HO_421000.out BK435.out (by decide)) (fun _ hk => hk.2) (.slice (some ad436) t428.length co36)) (fun _ hk => hk.2) (.slice Ao39 t431.length co39)) (fun _ hk => ⟨hk.1.1.1.1, ⟨hk.1.1.1.2, ⟨hk.1.1.2, hk.1.2⟩⟩⟩)⟩, ⟨by (try simp only [hl7_1]); (with_reducible repeat (first | apply Kd.R_alloc | apply Kd.R_drewN | apply Kd.R_drew)); exact Kd.R_mono (Kd.R_far (p := ⟨gb435, 1, none⟩) (Kd.R_far (p := ⟨gb435, 0, none⟩) (Kd.R_types HO_421001.out BK435.out (by decide)) (fun _ hk => hk.2) (.slice (some ad436) t428.length co36)) (fun _ hk => hk.2) (.slice Ao39 t431.length co39)) (fun _ hk => ⟨hk.1.1, hk.1.2⟩)⟩, ⟨by (try simp only [hl7_1]); (with_reducible repeat (first | apply Kd.S_alloc | apply Kd.S_drewN | apply Kd.S_drew)); exact Kd.S_mono (Kd.S_far (p := ⟨gb435, 1, none⟩) (Kd.S_far (p := ⟨gb435, 0, none⟩) (Kd.S_types HO430.out BK435.out (by decide)) (fun _ hk => hk.2) (.slice (some ad436) t428.length co36)) (fun _ hk => hk.2) (.slice Ao39 t431.length co39)) (fun _ hk => ⟨hk.1.1.1.2, ⟨hk.1.1.2, ⟨hk.1.2, hk.1.1.1.1⟩⟩⟩)⟩, ⟨by (try simp only [hl7_1]); (with_reducible repeat (first | apply Kd.R_alloc | apply Kd.R_drewN | apply Kd.R_drew)); exact Kd.R_mono (Kd.R_far (p := ⟨gb435, 1, none⟩) (Kd.R_far (p := ⟨gb435, 0, none⟩) (Kd.R_types HO433.out BK435.out (by decide)) (fun _ hk => hk.2) (.slice (some ad436) t428.length co36)) (fun _ hk => hk.2) (.slice Ao39 t431.length co39)) (fun _ hk => ⟨hk.1.1.2, hk.1.2⟩)⟩, ⟨by (try simp only [hl7_1]); (with_reducible repeat (first | refine blk_drewN ?_ _ | refine blk_drew ?_ | refine blk_alloc ?_ _)); refine blk_far ?_ NB420_435.out _; (with_reducible repeat (first | refine blk_drewN ?_ _ | refine blk_drew ?_ | refine blk_alloc ?_ _)); refine blk_far ?_ NB420_435.out _; (with_reducible repeat (first | refine blk_drewN ?_ _ | refine blk_drew ?_ | refine blk_alloc ?_ _)); exact BK420.out⟩, ⟨by (try simp only [hl7_1]); (with_reducible repeat (first | refine blk_drewN ?_ _ | refine blk_drew ?_ | refine blk_alloc ?_ _)); refine blk_put (cs := #[.slice (some ad436) t428.length co36, .slice none 0 0]) ?_ 1 _ rfl; (with_reducible repeat (first | refine blk_drewN ?_ _ | refine blk_drew ?_ | refine blk_alloc ?_ _)); refine blk_put (cs := #[.slice none 0 0, .slice none 0 0]) ?_ 0 _ rfl; (with_reducible repeat (first | refine blk_drewN ?_ _ | refine blk_drew ?_ | refine blk_alloc ?_ _)); exact BK435.out⟩, ⟨by repeat (first | (with_reducible first | exact HB.out | apply below_alloc | apply pw_below_drewN | apply below_drew1 | refine below_set ?_ GE420.out | refine below_set ?_ GE435.out) | exact HB.out)⟩⟩
                    · rw [if_neg c45] at H
                      have c45b0 : ((t413.length : Int) == (wrap64 (1 + (Int.tmod (Go.bits .and .i64 a0 65535) 12)))) = false := beq_eq_false_iff_ne.mpr c45
                      have c45b1 : ((t413.length : Int) != (wrap64 (1 + (Int.tmod (Go.bits .and .i64 a0 65535) 12)))) = true := bne_iff_ne.mpr c45
                      have H' := Aside0.mk H
                      clear H
                      have hnb49 := NB435_420.out
                      have hnc49 := NB420_435.out
                      have hcz50_0 : w35.cell? ⟨gb435, 0, none⟩ = some (.slice none 0 0) := (blk_cell BK435.out 0).trans rfl
                      have hcz50_1 : w35.cell? ⟨gb435, 1, none⟩ = some (.slice none 0 0) := (blk_cell BK435.out 1).trans rfl
                      have hfz50_0 := blk_frozen BK435.out 0
                      have hfz50_1 := blk_frozen BK435.out 1
                      have p436 : 0 ≤ (0 : Int) := (by omega)
                      have q436 : 0 < (t428.length : Int) := of_decide_eq_true (by first | (with_reducible assumption) | assumption)
                      obtain ⟨ad436, A436_0, c436_0, e436, hx436_0, hl436_0, hi436_0⟩ := at_L1 (Kd.S_reads' HO430.out).2.2 0 p436 q436
                      cases e436
                      have qi436 : (0 < t428.length) = True := eq_true (by omega)
                      (try rw [show ((0 : Int)).toNat = 0 from rfl] at hx436_0)
                      (try rw [Addr.add_zero'] at hx436_0)
                      have hn436_0 : ad436.block ≠ gb435 := (by first | exact Kd.own_blk (Kd.S_ne HO430.out BK435.out (by decide)) | exact Kd.own_blk (Kd.S_away HO430.out (fun _ hk => by first | exact hk.2 | exact hk.1.2 | exact hk.1.1.2 | exact hk.1.1.1.2)))
                      have hn436_1 : ad436.block ≠ gb435 := (by first | exact Kd.own_blk (Kd.S_ne HO430.out BK435.out (by decide)) | exact Kd.own_blk (Kd.S_away HO430.out (fun _ hk => by first | exact hk.2 | exact hk.1.2 | exact hk.1.1.2 | exact hk.1.1.1.2)))
                      have HR436_0 := Aside0.mk hi436_0
                      have HC436_0 := Aside0.mk hl436_0
                      clear hi436_0 hl436_0
                      replace hx436_0 := (cell_far (p := ⟨gb435, 0, none⟩) (by first | (rw [add_block]; exact hn436_0) | (show (Addr.add _ _).block ≠ _; rw [add_block]; exact hn436_0) | exact hn436_0) (.slice (some ad436) t428.length co36)).trans hx436_0
                      replace hx436_0 := (cell_far (p := ⟨gb435, 1, none⟩) (by first | (rw [add_block]; exact hn436_1) | (show (Addr.add _ _).block ≠ _; rw [add_block]; exact hn436_1) | exact hn436_1) (.slice Ao39 t431.length co39)).trans hx436_0
                      (try have hy436_0 := fun (n_ : Nat) => (show ((((w35.drewN n_).setCell ⟨gb435, 0, none⟩ (.slice (some ad436) t428.length co36)).setCell ⟨gb435, 1, none⟩ (.slice Ao39 t431.length co39))).cell? _ = some _ from hx436_0))
                      clear hn436_0
                      clear hn436_1
                      replace p436 := eq_true p436
                      replace q436 := eq_true q436
                      have hcz51_0 : w35.cell? ⟨gb420, 0, none⟩ = some (.slice Ao17 t413.length co17) := (blk_cell BK420.out 0).trans rfl
                      have hcz51_1 : w35.cell? ⟨gb420, 1, none⟩ = some (.slice Ao19 t416.length co19) := (blk_cell BK420.out 1).trans rfl
                      have hfz51_0 := blk_frozen BK420.out 0
                      have hfz51_1 := blk_frozen BK420.out 1
                      go_wp2
                      repeat (go_quiet (fail); try go_wp2)
                      go_meet
                      case rel => exact ⟨_, (true), (by first | rfl | (simp; done) | (simp [*]; done)), H', ⟨by have := HK1.out; first | omega | exact Nat.le_refl _⟩, ⟨by (try simp only [hl7_1]); (with_reducible repeat (first | apply Kd.R_alloc | apply Kd.R_drewN | apply Kd.R_drew)); exact Kd.R_mono (Kd.R_far (p := ⟨gb435, 1, none⟩) (Kd.R_far (p := ⟨gb435, 0, none⟩) (Kd.R_types HO_6.out BK435.out (by decide)) (fun _ hk => hk.2) (.slice (some ad436) t428.length co36)) (fun _ hk => hk.2) (.slice Ao39 t431.length co39)) (fun _ hk => ⟨hk.1.1, hk.1.2⟩)⟩, ⟨by (try simp only [hl7_1]); (with_reducible repeat (first | apply Kd.S_alloc | apply Kd.S_drewN | apply Kd.S_drew)); exact Kd.S_mono (Kd.S_far (p := ⟨gb435, 1, none⟩) (Kd.S_far (p := ⟨gb435, 0, none⟩) (Kd.S_types HO_421000.out BK435.out (by decide)) (fun _ hk => hk.2) (.slice (some ad436) t428.length co36)) (fun _ hk => hk.2) (.slice Ao39 t431.length co39)) (fun _ hk => ⟨hk.1.1.1.1, ⟨hk.1.1.1.2, ⟨hk.1.1.2, hk.1.2⟩⟩⟩)⟩, ⟨by (try simp only [hl7_1]); (with_reducible repeat (first | apply Kd.R_alloc | apply Kd.R_drewN | apply Kd.R_drew)); exact Kd.R_mono (Kd.R_far (p := ⟨gb435, 1, none⟩) (Kd.R_far (p := ⟨gb435, 0, none⟩) (Kd.R_types HO_421001.out BK435.out (by decide)) (fun _ hk => hk.2) (.slice (some ad436) t428.length co36)) (fun _ hk => hk.2) (.slice Ao39 t431.length co39)) (fun _ hk => ⟨hk.1.1, hk.1.2⟩)⟩, ⟨by (try simp only [hl7_1]); (with_reducible repeat (first | apply Kd.S_alloc | apply Kd.S_drewN | apply Kd.S_drew)); exact Kd.S_mono (Kd.S_far (p := ⟨gb435, 1, none⟩) (Kd.S_far (p := ⟨gb435, 0, none⟩) (Kd.S_types HO430.out BK435.out (by decide)) (fun _ hk => hk.2) (.slice (some ad436) t428.length co36)) (fun _ hk => hk.2) (.slice Ao39 t431.length co39)) (fun _ hk => ⟨hk.1.1.1.2, ⟨hk.1.1.2, ⟨hk.1.2, hk.1.1.1.1⟩⟩⟩)⟩, ⟨by (try simp only [hl7_1]); (with_reducible repeat (first | apply Kd.R_alloc | apply Kd.R_drewN | apply Kd.R_drew)); exact Kd.R_mono (Kd.R_far (p := ⟨gb435, 1, none⟩) (Kd.R_far (p := ⟨gb435, 0, none⟩) (Kd.R_types HO433.out BK435.out (by decide)) (fun _ hk => hk.2) (.slice (some ad436) t428.length co36)) (fun _ hk => hk.2) (.slice Ao39 t431.length co39)) (fun _ hk => ⟨hk.1.1.2, hk.1.2⟩)⟩, ⟨by (try simp only [hl7_1]); (with_reducible repeat (first | refine blk_drewN ?_ _ | refine blk_drew ?_ | refine blk_alloc ?_ _)); refine blk_far ?_ NB420_435.out _; (with_reducible repeat (first | refine blk_drewN ?_ _ | refine blk_drew ?_ | refine blk_alloc ?_ _)); refine blk_far ?_ NB420_435.out _; (with_reducible repeat (first | refine blk_drewN ?_ _ | refine blk_drew ?_ | refine blk_alloc ?_ _)); exact BK420.out⟩, ⟨by (try simp only [hl7_1]); (with_reducible repeat (first | refine blk_drewN ?_ _ | refine blk_drew ?_ | refine blk_alloc ?_ _)); refine blk_put (cs := #[.slice (some ad436) t428.length co36, .slice none 0 0]) ?_ 1 _ rfl; (with_reducible repeat (first | refine blk_drewN ?_ _ | refine blk_drew ?_ | refine blk_alloc ?_ _)); refine blk_put (cs := #[.slice none 0 0, .slice none 0 0]) ?_ 0 _ rfl; (with_reducible repeat (first | refine blk_drewN ?_ _ | refine blk_drew ?_ | refine blk_alloc ?_ _)); exact BK435.out⟩, ⟨by repeat (first | (with_reducible first | exact HB.out | apply below_alloc | apply pw_below_drewN | apply below_drew1 | refine below_set ?_ GE420.out | refine below_set ?_ GE435.out) | exact HB.out)⟩⟩
                  · rw [if_neg c44] at H
                    have c44b0 : (((rd_L1 t428 0).length : Int) == (wrap64 (1 + (Int.tmod (Go.bits .and .i64 a0 65535) 12)))) = false := beq_eq_false_iff_ne.mpr c44
                    have c44b1 : (((rd_L1 t428 0).length : Int) != (wrap64 (1 + (Int.tmod (Go.bits .and .i64 a0 65535) 12)))) = true := bne_iff_ne.mpr c44
                    have H' := Aside0.mk H
                    clear H
                    have hnb52 := NB435_420.out
                    have hnc52 := NB420_435.out
                    have hcz53_0 : w35.cell? ⟨gb435, 0, none⟩ = some (.slice none 0 0) := (blk_cell BK435.out 0).trans rfl
                    have hcz53_1 : w35.cell? ⟨gb435, 1, none⟩ = some (.slice none 0 0) := (blk_cell BK435.out 1).trans rfl
                    have hfz53_0 := blk_frozen BK435.out 0
                    have hfz53_1 := blk_frozen BK435.out 1
                    have p436 : 0 ≤ (0 : Int) := (by omega)
                    have q436 : 0 < (t428.length : Int) := of_decide_eq_true (by first | (with_reducible assumption) | assumption)
                    obtain ⟨ad436, A436_0, c436_0, e436, hx436_0, hl436_0, hi436_0⟩ := at_L1 (Kd.S_reads' HO430.out).2.2 0 p436 q436
                    cases e436
                    have qi436 : (0 < t428.length) = True := eq_true (by omega)
                    (try rw [show ((0 : Int)).toNat = 0 from rfl] at hx436_0)
                    (try rw [Addr.add_zero'] at hx436_0)
                    have hn436_0 : ad436.block ≠ gb435 := (by first | exact Kd.own_blk (Kd.S_ne HO430.out BK435.out (by decide)) | exact Kd.own_blk (Kd.S_away HO430.out (fun _ hk => by first | exact hk.2 | exact hk.1.2 | exact hk.1.1.2 | exact hk.1.1.1.2)))
                    have hn436_1 : ad436.block ≠ gb435 := (by first | exact Kd.own_blk (Kd.S_ne HO430.out BK435.out (by decide)) | exact Kd.own_blk (Kd.S_away HO430.out (fun _ hk => by first | exact hk.2 | exact hk.1.2 | exact hk.1.1.2 | exact hk.1.1.1.2)))
                    have HR436_0 := Aside0.mk hi436_0
                    have HC436_0 := Aside0.mk hl436_0
                    clear hi436_0 hl436_0
                    replace hx436_0 := (cell_far (p := ⟨gb435, 0, none⟩) (by first | (rw [add_block]; exact hn436_0) | (show (Addr.add _ _).block ≠ _; rw [add_block]; exact hn436_0) | exact hn436_0) (.slice (some ad436) t428.length co36)).trans hx436_0
                    replace hx436_0 := (cell_far (p := ⟨gb435, 1, none⟩) (by first | (rw [add_block]; exact hn436_1) | (show (Addr.add _ _).block ≠ _; rw [add_block]; exact hn436_1) | exact hn436_1) (.slice Ao39 t431.length co39)).trans hx436_0
                    (try have hy436_0 := fun (n_ : Nat) => (show ((((w35.drewN n_).setCell ⟨gb435, 0, none⟩ (.slice (some ad436) t428.length co36)).setCell ⟨gb435, 1, none⟩ (.slice Ao39 t431.length co39))).cell? _ = some _ from hx436_0))
                    clear hn436_0
                    clear hn436_1
                    replace p436 := eq_true p436
                    replace q436 := eq_true q436
                    go_wp2
                    repeat (go_quiet (fail); try go_wp2)
                    go_meet
                    case rel => exact ⟨_, (true), (by first | rfl | (simp; done) | (simp [*]; done)), H', ⟨by have := HK1.out; first | omega | exact Nat.le_refl _⟩, ⟨by (try simp only [hl7_1]); (with_reducible repeat (first | apply Kd.R_alloc | apply Kd.R_drewN | apply Kd.R_drew)); exact Kd.R_mono (Kd.R_far (p := ⟨gb435, 1, none⟩) (Kd.R_far (p := ⟨gb435, 0, none⟩) (Kd.R_types HO_6.out BK435.out (by decide)) (fun _ hk => hk.2) (.slice (some ad436) t428.length co36)) (fun _ hk => hk.2) (.slice Ao39 t431.length co39)) (fun _ hk => ⟨hk.1.1, hk.1.2⟩)⟩, ⟨by (try simp only [hl7_1]); (with_reducible repeat (first | apply Kd.S_alloc | apply Kd.S_drewN | apply Kd.S_drew)); exact Kd.S_mono (Kd.S_far (p := ⟨gb435, 1, none⟩) (Kd.S_far (p := ⟨gb435, 0, none⟩) (Kd.S_types HO_421000.out BK435.out (by decide)) (fun _ hk => hk.2) (.slice (some ad436) t428.length co36)) (fun _ hk => hk.2) (.slice Ao39 t431.length co39)) (fun _ hk => ⟨hk.1.1.1.1, ⟨hk.1.1.1.2, ⟨hk.1.1.2, hk.1.2⟩⟩⟩)⟩, ⟨by (try simp only [hl7_1]); (with_reducible repeat (first | apply Kd.R_alloc | apply Kd.R_drewN | apply Kd.R_drew)); exact Kd.R_mono (Kd.R_far (p := ⟨gb435, 1, none⟩) (Kd.R_far (p := ⟨gb435, 0, none⟩) (Kd.R_types HO_421001.out BK435.out (by decide)) (fun _ hk => hk.2) (.slice (some ad436) t428.length co36)) (fun _ hk => hk.2) (.slice Ao39 t431.length co39)) (fun _ hk => ⟨hk.1.1, hk.1.2⟩)⟩, ⟨by (try simp only [hl7_1]); (with_reducible repeat (first | apply Kd.S_alloc | apply Kd.S_drewN | apply Kd.S_drew)); exact Kd.S_mono (Kd.S_far (p := ⟨gb435, 1, none⟩) (Kd.S_far (p := ⟨gb435, 0, none⟩) (Kd.S_types HO430.out BK435.out (by decide)) (fun _ hk => hk.2) (.slice (some ad436) t428.length co36)) (fun _ hk => hk.2) (.slice Ao39 t431.length co39)) (fun _ hk => ⟨hk.1.1.1.2, ⟨hk.1.1.2, ⟨hk.1.2, hk.1.1.1.1⟩⟩⟩)⟩, ⟨by (try simp only [hl7_1]); (with_reducible repeat (first | apply Kd.R_alloc | apply Kd.R_drewN | apply Kd.R_drew)); exact Kd.R_mono (Kd.R_far (p := ⟨gb435, 1, none⟩) (Kd.R_far (p := ⟨gb435, 0, none⟩) (Kd.R_types HO433.out BK435.out (by decide)) (fun _ hk => hk.2) (.slice (some ad436) t428.length co36)) (fun _ hk => hk.2) (.slice Ao39 t431.length co39)) (fun _ hk => ⟨hk.1.1.2, hk.1.2⟩)⟩, ⟨by (try simp only [hl7_1]); (with_reducible repeat (first | refine blk_drewN ?_ _ | refine blk_drew ?_ | refine blk_alloc ?_ _)); refine blk_far ?_ NB420_435.out _; (with_reducible repeat (first | refine blk_drewN ?_ _ | refine blk_drew ?_ | refine blk_alloc ?_ _)); refine blk_far ?_ NB420_435.out _; (with_reducible repeat (first | refine blk_drewN ?_ _ | refine blk_drew ?_ | refine blk_alloc ?_ _)); exact BK420.out⟩, ⟨by (try simp only [hl7_1]); (with_reducible repeat (first | refine blk_drewN ?_ _ | refine blk_drew ?_ | refine blk_alloc ?_ _)); refine blk_put (cs := #[.slice (some ad436) t428.length co36, .slice none 0 0]) ?_ 1 _ rfl; (with_reducible repeat (first | refine blk_drewN ?_ _ | refine blk_drew ?_ | refine blk_alloc ?_ _)); refine blk_put (cs := #[.slice none 0 0, .slice none 0 0]) ?_ 0 _ rfl; (with_reducible repeat (first | refine blk_drewN ?_ _ | refine blk_drew ?_ | refine blk_alloc ?_ _)); exact BK435.out⟩, ⟨by repeat (first | (with_reducible first | exact HB.out | apply below_alloc | apply pw_below_drewN | apply below_drew1 | refine below_set ?_ GE420.out | refine below_set ?_ GE435.out) | exact HB.out)⟩⟩
                · rw [if_neg c43] at H
                  exact absurd H (by simp)
              · rw [if_neg c42] at H
                have c42b0 : ((t428.length : Int) == 1) = false := beq_eq_false_iff_ne.mpr c42
                have c42b1 : ((t428.length : Int) != 1) = true := bne_iff_ne.mpr c42
                have H' := Aside0.mk H
                clear H
                have hnb54 := NB435_420.out
                have hnc54 := NB420_435.out
                have hcz55_0 : w35.cell? ⟨gb435, 0, none⟩ = some (.slice none 0 0) := (blk_cell BK435.out 0).trans rfl
                have hcz55_1 : w35.cell? ⟨gb435, 1, none⟩ = some (.slice none 0 0) := (blk_cell BK435.out 1).trans rfl
                have hfz55_0 := blk_frozen BK435.out 0
                have hfz55_1 := blk_frozen BK435.out 1
                go_wp2
                repeat (go_quiet (fail); try go_wp2)
                go_meet
                case rel => exact ⟨_, (true), (by first | rfl | (simp; done) | (simp [*]; done)), H', ⟨by have := HK1.out; first | omega | exact Nat.le_refl _⟩, ⟨by (try simp only [hl7_1]); (with_reducible repeat (first | apply Kd.R_alloc | apply Kd.R_drewN | apply Kd.R_drew)); exact Kd.R_mono (Kd.R_far (p := ⟨gb435, 1, none⟩) (Kd.R_far (p := ⟨gb435, 0, none⟩) (Kd.R_types HO_6.out BK435.out (by decide)) (fun _ hk => hk.2) (.slice Ao36 t428.length co36)) (fun _ hk => hk.2) (.slice Ao39 t431.length co39)) (fun _ hk => ⟨hk.1.1, hk.1.2⟩)⟩, ⟨by (try simp only [hl7_1]); (with_reducible repeat (first | apply Kd.S_alloc | apply Kd.S_drewN | apply Kd.S_drew)); exact Kd.S_mono (Kd.S_far (p := ⟨gb435, 1, none⟩) (Kd.S_far (p := ⟨gb435, 0, none⟩) (Kd.S_types HO_421000.out BK435.out (by decide)) (fun _ hk => hk.2) (.slice Ao36 t428.length co36)) (fun _ hk => hk.2) (.slice Ao39 t431.length co39)) (fun _ hk => ⟨hk.1.1.1.1, ⟨hk.1.1.1.2, ⟨hk.1.1.2, hk.1.2⟩⟩⟩)⟩, ⟨by (try simp only [hl7_1]); (with_reducible repeat (first | apply Kd.R_alloc | apply Kd.R_drewN | apply Kd.R_drew)); exact Kd.R_mono (Kd.R_far (p := ⟨gb435, 1, none⟩) (Kd.R_far (p := ⟨gb435, 0, none⟩) (Kd.R_types HO_421001.out BK435.out (by decide)) (fun _ hk => hk.2) (.slice Ao36 t428.length co36)) (fun _ hk => hk.2) (.slice Ao39 t431.length co39)) (fun _ hk => ⟨hk.1.1, hk.1.2⟩)⟩, ⟨by (try simp only [hl7_1]); (with_reducible repeat (first | apply Kd.S_alloc | apply Kd.S_drewN | apply Kd.S_drew)); exact Kd.S_mono (Kd.S_far (p := ⟨gb435, 1, none⟩) (Kd.S_far (p := ⟨gb435, 0, none⟩) (Kd.S_types HO430.out BK435.out (by decide)) (fun _ hk => hk.2) (.slice Ao36 t428.length co36)) (fun _ hk => hk.2) (.slice Ao39 t431.length co39)) (fun _ hk => ⟨hk.1.1.1.2, ⟨hk.1.1.2, ⟨hk.1.2, hk.1.1.1.1⟩⟩⟩)⟩, ⟨by (try simp only [hl7_1]); (with_reducible repeat (first | apply Kd.R_alloc | apply Kd.R_drewN | apply Kd.R_drew)); exact Kd.R_mono (Kd.R_far (p := ⟨gb435, 1, none⟩) (Kd.R_far (p := ⟨gb435, 0, none⟩) (Kd.R_types HO433.out BK435.out (by decide)) (fun _ hk => hk.2) (.slice Ao36 t428.length co36)) (fun _ hk => hk.2) (.slice Ao39 t431.length co39)) (fun _ hk => ⟨hk.1.1.2, hk.1.2⟩)⟩, ⟨by (try simp only [hl7_1]); (with_reducible repeat (first | refine blk_drewN ?_ _ | refine blk_drew ?_ | refine blk_alloc ?_ _)); refine blk_far ?_ NB420_435.out _; (with_reducible repeat (first | refine blk_drewN ?_ _ | refine blk_drew ?_ | refine blk_alloc ?_ _)); refine blk_far ?_ NB420_435.out _; (with_reducible repeat (first | refine blk_drewN ?_ _ | refine blk_drew ?_ | refine blk_alloc ?_ _)); exact BK420.out⟩, ⟨by (try simp only [hl7_1]); (with_reducible repeat (first | refine blk_drewN ?_ _ | refine blk_drew ?_ | refine blk_alloc ?_ _)); refine blk_put (cs := #[.slice Ao36 t428.length co36, .slice none 0 0]) ?_ 1 _ rfl; (with_reducible repeat (first | refine blk_drewN ?_ _ | refine blk_drew ?_ | refine blk_alloc ?_ _)); refine blk_put (cs := #[.slice none 0 0, .slice none 0 0]) ?_ 0 _ rfl; (with_reducible repeat (first | refine blk_drewN ?_ _ | refine blk_drew ?_ | refine blk_alloc ?_ _)); exact BK435.out⟩, ⟨by repeat (first | (with_reducible first | exact HB.out | apply below_alloc | apply pw_below_drewN | apply below_drew1 | refine below_set ?_ GE420.out | refine below_set ?_ GE435.out) | exact HB.out)⟩⟩
            · rw [if_neg c41] at H
              have c41b0 : (t419 == 0) = false := beq_eq_false_iff_ne.mpr c41
              have c41b1 : (t419 != 0) = true := bne_iff_ne.mpr c41
              have H' := Aside0.mk H
              clear H
              go_wp2
              repeat (go_quiet (fail); try go_wp2)
              go_meet
              case rel => exact ⟨_, (true), (by first | rfl | (simp; done) | (simp [*]; done)), H', ⟨by have := HK1.out; first | omega | exact Nat.le_refl _⟩, ⟨by (try simp only [hl7_1]); (with_reducible repeat (first | apply Kd.R_alloc | apply Kd.R_drewN | apply Kd.R_drew)); exact Kd.R_mono (Kd.R_far (p := ⟨gb435, 1, none⟩) (Kd.R_far (p := ⟨gb435, 0, none⟩) (Kd.R_types HO_6.out BK435.out (by decide)) (fun _ hk => hk.2) (.slice Ao36 t428.length co36)) (fun _ hk => hk.2) (.slice Ao39 t431.length co39)) (fun _ hk => ⟨hk.1.1, hk.1.2⟩)⟩, ⟨by (try simp only [hl7_1]); (with_reducible repeat (first | apply Kd.S_alloc | apply Kd.S_drewN | apply Kd.S_drew)); exact Kd.S_mono (Kd.S_far (p := ⟨gb435, 1, none⟩) (Kd.S_far (p := ⟨gb435, 0, none⟩) (Kd.S_types HO_421000.out BK435.out (by decide)) (fun _ hk => hk.2) (.slice Ao36 t428.length co36)) (fun _ hk => hk.2) (.slice Ao39 t431.length co39)) (fun _ hk => ⟨hk.1.1.1.1, ⟨hk.1.1.1.2, ⟨hk.1.1.2, hk.1.2⟩⟩⟩)⟩, ⟨by (try simp only [hl7_1]); (with_reducible repeat (first | apply Kd.R_alloc | apply Kd.R_drewN | apply Kd.R_drew)); exact Kd.R_mono (Kd.R_far (p := ⟨gb435, 1, none⟩) (Kd.R_far (p := ⟨gb435, 0, none⟩) (Kd.R_types HO_421001.out BK435.out (by decide)) (fun _ hk => hk.2) (.slice Ao36 t428.length co36)) (fun _ hk => hk.2) (.slice Ao39 t431.length co39)) (fun _ hk => ⟨hk.1.1, hk.1.2⟩)⟩, ⟨by (try simp only [hl7_1]); (with_reducible repeat (first | apply Kd.S_alloc | apply Kd.S_drewN | apply Kd.S_drew)); exact Kd.S_mono (Kd.S_far (p := ⟨gb435, 1, none⟩) (Kd.S_far (p := ⟨gb435, 0, none⟩) (Kd.S_types HO430.out BK435.out (by decide)) (fun _ hk => hk.2) (.slice Ao36 t428.length co36)) (fun _ hk => hk.2) (.slice Ao39 t431.length co39)) (fun _ hk => ⟨hk.1.1.1.2, ⟨hk.1.1.2, ⟨hk.1.2, hk.1.1.1.1⟩⟩⟩)⟩, ⟨by (try simp only [hl7_1]); (with_reducible repeat (first | apply Kd.R_alloc | apply Kd.R_drewN | apply Kd.R_drew)); exact Kd.R_mono (Kd.R_far (p := ⟨gb435, 1, none⟩) (Kd.R_far (p := ⟨gb435, 0, none⟩) (Kd.R_types HO433.out BK435.out (by decide)) (fun _ hk => hk.2) (.slice Ao36 t428.length co36)) (fun _ hk => hk.2) (.slice Ao39 t431.length co39)) (fun _ hk => ⟨hk.1.1.2, hk.1.2⟩)⟩, ⟨by (try simp only [hl7_1]); (with_reducible repeat (first | refine blk_drewN ?_ _ | refine blk_drew ?_ | refine blk_alloc ?_ _)); refine blk_far ?_ NB420_435.out _; (with_reducible repeat (first | refine blk_drewN ?_ _ | refine blk_drew ?_ | refine blk_alloc ?_ _)); refine blk_far ?_ NB420_435.out _; (with_reducible repeat (first | refine blk_drewN ?_ _ | refine blk_drew ?_ | refine blk_alloc ?_ _)); exact BK420.out⟩, ⟨by (try simp only [hl7_1]); (with_reducible repeat (first | refine blk_drewN ?_ _ | refine blk_drew ?_ | refine blk_alloc ?_ _)); refine blk_put (cs := #[.slice Ao36 t428.length co36, .slice none 0 0]) ?_ 1 _ rfl; (with_reducible repeat (first | refine blk_drewN ?_ _ | refine blk_drew ?_ | refine blk_alloc ?_ _)); refine blk_put (cs := #[.slice none 0 0, .slice none 0 0]) ?_ 0 _ rfl; (with_reducible repeat (first | refine blk_drewN ?_ _ | refine blk_drew ?_ | refine blk_alloc ?_ _)); exact BK435.out⟩, ⟨by repeat (first | (with_reducible first | exact HB.out | apply below_alloc | apply pw_below_drewN | apply below_drew1 | refine below_set ?_ GE420.out | refine below_set ?_ GE435.out) | exact HB.out)⟩⟩
          · rw [if_neg c40] at H
            have c40b0 : (t434 == 0) = false := beq_eq_false_iff_ne.mpr c40
            have c40b1 : (t434 != 0) = true := bne_iff_ne.mpr c40
            (first | rw [c40b0] | (simp only [i64_w, i32_w]; rw [c40b0]) | skip)
            have H' := Aside0.mk H
            clear H
            go_wp2
            repeat (go_quiet (fail); try go_wp2)
            go_meet
            case rel => exact ⟨_, (true), (by first | rfl | (simp; done) | (simp [*]; done)), H', ⟨by have := HK1.out; first | omega | exact Nat.le_refl _⟩, ⟨by (try simp only [hl7_1]); (with_reducible repeat (first | apply Kd.R_alloc | apply Kd.R_drewN | apply Kd.R_drew)); exact Kd.R_mono (Kd.R_far (p := ⟨gb435, 1, none⟩) (Kd.R_far (p := ⟨gb435, 0, none⟩) (Kd.R_types HO_6.out BK435.out (by decide)) (fun _ hk => hk.2) (.slice Ao36 t428.length co36)) (fun _ hk => hk.2) (.slice Ao39 t431.length co39)) (fun _ hk => ⟨hk.1.1, hk.1.2⟩)⟩, ⟨by (try simp only [hl7_1]); (with_reducible repeat (first | apply Kd.S_alloc | apply Kd.S_drewN | apply Kd.S_drew)); exact Kd.S_mono (Kd.S_far (p := ⟨gb435, 1, none⟩) (Kd.S_far (p := ⟨gb435, 0, none⟩) (Kd.S_types HO_421000.out BK435.out (by decide)) (fun _ hk => hk.2) (.slice Ao36 t428.length co36)) (fun _ hk => hk.2) (.slice Ao39 t431.length co39)) (fun _ hk => ⟨hk.1.1.1.1, ⟨hk.1.1.1.2, ⟨hk.1.1.2, hk.1.2⟩⟩⟩)⟩, ⟨by (try simp only [hl7_1]); (with_reducible repeat (first | apply Kd.R_alloc | apply Kd.R_drewN | apply Kd.R_drew)); exact Kd.R_mono (Kd.R_far (p := ⟨gb435, 1, none⟩) (Kd.R_far (p := ⟨gb435, 0, none⟩) (Kd.R_types HO_421001.out BK435.out (by decide)) (fun _ hk => hk.2) (.slice Ao36 t428.length co36)) (fun _ hk => hk.2) (.slice Ao39 t431.length co39)) (fun _ hk => ⟨hk.1.1, hk.1.2⟩)⟩, ⟨by (try simp only [hl7_1]); (with_reducible repeat (first | apply Kd.S_alloc | apply Kd.S_drewN | apply Kd.S_drew)); exact Kd.S_mono (Kd.S_far (p := ⟨gb435, 1, none⟩) (Kd.S_far (p := ⟨gb435, 0, none⟩) (Kd.S_types HO430.out BK435.out (by decide)) (fun _ hk => hk.2) (.slice Ao36 t428.length co36)) (fun _ hk => hk.2) (.slice Ao39 t431.length co39)) (fun _ hk => ⟨hk.1.1.1.2, ⟨hk.1.1.2, ⟨hk.1.2, hk.1.1.1.1⟩⟩⟩)⟩, ⟨by (try simp only [hl7_1]); (with_reducible repeat (first | apply Kd.R_alloc | apply Kd.R_drewN | apply Kd.R_drew)); exact Kd.R_mono (Kd.R_far (p := ⟨gb435, 1, none⟩) (Kd.R_far (p := ⟨gb435, 0, none⟩) (Kd.R_types HO433.out BK435.out (by decide)) (fun _ hk => hk.2) (.slice Ao36 t428.length co36)) (fun _ hk => hk.2) (.slice Ao39 t431.length co39)) (fun _ hk => ⟨hk.1.1.2, hk.1.2⟩)⟩, ⟨by (try simp only [hl7_1]); (with_reducible repeat (first | refine blk_drewN ?_ _ | refine blk_drew ?_ | refine blk_alloc ?_ _)); refine blk_far ?_ NB420_435.out _; (with_reducible repeat (first | refine blk_drewN ?_ _ | refine blk_drew ?_ | refine blk_alloc ?_ _)); refine blk_far ?_ NB420_435.out _; (with_reducible repeat (first | refine blk_drewN ?_ _ | refine blk_drew ?_ | refine blk_alloc ?_ _)); exact BK420.out⟩, ⟨by (try simp only [hl7_1]); (with_reducible repeat (first | refine blk_drewN ?_ _ | refine blk_drew ?_ | refine blk_alloc ?_ _)); refine blk_put (cs := #[.slice Ao36 t428.length co36, .slice none 0 0]) ?_ 1 _ rfl; (with_reducible repeat (first | refine blk_drewN ?_ _ | refine blk_drew ?_ | refine blk_alloc ?_ _)); refine blk_put (cs := #[.slice none 0 0, .slice none 0 0]) ?_ 0 _ rfl; (with_reducible repeat (first | refine blk_drewN ?_ _ | refine blk_drew ?_ | refine blk_alloc ?_ _)); exact BK435.out⟩, ⟨by repeat (first | (with_reducible first | exact HB.out | apply below_alloc | apply pw_below_drewN | apply below_drew1 | refine below_set ?_ GE420.out | refine below_set ?_ GE435.out) | exact HB.out)⟩⟩
        case rest =>
          clear HC31
          try clear c1
          try clear c2
          try clear p2
          try clear q2
          try clear hx2
          try clear hf2
          try clear c3
          try clear c4
          try clear p4
          try clear q4
          try clear hx4
          try clear qi4
          try clear c5
          try clear p6
          try clear c20
          try clear c20b0
          try clear c21
          try clear c21b0
          try clear c22
          try clear c22b0
          try clear c23
          try clear c23b0
          try clear c24
          try clear c24b0
          try clear c25
          try clear c25b0
          try clear p26
          try clear q26
          try clear hx26
          try clear hf26
          try clear c27
          try clear q27
          try clear c37
          try clear c40
          try clear c40b0
          try clear c40b1
          try clear c41
          try clear c41b0
          try clear c41b1
          try clear c42
          try clear c42b0
          try clear c42b1
          try clear p42
          try clear q42
          try clear hx42
          try clear c43
          try clear c43b0
          try clear c43b1
          try clear p43
          try clear q43
          try clear hx43
          try clear qi43
          try clear c44
          try clear c44b0
          try clear c44b1
          try clear c45
          try clear c45b0
          try clear c45b1
          try clear c46
          try clear c49
          try clear c52
          try clear c54
          try clear hcz18_0
          try clear hcz18_1
          try clear hcz38_0
          try clear hcz38_1
          try clear hcz47_0
          try clear hcz47_1
          try clear hcz48_0
          try clear hcz48_1
          try clear hcz50_0
          try clear hcz50_1
          try clear hcz51_0
          try clear hcz51_1
          try clear hcz53_0
          try clear hcz53_1
          try clear hcz55_0
          try clear hcz55_1
          try clear hfz18_0
          try clear hfz18_1
          try clear hfz38_0
          try clear hfz38_1
          try clear hfz47_0
          try clear hfz47_1
          try clear hfz48_0
          try clear hfz48_1
          try clear hfz50_0
          try clear hfz50_1
          try clear hfz51_0
          try clear hfz51_1
          try clear hfz53_0
          try clear hfz53_1
          try clear hfz55_0
          try clear hfz55_1
          try clear hx26_0
          try clear hx421_0
          try clear hx436_0
          try clear p2
          try clear p26
          try clear p421
          try clear p436
          try clear p6
          try clear q26
          try clear q421
          try clear q436
          obtain ⟨kq, x93_30, rfl, HA, HJ30, HO_6, HO_421000, HO_421001, HO_436000, HO_436001, BK420, BK435, HB⟩ := hcut
          cases kq with
          | zero => exact absurd HA.out (by simp [arboristlaw11_DecompWhole.j2])
          | succ kj30 =>
            have H := HA.out
            clear HA
            simp only [arboristlaw11_DecompWhole.j2] at H
            by_cases c56 : x93_30 = true
            · subst c56
              have H1 : (some false) = some r := by rw [if_pos rfl] at H; exact H
              clear H
              have H := H1
              clear H1
              exact absurd ((Option.some.inj H).trans HT_.out) (by decide)
            · replace c56 := Bool.eq_false_iff.mpr c56
              subst c56
              have H1 : (arboristlaw11_DecompWhole.l2 kj30 (wrap64 (1 + (Int.tmod (Go.bits .and .i64 a0 65535) 12))) t403 t404 0 t413 t416 t428 t431) = some r := by rw [if_neg (show ¬ (false = true) by decide)] at H; exact H
              clear H
              have H := H1
              clear H1
              have H' := Aside0.mk H
              clear H
              go_wp2
              repeat (go_quiet (fail); try go_wp2)
              go_loopg [14] kj30 (fun kq v14 w' => ∃ (x14_3 : Int), v14 = .int .i64 x14_3 ∧ Aside0 (arboristlaw11_DecompWhole.l2 kq (wrap64 (1 + (Int.tmod (Go.bits .and .i64 a0 65535) 12))) t403 t404 x14_3 t413 t416 t428 t431 = some r) ∧ Aside0 (kq ≤ kj30) ∧ Aside0 (Kd.R (Kd.int .i64) 3 w' w.heap.size (fun k_ => some k_ ≠ ((.slice Ao19 t416.length co19) : Value).ownBlock ∧ some k_ ≠ ((.slice Ao39 t431.length co39) : Value).ownBlock) (.slice Ao14 t404.length co14) t404) ∧ Aside0 (Kd.S (Kd.slice 3 (Kd.int .i64)) 23 w' w.heap.size (fun k_ => some k_ ≠ ((.slice Ao14 t404.length co14) : Value).ownBlock ∧ some k_ ≠ ((.slice Ao19 t416.length co19) : Value).ownBlock ∧ some k_ ≠ ((.slice Ao36 t428.length co36) : Value).ownBlock ∧ some k_ ≠ ((.slice Ao39 t431.length co39) : Value).ownBlock) (.slice Ao17 t413.length co17) t413) ∧ Aside0 (Kd.R (Kd.int .i64) 3 w' w.heap.size (fun k_ => some k_ ≠ ((.slice Ao14 t404.length co14) : Value).ownBlock ∧ some k_ ≠ ((.slice Ao39 t431.length co39) : Value).ownBlock) (.slice Ao19 t416.length co19) t416) ∧ Aside0 (Kd.S (Kd.slice 3 (Kd.int .i64)) 23 w' w.heap.size (fun k_ => some k_ ≠ ((.slice Ao14 t404.length co14) : Value).ownBlock ∧ some k_ ≠ ((.slice Ao17 t413.length co17) : Value).ownBlock ∧ some k_ ≠ ((.slice Ao19 t416.length co19) : Value).ownBlock ∧ some k_ ≠ ((.slice Ao39 t431.length co39) : Value).ownBlock) (.slice Ao36 t428.length co36) t428) ∧ Aside0 (Kd.R (Kd.int .i64) 3 w' w.heap.size (fun k_ => some k_ ≠ ((.slice Ao14 t404.length co14) : Value).ownBlock ∧ some k_ ≠ ((.slice Ao19 t416.length co19) : Value).ownBlock) (.slice Ao39 t431.length co39) t431) ∧ Aside0 (w'.heap[gb420]? = some (.cells #[(.slice Ao17 t413.length co17), (.slice Ao19 t416.length co19)] 28 (0, 0))) ∧ Aside0 (w'.heap[gb435]? = some (.cells #[(.slice Ao36 t428.length co36), (.slice Ao39 t431.length co39)] 28 (0, 0))) ∧ Aside0 (Below w.heap.size w w'))
              case atStart => exact ⟨(0), (by first | rfl | (simp; done) | (simp [*]; done)), H', ⟨Nat.le_refl _⟩, ⟨by (try simp only [hl7_1]); (with_reducible repeat (first | apply Kd.R_alloc | apply Kd.R_drewN | apply Kd.R_drew)); exact HO_6.out⟩, ⟨by (try simp only [hl7_1]); (with_reducible repeat (first | apply Kd.S_alloc | apply Kd.S_drewN | apply Kd.S_drew)); exact HO_421000.out⟩, ⟨by (try simp only [hl7_1]); (with_reducible repeat (first | apply Kd.R_alloc | apply Kd.R_drewN | apply Kd.R_drew)); exact HO_421001.out⟩, ⟨by (try simp only [hl7_1]); (with_reducible repeat (first | apply Kd.S_alloc | apply Kd.S_drewN | apply Kd.S_drew)); exact HO_436000.out⟩, ⟨by (try simp only [hl7_1]); (with_reducible repeat (first | apply Kd.R_alloc | apply Kd.R_drewN | apply Kd.R_drew)); exact HO_436001.out⟩, ⟨by (try simp only [hl7_1]); (with_reducible repeat (first | refine blk_drewN ?_ _ | refine blk_drew ?_ | refine blk_alloc ?_ _)); exact BK420.out⟩, ⟨by (try simp only [hl7_1]); (with_reducible repeat (first | refine blk_drewN ?_ _ | refine blk_drew ?_ | refine blk_alloc ?_ _)); exact BK435.out⟩, ⟨by repeat (first | (with_reducible first | exact HB.out | apply below_alloc | apply pw_below_drewN | apply below_drew1 | refine below_set ?_ GE420.out | refine below_set ?_ GE435.out) | exact HB.out)⟩⟩
              case round =>
                clear H'
                try clear c1
                try clear c2
                try clear p2
                try clear q2
                try clear hx2
                try clear hf2
                try clear c3
                try clear c4
                try clear p4
                try clear q4
                try clear hx4
                try clear qi4
                try clear c5
                try clear p6
                try clear c20
                try clear c20b0
                try clear c21
                try clear c21b0
                try clear c22
                try clear c22b0
                try clear c23
                try clear c23b0
                try clear c24
                try clear c24b0
                try clear c25
                try clear c25b0
                try clear p26
                try clear q26
                try clear hx26
                try clear hf26
                try clear c27
                try clear q27
                try clear c37
                try clear c40
                try clear c40b0
                try clear c40b1
                try clear c41
                try clear c41b0
                try clear c41b1
                try clear c42
                try clear c42b0
                try clear c42b1
                try clear p42
                try clear q42
                try clear hx42
                try clear c43
                try clear c43b0
                try clear c43b1
                try clear p43
                try clear q43
                try clear hx43
                try clear qi43
                try clear c44
                try clear c44b0
                try clear c44b1
                try clear c45
                try clear c45b0
                try clear c45b1
                try clear c46
                try clear c49
                try clear c52
                try clear c54
                try clear c56
                try clear hcz18_0
                try clear hcz18_1
                try clear hcz38_0
                try clear hcz38_1
                try clear hcz47_0
                try clear hcz47_1
                try clear hcz48_0
                try clear hcz48_1
                try clear hcz50_0
                try clear hcz50_1
                try clear hcz51_0
                try clear hcz51_1
                try clear hcz53_0
                try clear hcz53_1
                try clear hcz55_0
                try clear hcz55_1
                try clear hfz18_0
                try clear hfz18_1
                try clear hfz38_0
                try clear hfz38_1
                try clear hfz47_0
                try clear hfz47_1
                try clear hfz48_0
                try clear hfz48_1
                try clear hfz50_0
                try clear hfz50_1
                try clear hfz51_0
                try clear hfz51_1
                try clear hfz53_0
                try clear hfz53_1
                try clear hfz55_0
                try clear hfz55_1
                try clear hx26_0
                try clear hx421_0
                try clear hx436_0
                try clear p2
                try clear p26
                try clear p4
                try clear p42
                try clear p421
                try clear p43
                try clear p436
                try clear p6
                try clear q2
                try clear q26
                try clear q27
                try clear q4
                try clear q42
                try clear q421
                try clear q43
                try clear q436
                obtain ⟨x14_3, rfl, HA, HK3, HO_6, HO_421000, HO_421001, HO_436000, HO_436001, BK420, BK435, HB⟩ := hrel
                cases gk with
                | zero => exact absurd HA.out (by simp [arboristlaw11_DecompWhole.l2])
                | succ k3 =>
                  have H := HA.out
                  clear HA
                  simp only [arboristlaw11_DecompWhole.l2] at H
                  by_cases c57 : x14_3 < (wrap64 (1 + (Int.tmod (Go.bits .and .i64 a0 65535) 12)))
                  · rw [if_pos c57] at H
                    have c57b0 : decide (x14_3 < (wrap64 (1 + (Int.tmod (Go.bits .and .i64 a0 65535) 12)))) = true := decide_eq_true c57
                    clear c57
                    by_cases c58 : x14_3 = 0
                    · rw [if_pos c58] at H
                      have c58b0 : (x14_3 == 0) = true := beq_iff_eq.mpr c58
                      have c58b1 : (x14_3 != 0) = false := bne_eq_false_iff_eq.mpr c58
                      clear c58
                      by_cases c59 : 0 < (t428.length : Int)
                      · rw [if_pos c59] at H
                        have c59b0 : decide (0 < (t428.length : Int)) = true := decide_eq_true c59
                        have c59b1 : decide (0 < t428.length) = true := decide_eq_true (by omega)
                        clear c59
                        by_cases c60 : 0 ≤ x14_3
                        · rw [if_pos c60] at H
                          have c60b0 : decide (0 ≤ x14_3) = true := decide_eq_true c60
                          clear c60
                          by_cases c61 : x14_3 < ((rd_L1 t428 0).length : Int)
                          · rw [if_pos c61] at H
                            have c61b0 : decide (x14_3 < ((rd_L1 t428 0).length : Int)) = true := decide_eq_true c61
                            clear c61
                            by_cases c62 : (rd (rd_L1 t428 0) x14_3) = x14_3
                            · rw [if_pos c62] at H
                              have c62b0 : ((rd (rd_L1 t428 0) x14_3) == x14_3) = true := beq_iff_eq.mpr c62
                              have c62b1 : ((rd (rd_L1 t428 0) x14_3) != x14_3) = false := bne_eq_false_iff_eq.mpr c62
                              clear c62
                              by_cases c63 : x14_3 < (t413.length : Int)
                              · rw [if_pos c63] at H
                                have c63b0 : decide (x14_3 < (t413.length : Int)) = true := decide_eq_true c63
                                clear c63
                                by_cases c64 : ((rd_L1 t413 x14_3).length : Int) = 1
                                · rw [if_pos c64] at H
                                  have c64b0 : (((rd_L1 t413 x14_3).length : Int) == 1) = true := beq_iff_eq.mpr c64
                                  have c64b1 : (((rd_L1 t413 x14_3).length : Int) != 1) = false := bne_eq_false_iff_eq.mpr c64
                                  clear c64
                                  by_cases c65 : 0 < ((rd_L1 t413 x14_3).length : Int)
                                  · rw [if_pos c65] at H
                                    have c65b0 : decide (0 < ((rd_L1 t413 x14_3).length : Int)) = true := decide_eq_true c65
                                    have c65b1 : decide (0 < (rd_L1 t413 x14_3).length) = true := decide_eq_true (by omega)
                                    clear c65
                                    by_cases c66 : x14_3 < (t404.length : Int)
                                    · rw [if_pos c66] at H
                                      have c66b0 : decide (x14_3 < (t404.length : Int)) = true := decide_eq_true c66
                                      clear c66
                                      by_cases c67 : (rd (rd_L1 t413 x14_3) 0) = (rd t404 x14_3)
                                      · rw [if_pos c67] at H
                                        have c67b0 : ((rd (rd_L1 t413 x14_3) 0) == (rd t404 x14_3)) = true := beq_iff_eq.mpr c67
                                        have c67b1 : ((rd (rd_L1 t413 x14_3) 0) != (rd t404 x14_3)) = false := bne_eq_false_iff_eq.mpr c67
                                        clear c67
                                        by_cases c68 : x14_3 < (t416.length : Int)
                                        · rw [if_pos c68] at H
                                          have c68b0 : decide (x14_3 < (t416.length : Int)) = true := decide_eq_true c68
                                          clear c68
                                          by_cases c69 : (rd t416 x14_3) = (-1)
                                          · rw [if_pos c69] at H
                                            have c69b0 : ((rd t416 x14_3) == (-1)) = true := beq_iff_eq.mpr c69
                                            have c69b1 : ((rd t416 x14_3) != (-1)) = false := bne_eq_false_iff_eq.mpr c69
                                            clear c69
                                            have H' := Aside0.mk H
                                            clear H
                                            have hnb70 := NB435_420.out
                                            have hnc70 := NB420_435.out
                                            have hcz71_0 : wr.cell? ⟨gb435, 0, none⟩ = some (.slice Ao36 t428.length co36) := (blk_cell BK435.out 0).trans rfl
                                            have hcz71_1 : wr.cell? ⟨gb435, 1, none⟩ = some (.slice Ao39 t431.length co39) := (blk_cell BK435.out 1).trans rfl
                                            have hfz71_0 := blk_frozen BK435.out 0
                                            have hfz71_1 := blk_frozen BK435.out 1
                                            have p438 : 0 ≤ (0 : Int) := (by omega)
                                            have q438 : 0 < (t428.length : Int) := of_decide_eq_true (by first | (with_reducible assumption) | assumption)
                                            obtain ⟨ad438, A438_0, c438_0, e438, hx438_0, hl438_0, hi438_0⟩ := at_L1 (Kd.S_reads' HO_436000.out).2.2 0 p438 q438
                                            cases e438
                                            obtain ⟨ce438, hce438, hMe438, hcc438⟩ := Kd.S_get HO_436000.out [] 0 p438 (by first | exact q438 | exact of_decide_eq_true (by first | (with_reducible assumption) | assumption) | (have e_ := (Kd.S_reads' HO_436000.out).1; omega))
                                            obtain ⟨ve438_0, rfl, ge438_0⟩ := hMe438
                                            have hv438_0 := hcc438 0 _ rfl
                                            rw [Nat.add_zero, show ((Kd.slice 3 (Kd.int .i64))).sz = 1 from rfl, Nat.mul_one] at hv438_0
                                            replace hv438_0 := Option.some.inj (hv438_0.symm.trans hx438_0)
                                            rw [hv438_0] at ge438_0
                                            have HL438_0 := Aside0.mk (show Kd.R (Kd.int .i64) 3 _ _ _ _ (rd_L1 t428 0) from ge438_0)
                                            clear hv438_0 ge438_0
                                            have HX438_0 := Aside0.mk hx438_0
                                            clear hcc438 hce438
                                            have qi438 : (0 < t428.length) = True := eq_true (by omega)
                                            (try rw [show ((0 : Int)).toNat = 0 from rfl] at hx438_0)
                                            (try rw [Addr.add_zero'] at hx438_0)
                                            have HR438_0 := Aside0.mk hi438_0
                                            have HC438_0 := Aside0.mk hl438_0
                                            clear hi438_0 hl438_0
                                            replace p438 := eq_true p438
                                            replace q438 := eq_true q438
                                            have p439 : 0 ≤ (x14_3 : Int) := of_decide_eq_true (by first | (with_reducible assumption) | assumption)
                                            have q439 : x14_3 < ((rd_L1 t428 0).length : Int) := of_decide_eq_true (by first | (with_reducible assumption) | assumption)
                                            obtain ⟨ad439, e439, hx439_0⟩ := Kd.at_int (by repeat (first | (with_reducible exact HR438_0.out) | (with_reducible refine Kd.C_alloc ?_ _) | (with_reducible refine Kd.C_drewN ?_ _) | (with_reducible refine Kd.C_drew ?_) | exact HR438_0.out)) x14_3 p439 q439
                                            cases e439
                                            replace p439 := eq_true p439
                                            replace q439 := eq_true q439
                                            have hcz72_0 : wr.cell? ⟨gb420, 0, none⟩ = some (.slice Ao17 t413.length co17) := (blk_cell BK420.out 0).trans rfl
                                            have hcz72_1 : wr.cell? ⟨gb420, 1, none⟩ = some (.slice Ao19 t416.length co19) := (blk_cell BK420.out 1).trans rfl
                                            have hfz72_0 := blk_frozen BK420.out 0
                                            have hfz72_1 := blk_frozen BK420.out 1
                                            have p440 : 0 ≤ (x14_3 : Int) := of_decide_eq_true (by first | (with_reducible assumption) | assumption)
                                            have q440 : x14_3 < (t413.length : Int) := of_decide_eq_true (by first | (with_reducible assumption) | assumption)
                                            obtain ⟨ad440, A440_0, c440_0, e440, hx440_0, hl440_0, hi440_0⟩ := at_L1 (Kd.S_reads' HO_421000.out).2.2 x14_3 p440 q440
                                            cases e440
                                            obtain ⟨ce440, hce440, hMe440, hcc440⟩ := Kd.S_get HO_421000.out [] x14_3 p440 (by first | exact q440 | exact of_decide_eq_true (by first | (with_reducible assumption) | assumption) | (have e_ := (Kd.S_reads' HO_421000.out).1; omega))
                                            obtain ⟨ve440_0, rfl, ge440_0⟩ := hMe440
                                            have hv440_0 := hcc440 0 _ rfl
                                            rw [Nat.add_zero, show ((Kd.slice 3 (Kd.int .i64))).sz = 1 from rfl, Nat.mul_one] at hv440_0
                                            replace hv440_0 := Option.some.inj (hv440_0.symm.trans hx440_0)
                                            rw [hv440_0] at ge440_0
                                            have HL440_0 := Aside0.mk (show Kd.R (Kd.int .i64) 3 _ _ _ _ (rd_L1 t413 x14_3) from ge440_0)
                                            clear hv440_0 ge440_0
                                            have HX440_0 := Aside0.mk hx440_0
                                            clear hcc440 hce440
                                            have HR440_0 := Aside0.mk hi440_0
                                            have HC440_0 := Aside0.mk hl440_0
                                            clear hi440_0 hl440_0
                                            replace p440 := eq_true p440
                                            replace q440 := eq_true q440
                                            have p441 : 0 ≤ (x14_3 : Int) := of_decide_eq_true (by first | (with_reducible assumption) | assumption)
                                            have q441 : x14_3 < (t413.length : Int) := of_decide_eq_true (by first | (with_reducible assumption) | assumption)
                                            obtain ⟨ad441, A441_0, c441_0, e441, hx441_0, hl441_0, hi441_0⟩ := at_L1 (Kd.S_reads' HO_421000.out).2.2 x14_3 p441 q441
                                            obtain rfl : ad440 = ad441 := (by injection e441)
                                            obtain ⟨ce441, hce441, hMe441, hcc441⟩ := Kd.S_get HO_421000.out [] x14_3 p441 (by first | exact q441 | exact of_decide_eq_true (by first | (with_reducible assumption) | assumption) | (have e_ := (Kd.S_reads' HO_421000.out).1; omega))
                                            obtain ⟨ve441_0, rfl, ge441_0⟩ := hMe441
                                            have hv441_0 := hcc441 0 _ rfl
                                            rw [Nat.add_zero, show ((Kd.slice 3 (Kd.int .i64))).sz = 1 from rfl, Nat.mul_one] at hv441_0
                                            replace hv441_0 := Option.some.inj (hv441_0.symm.trans hx441_0)
                                            rw [hv441_0] at ge441_0
                                            have HL441_0 := Aside0.mk (show Kd.R (Kd.int .i64) 3 _ _ _ _ (rd_L1 t413 x14_3) from ge441_0)
                                            clear hv441_0 ge441_0
                                            have HX441_0 := Aside0.mk hx441_0
                                            clear hcc441 hce441
                                            have HR441_0 := Aside0.mk hi441_0
                                            have HC441_0 := Aside0.mk hl441_0
                                            clear hi441_0 hl441_0
                                            replace p441 := eq_true p441
                                            replace q441 := eq_true q441
                                            have ea_ := Option.some.inj (hx440_0.symm.trans hx441_0)
                                            injection ea_ with ea_ en_ ec_
                                            subst ea_
                                            subst ec_
                                            clear en_
                                            have p442 : 0 ≤ (0 : Int) := (by omega)
                                            have q442 : 0 < ((rd_L1 t413 x14_3).length : Int) := of_decide_eq_true (by first | (with_reducible assumption) | assumption)
                                            obtain ⟨ad442, e442, hx442_0⟩ := Kd.at_int (by repeat (first | (with_reducible exact HR441_0.out) | (with_reducible refine Kd.C_alloc ?_ _) | (with_reducible refine Kd.C_drewN ?_ _) | (with_reducible refine Kd.C_drew ?_) | exact HR441_0.out)) 0 p442 q442
                                            cases e442
                                            have qi442 : (0 < (rd_L1 t413 x14_3).length) = True := eq_true (by omega)
                                            (try rw [show ((0 : Int)).toNat = 0 from rfl] at hx442_0)
                                            (try rw [Addr.add_zero'] at hx442_0)
                                            replace p442 := eq_true p442
                                            replace q442 := eq_true q442
                                            have p443 : 0 ≤ (x14_3 : Int) := of_decide_eq_true (by first | (with_reducible assumption) | assumption)
                                            have q443 : x14_3 < (t404.length : Int) := of_decide_eq_true (by first | (with_reducible assumption) | assumption)
                                            obtain ⟨ad443, e443, hx443_0⟩ := Kd.at_int (Kd.R_reads' HO_6.out).2.2 x14_3 p443 q443
                                            cases e443
                                            replace p443 := eq_true p443
                                            replace q443 := eq_true q443
                                            have p444 : 0 ≤ (x14_3 : Int) := of_decide_eq_true (by first | (with_reducible assumption) | assumption)
                                            have q444 : x14_3 < (t416.length : Int) := of_decide_eq_true (by first | (with_reducible assumption) | assumption)
                                            obtain ⟨ad444, e444, hx444_0⟩ := Kd.at_int (Kd.R_reads' HO_421001.out).2.2 x14_3 p444 q444
                                            cases e444
                                            replace p444 := eq_true p444
                                            replace q444 := eq_true q444
                                            go_wp2
                                            repeat (go_quiet (fail); try go_wp2)
                                            go_roundg k3
                                            case measure => have := HK1.out; have := HJ30.out; have := HK3.out; omega
                                            case rel => exact ⟨(wrap64 (x14_3 + 1)), (by first | rfl | (simp; done) | (simp [*]; done)), H', ⟨by have := HK1.out; have := HJ30.out; have := HK3.out; omega⟩, ⟨by (try simp only [hl7_1]); (with_reducible repeat (first | apply Kd.R_alloc | apply Kd.R_drewN | apply Kd.R_drew)); exact HO_6.out⟩, ⟨by (try simp only [hl7_1]); (with_reducible repeat (first | apply Kd.S_alloc | apply Kd.S_drewN | apply Kd.S_drew)); exact HO_421000.out⟩, ⟨by (try simp only [hl7_1]); (with_reducible repeat (first | apply Kd.R_alloc | apply Kd.R_drewN | apply Kd.R_drew)); exact HO_421001.out⟩, ⟨by (try simp only [hl7_1]); (with_reducible repeat (first | apply Kd.S_alloc | apply Kd.S_drewN | apply Kd.S_drew)); exact HO_436000.out⟩, ⟨by (try simp only [hl7_1]); (with_reducible repeat (first | apply Kd.R_alloc | apply Kd.R_drewN | apply Kd.R_drew)); exact HO_436001.out⟩, ⟨by (try simp only [hl7_1]); (with_reducible repeat (first | refine blk_drewN ?_ _ | refine blk_drew ?_ | refine blk_alloc ?_ _)); exact BK420.out⟩, ⟨by (try simp only [hl7_1]); (with_reducible repeat (first | refine blk_drewN ?_ _ | refine blk_drew ?_ | refine blk_alloc ?_ _)); exact BK435.out⟩, ⟨by repeat (first | (with_reducible first | exact HB.out | apply below_alloc | apply pw_below_drewN | apply below_drew1 | refine below_set ?_ GE420.out | refine below_set ?_ GE435.out) | exact HB.out)⟩⟩
                                          · rw [if_neg c69] at H
                                            have c69b0 : ((rd t416 x14_3) == (-1)) = false := beq_eq_false_iff_ne.mpr c69
                                            have c69b1 : ((rd t416 x14_3) != (-1)) = true := bne_iff_ne.mpr c69
                                            exact absurd ((Option.some.inj H).trans HT_.out) (by decide)
                                        · rw [if_neg c68] at H
                                          exact absurd H (by simp)
                                      · rw [if_neg c67] at H
                                        have c67b0 : ((rd (rd_L1 t413 x14_3) 0) == (rd t404 x14_3)) = false := beq_eq_false_iff_ne.mpr c67
                                        have c67b1 : ((rd (rd_L1 t413 x14_3) 0) != (rd t404 x14_3)) = true := bne_iff_ne.mpr c67
                                        exact absurd ((Option.some.inj H).trans HT_.out) (by decide)
                                    · rw [if_neg c66] at H
                                      exact absurd H (by simp)
                                  · rw [if_neg c65] at H
                                    exact absurd H (by simp)
                                · rw [if_neg c64] at H
                                  have c64b0 : (((rd_L1 t413 x14_3).length : Int) == 1) = false := beq_eq_false_iff_ne.mpr c64
                                  have c64b1 : (((rd_L1 t413 x14_3).length : Int) != 1) = true := bne_iff_ne.mpr c64
                                  exact absurd ((Option.some.inj H).trans HT_.out) (by decide)
                              · rw [if_neg c63] at H
                                exact absurd H (by simp)
                            · rw [if_neg c62] at H
                              have c62b0 : ((rd (rd_L1 t428 0) x14_3) == x14_3) = false := beq_eq_false_iff_ne.mpr c62
                              have c62b1 : ((rd (rd_L1 t428 0) x14_3) != x14_3) = true := bne_iff_ne.mpr c62
                              exact absurd ((Option.some.inj H).trans HT_.out) (by decide)
                          · rw [if_neg c61] at H
                            exact absurd H (by simp)
                        · rw [if_neg c60] at H
                          exact absurd H (by simp)
                      · rw [if_neg c59] at H
                        exact absurd H (by simp)
                    · rw [if_neg c58] at H
                      have c58b0 : (x14_3 == 0) = false := beq_eq_false_iff_ne.mpr c58
                      have c58b1 : (x14_3 != 0) = true := bne_iff_ne.mpr c58
                      by_cases c73 : 0 < (t428.length : Int)
                      · rw [if_pos c73] at H
                        have c73b0 : decide (0 < (t428.length : Int)) = true := decide_eq_true c73
                        have c73b1 : decide (0 < t428.length) = true := decide_eq_true (by omega)
                        clear c73
                        by_cases c74 : 0 ≤ x14_3
                        · rw [if_pos c74] at H
                          have c74b0 : decide (0 ≤ x14_3) = true := decide_eq_true c74
                          clear c74
                          by_cases c75 : x14_3 < ((rd_L1 t428 0).length : Int)
                          · rw [if_pos c75] at H
                            have c75b0 : decide (x14_3 < ((rd_L1 t428 0).length : Int)) = true := decide_eq_true c75
                            clear c75
                            by_cases c76 : (rd (rd_L1 t428 0) x14_3) = x14_3
                            · rw [if_pos c76] at H
                              have c76b0 : ((rd (rd_L1 t428 0) x14_3) == x14_3) = true := beq_iff_eq.mpr c76
                              have c76b1 : ((rd (rd_L1 t428 0) x14_3) != x14_3) = false := bne_eq_false_iff_eq.mpr c76
                              clear c76
                              by_cases c77 : x14_3 < (t413.length : Int)
                              · rw [if_pos c77] at H
                                have c77b0 : decide (x14_3 < (t413.length : Int)) = true := decide_eq_true c77
                                clear c77
                                by_cases c78 : ((rd_L1 t413 x14_3).length : Int) = 1
                                · rw [if_pos c78] at H
                                  have c78b0 : (((rd_L1 t413 x14_3).length : Int) == 1) = true := beq_iff_eq.mpr c78
                                  have c78b1 : (((rd_L1 t413 x14_3).length : Int) != 1) = false := bne_eq_false_iff_eq.mpr c78
                                  clear c78
                                  by_cases c79 : 0 < ((rd_L1 t413 x14_3).length : Int)
                                  · rw [if_pos c79] at H
                                    have c79b0 : decide (0 < ((rd_L1 t413 x14_3).length : Int)) = true := decide_eq_true c79
                                    have c79b1 : decide (0 < (rd_L1 t413 x14_3).length) = true := decide_eq_true (by omega)
                                    clear c79
                                    by_cases c80 : x14_3 < (t404.length : Int)
                                    · rw [if_pos c80] at H
                                      have c80b0 : decide (x14_3 < (t404.length : Int)) = true := decide_eq_true c80
                                      clear c80
                                      by_cases c81 : (rd (rd_L1 t413 x14_3) 0) = (rd t404 x14_3)
                                      · rw [if_pos c81] at H
                                        have c81b0 : ((rd (rd_L1 t413 x14_3) 0) == (rd t404 x14_3)) = true := beq_iff_eq.mpr c81
                                        have c81b1 : ((rd (rd_L1 t413 x14_3) 0) != (rd t404 x14_3)) = false := bne_eq_false_iff_eq.mpr c81
                                        clear c81
                                        by_cases c82 : x14_3 < (t416.length : Int)
                                        · rw [if_pos c82] at H
                                          have c82b0 : decide (x14_3 < (t416.length : Int)) = true := decide_eq_true c82
                                          clear c82
                                          by_cases c83 : (rd t416 x14_3) = 0
                                          · rw [if_pos c83] at H
                                            have c83b0 : ((rd t416 x14_3) == 0) = true := beq_iff_eq.mpr c83
                                            have c83b1 : ((rd t416 x14_3) != 0) = false := bne_eq_false_iff_eq.mpr c83
                                            clear c83
                                            have H' := Aside0.mk H
                                            clear H
                                            have hnb84 := NB435_420.out
                                            have hnc84 := NB420_435.out
                                            have hcz85_0 : wr.cell? ⟨gb435, 0, none⟩ = some (.slice Ao36 t428.length co36) := (blk_cell BK435.out 0).trans rfl
                                            have hcz85_1 : wr.cell? ⟨gb435, 1, none⟩ = some (.slice Ao39 t431.length co39) := (blk_cell BK435.out 1).trans rfl
                                            have hfz85_0 := blk_frozen BK435.out 0
                                            have hfz85_1 := blk_frozen BK435.out 1
                                            have p445 : 0 ≤ (0 : Int) := (by omega)
                                            have q445 : 0 < (t428.length : Int) := of_decide_eq_true (by first | (with_reducible assumption) | assumption)
                                            obtain ⟨ad445, A445_0, c445_0, e445, hx445_0, hl445_0, hi445_0⟩ := at_L1 (Kd.S_reads' HO_436000.out).2.2 0 p445 q445
                                            cases e445
                                            obtain ⟨ce445, hce445, hMe445, hcc445⟩ := Kd.S_get HO_436000.out [] 0 p445 (by first | exact q445 | exact of_decide_eq_true (by first | (with_reducible assumption) | assumption) | (have e_ := (Kd.S_reads' HO_436000.out).1; omega))
                                            obtain ⟨ve445_0, rfl, ge445_0⟩ := hMe445
                                            have hv445_0 := hcc445 0 _ rfl
                                            rw [Nat.add_zero, show ((Kd.slice 3 (Kd.int .i64))).sz = 1 from rfl, Nat.mul_one] at hv445_0
                                            replace hv445_0 := Option.some.inj (hv445_0.symm.trans hx445_0)
                                            rw [hv445_0] at ge445_0
                                            have HL445_0 := Aside0.mk (show Kd.R (Kd.int .i64) 3 _ _ _ _ (rd_L1 t428 0) from ge445_0)
                                            clear hv445_0 ge445_0
                                            have HX445_0 := Aside0.mk hx445_0
                                            clear hcc445 hce445
                                            have qi445 : (0 < t428.length) = True := eq_true (by omega)
                                            (try rw [show ((0 : Int)).toNat = 0 from rfl] at hx445_0)
                                            (try rw [Addr.add_zero'] at hx445_0)
                                            have HR445_0 := Aside0.mk hi445_0
                                            have HC445_0 := Aside0.mk hl445_0
                                            clear hi445_0 hl445_0
                                            replace p445 := eq_true p445
                                            replace q445 := eq_true q445
                                            have p446 : 0 ≤ (x14_3 : Int) := of_decide_eq_true (by first | (with_reducible assumption) | assumption)
                                            have q446 : x14_3 < ((rd_L1 t428 0).length : Int) := of_decide_eq_true (by first | (with_reducible assumption) | assumption)
                                            obtain ⟨ad446, e446, hx446_0⟩ := Kd.at_int (by repeat (first | (with_reducible exact HR445_0.out) | (with_reducible refine Kd.C_alloc ?_ _) | (with_reducible refine Kd.C_drewN ?_ _) | (with_reducible refine Kd.C_drew ?_) | exact HR445_0.out)) x14_3 p446 q446
                                            cases e446
                                            replace p446 := eq_true p446
                                            replace q446 := eq_true q446
                                            have hcz86_0 : wr.cell? ⟨gb420, 0, none⟩ = some (.slice Ao17 t413.length co17) := (blk_cell BK420.out 0).trans rfl
                                            have hcz86_1 : wr.cell? ⟨gb420, 1, none⟩ = some (.slice Ao19 t416.length co19) := (blk_cell BK420.out 1).trans rfl
                                            have hfz86_0 := blk_frozen BK420.out 0
                                            have hfz86_1 := blk_frozen BK420.out 1
                                            have p447 : 0 ≤ (x14_3 : Int) := of_decide_eq_true (by first | (with_reducible assumption) | assumption)
                                            have q447 : x14_3 < (t413.length : Int) := of_decide_eq_true (by first | (with_reducible assumption) | assumption)
                                            obtain ⟨ad447, A447_0, c447_0, e447, hx447_0, hl447_0, hi447_0⟩ := at_L1 (Kd.S_reads' HO_421000.out).2.2 x14_3 p447 q447
                                            cases e447
                                            obtain ⟨ce447, hce447, hMe447, hcc447⟩ := Kd.S_get HO_421000.out [] x14_3 p447 (by first | exact q447 | exact of_decide_eq_true (by first | (with_reducible assumption) | assumption) | (have e_ := (Kd.S_reads' HO_421000.out).1; omega))
                                            obtain ⟨ve447_0, rfl, ge447_0⟩ := hMe447
                                            have hv447_0 := hcc447 0 _ rfl
                                            rw [Nat.add_zero, show ((Kd.slice 3 (Kd.int .i64))).sz = 1 from rfl, Nat.mul_one] at hv447_0
                                            replace hv447_0 := Option.some.inj (hv447_0.symm.trans hx447_0)
                                            rw [hv447_0] at ge447_0
                                            have HL447_0 := Aside0.mk (show Kd.R (Kd.int .i64) 3 _ _ _ _ (rd_L1 t413 x14_3) from ge447_0)
                                            clear hv447_0 ge447_0
                                            have HX447_0 := Aside0.mk hx447_0
                                            clear hcc447 hce447
                                            have HR447_0 := Aside0.mk hi447_0
                                            have HC447_0 := Aside0.mk hl447_0
                                            clear hi447_0 hl447_0
                                            replace p447 := eq_true p447
                                            replace q447 := eq_true q447
                                            have p448 : 0 ≤ (x14_3 : Int) := of_decide_eq_true (by first | (with_reducible assumption) | assumption)
                                            have q448 : x14_3 < (t413.length : Int) := of_decide_eq_true (by first | (with_reducible assumption) | assumption)
                                            obtain ⟨ad448, A448_0, c448_0, e448, hx448_0, hl448_0, hi448_0⟩ := at_L1 (Kd.S_reads' HO_421000.out).2.2 x14_3 p448 q448
                                            obtain rfl : ad447 = ad448 := (by injection e448)
                                            obtain ⟨ce448, hce448, hMe448, hcc448⟩ := Kd.S_get HO_421000.out [] x14_3 p448 (by first | exact q448 | exact of_decide_eq_true (by first | (with_reducible assumption) | assumption) | (have e_ := (Kd.S_reads' HO_421000.out).1; omega))
                                            obtain ⟨ve448_0, rfl, ge448_0⟩ := hMe448
                                            have hv448_0 := hcc448 0 _ rfl
                                            rw [Nat.add_zero, show ((Kd.slice 3 (Kd.int .i64))).sz = 1 from rfl, Nat.mul_one] at hv448_0
                                            replace hv448_0 := Option.some.inj (hv448_0.symm.trans hx448_0)
                                            rw [hv448_0] at ge448_0
                                            have HL448_0 := Aside0.mk (show Kd.R (Kd.int .i64) 3 _ _ _ _ (rd_L1 t413 x14_3) from ge448_0)
                                            clear hv448_0 ge448_0
                                            have HX448_0 := Aside0.mk hx448_0
                                            clear hcc448 hce448
                                            have HR448_0 := Aside0.mk hi448_0
                                            have HC448_0 := Aside0.mk hl448_0
                                            clear hi448_0 hl448_0
                                            replace p448 := eq_true p448
                                            replace q448 := eq_true q448
                                            have ea_ := Option.some.inj (hx447_0.symm.trans hx448_0)
                                            injection ea_ with ea_ en_ ec_
                                            subst ea_
                                            subst ec_
                                            clear en_
                                            have p449 : 0 ≤ (0 : Int) := (by omega)
                                            have q449 : 0 < ((rd_L1 t413 x14_3).length : Int) := of_decide_eq_true (by first | (with_reducible assumption) | assumption)
                                            obtain ⟨ad449, e449, hx449_0⟩ := Kd.at_int (by repeat (first | (with_reducible exact HR448_0.out) | (with_reducible refine Kd.C_alloc ?_ _) | (with_reducible refine Kd.C_drewN ?_ _) | (with_reducible refine Kd.C_drew ?_) | exact HR448_0.out)) 0 p449 q449
                                            cases e449
                                            have qi449 : (0 < (rd_L1 t413 x14_3).length) = True := eq_true (by omega)
                                            (try rw [show ((0 : Int)).toNat = 0 from rfl] at hx449_0)
                                            (try rw [Addr.add_zero'] at hx449_0)
                                            replace p449 := eq_true p449
                                            replace q449 := eq_true q449
                                            have p450 : 0 ≤ (x14_3 : Int) := of_decide_eq_true (by first | (with_reducible assumption) | assumption)
                                            have q450 : x14_3 < (t404.length : Int) := of_decide_eq_true (by first | (with_reducible assumption) | assumption)
                                            obtain ⟨ad450, e450, hx450_0⟩ := Kd.at_int (Kd.R_reads' HO_6.out).2.2 x14_3 p450 q450
                                            cases e450
                                            replace p450 := eq_true p450
                                            replace q450 := eq_true q450
                                            have p451 : 0 ≤ (x14_3 : Int) := of_decide_eq_true (by first | (with_reducible assumption) | assumption)
                                            have q451 : x14_3 < (t416.length : Int) := of_decide_eq_true (by first | (with_reducible assumption) | assumption)
                                            obtain ⟨ad451, e451, hx451_0⟩ := Kd.at_int (Kd.R_reads' HO_421001.out).2.2 x14_3 p451 q451
                                            cases e451
                                            replace p451 := eq_true p451
                                            replace q451 := eq_true q451
                                            go_wp2
                                            repeat (go_quiet (fail); try go_wp2)
                                            go_roundg k3
                                            case measure => have := HK1.out; have := HJ30.out; have := HK3.out; omega
                                            case rel => exact ⟨(wrap64 (x14_3 + 1)), (by first | rfl | (simp; done) | (simp [*]; done)), H', ⟨by have := HK1.out; have := HJ30.out; have := HK3.out; omega⟩, ⟨by (try simp only [hl7_1]); (with_reducible repeat (first | apply Kd.R_alloc | apply Kd.R_drewN | apply Kd.R_drew)); exact HO_6.out⟩, ⟨by (try simp only [hl7_1]); (with_reducible repeat (first | apply Kd.S_alloc | apply Kd.S_drewN | apply Kd.S_drew)); exact HO_421000.out⟩, ⟨by (try simp only [hl7_1]); (with_reducible repeat (first | apply Kd.R_alloc | apply Kd.R_drewN | apply Kd.R_drew)); exact HO_421001.out⟩, ⟨by (try simp only [hl7_1]); (with_reducible repeat (first | apply Kd.S_alloc | apply Kd.S_drewN | apply Kd.S_drew)); exact HO_436000.out⟩, ⟨by (try simp only [hl7_1]); (with_reducible repeat (first | apply Kd.R_alloc | apply Kd.R_drewN | apply Kd.R_drew)); exact HO_436001.out⟩, ⟨by (try simp only [hl7_1]); (with_reducible repeat (first | refine blk_drewN ?_ _ | refine blk_drew ?_ | refine blk_alloc ?_ _)); exact BK420.out⟩, ⟨by (try simp only [hl7_1]); (with_reducible repeat (first | refine blk_drewN ?_ _ | refine blk_drew ?_ | refine blk_alloc ?_ _)); exact BK435.out⟩, ⟨by repeat (first | (with_reducible first | exact HB.out | apply below_alloc | apply pw_below_drewN | apply below_drew1 | refine below_set ?_ GE420.out | refine below_set ?_ GE435.out) | exact HB.out)⟩⟩
                                          · rw [if_neg c83] at H
                                            have c83b0 : ((rd t416 x14_3) == 0) = false := beq_eq_false_iff_ne.mpr c83
                                            have c83b1 : ((rd t416 x14_3) != 0) = true := bne_iff_ne.mpr c83
                                            exact absurd ((Option.some.inj H).trans HT_.out) (by decide)
                                        · rw [if_neg c82] at H
                                          exact absurd H (by simp)
                                      · rw [if_neg c81] at H
                                        have c81b0 : ((rd (rd_L1 t413 x14_3) 0) == (rd t404 x14_3)) = false := beq_eq_false_iff_ne.mpr c81
                                        have c81b1 : ((rd (rd_L1 t413 x14_3) 0) != (rd t404 x14_3)) = true := bne_iff_ne.mpr c81
                                        exact absurd ((Option.some.inj H).trans HT_.out) (by decide)
                                    · rw [if_neg c80] at H
                                      exact absurd H (by simp)
                                  · rw [if_neg c79] at H
                                    exact absurd H (by simp)
                                · rw [if_neg c78] at H
                                  have c78b0 : (((rd_L1 t413 x14_3).length : Int) == 1) = false := beq_eq_false_iff_ne.mpr c78
                                  have c78b1 : (((rd_L1 t413 x14_3).length : Int) != 1) = true := bne_iff_ne.mpr c78
                                  exact absurd ((Option.some.inj H).trans HT_.out) (by decide)
                              · rw [if_neg c77] at H
                                exact absurd H (by simp)
                            · rw [if_neg c76] at H
                              have c76b0 : ((rd (rd_L1 t428 0) x14_3) == x14_3) = false := beq_eq_false_iff_ne.mpr c76
                              have c76b1 : ((rd (rd_L1 t428 0) x14_3) != x14_3) = true := bne_iff_ne.mpr c76
                              exact absurd ((Option.some.inj H).trans HT_.out) (by decide)
                          · rw [if_neg c75] at H
                            exact absurd H (by simp)
                        · rw [if_neg c74] at H
                          exact absurd H (by simp)
                      · rw [if_neg c73] at H
                        exact absurd H (by simp)
                  · rw [if_neg c57] at H
                    have c57b0 : decide (x14_3 < (wrap64 (1 + (Int.tmod (Go.bits .and .i64 a0 65535) 12)))) = false := decide_eq_false c57
                    clear c57
                    by_cases c87 : t403 = true
                    · subst c87
                      have H1 : (if (t431.length : Int) = 1 then (if 0 < (t431.length : Int) then (some ((rd t431 0) == (-1))) else (none)) else (some false)) = some r := by rw [if_pos rfl] at H; exact H
                      clear H
                      have H := H1
                      clear H1
                      by_cases c88 : (t431.length : Int) = 1
                      · rw [if_pos c88] at H
                        have c88b0 : ((t431.length : Int) == 1) = true := beq_iff_eq.mpr c88
                        have c88b1 : ((t431.length : Int) != 1) = false := bne_eq_false_iff_eq.mpr c88
                        clear c88
                        by_cases c89 : 0 < (t431.length : Int)
                        · rw [if_pos c89] at H
                          have c89b0 : decide (0 < (t431.length : Int)) = true := decide_eq_true c89
                          have c89b1 : decide (0 < t431.length) = true := decide_eq_true (by omega)
                          clear c89
                          obtain rfl := Option.some.inj H
                          have hnb90 := NB435_420.out
                          have hnc90 := NB420_435.out
                          have hcz91_0 : wr.cell? ⟨gb435, 0, none⟩ = some (.slice Ao36 t428.length co36) := (blk_cell BK435.out 0).trans rfl
                          have hcz91_1 : wr.cell? ⟨gb435, 1, none⟩ = some (.slice Ao39 t431.length co39) := (blk_cell BK435.out 1).trans rfl
                          have hfz91_0 := blk_frozen BK435.out 0
                          have hfz91_1 := blk_frozen BK435.out 1
                          have p437 : 0 ≤ (0 : Int) := (by omega)
                          have q437 : 0 < (t431.length : Int) := of_decide_eq_true (by first | (with_reducible assumption) | assumption)
                          obtain ⟨ad437, e437, hx437_0⟩ := Kd.at_int (Kd.R_reads' HO_436001.out).2.2 0 p437 q437
                          cases e437
                          have qi437 : (0 < t431.length) = True := eq_true (by omega)
                          (try rw [show ((0 : Int)).toNat = 0 from rfl] at hx437_0)
                          (try rw [Addr.add_zero'] at hx437_0)
                          replace p437 := eq_true p437
                          replace q437 := eq_true q437
                          go_wp2
                          repeat (go_quiet (fail); try go_wp2)
                          go_ret
                          exact ⟨by first | rfl | (simp [errW_none, errW_some] <;> rfl) | (simp [*, errW_none, errW_some] <;> rfl), by repeat (first | (with_reducible first | exact HB.out | apply below_alloc | apply pw_below_drewN | apply below_drew1 | refine below_set ?_ GE420.out | refine below_set ?_ GE435.out) | exact HB.out)⟩
                        · rw [if_neg c89] at H
                          exact absurd H (by simp)
                      · rw [if_neg c88] at H
                        have c88b0 : ((t431.length : Int) == 1) = false := beq_eq_false_iff_ne.mpr c88
                        have c88b1 : ((t431.length : Int) != 1) = true := bne_iff_ne.mpr c88
                        exact absurd ((Option.some.inj H).trans HT_.out) (by decide)
                    · replace c87 := Bool.eq_false_iff.mpr c87
                      subst c87
                      have H1 : (some false) = some r := by rw [if_neg (show ¬ (false = true) by decide)] at H; exact H
                      clear H
                      have H := H1
                      clear H1
                      exact absurd ((Option.some.inj H).trans HT_.out) (by decide)

/-- THE ONE PURE STATEMENT of arboristlaw11_DecompWhole. -/
def arboristlaw11_DecompWhole.Pure : Prop := ∀ (a0 : Int) (l1 : List Int), (Lit.int .i64 a0).wf = true → (l1.length ≤ maxLen ∧ ∀ z0 ∈ l1, (Lit.int .i64 z0).wf = true) → ∃ k, arboristlaw11_DecompWhole.f k a0 l1 = some true

end Go.Proofs.YtbdlelojlnhhfaaDoor.Pr
