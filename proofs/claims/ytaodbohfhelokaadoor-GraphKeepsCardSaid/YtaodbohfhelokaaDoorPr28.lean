-- Printed by a program of this session's own (wip/tools/pp.py) over the kit's print.py; Lean checks it.
import Derived.Test.YtaodbohfhelokaaDoorPr0
import Derived.Test.YtaodbohfhelokaaDoorPr8
import Derived.Test.YtaodbohfhelokaaDoorPr11
import Derived.Test.YtaodbohfhelokaaDoorPr12
import Derived.Test.YtaodbohfhelokaaDoorPr15
namespace Go.Proofs.YtaodbohfhelokaaDoor.Pr
open Go.RowKit Go.Proofs.YtaodbohfhelokaaDoorW.PrintWords Go.Proofs.YtaodbohfhelokaaDoorW.PrintLast Go.Proofs.YtaodbohfhelokaaDoorW.PrintMore
attribute [local go_sem] max2_int min2_int max_two min_two max_three min_three max_four min_four   -- for this text's walks alone
set_option linter.unusedVariables false
set_option linter.unusedSimpArgs false

/-! ### arboristlaw08_GraphKeeps: function 8 -/
mutual
def arboristlaw08_GraphKeeps.l0 : Nat → Int → Int → Bool → List (List Bool) → Int → List Int → Option (Bool)
  | 0, _, _, _, _, _, _ => none
  | k + 1, x2, x3, x9, x10, x12, x482000 => if x12 < (x10.length : Int) then (arboristlaw08_GraphKeeps.l1 k x2 x3 x9 x10 x12 0 0 x482000) else (if (x10.length : Int) = 0 then (if x9 = true then ((graph_Parts.f k x482000).bind fun t487 => (some ((t487.length : Int) == 0))) else (some false)) else ((some (([] : List Int) : List Int)).bind fun y490 => (if y490.length + x482000.length < 17592186044416 then ((some (y490 ++ x482000 : List Int)).bind fun y493 => ((graph_Join.f x482000 (Int.tmod (Go.bits .and .i64 x2 65535) (x10.length : Int)) (Int.tmod (Go.bits .and .i64 x3 65535) (x10.length : Int))).bind fun t496 => ((graph_Join.f t496 (Int.tmod (Go.bits .and .i64 x3 65535) (x10.length : Int)) (Int.tmod (Go.bits .and .i64 x2 65535) (x10.length : Int))).bind fun t500 => (if (t496.length : Int) = (y493.length : Int) then (arboristlaw08_GraphKeeps.j2 k (Int.tmod (Go.bits .and .i64 x2 65535) (x10.length : Int)) x9 y493 ((t500.length : Int) != (y493.length : Int)) x482000 t496 t500) else (arboristlaw08_GraphKeeps.j2 k (Int.tmod (Go.bits .and .i64 x2 65535) (x10.length : Int)) x9 y493 true x482000 t496 t500))))) else (none))))
def arboristlaw08_GraphKeeps.l1 : Nat → Int → Int → Bool → List (List Bool) → Int → Int → Int → List Int → Option (Bool)
  | 0, _, _, _, _, _, _, _, _ => none
  | k + 1, x2, x3, x9, x10, x12, x13, x14, x482000 => if x14 < (x10.length : Int) then (if 0 ≤ x12 then (if x12 < (x10.length : Int) then (if 0 ≤ x14 then (if x14 < ((rd_L5 x10 x12).length : Int) then (if rdOf false (rd_L5 x10 x12) x14 = true then (if 0 ≤ (IntKind.u64.wrap (x14)) then (arboristlaw08_GraphKeeps.l1 k x2 x3 x9 x10 x12 (Go.bits .or .u64 x13 (shl .u64 1 (IntKind.u64.wrap (x14)))) (wrap64 (x14 + 1)) x482000) else (none)) else (arboristlaw08_GraphKeeps.l1 k x2 x3 x9 x10 x12 x13 (wrap64 (x14 + 1)) x482000)) else (none)) else (none)) else (none)) else (none)) else (if x482000.length < 17592186044416 then (arboristlaw08_GraphKeeps.l0 k x2 x3 x9 x10 (wrap64 (x12 + 1)) (x482000 ++ [x13])) else (none))
def arboristlaw08_GraphKeeps.j2 : Nat → Int → Bool → List Int → Bool → List Int → List Int → List Int → Option (Bool)
  | 0, _, _, _, _, _, _, _ => none
  | k + 1, x2, x9, x15, x99, x482000, x500000, x504000 => if x99 = true then (some false) else (arboristlaw08_GraphKeeps.l2 k x2 x9 x15 0 x482000 x500000 x504000)
def arboristlaw08_GraphKeeps.l2 : Nat → Int → Bool → List Int → Int → List Int → List Int → List Int → Option (Bool)
  | 0, _, _, _, _, _, _, _ => none
  | k + 1, x2, x9, x15, x18, x482000, x500000, x504000 => if x18 < (x15.length : Int) then (if 0 ≤ x18 then (if x18 < (x482000.length : Int) then (if (rd x482000 x18) = (rd x15 x18) then (if x18 < (x504000.length : Int) then (if x18 < (x500000.length : Int) then (if (rd x504000 x18) = (rd x500000 x18) then (if (Go.bits .or .u64 (rd x500000 x18) (rd x15 x18)) = (rd x500000 x18) then (arboristlaw08_GraphKeeps.l2 k x2 x9 x15 (wrap64 (x18 + 1)) x482000 x500000 x504000) else (some false)) else (some false)) else (none)) else (none)) else (some false)) else (none)) else (none)) else (if 0 ≤ x2 then (if x2 < (x500000.length : Int) then (if x9 = true then (if x2 < (x482000.length : Int) then (if x2 < (x15.length : Int) then (some ((rd x482000 x2) == (rd x15 x2))) else (none)) else (none)) else (some false)) else (none)) else (none))
end
def arboristlaw08_GraphKeeps.f (k : Nat) (a0 : Int) (l1 : List (List Int)) (a2 : Int) (a3 : Int) : Option (Bool) := (arboristlaw08_shown.f k).bind fun t477 => ((arboristlaw08_made.f k a0 l1).bind fun t478 => (arboristlaw08_GraphKeeps.l0 k a2 a3 t477 t478 0 ([] : List Int)))
theorem arboristlaw08_GraphKeeps.mono_l : ∀ k, (∀ y0 y1 y2 y3 y4 y5, LeO (arboristlaw08_GraphKeeps.l0 k y0 y1 y2 y3 y4 y5) (arboristlaw08_GraphKeeps.l0 (k + 1) y0 y1 y2 y3 y4 y5)) ∧ (∀ y0 y1 y2 y3 y4 y5 y6 y7, LeO (arboristlaw08_GraphKeeps.l1 k y0 y1 y2 y3 y4 y5 y6 y7) (arboristlaw08_GraphKeeps.l1 (k + 1) y0 y1 y2 y3 y4 y5 y6 y7)) ∧ (∀ y0 y1 y2 y3 y4 y5 y6, LeO (arboristlaw08_GraphKeeps.j2 k y0 y1 y2 y3 y4 y5 y6) (arboristlaw08_GraphKeeps.j2 (k + 1) y0 y1 y2 y3 y4 y5 y6)) ∧ (∀ y0 y1 y2 y3 y4 y5 y6, LeO (arboristlaw08_GraphKeeps.l2 k y0 y1 y2 y3 y4 y5 y6) (arboristlaw08_GraphKeeps.l2 (k + 1) y0 y1 y2 y3 y4 y5 y6))
  | 0 => ⟨fun _ _ _ _ _ _ r h => by simp [arboristlaw08_GraphKeeps.l0] at h, fun _ _ _ _ _ _ _ _ r h => by simp [arboristlaw08_GraphKeeps.l1] at h, fun _ _ _ _ _ _ _ r h => by simp [arboristlaw08_GraphKeeps.j2] at h, fun _ _ _ _ _ _ _ r h => by simp [arboristlaw08_GraphKeeps.l2] at h⟩
  | k + 1 => by
    obtain ⟨ih0, ih1, ih2, ih3⟩ := arboristlaw08_GraphKeeps.mono_l k
    refine ⟨?_, ?_, ?_, ?_⟩
    all_goals intros
    all_goals (first | unfold arboristlaw08_GraphKeeps.l0 | unfold arboristlaw08_GraphKeeps.l1 | unfold arboristlaw08_GraphKeeps.j2 | unfold arboristlaw08_GraphKeeps.l2)
    all_goals repeat' first
    | (with_reducible exact ih0 _ _ _ _ _ _)
    | (with_reducible exact ih1 _ _ _ _ _ _ _ _)
    | (with_reducible exact ih2 _ _ _ _ _ _ _)
    | (with_reducible exact ih3 _ _ _ _ _ _ _)
    | (with_reducible exact arboristlaw08_made.mono _ _ _)
    | (with_reducible exact arboristlaw08_shown.mono _)
    | (with_reducible exact graph_Parts.mono _ _)
    | (with_reducible exact LeO.refl _)
    | (with_reducible exact LeO.none _)
    | (with_reducible refine LeO.ite ?_ ?_)
    | (with_reducible refine LeO.bind ?_ (fun _ => ?_))
    | exact ih0 _ _ _ _ _ _
    | exact ih1 _ _ _ _ _ _ _ _
    | exact ih2 _ _ _ _ _ _ _
    | exact ih3 _ _ _ _ _ _ _
    | exact arboristlaw08_made.mono _ _ _
    | exact arboristlaw08_shown.mono _
    | exact graph_Parts.mono _ _
    | exact LeO.none _
    | refine LeO.ite ?_ ?_
    | refine LeO.bind ?_ (fun _ => ?_)
theorem arboristlaw08_GraphKeeps.mono : ∀ a0 a1 a2 a3 k, LeO (arboristlaw08_GraphKeeps.f k a0 a1 a2 a3) (arboristlaw08_GraphKeeps.f (k + 1) a0 a1 a2 a3) := by
  intro a0 a1 a2 a3 k
  obtain ⟨ih0, ih1, ih2, ih3⟩ := arboristlaw08_GraphKeeps.mono_l k
  unfold arboristlaw08_GraphKeeps.f
  repeat' first
      | (with_reducible exact ih0 _ _ _ _ _ _)
      | (with_reducible exact ih1 _ _ _ _ _ _ _ _)
      | (with_reducible exact ih2 _ _ _ _ _ _ _)
      | (with_reducible exact ih3 _ _ _ _ _ _ _)
      | (with_reducible exact arboristlaw08_made.mono _ _ _)
      | (with_reducible exact arboristlaw08_shown.mono _)
      | (with_reducible exact graph_Parts.mono _ _)
      | (with_reducible exact LeO.refl _)
      | (with_reducible exact LeO.none _)
      | (with_reducible refine LeO.ite ?_ ?_)
      | (with_reducible refine LeO.bind ?_ (fun _ => ?_))
      | exact ih0 _ _ _ _ _ _
      | exact ih1 _ _ _ _ _ _ _ _
      | exact ih2 _ _ _ _ _ _ _
      | exact ih3 _ _ _ _ _ _ _
      | exact arboristlaw08_made.mono _ _ _
      | exact arboristlaw08_shown.mono _
      | exact graph_Parts.mono _ _
      | exact LeO.none _
      | refine LeO.ite ?_ ?_
      | refine LeO.bind ?_ (fun _ => ?_)
set_option maxHeartbeats 8000000 in
set_option maxRecDepth 100000 in
theorem arboristlaw08_GraphKeeps.calls (k : Nat) (a0 : Int) (A1 : Option Addr) (c1 : Nat) (l1 : List (List Int)) (a2 : Int) (a3 : Int) (r : Bool) (w : World) (hTb : Tab64 w) (hr1 : Kd.C (Kd.slice 3 (Kd.int .i64)) w A1 l1.length l1) (hc1 : l1.length ≤ c1) (hT : r = true) (h : arboristlaw08_GraphKeeps.f k a0 l1 a2 a3 = some r) :
    Calls Tryd.prog 8 #[.int .i64 a0, .slice A1 l1.length c1, .int .i64 a2, .int .i64 a3] w fun e w' => e = .returned (.bool r) ∧ Below w.heap.size w w' := by
  have HTAB := Aside0.mk hTb
  clear hTb
  have HT_ := Aside0.mk (show r = true from hT)
  clear hT
  have hu25 := Tryd.underlying25
  have HR1 := Aside0.mk hr1
  have HC1 := Aside0.mk hc1
  clear hr1 hc1
  have HB := Aside0.mk (Below.refl w.heap.size w)
  have H : ((arboristlaw08_shown.f k).bind fun t477 => ((arboristlaw08_made.f k a0 l1).bind fun t478 => (arboristlaw08_GraphKeeps.l0 k a2 a3 t477 t478 0 ([] : List Int)))) = some r := h
  clear h
  replace H := Option.bind_eq_some_iff.mp H
  obtain ⟨t477, A50, H⟩ := H
  replace H : ((arboristlaw08_made.f k a0 l1).bind fun t478 => (arboristlaw08_GraphKeeps.l0 k a2 a3 t477 t478 0 ([] : List Int))) = some r := H
  have A5 := Aside0.mk A50
  clear A50
  replace H := Option.bind_eq_some_iff.mp H
  obtain ⟨t478, A60, H⟩ := H
  replace H : (arboristlaw08_GraphKeeps.l0 k a2 a3 t477 t478 0 ([] : List Int)) = some r := H
  have A6 := Aside0.mk A60
  clear A60
  have H' := Aside0.mk H
  clear H
  go_enter Tryd.func8, Tryd.ntmps8
  go_wp2_with (first | (go_at_call 11; (with_reducible refine (arboristlaw08_shown.calls (hTb := (by first | exact HTAB.out | exact tab_drewN HTAB.out _ | exact tab_below HTAB.out (by repeat (first | (with_reducible first | exact HB.out | apply below_alloc | apply pw_below_drewN | apply below_drew1 | refine below_set ?_ GE481.out | refine below_set ?_ GE499.out | refine below_set ?_ GE503.out) | exact HB.out)))) k  t477 _ A5.out).mono ?_); rintro e w7 ⟨rfl, hb⟩; have n0_ := Aside0.mk (below_step (by repeat (first | (with_reducible first | exact HB.out | apply below_alloc | apply pw_below_drewN | apply below_drew1) | exact HB.out)) hb); clear HB; have HB := n0_; clear n0_; (try clear hb); (try clear hb2); (try clear hk); (try clear hi)) | (go_at_call 15; (with_reducible refine (arboristlaw08_made.calls k a0 _ _ l1 t478 _ ?side1 ?side2 A6.out).mono ?_); (case side1 => repeat (first | exact (Kd.C_below HR1.out HB.out) | (with_reducible refine Kd.C_alloc ?_ _) | (with_reducible refine Kd.C_drewN ?_ _) | (with_reducible refine Kd.C_drew ?_))); (case side2 => exact HC1.out); rintro e w8 ⟨v479, rfl, ho0, hb⟩; have n0_ := Aside0.mk (Kd.S_lower ho0 (below_size (by repeat (first | (with_reducible first | exact HB.out | apply below_alloc | apply pw_below_drewN | apply below_drew1) | exact HB.out)))); have n1_ := Aside0.mk (below_step (by repeat (first | (with_reducible first | exact HB.out | apply below_alloc | apply pw_below_drewN | apply below_drew1) | exact HB.out)) hb); clear HB; have HO480 := n0_; have HB := n1_; clear n0_ n1_; (try clear hb); (try clear hb2); (try clear hk); (try clear hi); (try clear ho0)) | ((with_reducible refine gate_dst (N := 11) rfl ?_); (try (refine gate_guard (by rfl) ?_; dsimp only)); refine box_event ?hg (N := 11) ?hd (cs := #[.slice none 0 0]) (t := 25) ?hr ?_; (case hd => rfl); (case hg => rfl); (case hr => first | (go_simp; done) | (go_simp; rfl)); intro gb481 hg w9 hbox hb; have n0_ := Aside0.mk (Kd.S_below (by (with_reducible repeat (first | apply Kd.S_alloc | apply Kd.S_drewN | apply Kd.S_drew)); exact HO480.out) hb); have n1_ := Aside0.mk (below_step (by repeat (first | (with_reducible first | exact HB.out | apply below_alloc | apply pw_below_drewN | apply below_drew1) | exact HB.out)) hb); have n2_ := Aside0.mk (hbox); have n3_ := Aside0.mk ((by rw [hg]; exact (below_size (by repeat (first | (with_reducible first | exact HB.out | apply below_alloc | apply pw_below_drewN | apply below_drew1) | exact HB.out))) : w.heap.size ≤ gb481)); have n4_ := Aside0.mk ((by rw [hg]; exact (below_size (by repeat (first | (with_reducible first | exact HB.out | apply below_alloc | apply pw_below_drewN | apply below_drew1) | exact HB.out))) : w.heap.size ≤ gb481)); clear HO480; clear HB; have HO480 := n0_; have HB := n1_; have BK481 := n2_; have GW481 := n3_; have GE481 := n4_; clear n0_ n1_ n2_ n3_ n4_; clear hb hbox hg; have hcz10_0 : w9.cell? ⟨gb481, 0, none⟩ = some (.slice none 0 0) := (blk_cell BK481.out 0).trans rfl; have hfz10_0 := blk_frozen BK481.out 0))
  repeat (go_quiet (first | (go_at_call 11; (with_reducible refine (arboristlaw08_shown.calls (hTb := (by first | exact HTAB.out | exact tab_drewN HTAB.out _ | exact tab_below HTAB.out (by repeat (first | (with_reducible first | exact HB.out | apply below_alloc | apply pw_below_drewN | apply below_drew1 | refine below_set ?_ GE481.out | refine below_set ?_ GE499.out | refine below_set ?_ GE503.out) | exact HB.out)))) k  t477 _ A5.out).mono ?_); rintro e w7 ⟨rfl, hb⟩; have n0_ := Aside0.mk (below_step (by repeat (first | (with_reducible first | exact HB.out | apply below_alloc | apply pw_below_drewN | apply below_drew1) | exact HB.out)) hb); clear HB; have HB := n0_; clear n0_; (try clear hb); (try clear hb2); (try clear hk); (try clear hi)) | (go_at_call 15; (with_reducible refine (arboristlaw08_made.calls k a0 _ _ l1 t478 _ ?side1 ?side2 A6.out).mono ?_); (case side1 => repeat (first | exact (Kd.C_below HR1.out HB.out) | (with_reducible refine Kd.C_alloc ?_ _) | (with_reducible refine Kd.C_drewN ?_ _) | (with_reducible refine Kd.C_drew ?_))); (case side2 => exact HC1.out); rintro e w8 ⟨v479, rfl, ho0, hb⟩; have n0_ := Aside0.mk (Kd.S_lower ho0 (below_size (by repeat (first | (with_reducible first | exact HB.out | apply below_alloc | apply pw_below_drewN | apply below_drew1) | exact HB.out)))); have n1_ := Aside0.mk (below_step (by repeat (first | (with_reducible first | exact HB.out | apply below_alloc | apply pw_below_drewN | apply below_drew1) | exact HB.out)) hb); clear HB; have HO480 := n0_; have HB := n1_; clear n0_ n1_; (try clear hb); (try clear hb2); (try clear hk); (try clear hi); (try clear ho0)) | ((with_reducible refine gate_dst (N := 11) rfl ?_); (try (refine gate_guard (by rfl) ?_; dsimp only)); refine box_event ?hg (N := 11) ?hd (cs := #[.slice none 0 0]) (t := 25) ?hr ?_; (case hd => rfl); (case hg => rfl); (case hr => first | (go_simp; done) | (go_simp; rfl)); intro gb481 hg w9 hbox hb; have n0_ := Aside0.mk (Kd.S_below (by (with_reducible repeat (first | apply Kd.S_alloc | apply Kd.S_drewN | apply Kd.S_drew)); exact HO480.out) hb); have n1_ := Aside0.mk (below_step (by repeat (first | (with_reducible first | exact HB.out | apply below_alloc | apply pw_below_drewN | apply below_drew1) | exact HB.out)) hb); have n2_ := Aside0.mk (hbox); have n3_ := Aside0.mk ((by rw [hg]; exact (below_size (by repeat (first | (with_reducible first | exact HB.out | apply below_alloc | apply pw_below_drewN | apply below_drew1) | exact HB.out))) : w.heap.size ≤ gb481)); have n4_ := Aside0.mk ((by rw [hg]; exact (below_size (by repeat (first | (with_reducible first | exact HB.out | apply below_alloc | apply pw_below_drewN | apply below_drew1) | exact HB.out))) : w.heap.size ≤ gb481)); clear HO480; clear HB; have HO480 := n0_; have HB := n1_; have BK481 := n2_; have GW481 := n3_; have GE481 := n4_; clear n0_ n1_ n2_ n3_ n4_; clear hb hbox hg; have hcz10_0 : w9.cell? ⟨gb481, 0, none⟩ = some (.slice none 0 0) := (blk_cell BK481.out 0).trans rfl; have hfz10_0 := blk_frozen BK481.out 0)); try go_wp2_with (first | (go_at_call 11; (with_reducible refine (arboristlaw08_shown.calls (hTb := (by first | exact HTAB.out | exact tab_drewN HTAB.out _ | exact tab_below HTAB.out (by repeat (first | (with_reducible first | exact HB.out | apply below_alloc | apply pw_below_drewN | apply below_drew1 | refine below_set ?_ GE481.out | refine below_set ?_ GE499.out | refine below_set ?_ GE503.out) | exact HB.out)))) k  t477 _ A5.out).mono ?_); rintro e w7 ⟨rfl, hb⟩; have n0_ := Aside0.mk (below_step (by repeat (first | (with_reducible first | exact HB.out | apply below_alloc | apply pw_below_drewN | apply below_drew1) | exact HB.out)) hb); clear HB; have HB := n0_; clear n0_; (try clear hb); (try clear hb2); (try clear hk); (try clear hi)) | (go_at_call 15; (with_reducible refine (arboristlaw08_made.calls k a0 _ _ l1 t478 _ ?side1 ?side2 A6.out).mono ?_); (case side1 => repeat (first | exact (Kd.C_below HR1.out HB.out) | (with_reducible refine Kd.C_alloc ?_ _) | (with_reducible refine Kd.C_drewN ?_ _) | (with_reducible refine Kd.C_drew ?_))); (case side2 => exact HC1.out); rintro e w8 ⟨v479, rfl, ho0, hb⟩; have n0_ := Aside0.mk (Kd.S_lower ho0 (below_size (by repeat (first | (with_reducible first | exact HB.out | apply below_alloc | apply pw_below_drewN | apply below_drew1) | exact HB.out)))); have n1_ := Aside0.mk (below_step (by repeat (first | (with_reducible first | exact HB.out | apply below_alloc | apply pw_below_drewN | apply below_drew1) | exact HB.out)) hb); clear HB; have HO480 := n0_; have HB := n1_; clear n0_ n1_; (try clear hb); (try clear hb2); (try clear hk); (try clear hi); (try clear ho0)) | ((with_reducible refine gate_dst (N := 11) rfl ?_); (try (refine gate_guard (by rfl) ?_; dsimp only)); refine box_event ?hg (N := 11) ?hd (cs := #[.slice none 0 0]) (t := 25) ?hr ?_; (case hd => rfl); (case hg => rfl); (case hr => first | (go_simp; done) | (go_simp; rfl)); intro gb481 hg w9 hbox hb; have n0_ := Aside0.mk (Kd.S_below (by (with_reducible repeat (first | apply Kd.S_alloc | apply Kd.S_drewN | apply Kd.S_drew)); exact HO480.out) hb); have n1_ := Aside0.mk (below_step (by repeat (first | (with_reducible first | exact HB.out | apply below_alloc | apply pw_below_drewN | apply below_drew1) | exact HB.out)) hb); have n2_ := Aside0.mk (hbox); have n3_ := Aside0.mk ((by rw [hg]; exact (below_size (by repeat (first | (with_reducible first | exact HB.out | apply below_alloc | apply pw_below_drewN | apply below_drew1) | exact HB.out))) : w.heap.size ≤ gb481)); have n4_ := Aside0.mk ((by rw [hg]; exact (below_size (by repeat (first | (with_reducible first | exact HB.out | apply below_alloc | apply pw_below_drewN | apply below_drew1) | exact HB.out))) : w.heap.size ≤ gb481)); clear HO480; clear HB; have HO480 := n0_; have HB := n1_; have BK481 := n2_; have GW481 := n3_; have GE481 := n4_; clear n0_ n1_ n2_ n3_ n4_; clear hb hbox hg; have hcz10_0 : w9.cell? ⟨gb481, 0, none⟩ = some (.slice none 0 0) := (blk_cell BK481.out 0).trans rfl; have hfz10_0 := blk_frozen BK481.out 0)))
  go_loopg [12] k (fun kq v12 w' => ∃ (x12_1 : Int) (x482000_1 : List Int) (u482000 : Value), v12 = .int .i64 x12_1 ∧ Aside0 (arboristlaw08_GraphKeeps.l0 kq a2 a3 t477 t478 x12_1 x482000_1 = some r) ∧ Aside0 (kq ≤ k) ∧ Aside0 (Kd.S (Kd.slice 4 Kd.bool) 37 w' w.heap.size (fun _ => True) v479 t478) ∧ Aside0 (Kd.R (Kd.int .u64) 30 w' w.heap.size (fun _ => True) u482000 x482000_1) ∧ Aside0 (w'.heap[gb481]? = some (.cells #[u482000] 25 (0, 0))) ∧ Aside0 (Below w.heap.size w w'))
  case atStart => exact ⟨(0), (([] : List Int)), (.slice none 0 0), (by first | rfl | (simp; done) | (simp [*]; done)), H', ⟨Nat.le_refl _⟩, ⟨by (with_reducible repeat (first | apply Kd.S_alloc | apply Kd.S_drewN | apply Kd.S_drew)); exact Kd.S_mono (Kd.S_far (p := ⟨gb481, 0, none⟩) (Kd.S_types HO480.out BK481.out (by decide)) (fun _ hk => hk.2) (.slice none 0 0)) (fun _ hk => trivial)⟩, ⟨by first | exact Kd.R_nil _ _ _ _ _ | exact Kd.N_nil _ _ _ _ _ | exact Kd.V_nil _ _ _ _ _ | exact Kd.Q_nil _ _ _ _ _ | exact Kd.S_nil _ _ _ _ _⟩, ⟨by (with_reducible repeat (first | refine blk_drewN ?_ _ | refine blk_drew ?_ | refine blk_alloc ?_ _)); refine blk_put (cs := #[.slice none 0 0]) ?_ 0 _ rfl; (with_reducible repeat (first | refine blk_drewN ?_ _ | refine blk_drew ?_ | refine blk_alloc ?_ _)); exact BK481.out⟩, ⟨by repeat (first | (with_reducible first | exact HB.out | apply below_alloc | apply pw_below_drewN | apply below_drew1 | refine below_set ?_ GE481.out) | exact HB.out)⟩⟩
  case round =>
    clear H'
    try clear c1
    try clear p2
    try clear c8
    try clear hcz10_0
    try clear hfz10_0
    obtain ⟨x12_1, x482000_1, u482000, rfl, HA, HK1, HO_10, HO_482000, BK481, HB⟩ := hrel
    cases gk with
    | zero => exact absurd HA.out (by simp [arboristlaw08_GraphKeeps.l0])
    | succ k1 =>
      have H := HA.out
      clear HA
      simp only [arboristlaw08_GraphKeeps.l0] at H
      by_cases c11 : x12_1 < (t478.length : Int)
      · rw [if_pos c11] at H
        have c11b0 : decide (x12_1 < (t478.length : Int)) = true := decide_eq_true c11
        clear c11
        have H' := Aside0.mk H
        clear H
        obtain ⟨Ao12, co12, eo12⟩ := Kd.S_slice HO_10.out
        subst eo12
        go_wp2
        repeat (go_quiet (fail); try go_wp2)
        go_loopg [13, 14] k1 (fun kq v13 v14 w' => ∃ (x13_2 : Int) (x14_2 : Int), v13 = .int .u64 x13_2 ∧ v14 = .int .i64 x14_2 ∧ Aside0 (arboristlaw08_GraphKeeps.l1 kq a2 a3 t477 t478 x12_1 x13_2 x14_2 x482000_1 = some r) ∧ Aside0 (kq ≤ k1) ∧ Aside0 (Kd.S (Kd.slice 4 Kd.bool) 37 w' w.heap.size (fun _ => True) (.slice Ao12 t478.length co12) t478) ∧ Aside0 (Kd.R (Kd.int .u64) 30 w' w.heap.size (fun _ => True) u482000 x482000_1) ∧ Aside0 (w'.heap[gb481]? = some (.cells #[u482000] 25 (0, 0))) ∧ Aside0 (Below w.heap.size w w'))
        case atStart => exact ⟨(0), (0), (by first | rfl | (simp; done) | (simp [*]; done)), (by first | rfl | (simp; done) | (simp [*]; done)), H', ⟨Nat.le_refl _⟩, ⟨by (with_reducible repeat (first | apply Kd.S_alloc | apply Kd.S_drewN | apply Kd.S_drew)); exact HO_10.out⟩, ⟨by (with_reducible repeat (first | apply Kd.R_alloc | apply Kd.R_drewN | apply Kd.R_drew)); exact HO_482000.out⟩, ⟨by (with_reducible repeat (first | refine blk_drewN ?_ _ | refine blk_drew ?_ | refine blk_alloc ?_ _)); exact BK481.out⟩, ⟨by repeat (first | (with_reducible first | exact HB.out | apply below_alloc | apply pw_below_drewN | apply below_drew1 | refine below_set ?_ GE481.out) | exact HB.out)⟩⟩
        case round =>
          clear H'
          try clear c1
          try clear p2
          try clear c8
          try clear c11
          try clear c11b0
          try clear hcz10_0
          try clear hfz10_0
          try clear p2
          obtain ⟨x13_2, x14_2, rfl, rfl, HA, HK2, HO_10, HO_482000, BK481, HB⟩ := hrel
          cases gk with
          | zero => exact absurd HA.out (by simp [arboristlaw08_GraphKeeps.l1])
          | succ k2 =>
            have H := HA.out
            clear HA
            simp only [arboristlaw08_GraphKeeps.l1] at H
            by_cases c13 : x14_2 < (t478.length : Int)
            · rw [if_pos c13] at H
              have c13b0 : decide (x14_2 < (t478.length : Int)) = true := decide_eq_true c13
              clear c13
              by_cases c14 : 0 ≤ x12_1
              · rw [if_pos c14] at H
                have c14b0 : decide (0 ≤ x12_1) = true := decide_eq_true c14
                clear c14
                by_cases c15 : x12_1 < (t478.length : Int)
                · rw [if_pos c15] at H
                  have c15b0 : decide (x12_1 < (t478.length : Int)) = true := decide_eq_true c15
                  clear c15
                  by_cases c16 : 0 ≤ x14_2
                  · rw [if_pos c16] at H
                    have c16b0 : decide (0 ≤ x14_2) = true := decide_eq_true c16
                    clear c16
                    by_cases c17 : x14_2 < ((rd_L5 t478 x12_1).length : Int)
                    · rw [if_pos c17] at H
                      have c17b0 : decide (x14_2 < ((rd_L5 t478 x12_1).length : Int)) = true := decide_eq_true c17
                      clear c17
                      obtain ⟨bq18, hbq18⟩ : ∃ b_ : Bool, b_ = (rdOf false (rd_L5 t478 x12_1) x14_2) := ⟨_, rfl⟩
                      replace H : (if bq18 = true then (if 0 ≤ (IntKind.u64.wrap (x14_2)) then (arboristlaw08_GraphKeeps.l1 k2 a2 a3 t477 t478 x12_1 (Go.bits .or .u64 x13_2 (shl .u64 1 (IntKind.u64.wrap (x14_2)))) (wrap64 (x14_2 + 1)) x482000_1) else (none)) else (arboristlaw08_GraphKeeps.l1 k2 a2 a3 t477 t478 x12_1 x13_2 (wrap64 (x14_2 + 1)) x482000_1)) = some r := by rw [← hbq18] at H; exact H
                      have Nbq18 := Aside0.mk hbq18
                      clear hbq18
                      by_cases c19 : bq18 = true
                      · subst c19
                        have H1 : (if 0 ≤ (IntKind.u64.wrap (x14_2)) then (arboristlaw08_GraphKeeps.l1 k2 a2 a3 t477 t478 x12_1 (Go.bits .or .u64 x13_2 (shl .u64 1 (IntKind.u64.wrap (x14_2)))) (wrap64 (x14_2 + 1)) x482000_1) else (none)) = some r := by rw [if_pos rfl] at H; exact H
                        clear H
                        have H := H1
                        clear H1
                        obtain ⟨ji20, hji20⟩ : ∃ j_ : Int, (IntKind.u64.wrap (x14_2)) = j_ := ⟨_, rfl⟩
                        replace H : (if 0 ≤ (ji20) then (arboristlaw08_GraphKeeps.l1 k2 a2 a3 t477 t478 x12_1 (Go.bits .or .u64 x13_2 (shl .u64 1 (ji20))) (wrap64 (x14_2 + 1)) x482000_1) else (none)) = some r := by first | (rw [hji20] at H; exact H) | (simp only [hji20] at H ⊢; exact H)
                        by_cases c21 : 0 ≤ (ji20)
                        · rw [if_pos c21] at H
                          have c21b0 := eq_true c21
                          have c21b1 : decide (0 ≤ (ji20)) = true := decide_eq_true c21
                          clear c21
                          obtain ⟨ji22, hji22⟩ : ∃ j_ : Int, (shl .u64 1 (ji20)) = j_ := ⟨_, rfl⟩
                          replace H : (arboristlaw08_GraphKeeps.l1 k2 a2 a3 t477 t478 x12_1 (Go.bits .or .u64 x13_2 (ji22)) (wrap64 (x14_2 + 1)) x482000_1) = some r := by first | (rw [hji22] at H; exact H) | (simp only [hji22] at H ⊢; exact H)
                          have hji22_ : (IntKind.u64.wrap (1 * 2 ^ min (ji20).toNat 64)) = ji22 := hji22
                          have hji22z : (ji20) ≤ 64 → (IntKind.u64.wrap (1 * 2 ^ (ji20).toNat)) = ji22 := shl_small hji22
                          have hji22u : (IntKind.u64.wrap (2 ^ min (ji20).toNat 64)) = ji22 := by have h_ := hji22_; rw [Int.one_mul] at h_; exact h_
                          have hji22v : (ji20) ≤ 64 → (IntKind.u64.wrap (2 ^ (ji20).toNat)) = ji22 := fun hle_ => by have h_ := hji22z hle_; rw [Int.one_mul] at h_; exact h_
                          have H' := Aside0.mk H
                          clear H
                          have p482 : 0 ≤ (x12_1 : Int) := of_decide_eq_true (by first | (with_reducible assumption) | assumption)
                          have q482 : x12_1 < (t478.length : Int) := of_decide_eq_true (by first | (with_reducible assumption) | assumption)
                          obtain ⟨ad482, A482_0, c482_0, e482, hx482_0, hl482_0, hi482_0⟩ := at_L5 (Kd.S_reads' HO_10.out).2.2 x12_1 p482 q482
                          cases e482
                          obtain ⟨ce482, hce482, hMe482, hcc482⟩ := Kd.S_get HO_10.out [] x12_1 p482 (by first | exact q482 | exact of_decide_eq_true (by first | (with_reducible assumption) | assumption) | (have e_ := (Kd.S_reads' HO_10.out).1; omega))
                          obtain ⟨ve482_0, rfl, ge482_0⟩ := hMe482
                          have hv482_0 := hcc482 0 _ rfl
                          rw [Nat.add_zero, show ((Kd.slice 4 Kd.bool)).sz = 1 from rfl, Nat.mul_one] at hv482_0
                          replace hv482_0 := Option.some.inj (hv482_0.symm.trans hx482_0)
                          rw [hv482_0] at ge482_0
                          have HL482_0 := Aside0.mk (show Kd.R Kd.bool 4 _ _ _ _ (rd_L5 t478 x12_1) from ge482_0)
                          clear hv482_0 ge482_0
                          clear hcc482 hce482
                          have HR482_0 := Aside0.mk hi482_0
                          have HC482_0 := Aside0.mk hl482_0
                          clear hi482_0 hl482_0
                          replace p482 := eq_true p482
                          replace q482 := eq_true q482
                          have p483 : 0 ≤ (x14_2 : Int) := of_decide_eq_true (by first | (with_reducible assumption) | assumption)
                          have q483 : x14_2 < ((rd_L5 t478 x12_1).length : Int) := of_decide_eq_true (by first | (with_reducible assumption) | assumption)
                          obtain ⟨ad483, e483, hx483_0⟩ := Kd.at_bool (by repeat (first | (with_reducible exact HR482_0.out) | (with_reducible refine Kd.C_alloc ?_ _) | (with_reducible refine Kd.C_drewN ?_ _) | (with_reducible refine Kd.C_drew ?_) | exact HR482_0.out)) x14_2 p483 q483
                          (try rw [← Nbq18.out] at hx483_0)
                          cases e483
                          replace p483 := eq_true p483
                          replace q483 := eq_true q483
                          go_wp2
                          repeat (go_quiet (fail); try go_wp2)
                          go_roundg k2
                          case measure => have := HK1.out; have := HK2.out; omega
                          case rel => exact ⟨(Go.bits .or .u64 x13_2 (ji22)), (wrap64 (x14_2 + 1)), (by first | rfl | (simp; done) | (simp only [← hji22] <;> (first | rfl | simp)) | (simp [*]; done)), (by first | rfl | (simp; done) | (simp [*]; done)), H', ⟨by have := HK1.out; have := HK2.out; omega⟩, ⟨by (with_reducible repeat (first | apply Kd.S_alloc | apply Kd.S_drewN | apply Kd.S_drew)); exact HO_10.out⟩, ⟨by (with_reducible repeat (first | apply Kd.R_alloc | apply Kd.R_drewN | apply Kd.R_drew)); exact HO_482000.out⟩, ⟨by (with_reducible repeat (first | refine blk_drewN ?_ _ | refine blk_drew ?_ | refine blk_alloc ?_ _)); exact BK481.out⟩, ⟨by repeat (first | (with_reducible first | exact HB.out | apply below_alloc | apply pw_below_drewN | apply below_drew1 | refine below_set ?_ GE481.out) | exact HB.out)⟩⟩
                        · rw [if_neg c21] at H
                          exact absurd H (by simp)
                      · replace c19 := Bool.eq_false_iff.mpr c19
                        subst c19
                        have H1 : (arboristlaw08_GraphKeeps.l1 k2 a2 a3 t477 t478 x12_1 x13_2 (wrap64 (x14_2 + 1)) x482000_1) = some r := by rw [if_neg (show ¬ (false = true) by decide)] at H; exact H
                        clear H
                        have H := H1
                        clear H1
                        have H' := Aside0.mk H
                        clear H
                        have p482 : 0 ≤ (x12_1 : Int) := of_decide_eq_true (by first | (with_reducible assumption) | assumption)
                        have q482 : x12_1 < (t478.length : Int) := of_decide_eq_true (by first | (with_reducible assumption) | assumption)
                        obtain ⟨ad482, A482_0, c482_0, e482, hx482_0, hl482_0, hi482_0⟩ := at_L5 (Kd.S_reads' HO_10.out).2.2 x12_1 p482 q482
                        cases e482
                        obtain ⟨ce482, hce482, hMe482, hcc482⟩ := Kd.S_get HO_10.out [] x12_1 p482 (by first | exact q482 | exact of_decide_eq_true (by first | (with_reducible assumption) | assumption) | (have e_ := (Kd.S_reads' HO_10.out).1; omega))
                        obtain ⟨ve482_0, rfl, ge482_0⟩ := hMe482
                        have hv482_0 := hcc482 0 _ rfl
                        rw [Nat.add_zero, show ((Kd.slice 4 Kd.bool)).sz = 1 from rfl, Nat.mul_one] at hv482_0
                        replace hv482_0 := Option.some.inj (hv482_0.symm.trans hx482_0)
                        rw [hv482_0] at ge482_0
                        have HL482_0 := Aside0.mk (show Kd.R Kd.bool 4 _ _ _ _ (rd_L5 t478 x12_1) from ge482_0)
                        clear hv482_0 ge482_0
                        clear hcc482 hce482
                        have HR482_0 := Aside0.mk hi482_0
                        have HC482_0 := Aside0.mk hl482_0
                        clear hi482_0 hl482_0
                        replace p482 := eq_true p482
                        replace q482 := eq_true q482
                        have p483 : 0 ≤ (x14_2 : Int) := of_decide_eq_true (by first | (with_reducible assumption) | assumption)
                        have q483 : x14_2 < ((rd_L5 t478 x12_1).length : Int) := of_decide_eq_true (by first | (with_reducible assumption) | assumption)
                        obtain ⟨ad483, e483, hx483_0⟩ := Kd.at_bool (by repeat (first | (with_reducible exact HR482_0.out) | (with_reducible refine Kd.C_alloc ?_ _) | (with_reducible refine Kd.C_drewN ?_ _) | (with_reducible refine Kd.C_drew ?_) | exact HR482_0.out)) x14_2 p483 q483
                        (try rw [← Nbq18.out] at hx483_0)
                        cases e483
                        replace p483 := eq_true p483
                        replace q483 := eq_true q483
                        go_wp2
                        repeat (go_quiet (fail); try go_wp2)
                        go_roundg k2
                        case measure => have := HK1.out; have := HK2.out; omega
                        case rel => exact ⟨(x13_2), (wrap64 (x14_2 + 1)), (by first | rfl | (simp; done) | (simp [*]; done)), (by first | rfl | (simp; done) | (simp [*]; done)), H', ⟨by have := HK1.out; have := HK2.out; omega⟩, ⟨by (with_reducible repeat (first | apply Kd.S_alloc | apply Kd.S_drewN | apply Kd.S_drew)); exact HO_10.out⟩, ⟨by (with_reducible repeat (first | apply Kd.R_alloc | apply Kd.R_drewN | apply Kd.R_drew)); exact HO_482000.out⟩, ⟨by (with_reducible repeat (first | refine blk_drewN ?_ _ | refine blk_drew ?_ | refine blk_alloc ?_ _)); exact BK481.out⟩, ⟨by repeat (first | (with_reducible first | exact HB.out | apply below_alloc | apply pw_below_drewN | apply below_drew1 | refine below_set ?_ GE481.out) | exact HB.out)⟩⟩
                    · rw [if_neg c17] at H
                      exact absurd H (by simp)
                  · rw [if_neg c16] at H
                    exact absurd H (by simp)
                · rw [if_neg c15] at H
                  exact absurd H (by simp)
              · rw [if_neg c14] at H
                exact absurd H (by simp)
            · rw [if_neg c13] at H
              have c13b0 : decide (x14_2 < (t478.length : Int)) = false := decide_eq_false c13
              clear c13
              by_cases c23 : x482000_1.length < 17592186044416
              · rw [if_pos c23] at H
                have LMc23 := Aside0.mk c23
                clear c23
                obtain ⟨y484, hy484⟩ : ∃ y_ : List Int, y_ = (x482000_1 ++ [x13_2]) := ⟨_, rfl⟩
                replace H : (arboristlaw08_GraphKeeps.l0 k2 a2 a3 t477 t478 (wrap64 (x12_1 + 1)) y484) = some r := by first | (rw [hy484]; with_reducible exact H) | (have H2_ := (Option.bind_some _ _).symm.trans H; rw [hy484]; with_reducible exact H2_) | (have H2_ := (Option.bind_some _ _).symm.trans H; with_reducible exact H2_) | with_reducible exact H | (rw [hy484]; exact H) | exact H
                have Ny484 := Aside0.mk hy484
                clear hy484
                have H' := Aside0.mk H
                clear H
                have hcz24_0 : wr.cell? ⟨gb481, 0, none⟩ = some (u482000) := (blk_cell BK481.out 0).trans rfl
                have hfz24_0 := blk_frozen BK481.out 0
                go_wp2_with (first | ((with_reducible refine gate_builtin (b := .append) (xs := #[.tmp 49, .tmp 51]) rfl ?_); (try (refine gate_guard (by rfl) ?_; dsimp only)); at_builtin; refine Kd.R_append (Kd.int .u64) (w0 := w) w.heap.size rfl (.tmp 49) (.tmp 51) 22 30 (.int .u64 0) 8 rfl Tryd.underlying22 info30 rfl (by decide) (by omega) u482000 x482000_1 x13_2 [.int .u64 x13_2] (fun _ => True) (fun _ => False) rfl rfl ?aP (fun _ hk => hk.elim) ?aF ?aO ?aB ?aS ?aL ?_; (case aP => exact rfl); (case aB => exact (by repeat (first | (with_reducible first | exact HB.out | apply below_alloc | apply pw_below_drewN | apply below_drew1 | refine below_set ?_ GE481.out) | exact HB.out))); (case aF => exact (fun _ _ => trivial)); (case aO => exact (by (with_reducible repeat (first | apply Kd.R_alloc | apply Kd.R_drewN | apply Kd.R_drew)); exact HO_482000.out)); (case aS => exact (below_size (by repeat (first | (with_reducible first | exact HB.out | apply below_alloc | apply pw_below_drewN | apply below_drew1 | refine below_set ?_ GE481.out) | exact HB.out)))); (case aL => have := LMc23.out; omega); intro v485 w25 ho hb hg hat; rw [← Ny484.out] at ho; have n0_ := Aside0.mk (Kd.S_over' (by (with_reducible repeat (first | apply Kd.S_alloc | apply Kd.S_drewN | apply Kd.S_drew)); exact HO_10.out) (Kd.R_typed (by (with_reducible repeat (first | apply Kd.R_alloc | apply Kd.R_drewN | apply Kd.R_drew)); exact HO_482000.out)) (by decide) hg); have n1_ := Aside0.mk (blk_grown (g := gb481) (o := .cells #[u482000] 25 (0, 0)) (by (with_reducible repeat (first | refine blk_drewN ?_ _ | refine blk_drew ?_ | refine blk_alloc ?_ _)); exact BK481.out) hg (Kd.R_ne HO_482000.out BK481.out (by decide))); have n2_ := Aside0.mk (hb); have n3_ := Aside0.mk (ho); clear HO_10; clear BK481; clear HB; clear HO_482000; have HO_10 := n0_; have BK481 := n1_; have HB := n2_; have HO486 := n3_; clear n0_ n1_ n2_ n3_; clear ho hb hg hat; obtain ⟨Ao26, co26, eo26⟩ := Kd.R_slice HO486.out; subst eo26; have hcz27_0 : w25.cell? ⟨gb481, 0, none⟩ = some (u482000) := (blk_cell BK481.out 0).trans rfl; have hfz27_0 := blk_frozen BK481.out 0))
                repeat (go_quiet (first | ((with_reducible refine gate_builtin (b := .append) (xs := #[.tmp 49, .tmp 51]) rfl ?_); (try (refine gate_guard (by rfl) ?_; dsimp only)); at_builtin; refine Kd.R_append (Kd.int .u64) (w0 := w) w.heap.size rfl (.tmp 49) (.tmp 51) 22 30 (.int .u64 0) 8 rfl Tryd.underlying22 info30 rfl (by decide) (by omega) u482000 x482000_1 x13_2 [.int .u64 x13_2] (fun _ => True) (fun _ => False) rfl rfl ?aP (fun _ hk => hk.elim) ?aF ?aO ?aB ?aS ?aL ?_; (case aP => exact rfl); (case aB => exact (by repeat (first | (with_reducible first | exact HB.out | apply below_alloc | apply pw_below_drewN | apply below_drew1 | refine below_set ?_ GE481.out) | exact HB.out))); (case aF => exact (fun _ _ => trivial)); (case aO => exact (by (with_reducible repeat (first | apply Kd.R_alloc | apply Kd.R_drewN | apply Kd.R_drew)); exact HO_482000.out)); (case aS => exact (below_size (by repeat (first | (with_reducible first | exact HB.out | apply below_alloc | apply pw_below_drewN | apply below_drew1 | refine below_set ?_ GE481.out) | exact HB.out)))); (case aL => have := LMc23.out; omega); intro v485 w25 ho hb hg hat; rw [← Ny484.out] at ho; have n0_ := Aside0.mk (Kd.S_over' (by (with_reducible repeat (first | apply Kd.S_alloc | apply Kd.S_drewN | apply Kd.S_drew)); exact HO_10.out) (Kd.R_typed (by (with_reducible repeat (first | apply Kd.R_alloc | apply Kd.R_drewN | apply Kd.R_drew)); exact HO_482000.out)) (by decide) hg); have n1_ := Aside0.mk (blk_grown (g := gb481) (o := .cells #[u482000] 25 (0, 0)) (by (with_reducible repeat (first | refine blk_drewN ?_ _ | refine blk_drew ?_ | refine blk_alloc ?_ _)); exact BK481.out) hg (Kd.R_ne HO_482000.out BK481.out (by decide))); have n2_ := Aside0.mk (hb); have n3_ := Aside0.mk (ho); clear HO_10; clear BK481; clear HB; clear HO_482000; have HO_10 := n0_; have BK481 := n1_; have HB := n2_; have HO486 := n3_; clear n0_ n1_ n2_ n3_; clear ho hb hg hat; obtain ⟨Ao26, co26, eo26⟩ := Kd.R_slice HO486.out; subst eo26; have hcz27_0 : w25.cell? ⟨gb481, 0, none⟩ = some (u482000) := (blk_cell BK481.out 0).trans rfl; have hfz27_0 := blk_frozen BK481.out 0)); try go_wp2_with (first | ((with_reducible refine gate_builtin (b := .append) (xs := #[.tmp 49, .tmp 51]) rfl ?_); (try (refine gate_guard (by rfl) ?_; dsimp only)); at_builtin; refine Kd.R_append (Kd.int .u64) (w0 := w) w.heap.size rfl (.tmp 49) (.tmp 51) 22 30 (.int .u64 0) 8 rfl Tryd.underlying22 info30 rfl (by decide) (by omega) u482000 x482000_1 x13_2 [.int .u64 x13_2] (fun _ => True) (fun _ => False) rfl rfl ?aP (fun _ hk => hk.elim) ?aF ?aO ?aB ?aS ?aL ?_; (case aP => exact rfl); (case aB => exact (by repeat (first | (with_reducible first | exact HB.out | apply below_alloc | apply pw_below_drewN | apply below_drew1 | refine below_set ?_ GE481.out) | exact HB.out))); (case aF => exact (fun _ _ => trivial)); (case aO => exact (by (with_reducible repeat (first | apply Kd.R_alloc | apply Kd.R_drewN | apply Kd.R_drew)); exact HO_482000.out)); (case aS => exact (below_size (by repeat (first | (with_reducible first | exact HB.out | apply below_alloc | apply pw_below_drewN | apply below_drew1 | refine below_set ?_ GE481.out) | exact HB.out)))); (case aL => have := LMc23.out; omega); intro v485 w25 ho hb hg hat; rw [← Ny484.out] at ho; have n0_ := Aside0.mk (Kd.S_over' (by (with_reducible repeat (first | apply Kd.S_alloc | apply Kd.S_drewN | apply Kd.S_drew)); exact HO_10.out) (Kd.R_typed (by (with_reducible repeat (first | apply Kd.R_alloc | apply Kd.R_drewN | apply Kd.R_drew)); exact HO_482000.out)) (by decide) hg); have n1_ := Aside0.mk (blk_grown (g := gb481) (o := .cells #[u482000] 25 (0, 0)) (by (with_reducible repeat (first | refine blk_drewN ?_ _ | refine blk_drew ?_ | refine blk_alloc ?_ _)); exact BK481.out) hg (Kd.R_ne HO_482000.out BK481.out (by decide))); have n2_ := Aside0.mk (hb); have n3_ := Aside0.mk (ho); clear HO_10; clear BK481; clear HB; clear HO_482000; have HO_10 := n0_; have BK481 := n1_; have HB := n2_; have HO486 := n3_; clear n0_ n1_ n2_ n3_; clear ho hb hg hat; obtain ⟨Ao26, co26, eo26⟩ := Kd.R_slice HO486.out; subst eo26; have hcz27_0 : w25.cell? ⟨gb481, 0, none⟩ = some (u482000) := (blk_cell BK481.out 0).trans rfl; have hfz27_0 := blk_frozen BK481.out 0)))
                go_roundg k2
                case measure => have := HK1.out; have := HK2.out; omega
                case rel => exact ⟨(wrap64 (x12_1 + 1)), (y484), (.slice Ao26 y484.length co26), (by first | rfl | (simp; done) | (simp [*]; done)), H', ⟨by have := HK1.out; have := HK2.out; omega⟩, ⟨by (with_reducible repeat (first | apply Kd.S_alloc | apply Kd.S_drewN | apply Kd.S_drew)); exact Kd.S_mono (Kd.S_far (p := ⟨gb481, 0, none⟩) (Kd.S_types HO_10.out BK481.out (by decide)) (fun _ hk => hk.2) (.slice Ao26 y484.length co26)) (fun _ hk => trivial)⟩, ⟨by (with_reducible repeat (first | apply Kd.R_alloc | apply Kd.R_drewN | apply Kd.R_drew)); exact Kd.R_mono (Kd.R_far (p := ⟨gb481, 0, none⟩) (Kd.R_types HO486.out BK481.out (by decide)) (fun _ hk => hk.2) (.slice Ao26 y484.length co26)) (fun _ hk => trivial)⟩, ⟨by (with_reducible repeat (first | refine blk_drewN ?_ _ | refine blk_drew ?_ | refine blk_alloc ?_ _)); refine blk_put (cs := #[u482000]) ?_ 0 _ rfl; (with_reducible repeat (first | refine blk_drewN ?_ _ | refine blk_drew ?_ | refine blk_alloc ?_ _)); exact BK481.out⟩, ⟨by repeat (first | (with_reducible first | exact HB.out | apply below_alloc | apply pw_below_drewN | apply below_drew1 | refine below_set ?_ GE481.out) | exact HB.out)⟩⟩
              · rw [if_neg c23] at H
                exact absurd H (by simp)
      · rw [if_neg c11] at H
        have c11b0 : decide (x12_1 < (t478.length : Int)) = false := decide_eq_false c11
        clear c11
        by_cases c28 : (t478.length : Int) = 0
        · rw [if_pos c28] at H
          have c28b0 : ((t478.length : Int) == 0) = true := beq_iff_eq.mpr c28
          have c28b1 : ((t478.length : Int) != 0) = false := bne_eq_false_iff_eq.mpr c28
          clear c28
          by_cases c29 : t477 = true
          · subst c29
            have H1 : ((graph_Parts.f k1 x482000_1).bind fun t487 => (some ((t487.length : Int) == 0))) = some r := by rw [if_pos rfl] at H; exact H
            clear H
            have H := H1
            clear H1
            replace H := Option.bind_eq_some_iff.mp H
            obtain ⟨t487, A300, H⟩ := H
            replace H : (some ((t487.length : Int) == 0)) = some r := H
            have A30 := Aside0.mk A300
            clear A300
            obtain rfl := Option.some.inj H
            obtain ⟨Ao31, co31, eo31⟩ := Kd.S_slice HO_10.out
            subst eo31
            have hcz32_0 : wr.cell? ⟨gb481, 0, none⟩ = some (u482000) := (blk_cell BK481.out 0).trans rfl
            have hfz32_0 := blk_frozen BK481.out 0
            obtain ⟨Ao33, co33, eo33⟩ := Kd.R_slice HO_482000.out
            subst eo33
            go_wp2_with (first | (go_at_call 25; (with_reducible refine (graph_Parts.calls (hTb := (by first | exact HTAB.out | exact tab_drewN HTAB.out _ | exact tab_below HTAB.out (by repeat (first | (with_reducible first | exact HB.out | apply below_alloc | apply pw_below_drewN | apply below_drew1 | refine below_set ?_ GE481.out | refine below_set ?_ GE499.out | refine below_set ?_ GE503.out) | exact HB.out)))) k1 _ _ x482000_1 t487 _ ?side1 ?side2 A30.out).mono ?_); (case side1 => repeat (first | exact (Kd.R_reads' HO_482000.out).2.2 | (with_reducible refine Kd.C_alloc ?_ _) | (with_reducible refine Kd.C_drewN ?_ _) | (with_reducible refine Kd.C_drew ?_))); (case side2 => exact (Kd.R_reads' HO_482000.out).2.1); rintro e w34 ⟨v488, rfl, ho0, hb⟩; have n0_ := Aside0.mk (Kd.S_below (by (with_reducible repeat (first | apply Kd.S_alloc | apply Kd.S_drewN | apply Kd.S_drew)); exact HO_10.out) hb); have n1_ := Aside0.mk (Kd.R_below (by (with_reducible repeat (first | apply Kd.R_alloc | apply Kd.R_drewN | apply Kd.R_drew)); exact HO_482000.out) hb); have n2_ := Aside0.mk (Kd.S_lower ho0 (below_size (by repeat (first | (with_reducible first | exact HB.out | apply below_alloc | apply pw_below_drewN | apply below_drew1 | refine below_set ?_ GE481.out) | exact HB.out)))); have n3_ := Aside0.mk (blk_below (g := gb481) (o := .cells #[.slice Ao33 x482000_1.length co33] 25 (0, 0)) (by (with_reducible repeat (first | refine blk_drewN ?_ _ | refine blk_drew ?_ | refine blk_alloc ?_ _)); exact BK481.out) hb); have n4_ := Aside0.mk (below_step (by repeat (first | (with_reducible first | exact HB.out | apply below_alloc | apply pw_below_drewN | apply below_drew1 | refine below_set ?_ GE481.out) | exact HB.out)) hb); clear HO_10; clear HO_482000; clear BK481; clear HB; have HO_10 := n0_; have HO_482000 := n1_; have HO489 := n2_; have BK481 := n3_; have HB := n4_; clear n0_ n1_ n2_ n3_ n4_; (try clear hb); (try clear hb2); (try clear hk); (try clear hi); (try clear ho0); obtain ⟨Ao35, co35, eo35⟩ := Kd.S_slice HO489.out; subst eo35))
            repeat (go_quiet (first | (go_at_call 25; (with_reducible refine (graph_Parts.calls (hTb := (by first | exact HTAB.out | exact tab_drewN HTAB.out _ | exact tab_below HTAB.out (by repeat (first | (with_reducible first | exact HB.out | apply below_alloc | apply pw_below_drewN | apply below_drew1 | refine below_set ?_ GE481.out | refine below_set ?_ GE499.out | refine below_set ?_ GE503.out) | exact HB.out)))) k1 _ _ x482000_1 t487 _ ?side1 ?side2 A30.out).mono ?_); (case side1 => repeat (first | exact (Kd.R_reads' HO_482000.out).2.2 | (with_reducible refine Kd.C_alloc ?_ _) | (with_reducible refine Kd.C_drewN ?_ _) | (with_reducible refine Kd.C_drew ?_))); (case side2 => exact (Kd.R_reads' HO_482000.out).2.1); rintro e w34 ⟨v488, rfl, ho0, hb⟩; have n0_ := Aside0.mk (Kd.S_below (by (with_reducible repeat (first | apply Kd.S_alloc | apply Kd.S_drewN | apply Kd.S_drew)); exact HO_10.out) hb); have n1_ := Aside0.mk (Kd.R_below (by (with_reducible repeat (first | apply Kd.R_alloc | apply Kd.R_drewN | apply Kd.R_drew)); exact HO_482000.out) hb); have n2_ := Aside0.mk (Kd.S_lower ho0 (below_size (by repeat (first | (with_reducible first | exact HB.out | apply below_alloc | apply pw_below_drewN | apply below_drew1 | refine below_set ?_ GE481.out) | exact HB.out)))); have n3_ := Aside0.mk (blk_below (g := gb481) (o := .cells #[.slice Ao33 x482000_1.length co33] 25 (0, 0)) (by (with_reducible repeat (first | refine blk_drewN ?_ _ | refine blk_drew ?_ | refine blk_alloc ?_ _)); exact BK481.out) hb); have n4_ := Aside0.mk (below_step (by repeat (first | (with_reducible first | exact HB.out | apply below_alloc | apply pw_below_drewN | apply below_drew1 | refine below_set ?_ GE481.out) | exact HB.out)) hb); clear HO_10; clear HO_482000; clear BK481; clear HB; have HO_10 := n0_; have HO_482000 := n1_; have HO489 := n2_; have BK481 := n3_; have HB := n4_; clear n0_ n1_ n2_ n3_ n4_; (try clear hb); (try clear hb2); (try clear hk); (try clear hi); (try clear ho0); obtain ⟨Ao35, co35, eo35⟩ := Kd.S_slice HO489.out; subst eo35)); try go_wp2_with (first | (go_at_call 25; (with_reducible refine (graph_Parts.calls (hTb := (by first | exact HTAB.out | exact tab_drewN HTAB.out _ | exact tab_below HTAB.out (by repeat (first | (with_reducible first | exact HB.out | apply below_alloc | apply pw_below_drewN | apply below_drew1 | refine below_set ?_ GE481.out | refine below_set ?_ GE499.out | refine below_set ?_ GE503.out) | exact HB.out)))) k1 _ _ x482000_1 t487 _ ?side1 ?side2 A30.out).mono ?_); (case side1 => repeat (first | exact (Kd.R_reads' HO_482000.out).2.2 | (with_reducible refine Kd.C_alloc ?_ _) | (with_reducible refine Kd.C_drewN ?_ _) | (with_reducible refine Kd.C_drew ?_))); (case side2 => exact (Kd.R_reads' HO_482000.out).2.1); rintro e w34 ⟨v488, rfl, ho0, hb⟩; have n0_ := Aside0.mk (Kd.S_below (by (with_reducible repeat (first | apply Kd.S_alloc | apply Kd.S_drewN | apply Kd.S_drew)); exact HO_10.out) hb); have n1_ := Aside0.mk (Kd.R_below (by (with_reducible repeat (first | apply Kd.R_alloc | apply Kd.R_drewN | apply Kd.R_drew)); exact HO_482000.out) hb); have n2_ := Aside0.mk (Kd.S_lower ho0 (below_size (by repeat (first | (with_reducible first | exact HB.out | apply below_alloc | apply pw_below_drewN | apply below_drew1 | refine below_set ?_ GE481.out) | exact HB.out)))); have n3_ := Aside0.mk (blk_below (g := gb481) (o := .cells #[.slice Ao33 x482000_1.length co33] 25 (0, 0)) (by (with_reducible repeat (first | refine blk_drewN ?_ _ | refine blk_drew ?_ | refine blk_alloc ?_ _)); exact BK481.out) hb); have n4_ := Aside0.mk (below_step (by repeat (first | (with_reducible first | exact HB.out | apply below_alloc | apply pw_below_drewN | apply below_drew1 | refine below_set ?_ GE481.out) | exact HB.out)) hb); clear HO_10; clear HO_482000; clear BK481; clear HB; have HO_10 := n0_; have HO_482000 := n1_; have HO489 := n2_; have BK481 := n3_; have HB := n4_; clear n0_ n1_ n2_ n3_ n4_; (try clear hb); (try clear hb2); (try clear hk); (try clear hi); (try clear ho0); obtain ⟨Ao35, co35, eo35⟩ := Kd.S_slice HO489.out; subst eo35)))
            go_ret
            exact ⟨by first | rfl | (simp [errW_none, errW_some] <;> rfl) | (simp [*, errW_none, errW_some] <;> rfl), by repeat (first | (with_reducible first | exact HB.out | apply below_alloc | apply pw_below_drewN | apply below_drew1 | refine below_set ?_ GE481.out) | exact HB.out)⟩
          · replace c29 := Bool.eq_false_iff.mpr c29
            subst c29
            have H1 : (some false) = some r := by rw [if_neg (show ¬ (false = true) by decide)] at H; exact H
            clear H
            have H := H1
            clear H1
            exact absurd ((Option.some.inj H).trans HT_.out) (by decide)
        · rw [if_neg c28] at H
          have c28b0 : ((t478.length : Int) == 0) = false := beq_eq_false_iff_ne.mpr c28
          have c28b1 : ((t478.length : Int) != 0) = true := bne_iff_ne.mpr c28
          have c28b2 : ¬ (t478 = []) := fun h_ => c28 (by rw [h_]; rfl)
          obtain ⟨y490, hy490⟩ : ∃ y_ : List Int, y_ = (([] : List Int)) := ⟨_, rfl⟩
          replace H : (if y490.length + x482000_1.length < 17592186044416 then ((some (y490 ++ x482000_1 : List Int)).bind fun y493 => ((graph_Join.f x482000_1 (Int.tmod (Go.bits .and .i64 a2 65535) (t478.length : Int)) (Int.tmod (Go.bits .and .i64 a3 65535) (t478.length : Int))).bind fun t496 => ((graph_Join.f t496 (Int.tmod (Go.bits .and .i64 a3 65535) (t478.length : Int)) (Int.tmod (Go.bits .and .i64 a2 65535) (t478.length : Int))).bind fun t500 => (if (t496.length : Int) = (y493.length : Int) then (arboristlaw08_GraphKeeps.j2 k1 (Int.tmod (Go.bits .and .i64 a2 65535) (t478.length : Int)) t477 y493 ((t500.length : Int) != (y493.length : Int)) x482000_1 t496 t500) else (arboristlaw08_GraphKeeps.j2 k1 (Int.tmod (Go.bits .and .i64 a2 65535) (t478.length : Int)) t477 y493 true x482000_1 t496 t500))))) else (none)) = some r := by first | (rw [hy490]; with_reducible exact H) | (have H2_ := (Option.bind_some _ _).symm.trans H; rw [hy490]; with_reducible exact H2_) | (have H2_ := (Option.bind_some _ _).symm.trans H; with_reducible exact H2_) | with_reducible exact H | (rw [hy490]; exact H) | exact H
          have Ny490 := Aside0.mk hy490
          clear hy490
          by_cases c36 : y490.length + x482000_1.length < 17592186044416
          · rw [if_pos c36] at H
            have LMc36 := Aside0.mk c36
            clear c36
            obtain ⟨y493, hy493⟩ : ∃ y_ : List Int, y_ = (y490 ++ x482000_1) := ⟨_, rfl⟩
            replace H : ((graph_Join.f x482000_1 (Int.tmod (Go.bits .and .i64 a2 65535) (t478.length : Int)) (Int.tmod (Go.bits .and .i64 a3 65535) (t478.length : Int))).bind fun t496 => ((graph_Join.f t496 (Int.tmod (Go.bits .and .i64 a3 65535) (t478.length : Int)) (Int.tmod (Go.bits .and .i64 a2 65535) (t478.length : Int))).bind fun t500 => (if (t496.length : Int) = (y493.length : Int) then (arboristlaw08_GraphKeeps.j2 k1 (Int.tmod (Go.bits .and .i64 a2 65535) (t478.length : Int)) t477 y493 ((t500.length : Int) != (y493.length : Int)) x482000_1 t496 t500) else (arboristlaw08_GraphKeeps.j2 k1 (Int.tmod (Go.bits .and .i64 a2 65535) (t478.length : Int)) t477 y493 true x482000_1 t496 t500)))) = some r := by first | (rw [hy493]; with_reducible exact H) | (have H2_ := (Option.bind_some _ _).symm.trans H; rw [hy493]; with_reducible exact H2_) | (have H2_ := (Option.bind_some _ _).symm.trans H; with_reducible exact H2_) | with_reducible exact H | (rw [hy493]; exact H) | exact H
            have Ny493 := Aside0.mk hy493
            clear hy493
            replace H := Option.bind_eq_some_iff.mp H
            obtain ⟨t496, A370, H⟩ := H
            replace H : ((graph_Join.f t496 (Int.tmod (Go.bits .and .i64 a3 65535) (t478.length : Int)) (Int.tmod (Go.bits .and .i64 a2 65535) (t478.length : Int))).bind fun t500 => (if (t496.length : Int) = (y493.length : Int) then (arboristlaw08_GraphKeeps.j2 k1 (Int.tmod (Go.bits .and .i64 a2 65535) (t478.length : Int)) t477 y493 ((t500.length : Int) != (y493.length : Int)) x482000_1 t496 t500) else (arboristlaw08_GraphKeeps.j2 k1 (Int.tmod (Go.bits .and .i64 a2 65535) (t478.length : Int)) t477 y493 true x482000_1 t496 t500))) = some r := H
            have A37 := Aside0.mk A370
            clear A370
            replace H := Option.bind_eq_some_iff.mp H
            obtain ⟨t500, A380, H⟩ := H
            replace H : (if (t496.length : Int) = (y493.length : Int) then (arboristlaw08_GraphKeeps.j2 k1 (Int.tmod (Go.bits .and .i64 a2 65535) (t478.length : Int)) t477 y493 ((t500.length : Int) != (y493.length : Int)) x482000_1 t496 t500) else (arboristlaw08_GraphKeeps.j2 k1 (Int.tmod (Go.bits .and .i64 a2 65535) (t478.length : Int)) t477 y493 true x482000_1 t496 t500)) = some r := H
            have A38 := Aside0.mk A380
            clear A380
            have HC39 := Aside0.mk H
            clear H
            obtain ⟨Ao40, co40, eo40⟩ := Kd.S_slice HO_10.out
            subst eo40
            go_upto_region 21 with (first | ((with_reducible refine gate_dst (N := 74) rfl ?_); (try (refine gate_guard (by rfl) ?_; dsimp only)); refine Kd.R_lit (Kd.int .u64) _ 30 ?hg (N := 74) ?hd (xs := ([] : List Int)) (inner := []) (ok := fun _ => True) (okp := fun _ => True) ?hr ?hp (fun _ hk => hk) trivial (Below.refl _ _) (Nat.le_refl _) (by simp) ?_; (case hd => rfl); (case hg => rfl); (case hr => first | (go_simp; done) | (go_simp; rfl)); (case hp => exact (Reps.none _ _)); intro v491 w41 ho42 hb hg_ hnew_; clear hg_ hnew_; (first | rw [← Ny490.out] at ho42 | (simp only [Int.reduceToNat] at ho42; rw [← Ny490.out] at ho42)); have n0_ := Aside0.mk (Kd.S_below (by (with_reducible repeat (first | apply Kd.S_alloc | apply Kd.S_drewN | apply Kd.S_drew)); exact HO_10.out) hb); have n1_ := Aside0.mk (Kd.R_elder' (by (with_reducible repeat (first | apply Kd.R_alloc | apply Kd.R_drewN | apply Kd.R_drew)); exact HO_482000.out) (Kd.R_base ho42) hb); have n2_ := Aside0.mk (Kd.R_lower (Kd.R_new' ho42 (Kd.R_lt (by (with_reducible repeat (first | apply Kd.R_alloc | apply Kd.R_drewN | apply Kd.R_drew)); exact HO_482000.out))) (below_size (by repeat (first | (with_reducible first | exact HB.out | apply below_alloc | apply pw_below_drewN | apply below_drew1 | refine below_set ?_ GE481.out) | exact HB.out)))); have n3_ := Aside0.mk (blk_below (g := gb481) (o := .cells #[u482000] 25 (0, 0)) (by (with_reducible repeat (first | refine blk_drewN ?_ _ | refine blk_drew ?_ | refine blk_alloc ?_ _)); exact BK481.out) hb); have n4_ := Aside0.mk (below_step (by repeat (first | (with_reducible first | exact HB.out | apply below_alloc | apply pw_below_drewN | apply below_drew1 | refine below_set ?_ GE481.out) | exact HB.out)) hb); clear HO_10; clear HO_482000; clear BK481; clear HB; have HO_10 := n0_; have HO_482000 := n1_; have HO492 := n2_; have BK481 := n3_; have HB := n4_; clear n0_ n1_ n2_ n3_ n4_; clear hb ho42; have hcz43_0 : w41.cell? ⟨gb481, 0, none⟩ = some (u482000) := (blk_cell BK481.out 0).trans rfl; have hfz43_0 := blk_frozen BK481.out 0; obtain ⟨Ao45, co45, eo45⟩ := Kd.R_slice HO_482000.out; subst eo45) | ((with_reducible refine gate_builtin (b := .append) (xs := #[.tmp 74, .tmp 76]) rfl ?_); (try (refine gate_guard (by rfl) ?_; dsimp only)); at_builtin; refine Kd.R_append_rows (Kd.int .u64) (w0 := w) w.heap.size rfl (.tmp 74) (.tmp 76) 22 30 (.int .u64 0) 8 rfl Tryd.underlying22 info30 rfl (by decide) (by omega) v491 y490 x482000_1 _ _ _ (fun k_ => some k_ ≠ (.slice Ao45 x482000_1.length co45 : Value).ownBlock) (fun _ => False) rfl rfl ?aO ?aR (fun _ _ h => h) (fun _ h => h.elim) ?aF ?aB ?aS ?aL ?_; (case aR => repeat (first | exact (Kd.R_reads' HO_482000.out).2.2 | (with_reducible refine Kd.C_alloc ?_ _) | (with_reducible refine Kd.C_drewN ?_ _) | (with_reducible refine Kd.C_drew ?_))); (case aB => exact (by repeat (first | (with_reducible first | exact HB.out | apply below_alloc | apply pw_below_drewN | apply below_drew1 | refine below_set ?_ GE481.out) | exact HB.out))); (case aF => exact (fun k_ hk => Kd.fresh' (Kd.R_lt (by (with_reducible repeat (first | apply Kd.R_alloc | apply Kd.R_drewN | apply Kd.R_drew)); exact HO_482000.out)) k_ hk)); (case aO => exact (by (with_reducible repeat (first | apply Kd.R_alloc | apply Kd.R_drewN | apply Kd.R_drew)); exact Kd.R_mono HO492.out (fun _ hk => hk.2))); (case aS => exact (below_size (by repeat (first | (with_reducible first | exact HB.out | apply below_alloc | apply pw_below_drewN | apply below_drew1 | refine below_set ?_ GE481.out) | exact HB.out)))); (case aL => have := LMc36.out; omega); intro v494 w44 ho hb hg hat; rw [← Ny493.out] at ho; have n0_ := Aside0.mk (Kd.S_over' (by (with_reducible repeat (first | apply Kd.S_alloc | apply Kd.S_drewN | apply Kd.S_drew)); exact HO_10.out) (Kd.R_typed (by (with_reducible repeat (first | apply Kd.R_alloc | apply Kd.R_drewN | apply Kd.R_drew)); exact HO492.out)) (by decide) hg); have n1_ := Aside0.mk (Kd.R_after (ok := (fun _ => True)) (by (with_reducible repeat (first | apply Kd.R_alloc | apply Kd.R_drewN | apply Kd.R_drew)); exact HO_482000.out) hg hat); have n2_ := Aside0.mk (blk_grown (g := gb481) (o := .cells #[.slice Ao45 x482000_1.length co45] 25 (0, 0)) (by (with_reducible repeat (first | refine blk_drewN ?_ _ | refine blk_drew ?_ | refine blk_alloc ?_ _)); exact BK481.out) hg (Kd.R_ne HO492.out BK481.out (by decide))); have n3_ := Aside0.mk (hb); have n4_ := Aside0.mk (ho); clear HO_10; clear HO_482000; clear BK481; clear HB; clear HO492; have HO_10 := n0_; have HO_482000 := n1_; have BK481 := n2_; have HB := n3_; have HO495 := n4_; clear n0_ n1_ n2_ n3_ n4_; clear ho hb hg hat; have hcz46_0 : w44.cell? ⟨gb481, 0, none⟩ = some (.slice Ao45 x482000_1.length co45) := (blk_cell BK481.out 0).trans rfl; have hfz46_0 := blk_frozen BK481.out 0) | (go_at_call 17; (with_reducible refine (graph_Join.calls _ _ x482000_1 (Int.tmod (Go.bits .and .i64 a2 65535) (t478.length : Int)) (Int.tmod (Go.bits .and .i64 a3 65535) (t478.length : Int)) t496 _ ?side1 ?side2 A37.out).mono ?_); (case side1 => repeat (first | exact (Kd.R_reads' HO_482000.out).2.2 | (with_reducible refine Kd.C_alloc ?_ _) | (with_reducible refine Kd.C_drewN ?_ _) | (with_reducible refine Kd.C_drew ?_))); (case side2 => exact (Kd.R_reads' HO_482000.out).2.1); rintro e w47 ⟨v497, rfl, ho0, hb⟩; have n0_ := Aside0.mk (Kd.S_below (by (with_reducible repeat (first | apply Kd.S_alloc | apply Kd.S_drewN | apply Kd.S_drew)); exact HO_10.out) hb); have n1_ := Aside0.mk (Kd.R_elder' (by (with_reducible repeat (first | apply Kd.R_alloc | apply Kd.R_drewN | apply Kd.R_drew)); exact HO_482000.out) (Kd.R_base ho0) hb); have n2_ := Aside0.mk (Kd.R_elder' (by (with_reducible repeat (first | apply Kd.R_alloc | apply Kd.R_drewN | apply Kd.R_drew)); exact HO495.out) (Kd.R_base ho0) hb); have n3_ := Aside0.mk (Kd.R_lower (Kd.R_new' (Kd.R_new' ho0 (Kd.R_lt (by (with_reducible repeat (first | apply Kd.R_alloc | apply Kd.R_drewN | apply Kd.R_drew)); exact HO_482000.out))) (Kd.R_lt (by (with_reducible repeat (first | apply Kd.R_alloc | apply Kd.R_drewN | apply Kd.R_drew)); exact HO495.out))) (below_size (by repeat (first | (with_reducible first | exact HB.out | apply below_alloc | apply pw_below_drewN | apply below_drew1 | refine below_set ?_ GE481.out) | exact HB.out)))); have n4_ := Aside0.mk (blk_below (g := gb481) (o := .cells #[.slice Ao45 x482000_1.length co45] 25 (0, 0)) (by (with_reducible repeat (first | refine blk_drewN ?_ _ | refine blk_drew ?_ | refine blk_alloc ?_ _)); exact BK481.out) hb); have n5_ := Aside0.mk (below_step (by repeat (first | (with_reducible first | exact HB.out | apply below_alloc | apply pw_below_drewN | apply below_drew1 | refine below_set ?_ GE481.out) | exact HB.out)) hb); clear HO_10; clear HO_482000; clear HO495; clear BK481; clear HB; have HO_10 := n0_; have HO_482000 := n1_; have HO495 := n2_; have HO498 := n3_; have BK481 := n4_; have HB := n5_; clear n0_ n1_ n2_ n3_ n4_ n5_; (try clear hb); (try clear hb2); (try clear hk); (try clear hi); (try clear ho0)) | ((with_reducible refine gate_dst (N := 16) rfl ?_); (try (refine gate_guard (by rfl) ?_; dsimp only)); refine box_event ?hg (N := 16) ?hd (cs := #[.slice none 0 0]) (t := 25) ?hr ?_; (case hd => rfl); (case hg => rfl); (case hr => first | (go_simp; done) | (go_simp; rfl)); intro gb499 hg w48 hbox hb; have n0_ := Aside0.mk (Kd.S_below (by (with_reducible repeat (first | apply Kd.S_alloc | apply Kd.S_drewN | apply Kd.S_drew)); exact HO_10.out) hb); have n1_ := Aside0.mk (Kd.R_below (by (with_reducible repeat (first | apply Kd.R_alloc | apply Kd.R_drewN | apply Kd.R_drew)); exact HO_482000.out) hb); have n2_ := Aside0.mk (Kd.R_below (by (with_reducible repeat (first | apply Kd.R_alloc | apply Kd.R_drewN | apply Kd.R_drew)); exact HO495.out) hb); have n3_ := Aside0.mk (Kd.R_below (by (with_reducible repeat (first | apply Kd.R_alloc | apply Kd.R_drewN | apply Kd.R_drew)); exact HO498.out) hb); have n4_ := Aside0.mk (blk_below (g := gb481) (o := .cells #[.slice Ao45 x482000_1.length co45] 25 (0, 0)) (by (with_reducible repeat (first | refine blk_drewN ?_ _ | refine blk_drew ?_ | refine blk_alloc ?_ _)); exact BK481.out) hb); have n5_ := Aside0.mk (below_step (by repeat (first | (with_reducible first | exact HB.out | apply below_alloc | apply pw_below_drewN | apply below_drew1 | refine below_set ?_ GE481.out) | exact HB.out)) hb); have n6_ := Aside0.mk (hbox); have n7_ := Aside0.mk ((by rw [hg]; exact (below_size (by repeat (first | (with_reducible first | exact HB.out | apply below_alloc | apply pw_below_drewN | apply below_drew1 | refine below_set ?_ GE481.out) | exact HB.out))) : w.heap.size ≤ gb499)); have n8_ := Aside0.mk ((by rw [hg]; exact (below_size (by repeat (first | (with_reducible first | exact HB.out | apply below_alloc | apply pw_below_drewN | apply below_drew1 | refine below_set ?_ GE481.out) | exact HB.out))) : w.heap.size ≤ gb499)); have n9_ := Aside0.mk ((by rw [hg]; exact Nat.ne_of_lt (blk_lt (g := gb481) (o := .cells #[.slice Ao45 x482000_1.length co45] 25 (0, 0)) (by (with_reducible repeat (first | refine blk_drewN ?_ _ | refine blk_drew ?_ | refine blk_alloc ?_ _)); exact BK481.out)) : gb481 ≠ gb499)); have n10_ := Aside0.mk ((by rw [hg]; exact Nat.ne_of_gt (blk_lt (g := gb481) (o := .cells #[.slice Ao45 x482000_1.length co45] 25 (0, 0)) (by (with_reducible repeat (first | refine blk_drewN ?_ _ | refine blk_drew ?_ | refine blk_alloc ?_ _)); exact BK481.out)) : gb499 ≠ gb481)); clear HO_10; clear HO_482000; clear HO495; clear HO498; clear BK481; clear HB; have HO_10 := n0_; have HO_482000 := n1_; have HO495 := n2_; have HO498 := n3_; have BK481 := n4_; have HB := n5_; have BK499 := n6_; have GW499 := n7_; have GE499 := n8_; have NB481_499 := n9_; have NB499_481 := n10_; clear n0_ n1_ n2_ n3_ n4_ n5_ n6_ n7_ n8_ n9_ n10_; clear hb hbox hg; obtain ⟨Ao49, co49, eo49⟩ := Kd.R_slice HO498.out; subst eo49; have hnb50 := NB499_481.out; have hnc50 := NB481_499.out; have hcz51_0 : w48.cell? ⟨gb499, 0, none⟩ = some (.slice none 0 0) := (blk_cell BK499.out 0).trans rfl; have hfz51_0 := blk_frozen BK499.out 0) | (go_at_call 17; (with_reducible refine (graph_Join.calls _ _ t496 (Int.tmod (Go.bits .and .i64 a3 65535) (t478.length : Int)) (Int.tmod (Go.bits .and .i64 a2 65535) (t478.length : Int)) t500 _ ?side1 ?side2 A38.out).mono ?_); (case side1 => refine (Kd.R_reads' (e := 30) (base := w.heap.size) (ok := fun k_ => ((True ∧ some k_ ≠ (.slice Ao45 x482000_1.length co45 : Value).ownBlock) ∧ some k_ ≠ (v494 : Value).ownBlock)) (n := t496.length) (c := co49) ?_).2.2; exact (by (with_reducible repeat (first | apply Kd.R_alloc | apply Kd.R_drewN | apply Kd.R_drew)); exact (Kd.R_mono (Kd.R_far (p := ⟨gb499, 0, none⟩) (Kd.R_types HO498.out BK499.out (by decide)) (fun _ hk => hk.2) (.slice Ao49 t496.length co49)) (fun _ h_ => h_.1)))); (case side2 => exact (Kd.R_reads' HO498.out).2.1); rintro e w52 ⟨v501, rfl, ho0, hb⟩; have n0_ := Aside0.mk (Kd.S_below (by (with_reducible repeat (first | apply Kd.S_alloc | apply Kd.S_drewN | apply Kd.S_drew)); exact (Kd.S_mono (Kd.S_far (p := ⟨gb499, 0, none⟩) (Kd.S_types HO_10.out BK499.out (by decide)) (fun _ hk => hk.2) (.slice Ao49 t496.length co49)) (fun _ h_ => h_.1))) hb); have n1_ := Aside0.mk (Kd.R_elder' (by (with_reducible repeat (first | apply Kd.R_alloc | apply Kd.R_drewN | apply Kd.R_drew)); exact (Kd.R_mono (Kd.R_far (p := ⟨gb499, 0, none⟩) (Kd.R_types HO_482000.out BK499.out (by decide)) (fun _ hk => hk.2) (.slice Ao49 t496.length co49)) (fun _ h_ => h_.1))) (Kd.R_base ho0) hb); have n2_ := Aside0.mk (Kd.R_elder' (by (with_reducible repeat (first | apply Kd.R_alloc | apply Kd.R_drewN | apply Kd.R_drew)); exact (Kd.R_mono (Kd.R_far (p := ⟨gb499, 0, none⟩) (Kd.R_types HO495.out BK499.out (by decide)) (fun _ hk => hk.2) (.slice Ao49 t496.length co49)) (fun _ h_ => h_.1))) (Kd.R_base ho0) hb); have n3_ := Aside0.mk (Kd.R_elder' (by (with_reducible repeat (first | apply Kd.R_alloc | apply Kd.R_drewN | apply Kd.R_drew)); exact (Kd.R_mono (Kd.R_far (p := ⟨gb499, 0, none⟩) (Kd.R_types HO498.out BK499.out (by decide)) (fun _ hk => hk.2) (.slice Ao49 t496.length co49)) (fun _ h_ => h_.1))) (Kd.R_base ho0) hb); have n4_ := Aside0.mk (Kd.R_lower (Kd.R_new' (Kd.R_new' (Kd.R_new' ho0 (Kd.R_lt (by (with_reducible repeat (first | apply Kd.R_alloc | apply Kd.R_drewN | apply Kd.R_drew)); exact (Kd.R_mono (Kd.R_far (p := ⟨gb499, 0, none⟩) (Kd.R_types HO_482000.out BK499.out (by decide)) (fun _ hk => hk.2) (.slice Ao49 t496.length co49)) (fun _ h_ => h_.1))))) (Kd.R_lt (by (with_reducible repeat (first | apply Kd.R_alloc | apply Kd.R_drewN | apply Kd.R_drew)); exact (Kd.R_mono (Kd.R_far (p := ⟨gb499, 0, none⟩) (Kd.R_types HO495.out BK499.out (by decide)) (fun _ hk => hk.2) (.slice Ao49 t496.length co49)) (fun _ h_ => h_.1))))) (Kd.R_lt (by (with_reducible repeat (first | apply Kd.R_alloc | apply Kd.R_drewN | apply Kd.R_drew)); exact (Kd.R_mono (Kd.R_far (p := ⟨gb499, 0, none⟩) (Kd.R_types HO498.out BK499.out (by decide)) (fun _ hk => hk.2) (.slice Ao49 t496.length co49)) (fun _ h_ => h_.1))))) (below_size (by repeat (first | (with_reducible first | exact HB.out | apply below_alloc | apply pw_below_drewN | apply below_drew1 | refine below_set ?_ GE481.out | refine below_set ?_ GE499.out) | exact HB.out)))); have n5_ := Aside0.mk (blk_below (g := gb481) (o := .cells #[.slice Ao45 x482000_1.length co45] 25 (0, 0)) (by (with_reducible repeat (first | refine blk_drewN ?_ _ | refine blk_drew ?_ | refine blk_alloc ?_ _)); refine blk_far ?_ NB481_499.out _; (with_reducible repeat (first | refine blk_drewN ?_ _ | refine blk_drew ?_ | refine blk_alloc ?_ _)); exact BK481.out) hb); have n6_ := Aside0.mk (blk_below (g := gb499) (o := .cells #[.slice Ao49 t496.length co49] 25 (0, 0)) (by (with_reducible repeat (first | refine blk_drewN ?_ _ | refine blk_drew ?_ | refine blk_alloc ?_ _)); refine blk_put (cs := #[.slice none 0 0]) ?_ 0 _ rfl; (with_reducible repeat (first | refine blk_drewN ?_ _ | refine blk_drew ?_ | refine blk_alloc ?_ _)); exact BK499.out) hb); have n7_ := Aside0.mk (below_step (by repeat (first | (with_reducible first | exact HB.out | apply below_alloc | apply pw_below_drewN | apply below_drew1 | refine below_set ?_ GE481.out | refine below_set ?_ GE499.out) | exact HB.out)) hb); clear HO_10; clear HO_482000; clear HO495; clear HO498; clear BK481; clear BK499; clear HB; have HO_10 := n0_; have HO_482000 := n1_; have HO495 := n2_; have HO498 := n3_; have HO502 := n4_; have BK481 := n5_; have BK499 := n6_; have HB := n7_; clear n0_ n1_ n2_ n3_ n4_ n5_ n6_ n7_; (try clear hb); (try clear hb2); (try clear hk); (try clear hi); (try clear ho0)) | ((with_reducible refine gate_dst (N := 17) rfl ?_); (try (refine gate_guard (by rfl) ?_; dsimp only)); refine box_event ?hg (N := 17) ?hd (cs := #[.slice none 0 0]) (t := 25) ?hr ?_; (case hd => rfl); (case hg => rfl); (case hr => first | (go_simp; done) | (go_simp; rfl)); intro gb503 hg w53 hbox hb; have n0_ := Aside0.mk (Kd.S_below (by (with_reducible repeat (first | apply Kd.S_alloc | apply Kd.S_drewN | apply Kd.S_drew)); exact HO_10.out) hb); have n1_ := Aside0.mk (Kd.R_below (by (with_reducible repeat (first | apply Kd.R_alloc | apply Kd.R_drewN | apply Kd.R_drew)); exact HO_482000.out) hb); have n2_ := Aside0.mk (Kd.R_below (by (with_reducible repeat (first | apply Kd.R_alloc | apply Kd.R_drewN | apply Kd.R_drew)); exact HO495.out) hb); have n3_ := Aside0.mk (Kd.R_below (by (with_reducible repeat (first | apply Kd.R_alloc | apply Kd.R_drewN | apply Kd.R_drew)); exact HO498.out) hb); have n4_ := Aside0.mk (Kd.R_below (by (with_reducible repeat (first | apply Kd.R_alloc | apply Kd.R_drewN | apply Kd.R_drew)); exact HO502.out) hb); have n5_ := Aside0.mk (blk_below (g := gb481) (o := .cells #[.slice Ao45 x482000_1.length co45] 25 (0, 0)) (by (with_reducible repeat (first | refine blk_drewN ?_ _ | refine blk_drew ?_ | refine blk_alloc ?_ _)); exact BK481.out) hb); have n6_ := Aside0.mk (blk_below (g := gb499) (o := .cells #[.slice Ao49 t496.length co49] 25 (0, 0)) (by (with_reducible repeat (first | refine blk_drewN ?_ _ | refine blk_drew ?_ | refine blk_alloc ?_ _)); exact BK499.out) hb); have n7_ := Aside0.mk (below_step (by repeat (first | (with_reducible first | exact HB.out | apply below_alloc | apply pw_below_drewN | apply below_drew1 | refine below_set ?_ GE481.out | refine below_set ?_ GE499.out) | exact HB.out)) hb); have n8_ := Aside0.mk (hbox); have n9_ := Aside0.mk ((by rw [hg]; exact (below_size (by repeat (first | (with_reducible first | exact HB.out | apply below_alloc | apply pw_below_drewN | apply below_drew1 | refine below_set ?_ GE481.out | refine below_set ?_ GE499.out) | exact HB.out))) : w.heap.size ≤ gb503)); have n10_ := Aside0.mk ((by rw [hg]; exact (below_size (by repeat (first | (with_reducible first | exact HB.out | apply below_alloc | apply pw_below_drewN | apply below_drew1 | refine below_set ?_ GE481.out | refine below_set ?_ GE499.out) | exact HB.out))) : w.heap.size ≤ gb503)); have n11_ := Aside0.mk ((by rw [hg]; exact Nat.ne_of_lt (blk_lt (g := gb481) (o := .cells #[.slice Ao45 x482000_1.length co45] 25 (0, 0)) (by (with_reducible repeat (first | refine blk_drewN ?_ _ | refine blk_drew ?_ | refine blk_alloc ?_ _)); exact BK481.out)) : gb481 ≠ gb503)); have n12_ := Aside0.mk ((by rw [hg]; exact Nat.ne_of_gt (blk_lt (g := gb481) (o := .cells #[.slice Ao45 x482000_1.length co45] 25 (0, 0)) (by (with_reducible repeat (first | refine blk_drewN ?_ _ | refine blk_drew ?_ | refine blk_alloc ?_ _)); exact BK481.out)) : gb503 ≠ gb481)); have n13_ := Aside0.mk ((by rw [hg]; exact Nat.ne_of_lt (blk_lt (g := gb499) (o := .cells #[.slice Ao49 t496.length co49] 25 (0, 0)) (by (with_reducible repeat (first | refine blk_drewN ?_ _ | refine blk_drew ?_ | refine blk_alloc ?_ _)); exact BK499.out)) : gb499 ≠ gb503)); have n14_ := Aside0.mk ((by rw [hg]; exact Nat.ne_of_gt (blk_lt (g := gb499) (o := .cells #[.slice Ao49 t496.length co49] 25 (0, 0)) (by (with_reducible repeat (first | refine blk_drewN ?_ _ | refine blk_drew ?_ | refine blk_alloc ?_ _)); exact BK499.out)) : gb503 ≠ gb499)); clear HO_10; clear HO_482000; clear HO495; clear HO498; clear HO502; clear BK481; clear BK499; clear HB; have HO_10 := n0_; have HO_482000 := n1_; have HO495 := n2_; have HO498 := n3_; have HO502 := n4_; have BK481 := n5_; have BK499 := n6_; have HB := n7_; have BK503 := n8_; have GW503 := n9_; have GE503 := n10_; have NB481_503 := n11_; have NB503_481 := n12_; have NB499_503 := n13_; have NB503_499 := n14_; clear n0_ n1_ n2_ n3_ n4_ n5_ n6_ n7_ n8_ n9_ n10_ n11_ n12_ n13_ n14_; clear hb hbox hg; obtain ⟨Ao54, co54, eo54⟩ := Kd.R_slice HO502.out; subst eo54; have hnb55 := NB503_481.out; have hnc55 := NB481_503.out; have hnb56 := NB503_499.out; have hnc56 := NB499_503.out; have hcz57_0 : w53.cell? ⟨gb503, 0, none⟩ = some (.slice none 0 0) := (blk_cell BK503.out 0).trans rfl; have hfz57_0 := blk_frozen BK503.out 0))
            repeat (go_quiet (first | ((with_reducible refine gate_dst (N := 74) rfl ?_); (try (refine gate_guard (by rfl) ?_; dsimp only)); refine Kd.R_lit (Kd.int .u64) _ 30 ?hg (N := 74) ?hd (xs := ([] : List Int)) (inner := []) (ok := fun _ => True) (okp := fun _ => True) ?hr ?hp (fun _ hk => hk) trivial (Below.refl _ _) (Nat.le_refl _) (by simp) ?_; (case hd => rfl); (case hg => rfl); (case hr => first | (go_simp; done) | (go_simp; rfl)); (case hp => exact (Reps.none _ _)); intro v491 w41 ho42 hb hg_ hnew_; clear hg_ hnew_; (first | rw [← Ny490.out] at ho42 | (simp only [Int.reduceToNat] at ho42; rw [← Ny490.out] at ho42)); have n0_ := Aside0.mk (Kd.S_below (by (with_reducible repeat (first | apply Kd.S_alloc | apply Kd.S_drewN | apply Kd.S_drew)); exact HO_10.out) hb); have n1_ := Aside0.mk (Kd.R_elder' (by (with_reducible repeat (first | apply Kd.R_alloc | apply Kd.R_drewN | apply Kd.R_drew)); exact HO_482000.out) (Kd.R_base ho42) hb); have n2_ := Aside0.mk (Kd.R_lower (Kd.R_new' ho42 (Kd.R_lt (by (with_reducible repeat (first | apply Kd.R_alloc | apply Kd.R_drewN | apply Kd.R_drew)); exact HO_482000.out))) (below_size (by repeat (first | (with_reducible first | exact HB.out | apply below_alloc | apply pw_below_drewN | apply below_drew1 | refine below_set ?_ GE481.out) | exact HB.out)))); have n3_ := Aside0.mk (blk_below (g := gb481) (o := .cells #[u482000] 25 (0, 0)) (by (with_reducible repeat (first | refine blk_drewN ?_ _ | refine blk_drew ?_ | refine blk_alloc ?_ _)); exact BK481.out) hb); have n4_ := Aside0.mk (below_step (by repeat (first | (with_reducible first | exact HB.out | apply below_alloc | apply pw_below_drewN | apply below_drew1 | refine below_set ?_ GE481.out) | exact HB.out)) hb); clear HO_10; clear HO_482000; clear BK481; clear HB; have HO_10 := n0_; have HO_482000 := n1_; have HO492 := n2_; have BK481 := n3_; have HB := n4_; clear n0_ n1_ n2_ n3_ n4_; clear hb ho42; have hcz43_0 : w41.cell? ⟨gb481, 0, none⟩ = some (u482000) := (blk_cell BK481.out 0).trans rfl; have hfz43_0 := blk_frozen BK481.out 0; obtain ⟨Ao45, co45, eo45⟩ := Kd.R_slice HO_482000.out; subst eo45) | ((with_reducible refine gate_builtin (b := .append) (xs := #[.tmp 74, .tmp 76]) rfl ?_); (try (refine gate_guard (by rfl) ?_; dsimp only)); at_builtin; refine Kd.R_append_rows (Kd.int .u64) (w0 := w) w.heap.size rfl (.tmp 74) (.tmp 76) 22 30 (.int .u64 0) 8 rfl Tryd.underlying22 info30 rfl (by decide) (by omega) v491 y490 x482000_1 _ _ _ (fun k_ => some k_ ≠ (.slice Ao45 x482000_1.length co45 : Value).ownBlock) (fun _ => False) rfl rfl ?aO ?aR (fun _ _ h => h) (fun _ h => h.elim) ?aF ?aB ?aS ?aL ?_; (case aR => repeat (first | exact (Kd.R_reads' HO_482000.out).2.2 | (with_reducible refine Kd.C_alloc ?_ _) | (with_reducible refine Kd.C_drewN ?_ _) | (with_reducible refine Kd.C_drew ?_))); (case aB => exact (by repeat (first | (with_reducible first | exact HB.out | apply below_alloc | apply pw_below_drewN | apply below_drew1 | refine below_set ?_ GE481.out) | exact HB.out))); (case aF => exact (fun k_ hk => Kd.fresh' (Kd.R_lt (by (with_reducible repeat (first | apply Kd.R_alloc | apply Kd.R_drewN | apply Kd.R_drew)); exact HO_482000.out)) k_ hk)); (case aO => exact (by (with_reducible repeat (first | apply Kd.R_alloc | apply Kd.R_drewN | apply Kd.R_drew)); exact Kd.R_mono HO492.out (fun _ hk => hk.2))); (case aS => exact (below_size (by repeat (first | (with_reducible first | exact HB.out | apply below_alloc | apply pw_below_drewN | apply below_drew1 | refine below_set ?_ GE481.out) | exact HB.out)))); (case aL => have := LMc36.out; omega); intro v494 w44 ho hb hg hat; rw [← Ny493.out] at ho; have n0_ := Aside0.mk (Kd.S_over' (by (with_reducible repeat (first | apply Kd.S_alloc | apply Kd.S_drewN | apply Kd.S_drew)); exact HO_10.out) (Kd.R_typed (by (with_reducible repeat (first | apply Kd.R_alloc | apply Kd.R_drewN | apply Kd.R_drew)); exact HO492.out)) (by decide) hg); have n1_ := Aside0.mk (Kd.R_after (ok := (fun _ => True)) (by (with_reducible repeat (first | apply Kd.R_alloc | apply Kd.R_drewN | apply Kd.R_drew)); exact HO_482000.out) hg hat); have n2_ := Aside0.mk (blk_grown (g := gb481) (o := .cells #[.slice Ao45 x482000_1.length co45] 25 (0, 0)) (by (with_reducible repeat (first | refine blk_drewN ?_ _ | refine blk_drew ?_ | refine blk_alloc ?_ _)); exact BK481.out) hg (Kd.R_ne HO492.out BK481.out (by decide))); have n3_ := Aside0.mk (hb); have n4_ := Aside0.mk (ho); clear HO_10; clear HO_482000; clear BK481; clear HB; clear HO492; have HO_10 := n0_; have HO_482000 := n1_; have BK481 := n2_; have HB := n3_; have HO495 := n4_; clear n0_ n1_ n2_ n3_ n4_; clear ho hb hg hat; have hcz46_0 : w44.cell? ⟨gb481, 0, none⟩ = some (.slice Ao45 x482000_1.length co45) := (blk_cell BK481.out 0).trans rfl; have hfz46_0 := blk_frozen BK481.out 0) | (go_at_call 17; (with_reducible refine (graph_Join.calls _ _ x482000_1 (Int.tmod (Go.bits .and .i64 a2 65535) (t478.length : Int)) (Int.tmod (Go.bits .and .i64 a3 65535) (t478.length : Int)) t496 _ ?side1 ?side2 A37.out).mono ?_); (case side1 => repeat (first | exact (Kd.R_reads' HO_482000.out).2.2 | (with_reducible refine Kd.C_alloc ?_ _) | (with_reducible refine Kd.C_drewN ?_ _) | (with_reducible refine Kd.C_drew ?_))); (case side2 => exact (Kd.R_reads' HO_482000.out).2.1); rintro e w47 ⟨v497, rfl, ho0, hb⟩; have n0_ := Aside0.mk (Kd.S_below (by (with_reducible repeat (first | apply Kd.S_alloc | apply Kd.S_drewN | apply Kd.S_drew)); exact HO_10.out) hb); have n1_ := Aside0.mk (Kd.R_elder' (by (with_reducible repeat (first | apply Kd.R_alloc | apply Kd.R_drewN | apply Kd.R_drew)); exact HO_482000.out) (Kd.R_base ho0) hb); have n2_ := Aside0.mk (Kd.R_elder' (by (with_reducible repeat (first | apply Kd.R_alloc | apply Kd.R_drewN | apply Kd.R_drew)); exact HO495.out) (Kd.R_base ho0) hb); have n3_ := Aside0.mk (Kd.R_lower (Kd.R_new' (Kd.R_new' ho0 (Kd.R_lt (by (with_reducible repeat (first | apply Kd.R_alloc | apply Kd.R_drewN | apply Kd.R_drew)); exact HO_482000.out))) (Kd.R_lt (by (with_reducible repeat (first | apply Kd.R_alloc | apply Kd.R_drewN | apply Kd.R_drew)); exact HO495.out))) (below_size (by repeat (first | (with_reducible first | exact HB.out | apply below_alloc | apply pw_below_drewN | apply below_drew1 | refine below_set ?_ GE481.out) | exact HB.out)))); have n4_ := Aside0.mk (blk_below (g := gb481) (o := .cells #[.slice Ao45 x482000_1.length co45] 25 (0, 0)) (by (with_reducible repeat (first | refine blk_drewN ?_ _ | refine blk_drew ?_ | refine blk_alloc ?_ _)); exact BK481.out) hb); have n5_ := Aside0.mk (below_step (by repeat (first | (with_reducible first | exact HB.out | apply below_alloc | apply pw_below_drewN | apply below_drew1 | refine below_set ?_ GE481.out) | exact HB.out)) hb); clear HO_10; clear HO_482000; clear HO495; clear BK481; clear HB; have HO_10 := n0_; have HO_482000 := n1_; have HO495 := n2_; have HO498 := n3_; have BK481 := n4_; have HB := n5_; clear n0_ n1_ n2_ n3_ n4_ n5_; (try clear hb); (try clear hb2); (try clear hk); (try clear hi); (try clear ho0)) | ((with_reducible refine gate_dst (N := 16) rfl ?_); (try (refine gate_guard (by rfl) ?_; dsimp only)); refine box_event ?hg (N := 16) ?hd (cs := #[.slice none 0 0]) (t := 25) ?hr ?_; (case hd => rfl); (case hg => rfl); (case hr => first | (go_simp; done) | (go_simp; rfl)); intro gb499 hg w48 hbox hb; have n0_ := Aside0.mk (Kd.S_below (by (with_reducible repeat (first | apply Kd.S_alloc | apply Kd.S_drewN | apply Kd.S_drew)); exact HO_10.out) hb); have n1_ := Aside0.mk (Kd.R_below (by (with_reducible repeat (first | apply Kd.R_alloc | apply Kd.R_drewN | apply Kd.R_drew)); exact HO_482000.out) hb); have n2_ := Aside0.mk (Kd.R_below (by (with_reducible repeat (first | apply Kd.R_alloc | apply Kd.R_drewN | apply Kd.R_drew)); exact HO495.out) hb); have n3_ := Aside0.mk (Kd.R_below (by (with_reducible repeat (first | apply Kd.R_alloc | apply Kd.R_drewN | apply Kd.R_drew)); exact HO498.out) hb); have n4_ := Aside0.mk (blk_below (g := gb481) (o := .cells #[.slice Ao45 x482000_1.length co45] 25 (0, 0)) (by (with_reducible repeat (first | refine blk_drewN ?_ _ | refine blk_drew ?_ | refine blk_alloc ?_ _)); exact BK481.out) hb); have n5_ := Aside0.mk (below_step (by repeat (first | (with_reducible first | exact HB.out | apply below_alloc | apply pw_below_drewN | apply below_drew1 | refine below_set ?_ GE481.out) | exact HB.out)) hb); have n6_ := Aside0.mk (hbox); have n7_ := Aside0.mk ((by rw [hg]; exact (below_size (by repeat (first | (with_reducible first | exact HB.out | apply below_alloc | apply pw_below_drewN | apply below_drew1 | refine below_set ?_ GE481.out) | exact HB.out))) : w.heap.size ≤ gb499)); have n8_ := Aside0.mk ((by rw [hg]; exact (below_size (by repeat (first | (with_reducible first | exact HB.out | apply below_alloc | apply pw_below_drewN | apply below_drew1 | refine below_set ?_ GE481.out) | exact HB.out))) : w.heap.size ≤ gb499)); have n9_ := Aside0.mk ((by rw [hg]; exact Nat.ne_of_lt (blk_lt (g := gb481) (o := .cells #[.slice Ao45 x482000_1.length co45] 25 (0, 0)) (by (with_reducible repeat (first | refine blk_drewN ?_ _ | refine blk_drew ?_ | refine blk_alloc ?_ _)); exact BK481.out)) : gb481 ≠ gb499)); have n10_ := Aside0.mk ((by rw [hg]; exact Nat.ne_of_gt (blk_lt (g := gb481) (o := .cells #[.slice Ao45 x482000_1.length co45] 25 (0, 0)) (by (with_reducible repeat (first | refine blk_drewN ?_ _ | refine blk_drew ?_ | refine blk_alloc ?_ _)); exact BK481.out)) : gb499 ≠ gb481)); clear HO_10; clear HO_482000; clear HO495; clear HO498; clear BK481; clear HB; have HO_10 := n0_; have HO_482000 := n1_; have HO495 := n2_; have HO498 := n3_; have BK481 := n4_; have HB := n5_; have BK499 := n6_; have GW499 := n7_; have GE499 := n8_; have NB481_499 := n9_; have NB499_481 := n10_; clear n0_ n1_ n2_ n3_ n4_ n5_ n6_ n7_ n8_ n9_ n10_; clear hb hbox hg; obtain ⟨Ao49, co49, eo49⟩ := Kd.R_slice HO498.out; subst eo49; have hnb50 := NB499_481.out; have hnc50 := NB481_499.out; have hcz51_0 : w48.cell? ⟨gb499, 0, none⟩ = some (.slice none 0 0) := (blk_cell BK499.out 0).trans rfl; have hfz51_0 := blk_frozen BK499.out 0) | (go_at_call 17; (with_reducible refine (graph_Join.calls _ _ t496 (Int.tmod (Go.bits .and .i64 a3 65535) (t478.length : Int)) (Int.tmod (Go.bits .and .i64 a2 65535) (t478.length : Int)) t500 _ ?side1 ?side2 A38.out).mono ?_); (case side1 => refine (Kd.R_reads' (e := 30) (base := w.heap.size) (ok := fun k_ => ((True ∧ some k_ ≠ (.slice Ao45 x482000_1.length co45 : Value).ownBlock) ∧ some k_ ≠ (v494 : Value).ownBlock)) (n := t496.length) (c := co49) ?_).2.2; exact (by (with_reducible repeat (first | apply Kd.R_alloc | apply Kd.R_drewN | apply Kd.R_drew)); exact (Kd.R_mono (Kd.R_far (p := ⟨gb499, 0, none⟩) (Kd.R_types HO498.out BK499.out (by decide)) (fun _ hk => hk.2) (.slice Ao49 t496.length co49)) (fun _ h_ => h_.1)))); (case side2 => exact (Kd.R_reads' HO498.out).2.1); rintro e w52 ⟨v501, rfl, ho0, hb⟩; have n0_ := Aside0.mk (Kd.S_below (by (with_reducible repeat (first | apply Kd.S_alloc | apply Kd.S_drewN | apply Kd.S_drew)); exact (Kd.S_mono (Kd.S_far (p := ⟨gb499, 0, none⟩) (Kd.S_types HO_10.out BK499.out (by decide)) (fun _ hk => hk.2) (.slice Ao49 t496.length co49)) (fun _ h_ => h_.1))) hb); have n1_ := Aside0.mk (Kd.R_elder' (by (with_reducible repeat (first | apply Kd.R_alloc | apply Kd.R_drewN | apply Kd.R_drew)); exact (Kd.R_mono (Kd.R_far (p := ⟨gb499, 0, none⟩) (Kd.R_types HO_482000.out BK499.out (by decide)) (fun _ hk => hk.2) (.slice Ao49 t496.length co49)) (fun _ h_ => h_.1))) (Kd.R_base ho0) hb); have n2_ := Aside0.mk (Kd.R_elder' (by (with_reducible repeat (first | apply Kd.R_alloc | apply Kd.R_drewN | apply Kd.R_drew)); exact (Kd.R_mono (Kd.R_far (p := ⟨gb499, 0, none⟩) (Kd.R_types HO495.out BK499.out (by decide)) (fun _ hk => hk.2) (.slice Ao49 t496.length co49)) (fun _ h_ => h_.1))) (Kd.R_base ho0) hb); have n3_ := Aside0.mk (Kd.R_elder' (by (with_reducible repeat (first | apply Kd.R_alloc | apply Kd.R_drewN | apply Kd.R_drew)); exact (Kd.R_mono (Kd.R_far (p := ⟨gb499, 0, none⟩) (Kd.R_types HO498.out BK499.out (by decide)) (fun _ hk => hk.2) (.slice Ao49 t496.length co49)) (fun _ h_ => h_.1))) (Kd.R_base ho0) hb); have n4_ := Aside0.mk (Kd.R_lower (Kd.R_new' (Kd.R_new' (Kd.R_new' ho0 (Kd.R_lt (by (with_reducible repeat (first | apply Kd.R_alloc | apply Kd.R_drewN | apply Kd.R_drew)); exact (Kd.R_mono (Kd.R_far (p := ⟨gb499, 0, none⟩) (Kd.R_types HO_482000.out BK499.out (by decide)) (fun _ hk => hk.2) (.slice Ao49 t496.length co49)) (fun _ h_ => h_.1))))) (Kd.R_lt (by (with_reducible repeat (first | apply Kd.R_alloc | apply Kd.R_drewN | apply Kd.R_drew)); exact (Kd.R_mono (Kd.R_far (p := ⟨gb499, 0, none⟩) (Kd.R_types HO495.out BK499.out (by decide)) (fun _ hk => hk.2) (.slice Ao49 t496.length co49)) (fun _ h_ => h_.1))))) (Kd.R_lt (by (with_reducible repeat (first | apply Kd.R_alloc | apply Kd.R_drewN | apply Kd.R_drew)); exact (Kd.R_mono (Kd.R_far (p := ⟨gb499, 0, none⟩) (Kd.R_types HO498.out BK499.out (by decide)) (fun _ hk => hk.2) (.slice Ao49 t496.length co49)) (fun _ h_ => h_.1))))) (below_size (by repeat (first | (with_reducible first | exact HB.out | apply below_alloc | apply pw_below_drewN | apply below_drew1 | refine below_set ?_ GE481.out | refine below_set ?_ GE499.out) | exact HB.out)))); have n5_ := Aside0.mk (blk_below (g := gb481) (o := .cells #[.slice Ao45 x482000_1.length co45] 25 (0, 0)) (by (with_reducible repeat (first | refine blk_drewN ?_ _ | refine blk_drew ?_ | refine blk_alloc ?_ _)); refine blk_far ?_ NB481_499.out _; (with_reducible repeat (first | refine blk_drewN ?_ _ | refine blk_drew ?_ | refine blk_alloc ?_ _)); exact BK481.out) hb); have n6_ := Aside0.mk (blk_below (g := gb499) (o := .cells #[.slice Ao49 t496.length co49] 25 (0, 0)) (by (with_reducible repeat (first | refine blk_drewN ?_ _ | refine blk_drew ?_ | refine blk_alloc ?_ _)); refine blk_put (cs := #[.slice none 0 0]) ?_ 0 _ rfl; (with_reducible repeat (first | refine blk_drewN ?_ _ | refine blk_drew ?_ | refine blk_alloc ?_ _)); exact BK499.out) hb); have n7_ := Aside0.mk (below_step (by repeat (first | (with_reducible first | exact HB.out | apply below_alloc | apply pw_below_drewN | apply below_drew1 | refine below_set ?_ GE481.out | refine below_set ?_ GE499.out) | exact HB.out)) hb); clear HO_10; clear HO_482000; clear HO495; clear HO498; clear BK481; clear BK499; clear HB; have HO_10 := n0_; have HO_482000 := n1_; have HO495 := n2_; have HO498 := n3_; have HO502 := n4_; have BK481 := n5_; have BK499 := n6_; have HB := n7_; clear n0_ n1_ n2_ n3_ n4_ n5_ n6_ n7_; (try clear hb); (try clear hb2); (try clear hk); (try clear hi); (try clear ho0)) | ((with_reducible refine gate_dst (N := 17) rfl ?_); (try (refine gate_guard (by rfl) ?_; dsimp only)); refine box_event ?hg (N := 17) ?hd (cs := #[.slice none 0 0]) (t := 25) ?hr ?_; (case hd => rfl); (case hg => rfl); (case hr => first | (go_simp; done) | (go_simp; rfl)); intro gb503 hg w53 hbox hb; have n0_ := Aside0.mk (Kd.S_below (by (with_reducible repeat (first | apply Kd.S_alloc | apply Kd.S_drewN | apply Kd.S_drew)); exact HO_10.out) hb); have n1_ := Aside0.mk (Kd.R_below (by (with_reducible repeat (first | apply Kd.R_alloc | apply Kd.R_drewN | apply Kd.R_drew)); exact HO_482000.out) hb); have n2_ := Aside0.mk (Kd.R_below (by (with_reducible repeat (first | apply Kd.R_alloc | apply Kd.R_drewN | apply Kd.R_drew)); exact HO495.out) hb); have n3_ := Aside0.mk (Kd.R_below (by (with_reducible repeat (first | apply Kd.R_alloc | apply Kd.R_drewN | apply Kd.R_drew)); exact HO498.out) hb); have n4_ := Aside0.mk (Kd.R_below (by (with_reducible repeat (first | apply Kd.R_alloc | apply Kd.R_drewN | apply Kd.R_drew)); exact HO502.out) hb); have n5_ := Aside0.mk (blk_below (g := gb481) (o := .cells #[.slice Ao45 x482000_1.length co45] 25 (0, 0)) (by (with_reducible repeat (first | refine blk_drewN ?_ _ | refine blk_drew ?_ | refine blk_alloc ?_ _)); exact BK481.out) hb); have n6_ := Aside0.mk (blk_below (g := gb499) (o := .cells #[.slice Ao49 t496.length co49] 25 (0, 0)) (by (with_reducible repeat (first | refine blk_drewN ?_ _ | refine blk_drew ?_ | refine blk_alloc ?_ _)); exact BK499.out) hb); have n7_ := Aside0.mk (below_step (by repeat (first | (with_reducible first | exact HB.out | apply below_alloc | apply pw_below_drewN | apply below_drew1 | refine below_set ?_ GE481.out | refine below_set ?_ GE499.out) | exact HB.out)) hb); have n8_ := Aside0.mk (hbox); have n9_ := Aside0.mk ((by rw [hg]; exact (below_size (by repeat (first | (with_reducible first | exact HB.out | apply below_alloc | apply pw_below_drewN | apply below_drew1 | refine below_set ?_ GE481.out | refine below_set ?_ GE499.out) | exact HB.out))) : w.heap.size ≤ gb503)); have n10_ := Aside0.mk ((by rw [hg]; exact (below_size (by repeat (first | (with_reducible first | exact HB.out | apply below_alloc | apply pw_below_drewN | apply below_drew1 | refine below_set ?_ GE481.out | refine below_set ?_ GE499.out) | exact HB.out))) : w.heap.size ≤ gb503)); have n11_ := Aside0.mk ((by rw [hg]; exact Nat.ne_of_lt (blk_lt (g := gb481) (o := .cells #[.slice Ao45 x482000_1.length co45] 25 (0, 0)) (by (with_reducible repeat (first | refine blk_drewN ?_ _ | refine blk_drew ?_ | refine blk_alloc ?_ _)); exact BK481.out)) : gb481 ≠ gb503)); have n12_ := Aside0.mk ((by rw [hg]; exact Nat.ne_of_gt (blk_lt (g := gb481) (o := .cells #[.slice Ao45 x482000_1.length co45] 25 (0, 0)) (by (with_reducible repeat (first | refine blk_drewN ?_ _ | refine blk_drew ?_ | refine blk_alloc ?_ _)); exact BK481.out)) : gb503 ≠ gb481)); have n13_ := Aside0.mk ((by rw [hg]; exact Nat.ne_of_lt (blk_lt (g := gb499) (o := .cells #[.slice Ao49 t496.length co49] 25 (0, 0)) (by (with_reducible repeat (first | refine blk_drewN ?_ _ | refine blk_drew ?_ | refine blk_alloc ?_ _)); exact BK499.out)) : gb499 ≠ gb503)); have n14_ := Aside0.mk ((by rw [hg]; exact Nat.ne_of_gt (blk_lt (g := gb499) (o := .cells #[.slice Ao49 t496.length co49] 25 (0, 0)) (by (with_reducible repeat (first | refine blk_drewN ?_ _ | refine blk_drew ?_ | refine blk_alloc ?_ _)); exact BK499.out)) : gb503 ≠ gb499)); clear HO_10; clear HO_482000; clear HO495; clear HO498; clear HO502; clear BK481; clear BK499; clear HB; have HO_10 := n0_; have HO_482000 := n1_; have HO495 := n2_; have HO498 := n3_; have HO502 := n4_; have BK481 := n5_; have BK499 := n6_; have HB := n7_; have BK503 := n8_; have GW503 := n9_; have GE503 := n10_; have NB481_503 := n11_; have NB503_481 := n12_; have NB499_503 := n13_; have NB503_499 := n14_; clear n0_ n1_ n2_ n3_ n4_ n5_ n6_ n7_ n8_ n9_ n10_ n11_ n12_ n13_ n14_; clear hb hbox hg; obtain ⟨Ao54, co54, eo54⟩ := Kd.R_slice HO502.out; subst eo54; have hnb55 := NB503_481.out; have hnc55 := NB481_503.out; have hnb56 := NB503_499.out; have hnc56 := NB499_503.out; have hcz57_0 : w53.cell? ⟨gb503, 0, none⟩ = some (.slice none 0 0) := (blk_cell BK503.out 0).trans rfl; have hfz57_0 := blk_frozen BK503.out 0)); go_upto_region 21 with (first | ((with_reducible refine gate_dst (N := 74) rfl ?_); (try (refine gate_guard (by rfl) ?_; dsimp only)); refine Kd.R_lit (Kd.int .u64) _ 30 ?hg (N := 74) ?hd (xs := ([] : List Int)) (inner := []) (ok := fun _ => True) (okp := fun _ => True) ?hr ?hp (fun _ hk => hk) trivial (Below.refl _ _) (Nat.le_refl _) (by simp) ?_; (case hd => rfl); (case hg => rfl); (case hr => first | (go_simp; done) | (go_simp; rfl)); (case hp => exact (Reps.none _ _)); intro v491 w41 ho42 hb hg_ hnew_; clear hg_ hnew_; (first | rw [← Ny490.out] at ho42 | (simp only [Int.reduceToNat] at ho42; rw [← Ny490.out] at ho42)); have n0_ := Aside0.mk (Kd.S_below (by (with_reducible repeat (first | apply Kd.S_alloc | apply Kd.S_drewN | apply Kd.S_drew)); exact HO_10.out) hb); have n1_ := Aside0.mk (Kd.R_elder' (by (with_reducible repeat (first | apply Kd.R_alloc | apply Kd.R_drewN | apply Kd.R_drew)); exact HO_482000.out) (Kd.R_base ho42) hb); have n2_ := Aside0.mk (Kd.R_lower (Kd.R_new' ho42 (Kd.R_lt (by (with_reducible repeat (first | apply Kd.R_alloc | apply Kd.R_drewN | apply Kd.R_drew)); exact HO_482000.out))) (below_size (by repeat (first | (with_reducible first | exact HB.out | apply below_alloc | apply pw_below_drewN | apply below_drew1 | refine below_set ?_ GE481.out) | exact HB.out)))); have n3_ := Aside0.mk (blk_below (g := gb481) (o := .cells #[u482000] 25 (0, 0)) (by (with_reducible repeat (first | refine blk_drewN ?_ _ | refine blk_drew ?_ | refine blk_alloc ?_ _)); exact BK481.out) hb); have n4_ := Aside0.mk (below_step (by repeat (first | (with_reducible first | exact HB.out | apply below_alloc | apply pw_below_drewN | apply below_drew1 | refine below_set ?_ GE481.out) | exact HB.out)) hb); clear HO_10; clear HO_482000; clear BK481; clear HB; have HO_10 := n0_; have HO_482000 := n1_; have HO492 := n2_; have BK481 := n3_; have HB := n4_; clear n0_ n1_ n2_ n3_ n4_; clear hb ho42; have hcz43_0 : w41.cell? ⟨gb481, 0, none⟩ = some (u482000) := (blk_cell BK481.out 0).trans rfl; have hfz43_0 := blk_frozen BK481.out 0; obtain ⟨Ao45, co45, eo45⟩ := Kd.R_slice HO_482000.out; subst eo45) | ((with_reducible refine gate_builtin (b := .append) (xs := #[.tmp 74, .tmp 76]) rfl ?_); (try (refine gate_guard (by rfl) ?_; dsimp only)); at_builtin; refine Kd.R_append_rows (Kd.int .u64) (w0 := w) w.heap.size rfl (.tmp 74) (.tmp 76) 22 30 (.int .u64 0) 8 rfl Tryd.underlying22 info30 rfl (by decide) (by omega) v491 y490 x482000_1 _ _ _ (fun k_ => some k_ ≠ (.slice Ao45 x482000_1.length co45 : Value).ownBlock) (fun _ => False) rfl rfl ?aO ?aR (fun _ _ h => h) (fun _ h => h.elim) ?aF ?aB ?aS ?aL ?_; (case aR => repeat (first | exact (Kd.R_reads' HO_482000.out).2.2 | (with_reducible refine Kd.C_alloc ?_ _) | (with_reducible refine Kd.C_drewN ?_ _) | (with_reducible refine Kd.C_drew ?_))); (case aB => exact (by repeat (first | (with_reducible first | exact HB.out | apply below_alloc | apply pw_below_drewN | apply below_drew1 | refine below_set ?_ GE481.out) | exact HB.out))); (case aF => exact (fun k_ hk => Kd.fresh' (Kd.R_lt (by (with_reducible repeat (first | apply Kd.R_alloc | apply Kd.R_drewN | apply Kd.R_drew)); exact HO_482000.out)) k_ hk)); (case aO => exact (by (with_reducible repeat (first | apply Kd.R_alloc | apply Kd.R_drewN | apply Kd.R_drew)); exact Kd.R_mono HO492.out (fun _ hk => hk.2))); (case aS => exact (below_size (by repeat (first | (with_reducible first | exact HB.out | apply below_alloc | apply pw_below_drewN | apply below_drew1 | refine below_set ?_ GE481.out) | exact HB.out)))); (case aL => have := LMc36.out; omega); intro v494 w44 ho hb hg hat; rw [← Ny493.out] at ho; have n0_ := Aside0.mk (Kd.S_over' (by (with_reducible repeat (first | apply Kd.S_alloc | apply Kd.S_drewN | apply Kd.S_drew)); exact HO_10.out) (Kd.R_typed (by (with_reducible repeat (first | apply Kd.R_alloc | apply Kd.R_drewN | apply Kd.R_drew)); exact HO492.out)) (by decide) hg); have n1_ := Aside0.mk (Kd.R_after (ok := (fun _ => True)) (by (with_reducible repeat (first | apply Kd.R_alloc | apply Kd.R_drewN | apply Kd.R_drew)); exact HO_482000.out) hg hat); have n2_ := Aside0.mk (blk_grown (g := gb481) (o := .cells #[.slice Ao45 x482000_1.length co45] 25 (0, 0)) (by (with_reducible repeat (first | refine blk_drewN ?_ _ | refine blk_drew ?_ | refine blk_alloc ?_ _)); exact BK481.out) hg (Kd.R_ne HO492.out BK481.out (by decide))); have n3_ := Aside0.mk (hb); have n4_ := Aside0.mk (ho); clear HO_10; clear HO_482000; clear BK481; clear HB; clear HO492; have HO_10 := n0_; have HO_482000 := n1_; have BK481 := n2_; have HB := n3_; have HO495 := n4_; clear n0_ n1_ n2_ n3_ n4_; clear ho hb hg hat; have hcz46_0 : w44.cell? ⟨gb481, 0, none⟩ = some (.slice Ao45 x482000_1.length co45) := (blk_cell BK481.out 0).trans rfl; have hfz46_0 := blk_frozen BK481.out 0) | (go_at_call 17; (with_reducible refine (graph_Join.calls _ _ x482000_1 (Int.tmod (Go.bits .and .i64 a2 65535) (t478.length : Int)) (Int.tmod (Go.bits .and .i64 a3 65535) (t478.length : Int)) t496 _ ?side1 ?side2 A37.out).mono ?_); (case side1 => repeat (first | exact (Kd.R_reads' HO_482000.out).2.2 | (with_reducible refine Kd.C_alloc ?_ _) | (with_reducible refine Kd.C_drewN ?_ _) | (with_reducible refine Kd.C_drew ?_))); (case side2 => exact (Kd.R_reads' HO_482000.out).2.1); rintro e w47 ⟨v497, rfl, ho0, hb⟩; have n0_ := Aside0.mk (Kd.S_below (by (with_reducible repeat (first | apply Kd.S_alloc | apply Kd.S_drewN | apply Kd.S_drew)); exact HO_10.out) hb); have n1_ := Aside0.mk (Kd.R_elder' (by (with_reducible repeat (first | apply Kd.R_alloc | apply Kd.R_drewN | apply Kd.R_drew)); exact HO_482000.out) (Kd.R_base ho0) hb); have n2_ := Aside0.mk (Kd.R_elder' (by (with_reducible repeat (first | apply Kd.R_alloc | apply Kd.R_drewN | apply Kd.R_drew)); exact HO495.out) (Kd.R_base ho0) hb); have n3_ := Aside0.mk (Kd.R_lower (Kd.R_new' (Kd.R_new' ho0 (Kd.R_lt (by (with_reducible repeat (first | apply Kd.R_alloc | apply Kd.R_drewN | apply Kd.R_drew)); exact HO_482000.out))) (Kd.R_lt (by (with_reducible repeat (first | apply Kd.R_alloc | apply Kd.R_drewN | apply Kd.R_drew)); exact HO495.out))) (below_size (by repeat (first | (with_reducible first | exact HB.out | apply below_alloc | apply pw_below_drewN | apply below_drew1 | refine below_set ?_ GE481.out) | exact HB.out)))); have n4_ := Aside0.mk (blk_below (g := gb481) (o := .cells #[.slice Ao45 x482000_1.length co45] 25 (0, 0)) (by (with_reducible repeat (first | refine blk_drewN ?_ _ | refine blk_drew ?_ | refine blk_alloc ?_ _)); exact BK481.out) hb); have n5_ := Aside0.mk (below_step (by repeat (first | (with_reducible first | exact HB.out | apply below_alloc | apply pw_below_drewN | apply below_drew1 | refine below_set ?_ GE481.out) | exact HB.out)) hb); clear HO_10; clear HO_482000; clear HO495; clear BK481; clear HB; have HO_10 := n0_; have HO_482000 := n1_; have HO495 := n2_; have HO498 := n3_; have BK481 := n4_; have HB := n5_; clear n0_ n1_ n2_ n3_ n4_ n5_; (try clear hb); (try clear hb2); (try clear hk); (try clear hi); (try clear ho0)) | ((with_reducible refine gate_dst (N := 16) rfl ?_); (try (refine gate_guard (by rfl) ?_; dsimp only)); refine box_event ?hg (N := 16) ?hd (cs := #[.slice none 0 0]) (t := 25) ?hr ?_; (case hd => rfl); (case hg => rfl); (case hr => first | (go_simp; done) | (go_simp; rfl)); intro gb499 hg w48 hbox hb; have n0_ := Aside0.mk (Kd.S_below (by (with_reducible repeat (first | apply Kd.S_alloc | apply Kd.S_drewN | apply Kd.S_drew)); exact HO_10.out) hb); have n1_ := Aside0.mk (Kd.R_below (by (with_reducible repeat (first | apply Kd.R_alloc | apply Kd.R_drewN | apply Kd.R_drew)); exact HO_482000.out) hb); have n2_ := Aside0.mk (Kd.R_below (by (with_reducible repeat (first | apply Kd.R_alloc | apply Kd.R_drewN | apply Kd.R_drew)); exact HO495.out) hb); have n3_ := Aside0.mk (Kd.R_below (by (with_reducible repeat (first | apply Kd.R_alloc | apply Kd.R_drewN | apply Kd.R_drew)); exact HO498.out) hb); have n4_ := Aside0.mk (blk_below (g := gb481) (o := .cells #[.slice Ao45 x482000_1.length co45] 25 (0, 0)) (by (with_reducible repeat (first | refine blk_drewN ?_ _ | refine blk_drew ?_ | refine blk_alloc ?_ _)); exact BK481.out) hb); have n5_ := Aside0.mk (below_step (by repeat (first | (with_reducible first | exact HB.out | apply below_alloc | apply pw_below_drewN | apply below_drew1 | refine below_set ?_ GE481.out) | exact HB.out)) hb); have n6_ := Aside0.mk (hbox); have n7_ := Aside0.mk ((by rw [hg]; exact (below_size (by repeat (first | (with_reducible first | exact HB.out | apply below_alloc | apply pw_below_drewN | apply below_drew1 | refine below_set ?_ GE481.out) | exact HB.out))) : w.heap.size ≤ gb499)); have n8_ := Aside0.mk ((by rw [hg]; exact (below_size (by repeat (first | (with_reducible first | exact HB.out | apply below_alloc | apply pw_below_drewN | apply below_drew1 | refine below_set ?_ GE481.out) | exact HB.out))) : w.heap.size ≤ gb499)); have n9_ := Aside0.mk ((by rw [hg]; exact Nat.ne_of_lt (blk_lt (g := gb481) (o := .cells #[.slice Ao45 x482000_1.length co45] 25 (0, 0)) (by (with_reducible repeat (first | refine blk_drewN ?_ _ | refine blk_drew ?_ | refine blk_alloc ?_ _)); exact BK481.out)) : gb481 ≠ gb499)); have n10_ := Aside0.mk ((by rw [hg]; exact Nat.ne_of_gt (blk_lt (g := gb481) (o := .cells #[.slice Ao45 x482000_1.length co45] 25 (0, 0)) (by (with_reducible repeat (first | refine blk_drewN ?_ _ | refine blk_drew ?_ | refine blk_alloc ?_ _)); exact BK481.out)) : gb499 ≠ gb481)); clear HO_10; clear HO_482000; clear HO495; clear HO498; clear BK481; clear HB; have HO_10 := n0_; have HO_482000 := n1_; have HO495 := n2_; have HO498 := n3_; have BK481 := n4_; have HB := n5_; have BK499 := n6_; have GW499 := n7_; have GE499 := n8_; have NB481_499 := n9_; have NB499_481 := n10_; clear n0_ n1_ n2_ n3_ n4_ n5_ n6_ n7_ n8_ n9_ n10_; clear hb hbox hg; obtain ⟨Ao49, co49, eo49⟩ := Kd.R_slice HO498.out; subst eo49; have hnb50 := NB499_481.out; have hnc50 := NB481_499.out; have hcz51_0 : w48.cell? ⟨gb499, 0, none⟩ = some (.slice none 0 0) := (blk_cell BK499.out 0).trans rfl; have hfz51_0 := blk_frozen BK499.out 0) | (go_at_call 17; (with_reducible refine (graph_Join.calls _ _ t496 (Int.tmod (Go.bits .and .i64 a3 65535) (t478.length : Int)) (Int.tmod (Go.bits .and .i64 a2 65535) (t478.length : Int)) t500 _ ?side1 ?side2 A38.out).mono ?_); (case side1 => refine (Kd.R_reads' (e := 30) (base := w.heap.size) (ok := fun k_ => ((True ∧ some k_ ≠ (.slice Ao45 x482000_1.length co45 : Value).ownBlock) ∧ some k_ ≠ (v494 : Value).ownBlock)) (n := t496.length) (c := co49) ?_).2.2; exact (by (with_reducible repeat (first | apply Kd.R_alloc | apply Kd.R_drewN | apply Kd.R_drew)); exact (Kd.R_mono (Kd.R_far (p := ⟨gb499, 0, none⟩) (Kd.R_types HO498.out BK499.out (by decide)) (fun _ hk => hk.2) (.slice Ao49 t496.length co49)) (fun _ h_ => h_.1)))); (case side2 => exact (Kd.R_reads' HO498.out).2.1); rintro e w52 ⟨v501, rfl, ho0, hb⟩; have n0_ := Aside0.mk (Kd.S_below (by (with_reducible repeat (first | apply Kd.S_alloc | apply Kd.S_drewN | apply Kd.S_drew)); exact (Kd.S_mono (Kd.S_far (p := ⟨gb499, 0, none⟩) (Kd.S_types HO_10.out BK499.out (by decide)) (fun _ hk => hk.2) (.slice Ao49 t496.length co49)) (fun _ h_ => h_.1))) hb); have n1_ := Aside0.mk (Kd.R_elder' (by (with_reducible repeat (first | apply Kd.R_alloc | apply Kd.R_drewN | apply Kd.R_drew)); exact (Kd.R_mono (Kd.R_far (p := ⟨gb499, 0, none⟩) (Kd.R_types HO_482000.out BK499.out (by decide)) (fun _ hk => hk.2) (.slice Ao49 t496.length co49)) (fun _ h_ => h_.1))) (Kd.R_base ho0) hb); have n2_ := Aside0.mk (Kd.R_elder' (by (with_reducible repeat (first | apply Kd.R_alloc | apply Kd.R_drewN | apply Kd.R_drew)); exact (Kd.R_mono (Kd.R_far (p := ⟨gb499, 0, none⟩) (Kd.R_types HO495.out BK499.out (by decide)) (fun _ hk => hk.2) (.slice Ao49 t496.length co49)) (fun _ h_ => h_.1))) (Kd.R_base ho0) hb); have n3_ := Aside0.mk (Kd.R_elder' (by (with_reducible repeat (first | apply Kd.R_alloc | apply Kd.R_drewN | apply Kd.R_drew)); exact (Kd.R_mono (Kd.R_far (p := ⟨gb499, 0, none⟩) (Kd.R_types HO498.out BK499.out (by decide)) (fun _ hk => hk.2) (.slice Ao49 t496.length co49)) (fun _ h_ => h_.1))) (Kd.R_base ho0) hb); have n4_ := Aside0.mk (Kd.R_lower (Kd.R_new' (Kd.R_new' (Kd.R_new' ho0 (Kd.R_lt (by (with_reducible repeat (first | apply Kd.R_alloc | apply Kd.R_drewN | apply Kd.R_drew)); exact (Kd.R_mono (Kd.R_far (p := ⟨gb499, 0, none⟩) (Kd.R_types HO_482000.out BK499.out (by decide)) (fun _ hk => hk.2) (.slice Ao49 t496.length co49)) (fun _ h_ => h_.1))))) (Kd.R_lt (by (with_reducible repeat (first | apply Kd.R_alloc | apply Kd.R_drewN | apply Kd.R_drew)); exact (Kd.R_mono (Kd.R_far (p := ⟨gb499, 0, none⟩) (Kd.R_types HO495.out BK499.out (by decide)) (fun _ hk => hk.2) (.slice Ao49 t496.length co49)) (fun _ h_ => h_.1))))) (Kd.R_lt (by (with_reducible repeat (first | apply Kd.R_alloc | apply Kd.R_drewN | apply Kd.R_drew)); exact (Kd.R_mono (Kd.R_far (p := ⟨gb499, 0, none⟩) (Kd.R_types HO498.out BK499.out (by decide)) (fun _ hk => hk.2) (.slice Ao49 t496.length co49)) (fun _ h_ => h_.1))))) (below_size (by repeat (first | (with_reducible first | exact HB.out | apply below_alloc | apply pw_below_drewN | apply below_drew1 | refine below_set ?_ GE481.out | refine below_set ?_ GE499.out) | exact HB.out)))); have n5_ := Aside0.mk (blk_below (g := gb481) (o := .cells #[.slice Ao45 x482000_1.length co45] 25 (0, 0)) (by (with_reducible repeat (first | refine blk_drewN ?_ _ | refine blk_drew ?_ | refine blk_alloc ?_ _)); refine blk_far ?_ NB481_499.out _; (with_reducible repeat (first | refine blk_drewN ?_ _ | refine blk_drew ?_ | refine blk_alloc ?_ _)); exact BK481.out) hb); have n6_ := Aside0.mk (blk_below (g := gb499) (o := .cells #[.slice Ao49 t496.length co49] 25 (0, 0)) (by (with_reducible repeat (first | refine blk_drewN ?_ _ | refine blk_drew ?_ | refine blk_alloc ?_ _)); refine blk_put (cs := #[.slice none 0 0]) ?_ 0 _ rfl; (with_reducible repeat (first | refine blk_drewN ?_ _ | refine blk_drew ?_ | refine blk_alloc ?_ _)); exact BK499.out) hb); have n7_ := Aside0.mk (below_step (by repeat (first | (with_reducible first | exact HB.out | apply below_alloc | apply pw_below_drewN | apply below_drew1 | refine below_set ?_ GE481.out | refine below_set ?_ GE499.out) | exact HB.out)) hb); clear HO_10; clear HO_482000; clear HO495; clear HO498; clear BK481; clear BK499; clear HB; have HO_10 := n0_; have HO_482000 := n1_; have HO495 := n2_; have HO498 := n3_; have HO502 := n4_; have BK481 := n5_; have BK499 := n6_; have HB := n7_; clear n0_ n1_ n2_ n3_ n4_ n5_ n6_ n7_; (try clear hb); (try clear hb2); (try clear hk); (try clear hi); (try clear ho0)) | ((with_reducible refine gate_dst (N := 17) rfl ?_); (try (refine gate_guard (by rfl) ?_; dsimp only)); refine box_event ?hg (N := 17) ?hd (cs := #[.slice none 0 0]) (t := 25) ?hr ?_; (case hd => rfl); (case hg => rfl); (case hr => first | (go_simp; done) | (go_simp; rfl)); intro gb503 hg w53 hbox hb; have n0_ := Aside0.mk (Kd.S_below (by (with_reducible repeat (first | apply Kd.S_alloc | apply Kd.S_drewN | apply Kd.S_drew)); exact HO_10.out) hb); have n1_ := Aside0.mk (Kd.R_below (by (with_reducible repeat (first | apply Kd.R_alloc | apply Kd.R_drewN | apply Kd.R_drew)); exact HO_482000.out) hb); have n2_ := Aside0.mk (Kd.R_below (by (with_reducible repeat (first | apply Kd.R_alloc | apply Kd.R_drewN | apply Kd.R_drew)); exact HO495.out) hb); have n3_ := Aside0.mk (Kd.R_below (by (with_reducible repeat (first | apply Kd.R_alloc | apply Kd.R_drewN | apply Kd.R_drew)); exact HO498.out) hb); have n4_ := Aside0.mk (Kd.R_below (by (with_reducible repeat (first | apply Kd.R_alloc | apply Kd.R_drewN | apply Kd.R_drew)); exact HO502.out) hb); have n5_ := Aside0.mk (blk_below (g := gb481) (o := .cells #[.slice Ao45 x482000_1.length co45] 25 (0, 0)) (by (with_reducible repeat (first | refine blk_drewN ?_ _ | refine blk_drew ?_ | refine blk_alloc ?_ _)); exact BK481.out) hb); have n6_ := Aside0.mk (blk_below (g := gb499) (o := .cells #[.slice Ao49 t496.length co49] 25 (0, 0)) (by (with_reducible repeat (first | refine blk_drewN ?_ _ | refine blk_drew ?_ | refine blk_alloc ?_ _)); exact BK499.out) hb); have n7_ := Aside0.mk (below_step (by repeat (first | (with_reducible first | exact HB.out | apply below_alloc | apply pw_below_drewN | apply below_drew1 | refine below_set ?_ GE481.out | refine below_set ?_ GE499.out) | exact HB.out)) hb); have n8_ := Aside0.mk (hbox); have n9_ := Aside0.mk ((by rw [hg]; exact (below_size (by repeat (first | (with_reducible first | exact HB.out | apply below_alloc | apply pw_below_drewN | apply below_drew1 | refine below_set ?_ GE481.out | refine below_set ?_ GE499.out) | exact HB.out))) : w.heap.size ≤ gb503)); have n10_ := Aside0.mk ((by rw [hg]; exact (below_size (by repeat (first | (with_reducible first | exact HB.out | apply below_alloc | apply pw_below_drewN | apply below_drew1 | refine below_set ?_ GE481.out | refine below_set ?_ GE499.out) | exact HB.out))) : w.heap.size ≤ gb503)); have n11_ := Aside0.mk ((by rw [hg]; exact Nat.ne_of_lt (blk_lt (g := gb481) (o := .cells #[.slice Ao45 x482000_1.length co45] 25 (0, 0)) (by (with_reducible repeat (first | refine blk_drewN ?_ _ | refine blk_drew ?_ | refine blk_alloc ?_ _)); exact BK481.out)) : gb481 ≠ gb503)); have n12_ := Aside0.mk ((by rw [hg]; exact Nat.ne_of_gt (blk_lt (g := gb481) (o := .cells #[.slice Ao45 x482000_1.length co45] 25 (0, 0)) (by (with_reducible repeat (first | refine blk_drewN ?_ _ | refine blk_drew ?_ | refine blk_alloc ?_ _)); exact BK481.out)) : gb503 ≠ gb481)); have n13_ := Aside0.mk ((by rw [hg]; exact Nat.ne_of_lt (blk_lt (g := gb499) (o := .cells #[.slice Ao49 t496.length co49] 25 (0, 0)) (by (with_reducible repeat (first | refine blk_drewN ?_ _ | refine blk_drew ?_ | refine blk_alloc ?_ _)); exact BK499.out)) : gb499 ≠ gb503)); have n14_ := Aside0.mk ((by rw [hg]; exact Nat.ne_of_gt (blk_lt (g := gb499) (o := .cells #[.slice Ao49 t496.length co49] 25 (0, 0)) (by (with_reducible repeat (first | refine blk_drewN ?_ _ | refine blk_drew ?_ | refine blk_alloc ?_ _)); exact BK499.out)) : gb503 ≠ gb499)); clear HO_10; clear HO_482000; clear HO495; clear HO498; clear HO502; clear BK481; clear BK499; clear HB; have HO_10 := n0_; have HO_482000 := n1_; have HO495 := n2_; have HO498 := n3_; have HO502 := n4_; have BK481 := n5_; have BK499 := n6_; have HB := n7_; have BK503 := n8_; have GW503 := n9_; have GE503 := n10_; have NB481_503 := n11_; have NB503_481 := n12_; have NB499_503 := n13_; have NB503_499 := n14_; clear n0_ n1_ n2_ n3_ n4_ n5_ n6_ n7_ n8_ n9_ n10_ n11_ n12_ n13_ n14_; clear hb hbox hg; obtain ⟨Ao54, co54, eo54⟩ := Kd.R_slice HO502.out; subst eo54; have hnb55 := NB503_481.out; have hnc55 := NB481_503.out; have hnb56 := NB503_499.out; have hnc56 := NB499_503.out; have hcz57_0 : w53.cell? ⟨gb503, 0, none⟩ = some (.slice none 0 0) := (blk_cell BK503.out 0).trans rfl; have hfz57_0 := blk_frozen BK503.out 0)))
            (try simp only [Act.put, List.setIfInBounds_toArray, List.set_cons_zero, List.set_cons_succ])
            go_cut [99] (fun v99 wc => ∃ (kq : Nat) (x99_38 : Bool), v99 = .bool x99_38 ∧ Aside0 (arboristlaw08_GraphKeeps.j2 kq (Int.tmod (Go.bits .and .i64 a2 65535) (t478.length : Int)) t477 y493 x99_38 x482000_1 t496 t500 = some r) ∧ Aside0 (kq ≤ k1) ∧ Aside0 (Kd.R (Kd.int .u64) 30 wc w.heap.size (fun k_ => some k_ ≠ ((.slice Ao45 x482000_1.length co45) : Value).ownBlock ∧ some k_ ≠ ((.slice Ao49 t496.length co49) : Value).ownBlock ∧ some k_ ≠ ((.slice Ao54 t500.length co54) : Value).ownBlock) v494 y493) ∧ Aside0 (Kd.R (Kd.int .u64) 30 wc w.heap.size (fun k_ => some k_ ≠ (v494 : Value).ownBlock ∧ some k_ ≠ ((.slice Ao49 t496.length co49) : Value).ownBlock ∧ some k_ ≠ ((.slice Ao54 t500.length co54) : Value).ownBlock) (.slice Ao45 x482000_1.length co45) x482000_1) ∧ Aside0 (Kd.R (Kd.int .u64) 30 wc w.heap.size (fun k_ => some k_ ≠ (v494 : Value).ownBlock ∧ some k_ ≠ ((.slice Ao45 x482000_1.length co45) : Value).ownBlock ∧ some k_ ≠ ((.slice Ao54 t500.length co54) : Value).ownBlock) (.slice Ao49 t496.length co49) t496) ∧ Aside0 (Kd.R (Kd.int .u64) 30 wc w.heap.size (fun k_ => some k_ ≠ (v494 : Value).ownBlock ∧ some k_ ≠ ((.slice Ao45 x482000_1.length co45) : Value).ownBlock ∧ some k_ ≠ ((.slice Ao49 t496.length co49) : Value).ownBlock) (.slice Ao54 t500.length co54) t500) ∧ Aside0 (wc.heap[gb481]? = some (.cells #[(.slice Ao45 x482000_1.length co45)] 25 (0, 0))) ∧ Aside0 (wc.heap[gb499]? = some (.cells #[(.slice Ao49 t496.length co49)] 25 (0, 0))) ∧ Aside0 (wc.heap[gb503]? = some (.cells #[(.slice Ao54 t500.length co54)] 25 (0, 0))) ∧ Aside0 (Below w.heap.size w wc))
            case first =>
              have H := HC39.out
              clear HC39
              by_cases c58 : (t496.length : Int) = (y493.length : Int)
              · rw [if_pos c58] at H
                have c58b0 : ((t496.length : Int) == (y493.length : Int)) = true := beq_iff_eq.mpr c58
                have c58b1 : ((t496.length : Int) != (y493.length : Int)) = false := bne_eq_false_iff_eq.mpr c58
                have c58b2 : (t496.length == y493.length) = true := by first | simpa using c58 | (simp at c58 ⊢; omega)
                clear c58
                (first | rw [c58b0] | (simp only [i64_w, i32_w]; rw [c58b0]) | skip)
                have H' := Aside0.mk H
                clear H
                have hnb59 := NB499_481.out
                have hnc59 := NB481_499.out
                have hnb60 := NB499_503.out
                have hnc60 := NB503_499.out
                have hcz61_0 : w53.cell? ⟨gb499, 0, none⟩ = some (.slice Ao49 t496.length co49) := (blk_cell BK499.out 0).trans rfl
                have hfz61_0 := blk_frozen BK499.out 0
                obtain ⟨Ao62, co62, eo62⟩ := Kd.R_slice HO495.out
                subst eo62
                have hnb63 := NB503_481.out
                have hnc63 := NB481_503.out
                have hcz64_0 : w53.cell? ⟨gb503, 0, none⟩ = some (.slice none 0 0) := (blk_cell BK503.out 0).trans rfl
                have hfz64_0 := blk_frozen BK503.out 0
                go_wp2
                repeat (go_quiet (fail); try go_wp2)
                go_meet
                case rel => exact ⟨_, (((t500.length : Int) != (y493.length : Int))), (by first | rfl | (simp; done) | (simp [*]; done)), H', ⟨by have := HK1.out; first | omega | exact Nat.le_refl _⟩, ⟨by (with_reducible repeat (first | apply Kd.R_alloc | apply Kd.R_drewN | apply Kd.R_drew)); exact Kd.R_mono (Kd.R_far (p := ⟨gb503, 0, none⟩) (Kd.R_types HO495.out BK503.out (by decide)) (fun _ hk => hk.2) (.slice Ao54 t500.length co54)) (fun _ hk => ⟨hk.1.1.1, ⟨hk.1.1.2, hk.1.2⟩⟩)⟩, ⟨by (with_reducible repeat (first | apply Kd.R_alloc | apply Kd.R_drewN | apply Kd.R_drew)); exact Kd.R_mono (Kd.R_far (p := ⟨gb503, 0, none⟩) (Kd.R_types HO_482000.out BK503.out (by decide)) (fun _ hk => hk.2) (.slice Ao54 t500.length co54)) (fun _ hk => ⟨hk.1.1.1.2, ⟨hk.1.1.2, hk.1.2⟩⟩)⟩, ⟨by (with_reducible repeat (first | apply Kd.R_alloc | apply Kd.R_drewN | apply Kd.R_drew)); exact Kd.R_mono (Kd.R_far (p := ⟨gb503, 0, none⟩) (Kd.R_types HO498.out BK503.out (by decide)) (fun _ hk => hk.2) (.slice Ao54 t500.length co54)) (fun _ hk => ⟨hk.1.1.2, ⟨hk.1.1.1.2, hk.1.2⟩⟩)⟩, ⟨by (with_reducible repeat (first | apply Kd.R_alloc | apply Kd.R_drewN | apply Kd.R_drew)); exact Kd.R_mono (Kd.R_far (p := ⟨gb503, 0, none⟩) (Kd.R_types HO502.out BK503.out (by decide)) (fun _ hk => hk.2) (.slice Ao54 t500.length co54)) (fun _ hk => ⟨hk.1.1.2, ⟨hk.1.1.1.2, hk.1.2⟩⟩)⟩, ⟨by (with_reducible repeat (first | refine blk_drewN ?_ _ | refine blk_drew ?_ | refine blk_alloc ?_ _)); refine blk_far ?_ NB481_503.out _; (with_reducible repeat (first | refine blk_drewN ?_ _ | refine blk_drew ?_ | refine blk_alloc ?_ _)); exact BK481.out⟩, ⟨by (with_reducible repeat (first | refine blk_drewN ?_ _ | refine blk_drew ?_ | refine blk_alloc ?_ _)); refine blk_far ?_ NB499_503.out _; (with_reducible repeat (first | refine blk_drewN ?_ _ | refine blk_drew ?_ | refine blk_alloc ?_ _)); exact BK499.out⟩, ⟨by (with_reducible repeat (first | refine blk_drewN ?_ _ | refine blk_drew ?_ | refine blk_alloc ?_ _)); refine blk_put (cs := #[.slice none 0 0]) ?_ 0 _ rfl; (with_reducible repeat (first | refine blk_drewN ?_ _ | refine blk_drew ?_ | refine blk_alloc ?_ _)); exact BK503.out⟩, ⟨by repeat (first | (with_reducible first | exact HB.out | apply below_alloc | apply pw_below_drewN | apply below_drew1 | refine below_set ?_ GE481.out | refine below_set ?_ GE499.out | refine below_set ?_ GE503.out) | exact HB.out)⟩⟩
              · rw [if_neg c58] at H
                have c58b0 : ((t496.length : Int) == (y493.length : Int)) = false := beq_eq_false_iff_ne.mpr c58
                have c58b1 : ((t496.length : Int) != (y493.length : Int)) = true := bne_iff_ne.mpr c58
                have c58b2 : (t496.length == y493.length) = false := by first | simpa using c58 | (simp at c58 ⊢; omega)
                (first | rw [c58b0] | (simp only [i64_w, i32_w]; rw [c58b0]) | skip)
                have H' := Aside0.mk H
                clear H
                have hnb65 := NB499_481.out
                have hnc65 := NB481_499.out
                have hnb66 := NB499_503.out
                have hnc66 := NB503_499.out
                have hcz67_0 : w53.cell? ⟨gb499, 0, none⟩ = some (.slice Ao49 t496.length co49) := (blk_cell BK499.out 0).trans rfl
                have hfz67_0 := blk_frozen BK499.out 0
                obtain ⟨Ao68, co68, eo68⟩ := Kd.R_slice HO495.out
                subst eo68
                go_wp2
                repeat (go_quiet (fail); try go_wp2)
                go_meet
                case rel => exact ⟨_, (true), (by first | rfl | (simp; done) | (simp [*]; done)), H', ⟨by have := HK1.out; first | omega | exact Nat.le_refl _⟩, ⟨by (with_reducible repeat (first | apply Kd.R_alloc | apply Kd.R_drewN | apply Kd.R_drew)); exact Kd.R_mono (Kd.R_far (p := ⟨gb503, 0, none⟩) (Kd.R_types HO495.out BK503.out (by decide)) (fun _ hk => hk.2) (.slice Ao54 t500.length co54)) (fun _ hk => ⟨hk.1.1.1, ⟨hk.1.1.2, hk.1.2⟩⟩)⟩, ⟨by (with_reducible repeat (first | apply Kd.R_alloc | apply Kd.R_drewN | apply Kd.R_drew)); exact Kd.R_mono (Kd.R_far (p := ⟨gb503, 0, none⟩) (Kd.R_types HO_482000.out BK503.out (by decide)) (fun _ hk => hk.2) (.slice Ao54 t500.length co54)) (fun _ hk => ⟨hk.1.1.1.2, ⟨hk.1.1.2, hk.1.2⟩⟩)⟩, ⟨by (with_reducible repeat (first | apply Kd.R_alloc | apply Kd.R_drewN | apply Kd.R_drew)); exact Kd.R_mono (Kd.R_far (p := ⟨gb503, 0, none⟩) (Kd.R_types HO498.out BK503.out (by decide)) (fun _ hk => hk.2) (.slice Ao54 t500.length co54)) (fun _ hk => ⟨hk.1.1.2, ⟨hk.1.1.1.2, hk.1.2⟩⟩)⟩, ⟨by (with_reducible repeat (first | apply Kd.R_alloc | apply Kd.R_drewN | apply Kd.R_drew)); exact Kd.R_mono (Kd.R_far (p := ⟨gb503, 0, none⟩) (Kd.R_types HO502.out BK503.out (by decide)) (fun _ hk => hk.2) (.slice Ao54 t500.length co54)) (fun _ hk => ⟨hk.1.1.2, ⟨hk.1.1.1.2, hk.1.2⟩⟩)⟩, ⟨by (with_reducible repeat (first | refine blk_drewN ?_ _ | refine blk_drew ?_ | refine blk_alloc ?_ _)); refine blk_far ?_ NB481_503.out _; (with_reducible repeat (first | refine blk_drewN ?_ _ | refine blk_drew ?_ | refine blk_alloc ?_ _)); exact BK481.out⟩, ⟨by (with_reducible repeat (first | refine blk_drewN ?_ _ | refine blk_drew ?_ | refine blk_alloc ?_ _)); refine blk_far ?_ NB499_503.out _; (with_reducible repeat (first | refine blk_drewN ?_ _ | refine blk_drew ?_ | refine blk_alloc ?_ _)); exact BK499.out⟩, ⟨by (with_reducible repeat (first | refine blk_drewN ?_ _ | refine blk_drew ?_ | refine blk_alloc ?_ _)); refine blk_put (cs := #[.slice none 0 0]) ?_ 0 _ rfl; (with_reducible repeat (first | refine blk_drewN ?_ _ | refine blk_drew ?_ | refine blk_alloc ?_ _)); exact BK503.out⟩, ⟨by repeat (first | (with_reducible first | exact HB.out | apply below_alloc | apply pw_below_drewN | apply below_drew1 | refine below_set ?_ GE481.out | refine below_set ?_ GE499.out | refine below_set ?_ GE503.out) | exact HB.out)⟩⟩
            case rest =>
              clear HC39
              try clear c1
              try clear q1
              try clear c2
              try clear p2
              try clear c3
              try clear c4
              try clear p4
              try clear q4
              try clear hx4
              try clear c5
              try clear c6
              try clear p6
              try clear c8
              try clear c11
              try clear c11b0
              try clear c13
              try clear c13b0
              try clear c14
              try clear c14b0
              try clear c15
              try clear c15b0
              try clear c16
              try clear c16b0
              try clear c17
              try clear c17b0
              try clear q18
              try clear c19
              try clear c21
              try clear c21b0
              try clear c21b1
              try clear c23
              try clear c28
              try clear c28b0
              try clear c28b1
              try clear c28b2
              try clear c29
              try clear c36
              try clear c48
              try clear p48
              try clear q48
              try clear hx48
              try clear c50
              try clear c55
              try clear c56
              try clear c58
              try clear c58b0
              try clear c58b1
              try clear c58b2
              try clear c59
              try clear c60
              try clear c63
              try clear p64
              try clear c65
              try clear c66
              try clear hcz10_0
              try clear hcz24_0
              try clear hcz27_0
              try clear hcz32_0
              try clear hcz43_0
              try clear hcz46_0
              try clear hcz51_0
              try clear hcz57_0
              try clear hcz61_0
              try clear hcz64_0
              try clear hcz67_0
              try clear hfz10_0
              try clear hfz24_0
              try clear hfz27_0
              try clear hfz32_0
              try clear hfz43_0
              try clear hfz46_0
              try clear hfz51_0
              try clear hfz57_0
              try clear hfz61_0
              try clear hfz64_0
              try clear hfz67_0
              try clear hx482_0
              try clear hx483_0
              try clear p2
              try clear p482
              try clear p483
              try clear q482
              try clear q483
              obtain ⟨kq, x99_38, rfl, HA, HJ38, HO_15, HO_482000, HO_500000, HO_504000, BK481, BK499, BK503, HB⟩ := hcut
              cases kq with
              | zero => exact absurd HA.out (by simp [arboristlaw08_GraphKeeps.j2])
              | succ kj38 =>
                have H := HA.out
                clear HA
                simp only [arboristlaw08_GraphKeeps.j2] at H
                by_cases c69 : x99_38 = true
                · subst c69
                  have H1 : (some false) = some r := by rw [if_pos rfl] at H; exact H
                  clear H
                  have H := H1
                  clear H1
                  exact absurd ((Option.some.inj H).trans HT_.out) (by decide)
                · replace c69 := Bool.eq_false_iff.mpr c69
                  subst c69
                  have H1 : (arboristlaw08_GraphKeeps.l2 kj38 (Int.tmod (Go.bits .and .i64 a2 65535) (t478.length : Int)) t477 y493 0 x482000_1 t496 t500) = some r := by rw [if_neg (show ¬ (false = true) by decide)] at H; exact H
                  clear H
                  have H := H1
                  clear H1
                  have H' := Aside0.mk H
                  clear H
                  go_wp2
                  repeat (go_quiet (fail); try go_wp2)
                  go_loopg [18] kj38 (fun kq v18 w' => ∃ (x18_3 : Int), v18 = .int .i64 x18_3 ∧ Aside0 (arboristlaw08_GraphKeeps.l2 kq (Int.tmod (Go.bits .and .i64 a2 65535) (t478.length : Int)) t477 y493 x18_3 x482000_1 t496 t500 = some r) ∧ Aside0 (kq ≤ kj38) ∧ Aside0 (Kd.R (Kd.int .u64) 30 w' w.heap.size (fun k_ => some k_ ≠ ((.slice Ao45 x482000_1.length co45) : Value).ownBlock ∧ some k_ ≠ ((.slice Ao49 t496.length co49) : Value).ownBlock ∧ some k_ ≠ ((.slice Ao54 t500.length co54) : Value).ownBlock) v494 y493) ∧ Aside0 (Kd.R (Kd.int .u64) 30 w' w.heap.size (fun k_ => some k_ ≠ (v494 : Value).ownBlock ∧ some k_ ≠ ((.slice Ao49 t496.length co49) : Value).ownBlock ∧ some k_ ≠ ((.slice Ao54 t500.length co54) : Value).ownBlock) (.slice Ao45 x482000_1.length co45) x482000_1) ∧ Aside0 (Kd.R (Kd.int .u64) 30 w' w.heap.size (fun k_ => some k_ ≠ (v494 : Value).ownBlock ∧ some k_ ≠ ((.slice Ao45 x482000_1.length co45) : Value).ownBlock ∧ some k_ ≠ ((.slice Ao54 t500.length co54) : Value).ownBlock) (.slice Ao49 t496.length co49) t496) ∧ Aside0 (Kd.R (Kd.int .u64) 30 w' w.heap.size (fun k_ => some k_ ≠ (v494 : Value).ownBlock ∧ some k_ ≠ ((.slice Ao45 x482000_1.length co45) : Value).ownBlock ∧ some k_ ≠ ((.slice Ao49 t496.length co49) : Value).ownBlock) (.slice Ao54 t500.length co54) t500) ∧ Aside0 (w'.heap[gb481]? = some (.cells #[(.slice Ao45 x482000_1.length co45)] 25 (0, 0))) ∧ Aside0 (w'.heap[gb499]? = some (.cells #[(.slice Ao49 t496.length co49)] 25 (0, 0))) ∧ Aside0 (w'.heap[gb503]? = some (.cells #[(.slice Ao54 t500.length co54)] 25 (0, 0))) ∧ Aside0 (Below w.heap.size w w'))
                  case atStart => exact ⟨(0), (by first | rfl | (simp; done) | (simp [*]; done)), H', ⟨Nat.le_refl _⟩, ⟨by (with_reducible repeat (first | apply Kd.R_alloc | apply Kd.R_drewN | apply Kd.R_drew)); exact HO_15.out⟩, ⟨by (with_reducible repeat (first | apply Kd.R_alloc | apply Kd.R_drewN | apply Kd.R_drew)); exact HO_482000.out⟩, ⟨by (with_reducible repeat (first | apply Kd.R_alloc | apply Kd.R_drewN | apply Kd.R_drew)); exact HO_500000.out⟩, ⟨by (with_reducible repeat (first | apply Kd.R_alloc | apply Kd.R_drewN | apply Kd.R_drew)); exact HO_504000.out⟩, ⟨by (with_reducible repeat (first | refine blk_drewN ?_ _ | refine blk_drew ?_ | refine blk_alloc ?_ _)); exact BK481.out⟩, ⟨by (with_reducible repeat (first | refine blk_drewN ?_ _ | refine blk_drew ?_ | refine blk_alloc ?_ _)); exact BK499.out⟩, ⟨by (with_reducible repeat (first | refine blk_drewN ?_ _ | refine blk_drew ?_ | refine blk_alloc ?_ _)); exact BK503.out⟩, ⟨by repeat (first | (with_reducible first | exact HB.out | apply below_alloc | apply pw_below_drewN | apply below_drew1 | refine below_set ?_ GE481.out | refine below_set ?_ GE499.out | refine below_set ?_ GE503.out) | exact HB.out)⟩⟩
                  case round =>
                    clear H'
                    try clear c1
                    try clear q1
                    try clear c2
                    try clear p2
                    try clear c3
                    try clear c4
                    try clear p4
                    try clear q4
                    try clear hx4
                    try clear c5
                    try clear c6
                    try clear p6
                    try clear c8
                    try clear c11
                    try clear c11b0
                    try clear c13
                    try clear c13b0
                    try clear c14
                    try clear c14b0
                    try clear c15
                    try clear c15b0
                    try clear c16
                    try clear c16b0
                    try clear c17
                    try clear c17b0
                    try clear q18
                    try clear c19
                    try clear c21
                    try clear c21b0
                    try clear c21b1
                    try clear c23
                    try clear c28
                    try clear c28b0
                    try clear c28b1
                    try clear c28b2
                    try clear c29
                    try clear c36
                    try clear c48
                    try clear p48
                    try clear q48
                    try clear hx48
                    try clear c50
                    try clear c55
                    try clear c56
                    try clear c58
                    try clear c58b0
                    try clear c58b1
                    try clear c58b2
                    try clear c59
                    try clear c60
                    try clear c63
                    try clear p64
                    try clear c65
                    try clear c66
                    try clear c69
                    try clear hcz10_0
                    try clear hcz24_0
                    try clear hcz27_0
                    try clear hcz32_0
                    try clear hcz43_0
                    try clear hcz46_0
                    try clear hcz51_0
                    try clear hcz57_0
                    try clear hcz61_0
                    try clear hcz64_0
                    try clear hcz67_0
                    try clear hfz10_0
                    try clear hfz24_0
                    try clear hfz27_0
                    try clear hfz32_0
                    try clear hfz43_0
                    try clear hfz46_0
                    try clear hfz51_0
                    try clear hfz57_0
                    try clear hfz61_0
                    try clear hfz64_0
                    try clear hfz67_0
                    try clear hx482_0
                    try clear hx483_0
                    try clear p2
                    try clear p4
                    try clear p48
                    try clear p482
                    try clear p483
                    try clear p6
                    try clear p64
                    try clear q1
                    try clear q18
                    try clear q4
                    try clear q48
                    try clear q482
                    try clear q483
                    obtain ⟨x18_3, rfl, HA, HK3, HO_15, HO_482000, HO_500000, HO_504000, BK481, BK499, BK503, HB⟩ := hrel
                    cases gk with
                    | zero => exact absurd HA.out (by simp [arboristlaw08_GraphKeeps.l2])
                    | succ k3 =>
                      have H := HA.out
                      clear HA
                      simp only [arboristlaw08_GraphKeeps.l2] at H
                      by_cases c70 : x18_3 < (y493.length : Int)
                      · rw [if_pos c70] at H
                        have c70b0 : decide (x18_3 < (y493.length : Int)) = true := decide_eq_true c70
                        clear c70
                        by_cases c71 : 0 ≤ x18_3
                        · rw [if_pos c71] at H
                          have c71b0 : decide (0 ≤ x18_3) = true := decide_eq_true c71
                          clear c71
                          by_cases c72 : x18_3 < (x482000_1.length : Int)
                          · rw [if_pos c72] at H
                            have c72b0 : decide (x18_3 < (x482000_1.length : Int)) = true := decide_eq_true c72
                            clear c72
                            by_cases c73 : (rd x482000_1 x18_3) = (rd y493 x18_3)
                            · rw [if_pos c73] at H
                              have c73b0 : ((rd x482000_1 x18_3) == (rd y493 x18_3)) = true := beq_iff_eq.mpr c73
                              have c73b1 : ((rd x482000_1 x18_3) != (rd y493 x18_3)) = false := bne_eq_false_iff_eq.mpr c73
                              clear c73
                              by_cases c74 : x18_3 < (t500.length : Int)
                              · rw [if_pos c74] at H
                                have c74b0 : decide (x18_3 < (t500.length : Int)) = true := decide_eq_true c74
                                clear c74
                                by_cases c75 : x18_3 < (t496.length : Int)
                                · rw [if_pos c75] at H
                                  have c75b0 : decide (x18_3 < (t496.length : Int)) = true := decide_eq_true c75
                                  clear c75
                                  by_cases c76 : (rd t500 x18_3) = (rd t496 x18_3)
                                  · rw [if_pos c76] at H
                                    have c76b0 : ((rd t500 x18_3) == (rd t496 x18_3)) = true := beq_iff_eq.mpr c76
                                    have c76b1 : ((rd t500 x18_3) != (rd t496 x18_3)) = false := bne_eq_false_iff_eq.mpr c76
                                    clear c76
                                    by_cases c77 : (Go.bits .or .u64 (rd t496 x18_3) (rd y493 x18_3)) = (rd t496 x18_3)
                                    · rw [if_pos c77] at H
                                      have c77b0 : ((Go.bits .or .u64 (rd t496 x18_3) (rd y493 x18_3)) == (rd t496 x18_3)) = true := beq_iff_eq.mpr c77
                                      have c77b1 : ((Go.bits .or .u64 (rd t496 x18_3) (rd y493 x18_3)) != (rd t496 x18_3)) = false := bne_eq_false_iff_eq.mpr c77
                                      clear c77
                                      have H' := Aside0.mk H
                                      clear H
                                      obtain ⟨Ao78, co78, eo78⟩ := Kd.R_slice HO_15.out
                                      subst eo78
                                      have hnb79 := NB481_499.out
                                      have hnc79 := NB499_481.out
                                      have hnb80 := NB481_503.out
                                      have hnc80 := NB503_481.out
                                      have hcz81_0 : wr.cell? ⟨gb481, 0, none⟩ = some (.slice Ao45 x482000_1.length co45) := (blk_cell BK481.out 0).trans rfl
                                      have hfz81_0 := blk_frozen BK481.out 0
                                      have p504 : 0 ≤ (x18_3 : Int) := of_decide_eq_true (by first | (with_reducible assumption) | assumption)
                                      have q504 : x18_3 < (x482000_1.length : Int) := of_decide_eq_true (by first | (with_reducible assumption) | assumption)
                                      obtain ⟨ad504, e504, hx504_0⟩ := Kd.at_int (Kd.R_reads' HO_482000.out).2.2 x18_3 p504 q504
                                      cases e504
                                      replace p504 := eq_true p504
                                      replace q504 := eq_true q504
                                      have p505 : 0 ≤ (x18_3 : Int) := of_decide_eq_true (by first | (with_reducible assumption) | assumption)
                                      have q505 : x18_3 < (y493.length : Int) := of_decide_eq_true (by first | (with_reducible assumption) | assumption)
                                      obtain ⟨ad505, e505, hx505_0⟩ := Kd.at_int (Kd.R_reads' HO_15.out).2.2 x18_3 p505 q505
                                      cases e505
                                      replace p505 := eq_true p505
                                      replace q505 := eq_true q505
                                      have hnb82 := NB503_499.out
                                      have hnc82 := NB499_503.out
                                      have hcz83_0 : wr.cell? ⟨gb503, 0, none⟩ = some (.slice Ao54 t500.length co54) := (blk_cell BK503.out 0).trans rfl
                                      have hfz83_0 := blk_frozen BK503.out 0
                                      have p506 : 0 ≤ (x18_3 : Int) := of_decide_eq_true (by first | (with_reducible assumption) | assumption)
                                      have q506 : x18_3 < (t500.length : Int) := of_decide_eq_true (by first | (with_reducible assumption) | assumption)
                                      obtain ⟨ad506, e506, hx506_0⟩ := Kd.at_int (Kd.R_reads' HO_504000.out).2.2 x18_3 p506 q506
                                      cases e506
                                      replace p506 := eq_true p506
                                      replace q506 := eq_true q506
                                      have hcz84_0 : wr.cell? ⟨gb499, 0, none⟩ = some (.slice Ao49 t496.length co49) := (blk_cell BK499.out 0).trans rfl
                                      have hfz84_0 := blk_frozen BK499.out 0
                                      have p507 : 0 ≤ (x18_3 : Int) := of_decide_eq_true (by first | (with_reducible assumption) | assumption)
                                      have q507 : x18_3 < (t496.length : Int) := of_decide_eq_true (by first | (with_reducible assumption) | assumption)
                                      obtain ⟨ad507, e507, hx507_0⟩ := Kd.at_int (Kd.R_reads' HO_500000.out).2.2 x18_3 p507 q507
                                      cases e507
                                      replace p507 := eq_true p507
                                      replace q507 := eq_true q507
                                      have p508 : 0 ≤ (x18_3 : Int) := of_decide_eq_true (by first | (with_reducible assumption) | assumption)
                                      have q508 : x18_3 < (t496.length : Int) := of_decide_eq_true (by first | (with_reducible assumption) | assumption)
                                      obtain ⟨ad508, e508, hx508_0⟩ := Kd.at_int (Kd.R_reads' HO_500000.out).2.2 x18_3 p508 q508
                                      obtain rfl : ad507 = ad508 := (by injection e508)
                                      replace p508 := eq_true p508
                                      replace q508 := eq_true q508
                                      have p509 : 0 ≤ (x18_3 : Int) := of_decide_eq_true (by first | (with_reducible assumption) | assumption)
                                      have q509 : x18_3 < (y493.length : Int) := of_decide_eq_true (by first | (with_reducible assumption) | assumption)
                                      obtain ⟨ad509, e509, hx509_0⟩ := Kd.at_int (Kd.R_reads' HO_15.out).2.2 x18_3 p509 q509
                                      obtain rfl : ad505 = ad509 := (by injection e509)
                                      replace p509 := eq_true p509
                                      replace q509 := eq_true q509
                                      have p510 : 0 ≤ (x18_3 : Int) := of_decide_eq_true (by first | (with_reducible assumption) | assumption)
                                      have q510 : x18_3 < (t496.length : Int) := of_decide_eq_true (by first | (with_reducible assumption) | assumption)
                                      obtain ⟨ad510, e510, hx510_0⟩ := Kd.at_int (Kd.R_reads' HO_500000.out).2.2 x18_3 p510 q510
                                      obtain rfl : ad507 = ad510 := (by injection e510)
                                      replace p510 := eq_true p510
                                      replace q510 := eq_true q510
                                      go_wp2
                                      repeat (go_quiet (fail); try go_wp2)
                                      go_roundg k3
                                      case measure => have := HK1.out; have := HJ38.out; have := HK3.out; omega
                                      case rel => exact ⟨(wrap64 (x18_3 + 1)), (by first | rfl | (simp; done) | (simp [*]; done)), H', ⟨by have := HK1.out; have := HJ38.out; have := HK3.out; omega⟩, ⟨by (with_reducible repeat (first | apply Kd.R_alloc | apply Kd.R_drewN | apply Kd.R_drew)); exact HO_15.out⟩, ⟨by (with_reducible repeat (first | apply Kd.R_alloc | apply Kd.R_drewN | apply Kd.R_drew)); exact HO_482000.out⟩, ⟨by (with_reducible repeat (first | apply Kd.R_alloc | apply Kd.R_drewN | apply Kd.R_drew)); exact HO_500000.out⟩, ⟨by (with_reducible repeat (first | apply Kd.R_alloc | apply Kd.R_drewN | apply Kd.R_drew)); exact HO_504000.out⟩, ⟨by (with_reducible repeat (first | refine blk_drewN ?_ _ | refine blk_drew ?_ | refine blk_alloc ?_ _)); exact BK481.out⟩, ⟨by (with_reducible repeat (first | refine blk_drewN ?_ _ | refine blk_drew ?_ | refine blk_alloc ?_ _)); exact BK499.out⟩, ⟨by (with_reducible repeat (first | refine blk_drewN ?_ _ | refine blk_drew ?_ | refine blk_alloc ?_ _)); exact BK503.out⟩, ⟨by repeat (first | (with_reducible first | exact HB.out | apply below_alloc | apply pw_below_drewN | apply below_drew1 | refine below_set ?_ GE481.out | refine below_set ?_ GE499.out | refine below_set ?_ GE503.out) | exact HB.out)⟩⟩
                                    · rw [if_neg c77] at H
                                      have c77b0 : ((Go.bits .or .u64 (rd t496 x18_3) (rd y493 x18_3)) == (rd t496 x18_3)) = false := beq_eq_false_iff_ne.mpr c77
                                      have c77b1 : ((Go.bits .or .u64 (rd t496 x18_3) (rd y493 x18_3)) != (rd t496 x18_3)) = true := bne_iff_ne.mpr c77
                                      exact absurd ((Option.some.inj H).trans HT_.out) (by decide)
                                  · rw [if_neg c76] at H
                                    have c76b0 : ((rd t500 x18_3) == (rd t496 x18_3)) = false := beq_eq_false_iff_ne.mpr c76
                                    have c76b1 : ((rd t500 x18_3) != (rd t496 x18_3)) = true := bne_iff_ne.mpr c76
                                    exact absurd ((Option.some.inj H).trans HT_.out) (by decide)
                                · rw [if_neg c75] at H
                                  exact absurd H (by simp)
                              · rw [if_neg c74] at H
                                exact absurd H (by simp)
                            · rw [if_neg c73] at H
                              have c73b0 : ((rd x482000_1 x18_3) == (rd y493 x18_3)) = false := beq_eq_false_iff_ne.mpr c73
                              have c73b1 : ((rd x482000_1 x18_3) != (rd y493 x18_3)) = true := bne_iff_ne.mpr c73
                              exact absurd ((Option.some.inj H).trans HT_.out) (by decide)
                          · rw [if_neg c72] at H
                            exact absurd H (by simp)
                        · rw [if_neg c71] at H
                          exact absurd H (by simp)
                      · rw [if_neg c70] at H
                        have c70b0 : decide (x18_3 < (y493.length : Int)) = false := decide_eq_false c70
                        clear c70
                        obtain ⟨ji85, hji85⟩ : ∃ j_ : Int, (Int.tmod (Go.bits .and .i64 a2 65535) (t478.length : Int)) = j_ := ⟨_, rfl⟩
                        replace H : (if 0 ≤ (ji85) then (if (ji85) < (t496.length : Int) then (if t477 = true then (if (ji85) < (x482000_1.length : Int) then (if (ji85) < (y493.length : Int) then (some ((rd x482000_1 (ji85)) == (rd y493 (ji85)))) else (none)) else (none)) else (some false)) else (none)) else (none)) = some r := by first | (rw [hji85] at H; exact H) | (simp only [hji85] at H ⊢; exact H)
                        by_cases c86 : 0 ≤ (ji85)
                        · rw [if_pos c86] at H
                          have c86b0 : decide (0 ≤ (ji85)) = true := decide_eq_true c86
                          clear c86
                          by_cases c87 : (ji85) < (t496.length : Int)
                          · rw [if_pos c87] at H
                            have c87b0 : decide ((ji85) < (t496.length : Int)) = true := decide_eq_true c87
                            clear c87
                            obtain ⟨y511, hy511⟩ : ∃ y_ : List Int, y_ = (t496.set ((ji85) : Int).toNat 77) := ⟨_, rfl⟩
                            replace H : (if t477 = true then (if (ji85) < (x482000_1.length : Int) then (if (ji85) < (y493.length : Int) then (some ((rd x482000_1 (ji85)) == (rd y493 (ji85)))) else (none)) else (none)) else (some false)) = some r := by first | (rw [hy511]; with_reducible exact H) | (have H2_ := (Option.bind_some _ _).symm.trans H; rw [hy511]; with_reducible exact H2_) | (have H2_ := (Option.bind_some _ _).symm.trans H; with_reducible exact H2_) | with_reducible exact H | (rw [hy511]; exact H) | exact H
                            have Ny511 := Aside0.mk hy511
                            clear hy511
                            by_cases c89 : t477 = true
                            · subst c89
                              have H1 : (if (ji85) < (x482000_1.length : Int) then (if (ji85) < (y493.length : Int) then (some ((rd x482000_1 (ji85)) == (rd y493 (ji85)))) else (none)) else (none)) = some r := by rw [if_pos rfl] at H; exact H
                              clear H
                              have H := H1
                              clear H1
                              by_cases c90 : (ji85) < (x482000_1.length : Int)
                              · rw [if_pos c90] at H
                                have c90b0 : decide ((ji85) < (x482000_1.length : Int)) = true := decide_eq_true c90
                                clear c90
                                by_cases c91 : (ji85) < (y493.length : Int)
                                · rw [if_pos c91] at H
                                  have c91b0 : decide ((ji85) < (y493.length : Int)) = true := decide_eq_true c91
                                  clear c91
                                  obtain rfl := Option.some.inj H
                                  obtain ⟨Ao92, co92, eo92⟩ := Kd.R_slice HO_15.out
                                  subst eo92
                                  have hnb93 := NB499_481.out
                                  have hnc93 := NB481_499.out
                                  have hnb94 := NB499_503.out
                                  have hnc94 := NB503_499.out
                                  have hcz95_0 : wr.cell? ⟨gb499, 0, none⟩ = some (.slice Ao49 t496.length co49) := (blk_cell BK499.out 0).trans rfl
                                  have hfz95_0 := blk_frozen BK499.out 0
                                  have p88 : 0 ≤ ((ji85) : Int) := of_decide_eq_true (by first | (with_reducible assumption) | assumption)
                                  have q88 : ((ji85) : Int) < ((t496.length : Int) : Int) := of_decide_eq_true (by first | (with_reducible assumption) | assumption)
                                  obtain ⟨go88, co88, eo88, gb88, gl88, cl88, HG88⟩ := Kd.R_form HO_500000.out (by omega)
                                  (first | cases eo88 | (injection eo88 with ea_ en_ ec_; (first | subst ea_ | (injection ea_ with ea_; subst ea_)); subst ec_; clear en_))
                                  have GB88 := Aside0.mk gb88
                                  have GG88 := Aside0.mk HG88
                                  clear gb88 gl88 HG88
                                  obtain ⟨hx88_0, hf88_0⟩ := Kd.R_celln 0 HO_500000.out ((ji85) : Int) p88 q88
                                  replace p88 := eq_true p88
                                  replace q88 := eq_true q88
                                  have HP96 := Kd.R_putg HO_500000.out ((ji85) : Int) 77
                                  go_wp2_with (first | ((with_reducible refine gate_store (t := 30) (p := 150) rfl ?_); (try (rw [drewN_self wr]; generalize hq_ : World.drewN wr _ = wr; have n0_ := Aside0.mk (Kd.R_at hq_ HO_15.out); have n1_ := Aside0.mk (Kd.R_at hq_ HO_482000.out); have n2_ := Aside0.mk (Kd.R_at hq_ HO_500000.out); have n3_ := Aside0.mk (Kd.R_at hq_ HO_504000.out); have n4_ := Aside0.mk (blk_at hq_ BK481.out); have n5_ := Aside0.mk (blk_at hq_ BK499.out); have n6_ := Aside0.mk (blk_at hq_ BK503.out); have n7_ := Aside0.mk (below_at hq_ HB.out); clear hq_ HO_15 HO_482000 HO_500000 HO_504000 BK481 BK499 BK503 HB; have HO_15 := n0_; have HO_482000 := n1_; have HO_500000 := n2_; have HO_504000 := n3_; have BK481 := n4_; have BK499 := n5_; have BK503 := n6_; have HB := n7_; clear n0_ n1_ n2_ n3_ n4_ n5_ n6_ n7_; (try (have HP96 := Kd.R_putg HO_500000.out ((ji85) : Int) 77)))); refine store_event (t := 30) (p := 150) (v := ?vo_w97) (w1 := (wr.setCell ⟨go88, ((ji85) : Int).toNat, none⟩ (.int .u64 77))) ?hg ?ho ?hn ?hr ?_; (case ho => rfl); (case hg => rfl); (case hn => rfl); (case hr => first | (go_simp; done) | (go_simp; rfl)); intro w97 hw; have hg : wr.grownBy w97 (some go88) := (by rw [hw]; exact HP96.2); have hp_ : Kd.R (Kd.int .u64) 30 w97 w.heap.size (fun k_ => some k_ ≠ (.slice Ao92 y493.length co92 : Value).ownBlock ∧ some k_ ≠ (.slice Ao45 x482000_1.length co45 : Value).ownBlock ∧ some k_ ≠ (.slice Ao54 t500.length co54 : Value).ownBlock) (.slice (some ⟨go88, 0, none⟩) t496.length co49) y511 := (by rw [hw, Ny511.out]; exact HP96.1); clear HP96; have n0_ := Aside0.mk (Kd.R_after (v := (.slice (some ⟨go88, 0, none⟩) t496.length co49)) (v1 := (.slice (some ⟨go88, 0, none⟩) t496.length co49)) (ok := (fun k_ => some k_ ≠ (.slice Ao45 x482000_1.length co45 : Value).ownBlock ∧ some k_ ≠ (.slice Ao54 t500.length co54 : Value).ownBlock)) (by (with_reducible repeat (first | apply Kd.R_alloc | apply Kd.R_drewN | apply Kd.R_drew)); exact Kd.R_mono HO_15.out (fun _ hk => ⟨⟨hk.1, hk.2.2⟩, hk.2.1⟩)) hg (.inl rfl)); have n1_ := Aside0.mk (Kd.R_after (v := (.slice (some ⟨go88, 0, none⟩) t496.length co49)) (v1 := (.slice (some ⟨go88, 0, none⟩) t496.length co49)) (ok := (fun k_ => some k_ ≠ (.slice Ao92 y493.length co92 : Value).ownBlock ∧ some k_ ≠ (.slice Ao54 t500.length co54 : Value).ownBlock)) (by (with_reducible repeat (first | apply Kd.R_alloc | apply Kd.R_drewN | apply Kd.R_drew)); exact Kd.R_mono HO_482000.out (fun _ hk => ⟨⟨hk.1, hk.2.2⟩, hk.2.1⟩)) hg (.inl rfl)); have n2_ := Aside0.mk (hp_); have n3_ := Aside0.mk (Kd.R_after (v := (.slice (some ⟨go88, 0, none⟩) t496.length co49)) (v1 := (.slice (some ⟨go88, 0, none⟩) t496.length co49)) (ok := (fun k_ => some k_ ≠ (.slice Ao92 y493.length co92 : Value).ownBlock ∧ some k_ ≠ (.slice Ao45 x482000_1.length co45 : Value).ownBlock)) (by (with_reducible repeat (first | apply Kd.R_alloc | apply Kd.R_drewN | apply Kd.R_drew)); exact Kd.R_mono HO_504000.out (fun _ hk => ⟨⟨hk.1, hk.2.1⟩, hk.2.2⟩)) hg (.inl rfl)); have n4_ := Aside0.mk (blk_grown (g := gb481) (o := .cells #[.slice Ao45 x482000_1.length co45] 25 (0, 0)) (by (with_reducible repeat (first | refine blk_drewN ?_ _ | refine blk_drew ?_ | refine blk_alloc ?_ _)); exact BK481.out) hg (Kd.R_ne HO_500000.out BK481.out (by decide))); have n5_ := Aside0.mk (blk_grown (g := gb499) (o := .cells #[.slice (some ⟨go88, 0, none⟩) t496.length co49] 25 (0, 0)) (by (with_reducible repeat (first | refine blk_drewN ?_ _ | refine blk_drew ?_ | refine blk_alloc ?_ _)); exact BK499.out) hg (Kd.R_ne HO_500000.out BK499.out (by decide))); have n6_ := Aside0.mk (blk_grown (g := gb503) (o := .cells #[.slice Ao54 t500.length co54] 25 (0, 0)) (by (with_reducible repeat (first | refine blk_drewN ?_ _ | refine blk_drew ?_ | refine blk_alloc ?_ _)); exact BK503.out) hg (Kd.R_ne HO_500000.out BK503.out (by decide))); have n7_ := Aside0.mk ((by rw [hw]; exact below_set (HB.out) GB88.out : Below w.heap.size w w97)); clear HO_15; clear HO_482000; clear HO_500000; clear HO_504000; clear BK481; clear BK499; clear BK503; clear HB; have HO_15 := n0_; have HO_482000 := n1_; have HO_500000 := n2_; have HO_504000 := n3_; have BK481 := n4_; have BK499 := n5_; have BK503 := n6_; have HB := n7_; clear n0_ n1_ n2_ n3_ n4_ n5_ n6_ n7_; clear hg hw hp_; have hnb98 := NB481_503.out; have hnc98 := NB503_481.out; have hcz99_0 : w97.cell? ⟨gb481, 0, none⟩ = some (.slice Ao45 x482000_1.length co45) := (blk_cell BK481.out 0).trans rfl; have hfz99_0 := blk_frozen BK481.out 0; have p512 : 0 ≤ ((ji85) : Int) := of_decide_eq_true (by first | (with_reducible assumption) | assumption); have q512 : (ji85) < (x482000_1.length : Int) := of_decide_eq_true (by first | (with_reducible assumption) | assumption); obtain ⟨ad512, e512, hx512_0⟩ := Kd.at_int (Kd.R_reads' HO_482000.out).2.2 (ji85) p512 q512; cases e512; replace p512 := eq_true p512; replace q512 := eq_true q512; have p513 : 0 ≤ ((ji85) : Int) := of_decide_eq_true (by first | (with_reducible assumption) | assumption); have q513 : (ji85) < (y493.length : Int) := of_decide_eq_true (by first | (with_reducible assumption) | assumption); obtain ⟨ad513, e513, hx513_0⟩ := Kd.at_int (Kd.R_reads' HO_15.out).2.2 (ji85) p513 q513; cases e513; replace p513 := eq_true p513; replace q513 := eq_true q513))
                                  repeat (go_quiet (first | ((with_reducible refine gate_store (t := 30) (p := 150) rfl ?_); (try (rw [drewN_self wr]; generalize hq_ : World.drewN wr _ = wr; have n0_ := Aside0.mk (Kd.R_at hq_ HO_15.out); have n1_ := Aside0.mk (Kd.R_at hq_ HO_482000.out); have n2_ := Aside0.mk (Kd.R_at hq_ HO_500000.out); have n3_ := Aside0.mk (Kd.R_at hq_ HO_504000.out); have n4_ := Aside0.mk (blk_at hq_ BK481.out); have n5_ := Aside0.mk (blk_at hq_ BK499.out); have n6_ := Aside0.mk (blk_at hq_ BK503.out); have n7_ := Aside0.mk (below_at hq_ HB.out); clear hq_ HO_15 HO_482000 HO_500000 HO_504000 BK481 BK499 BK503 HB; have HO_15 := n0_; have HO_482000 := n1_; have HO_500000 := n2_; have HO_504000 := n3_; have BK481 := n4_; have BK499 := n5_; have BK503 := n6_; have HB := n7_; clear n0_ n1_ n2_ n3_ n4_ n5_ n6_ n7_; (try (have HP96 := Kd.R_putg HO_500000.out ((ji85) : Int) 77)))); refine store_event (t := 30) (p := 150) (v := ?vo_w97) (w1 := (wr.setCell ⟨go88, ((ji85) : Int).toNat, none⟩ (.int .u64 77))) ?hg ?ho ?hn ?hr ?_; (case ho => rfl); (case hg => rfl); (case hn => rfl); (case hr => first | (go_simp; done) | (go_simp; rfl)); intro w97 hw; have hg : wr.grownBy w97 (some go88) := (by rw [hw]; exact HP96.2); have hp_ : Kd.R (Kd.int .u64) 30 w97 w.heap.size (fun k_ => some k_ ≠ (.slice Ao92 y493.length co92 : Value).ownBlock ∧ some k_ ≠ (.slice Ao45 x482000_1.length co45 : Value).ownBlock ∧ some k_ ≠ (.slice Ao54 t500.length co54 : Value).ownBlock) (.slice (some ⟨go88, 0, none⟩) t496.length co49) y511 := (by rw [hw, Ny511.out]; exact HP96.1); clear HP96; have n0_ := Aside0.mk (Kd.R_after (v := (.slice (some ⟨go88, 0, none⟩) t496.length co49)) (v1 := (.slice (some ⟨go88, 0, none⟩) t496.length co49)) (ok := (fun k_ => some k_ ≠ (.slice Ao45 x482000_1.length co45 : Value).ownBlock ∧ some k_ ≠ (.slice Ao54 t500.length co54 : Value).ownBlock)) (by (with_reducible repeat (first | apply Kd.R_alloc | apply Kd.R_drewN | apply Kd.R_drew)); exact Kd.R_mono HO_15.out (fun _ hk => ⟨⟨hk.1, hk.2.2⟩, hk.2.1⟩)) hg (.inl rfl)); have n1_ := Aside0.mk (Kd.R_after (v := (.slice (some ⟨go88, 0, none⟩) t496.length co49)) (v1 := (.slice (some ⟨go88, 0, none⟩) t496.length co49)) (ok := (fun k_ => some k_ ≠ (.slice Ao92 y493.length co92 : Value).ownBlock ∧ some k_ ≠ (.slice Ao54 t500.length co54 : Value).ownBlock)) (by (with_reducible repeat (first | apply Kd.R_alloc | apply Kd.R_drewN | apply Kd.R_drew)); exact Kd.R_mono HO_482000.out (fun _ hk => ⟨⟨hk.1, hk.2.2⟩, hk.2.1⟩)) hg (.inl rfl)); have n2_ := Aside0.mk (hp_); have n3_ := Aside0.mk (Kd.R_after (v := (.slice (some ⟨go88, 0, none⟩) t496.length co49)) (v1 := (.slice (some ⟨go88, 0, none⟩) t496.length co49)) (ok := (fun k_ => some k_ ≠ (.slice Ao92 y493.length co92 : Value).ownBlock ∧ some k_ ≠ (.slice Ao45 x482000_1.length co45 : Value).ownBlock)) (by (with_reducible repeat (first | apply Kd.R_alloc | apply Kd.R_drewN | apply Kd.R_drew)); exact Kd.R_mono HO_504000.out (fun _ hk => ⟨⟨hk.1, hk.2.1⟩, hk.2.2⟩)) hg (.inl rfl)); have n4_ := Aside0.mk (blk_grown (g := gb481) (o := .cells #[.slice Ao45 x482000_1.length co45] 25 (0, 0)) (by (with_reducible repeat (first | refine blk_drewN ?_ _ | refine blk_drew ?_ | refine blk_alloc ?_ _)); exact BK481.out) hg (Kd.R_ne HO_500000.out BK481.out (by decide))); have n5_ := Aside0.mk (blk_grown (g := gb499) (o := .cells #[.slice (some ⟨go88, 0, none⟩) t496.length co49] 25 (0, 0)) (by (with_reducible repeat (first | refine blk_drewN ?_ _ | refine blk_drew ?_ | refine blk_alloc ?_ _)); exact BK499.out) hg (Kd.R_ne HO_500000.out BK499.out (by decide))); have n6_ := Aside0.mk (blk_grown (g := gb503) (o := .cells #[.slice Ao54 t500.length co54] 25 (0, 0)) (by (with_reducible repeat (first | refine blk_drewN ?_ _ | refine blk_drew ?_ | refine blk_alloc ?_ _)); exact BK503.out) hg (Kd.R_ne HO_500000.out BK503.out (by decide))); have n7_ := Aside0.mk ((by rw [hw]; exact below_set (HB.out) GB88.out : Below w.heap.size w w97)); clear HO_15; clear HO_482000; clear HO_500000; clear HO_504000; clear BK481; clear BK499; clear BK503; clear HB; have HO_15 := n0_; have HO_482000 := n1_; have HO_500000 := n2_; have HO_504000 := n3_; have BK481 := n4_; have BK499 := n5_; have BK503 := n6_; have HB := n7_; clear n0_ n1_ n2_ n3_ n4_ n5_ n6_ n7_; clear hg hw hp_; have hnb98 := NB481_503.out; have hnc98 := NB503_481.out; have hcz99_0 : w97.cell? ⟨gb481, 0, none⟩ = some (.slice Ao45 x482000_1.length co45) := (blk_cell BK481.out 0).trans rfl; have hfz99_0 := blk_frozen BK481.out 0; have p512 : 0 ≤ ((ji85) : Int) := of_decide_eq_true (by first | (with_reducible assumption) | assumption); have q512 : (ji85) < (x482000_1.length : Int) := of_decide_eq_true (by first | (with_reducible assumption) | assumption); obtain ⟨ad512, e512, hx512_0⟩ := Kd.at_int (Kd.R_reads' HO_482000.out).2.2 (ji85) p512 q512; cases e512; replace p512 := eq_true p512; replace q512 := eq_true q512; have p513 : 0 ≤ ((ji85) : Int) := of_decide_eq_true (by first | (with_reducible assumption) | assumption); have q513 : (ji85) < (y493.length : Int) := of_decide_eq_true (by first | (with_reducible assumption) | assumption); obtain ⟨ad513, e513, hx513_0⟩ := Kd.at_int (Kd.R_reads' HO_15.out).2.2 (ji85) p513 q513; cases e513; replace p513 := eq_true p513; replace q513 := eq_true q513)); try go_wp2_with (first | ((with_reducible refine gate_store (t := 30) (p := 150) rfl ?_); (try (rw [drewN_self wr]; generalize hq_ : World.drewN wr _ = wr; have n0_ := Aside0.mk (Kd.R_at hq_ HO_15.out); have n1_ := Aside0.mk (Kd.R_at hq_ HO_482000.out); have n2_ := Aside0.mk (Kd.R_at hq_ HO_500000.out); have n3_ := Aside0.mk (Kd.R_at hq_ HO_504000.out); have n4_ := Aside0.mk (blk_at hq_ BK481.out); have n5_ := Aside0.mk (blk_at hq_ BK499.out); have n6_ := Aside0.mk (blk_at hq_ BK503.out); have n7_ := Aside0.mk (below_at hq_ HB.out); clear hq_ HO_15 HO_482000 HO_500000 HO_504000 BK481 BK499 BK503 HB; have HO_15 := n0_; have HO_482000 := n1_; have HO_500000 := n2_; have HO_504000 := n3_; have BK481 := n4_; have BK499 := n5_; have BK503 := n6_; have HB := n7_; clear n0_ n1_ n2_ n3_ n4_ n5_ n6_ n7_; (try (have HP96 := Kd.R_putg HO_500000.out ((ji85) : Int) 77)))); refine store_event (t := 30) (p := 150) (v := ?vo_w97) (w1 := (wr.setCell ⟨go88, ((ji85) : Int).toNat, none⟩ (.int .u64 77))) ?hg ?ho ?hn ?hr ?_; (case ho => rfl); (case hg => rfl); (case hn => rfl); (case hr => first | (go_simp; done) | (go_simp; rfl)); intro w97 hw; have hg : wr.grownBy w97 (some go88) := (by rw [hw]; exact HP96.2); have hp_ : Kd.R (Kd.int .u64) 30 w97 w.heap.size (fun k_ => some k_ ≠ (.slice Ao92 y493.length co92 : Value).ownBlock ∧ some k_ ≠ (.slice Ao45 x482000_1.length co45 : Value).ownBlock ∧ some k_ ≠ (.slice Ao54 t500.length co54 : Value).ownBlock) (.slice (some ⟨go88, 0, none⟩) t496.length co49) y511 := (by rw [hw, Ny511.out]; exact HP96.1); clear HP96; have n0_ := Aside0.mk (Kd.R_after (v := (.slice (some ⟨go88, 0, none⟩) t496.length co49)) (v1 := (.slice (some ⟨go88, 0, none⟩) t496.length co49)) (ok := (fun k_ => some k_ ≠ (.slice Ao45 x482000_1.length co45 : Value).ownBlock ∧ some k_ ≠ (.slice Ao54 t500.length co54 : Value).ownBlock)) (by (with_reducible repeat (first | apply Kd.R_alloc | apply Kd.R_drewN | apply Kd.R_drew)); exact Kd.R_mono HO_15.out (fun _ hk => ⟨⟨hk.1, hk.2.2⟩, hk.2.1⟩)) hg (.inl rfl)); have n1_ := Aside0.mk (Kd.R_after (v := (.slice (some ⟨go88, 0, none⟩) t496.length co49)) (v1 := (.slice (some ⟨go88, 0, none⟩) t496.length co49)) (ok := (fun k_ => some k_ ≠ (.slice Ao92 y493.length co92 : Value).ownBlock ∧ some k_ ≠ (.slice Ao54 t500.length co54 : Value).ownBlock)) (by (with_reducible repeat (first | apply Kd.R_alloc | apply Kd.R_drewN | apply Kd.R_drew)); exact Kd.R_mono HO_482000.out (fun _ hk => ⟨⟨hk.1, hk.2.2⟩, hk.2.1⟩)) hg (.inl rfl)); have n2_ := Aside0.mk (hp_); have n3_ := Aside0.mk (Kd.R_after (v := (.slice (some ⟨go88, 0, none⟩) t496.length co49)) (v1 := (.slice (some ⟨go88, 0, none⟩) t496.length co49)) (ok := (fun k_ => some k_ ≠ (.slice Ao92 y493.length co92 : Value).ownBlock ∧ some k_ ≠ (.slice Ao45 x482000_1.length co45 : Value).ownBlock)) (by (with_reducible repeat (first | apply Kd.R_alloc | apply Kd.R_drewN | apply Kd.R_drew)); exact Kd.R_mono HO_504000.out (fun _ hk => ⟨⟨hk.1, hk.2.1⟩, hk.2.2⟩)) hg (.inl rfl)); have n4_ := Aside0.mk (blk_grown (g := gb481) (o := .cells #[.slice Ao45 x482000_1.length co45] 25 (0, 0)) (by (with_reducible repeat (first | refine blk_drewN ?_ _ | refine blk_drew ?_ | refine blk_alloc ?_ _)); exact BK481.out) hg (Kd.R_ne HO_500000.out BK481.out (by decide))); have n5_ := Aside0.mk (blk_grown (g := gb499) (o := .cells #[.slice (some ⟨go88, 0, none⟩) t496.length co49] 25 (0, 0)) (by (with_reducible repeat (first | refine blk_drewN ?_ _ | refine blk_drew ?_ | refine blk_alloc ?_ _)); exact BK499.out) hg (Kd.R_ne HO_500000.out BK499.out (by decide))); have n6_ := Aside0.mk (blk_grown (g := gb503) (o := .cells #[.slice Ao54 t500.length co54] 25 (0, 0)) (by (with_reducible repeat (first | refine blk_drewN ?_ _ | refine blk_drew ?_ | refine blk_alloc ?_ _)); exact BK503.out) hg (Kd.R_ne HO_500000.out BK503.out (by decide))); have n7_ := Aside0.mk ((by rw [hw]; exact below_set (HB.out) GB88.out : Below w.heap.size w w97)); clear HO_15; clear HO_482000; clear HO_500000; clear HO_504000; clear BK481; clear BK499; clear BK503; clear HB; have HO_15 := n0_; have HO_482000 := n1_; have HO_500000 := n2_; have HO_504000 := n3_; have BK481 := n4_; have BK499 := n5_; have BK503 := n6_; have HB := n7_; clear n0_ n1_ n2_ n3_ n4_ n5_ n6_ n7_; clear hg hw hp_; have hnb98 := NB481_503.out; have hnc98 := NB503_481.out; have hcz99_0 : w97.cell? ⟨gb481, 0, none⟩ = some (.slice Ao45 x482000_1.length co45) := (blk_cell BK481.out 0).trans rfl; have hfz99_0 := blk_frozen BK481.out 0; have p512 : 0 ≤ ((ji85) : Int) := of_decide_eq_true (by first | (with_reducible assumption) | assumption); have q512 : (ji85) < (x482000_1.length : Int) := of_decide_eq_true (by first | (with_reducible assumption) | assumption); obtain ⟨ad512, e512, hx512_0⟩ := Kd.at_int (Kd.R_reads' HO_482000.out).2.2 (ji85) p512 q512; cases e512; replace p512 := eq_true p512; replace q512 := eq_true q512; have p513 : 0 ≤ ((ji85) : Int) := of_decide_eq_true (by first | (with_reducible assumption) | assumption); have q513 : (ji85) < (y493.length : Int) := of_decide_eq_true (by first | (with_reducible assumption) | assumption); obtain ⟨ad513, e513, hx513_0⟩ := Kd.at_int (Kd.R_reads' HO_15.out).2.2 (ji85) p513 q513; cases e513; replace p513 := eq_true p513; replace q513 := eq_true q513)))
                                  go_ret
                                  exact ⟨by first | rfl | (simp [errW_none, errW_some] <;> rfl) | (simp only [← hji85]; first | rfl | (simp [errW_none, errW_some] <;> rfl)) | (simp [*, errW_none, errW_some] <;> rfl), by repeat (first | (with_reducible first | exact HB.out | apply below_alloc | apply pw_below_drewN | apply below_drew1 | refine below_set ?_ GE481.out | refine below_set ?_ GE499.out | refine below_set ?_ GE503.out) | exact HB.out)⟩
                                · rw [if_neg c91] at H
                                  exact absurd H (by simp)
                              · rw [if_neg c90] at H
                                exact absurd H (by simp)
                            · replace c89 := Bool.eq_false_iff.mpr c89
                              subst c89
                              have H1 : (some false) = some r := by rw [if_neg (show ¬ (false = true) by decide)] at H; exact H
                              clear H
                              have H := H1
                              clear H1
                              exact absurd ((Option.some.inj H).trans HT_.out) (by decide)
                          · rw [if_neg c87] at H
                            exact absurd H (by simp)
                        · rw [if_neg c86] at H
                          exact absurd H (by simp)
          · rw [if_neg c36] at H
            exact absurd H (by simp)

/-- THE ONE PURE STATEMENT of arboristlaw08_GraphKeeps. -/
def arboristlaw08_GraphKeeps.Pure : Prop := ∀ (a0 : Int) (l1 : List (List Int)) (a2 : Int) (a3 : Int), (Lit.int .i64 a0).wf = true → (l1.length ≤ maxLen ∧ ∀ z0 ∈ l1, (z0.length ≤ maxLen ∧ ∀ z1 ∈ z0, (Lit.int .i64 z1).wf = true)) → (Lit.int .i64 a2).wf = true → (Lit.int .i64 a3).wf = true → ∃ k, arboristlaw08_GraphKeeps.f k a0 l1 a2 a3 = some true

end Go.Proofs.YtaodbohfhelokaaDoor.Pr
