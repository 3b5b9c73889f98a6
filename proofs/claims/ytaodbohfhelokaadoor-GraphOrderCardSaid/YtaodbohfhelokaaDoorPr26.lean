-- Printed by a program of this session's own (wip/tools/pp.py) over the kit's print.py; Lean checks it.
import Derived.Test.YtaodbohfhelokaaDoorPr0
import Derived.Test.YtaodbohfhelokaaDoorPr1
import Derived.Test.YtaodbohfhelokaaDoorPr8
import Derived.Test.YtaodbohfhelokaaDoorPr9
import Derived.Test.YtaodbohfhelokaaDoorPr12
import Derived.Test.YtaodbohfhelokaaDoorPr17
import Derived.Test.YtaodbohfhelokaaDoorPr25
namespace Go.Proofs.YtaodbohfhelokaaDoor.Pr
open Go.RowKit Go.Proofs.YtaodbohfhelokaaDoorW.PrintWords Go.Proofs.YtaodbohfhelokaaDoorW.PrintLast Go.Proofs.YtaodbohfhelokaaDoorW.PrintMore
attribute [local go_sem] max2_int min2_int max_two min_two max_three min_three max_four min_four   -- for this text's walks alone
set_option linter.unusedVariables false
set_option linter.unusedSimpArgs false

/-! ### arboristlaw08_GraphOrder: function 6 -/
mutual
def arboristlaw08_GraphOrder.l0 : Nat → List (List Int) → Bool → Int → Int → List Int → List Int → Option (Bool)
  | 0, _, _, _, _, _, _ => none
  | k + 1, x0, x3, x6, x7, x400000, x404000 => if x7 < x6 then (if 0 ≤ x7 then (if x7 < (x0.length : Int) then (if ((rd_L2 x0 x7).length : Int) > 1 then (if 0 < ((rd_L2 x0 x7).length : Int) then (if 1 < ((rd_L2 x0 x7).length : Int) then ((graph_Join.f x400000 (rd (rd_L2 x0 x7) 0) (rd (rd_L2 x0 x7) 1)).bind fun t409 => (if 0 ≤ (wrap64 ((wrap64 (x6 - 1)) - x7)) then (if (wrap64 ((wrap64 (x6 - 1)) - x7)) < (x0.length : Int) then (if ((rd_L2 x0 (wrap64 ((wrap64 (x6 - 1)) - x7))).length : Int) > 1 then (if 1 < ((rd_L2 x0 (wrap64 ((wrap64 (x6 - 1)) - x7))).length : Int) then (if 0 < ((rd_L2 x0 (wrap64 ((wrap64 (x6 - 1)) - x7))).length : Int) then ((graph_Join.f x404000 (rd (rd_L2 x0 (wrap64 ((wrap64 (x6 - 1)) - x7))) 1) (rd (rd_L2 x0 (wrap64 ((wrap64 (x6 - 1)) - x7))) 0)).bind fun t417 => (arboristlaw08_GraphOrder.l0 k x0 x3 x6 (wrap64 (x7 + 1)) t409 t417)) else (none)) else (none)) else (arboristlaw08_GraphOrder.l0 k x0 x3 x6 (wrap64 (x7 + 1)) t409 x404000)) else (none)) else (none))) else (none)) else (none)) else (if 0 ≤ (wrap64 ((wrap64 (x6 - 1)) - x7)) then (if (wrap64 ((wrap64 (x6 - 1)) - x7)) < (x0.length : Int) then (if ((rd_L2 x0 (wrap64 ((wrap64 (x6 - 1)) - x7))).length : Int) > 1 then (if 1 < ((rd_L2 x0 (wrap64 ((wrap64 (x6 - 1)) - x7))).length : Int) then (if 0 < ((rd_L2 x0 (wrap64 ((wrap64 (x6 - 1)) - x7))).length : Int) then ((graph_Join.f x404000 (rd (rd_L2 x0 (wrap64 ((wrap64 (x6 - 1)) - x7))) 1) (rd (rd_L2 x0 (wrap64 ((wrap64 (x6 - 1)) - x7))) 0)).bind fun t425 => (arboristlaw08_GraphOrder.l0 k x0 x3 x6 (wrap64 (x7 + 1)) x400000 t425)) else (none)) else (none)) else (arboristlaw08_GraphOrder.l0 k x0 x3 x6 (wrap64 (x7 + 1)) x400000 x404000)) else (none)) else (none))) else (none)) else (none)) else (arboristlaw08_GraphOrder.l1 k x3 0 x400000 x404000)
def arboristlaw08_GraphOrder.l1 : Nat → Bool → Int → List Int → List Int → Option (Bool)
  | 0, _, _, _, _ => none
  | k + 1, x3, x8, x400000, x404000 => if x8 < 12 then ((graph_Neighbors.f x400000 x8).bind fun t428 => ((graph_Neighbors.f x404000 x8).bind fun t431 => ((arboristref01_Compare.f k t428 t431).bind fun t434 => (if t434 = 0 then (arboristlaw08_GraphOrder.l2 k x3 x8 t428 0 x400000 x404000) else (some false))))) else (some x3)
def arboristlaw08_GraphOrder.l2 : Nat → Bool → Int → List Int → Int → List Int → List Int → Option (Bool)
  | 0, _, _, _, _, _, _ => none
  | k + 1, x3, x8, x9, x10, x400000, x404000 => if x10 < (x9.length : Int) then (if 0 ≤ x10 then ((graph_Neighbors.f x400000 (rd x9 x10)).bind fun t436 => ((arboristref01_In.f k t436 x8).bind fun t439 => (if t439 = true then ((graph_Beside.f x400000 x8 (rd x9 x10)).bind fun t441 => (if t441 = true then (arboristlaw08_GraphOrder.l2 k x3 x8 x9 (wrap64 (x10 + 1)) x400000 x404000) else (some false))) else (some false)))) else (none)) else (arboristlaw08_GraphOrder.l1 k x3 (wrap64 (x8 + 1)) x400000 x404000)
end
def arboristlaw08_GraphOrder.f (k : Nat) (l0 : List (List Int)) : Option (Bool) := (arboristlaw08_shown.f k).bind fun t395 => ((graph_New.f 12).bind fun t396 => ((graph_New.f 12).bind fun t400 => (arboristlaw08_GraphOrder.l0 k l0 t395 (mn (l0.length : Int) 60) 0 t396 t400)))
theorem arboristlaw08_GraphOrder.mono_l : ∀ k, (∀ y0 y1 y2 y3 y4 y5, LeO (arboristlaw08_GraphOrder.l0 k y0 y1 y2 y3 y4 y5) (arboristlaw08_GraphOrder.l0 (k + 1) y0 y1 y2 y3 y4 y5)) ∧ (∀ y0 y1 y2 y3, LeO (arboristlaw08_GraphOrder.l1 k y0 y1 y2 y3) (arboristlaw08_GraphOrder.l1 (k + 1) y0 y1 y2 y3)) ∧ (∀ y0 y1 y2 y3 y4 y5, LeO (arboristlaw08_GraphOrder.l2 k y0 y1 y2 y3 y4 y5) (arboristlaw08_GraphOrder.l2 (k + 1) y0 y1 y2 y3 y4 y5))
  | 0 => ⟨fun _ _ _ _ _ _ r h => by simp [arboristlaw08_GraphOrder.l0] at h, fun _ _ _ _ r h => by simp [arboristlaw08_GraphOrder.l1] at h, fun _ _ _ _ _ _ r h => by simp [arboristlaw08_GraphOrder.l2] at h⟩
  | k + 1 => by
    obtain ⟨ih0, ih1, ih2⟩ := arboristlaw08_GraphOrder.mono_l k
    refine ⟨?_, ?_, ?_⟩
    all_goals intros
    all_goals (first | unfold arboristlaw08_GraphOrder.l0 | unfold arboristlaw08_GraphOrder.l1 | unfold arboristlaw08_GraphOrder.l2)
    all_goals repeat' first
    | (with_reducible exact ih0 _ _ _ _ _ _)
    | (with_reducible exact ih1 _ _ _ _)
    | (with_reducible exact ih2 _ _ _ _ _ _)
    | (with_reducible exact arboristlaw08_shown.mono _)
    | (with_reducible exact arboristref01_Compare.mono _ _ _)
    | (with_reducible exact arboristref01_In.mono _ _ _)
    | (with_reducible exact LeO.refl _)
    | (with_reducible exact LeO.none _)
    | (with_reducible refine LeO.ite ?_ ?_)
    | (with_reducible refine LeO.bind ?_ (fun _ => ?_))
    | exact ih0 _ _ _ _ _ _
    | exact ih1 _ _ _ _
    | exact ih2 _ _ _ _ _ _
    | exact arboristlaw08_shown.mono _
    | exact arboristref01_Compare.mono _ _ _
    | exact arboristref01_In.mono _ _ _
    | exact LeO.none _
    | refine LeO.ite ?_ ?_
    | refine LeO.bind ?_ (fun _ => ?_)
theorem arboristlaw08_GraphOrder.mono : ∀ a0 k, LeO (arboristlaw08_GraphOrder.f k a0) (arboristlaw08_GraphOrder.f (k + 1) a0) := by
  intro a0 k
  obtain ⟨ih0, ih1, ih2⟩ := arboristlaw08_GraphOrder.mono_l k
  unfold arboristlaw08_GraphOrder.f
  repeat' first
      | (with_reducible exact ih0 _ _ _ _ _ _)
      | (with_reducible exact ih1 _ _ _ _)
      | (with_reducible exact ih2 _ _ _ _ _ _)
      | (with_reducible exact arboristlaw08_shown.mono _)
      | (with_reducible exact arboristref01_Compare.mono _ _ _)
      | (with_reducible exact arboristref01_In.mono _ _ _)
      | (with_reducible exact LeO.refl _)
      | (with_reducible exact LeO.none _)
      | (with_reducible refine LeO.ite ?_ ?_)
      | (with_reducible refine LeO.bind ?_ (fun _ => ?_))
      | exact ih0 _ _ _ _ _ _
      | exact ih1 _ _ _ _
      | exact ih2 _ _ _ _ _ _
      | exact arboristlaw08_shown.mono _
      | exact arboristref01_Compare.mono _ _ _
      | exact arboristref01_In.mono _ _ _
      | exact LeO.none _
      | refine LeO.ite ?_ ?_
      | refine LeO.bind ?_ (fun _ => ?_)
def arboristlaw08_GraphOrder.T9 : Bool × List (List Nat × List Nat) := (true, [([], []), ([], []), ([], []), ([1, 2], [1, 2]), ([3], [3]), ([4], [4]), ([5], [5]), ([], []), ([], []), ([7, 8], [7, 8]), ([9], [9]), ([10], [10]), ([11], [11]), ([0, 6, 12], [0, 6, 12]), ([13, 13, 0, 1, 2, 3, 4, 5, 6, 7, 8, 9, 10, 11, 12, 13], [13])])
def arboristlaw08_GraphOrder.B9 : List Nat := [0, 0, 0, 6, 14, 30, 62, 0, 0, 384, 896, 1920, 3968, 8191, 16383]
theorem arboristlaw08_GraphOrder.tab9 : rtab .any (opsOf Tryd.f6 9) = arboristlaw08_GraphOrder.T9 := by kernel_rfl
theorem arboristlaw08_GraphOrder.bits9 : waitsOk arboristlaw08_GraphOrder.T9.2 arboristlaw08_GraphOrder.B9 = true := by kernel_rfl
def arboristlaw08_GraphOrder.T11 : Bool × List (List Nat × List Nat) := (true, [([], []), ([], []), ([], []), ([2], [2]), ([], []), ([3, 4], [3, 4]), ([1, 5], [1, 5]), ([6], [6]), ([7], [7]), ([8], [8]), ([], []), ([], []), ([11], [11]), ([], []), ([12, 13], [12, 13]), ([10, 14], [10, 14]), ([15], [15]), ([16], [16]), ([17], [17]), ([0, 9, 18], [0, 9, 18]), ([19, 19, 0, 1, 2, 3, 4, 5, 6, 7, 8, 9, 10, 11, 12, 13, 14, 15, 16, 17, 18, 19], [19])])
def arboristlaw08_GraphOrder.B11 : List Nat := [0, 0, 0, 4, 0, 28, 62, 126, 254, 510, 0, 0, 2048, 0, 14336, 31744, 64512, 130048, 261120, 524287, 1048575]
theorem arboristlaw08_GraphOrder.tab11 : rtab .any (opsOf Tryd.f6 11) = arboristlaw08_GraphOrder.T11 := by kernel_rfl
theorem arboristlaw08_GraphOrder.bits11 : waitsOk arboristlaw08_GraphOrder.T11.2 arboristlaw08_GraphOrder.B11 = true := by kernel_rfl
def arboristlaw08_GraphOrder.T21 : Bool × List (List Nat × List Nat) := (true, [([], []), ([], []), ([], []), ([1, 2], [1, 2]), ([3], [3]), ([0, 4], [0, 4]), ([], []), ([5, 6, 5], [5, 6]), ([7, 7, 0, 1, 2, 3, 4, 5, 6, 7], [7])])
def arboristlaw08_GraphOrder.B21 : List Nat := [0, 0, 0, 6, 14, 31, 0, 127, 255]
theorem arboristlaw08_GraphOrder.tab21 : rtab .any (opsOf Tryd.f6 21) = arboristlaw08_GraphOrder.T21 := by kernel_rfl
theorem arboristlaw08_GraphOrder.bits21 : waitsOk arboristlaw08_GraphOrder.T21.2 arboristlaw08_GraphOrder.B21 = true := by kernel_rfl
def arboristlaw08_GraphOrder.T22 : Bool × List (List Nat × List Nat) := (true, [([], []), ([0], [0]), ([1], [1]), ([2], [2]), ([2], [2]), ([2], [2]), ([2], [2]), ([5, 6, 2], [2, 5, 6]), ([7, 2], [2, 7]), ([3, 4, 8, 2, 2], [2, 3, 4, 8]), ([9, 2], [2, 9]), ([2, 10], [2, 10])])
def arboristlaw08_GraphOrder.B22 : List Nat := [0, 1, 3, 7, 7, 7, 7, 103, 231, 511, 1023, 2047]
theorem arboristlaw08_GraphOrder.tab22 : rtab .any (opsOf Tryd.f6 22) = arboristlaw08_GraphOrder.T22 := by kernel_rfl
theorem arboristlaw08_GraphOrder.bits22 : waitsOk arboristlaw08_GraphOrder.T22.2 arboristlaw08_GraphOrder.B22 = true := by kernel_rfl
set_option maxHeartbeats 8000000 in
set_option maxRecDepth 100000 in
theorem arboristlaw08_GraphOrder.calls (k : Nat) (A0 : Option Addr) (c0 : Nat) (l0 : List (List Int)) (r : Bool) (w : World) (hTb : Tab64 w) (hr0 : Kd.C (Kd.slice 3 (Kd.int .i64)) w A0 l0.length l0) (hc0 : l0.length ≤ c0) (hT : r = true) (h : arboristlaw08_GraphOrder.f k l0 = some r) :
    Calls Tryd.prog 6 #[.slice A0 l0.length c0] w fun e w' => e = .returned (.bool r) ∧ Below w.heap.size w w' := by
  have HTAB := Aside0.mk hTb
  clear hTb
  have HT_ := Aside0.mk (show r = true from hT)
  clear hT
  have hu25 := Tryd.underlying25
  have HR0 := Aside0.mk hr0
  have HC0 := Aside0.mk hc0
  clear hr0 hc0
  have HB := Aside0.mk (Below.refl w.heap.size w)
  have H : ((arboristlaw08_shown.f k).bind fun t395 => ((graph_New.f 12).bind fun t396 => ((graph_New.f 12).bind fun t400 => (arboristlaw08_GraphOrder.l0 k l0 t395 (mn (l0.length : Int) 60) 0 t396 t400)))) = some r := h
  clear h
  replace H := Option.bind_eq_some_iff.mp H
  obtain ⟨t395, A20, H⟩ := H
  replace H : ((graph_New.f 12).bind fun t396 => ((graph_New.f 12).bind fun t400 => (arboristlaw08_GraphOrder.l0 k l0 t395 (mn (l0.length : Int) 60) 0 t396 t400))) = some r := H
  have A2 := Aside0.mk A20
  clear A20
  replace H := Option.bind_eq_some_iff.mp H
  obtain ⟨t396, A30, H⟩ := H
  replace H : ((graph_New.f 12).bind fun t400 => (arboristlaw08_GraphOrder.l0 k l0 t395 (mn (l0.length : Int) 60) 0 t396 t400)) = some r := H
  have A3 := Aside0.mk A30
  clear A30
  replace H := Option.bind_eq_some_iff.mp H
  obtain ⟨t400, A40, H⟩ := H
  replace H : (arboristlaw08_GraphOrder.l0 k l0 t395 (mn (l0.length : Int) 60) 0 t396 t400) = some r := H
  have A4 := Aside0.mk A40
  clear A40
  obtain ⟨ji5, hji5⟩ : ∃ j_ : Int, (mn (l0.length : Int) 60) = j_ := ⟨_, rfl⟩
  replace H : (arboristlaw08_GraphOrder.l0 k l0 t395 ji5 0 t396 t400) = some r := by first | (rw [hji5] at H; exact H) | (simp only [hji5] at H ⊢; exact H)
  (try rw [hji5] at A2)
  (try rw [hji5] at A3)
  (try rw [hji5] at A4)
  (try (have hji5h : ji5 ≤ 60 := by (rw [← hji5]; unfold mn; (repeat' split) <;> omega)))
  (try (have hji5g : ji5 ≤ 64 := by omega))
  (try (have hji5l : 0 ≤ ji5 := by (rw [← hji5]; unfold mn; (repeat' split) <;> omega)))
  (try (have hji5m : 0 ≤ ji5 := by omega))
  have hji5_ : (if 60 < (l0.length : Int) then 60 else (l0.length : Int)) = ji5 := hji5
  have H' := Aside0.mk H
  clear H
  go_enter Tryd.func6, Tryd.ntmps6
  go_wp2_with (first | ((with_reducible refine gate_callee (f := 11) rfl ?_); refine goesL_ (some 12) rfl rfl Tryd.func11 (by kernel_rfl) rfl #[] rfl (by (try simp only [List.map_toArray, List.map_cons, List.map_nil]); first | done | rfl | (simp only [List.length_drop, List.length_take]; rfl)) ?_; (with_reducible refine (arboristlaw08_shown.calls (hTb := (by first | exact HTAB.out | exact tab_drewN HTAB.out _ | exact tab_below HTAB.out (by repeat (first | (with_reducible first | exact HB.out | apply below_alloc | apply pw_below_drewN | apply below_drew1 | refine below_set ?_ GE399.out | refine below_set ?_ GE403.out) | exact HB.out)))) k  t395 _ A2.out).mono ?_); rintro e w6 ⟨rfl, hb⟩; refine ⟨_, rfl, ?_⟩; have n0_ := Aside0.mk (below_step (by repeat (first | (with_reducible first | exact HB.out | apply below_alloc | apply pw_below_drewN | apply below_drew1) | exact HB.out)) hb); clear HB; have HB := n0_; clear n0_; (try clear hb); (try clear hb2); (try clear hk); (try clear hi)) | ((with_reducible refine gate_callee (f := 13) rfl ?_); refine goesL_ (some 13) rfl rfl Tryd.func13 (by kernel_rfl) rfl #[.int .i64 12] rfl (by (try simp only [List.map_toArray, List.map_cons, List.map_nil]); first | done | rfl | (simp only [List.length_drop, List.length_take]; rfl)) ?_; (with_reducible refine (graph_New.calls 12 t396 _ A3.out).mono ?_); rintro e w7 ⟨v397, rfl, ho0, hb⟩; refine ⟨_, rfl, ?_⟩; have n0_ := Aside0.mk (Kd.R_lower ho0 (below_size (by repeat (first | (with_reducible first | exact HB.out | apply below_alloc | apply pw_below_drewN | apply below_drew1) | exact HB.out)))); have n1_ := Aside0.mk (below_step (by repeat (first | (with_reducible first | exact HB.out | apply below_alloc | apply pw_below_drewN | apply below_drew1) | exact HB.out)) hb); clear HB; have HO398 := n0_; have HB := n1_; clear n0_ n1_; (try clear hb); (try clear hb2); (try clear hk); (try clear hi); (try clear ho0)) | ((with_reducible refine gate_dst (N := 4) rfl ?_); refine box_event ?hg (N := 4) ?hd (cs := #[.slice none 0 0]) (t := 25) ?hr ?_; (case hd => rfl); (case hg => rfl); (case hr => first | (go_simp; done) | (go_simp; rfl)); intro gb399 hg w8 hbox hb; have n0_ := Aside0.mk (Kd.R_below (by (with_reducible repeat (first | apply Kd.R_alloc | apply Kd.R_drewN | apply Kd.R_drew)); exact HO398.out) hb); have n1_ := Aside0.mk (below_step (by repeat (first | (with_reducible first | exact HB.out | apply below_alloc | apply pw_below_drewN | apply below_drew1) | exact HB.out)) hb); have n2_ := Aside0.mk (hbox); have n3_ := Aside0.mk ((by rw [hg]; exact (below_size (by repeat (first | (with_reducible first | exact HB.out | apply below_alloc | apply pw_below_drewN | apply below_drew1) | exact HB.out))) : w.heap.size ≤ gb399)); have n4_ := Aside0.mk ((by rw [hg]; exact (below_size (by repeat (first | (with_reducible first | exact HB.out | apply below_alloc | apply pw_below_drewN | apply below_drew1) | exact HB.out))) : w.heap.size ≤ gb399)); clear HO398; clear HB; have HO398 := n0_; have HB := n1_; have BK399 := n2_; have GW399 := n3_; have GE399 := n4_; clear n0_ n1_ n2_ n3_ n4_; clear hb hbox hg; obtain ⟨Ao9, co9, eo9⟩ := Kd.R_slice HO398.out; subst eo9; have hcz10_0 : w8.cell? ⟨gb399, 0, none⟩ = some (.slice none 0 0) := (blk_cell BK399.out 0).trans rfl; have hfz10_0 := blk_frozen BK399.out 0) | ((with_reducible refine gate_callee (f := 13) rfl ?_); refine goesL_ (some 14) rfl rfl Tryd.func13 (by kernel_rfl) rfl #[.int .i64 12] rfl (by (try simp only [List.map_toArray, List.map_cons, List.map_nil]); first | done | rfl | (simp only [List.length_drop, List.length_take]; rfl)) ?_; (with_reducible refine (graph_New.calls 12 t400 _ A4.out).mono ?_); rintro e w11 ⟨v401, rfl, ho0, hb⟩; refine ⟨_, rfl, ?_⟩; have n0_ := Aside0.mk (Kd.R_elder' (by (with_reducible repeat (first | apply Kd.R_alloc | apply Kd.R_drewN | apply Kd.R_drew)); exact (Kd.R_mono (Kd.R_far (p := ⟨gb399, 0, none⟩) (Kd.R_types HO398.out BK399.out (by decide)) (fun _ hk => hk.2) (.slice Ao9 t396.length co9)) (fun _ h_ => h_.1))) (Kd.R_base ho0) hb); have n1_ := Aside0.mk (Kd.R_lower (Kd.R_new' ho0 (Kd.R_lt (by (with_reducible repeat (first | apply Kd.R_alloc | apply Kd.R_drewN | apply Kd.R_drew)); exact (Kd.R_mono (Kd.R_far (p := ⟨gb399, 0, none⟩) (Kd.R_types HO398.out BK399.out (by decide)) (fun _ hk => hk.2) (.slice Ao9 t396.length co9)) (fun _ h_ => h_.1))))) (below_size (by repeat (first | (with_reducible first | exact HB.out | apply below_alloc | apply pw_below_drewN | apply below_drew1 | refine below_set ?_ GE399.out) | exact HB.out)))); have n2_ := Aside0.mk (blk_below (g := gb399) (o := .cells #[.slice Ao9 t396.length co9] 25 (0, 0)) (by (with_reducible repeat (first | refine blk_drewN ?_ _ | refine blk_drew ?_ | refine blk_alloc ?_ _)); refine blk_put (cs := #[.slice none 0 0]) ?_ 0 _ rfl; (with_reducible repeat (first | refine blk_drewN ?_ _ | refine blk_drew ?_ | refine blk_alloc ?_ _)); exact BK399.out) hb); have n3_ := Aside0.mk (below_step (by repeat (first | (with_reducible first | exact HB.out | apply below_alloc | apply pw_below_drewN | apply below_drew1 | refine below_set ?_ GE399.out) | exact HB.out)) hb); clear HO398; clear BK399; clear HB; have HO398 := n0_; have HO402 := n1_; have BK399 := n2_; have HB := n3_; clear n0_ n1_ n2_ n3_; (try clear hb); (try clear hb2); (try clear hk); (try clear hi); (try clear ho0)) | ((with_reducible refine gate_dst (N := 5) rfl ?_); refine box_event ?hg (N := 5) ?hd (cs := #[.slice none 0 0]) (t := 25) ?hr ?_; (case hd => rfl); (case hg => rfl); (case hr => first | (go_simp; done) | (go_simp; rfl)); intro gb403 hg w12 hbox hb; have n0_ := Aside0.mk (Kd.R_below (by (with_reducible repeat (first | apply Kd.R_alloc | apply Kd.R_drewN | apply Kd.R_drew)); exact HO398.out) hb); have n1_ := Aside0.mk (Kd.R_below (by (with_reducible repeat (first | apply Kd.R_alloc | apply Kd.R_drewN | apply Kd.R_drew)); exact HO402.out) hb); have n2_ := Aside0.mk (blk_below (g := gb399) (o := .cells #[.slice Ao9 t396.length co9] 25 (0, 0)) (by (with_reducible repeat (first | refine blk_drewN ?_ _ | refine blk_drew ?_ | refine blk_alloc ?_ _)); exact BK399.out) hb); have n3_ := Aside0.mk (below_step (by repeat (first | (with_reducible first | exact HB.out | apply below_alloc | apply pw_below_drewN | apply below_drew1 | refine below_set ?_ GE399.out) | exact HB.out)) hb); have n4_ := Aside0.mk (hbox); have n5_ := Aside0.mk ((by rw [hg]; exact (below_size (by repeat (first | (with_reducible first | exact HB.out | apply below_alloc | apply pw_below_drewN | apply below_drew1 | refine below_set ?_ GE399.out) | exact HB.out))) : w.heap.size ≤ gb403)); have n6_ := Aside0.mk ((by rw [hg]; exact (below_size (by repeat (first | (with_reducible first | exact HB.out | apply below_alloc | apply pw_below_drewN | apply below_drew1 | refine below_set ?_ GE399.out) | exact HB.out))) : w.heap.size ≤ gb403)); have n7_ := Aside0.mk ((by rw [hg]; exact Nat.ne_of_lt (blk_lt (g := gb399) (o := .cells #[.slice Ao9 t396.length co9] 25 (0, 0)) (by (with_reducible repeat (first | refine blk_drewN ?_ _ | refine blk_drew ?_ | refine blk_alloc ?_ _)); exact BK399.out)) : gb399 ≠ gb403)); have n8_ := Aside0.mk ((by rw [hg]; exact Nat.ne_of_gt (blk_lt (g := gb399) (o := .cells #[.slice Ao9 t396.length co9] 25 (0, 0)) (by (with_reducible repeat (first | refine blk_drewN ?_ _ | refine blk_drew ?_ | refine blk_alloc ?_ _)); exact BK399.out)) : gb403 ≠ gb399)); clear HO398; clear HO402; clear BK399; clear HB; have HO398 := n0_; have HO402 := n1_; have BK399 := n2_; have HB := n3_; have BK403 := n4_; have GW403 := n5_; have GE403 := n6_; have NB399_403 := n7_; have NB403_399 := n8_; clear n0_ n1_ n2_ n3_ n4_ n5_ n6_ n7_ n8_; clear hb hbox hg; obtain ⟨Ao13, co13, eo13⟩ := Kd.R_slice HO402.out; subst eo13; have hnb14 := NB403_399.out; have hnc14 := NB399_403.out; have hcz15_0 : w12.cell? ⟨gb403, 0, none⟩ = some (.slice none 0 0) := (blk_cell BK403.out 0).trans rfl; have hfz15_0 := blk_frozen BK403.out 0))
  go_loopg [7] k (fun kq v7 w' => ∃ (x7_1 : Int) (x400000_1 : List Int) (x404000_1 : List Int) (u400000 : Value) (u404000 : Value), v7 = .int .i64 x7_1 ∧ Aside0 (arboristlaw08_GraphOrder.l0 kq l0 t395 ji5 x7_1 x400000_1 x404000_1 = some r) ∧ Aside0 (kq ≤ k) ∧ Aside0 (Kd.R (Kd.int .u64) 30 w' w.heap.size (fun k_ => some k_ ≠ (u404000 : Value).ownBlock) u400000 x400000_1) ∧ Aside0 (Kd.R (Kd.int .u64) 30 w' w.heap.size (fun k_ => some k_ ≠ (u400000 : Value).ownBlock) u404000 x404000_1) ∧ Aside0 (w'.heap[gb399]? = some (.cells #[u400000] 25 (0, 0))) ∧ Aside0 (w'.heap[gb403]? = some (.cells #[u404000] 25 (0, 0))) ∧ Aside0 (Below w.heap.size w w'))
  case atStart => exact ⟨(0), (t396), (t400), (.slice Ao9 t396.length co9), (.slice Ao13 t400.length co13), (by first | rfl | (simp; done) | (simp [*]; done)), H', ⟨Nat.le_refl _⟩, ⟨by (with_reducible repeat (first | apply Kd.R_alloc | apply Kd.R_drewN | apply Kd.R_drew)); exact Kd.R_mono (Kd.R_far (p := ⟨gb403, 0, none⟩) (Kd.R_types HO398.out BK403.out (by decide)) (fun _ hk => hk.2) (.slice Ao13 t400.length co13)) (fun _ hk => hk.1.2)⟩, ⟨by (with_reducible repeat (first | apply Kd.R_alloc | apply Kd.R_drewN | apply Kd.R_drew)); exact Kd.R_mono (Kd.R_far (p := ⟨gb403, 0, none⟩) (Kd.R_types HO402.out BK403.out (by decide)) (fun _ hk => hk.2) (.slice Ao13 t400.length co13)) (fun _ hk => hk.1.2)⟩, ⟨by (with_reducible repeat (first | refine blk_drewN ?_ _ | refine blk_drew ?_ | refine blk_alloc ?_ _)); refine blk_far ?_ NB399_403.out _; (with_reducible repeat (first | refine blk_drewN ?_ _ | refine blk_drew ?_ | refine blk_alloc ?_ _)); exact BK399.out⟩, ⟨by (with_reducible repeat (first | refine blk_drewN ?_ _ | refine blk_drew ?_ | refine blk_alloc ?_ _)); refine blk_put (cs := #[.slice none 0 0]) ?_ 0 _ rfl; (with_reducible repeat (first | refine blk_drewN ?_ _ | refine blk_drew ?_ | refine blk_alloc ?_ _)); exact BK403.out⟩, ⟨by repeat (first | (with_reducible first | exact HB.out | apply below_alloc | apply pw_below_drewN | apply below_drew1 | refine below_set ?_ GE399.out | refine below_set ?_ GE403.out) | exact HB.out)⟩⟩
  case round =>
    clear H'
    try clear c1
    try clear p2
    try clear c6
    try clear c11
    try clear c13
    try clear c14
    try clear hcz10_0
    try clear hcz15_0
    try clear hfz10_0
    try clear hfz15_0
    obtain ⟨x7_1, x400000_1, x404000_1, u400000, u404000, rfl, HA, HK1, HO_400000, HO_404000, BK399, BK403, HB⟩ := hrel
    cases gk with
    | zero => exact absurd HA.out (by simp [arboristlaw08_GraphOrder.l0])
    | succ k1 =>
      have H := HA.out
      clear HA
      simp only [arboristlaw08_GraphOrder.l0] at H
      by_cases c16 : x7_1 < ji5
      · rw [if_pos c16] at H
        have c16b0 : decide (x7_1 < ji5) = true := decide_eq_true c16
        clear c16
        by_cases c17 : 0 ≤ x7_1
        · rw [if_pos c17] at H
          have c17b0 : decide (0 ≤ x7_1) = true := decide_eq_true c17
          clear c17
          by_cases c18 : x7_1 < (l0.length : Int)
          · rw [if_pos c18] at H
            have c18b0 : decide (x7_1 < (l0.length : Int)) = true := decide_eq_true c18
            clear c18
            by_cases c19 : ((rd_L2 l0 x7_1).length : Int) > 1
            · rw [if_pos c19] at H
              have c19b0 : decide (1 < ((rd_L2 l0 x7_1).length : Int)) = true := decide_eq_true c19
              have c19b1 : decide (1 < (rd_L2 l0 x7_1).length) = true := decide_eq_true (by omega)
              clear c19
              by_cases c20 : 0 < ((rd_L2 l0 x7_1).length : Int)
              · rw [if_pos c20] at H
                have c20b0 : decide (0 < ((rd_L2 l0 x7_1).length : Int)) = true := decide_eq_true c20
                have c20b1 : decide (0 < (rd_L2 l0 x7_1).length) = true := decide_eq_true (by omega)
                clear c20
                by_cases c21 : 1 < ((rd_L2 l0 x7_1).length : Int)
                · rw [if_pos c21] at H
                  have c21b0 : decide (1 < ((rd_L2 l0 x7_1).length : Int)) = true := decide_eq_true c21
                  have c21b1 : decide (1 < (rd_L2 l0 x7_1).length) = true := decide_eq_true (by omega)
                  clear c21
                  replace H := Option.bind_eq_some_iff.mp H
                  obtain ⟨t409, A220, H⟩ := H
                  replace H : (if 0 ≤ (wrap64 ((wrap64 (ji5 - 1)) - x7_1)) then (if (wrap64 ((wrap64 (ji5 - 1)) - x7_1)) < (l0.length : Int) then (if ((rd_L2 l0 (wrap64 ((wrap64 (ji5 - 1)) - x7_1))).length : Int) > 1 then (if 1 < ((rd_L2 l0 (wrap64 ((wrap64 (ji5 - 1)) - x7_1))).length : Int) then (if 0 < ((rd_L2 l0 (wrap64 ((wrap64 (ji5 - 1)) - x7_1))).length : Int) then ((graph_Join.f x404000_1 (rd (rd_L2 l0 (wrap64 ((wrap64 (ji5 - 1)) - x7_1))) 1) (rd (rd_L2 l0 (wrap64 ((wrap64 (ji5 - 1)) - x7_1))) 0)).bind fun t417 => (arboristlaw08_GraphOrder.l0 k1 l0 t395 ji5 (wrap64 (x7_1 + 1)) t409 t417)) else (none)) else (none)) else (arboristlaw08_GraphOrder.l0 k1 l0 t395 ji5 (wrap64 (x7_1 + 1)) t409 x404000_1)) else (none)) else (none)) = some r := H
                  have A22 := Aside0.mk A220
                  clear A220
                  obtain ⟨ji23, hji23⟩ : ∃ j_ : Int, (wrap64 ((wrap64 (ji5 - 1)) - x7_1)) = j_ := ⟨_, rfl⟩
                  (try (have hji23z := hji23; rw [show wrap64 (ji5 - 1) = (ji5 - 1) from (by unfold wrap64; omega)] at hji23z))
                  replace H : (if 0 ≤ (ji23) then (if (ji23) < (l0.length : Int) then (if ((rd_L2 l0 (ji23)).length : Int) > 1 then (if 1 < ((rd_L2 l0 (ji23)).length : Int) then (if 0 < ((rd_L2 l0 (ji23)).length : Int) then ((graph_Join.f x404000_1 (rd (rd_L2 l0 (ji23)) 1) (rd (rd_L2 l0 (ji23)) 0)).bind fun t417 => (arboristlaw08_GraphOrder.l0 k1 l0 t395 ji5 (wrap64 (x7_1 + 1)) t409 t417)) else (none)) else (none)) else (arboristlaw08_GraphOrder.l0 k1 l0 t395 ji5 (wrap64 (x7_1 + 1)) t409 x404000_1)) else (none)) else (none)) = some r := by first | (rw [hji23] at H; exact H) | (simp only [hji23] at H ⊢; exact H)
                  (try rw [hji23] at A22)
                  have hji23w : (IntKind.i64.wrap ((wrap64 (ji5 - 1)) - x7_1)) = ji23 := (i64_w _).trans hji23
                  by_cases c24 : 0 ≤ (ji23)
                  · rw [if_pos c24] at H
                    have c24b0 : decide (0 ≤ (ji23)) = true := decide_eq_true c24
                    clear c24
                    by_cases c25 : (ji23) < (l0.length : Int)
                    · rw [if_pos c25] at H
                      have c25b0 : decide ((ji23) < (l0.length : Int)) = true := decide_eq_true c25
                      clear c25
                      by_cases c26 : ((rd_L2 l0 (ji23)).length : Int) > 1
                      · rw [if_pos c26] at H
                        have c26b0 : decide (1 < ((rd_L2 l0 (ji23)).length : Int)) = true := decide_eq_true c26
                        have c26b1 : decide (1 < (rd_L2 l0 (ji23)).length) = true := decide_eq_true (by omega)
                        clear c26
                        by_cases c27 : 1 < ((rd_L2 l0 (ji23)).length : Int)
                        · rw [if_pos c27] at H
                          have c27b0 : decide (1 < ((rd_L2 l0 (ji23)).length : Int)) = true := decide_eq_true c27
                          have c27b1 : decide (1 < (rd_L2 l0 (ji23)).length) = true := decide_eq_true (by omega)
                          clear c27
                          by_cases c28 : 0 < ((rd_L2 l0 (ji23)).length : Int)
                          · rw [if_pos c28] at H
                            have c28b0 : decide (0 < ((rd_L2 l0 (ji23)).length : Int)) = true := decide_eq_true c28
                            have c28b1 : decide (0 < (rd_L2 l0 (ji23)).length) = true := decide_eq_true (by omega)
                            clear c28
                            replace H := Option.bind_eq_some_iff.mp H
                            obtain ⟨t417, A290, H⟩ := H
                            replace H : (arboristlaw08_GraphOrder.l0 k1 l0 t395 ji5 (wrap64 (x7_1 + 1)) t409 t417) = some r := H
                            have A29 := Aside0.mk A290
                            clear A290
                            have H' := Aside0.mk H
                            clear H
                            have p404 : 0 ≤ (x7_1 : Int) := of_decide_eq_true (by first | (with_reducible assumption) | assumption)
                            have q404 : x7_1 < (l0.length : Int) := of_decide_eq_true (by first | (with_reducible assumption) | assumption)
                            obtain ⟨ad404, A404_0, c404_0, e404, hx404_0, hl404_0, hi404_0⟩ := at_L2 HR0.out x7_1 p404 q404
                            cases e404
                            replace hx404_0 := (HB.out.cell (World.block_lt_of_cell? w _ hx404_0)).trans hx404_0
                            have HR404_0 := Aside0.mk hi404_0
                            have HC404_0 := Aside0.mk hl404_0
                            clear hi404_0 hl404_0
                            replace p404 := eq_true p404
                            replace q404 := eq_true q404
                            try go_wp2
                            have n0_ := Aside0.mk (Kd.R_drew HO_400000.out)
                            have n1_ := Aside0.mk (Kd.R_drew HO_404000.out)
                            have n2_ := Aside0.mk (blk_drew BK399.out)
                            have n3_ := Aside0.mk (blk_drew BK403.out)
                            have n4_ := Aside0.mk (below_drew1 HB.out)
                            clear HO_400000
                            clear HO_404000
                            clear BK399
                            clear BK403
                            clear HB
                            have HO_400000 := n0_
                            have HO_404000 := n1_
                            have BK399 := n2_
                            have BK403 := n3_
                            have HB := n4_
                            clear n0_ n1_ n2_ n3_ n4_
                            have p405 : 0 ≤ (x7_1 : Int) := of_decide_eq_true (by first | (with_reducible assumption) | assumption)
                            have q405 : x7_1 < (l0.length : Int) := of_decide_eq_true (by first | (with_reducible assumption) | assumption)
                            obtain ⟨ad405, A405_0, c405_0, e405, hx405_0, hl405_0, hi405_0⟩ := at_L2 HR0.out x7_1 p405 q405
                            have hw405_0 := hx405_0
                            obtain rfl : ad404 = ad405 := (by injection e405)
                            replace hx405_0 := (HB.out.cell (World.block_lt_of_cell? w _ hx405_0)).trans hx405_0
                            have HR405_0 := Aside0.mk hi405_0
                            have HC405_0 := Aside0.mk hl405_0
                            clear hi405_0 hl405_0
                            replace p405 := eq_true p405
                            replace q405 := eq_true q405
                            have p406 : 0 ≤ (0 : Int) := (by omega)
                            have q406 : 0 < ((rd_L2 l0 x7_1).length : Int) := of_decide_eq_true (by first | (with_reducible assumption) | assumption)
                            obtain ⟨ad406, e406, hx406_0⟩ := Kd.at_int HR405_0.out 0 p406 q406
                            have hw406_0 := hx406_0
                            (try rw [show ((0 : Int)).toNat = 0 from rfl] at hw406_0)
                            (try rw [show 0 * 1 = 0 from rfl] at hw406_0)
                            (try rw [Addr.add_zero'] at hw406_0)
                            cases e406
                            have qi406 : (0 < (rd_L2 l0 x7_1).length) = True := eq_true (by omega)
                            (try rw [show ((0 : Int)).toNat = 0 from rfl] at hx406_0)
                            (try rw [Addr.add_zero'] at hx406_0)
                            replace hx406_0 := (HB.out.cell (World.block_lt_of_cell? w _ hx406_0)).trans hx406_0
                            replace p406 := eq_true p406
                            replace q406 := eq_true q406
                            have p407 : 0 ≤ (x7_1 : Int) := of_decide_eq_true (by first | (with_reducible assumption) | assumption)
                            have q407 : x7_1 < (l0.length : Int) := of_decide_eq_true (by first | (with_reducible assumption) | assumption)
                            obtain ⟨ad407, A407_0, c407_0, e407, hx407_0, hl407_0, hi407_0⟩ := at_L2 HR0.out x7_1 p407 q407
                            have hw407_0 := hx407_0
                            obtain rfl : ad404 = ad407 := (by injection e407)
                            replace hx407_0 := (HB.out.cell (World.block_lt_of_cell? w _ hx407_0)).trans hx407_0
                            have HR407_0 := Aside0.mk hi407_0
                            have HC407_0 := Aside0.mk hl407_0
                            clear hi407_0 hl407_0
                            replace p407 := eq_true p407
                            replace q407 := eq_true q407
                            have ea_ := Option.some.inj (hx405_0.symm.trans hx407_0)
                            injection ea_ with ea_ en_ ec_
                            subst ea_
                            subst ec_
                            clear en_
                            have p408 : 0 ≤ (1 : Int) := (by omega)
                            have q408 : 1 < ((rd_L2 l0 x7_1).length : Int) := of_decide_eq_true (by first | (with_reducible assumption) | assumption)
                            obtain ⟨ad408, e408, hx408_0⟩ := Kd.at_int HR407_0.out 1 p408 q408
                            have hw408_0 := hx408_0
                            (try rw [show ((1 : Int)).toNat = 1 from rfl] at hw408_0)
                            (try rw [show 1 * 1 = 1 from rfl] at hw408_0)
                            (try simp only [Nat.reduceMul, Nat.reduceEqDiff, Go.Addr.add, ↓reduceIte] at hw408_0)
                            cases e408
                            (try simp only [show (1 : Int).toNat = 1 from rfl, Nat.reduceMul, Nat.reduceEqDiff, Go.Addr.add, ↓reduceIte] at hx408_0)
                            have qi408 : (1 < (rd_L2 l0 x7_1).length) = True := eq_true (by omega)
                            (try rw [show ((1 : Int)).toNat = 1 from rfl] at hx408_0)
                            replace hx408_0 := (HB.out.cell (World.block_lt_of_cell? w _ hx408_0)).trans hx408_0
                            replace p408 := eq_true p408
                            replace q408 := eq_true q408
                            obtain ⟨Ao31, co31, eo31⟩ := Kd.R_slice HO_400000.out
                            (first | subst eo31 | (injection eo31 with f1_ f2_ f3_; have f4_ := f1_.symm; have f5_ := f3_.symm; clear f1_ f2_ f3_; subst f4_; subst f5_))
                            refine start_ (n := 15) (S := fun w' => w'.cell? ⟨gb399, 0, none⟩ = some (.slice Ao31 x400000_1.length co31) ∧ w'.cell? (ad404.add (x7_1).toNat) = some (.slice (some ad406) (rd_L2 l0 x7_1).length c405_0) ∧ w'.cell? ad406 = some (.int .i64 (rd (rd_L2 l0 x7_1) 0)) ∧ w'.cell? (ad404.add (x7_1).toNat) = some (.slice (some ad406) (rd_L2 l0 x7_1).length c405_0) ∧ w'.cell? ⟨ad406.block, ad406.off + 1, none⟩ = some (.int .i64 (rd (rd_L2 l0 x7_1) 1))) (ds := [14]) (bs 15 0) (by kernel_rfl) rfl rfl ⟨(blk_cell BK399.out 0).trans rfl, ((HB.out.cell (World.block_lt_of_cell? w _ hw405_0)).trans hw405_0), ((HB.out.cell (World.block_lt_of_cell? w _ hw406_0)).trans hw406_0), ((HB.out.cell (World.block_lt_of_cell? w _ hw407_0)).trans hw407_0), ((HB.out.cell (World.block_lt_of_cell? w _ hw408_0)).trans hw408_0)⟩ (fun hHeld => ?_); refine with_tabW arboristlaw08_GraphOrder.tab9 arboristlaw08_GraphOrder.bits9 (fun HT_ HW_ => ?_)
                            generalize wr.drew = w30 at HO_400000 HO_404000 BK399 BK403 HB HR405_0 HR407_0 hx405_0 hx406_0 hx407_0 hx408_0 hHeld ⊢
                            refine pure_ (i := 1) (N := some 30) (v := ?_) (a' := ?_) (bs 15 2) rfl rfl (any_of HT_.out (by kernel_rfl)) (fun _ _ _ h => h) (Or.inl ⟨by rfl, ?_⟩) ?_ ?_
                            rotate_left; (intro w'; go_simp; with_reducible rfl); rotate_left; (simp only [Act.put, List.setIfInBounds_toArray, List.set_cons_zero, List.set_cons_succ, i64_w, i32_w]; rfl)
                            refine pure_ (i := 2) (N := some 31) (v := ?_) (a' := ?_) (bs 15 6) rfl rfl (any_of HT_.out (by kernel_rfl)) (fun _ _ _ h => h) (Or.inl ⟨by rfl, ?_⟩) ?_ ?_
                            rotate_left; (intro w'; go_simp; with_reducible rfl); rotate_left; (simp only [Act.put, List.setIfInBounds_toArray, List.set_cons_zero, List.set_cons_succ, i64_w, i32_w]; rfl)
                            refine pure_ (i := 3) (N := some 32) (v := ?_) (a' := ?_) (bs 15 14) rfl rfl (any_of HT_.out (by kernel_rfl)) (fun _ _ _ h => h) (Or.inl ⟨by rfl, ?_⟩) ?_ ?_
                            rotate_left; (intro w'; go_simp; with_reducible rfl); rotate_left; (simp only [Act.put, List.setIfInBounds_toArray, List.set_cons_zero, List.set_cons_succ, i64_w, i32_w]; rfl)
                            refine pure_ (i := 7) (N := some 36) (v := ?_) (a' := ?_) (bs 15 142) rfl rfl (any_of HT_.out (by kernel_rfl)) (fun _ _ _ h => h) (Or.inl ⟨by rfl, ?_⟩) ?_ ?_
                            rotate_left; (intro w'; go_simp; with_reducible rfl); rotate_left; (simp only [Act.put, List.setIfInBounds_toArray, List.set_cons_zero, List.set_cons_succ, i64_w, i32_w]; rfl)
                            refine pure_ (i := 8) (N := some 37) (v := ?_) (a' := ?_) (bs 15 398) rfl rfl (any_of HT_.out (by kernel_rfl)) (fun _ _ _ h => h) (Or.inl ⟨by rfl, ?_⟩) ?_ ?_
                            rotate_left; (intro w'; go_simp; with_reducible rfl); rotate_left; (simp only [Act.put, List.setIfInBounds_toArray, List.set_cons_zero, List.set_cons_succ, i64_w, i32_w]; rfl)
                            refine pure_ (i := 9) (N := some 38) (v := ?_) (a' := ?_) (bs 15 910) rfl rfl (any_of HT_.out (by kernel_rfl)) (fun _ _ _ h => h) (Or.inl ⟨by rfl, ?_⟩) ?_ ?_
                            rotate_left; (intro w'; go_simp; with_reducible rfl); rotate_left; (simp only [Act.put, List.setIfInBounds_toArray, List.set_cons_zero, List.set_cons_succ, i64_w, i32_w]; rfl)
                            refine take_ (i := 0) (N := some 29) (v := ?_) (a' := ?_) (bs 15 911) rfl rfl (take_ofW HT_.out HW_.out (by kernel_rfl)) (fun _ _ _ h => h) (Or.inl ⟨by rfl, ?_⟩) hHeld ?_ ?_
                            rotate_left
                            · rintro w' ⟨s0, s1, s2, s3, s4⟩
                              go_simp
                              with_reducible rfl
                            rotate_left; (simp only [Act.put, List.setIfInBounds_toArray, List.set_cons_zero, List.set_cons_succ, i64_w, i32_w]; rfl)
                            refine take_ (i := 4) (N := some 33) (v := ?_) (a' := ?_) (bs 15 927) rfl rfl (take_ofW HT_.out HW_.out (by kernel_rfl)) (fun _ _ _ h => h) (Or.inl ⟨by rfl, ?_⟩) hHeld ?_ ?_
                            rotate_left
                            · rintro w' ⟨s0, s1, s2, s3, s4⟩
                              go_simp
                              with_reducible rfl
                            rotate_left; (simp only [Act.put, List.setIfInBounds_toArray, List.set_cons_zero, List.set_cons_succ, i64_w, i32_w]; rfl)
                            refine pure_ (i := 5) (N := some 34) (v := ?_) (a' := ?_) (bs 15 959) rfl rfl (any_of HT_.out (by kernel_rfl)) (fun _ _ _ h => h) (Or.inl ⟨by rfl, ?_⟩) ?_ ?_
                            rotate_left; (intro w'; go_simp; with_reducible rfl); rotate_left; (simp only [Act.put, List.setIfInBounds_toArray, List.set_cons_zero, List.set_cons_succ, i64_w, i32_w]; rfl)
                            refine take_ (i := 6) (N := some 35) (v := ?_) (a' := ?_) (bs 15 1023) rfl rfl (take_ofW HT_.out HW_.out (by kernel_rfl)) (fun _ _ _ h => h) (Or.inl ⟨by rfl, ?_⟩) hHeld ?_ ?_
                            rotate_left
                            · rintro w' ⟨s0, s1, s2, s3, s4⟩
                              go_simp
                              with_reducible rfl
                            rotate_left; (simp only [Act.put, List.setIfInBounds_toArray, List.set_cons_zero, List.set_cons_succ, i64_w, i32_w]; rfl)
                            refine take_ (i := 10) (N := some 39) (v := ?_) (a' := ?_) (bs 15 2047) rfl rfl (take_ofW HT_.out HW_.out (by kernel_rfl)) (fun _ _ _ h => h) (Or.inl ⟨by rfl, ?_⟩) hHeld ?_ ?_
                            rotate_left
                            · rintro w' ⟨s0, s1, s2, s3, s4⟩
                              go_simp
                              with_reducible rfl
                            rotate_left; (simp only [Act.put, List.setIfInBounds_toArray, List.set_cons_zero, List.set_cons_succ, i64_w, i32_w]; rfl)
                            refine pure_ (i := 11) (N := some 40) (v := ?_) (a' := ?_) (bs 15 4095) rfl rfl (any_of HT_.out (by kernel_rfl)) (fun _ _ _ h => h) (Or.inl ⟨by rfl, ?_⟩) ?_ ?_
                            rotate_left; (intro w'; go_simp; with_reducible rfl); rotate_left; (simp only [Act.put, List.setIfInBounds_toArray, List.set_cons_zero, List.set_cons_succ, i64_w, i32_w]; rfl)
                            refine take_ (i := 12) (N := some 41) (v := ?_) (a' := ?_) (bs 15 8191) rfl rfl (take_ofW HT_.out HW_.out (by kernel_rfl)) (fun _ _ _ h => h) (Or.inl ⟨by rfl, ?_⟩) hHeld ?_ ?_
                            rotate_left
                            · rintro w' ⟨s0, s1, s2, s3, s4⟩
                              go_simp
                              with_reducible rfl
                            rotate_left; (simp only [Act.put, List.setIfInBounds_toArray, List.set_cons_zero, List.set_cons_succ, i64_w, i32_w]; rfl)
                            refine one_ (i := 13) (N := some 42) (bs 15 16383) rfl rfl (one_of HT_.out (by kernel_rfl)) (by decide) (fun K hK => ?_)
                            refine goes_ Tryd.func17 (by kernel_rfl) rfl #[.agg #[.slice Ao31 x400000_1.length co31], .int .i64 (rd (rd_L2 l0 x7_1) 0), .int .i64 (rd (rd_L2 l0 x7_1) 1)] (by rfl) rfl rfl (by (try simp only [List.map_toArray, List.map_cons, List.map_nil]); first | done | rfl | (simp only [List.length_drop, List.length_take]; rfl)) ?_
                            with_reducible refine (graph_Join.calls _ _ x400000_1 (rd (rd_L2 l0 x7_1) 0) (rd (rd_L2 l0 x7_1) 1) t409 _ ?side1 ?side2 A22.out).mono ?_
                            (case side1 => repeat (first | exact (Kd.R_reads' HO_400000.out).2.2 | (with_reducible refine Kd.C_alloc ?_ _) | (with_reducible refine Kd.C_drewN ?_ _) | (with_reducible refine Kd.C_drew ?_)))
                            (case side2 => exact (Kd.R_reads' HO_400000.out).2.1)
                            rintro e w32 ⟨v410, rfl, ho0, hb⟩
                            refine ⟨_, rfl, ?_⟩
                            have n0_ := Aside0.mk (Kd.R_elder' (by (with_reducible repeat (first | apply Kd.R_alloc | apply Kd.R_drewN | apply Kd.R_drew)); exact HO_400000.out) (Kd.R_base ho0) hb)
                            have n1_ := Aside0.mk (Kd.R_elder' (by (with_reducible repeat (first | apply Kd.R_alloc | apply Kd.R_drewN | apply Kd.R_drew)); exact HO_404000.out) (Kd.R_base ho0) hb)
                            have n2_ := Aside0.mk (Kd.R_lower (Kd.R_new' (Kd.R_new' ho0 (Kd.R_lt (by (with_reducible repeat (first | apply Kd.R_alloc | apply Kd.R_drewN | apply Kd.R_drew)); exact HO_400000.out))) (Kd.R_lt (by (with_reducible repeat (first | apply Kd.R_alloc | apply Kd.R_drewN | apply Kd.R_drew)); exact HO_404000.out))) (below_size (by repeat (first | (with_reducible first | exact HB.out | apply below_alloc | apply pw_below_drewN | apply below_drew1 | refine below_set ?_ GE399.out | refine below_set ?_ GE403.out) | exact HB.out))))
                            have n3_ := Aside0.mk (blk_below (g := gb399) (o := .cells #[.slice Ao31 x400000_1.length co31] 25 (0, 0)) (by (with_reducible repeat (first | refine blk_drewN ?_ _ | refine blk_drew ?_ | refine blk_alloc ?_ _)); exact BK399.out) hb)
                            have n4_ := Aside0.mk (blk_below (g := gb403) (o := .cells #[u404000] 25 (0, 0)) (by (with_reducible repeat (first | refine blk_drewN ?_ _ | refine blk_drew ?_ | refine blk_alloc ?_ _)); exact BK403.out) hb)
                            have n5_ := Aside0.mk (below_step (by repeat (first | (with_reducible first | exact HB.out | apply below_alloc | apply pw_below_drewN | apply below_drew1 | refine below_set ?_ GE399.out | refine below_set ?_ GE403.out) | exact HB.out)) hb)
                            clear HO_400000
                            clear HO_404000
                            clear BK399
                            clear BK403
                            clear HB
                            have HO_400000 := n0_
                            have HO_404000 := n1_
                            have HO411 := n2_
                            have BK399 := n3_
                            have BK403 := n4_
                            have HB := n5_
                            clear n0_ n1_ n2_ n3_ n4_ n5_
                            (try clear hb)
                            (try clear hb2)
                            (try clear hk)
                            (try clear hi)
                            (try clear ho0)
                            obtain ⟨Ao33, co33, eo33⟩ := Kd.R_slice HO411.out
                            (first | subst eo33 | (injection eo33 with f1_ f2_ f3_; have f4_ := f1_.symm; have f5_ := f3_.symm; clear f1_ f2_ f3_; subst f4_; subst f5_))
                            refine hK.out _ _ ⟨(blk_cell BK399.out 0).trans rfl, ((HB.out.cell (World.block_lt_of_cell? w _ hw405_0)).trans hw405_0), ((HB.out.cell (World.block_lt_of_cell? w _ hw406_0)).trans hw406_0), ((HB.out.cell (World.block_lt_of_cell? w _ hw407_0)).trans hw407_0), ((HB.out.cell (World.block_lt_of_cell? w _ hw408_0)).trans hw408_0)⟩ (fun hHeld => ?_)
                            clear hK K
                            refine norm_ (a' := ?_) ?_ ?_
                            rotate_left
                            · show Act.put _ (some 42) _ = _
                              simp only [Act.put, List.setIfInBounds_toArray, List.set_cons_zero, List.set_cons_succ, i64_w, i32_w]
                              rfl
                            refine last_ (i := 14) (N := none) (bs 15 32767) rfl rfl (one_of HT_.out (by kernel_rfl)) (by decide) (fun K hK => ?_)
                            have hs34 : w32.cell? ⟨gb399, 0, none⟩ = some (.slice Ao31 x400000_1.length co31) := (blk_cell BK399.out 0).trans rfl
                            have hfs34 := blk_frozen BK399.out 0
                            have hns34_1 := NB403_399.out
                            have hms34_1 := NB399_403.out
                            refine skip_ (w1 := ?_) (by rfl) rfl ?_ ?_
                            rotate_left
                            · go_simp
                              rfl
                            refine hK.out _ _ ?_
                            clear hK K
                            refine done_ (done_of HT_.out (by kernel_rfl)) ?_
                            have p412 : 0 ≤ ((ji23) : Int) := of_decide_eq_true (by first | (with_reducible assumption) | assumption)
                            have q412 : (ji23) < (l0.length : Int) := of_decide_eq_true (by first | (with_reducible assumption) | assumption)
                            obtain ⟨ad412, A412_0, c412_0, e412, hx412_0, hl412_0, hi412_0⟩ := at_L2 HR0.out (ji23) p412 q412
                            obtain rfl : ad404 = ad412 := (by injection e412)
                            have hn412_0 : ad404.block ≠ gb399 := Nat.ne_of_lt (Nat.lt_of_lt_of_le (by have := World.block_lt_of_cell? _ _ hx412_0; first | rwa [add_block] at this | exact this) GW399.out)
                            replace hx412_0 := (HB.out.cell (World.block_lt_of_cell? w _ hx412_0)).trans hx412_0
                            have HR412_0 := Aside0.mk hi412_0
                            have HC412_0 := Aside0.mk hl412_0
                            clear hi412_0 hl412_0
                            replace hx412_0 := (cell_far (p := ⟨gb399, 0, none⟩) (by first | (rw [add_block]; exact hn412_0) | (show (Addr.add _ _).block ≠ _; rw [add_block]; exact hn412_0) | exact hn412_0) (.slice Ao33 t409.length co33)).trans hx412_0
                            clear hn412_0
                            replace p412 := eq_true p412
                            replace q412 := eq_true q412
                            try go_wp2
                            have n0_ : Aside0 (Kd.R (Kd.int .u64) 30 (w32.setCell ⟨gb399, 0, none⟩ (.slice Ao33 t409.length co33)) w.heap.size (fun k_ => some k_ ≠ (u404000 : Value).ownBlock ∧ some k_ ≠ (.slice Ao33 t409.length co33 : Value).ownBlock) (.slice Ao31 x400000_1.length co31) x400000_1) := ⟨by (with_reducible repeat (first | apply Kd.R_alloc | apply Kd.R_drewN | apply Kd.R_drew)); exact Kd.R_mono (Kd.R_far (p := ⟨gb399, 0, none⟩) (Kd.R_types HO_400000.out BK399.out (by decide)) (fun _ hk => hk.2) (.slice Ao33 t409.length co33)) (fun _ hk => ⟨hk.1.1, hk.1.2⟩)⟩
                            have n1_ : Aside0 (Kd.R (Kd.int .u64) 30 (w32.setCell ⟨gb399, 0, none⟩ (.slice Ao33 t409.length co33)) w.heap.size (fun k_ => some k_ ≠ (.slice Ao31 x400000_1.length co31 : Value).ownBlock ∧ some k_ ≠ (.slice Ao33 t409.length co33 : Value).ownBlock) u404000 x404000_1) := ⟨by (with_reducible repeat (first | apply Kd.R_alloc | apply Kd.R_drewN | apply Kd.R_drew)); exact Kd.R_mono (Kd.R_far (p := ⟨gb399, 0, none⟩) (Kd.R_types HO_404000.out BK399.out (by decide)) (fun _ hk => hk.2) (.slice Ao33 t409.length co33)) (fun _ hk => ⟨hk.1.1, hk.1.2⟩)⟩
                            have n2_ : Aside0 (Kd.R (Kd.int .u64) 30 (w32.setCell ⟨gb399, 0, none⟩ (.slice Ao33 t409.length co33)) w.heap.size (fun k_ => some k_ ≠ (.slice Ao31 x400000_1.length co31 : Value).ownBlock ∧ some k_ ≠ (u404000 : Value).ownBlock) (.slice Ao33 t409.length co33) t409) := ⟨by (with_reducible repeat (first | apply Kd.R_alloc | apply Kd.R_drewN | apply Kd.R_drew)); exact Kd.R_mono (Kd.R_far (p := ⟨gb399, 0, none⟩) (Kd.R_types HO411.out BK399.out (by decide)) (fun _ hk => hk.2) (.slice Ao33 t409.length co33)) (fun _ hk => ⟨hk.1.1.2, hk.1.2⟩)⟩
                            have n3_ : Aside0 ((w32.setCell ⟨gb399, 0, none⟩ (.slice Ao33 t409.length co33)).heap[gb399]? = some (.cells #[.slice Ao33 t409.length co33] 25 (0, 0))) := ⟨by (with_reducible repeat (first | refine blk_drewN ?_ _ | refine blk_drew ?_ | refine blk_alloc ?_ _)); refine blk_put (cs := #[.slice Ao31 x400000_1.length co31]) ?_ 0 _ rfl; (with_reducible repeat (first | refine blk_drewN ?_ _ | refine blk_drew ?_ | refine blk_alloc ?_ _)); exact BK399.out⟩
                            have n4_ : Aside0 ((w32.setCell ⟨gb399, 0, none⟩ (.slice Ao33 t409.length co33)).heap[gb403]? = some (.cells #[u404000] 25 (0, 0))) := ⟨by (with_reducible repeat (first | refine blk_drewN ?_ _ | refine blk_drew ?_ | refine blk_alloc ?_ _)); refine blk_far ?_ NB403_399.out _; (with_reducible repeat (first | refine blk_drewN ?_ _ | refine blk_drew ?_ | refine blk_alloc ?_ _)); exact BK403.out⟩
                            have n5_ : Aside0 (Below w.heap.size w (w32.setCell ⟨gb399, 0, none⟩ (.slice Ao33 t409.length co33))) := ⟨by repeat (first | (with_reducible first | exact HB.out | apply below_alloc | apply pw_below_drewN | apply below_drew1 | refine below_set ?_ GE399.out | refine below_set ?_ GE403.out) | exact HB.out)⟩
                            (try clear HO_400000)
                            (try clear HO_404000)
                            (try clear HO411)
                            (try clear BK399)
                            (try clear BK403)
                            (try clear HB)
                            generalize (w32.setCell ⟨gb399, 0, none⟩ (.slice Ao33 t409.length co33)) = w35 at n0_ n1_ n2_ n3_ n4_ n5_ ⊢
                            have HO_400000 := n0_
                            have HO_404000 := n1_
                            have HO411 := n2_
                            have BK399 := n3_
                            have BK403 := n4_
                            have HB := n5_
                            clear n0_ n1_ n2_ n3_ n4_ n5_
                            have n0_ := Aside0.mk (Kd.R_drew HO_400000.out)
                            have n1_ := Aside0.mk (Kd.R_drew HO_404000.out)
                            have n2_ := Aside0.mk (Kd.R_drew HO411.out)
                            have n3_ := Aside0.mk (blk_drew BK399.out)
                            have n4_ := Aside0.mk (blk_drew BK403.out)
                            have n5_ := Aside0.mk (below_drew1 HB.out)
                            clear HO_400000
                            clear HO_404000
                            clear HO411
                            clear BK399
                            clear BK403
                            clear HB
                            have HO_400000 := n0_
                            have HO_404000 := n1_
                            have HO411 := n2_
                            have BK399 := n3_
                            have BK403 := n4_
                            have HB := n5_
                            clear n0_ n1_ n2_ n3_ n4_ n5_
                            have p413 : 0 ≤ ((ji23) : Int) := of_decide_eq_true (by first | (with_reducible assumption) | assumption)
                            have q413 : (ji23) < (l0.length : Int) := of_decide_eq_true (by first | (with_reducible assumption) | assumption)
                            obtain ⟨ad413, A413_0, c413_0, e413, hx413_0, hl413_0, hi413_0⟩ := at_L2 HR0.out (ji23) p413 q413
                            have hw413_0 := hx413_0
                            obtain rfl : ad404 = ad413 := (by injection e413)
                            replace hx413_0 := (HB.out.cell (World.block_lt_of_cell? w _ hx413_0)).trans hx413_0
                            have HR413_0 := Aside0.mk hi413_0
                            have HC413_0 := Aside0.mk hl413_0
                            clear hi413_0 hl413_0
                            replace p413 := eq_true p413
                            replace q413 := eq_true q413
                            have p414 : 0 ≤ (1 : Int) := (by omega)
                            have q414 : 1 < ((rd_L2 l0 (ji23)).length : Int) := of_decide_eq_true (by first | (with_reducible assumption) | assumption)
                            obtain ⟨ad414, e414, hx414_0⟩ := Kd.at_int HR413_0.out 1 p414 q414
                            have hw414_0 := hx414_0
                            (try rw [show ((1 : Int)).toNat = 1 from rfl] at hw414_0)
                            (try rw [show 1 * 1 = 1 from rfl] at hw414_0)
                            (try simp only [Nat.reduceMul, Nat.reduceEqDiff, Go.Addr.add, ↓reduceIte] at hw414_0)
                            cases e414
                            (try simp only [show (1 : Int).toNat = 1 from rfl, Nat.reduceMul, Nat.reduceEqDiff, Go.Addr.add, ↓reduceIte] at hx414_0)
                            have qi414 : (1 < (rd_L2 l0 (ji23)).length) = True := eq_true (by omega)
                            (try rw [show ((1 : Int)).toNat = 1 from rfl] at hx414_0)
                            replace hx414_0 := (HB.out.cell (World.block_lt_of_cell? w _ hx414_0)).trans hx414_0
                            replace p414 := eq_true p414
                            replace q414 := eq_true q414
                            have p415 : 0 ≤ ((ji23) : Int) := of_decide_eq_true (by first | (with_reducible assumption) | assumption)
                            have q415 : (ji23) < (l0.length : Int) := of_decide_eq_true (by first | (with_reducible assumption) | assumption)
                            obtain ⟨ad415, A415_0, c415_0, e415, hx415_0, hl415_0, hi415_0⟩ := at_L2 HR0.out (ji23) p415 q415
                            have hw415_0 := hx415_0
                            obtain rfl : ad404 = ad415 := (by injection e415)
                            replace hx415_0 := (HB.out.cell (World.block_lt_of_cell? w _ hx415_0)).trans hx415_0
                            have HR415_0 := Aside0.mk hi415_0
                            have HC415_0 := Aside0.mk hl415_0
                            clear hi415_0 hl415_0
                            replace p415 := eq_true p415
                            replace q415 := eq_true q415
                            have ea_ := Option.some.inj (hx413_0.symm.trans hx415_0)
                            injection ea_ with ea_ en_ ec_
                            subst ea_
                            subst ec_
                            clear en_
                            have p416 : 0 ≤ (0 : Int) := (by omega)
                            have q416 : 0 < ((rd_L2 l0 (ji23)).length : Int) := of_decide_eq_true (by first | (with_reducible assumption) | assumption)
                            obtain ⟨ad416, e416, hx416_0⟩ := Kd.at_int HR415_0.out 0 p416 q416
                            have hw416_0 := hx416_0
                            (try rw [show ((0 : Int)).toNat = 0 from rfl] at hw416_0)
                            (try rw [show 0 * 1 = 0 from rfl] at hw416_0)
                            (try rw [Addr.add_zero'] at hw416_0)
                            cases e416
                            have qi416 : (0 < (rd_L2 l0 (ji23)).length) = True := eq_true (by omega)
                            (try rw [show ((0 : Int)).toNat = 0 from rfl] at hx416_0)
                            (try rw [Addr.add_zero'] at hx416_0)
                            replace hx416_0 := (HB.out.cell (World.block_lt_of_cell? w _ hx416_0)).trans hx416_0
                            replace p416 := eq_true p416
                            replace q416 := eq_true q416
                            obtain ⟨Ao37, co37, eo37⟩ := Kd.R_slice HO_404000.out
                            (first | subst eo37 | (injection eo37 with f1_ f2_ f3_; have f4_ := f1_.symm; have f5_ := f3_.symm; clear f1_ f2_ f3_; subst f4_; subst f5_))
                            refine start_ (n := 21) (S := fun w' => w'.cell? ⟨gb403, 0, none⟩ = some (.slice Ao37 x404000_1.length co37) ∧ w'.cell? (ad404.add ((ji23)).toNat) = some (.slice (some ad414) (rd_L2 l0 (ji23)).length c413_0) ∧ w'.cell? ⟨ad414.block, ad414.off + 1, none⟩ = some (.int .i64 (rd (rd_L2 l0 (ji23)) 1)) ∧ w'.cell? (ad404.add ((ji23)).toNat) = some (.slice (some ad414) (rd_L2 l0 (ji23)).length c413_0) ∧ w'.cell? ad414 = some (.int .i64 (rd (rd_L2 l0 (ji23)) 0))) (ds := [20]) (bs 21 0) (by kernel_rfl) rfl rfl ⟨(blk_cell BK403.out 0).trans rfl, ((HB.out.cell (World.block_lt_of_cell? w _ hw413_0)).trans hw413_0), ((HB.out.cell (World.block_lt_of_cell? w _ hw414_0)).trans hw414_0), ((HB.out.cell (World.block_lt_of_cell? w _ hw415_0)).trans hw415_0), ((HB.out.cell (World.block_lt_of_cell? w _ hw416_0)).trans hw416_0)⟩ (fun hHeld => ?_); refine with_tabW arboristlaw08_GraphOrder.tab11 arboristlaw08_GraphOrder.bits11 (fun HT_ HW_ => ?_)
                            generalize w35.drew = w36 at HO_400000 HO_404000 HO411 BK399 BK403 HB HR413_0 HR415_0 hx413_0 hx414_0 hx415_0 hx416_0 hHeld ⊢
                            refine pure_ (i := 1) (N := some 53) (v := ?_) (a' := ?_) (bs 21 2) rfl rfl (any_of HT_.out (by kernel_rfl)) (fun _ _ _ h => h) (Or.inl ⟨by rfl, ?_⟩) ?_ ?_
                            rotate_left; (intro w'; go_simp; with_reducible rfl); rotate_left; (simp only [Act.put, List.setIfInBounds_toArray, List.set_cons_zero, List.set_cons_succ, i64_w, i32_w]; rfl)
                            refine pure_ (i := 2) (N := some 54) (v := ?_) (a' := ?_) (bs 21 6) rfl rfl (any_of HT_.out (by kernel_rfl)) (fun _ _ _ h => h) (Or.inl ⟨by rfl, ?_⟩) ?_ ?_
                            rotate_left; (intro w'; go_simp; with_reducible rfl); rotate_left; (simp only [Act.put, List.setIfInBounds_toArray, List.set_cons_zero, List.set_cons_succ, i64_w, i32_w]; rfl)
                            refine pure_ (i := 3) (N := some 55) (v := ?_) (a' := ?_) (bs 21 14) rfl rfl (any_of HT_.out (by kernel_rfl)) (fun _ _ _ h => h) (Or.inl ⟨by rfl, ?_⟩) ?_ ?_
                            rotate_left; (intro w'; go_simp; with_reducible rfl); rotate_left; (simp only [Act.put, List.setIfInBounds_toArray, List.set_cons_zero, List.set_cons_succ, i64_w, i32_w]; rfl)
                            refine pure_ (i := 4) (N := some 56) (v := ?_) (a' := ?_) (bs 21 30) rfl rfl (any_of HT_.out (by kernel_rfl)) (fun _ _ _ h => h) (Or.inl ⟨by rfl, ?_⟩) ?_ ?_
                            rotate_left; (intro w'; go_simp; with_reducible rfl); rotate_left; (simp only [Act.put, List.setIfInBounds_toArray, List.set_cons_zero, List.set_cons_succ, i64_w, i32_w]; rfl)
                            refine pure_ (i := 5) (N := some 57) (v := ?_) (a' := ?_) (bs 21 62) rfl rfl (any_of HT_.out (by kernel_rfl)) (fun _ _ _ h => h) (Or.inl ⟨by rfl, ?_⟩) ?_ ?_
                            rotate_left; (intro w'; go_simp; with_reducible rfl); rotate_left; (simp only [Act.put, List.setIfInBounds_toArray, List.set_cons_zero, List.set_cons_succ, i64_w, i32_w]; rfl)
                            refine pure_ (i := 6) (N := some 58) (v := ?_) (a' := ?_) (bs 21 126) rfl rfl (any_of HT_.out (by kernel_rfl)) (fun _ _ _ h => h) (Or.inl ⟨by rfl, ?_⟩) ?_ ?_
                            rotate_left; (intro w'; go_simp; with_reducible rfl); rotate_left; (simp only [Act.put, List.setIfInBounds_toArray, List.set_cons_zero, List.set_cons_succ, i64_w, i32_w]; rfl)
                            refine pure_ (i := 10) (N := some 62) (v := ?_) (a' := ?_) (bs 21 1150) rfl rfl (any_of HT_.out (by kernel_rfl)) (fun _ _ _ h => h) (Or.inl ⟨by rfl, ?_⟩) ?_ ?_
                            rotate_left; (intro w'; go_simp; with_reducible rfl); rotate_left; (simp only [Act.put, List.setIfInBounds_toArray, List.set_cons_zero, List.set_cons_succ, i64_w, i32_w]; rfl)
                            refine pure_ (i := 11) (N := some 63) (v := ?_) (a' := ?_) (bs 21 3198) rfl rfl (any_of HT_.out (by kernel_rfl)) (fun _ _ _ h => h) (Or.inl ⟨by rfl, ?_⟩) ?_ ?_
                            rotate_left; (intro w'; go_simp; with_reducible rfl); rotate_left; (simp only [Act.put, List.setIfInBounds_toArray, List.set_cons_zero, List.set_cons_succ, i64_w, i32_w]; rfl)
                            refine pure_ (i := 12) (N := some 64) (v := ?_) (a' := ?_) (bs 21 7294) rfl rfl (any_of HT_.out (by kernel_rfl)) (fun _ _ _ h => h) (Or.inl ⟨by rfl, ?_⟩) ?_ ?_
                            rotate_left; (intro w'; go_simp; with_reducible rfl); rotate_left; (simp only [Act.put, List.setIfInBounds_toArray, List.set_cons_zero, List.set_cons_succ, i64_w, i32_w]; rfl)
                            refine pure_ (i := 13) (N := some 65) (v := ?_) (a' := ?_) (bs 21 15486) rfl rfl (any_of HT_.out (by kernel_rfl)) (fun _ _ _ h => h) (Or.inl ⟨by rfl, ?_⟩) ?_ ?_
                            rotate_left; (intro w'; go_simp; with_reducible rfl); rotate_left; (simp only [Act.put, List.setIfInBounds_toArray, List.set_cons_zero, List.set_cons_succ, i64_w, i32_w]; rfl)
                            refine pure_ (i := 14) (N := some 66) (v := ?_) (a' := ?_) (bs 21 31870) rfl rfl (any_of HT_.out (by kernel_rfl)) (fun _ _ _ h => h) (Or.inl ⟨by rfl, ?_⟩) ?_ ?_
                            rotate_left; (intro w'; go_simp; with_reducible rfl); rotate_left; (simp only [Act.put, List.setIfInBounds_toArray, List.set_cons_zero, List.set_cons_succ, i64_w, i32_w]; rfl)
                            refine pure_ (i := 15) (N := some 67) (v := ?_) (a' := ?_) (bs 21 64638) rfl rfl (any_of HT_.out (by kernel_rfl)) (fun _ _ _ h => h) (Or.inl ⟨by rfl, ?_⟩) ?_ ?_
                            rotate_left; (intro w'; go_simp; with_reducible rfl); rotate_left; (simp only [Act.put, List.setIfInBounds_toArray, List.set_cons_zero, List.set_cons_succ, i64_w, i32_w]; rfl)
                            refine take_ (i := 0) (N := some 52) (v := ?_) (a' := ?_) (bs 21 64639) rfl rfl (take_ofW HT_.out HW_.out (by kernel_rfl)) (fun _ _ _ h => h) (Or.inl ⟨by rfl, ?_⟩) hHeld ?_ ?_
                            rotate_left
                            · rintro w' ⟨s0, s1, s2, s3, s4⟩
                              go_simp
                              with_reducible rfl
                            rotate_left; (simp only [Act.put, List.setIfInBounds_toArray, List.set_cons_zero, List.set_cons_succ, i64_w, i32_w]; rfl)
                            refine take_ (i := 7) (N := some 59) (v := ?_) (a' := ?_) (bs 21 64767) rfl rfl (take_ofW HT_.out HW_.out (by kernel_rfl)) (fun _ _ _ h => h) (Or.inl ⟨by rfl, ?_⟩) hHeld ?_ ?_
                            rotate_left
                            · rintro w' ⟨s0, s1, s2, s3, s4⟩
                              go_simp
                              with_reducible rfl
                            rotate_left; (simp only [Act.put, List.setIfInBounds_toArray, List.set_cons_zero, List.set_cons_succ, i64_w, i32_w]; rfl)
                            refine pure_ (i := 8) (N := some 60) (v := ?_) (a' := ?_) (bs 21 65023) rfl rfl (any_of HT_.out (by kernel_rfl)) (fun _ _ _ h => h) (Or.inl ⟨by rfl, ?_⟩) ?_ ?_
                            rotate_left; (intro w'; go_simp; with_reducible rfl); rotate_left; (simp only [Act.put, List.setIfInBounds_toArray, List.set_cons_zero, List.set_cons_succ, i64_w, i32_w]; rfl)
                            refine take_ (i := 9) (N := some 61) (v := ?_) (a' := ?_) (bs 21 65535) rfl rfl (take_ofW HT_.out HW_.out (by kernel_rfl)) (fun _ _ _ h => h) (Or.inl ⟨by rfl, ?_⟩) hHeld ?_ ?_
                            rotate_left
                            · rintro w' ⟨s0, s1, s2, s3, s4⟩
                              go_simp
                              with_reducible rfl
                            rotate_left; (simp only [Act.put, List.setIfInBounds_toArray, List.set_cons_zero, List.set_cons_succ, i64_w, i32_w]; rfl)
                            refine take_ (i := 16) (N := some 68) (v := ?_) (a' := ?_) (bs 21 131071) rfl rfl (take_ofW HT_.out HW_.out (by kernel_rfl)) (fun _ _ _ h => h) (Or.inl ⟨by rfl, ?_⟩) hHeld ?_ ?_
                            rotate_left
                            · rintro w' ⟨s0, s1, s2, s3, s4⟩
                              go_simp
                              with_reducible rfl
                            rotate_left; (simp only [Act.put, List.setIfInBounds_toArray, List.set_cons_zero, List.set_cons_succ, i64_w, i32_w]; rfl)
                            refine pure_ (i := 17) (N := some 69) (v := ?_) (a' := ?_) (bs 21 262143) rfl rfl (any_of HT_.out (by kernel_rfl)) (fun _ _ _ h => h) (Or.inl ⟨by rfl, ?_⟩) ?_ ?_
                            rotate_left; (intro w'; go_simp; with_reducible rfl); rotate_left; (simp only [Act.put, List.setIfInBounds_toArray, List.set_cons_zero, List.set_cons_succ, i64_w, i32_w]; rfl)
                            refine take_ (i := 18) (N := some 70) (v := ?_) (a' := ?_) (bs 21 524287) rfl rfl (take_ofW HT_.out HW_.out (by kernel_rfl)) (fun _ _ _ h => h) (Or.inl ⟨by rfl, ?_⟩) hHeld ?_ ?_
                            rotate_left
                            · rintro w' ⟨s0, s1, s2, s3, s4⟩
                              go_simp
                              with_reducible rfl
                            rotate_left; (simp only [Act.put, List.setIfInBounds_toArray, List.set_cons_zero, List.set_cons_succ, i64_w, i32_w]; rfl)
                            refine one_ (i := 19) (N := some 71) (bs 21 1048575) rfl rfl (one_of HT_.out (by kernel_rfl)) (by decide) (fun K hK => ?_)
                            refine goes_ Tryd.func17 (by kernel_rfl) rfl #[.agg #[.slice Ao37 x404000_1.length co37], .int .i64 (rd (rd_L2 l0 (ji23)) 1), .int .i64 (rd (rd_L2 l0 (ji23)) 0)] (by rfl) rfl rfl (by (try simp only [List.map_toArray, List.map_cons, List.map_nil]); first | done | (simp only [hji23]; rfl) | rfl | (simp only [List.length_drop, List.length_take]; rfl)) ?_
                            with_reducible refine (graph_Join.calls _ _ x404000_1 (rd (rd_L2 l0 (ji23)) 1) (rd (rd_L2 l0 (ji23)) 0) t417 _ ?side1 ?side2 A29.out).mono ?_
                            (case side1 => repeat (first | exact (Kd.R_reads' HO_404000.out).2.2 | (with_reducible refine Kd.C_alloc ?_ _) | (with_reducible refine Kd.C_drewN ?_ _) | (with_reducible refine Kd.C_drew ?_)))
                            (case side2 => exact (Kd.R_reads' HO_404000.out).2.1)
                            rintro e w38 ⟨v418, rfl, ho0, hb⟩
                            refine ⟨_, rfl, ?_⟩
                            have n0_ := Aside0.mk (Kd.R_elder' (by (with_reducible repeat (first | apply Kd.R_alloc | apply Kd.R_drewN | apply Kd.R_drew)); exact HO_400000.out) (Kd.R_base ho0) hb)
                            have n1_ := Aside0.mk (Kd.R_elder' (by (with_reducible repeat (first | apply Kd.R_alloc | apply Kd.R_drewN | apply Kd.R_drew)); exact HO_404000.out) (Kd.R_base ho0) hb)
                            have n2_ := Aside0.mk (Kd.R_elder' (by (with_reducible repeat (first | apply Kd.R_alloc | apply Kd.R_drewN | apply Kd.R_drew)); exact HO411.out) (Kd.R_base ho0) hb)
                            have n3_ := Aside0.mk (Kd.R_lower (Kd.R_new' (Kd.R_new' (Kd.R_new' ho0 (Kd.R_lt (by (with_reducible repeat (first | apply Kd.R_alloc | apply Kd.R_drewN | apply Kd.R_drew)); exact HO_400000.out))) (Kd.R_lt (by (with_reducible repeat (first | apply Kd.R_alloc | apply Kd.R_drewN | apply Kd.R_drew)); exact HO_404000.out))) (Kd.R_lt (by (with_reducible repeat (first | apply Kd.R_alloc | apply Kd.R_drewN | apply Kd.R_drew)); exact HO411.out))) (below_size (by repeat (first | (with_reducible first | exact HB.out | apply below_alloc | apply pw_below_drewN | apply below_drew1 | refine below_set ?_ GE399.out | refine below_set ?_ GE403.out) | exact HB.out))))
                            have n4_ := Aside0.mk (blk_below (g := gb399) (o := .cells #[.slice Ao33 t409.length co33] 25 (0, 0)) (by (with_reducible repeat (first | refine blk_drewN ?_ _ | refine blk_drew ?_ | refine blk_alloc ?_ _)); exact BK399.out) hb)
                            have n5_ := Aside0.mk (blk_below (g := gb403) (o := .cells #[.slice Ao37 x404000_1.length co37] 25 (0, 0)) (by (with_reducible repeat (first | refine blk_drewN ?_ _ | refine blk_drew ?_ | refine blk_alloc ?_ _)); exact BK403.out) hb)
                            have n6_ := Aside0.mk (below_step (by repeat (first | (with_reducible first | exact HB.out | apply below_alloc | apply pw_below_drewN | apply below_drew1 | refine below_set ?_ GE399.out | refine below_set ?_ GE403.out) | exact HB.out)) hb)
                            clear HO_400000
                            clear HO_404000
                            clear HO411
                            clear BK399
                            clear BK403
                            clear HB
                            have HO_400000 := n0_
                            have HO_404000 := n1_
                            have HO411 := n2_
                            have HO419 := n3_
                            have BK399 := n4_
                            have BK403 := n5_
                            have HB := n6_
                            clear n0_ n1_ n2_ n3_ n4_ n5_ n6_
                            (try clear hb)
                            (try clear hb2)
                            (try clear hk)
                            (try clear hi)
                            (try clear ho0)
                            obtain ⟨Ao39, co39, eo39⟩ := Kd.R_slice HO419.out
                            (first | subst eo39 | (injection eo39 with f1_ f2_ f3_; have f4_ := f1_.symm; have f5_ := f3_.symm; clear f1_ f2_ f3_; subst f4_; subst f5_))
                            refine hK.out _ _ ⟨(blk_cell BK403.out 0).trans rfl, ((HB.out.cell (World.block_lt_of_cell? w _ hw413_0)).trans hw413_0), ((HB.out.cell (World.block_lt_of_cell? w _ hw414_0)).trans hw414_0), ((HB.out.cell (World.block_lt_of_cell? w _ hw415_0)).trans hw415_0), ((HB.out.cell (World.block_lt_of_cell? w _ hw416_0)).trans hw416_0)⟩ (fun hHeld => ?_)
                            clear hK K
                            refine norm_ (a' := ?_) ?_ ?_
                            rotate_left
                            · show Act.put _ (some 71) _ = _
                              simp only [Act.put, List.setIfInBounds_toArray, List.set_cons_zero, List.set_cons_succ, i64_w, i32_w]
                              rfl
                            refine last_ (i := 20) (N := none) (bs 21 2097151) rfl rfl (one_of HT_.out (by kernel_rfl)) (by decide) (fun K hK => ?_)
                            have hs40 : w38.cell? ⟨gb403, 0, none⟩ = some (.slice Ao37 x404000_1.length co37) := (blk_cell BK403.out 0).trans rfl
                            have hfs40 := blk_frozen BK403.out 0
                            have hns40_0 := NB399_403.out
                            have hms40_0 := NB403_399.out
                            refine skip_ (w1 := ?_) (by rfl) rfl ?_ ?_
                            rotate_left
                            · go_simp
                              rfl
                            refine hK.out _ _ ?_
                            clear hK K
                            refine done_ (done_of HT_.out (by kernel_rfl)) ?_
                            try go_wp2
                            go_roundg k1
                            case measure => have := HK1.out; omega
                            case rel => exact ⟨(wrap64 (x7_1 + 1)), (t409), (t417), (.slice Ao33 t409.length co33), (.slice Ao39 t417.length co39), (by first | rfl | (simp; done) | (simp [*]; done)), H', ⟨by have := HK1.out; omega⟩, ⟨by (with_reducible repeat (first | apply Kd.R_alloc | apply Kd.R_drewN | apply Kd.R_drew)); exact Kd.R_mono (Kd.R_far (p := ⟨gb403, 0, none⟩) (Kd.R_types HO411.out BK403.out (by decide)) (fun _ hk => hk.2) (.slice Ao39 t417.length co39)) (fun _ hk => hk.1.2)⟩, ⟨by (with_reducible repeat (first | apply Kd.R_alloc | apply Kd.R_drewN | apply Kd.R_drew)); exact Kd.R_mono (Kd.R_far (p := ⟨gb403, 0, none⟩) (Kd.R_types HO419.out BK403.out (by decide)) (fun _ hk => hk.2) (.slice Ao39 t417.length co39)) (fun _ hk => hk.1.2)⟩, ⟨by (with_reducible repeat (first | refine blk_drewN ?_ _ | refine blk_drew ?_ | refine blk_alloc ?_ _)); refine blk_far ?_ NB399_403.out _; (with_reducible repeat (first | refine blk_drewN ?_ _ | refine blk_drew ?_ | refine blk_alloc ?_ _)); exact BK399.out⟩, ⟨by (with_reducible repeat (first | refine blk_drewN ?_ _ | refine blk_drew ?_ | refine blk_alloc ?_ _)); refine blk_put (cs := #[.slice Ao37 x404000_1.length co37]) ?_ 0 _ rfl; (with_reducible repeat (first | refine blk_drewN ?_ _ | refine blk_drew ?_ | refine blk_alloc ?_ _)); exact BK403.out⟩, ⟨by repeat (first | (with_reducible first | exact HB.out | apply below_alloc | apply pw_below_drewN | apply below_drew1 | refine below_set ?_ GE399.out | refine below_set ?_ GE403.out) | exact HB.out)⟩⟩
                          · rw [if_neg c28] at H
                            exact absurd H (by simp)
                        · rw [if_neg c27] at H
                          exact absurd H (by simp)
                      · rw [if_neg c26] at H
                        have c26b0 : decide (1 < ((rd_L2 l0 (ji23)).length : Int)) = false := decide_eq_false c26
                        have c26b1 : decide (1 < (rd_L2 l0 (ji23)).length) = false := decide_eq_false (by omega)
                        clear c26
                        have H' := Aside0.mk H
                        clear H
                        have p404 : 0 ≤ (x7_1 : Int) := of_decide_eq_true (by first | (with_reducible assumption) | assumption)
                        have q404 : x7_1 < (l0.length : Int) := of_decide_eq_true (by first | (with_reducible assumption) | assumption)
                        obtain ⟨ad404, A404_0, c404_0, e404, hx404_0, hl404_0, hi404_0⟩ := at_L2 HR0.out x7_1 p404 q404
                        cases e404
                        replace hx404_0 := (HB.out.cell (World.block_lt_of_cell? w _ hx404_0)).trans hx404_0
                        have HR404_0 := Aside0.mk hi404_0
                        have HC404_0 := Aside0.mk hl404_0
                        clear hi404_0 hl404_0
                        replace p404 := eq_true p404
                        replace q404 := eq_true q404
                        try go_wp2
                        have n0_ := Aside0.mk (Kd.R_drew HO_400000.out)
                        have n1_ := Aside0.mk (Kd.R_drew HO_404000.out)
                        have n2_ := Aside0.mk (blk_drew BK399.out)
                        have n3_ := Aside0.mk (blk_drew BK403.out)
                        have n4_ := Aside0.mk (below_drew1 HB.out)
                        clear HO_400000
                        clear HO_404000
                        clear BK399
                        clear BK403
                        clear HB
                        have HO_400000 := n0_
                        have HO_404000 := n1_
                        have BK399 := n2_
                        have BK403 := n3_
                        have HB := n4_
                        clear n0_ n1_ n2_ n3_ n4_
                        have p405 : 0 ≤ (x7_1 : Int) := of_decide_eq_true (by first | (with_reducible assumption) | assumption)
                        have q405 : x7_1 < (l0.length : Int) := of_decide_eq_true (by first | (with_reducible assumption) | assumption)
                        obtain ⟨ad405, A405_0, c405_0, e405, hx405_0, hl405_0, hi405_0⟩ := at_L2 HR0.out x7_1 p405 q405
                        have hw405_0 := hx405_0
                        obtain rfl : ad404 = ad405 := (by injection e405)
                        replace hx405_0 := (HB.out.cell (World.block_lt_of_cell? w _ hx405_0)).trans hx405_0
                        have HR405_0 := Aside0.mk hi405_0
                        have HC405_0 := Aside0.mk hl405_0
                        clear hi405_0 hl405_0
                        replace p405 := eq_true p405
                        replace q405 := eq_true q405
                        have p406 : 0 ≤ (0 : Int) := (by omega)
                        have q406 : 0 < ((rd_L2 l0 x7_1).length : Int) := of_decide_eq_true (by first | (with_reducible assumption) | assumption)
                        obtain ⟨ad406, e406, hx406_0⟩ := Kd.at_int HR405_0.out 0 p406 q406
                        have hw406_0 := hx406_0
                        (try rw [show ((0 : Int)).toNat = 0 from rfl] at hw406_0)
                        (try rw [show 0 * 1 = 0 from rfl] at hw406_0)
                        (try rw [Addr.add_zero'] at hw406_0)
                        cases e406
                        have qi406 : (0 < (rd_L2 l0 x7_1).length) = True := eq_true (by omega)
                        (try rw [show ((0 : Int)).toNat = 0 from rfl] at hx406_0)
                        (try rw [Addr.add_zero'] at hx406_0)
                        replace hx406_0 := (HB.out.cell (World.block_lt_of_cell? w _ hx406_0)).trans hx406_0
                        replace p406 := eq_true p406
                        replace q406 := eq_true q406
                        have p407 : 0 ≤ (x7_1 : Int) := of_decide_eq_true (by first | (with_reducible assumption) | assumption)
                        have q407 : x7_1 < (l0.length : Int) := of_decide_eq_true (by first | (with_reducible assumption) | assumption)
                        obtain ⟨ad407, A407_0, c407_0, e407, hx407_0, hl407_0, hi407_0⟩ := at_L2 HR0.out x7_1 p407 q407
                        have hw407_0 := hx407_0
                        obtain rfl : ad404 = ad407 := (by injection e407)
                        replace hx407_0 := (HB.out.cell (World.block_lt_of_cell? w _ hx407_0)).trans hx407_0
                        have HR407_0 := Aside0.mk hi407_0
                        have HC407_0 := Aside0.mk hl407_0
                        clear hi407_0 hl407_0
                        replace p407 := eq_true p407
                        replace q407 := eq_true q407
                        have ea_ := Option.some.inj (hx405_0.symm.trans hx407_0)
                        injection ea_ with ea_ en_ ec_
                        subst ea_
                        subst ec_
                        clear en_
                        have p408 : 0 ≤ (1 : Int) := (by omega)
                        have q408 : 1 < ((rd_L2 l0 x7_1).length : Int) := of_decide_eq_true (by first | (with_reducible assumption) | assumption)
                        obtain ⟨ad408, e408, hx408_0⟩ := Kd.at_int HR407_0.out 1 p408 q408
                        have hw408_0 := hx408_0
                        (try rw [show ((1 : Int)).toNat = 1 from rfl] at hw408_0)
                        (try rw [show 1 * 1 = 1 from rfl] at hw408_0)
                        (try simp only [Nat.reduceMul, Nat.reduceEqDiff, Go.Addr.add, ↓reduceIte] at hw408_0)
                        cases e408
                        (try simp only [show (1 : Int).toNat = 1 from rfl, Nat.reduceMul, Nat.reduceEqDiff, Go.Addr.add, ↓reduceIte] at hx408_0)
                        have qi408 : (1 < (rd_L2 l0 x7_1).length) = True := eq_true (by omega)
                        (try rw [show ((1 : Int)).toNat = 1 from rfl] at hx408_0)
                        replace hx408_0 := (HB.out.cell (World.block_lt_of_cell? w _ hx408_0)).trans hx408_0
                        replace p408 := eq_true p408
                        replace q408 := eq_true q408
                        obtain ⟨Ao42, co42, eo42⟩ := Kd.R_slice HO_400000.out
                        (first | subst eo42 | (injection eo42 with f1_ f2_ f3_; have f4_ := f1_.symm; have f5_ := f3_.symm; clear f1_ f2_ f3_; subst f4_; subst f5_))
                        refine start_ (n := 15) (S := fun w' => w'.cell? ⟨gb399, 0, none⟩ = some (.slice Ao42 x400000_1.length co42) ∧ w'.cell? (ad404.add (x7_1).toNat) = some (.slice (some ad406) (rd_L2 l0 x7_1).length c405_0) ∧ w'.cell? ad406 = some (.int .i64 (rd (rd_L2 l0 x7_1) 0)) ∧ w'.cell? (ad404.add (x7_1).toNat) = some (.slice (some ad406) (rd_L2 l0 x7_1).length c405_0) ∧ w'.cell? ⟨ad406.block, ad406.off + 1, none⟩ = some (.int .i64 (rd (rd_L2 l0 x7_1) 1))) (ds := [14]) (bs 15 0) (by kernel_rfl) rfl rfl ⟨(blk_cell BK399.out 0).trans rfl, ((HB.out.cell (World.block_lt_of_cell? w _ hw405_0)).trans hw405_0), ((HB.out.cell (World.block_lt_of_cell? w _ hw406_0)).trans hw406_0), ((HB.out.cell (World.block_lt_of_cell? w _ hw407_0)).trans hw407_0), ((HB.out.cell (World.block_lt_of_cell? w _ hw408_0)).trans hw408_0)⟩ (fun hHeld => ?_); refine with_tabW arboristlaw08_GraphOrder.tab9 arboristlaw08_GraphOrder.bits9 (fun HT_ HW_ => ?_)
                        generalize wr.drew = w41 at HO_400000 HO_404000 BK399 BK403 HB HR405_0 HR407_0 hx405_0 hx406_0 hx407_0 hx408_0 hHeld ⊢
                        refine pure_ (i := 1) (N := some 30) (v := ?_) (a' := ?_) (bs 15 2) rfl rfl (any_of HT_.out (by kernel_rfl)) (fun _ _ _ h => h) (Or.inl ⟨by rfl, ?_⟩) ?_ ?_
                        rotate_left; (intro w'; go_simp; with_reducible rfl); rotate_left; (simp only [Act.put, List.setIfInBounds_toArray, List.set_cons_zero, List.set_cons_succ, i64_w, i32_w]; rfl)
                        refine pure_ (i := 2) (N := some 31) (v := ?_) (a' := ?_) (bs 15 6) rfl rfl (any_of HT_.out (by kernel_rfl)) (fun _ _ _ h => h) (Or.inl ⟨by rfl, ?_⟩) ?_ ?_
                        rotate_left; (intro w'; go_simp; with_reducible rfl); rotate_left; (simp only [Act.put, List.setIfInBounds_toArray, List.set_cons_zero, List.set_cons_succ, i64_w, i32_w]; rfl)
                        refine pure_ (i := 3) (N := some 32) (v := ?_) (a' := ?_) (bs 15 14) rfl rfl (any_of HT_.out (by kernel_rfl)) (fun _ _ _ h => h) (Or.inl ⟨by rfl, ?_⟩) ?_ ?_
                        rotate_left; (intro w'; go_simp; with_reducible rfl); rotate_left; (simp only [Act.put, List.setIfInBounds_toArray, List.set_cons_zero, List.set_cons_succ, i64_w, i32_w]; rfl)
                        refine pure_ (i := 7) (N := some 36) (v := ?_) (a' := ?_) (bs 15 142) rfl rfl (any_of HT_.out (by kernel_rfl)) (fun _ _ _ h => h) (Or.inl ⟨by rfl, ?_⟩) ?_ ?_
                        rotate_left; (intro w'; go_simp; with_reducible rfl); rotate_left; (simp only [Act.put, List.setIfInBounds_toArray, List.set_cons_zero, List.set_cons_succ, i64_w, i32_w]; rfl)
                        refine pure_ (i := 8) (N := some 37) (v := ?_) (a' := ?_) (bs 15 398) rfl rfl (any_of HT_.out (by kernel_rfl)) (fun _ _ _ h => h) (Or.inl ⟨by rfl, ?_⟩) ?_ ?_
                        rotate_left; (intro w'; go_simp; with_reducible rfl); rotate_left; (simp only [Act.put, List.setIfInBounds_toArray, List.set_cons_zero, List.set_cons_succ, i64_w, i32_w]; rfl)
                        refine pure_ (i := 9) (N := some 38) (v := ?_) (a' := ?_) (bs 15 910) rfl rfl (any_of HT_.out (by kernel_rfl)) (fun _ _ _ h => h) (Or.inl ⟨by rfl, ?_⟩) ?_ ?_
                        rotate_left; (intro w'; go_simp; with_reducible rfl); rotate_left; (simp only [Act.put, List.setIfInBounds_toArray, List.set_cons_zero, List.set_cons_succ, i64_w, i32_w]; rfl)
                        refine take_ (i := 0) (N := some 29) (v := ?_) (a' := ?_) (bs 15 911) rfl rfl (take_ofW HT_.out HW_.out (by kernel_rfl)) (fun _ _ _ h => h) (Or.inl ⟨by rfl, ?_⟩) hHeld ?_ ?_
                        rotate_left
                        · rintro w' ⟨s0, s1, s2, s3, s4⟩
                          go_simp
                          with_reducible rfl
                        rotate_left; (simp only [Act.put, List.setIfInBounds_toArray, List.set_cons_zero, List.set_cons_succ, i64_w, i32_w]; rfl)
                        refine take_ (i := 4) (N := some 33) (v := ?_) (a' := ?_) (bs 15 927) rfl rfl (take_ofW HT_.out HW_.out (by kernel_rfl)) (fun _ _ _ h => h) (Or.inl ⟨by rfl, ?_⟩) hHeld ?_ ?_
                        rotate_left
                        · rintro w' ⟨s0, s1, s2, s3, s4⟩
                          go_simp
                          with_reducible rfl
                        rotate_left; (simp only [Act.put, List.setIfInBounds_toArray, List.set_cons_zero, List.set_cons_succ, i64_w, i32_w]; rfl)
                        refine pure_ (i := 5) (N := some 34) (v := ?_) (a' := ?_) (bs 15 959) rfl rfl (any_of HT_.out (by kernel_rfl)) (fun _ _ _ h => h) (Or.inl ⟨by rfl, ?_⟩) ?_ ?_
                        rotate_left; (intro w'; go_simp; with_reducible rfl); rotate_left; (simp only [Act.put, List.setIfInBounds_toArray, List.set_cons_zero, List.set_cons_succ, i64_w, i32_w]; rfl)
                        refine take_ (i := 6) (N := some 35) (v := ?_) (a' := ?_) (bs 15 1023) rfl rfl (take_ofW HT_.out HW_.out (by kernel_rfl)) (fun _ _ _ h => h) (Or.inl ⟨by rfl, ?_⟩) hHeld ?_ ?_
                        rotate_left
                        · rintro w' ⟨s0, s1, s2, s3, s4⟩
                          go_simp
                          with_reducible rfl
                        rotate_left; (simp only [Act.put, List.setIfInBounds_toArray, List.set_cons_zero, List.set_cons_succ, i64_w, i32_w]; rfl)
                        refine take_ (i := 10) (N := some 39) (v := ?_) (a' := ?_) (bs 15 2047) rfl rfl (take_ofW HT_.out HW_.out (by kernel_rfl)) (fun _ _ _ h => h) (Or.inl ⟨by rfl, ?_⟩) hHeld ?_ ?_
                        rotate_left
                        · rintro w' ⟨s0, s1, s2, s3, s4⟩
                          go_simp
                          with_reducible rfl
                        rotate_left; (simp only [Act.put, List.setIfInBounds_toArray, List.set_cons_zero, List.set_cons_succ, i64_w, i32_w]; rfl)
                        refine pure_ (i := 11) (N := some 40) (v := ?_) (a' := ?_) (bs 15 4095) rfl rfl (any_of HT_.out (by kernel_rfl)) (fun _ _ _ h => h) (Or.inl ⟨by rfl, ?_⟩) ?_ ?_
                        rotate_left; (intro w'; go_simp; with_reducible rfl); rotate_left; (simp only [Act.put, List.setIfInBounds_toArray, List.set_cons_zero, List.set_cons_succ, i64_w, i32_w]; rfl)
                        refine take_ (i := 12) (N := some 41) (v := ?_) (a' := ?_) (bs 15 8191) rfl rfl (take_ofW HT_.out HW_.out (by kernel_rfl)) (fun _ _ _ h => h) (Or.inl ⟨by rfl, ?_⟩) hHeld ?_ ?_
                        rotate_left
                        · rintro w' ⟨s0, s1, s2, s3, s4⟩
                          go_simp
                          with_reducible rfl
                        rotate_left; (simp only [Act.put, List.setIfInBounds_toArray, List.set_cons_zero, List.set_cons_succ, i64_w, i32_w]; rfl)
                        refine one_ (i := 13) (N := some 42) (bs 15 16383) rfl rfl (one_of HT_.out (by kernel_rfl)) (by decide) (fun K hK => ?_)
                        refine goes_ Tryd.func17 (by kernel_rfl) rfl #[.agg #[.slice Ao42 x400000_1.length co42], .int .i64 (rd (rd_L2 l0 x7_1) 0), .int .i64 (rd (rd_L2 l0 x7_1) 1)] (by rfl) rfl rfl (by (try simp only [List.map_toArray, List.map_cons, List.map_nil]); first | done | rfl | (simp only [List.length_drop, List.length_take]; rfl)) ?_
                        with_reducible refine (graph_Join.calls _ _ x400000_1 (rd (rd_L2 l0 x7_1) 0) (rd (rd_L2 l0 x7_1) 1) t409 _ ?side1 ?side2 A22.out).mono ?_
                        (case side1 => repeat (first | exact (Kd.R_reads' HO_400000.out).2.2 | (with_reducible refine Kd.C_alloc ?_ _) | (with_reducible refine Kd.C_drewN ?_ _) | (with_reducible refine Kd.C_drew ?_)))
                        (case side2 => exact (Kd.R_reads' HO_400000.out).2.1)
                        rintro e w43 ⟨v410, rfl, ho0, hb⟩
                        refine ⟨_, rfl, ?_⟩
                        have n0_ := Aside0.mk (Kd.R_elder' (by (with_reducible repeat (first | apply Kd.R_alloc | apply Kd.R_drewN | apply Kd.R_drew)); exact HO_400000.out) (Kd.R_base ho0) hb)
                        have n1_ := Aside0.mk (Kd.R_elder' (by (with_reducible repeat (first | apply Kd.R_alloc | apply Kd.R_drewN | apply Kd.R_drew)); exact HO_404000.out) (Kd.R_base ho0) hb)
                        have n2_ := Aside0.mk (Kd.R_lower (Kd.R_new' (Kd.R_new' ho0 (Kd.R_lt (by (with_reducible repeat (first | apply Kd.R_alloc | apply Kd.R_drewN | apply Kd.R_drew)); exact HO_400000.out))) (Kd.R_lt (by (with_reducible repeat (first | apply Kd.R_alloc | apply Kd.R_drewN | apply Kd.R_drew)); exact HO_404000.out))) (below_size (by repeat (first | (with_reducible first | exact HB.out | apply below_alloc | apply pw_below_drewN | apply below_drew1 | refine below_set ?_ GE399.out | refine below_set ?_ GE403.out) | exact HB.out))))
                        have n3_ := Aside0.mk (blk_below (g := gb399) (o := .cells #[.slice Ao42 x400000_1.length co42] 25 (0, 0)) (by (with_reducible repeat (first | refine blk_drewN ?_ _ | refine blk_drew ?_ | refine blk_alloc ?_ _)); exact BK399.out) hb)
                        have n4_ := Aside0.mk (blk_below (g := gb403) (o := .cells #[u404000] 25 (0, 0)) (by (with_reducible repeat (first | refine blk_drewN ?_ _ | refine blk_drew ?_ | refine blk_alloc ?_ _)); exact BK403.out) hb)
                        have n5_ := Aside0.mk (below_step (by repeat (first | (with_reducible first | exact HB.out | apply below_alloc | apply pw_below_drewN | apply below_drew1 | refine below_set ?_ GE399.out | refine below_set ?_ GE403.out) | exact HB.out)) hb)
                        clear HO_400000
                        clear HO_404000
                        clear BK399
                        clear BK403
                        clear HB
                        have HO_400000 := n0_
                        have HO_404000 := n1_
                        have HO411 := n2_
                        have BK399 := n3_
                        have BK403 := n4_
                        have HB := n5_
                        clear n0_ n1_ n2_ n3_ n4_ n5_
                        (try clear hb)
                        (try clear hb2)
                        (try clear hk)
                        (try clear hi)
                        (try clear ho0)
                        obtain ⟨Ao44, co44, eo44⟩ := Kd.R_slice HO411.out
                        (first | subst eo44 | (injection eo44 with f1_ f2_ f3_; have f4_ := f1_.symm; have f5_ := f3_.symm; clear f1_ f2_ f3_; subst f4_; subst f5_))
                        refine hK.out _ _ ⟨(blk_cell BK399.out 0).trans rfl, ((HB.out.cell (World.block_lt_of_cell? w _ hw405_0)).trans hw405_0), ((HB.out.cell (World.block_lt_of_cell? w _ hw406_0)).trans hw406_0), ((HB.out.cell (World.block_lt_of_cell? w _ hw407_0)).trans hw407_0), ((HB.out.cell (World.block_lt_of_cell? w _ hw408_0)).trans hw408_0)⟩ (fun hHeld => ?_)
                        clear hK K
                        refine norm_ (a' := ?_) ?_ ?_
                        rotate_left
                        · show Act.put _ (some 42) _ = _
                          simp only [Act.put, List.setIfInBounds_toArray, List.set_cons_zero, List.set_cons_succ, i64_w, i32_w]
                          rfl
                        refine last_ (i := 14) (N := none) (bs 15 32767) rfl rfl (one_of HT_.out (by kernel_rfl)) (by decide) (fun K hK => ?_)
                        have hs45 : w43.cell? ⟨gb399, 0, none⟩ = some (.slice Ao42 x400000_1.length co42) := (blk_cell BK399.out 0).trans rfl
                        have hfs45 := blk_frozen BK399.out 0
                        have hns45_1 := NB403_399.out
                        have hms45_1 := NB399_403.out
                        refine skip_ (w1 := ?_) (by rfl) rfl ?_ ?_
                        rotate_left
                        · go_simp
                          rfl
                        refine hK.out _ _ ?_
                        clear hK K
                        refine done_ (done_of HT_.out (by kernel_rfl)) ?_
                        have p412 : 0 ≤ ((ji23) : Int) := of_decide_eq_true (by first | (with_reducible assumption) | assumption)
                        have q412 : (ji23) < (l0.length : Int) := of_decide_eq_true (by first | (with_reducible assumption) | assumption)
                        obtain ⟨ad412, A412_0, c412_0, e412, hx412_0, hl412_0, hi412_0⟩ := at_L2 HR0.out (ji23) p412 q412
                        obtain rfl : ad404 = ad412 := (by injection e412)
                        have hn412_0 : ad404.block ≠ gb399 := Nat.ne_of_lt (Nat.lt_of_lt_of_le (by have := World.block_lt_of_cell? _ _ hx412_0; first | rwa [add_block] at this | exact this) GW399.out)
                        replace hx412_0 := (HB.out.cell (World.block_lt_of_cell? w _ hx412_0)).trans hx412_0
                        have HR412_0 := Aside0.mk hi412_0
                        have HC412_0 := Aside0.mk hl412_0
                        clear hi412_0 hl412_0
                        replace hx412_0 := (cell_far (p := ⟨gb399, 0, none⟩) (by first | (rw [add_block]; exact hn412_0) | (show (Addr.add _ _).block ≠ _; rw [add_block]; exact hn412_0) | exact hn412_0) (.slice Ao44 t409.length co44)).trans hx412_0
                        clear hn412_0
                        replace p412 := eq_true p412
                        replace q412 := eq_true q412
                        try go_wp2
                        go_roundg k1
                        case measure => have := HK1.out; omega
                        case rel => exact ⟨(wrap64 (x7_1 + 1)), (t409), (x404000_1), (.slice Ao44 t409.length co44), (u404000), (by first | rfl | (simp; done) | (simp [*]; done)), H', ⟨by have := HK1.out; omega⟩, ⟨by (with_reducible repeat (first | apply Kd.R_alloc | apply Kd.R_drewN | apply Kd.R_drew)); exact Kd.R_mono (Kd.R_far (p := ⟨gb399, 0, none⟩) (Kd.R_types HO411.out BK399.out (by decide)) (fun _ hk => hk.2) (.slice Ao44 t409.length co44)) (fun _ hk => hk.1.2)⟩, ⟨by (with_reducible repeat (first | apply Kd.R_alloc | apply Kd.R_drewN | apply Kd.R_drew)); exact Kd.R_mono (Kd.R_far (p := ⟨gb399, 0, none⟩) (Kd.R_types HO_404000.out BK399.out (by decide)) (fun _ hk => hk.2) (.slice Ao44 t409.length co44)) (fun _ hk => hk.1.2)⟩, ⟨by (with_reducible repeat (first | refine blk_drewN ?_ _ | refine blk_drew ?_ | refine blk_alloc ?_ _)); refine blk_put (cs := #[.slice Ao42 x400000_1.length co42]) ?_ 0 _ rfl; (with_reducible repeat (first | refine blk_drewN ?_ _ | refine blk_drew ?_ | refine blk_alloc ?_ _)); exact BK399.out⟩, ⟨by (with_reducible repeat (first | refine blk_drewN ?_ _ | refine blk_drew ?_ | refine blk_alloc ?_ _)); refine blk_far ?_ NB403_399.out _; (with_reducible repeat (first | refine blk_drewN ?_ _ | refine blk_drew ?_ | refine blk_alloc ?_ _)); exact BK403.out⟩, ⟨by repeat (first | (with_reducible first | exact HB.out | apply below_alloc | apply pw_below_drewN | apply below_drew1 | refine below_set ?_ GE399.out | refine below_set ?_ GE403.out) | exact HB.out)⟩⟩
                    · rw [if_neg c25] at H
                      exact absurd H (by simp)
                  · rw [if_neg c24] at H
                    exact absurd H (by simp)
                · rw [if_neg c21] at H
                  exact absurd H (by simp)
              · rw [if_neg c20] at H
                exact absurd H (by simp)
            · rw [if_neg c19] at H
              have c19b0 : decide (1 < ((rd_L2 l0 x7_1).length : Int)) = false := decide_eq_false c19
              have c19b1 : decide (1 < (rd_L2 l0 x7_1).length) = false := decide_eq_false (by omega)
              clear c19
              obtain ⟨ji46, hji46⟩ : ∃ j_ : Int, (wrap64 ((wrap64 (ji5 - 1)) - x7_1)) = j_ := ⟨_, rfl⟩
              (try (have hji46z := hji46; rw [show wrap64 (ji5 - 1) = (ji5 - 1) from (by unfold wrap64; omega)] at hji46z))
              replace H : (if 0 ≤ (ji46) then (if (ji46) < (l0.length : Int) then (if ((rd_L2 l0 (ji46)).length : Int) > 1 then (if 1 < ((rd_L2 l0 (ji46)).length : Int) then (if 0 < ((rd_L2 l0 (ji46)).length : Int) then ((graph_Join.f x404000_1 (rd (rd_L2 l0 (ji46)) 1) (rd (rd_L2 l0 (ji46)) 0)).bind fun t425 => (arboristlaw08_GraphOrder.l0 k1 l0 t395 ji5 (wrap64 (x7_1 + 1)) x400000_1 t425)) else (none)) else (none)) else (arboristlaw08_GraphOrder.l0 k1 l0 t395 ji5 (wrap64 (x7_1 + 1)) x400000_1 x404000_1)) else (none)) else (none)) = some r := by first | (rw [hji46] at H; exact H) | (simp only [hji46] at H ⊢; exact H)
              have hji46w : (IntKind.i64.wrap ((wrap64 (ji5 - 1)) - x7_1)) = ji46 := (i64_w _).trans hji46
              by_cases c47 : 0 ≤ (ji46)
              · rw [if_pos c47] at H
                have c47b0 : decide (0 ≤ (ji46)) = true := decide_eq_true c47
                clear c47
                by_cases c48 : (ji46) < (l0.length : Int)
                · rw [if_pos c48] at H
                  have c48b0 : decide ((ji46) < (l0.length : Int)) = true := decide_eq_true c48
                  clear c48
                  by_cases c49 : ((rd_L2 l0 (ji46)).length : Int) > 1
                  · rw [if_pos c49] at H
                    have c49b0 : decide (1 < ((rd_L2 l0 (ji46)).length : Int)) = true := decide_eq_true c49
                    have c49b1 : decide (1 < (rd_L2 l0 (ji46)).length) = true := decide_eq_true (by omega)
                    clear c49
                    by_cases c50 : 1 < ((rd_L2 l0 (ji46)).length : Int)
                    · rw [if_pos c50] at H
                      have c50b0 : decide (1 < ((rd_L2 l0 (ji46)).length : Int)) = true := decide_eq_true c50
                      have c50b1 : decide (1 < (rd_L2 l0 (ji46)).length) = true := decide_eq_true (by omega)
                      clear c50
                      by_cases c51 : 0 < ((rd_L2 l0 (ji46)).length : Int)
                      · rw [if_pos c51] at H
                        have c51b0 : decide (0 < ((rd_L2 l0 (ji46)).length : Int)) = true := decide_eq_true c51
                        have c51b1 : decide (0 < (rd_L2 l0 (ji46)).length) = true := decide_eq_true (by omega)
                        clear c51
                        replace H := Option.bind_eq_some_iff.mp H
                        obtain ⟨t425, A520, H⟩ := H
                        replace H : (arboristlaw08_GraphOrder.l0 k1 l0 t395 ji5 (wrap64 (x7_1 + 1)) x400000_1 t425) = some r := H
                        have A52 := Aside0.mk A520
                        clear A520
                        have H' := Aside0.mk H
                        clear H
                        have p404 : 0 ≤ (x7_1 : Int) := of_decide_eq_true (by first | (with_reducible assumption) | assumption)
                        have q404 : x7_1 < (l0.length : Int) := of_decide_eq_true (by first | (with_reducible assumption) | assumption)
                        obtain ⟨ad404, A404_0, c404_0, e404, hx404_0, hl404_0, hi404_0⟩ := at_L2 HR0.out x7_1 p404 q404
                        cases e404
                        replace hx404_0 := (HB.out.cell (World.block_lt_of_cell? w _ hx404_0)).trans hx404_0
                        have HR404_0 := Aside0.mk hi404_0
                        have HC404_0 := Aside0.mk hl404_0
                        clear hi404_0 hl404_0
                        replace p404 := eq_true p404
                        replace q404 := eq_true q404
                        have p420 : 0 ≤ ((ji46) : Int) := of_decide_eq_true (by first | (with_reducible assumption) | assumption)
                        have q420 : (ji46) < (l0.length : Int) := of_decide_eq_true (by first | (with_reducible assumption) | assumption)
                        obtain ⟨ad420, A420_0, c420_0, e420, hx420_0, hl420_0, hi420_0⟩ := at_L2 HR0.out (ji46) p420 q420
                        obtain rfl : ad404 = ad420 := (by injection e420)
                        replace hx420_0 := (HB.out.cell (World.block_lt_of_cell? w _ hx420_0)).trans hx420_0
                        have HR420_0 := Aside0.mk hi420_0
                        have HC420_0 := Aside0.mk hl420_0
                        clear hi420_0 hl420_0
                        replace p420 := eq_true p420
                        replace q420 := eq_true q420
                        try go_wp2
                        have n0_ := Aside0.mk (Kd.R_drew HO_400000.out)
                        have n1_ := Aside0.mk (Kd.R_drew HO_404000.out)
                        have n2_ := Aside0.mk (blk_drew BK399.out)
                        have n3_ := Aside0.mk (blk_drew BK403.out)
                        have n4_ := Aside0.mk (below_drew1 HB.out)
                        clear HO_400000
                        clear HO_404000
                        clear BK399
                        clear BK403
                        clear HB
                        have HO_400000 := n0_
                        have HO_404000 := n1_
                        have BK399 := n2_
                        have BK403 := n3_
                        have HB := n4_
                        clear n0_ n1_ n2_ n3_ n4_
                        have p421 : 0 ≤ ((ji46) : Int) := of_decide_eq_true (by first | (with_reducible assumption) | assumption)
                        have q421 : (ji46) < (l0.length : Int) := of_decide_eq_true (by first | (with_reducible assumption) | assumption)
                        obtain ⟨ad421, A421_0, c421_0, e421, hx421_0, hl421_0, hi421_0⟩ := at_L2 HR0.out (ji46) p421 q421
                        have hw421_0 := hx421_0
                        obtain rfl : ad404 = ad421 := (by injection e421)
                        replace hx421_0 := (HB.out.cell (World.block_lt_of_cell? w _ hx421_0)).trans hx421_0
                        have HR421_0 := Aside0.mk hi421_0
                        have HC421_0 := Aside0.mk hl421_0
                        clear hi421_0 hl421_0
                        replace p421 := eq_true p421
                        replace q421 := eq_true q421
                        have p422 : 0 ≤ (1 : Int) := (by omega)
                        have q422 : 1 < ((rd_L2 l0 (ji46)).length : Int) := of_decide_eq_true (by first | (with_reducible assumption) | assumption)
                        obtain ⟨ad422, e422, hx422_0⟩ := Kd.at_int HR421_0.out 1 p422 q422
                        have hw422_0 := hx422_0
                        (try rw [show ((1 : Int)).toNat = 1 from rfl] at hw422_0)
                        (try rw [show 1 * 1 = 1 from rfl] at hw422_0)
                        (try simp only [Nat.reduceMul, Nat.reduceEqDiff, Go.Addr.add, ↓reduceIte] at hw422_0)
                        cases e422
                        (try simp only [show (1 : Int).toNat = 1 from rfl, Nat.reduceMul, Nat.reduceEqDiff, Go.Addr.add, ↓reduceIte] at hx422_0)
                        have qi422 : (1 < (rd_L2 l0 (ji46)).length) = True := eq_true (by omega)
                        (try rw [show ((1 : Int)).toNat = 1 from rfl] at hx422_0)
                        replace hx422_0 := (HB.out.cell (World.block_lt_of_cell? w _ hx422_0)).trans hx422_0
                        replace p422 := eq_true p422
                        replace q422 := eq_true q422
                        have p423 : 0 ≤ ((ji46) : Int) := of_decide_eq_true (by first | (with_reducible assumption) | assumption)
                        have q423 : (ji46) < (l0.length : Int) := of_decide_eq_true (by first | (with_reducible assumption) | assumption)
                        obtain ⟨ad423, A423_0, c423_0, e423, hx423_0, hl423_0, hi423_0⟩ := at_L2 HR0.out (ji46) p423 q423
                        have hw423_0 := hx423_0
                        obtain rfl : ad404 = ad423 := (by injection e423)
                        replace hx423_0 := (HB.out.cell (World.block_lt_of_cell? w _ hx423_0)).trans hx423_0
                        have HR423_0 := Aside0.mk hi423_0
                        have HC423_0 := Aside0.mk hl423_0
                        clear hi423_0 hl423_0
                        replace p423 := eq_true p423
                        replace q423 := eq_true q423
                        have ea_ := Option.some.inj (hx421_0.symm.trans hx423_0)
                        injection ea_ with ea_ en_ ec_
                        subst ea_
                        subst ec_
                        clear en_
                        have p424 : 0 ≤ (0 : Int) := (by omega)
                        have q424 : 0 < ((rd_L2 l0 (ji46)).length : Int) := of_decide_eq_true (by first | (with_reducible assumption) | assumption)
                        obtain ⟨ad424, e424, hx424_0⟩ := Kd.at_int HR423_0.out 0 p424 q424
                        have hw424_0 := hx424_0
                        (try rw [show ((0 : Int)).toNat = 0 from rfl] at hw424_0)
                        (try rw [show 0 * 1 = 0 from rfl] at hw424_0)
                        (try rw [Addr.add_zero'] at hw424_0)
                        cases e424
                        have qi424 : (0 < (rd_L2 l0 (ji46)).length) = True := eq_true (by omega)
                        (try rw [show ((0 : Int)).toNat = 0 from rfl] at hx424_0)
                        (try rw [Addr.add_zero'] at hx424_0)
                        replace hx424_0 := (HB.out.cell (World.block_lt_of_cell? w _ hx424_0)).trans hx424_0
                        replace p424 := eq_true p424
                        replace q424 := eq_true q424
                        obtain ⟨Ao54, co54, eo54⟩ := Kd.R_slice HO_404000.out
                        (first | subst eo54 | (injection eo54 with f1_ f2_ f3_; have f4_ := f1_.symm; have f5_ := f3_.symm; clear f1_ f2_ f3_; subst f4_; subst f5_))
                        refine start_ (n := 21) (S := fun w' => w'.cell? ⟨gb403, 0, none⟩ = some (.slice Ao54 x404000_1.length co54) ∧ w'.cell? (ad404.add ((ji46)).toNat) = some (.slice (some ad422) (rd_L2 l0 (ji46)).length c421_0) ∧ w'.cell? ⟨ad422.block, ad422.off + 1, none⟩ = some (.int .i64 (rd (rd_L2 l0 (ji46)) 1)) ∧ w'.cell? (ad404.add ((ji46)).toNat) = some (.slice (some ad422) (rd_L2 l0 (ji46)).length c421_0) ∧ w'.cell? ad422 = some (.int .i64 (rd (rd_L2 l0 (ji46)) 0))) (ds := [20]) (bs 21 0) (by kernel_rfl) rfl rfl ⟨(blk_cell BK403.out 0).trans rfl, ((HB.out.cell (World.block_lt_of_cell? w _ hw421_0)).trans hw421_0), ((HB.out.cell (World.block_lt_of_cell? w _ hw422_0)).trans hw422_0), ((HB.out.cell (World.block_lt_of_cell? w _ hw423_0)).trans hw423_0), ((HB.out.cell (World.block_lt_of_cell? w _ hw424_0)).trans hw424_0)⟩ (fun hHeld => ?_); refine with_tabW arboristlaw08_GraphOrder.tab11 arboristlaw08_GraphOrder.bits11 (fun HT_ HW_ => ?_)
                        generalize wr.drew = w53 at HO_400000 HO_404000 BK399 BK403 HB HR421_0 HR423_0 hx421_0 hx422_0 hx423_0 hx424_0 hHeld ⊢
                        refine pure_ (i := 1) (N := some 53) (v := ?_) (a' := ?_) (bs 21 2) rfl rfl (any_of HT_.out (by kernel_rfl)) (fun _ _ _ h => h) (Or.inl ⟨by rfl, ?_⟩) ?_ ?_
                        rotate_left; (intro w'; go_simp; with_reducible rfl); rotate_left; (simp only [Act.put, List.setIfInBounds_toArray, List.set_cons_zero, List.set_cons_succ, i64_w, i32_w]; rfl)
                        refine pure_ (i := 2) (N := some 54) (v := ?_) (a' := ?_) (bs 21 6) rfl rfl (any_of HT_.out (by kernel_rfl)) (fun _ _ _ h => h) (Or.inl ⟨by rfl, ?_⟩) ?_ ?_
                        rotate_left; (intro w'; go_simp; with_reducible rfl); rotate_left; (simp only [Act.put, List.setIfInBounds_toArray, List.set_cons_zero, List.set_cons_succ, i64_w, i32_w]; rfl)
                        refine pure_ (i := 3) (N := some 55) (v := ?_) (a' := ?_) (bs 21 14) rfl rfl (any_of HT_.out (by kernel_rfl)) (fun _ _ _ h => h) (Or.inl ⟨by rfl, ?_⟩) ?_ ?_
                        rotate_left; (intro w'; go_simp; with_reducible rfl); rotate_left; (simp only [Act.put, List.setIfInBounds_toArray, List.set_cons_zero, List.set_cons_succ, i64_w, i32_w]; rfl)
                        refine pure_ (i := 4) (N := some 56) (v := ?_) (a' := ?_) (bs 21 30) rfl rfl (any_of HT_.out (by kernel_rfl)) (fun _ _ _ h => h) (Or.inl ⟨by rfl, ?_⟩) ?_ ?_
                        rotate_left; (intro w'; go_simp; with_reducible rfl); rotate_left; (simp only [Act.put, List.setIfInBounds_toArray, List.set_cons_zero, List.set_cons_succ, i64_w, i32_w]; rfl)
                        refine pure_ (i := 5) (N := some 57) (v := ?_) (a' := ?_) (bs 21 62) rfl rfl (any_of HT_.out (by kernel_rfl)) (fun _ _ _ h => h) (Or.inl ⟨by rfl, ?_⟩) ?_ ?_
                        rotate_left; (intro w'; go_simp; with_reducible rfl); rotate_left; (simp only [Act.put, List.setIfInBounds_toArray, List.set_cons_zero, List.set_cons_succ, i64_w, i32_w]; rfl)
                        refine pure_ (i := 6) (N := some 58) (v := ?_) (a' := ?_) (bs 21 126) rfl rfl (any_of HT_.out (by kernel_rfl)) (fun _ _ _ h => h) (Or.inl ⟨by rfl, ?_⟩) ?_ ?_
                        rotate_left; (intro w'; go_simp; with_reducible rfl); rotate_left; (simp only [Act.put, List.setIfInBounds_toArray, List.set_cons_zero, List.set_cons_succ, i64_w, i32_w]; rfl)
                        refine pure_ (i := 10) (N := some 62) (v := ?_) (a' := ?_) (bs 21 1150) rfl rfl (any_of HT_.out (by kernel_rfl)) (fun _ _ _ h => h) (Or.inl ⟨by rfl, ?_⟩) ?_ ?_
                        rotate_left; (intro w'; go_simp; with_reducible rfl); rotate_left; (simp only [Act.put, List.setIfInBounds_toArray, List.set_cons_zero, List.set_cons_succ, i64_w, i32_w]; rfl)
                        refine pure_ (i := 11) (N := some 63) (v := ?_) (a' := ?_) (bs 21 3198) rfl rfl (any_of HT_.out (by kernel_rfl)) (fun _ _ _ h => h) (Or.inl ⟨by rfl, ?_⟩) ?_ ?_
                        rotate_left; (intro w'; go_simp; with_reducible rfl); rotate_left; (simp only [Act.put, List.setIfInBounds_toArray, List.set_cons_zero, List.set_cons_succ, i64_w, i32_w]; rfl)
                        refine pure_ (i := 12) (N := some 64) (v := ?_) (a' := ?_) (bs 21 7294) rfl rfl (any_of HT_.out (by kernel_rfl)) (fun _ _ _ h => h) (Or.inl ⟨by rfl, ?_⟩) ?_ ?_
                        rotate_left; (intro w'; go_simp; with_reducible rfl); rotate_left; (simp only [Act.put, List.setIfInBounds_toArray, List.set_cons_zero, List.set_cons_succ, i64_w, i32_w]; rfl)
                        refine pure_ (i := 13) (N := some 65) (v := ?_) (a' := ?_) (bs 21 15486) rfl rfl (any_of HT_.out (by kernel_rfl)) (fun _ _ _ h => h) (Or.inl ⟨by rfl, ?_⟩) ?_ ?_
                        rotate_left; (intro w'; go_simp; with_reducible rfl); rotate_left; (simp only [Act.put, List.setIfInBounds_toArray, List.set_cons_zero, List.set_cons_succ, i64_w, i32_w]; rfl)
                        refine pure_ (i := 14) (N := some 66) (v := ?_) (a' := ?_) (bs 21 31870) rfl rfl (any_of HT_.out (by kernel_rfl)) (fun _ _ _ h => h) (Or.inl ⟨by rfl, ?_⟩) ?_ ?_
                        rotate_left; (intro w'; go_simp; with_reducible rfl); rotate_left; (simp only [Act.put, List.setIfInBounds_toArray, List.set_cons_zero, List.set_cons_succ, i64_w, i32_w]; rfl)
                        refine pure_ (i := 15) (N := some 67) (v := ?_) (a' := ?_) (bs 21 64638) rfl rfl (any_of HT_.out (by kernel_rfl)) (fun _ _ _ h => h) (Or.inl ⟨by rfl, ?_⟩) ?_ ?_
                        rotate_left; (intro w'; go_simp; with_reducible rfl); rotate_left; (simp only [Act.put, List.setIfInBounds_toArray, List.set_cons_zero, List.set_cons_succ, i64_w, i32_w]; rfl)
                        refine take_ (i := 0) (N := some 52) (v := ?_) (a' := ?_) (bs 21 64639) rfl rfl (take_ofW HT_.out HW_.out (by kernel_rfl)) (fun _ _ _ h => h) (Or.inl ⟨by rfl, ?_⟩) hHeld ?_ ?_
                        rotate_left
                        · rintro w' ⟨s0, s1, s2, s3, s4⟩
                          go_simp
                          with_reducible rfl
                        rotate_left; (simp only [Act.put, List.setIfInBounds_toArray, List.set_cons_zero, List.set_cons_succ, i64_w, i32_w]; rfl)
                        refine take_ (i := 7) (N := some 59) (v := ?_) (a' := ?_) (bs 21 64767) rfl rfl (take_ofW HT_.out HW_.out (by kernel_rfl)) (fun _ _ _ h => h) (Or.inl ⟨by rfl, ?_⟩) hHeld ?_ ?_
                        rotate_left
                        · rintro w' ⟨s0, s1, s2, s3, s4⟩
                          go_simp
                          with_reducible rfl
                        rotate_left; (simp only [Act.put, List.setIfInBounds_toArray, List.set_cons_zero, List.set_cons_succ, i64_w, i32_w]; rfl)
                        refine pure_ (i := 8) (N := some 60) (v := ?_) (a' := ?_) (bs 21 65023) rfl rfl (any_of HT_.out (by kernel_rfl)) (fun _ _ _ h => h) (Or.inl ⟨by rfl, ?_⟩) ?_ ?_
                        rotate_left; (intro w'; go_simp; with_reducible rfl); rotate_left; (simp only [Act.put, List.setIfInBounds_toArray, List.set_cons_zero, List.set_cons_succ, i64_w, i32_w]; rfl)
                        refine take_ (i := 9) (N := some 61) (v := ?_) (a' := ?_) (bs 21 65535) rfl rfl (take_ofW HT_.out HW_.out (by kernel_rfl)) (fun _ _ _ h => h) (Or.inl ⟨by rfl, ?_⟩) hHeld ?_ ?_
                        rotate_left
                        · rintro w' ⟨s0, s1, s2, s3, s4⟩
                          go_simp
                          with_reducible rfl
                        rotate_left; (simp only [Act.put, List.setIfInBounds_toArray, List.set_cons_zero, List.set_cons_succ, i64_w, i32_w]; rfl)
                        refine take_ (i := 16) (N := some 68) (v := ?_) (a' := ?_) (bs 21 131071) rfl rfl (take_ofW HT_.out HW_.out (by kernel_rfl)) (fun _ _ _ h => h) (Or.inl ⟨by rfl, ?_⟩) hHeld ?_ ?_
                        rotate_left
                        · rintro w' ⟨s0, s1, s2, s3, s4⟩
                          go_simp
                          with_reducible rfl
                        rotate_left; (simp only [Act.put, List.setIfInBounds_toArray, List.set_cons_zero, List.set_cons_succ, i64_w, i32_w]; rfl)
                        refine pure_ (i := 17) (N := some 69) (v := ?_) (a' := ?_) (bs 21 262143) rfl rfl (any_of HT_.out (by kernel_rfl)) (fun _ _ _ h => h) (Or.inl ⟨by rfl, ?_⟩) ?_ ?_
                        rotate_left; (intro w'; go_simp; with_reducible rfl); rotate_left; (simp only [Act.put, List.setIfInBounds_toArray, List.set_cons_zero, List.set_cons_succ, i64_w, i32_w]; rfl)
                        refine take_ (i := 18) (N := some 70) (v := ?_) (a' := ?_) (bs 21 524287) rfl rfl (take_ofW HT_.out HW_.out (by kernel_rfl)) (fun _ _ _ h => h) (Or.inl ⟨by rfl, ?_⟩) hHeld ?_ ?_
                        rotate_left
                        · rintro w' ⟨s0, s1, s2, s3, s4⟩
                          go_simp
                          with_reducible rfl
                        rotate_left; (simp only [Act.put, List.setIfInBounds_toArray, List.set_cons_zero, List.set_cons_succ, i64_w, i32_w]; rfl)
                        refine one_ (i := 19) (N := some 71) (bs 21 1048575) rfl rfl (one_of HT_.out (by kernel_rfl)) (by decide) (fun K hK => ?_)
                        refine goes_ Tryd.func17 (by kernel_rfl) rfl #[.agg #[.slice Ao54 x404000_1.length co54], .int .i64 (rd (rd_L2 l0 (ji46)) 1), .int .i64 (rd (rd_L2 l0 (ji46)) 0)] (by rfl) rfl rfl (by (try simp only [List.map_toArray, List.map_cons, List.map_nil]); first | done | (simp only [hji46]; rfl) | rfl | (simp only [List.length_drop, List.length_take]; rfl)) ?_
                        with_reducible refine (graph_Join.calls _ _ x404000_1 (rd (rd_L2 l0 (ji46)) 1) (rd (rd_L2 l0 (ji46)) 0) t425 _ ?side1 ?side2 A52.out).mono ?_
                        (case side1 => repeat (first | exact (Kd.R_reads' HO_404000.out).2.2 | (with_reducible refine Kd.C_alloc ?_ _) | (with_reducible refine Kd.C_drewN ?_ _) | (with_reducible refine Kd.C_drew ?_)))
                        (case side2 => exact (Kd.R_reads' HO_404000.out).2.1)
                        rintro e w55 ⟨v426, rfl, ho0, hb⟩
                        refine ⟨_, rfl, ?_⟩
                        have n0_ := Aside0.mk (Kd.R_elder' (by (with_reducible repeat (first | apply Kd.R_alloc | apply Kd.R_drewN | apply Kd.R_drew)); exact HO_400000.out) (Kd.R_base ho0) hb)
                        have n1_ := Aside0.mk (Kd.R_elder' (by (with_reducible repeat (first | apply Kd.R_alloc | apply Kd.R_drewN | apply Kd.R_drew)); exact HO_404000.out) (Kd.R_base ho0) hb)
                        have n2_ := Aside0.mk (Kd.R_lower (Kd.R_new' (Kd.R_new' ho0 (Kd.R_lt (by (with_reducible repeat (first | apply Kd.R_alloc | apply Kd.R_drewN | apply Kd.R_drew)); exact HO_400000.out))) (Kd.R_lt (by (with_reducible repeat (first | apply Kd.R_alloc | apply Kd.R_drewN | apply Kd.R_drew)); exact HO_404000.out))) (below_size (by repeat (first | (with_reducible first | exact HB.out | apply below_alloc | apply pw_below_drewN | apply below_drew1 | refine below_set ?_ GE399.out | refine below_set ?_ GE403.out) | exact HB.out))))
                        have n3_ := Aside0.mk (blk_below (g := gb399) (o := .cells #[u400000] 25 (0, 0)) (by (with_reducible repeat (first | refine blk_drewN ?_ _ | refine blk_drew ?_ | refine blk_alloc ?_ _)); exact BK399.out) hb)
                        have n4_ := Aside0.mk (blk_below (g := gb403) (o := .cells #[.slice Ao54 x404000_1.length co54] 25 (0, 0)) (by (with_reducible repeat (first | refine blk_drewN ?_ _ | refine blk_drew ?_ | refine blk_alloc ?_ _)); exact BK403.out) hb)
                        have n5_ := Aside0.mk (below_step (by repeat (first | (with_reducible first | exact HB.out | apply below_alloc | apply pw_below_drewN | apply below_drew1 | refine below_set ?_ GE399.out | refine below_set ?_ GE403.out) | exact HB.out)) hb)
                        clear HO_400000
                        clear HO_404000
                        clear BK399
                        clear BK403
                        clear HB
                        have HO_400000 := n0_
                        have HO_404000 := n1_
                        have HO427 := n2_
                        have BK399 := n3_
                        have BK403 := n4_
                        have HB := n5_
                        clear n0_ n1_ n2_ n3_ n4_ n5_
                        (try clear hb)
                        (try clear hb2)
                        (try clear hk)
                        (try clear hi)
                        (try clear ho0)
                        obtain ⟨Ao56, co56, eo56⟩ := Kd.R_slice HO427.out
                        (first | subst eo56 | (injection eo56 with f1_ f2_ f3_; have f4_ := f1_.symm; have f5_ := f3_.symm; clear f1_ f2_ f3_; subst f4_; subst f5_))
                        refine hK.out _ _ ⟨(blk_cell BK403.out 0).trans rfl, ((HB.out.cell (World.block_lt_of_cell? w _ hw421_0)).trans hw421_0), ((HB.out.cell (World.block_lt_of_cell? w _ hw422_0)).trans hw422_0), ((HB.out.cell (World.block_lt_of_cell? w _ hw423_0)).trans hw423_0), ((HB.out.cell (World.block_lt_of_cell? w _ hw424_0)).trans hw424_0)⟩ (fun hHeld => ?_)
                        clear hK K
                        refine norm_ (a' := ?_) ?_ ?_
                        rotate_left
                        · show Act.put _ (some 71) _ = _
                          simp only [Act.put, List.setIfInBounds_toArray, List.set_cons_zero, List.set_cons_succ, i64_w, i32_w]
                          rfl
                        refine last_ (i := 20) (N := none) (bs 21 2097151) rfl rfl (one_of HT_.out (by kernel_rfl)) (by decide) (fun K hK => ?_)
                        have hs57 : w55.cell? ⟨gb403, 0, none⟩ = some (.slice Ao54 x404000_1.length co54) := (blk_cell BK403.out 0).trans rfl
                        have hfs57 := blk_frozen BK403.out 0
                        have hns57_0 := NB399_403.out
                        have hms57_0 := NB403_399.out
                        refine skip_ (w1 := ?_) (by rfl) rfl ?_ ?_
                        rotate_left
                        · go_simp
                          rfl
                        refine hK.out _ _ ?_
                        clear hK K
                        refine done_ (done_of HT_.out (by kernel_rfl)) ?_
                        try go_wp2
                        go_roundg k1
                        case measure => have := HK1.out; omega
                        case rel => exact ⟨(wrap64 (x7_1 + 1)), (x400000_1), (t425), (u400000), (.slice Ao56 t425.length co56), (by first | rfl | (simp; done) | (simp [*]; done)), H', ⟨by have := HK1.out; omega⟩, ⟨by (with_reducible repeat (first | apply Kd.R_alloc | apply Kd.R_drewN | apply Kd.R_drew)); exact Kd.R_mono (Kd.R_far (p := ⟨gb403, 0, none⟩) (Kd.R_types HO_400000.out BK403.out (by decide)) (fun _ hk => hk.2) (.slice Ao56 t425.length co56)) (fun _ hk => hk.1.2)⟩, ⟨by (with_reducible repeat (first | apply Kd.R_alloc | apply Kd.R_drewN | apply Kd.R_drew)); exact Kd.R_mono (Kd.R_far (p := ⟨gb403, 0, none⟩) (Kd.R_types HO427.out BK403.out (by decide)) (fun _ hk => hk.2) (.slice Ao56 t425.length co56)) (fun _ hk => hk.1.1.2)⟩, ⟨by (with_reducible repeat (first | refine blk_drewN ?_ _ | refine blk_drew ?_ | refine blk_alloc ?_ _)); refine blk_far ?_ NB399_403.out _; (with_reducible repeat (first | refine blk_drewN ?_ _ | refine blk_drew ?_ | refine blk_alloc ?_ _)); exact BK399.out⟩, ⟨by (with_reducible repeat (first | refine blk_drewN ?_ _ | refine blk_drew ?_ | refine blk_alloc ?_ _)); refine blk_put (cs := #[.slice Ao54 x404000_1.length co54]) ?_ 0 _ rfl; (with_reducible repeat (first | refine blk_drewN ?_ _ | refine blk_drew ?_ | refine blk_alloc ?_ _)); exact BK403.out⟩, ⟨by repeat (first | (with_reducible first | exact HB.out | apply below_alloc | apply pw_below_drewN | apply below_drew1 | refine below_set ?_ GE399.out | refine below_set ?_ GE403.out) | exact HB.out)⟩⟩
                      · rw [if_neg c51] at H
                        exact absurd H (by simp)
                    · rw [if_neg c50] at H
                      exact absurd H (by simp)
                  · rw [if_neg c49] at H
                    have c49b0 : decide (1 < ((rd_L2 l0 (ji46)).length : Int)) = false := decide_eq_false c49
                    have c49b1 : decide (1 < (rd_L2 l0 (ji46)).length) = false := decide_eq_false (by omega)
                    clear c49
                    have H' := Aside0.mk H
                    clear H
                    have p404 : 0 ≤ (x7_1 : Int) := of_decide_eq_true (by first | (with_reducible assumption) | assumption)
                    have q404 : x7_1 < (l0.length : Int) := of_decide_eq_true (by first | (with_reducible assumption) | assumption)
                    obtain ⟨ad404, A404_0, c404_0, e404, hx404_0, hl404_0, hi404_0⟩ := at_L2 HR0.out x7_1 p404 q404
                    cases e404
                    replace hx404_0 := (HB.out.cell (World.block_lt_of_cell? w _ hx404_0)).trans hx404_0
                    have HR404_0 := Aside0.mk hi404_0
                    have HC404_0 := Aside0.mk hl404_0
                    clear hi404_0 hl404_0
                    replace p404 := eq_true p404
                    replace q404 := eq_true q404
                    have p420 : 0 ≤ ((ji46) : Int) := of_decide_eq_true (by first | (with_reducible assumption) | assumption)
                    have q420 : (ji46) < (l0.length : Int) := of_decide_eq_true (by first | (with_reducible assumption) | assumption)
                    obtain ⟨ad420, A420_0, c420_0, e420, hx420_0, hl420_0, hi420_0⟩ := at_L2 HR0.out (ji46) p420 q420
                    obtain rfl : ad404 = ad420 := (by injection e420)
                    replace hx420_0 := (HB.out.cell (World.block_lt_of_cell? w _ hx420_0)).trans hx420_0
                    have HR420_0 := Aside0.mk hi420_0
                    have HC420_0 := Aside0.mk hl420_0
                    clear hi420_0 hl420_0
                    replace p420 := eq_true p420
                    replace q420 := eq_true q420
                    go_wp2
                    go_roundg k1
                    case measure => have := HK1.out; omega
                    case rel => exact ⟨(wrap64 (x7_1 + 1)), (x400000_1), (x404000_1), (u400000), (u404000), (by first | rfl | (simp; done) | (simp [*]; done)), H', ⟨by have := HK1.out; omega⟩, ⟨by (with_reducible repeat (first | apply Kd.R_alloc | apply Kd.R_drewN | apply Kd.R_drew)); exact HO_400000.out⟩, ⟨by (with_reducible repeat (first | apply Kd.R_alloc | apply Kd.R_drewN | apply Kd.R_drew)); exact HO_404000.out⟩, ⟨by (with_reducible repeat (first | refine blk_drewN ?_ _ | refine blk_drew ?_ | refine blk_alloc ?_ _)); exact BK399.out⟩, ⟨by (with_reducible repeat (first | refine blk_drewN ?_ _ | refine blk_drew ?_ | refine blk_alloc ?_ _)); exact BK403.out⟩, ⟨by repeat (first | (with_reducible first | exact HB.out | apply below_alloc | apply pw_below_drewN | apply below_drew1 | refine below_set ?_ GE399.out | refine below_set ?_ GE403.out) | exact HB.out)⟩⟩
                · rw [if_neg c48] at H
                  exact absurd H (by simp)
              · rw [if_neg c47] at H
                exact absurd H (by simp)
          · rw [if_neg c18] at H
            exact absurd H (by simp)
        · rw [if_neg c17] at H
          exact absurd H (by simp)
      · rw [if_neg c16] at H
        have c16b0 : decide (x7_1 < ji5) = false := decide_eq_false c16
        clear c16
        have H' := Aside0.mk H
        clear H
        go_wp2
        go_loopg [8] k1 (fun kq v8 w' => ∃ (x8_2 : Int), v8 = .int .i64 x8_2 ∧ Aside0 (arboristlaw08_GraphOrder.l1 kq t395 x8_2 x400000_1 x404000_1 = some r) ∧ Aside0 (kq ≤ k1) ∧ Aside0 (Kd.R (Kd.int .u64) 30 w' w.heap.size (fun k_ => some k_ ≠ (u404000 : Value).ownBlock) u400000 x400000_1) ∧ Aside0 (Kd.R (Kd.int .u64) 30 w' w.heap.size (fun k_ => some k_ ≠ (u400000 : Value).ownBlock) u404000 x404000_1) ∧ Aside0 (w'.heap[gb399]? = some (.cells #[u400000] 25 (0, 0))) ∧ Aside0 (w'.heap[gb403]? = some (.cells #[u404000] 25 (0, 0))) ∧ Aside0 (Below w.heap.size w w'))
        case atStart => exact ⟨(0), (by first | rfl | (simp; done) | (simp [*]; done)), H', ⟨Nat.le_refl _⟩, ⟨by (with_reducible repeat (first | apply Kd.R_alloc | apply Kd.R_drewN | apply Kd.R_drew)); exact HO_400000.out⟩, ⟨by (with_reducible repeat (first | apply Kd.R_alloc | apply Kd.R_drewN | apply Kd.R_drew)); exact HO_404000.out⟩, ⟨by (with_reducible repeat (first | refine blk_drewN ?_ _ | refine blk_drew ?_ | refine blk_alloc ?_ _)); exact BK399.out⟩, ⟨by (with_reducible repeat (first | refine blk_drewN ?_ _ | refine blk_drew ?_ | refine blk_alloc ?_ _)); exact BK403.out⟩, ⟨by repeat (first | (with_reducible first | exact HB.out | apply below_alloc | apply pw_below_drewN | apply below_drew1 | refine below_set ?_ GE399.out | refine below_set ?_ GE403.out) | exact HB.out)⟩⟩
        case round =>
          clear H'
          try clear c1
          try clear c2
          try clear p2
          try clear c4
          try clear p4
          try clear q4
          try clear hx4
          try clear qi4
          try clear c5
          try clear p6
          try clear c16
          try clear c16b0
          try clear c17
          try clear c18
          try clear c19
          try clear c19b0
          try clear c19b1
          try clear c20
          try clear c21
          try clear c24
          try clear c25
          try clear c40
          try clear p40
          try clear q40
          try clear hx40
          try clear qi40
          try clear c41
          try clear p41
          try clear q41
          try clear hx41
          try clear c42
          try clear p42
          try clear q42
          try clear hx42
          try clear qi42
          try clear c47
          try clear c47b0
          try clear c48
          try clear c48b0
          try clear c49
          try clear c49b0
          try clear c49b1
          try clear c50
          try clear c50b0
          try clear c50b1
          try clear c51
          try clear c51b0
          try clear c51b1
          try clear hx404_0
          try clear hx405_0
          try clear hx406_0
          try clear hx407_0
          try clear hx408_0
          try clear hx412_0
          try clear hx420_0
          try clear hx421_0
          try clear hx422_0
          try clear hx423_0
          try clear hx424_0
          try clear p404
          try clear p407
          try clear p408
          try clear p412
          try clear p420
          try clear p421
          try clear p422
          try clear p423
          try clear p424
          try clear q404
          try clear q407
          try clear q408
          try clear q412
          try clear q420
          try clear q421
          try clear q422
          try clear q423
          try clear q424
          obtain ⟨x8_2, rfl, HA, HK2, HO_400000, HO_404000, BK399, BK403, HB⟩ := hrel
          cases gk with
          | zero => exact absurd HA.out (by simp [arboristlaw08_GraphOrder.l1])
          | succ k2 =>
            have H := HA.out
            clear HA
            simp only [arboristlaw08_GraphOrder.l1] at H
            by_cases c58 : x8_2 < 12
            · rw [if_pos c58] at H
              have c58b0 : decide (x8_2 < 12) = true := decide_eq_true c58
              clear c58
              replace H := Option.bind_eq_some_iff.mp H
              obtain ⟨t428, A590, H⟩ := H
              replace H : ((graph_Neighbors.f x404000_1 x8_2).bind fun t431 => ((arboristref01_Compare.f k2 t428 t431).bind fun t434 => (if t434 = 0 then (arboristlaw08_GraphOrder.l2 k2 t395 x8_2 t428 0 x400000_1 x404000_1) else (some false)))) = some r := H
              have A59 := Aside0.mk A590
              clear A590
              replace H := Option.bind_eq_some_iff.mp H
              obtain ⟨t431, A600, H⟩ := H
              replace H : ((arboristref01_Compare.f k2 t428 t431).bind fun t434 => (if t434 = 0 then (arboristlaw08_GraphOrder.l2 k2 t395 x8_2 t428 0 x400000_1 x404000_1) else (some false))) = some r := H
              have A60 := Aside0.mk A600
              clear A600
              replace H := Option.bind_eq_some_iff.mp H
              obtain ⟨t434, A610, H⟩ := H
              replace H : (if t434 = 0 then (arboristlaw08_GraphOrder.l2 k2 t395 x8_2 t428 0 x400000_1 x404000_1) else (some false)) = some r := H
              have A61 := Aside0.mk A610
              clear A610
              by_cases c62 : t434 = 0
              · rw [if_pos c62] at H
                have c62b0 : (t434 == 0) = true := beq_iff_eq.mpr c62
                have c62b1 : (t434 != 0) = false := bne_eq_false_iff_eq.mpr c62
                clear c62
                have H' := Aside0.mk H
                clear H
                have hnb63 := NB399_403.out
                have hnc63 := NB403_399.out
                have hcz64_0 : wr.cell? ⟨gb399, 0, none⟩ = some (u400000) := (blk_cell BK399.out 0).trans rfl
                have hfz64_0 := blk_frozen BK399.out 0
                obtain ⟨Ao65, co65, eo65⟩ := Kd.R_slice HO_400000.out
                subst eo65
                go_wp2_with (first | ((with_reducible refine gate_callee (f := 20) rfl ?_); refine goesL_ (some 78) rfl rfl Tryd.func20 (by kernel_rfl) rfl #[.agg #[.slice Ao65 x400000_1.length co65], .int .i64 x8_2] rfl (by (try simp only [List.map_toArray, List.map_cons, List.map_nil]); first | done | rfl | (simp only [List.length_drop, List.length_take]; rfl)) ?_; (with_reducible refine (graph_Neighbors.calls (hTb := (by first | exact HTAB.out | exact tab_drewN HTAB.out _ | exact tab_below HTAB.out (by repeat (first | (with_reducible first | exact HB.out | apply below_alloc | apply pw_below_drewN | apply below_drew1 | refine below_set ?_ GE399.out | refine below_set ?_ GE403.out) | exact HB.out)))) _ _ x400000_1 x8_2 t428 _ ?side1 ?side2 A59.out).mono ?_); (case side1 => repeat (first | exact (Kd.R_reads' HO_400000.out).2.2 | (with_reducible refine Kd.C_alloc ?_ _) | (with_reducible refine Kd.C_drewN ?_ _) | (with_reducible refine Kd.C_drew ?_))); (case side2 => exact (Kd.R_reads' HO_400000.out).2.1); rintro e w66 ⟨v429, rfl, ho0, hb⟩; refine ⟨_, rfl, ?_⟩; have n0_ := Aside0.mk (Kd.R_below (by (with_reducible repeat (first | apply Kd.R_alloc | apply Kd.R_drewN | apply Kd.R_drew)); exact HO_400000.out) hb); have n1_ := Aside0.mk (Kd.R_below (by (with_reducible repeat (first | apply Kd.R_alloc | apply Kd.R_drewN | apply Kd.R_drew)); exact HO_404000.out) hb); have n2_ := Aside0.mk (Kd.R_lower ho0 (below_size (by repeat (first | (with_reducible first | exact HB.out | apply below_alloc | apply pw_below_drewN | apply below_drew1 | refine below_set ?_ GE399.out | refine below_set ?_ GE403.out) | exact HB.out)))); have n3_ := Aside0.mk (blk_below (g := gb399) (o := .cells #[.slice Ao65 x400000_1.length co65] 25 (0, 0)) (by (with_reducible repeat (first | refine blk_drewN ?_ _ | refine blk_drew ?_ | refine blk_alloc ?_ _)); exact BK399.out) hb); have n4_ := Aside0.mk (blk_below (g := gb403) (o := .cells #[u404000] 25 (0, 0)) (by (with_reducible repeat (first | refine blk_drewN ?_ _ | refine blk_drew ?_ | refine blk_alloc ?_ _)); exact BK403.out) hb); have n5_ := Aside0.mk (below_step (by repeat (first | (with_reducible first | exact HB.out | apply below_alloc | apply pw_below_drewN | apply below_drew1 | refine below_set ?_ GE399.out | refine below_set ?_ GE403.out) | exact HB.out)) hb); clear HO_400000; clear HO_404000; clear BK399; clear BK403; clear HB; have HO_400000 := n0_; have HO_404000 := n1_; have HO430 := n2_; have BK399 := n3_; have BK403 := n4_; have HB := n5_; clear n0_ n1_ n2_ n3_ n4_ n5_; (try clear hb); (try clear hb2); (try clear hk); (try clear hi); (try clear ho0); have hcz67_0 : w66.cell? ⟨gb403, 0, none⟩ = some (u404000) := (blk_cell BK403.out 0).trans rfl; have hfz67_0 := blk_frozen BK403.out 0; obtain ⟨Ao68, co68, eo68⟩ := Kd.R_slice HO_404000.out; subst eo68) | ((with_reducible refine gate_callee (f := 20) rfl ?_); refine goesL_ (some 82) rfl rfl Tryd.func20 (by kernel_rfl) rfl #[.agg #[.slice Ao68 x404000_1.length co68], .int .i64 x8_2] rfl (by (try simp only [List.map_toArray, List.map_cons, List.map_nil]); first | done | rfl | (simp only [List.length_drop, List.length_take]; rfl)) ?_; (with_reducible refine (graph_Neighbors.calls (hTb := (by first | exact HTAB.out | exact tab_drewN HTAB.out _ | exact tab_below HTAB.out (by repeat (first | (with_reducible first | exact HB.out | apply below_alloc | apply pw_below_drewN | apply below_drew1 | refine below_set ?_ GE399.out | refine below_set ?_ GE403.out) | exact HB.out)))) _ _ x404000_1 x8_2 t431 _ ?side1 ?side2 A60.out).mono ?_); (case side1 => repeat (first | exact (Kd.R_reads' HO_404000.out).2.2 | (with_reducible refine Kd.C_alloc ?_ _) | (with_reducible refine Kd.C_drewN ?_ _) | (with_reducible refine Kd.C_drew ?_))); (case side2 => exact (Kd.R_reads' HO_404000.out).2.1); rintro e w69 ⟨v432, rfl, ho0, hb⟩; refine ⟨_, rfl, ?_⟩; have n0_ := Aside0.mk (Kd.R_below (by (with_reducible repeat (first | apply Kd.R_alloc | apply Kd.R_drewN | apply Kd.R_drew)); exact HO_400000.out) hb); have n1_ := Aside0.mk (Kd.R_below (by (with_reducible repeat (first | apply Kd.R_alloc | apply Kd.R_drewN | apply Kd.R_drew)); exact HO_404000.out) hb); have n2_ := Aside0.mk (Kd.R_elder' (by (with_reducible repeat (first | apply Kd.R_alloc | apply Kd.R_drewN | apply Kd.R_drew)); exact HO430.out) (Kd.R_base ho0) hb); have n3_ := Aside0.mk (Kd.R_lower (Kd.R_new' ho0 (Kd.R_lt (by (with_reducible repeat (first | apply Kd.R_alloc | apply Kd.R_drewN | apply Kd.R_drew)); exact HO430.out))) (below_size (by repeat (first | (with_reducible first | exact HB.out | apply below_alloc | apply pw_below_drewN | apply below_drew1 | refine below_set ?_ GE399.out | refine below_set ?_ GE403.out) | exact HB.out)))); have n4_ := Aside0.mk (blk_below (g := gb399) (o := .cells #[.slice Ao65 x400000_1.length co65] 25 (0, 0)) (by (with_reducible repeat (first | refine blk_drewN ?_ _ | refine blk_drew ?_ | refine blk_alloc ?_ _)); exact BK399.out) hb); have n5_ := Aside0.mk (blk_below (g := gb403) (o := .cells #[.slice Ao68 x404000_1.length co68] 25 (0, 0)) (by (with_reducible repeat (first | refine blk_drewN ?_ _ | refine blk_drew ?_ | refine blk_alloc ?_ _)); exact BK403.out) hb); have n6_ := Aside0.mk (below_step (by repeat (first | (with_reducible first | exact HB.out | apply below_alloc | apply pw_below_drewN | apply below_drew1 | refine below_set ?_ GE399.out | refine below_set ?_ GE403.out) | exact HB.out)) hb); clear HO_400000; clear HO_404000; clear HO430; clear BK399; clear BK403; clear HB; have HO_400000 := n0_; have HO_404000 := n1_; have HO430 := n2_; have HO433 := n3_; have BK399 := n4_; have BK403 := n5_; have HB := n6_; clear n0_ n1_ n2_ n3_ n4_ n5_ n6_; (try clear hb); (try clear hb2); (try clear hk); (try clear hi); (try clear ho0); obtain ⟨Ao70, co70, eo70⟩ := Kd.R_slice HO430.out; subst eo70; obtain ⟨Ao71, co71, eo71⟩ := Kd.R_slice HO433.out; subst eo71) | ((with_reducible refine gate_callee (f := 19) rfl ?_); refine goesL_ (some 83) rfl rfl Tryd.func19 (by kernel_rfl) rfl #[.slice Ao70 t428.length co70, .slice Ao71 t431.length co71] rfl (by (try simp only [List.map_toArray, List.map_cons, List.map_nil]); first | done | rfl | (simp only [List.length_drop, List.length_take]; rfl)) ?_; (with_reducible refine (arboristref01_Compare.calls k2 _ _ t428 _ _ t431 t434 _ ?side1 ?side2 ?side3 ?side4 A61.out).mono ?_); (case side1 => repeat (first | exact (Kd.R_reads' HO430.out).2.2 | (with_reducible refine Kd.C_alloc ?_ _) | (with_reducible refine Kd.C_drewN ?_ _) | (with_reducible refine Kd.C_drew ?_))); (case side2 => exact (Kd.R_reads' HO430.out).2.1); (case side3 => repeat (first | exact (Kd.R_reads' HO433.out).2.2 | (with_reducible refine Kd.C_alloc ?_ _) | (with_reducible refine Kd.C_drewN ?_ _) | (with_reducible refine Kd.C_drew ?_))); (case side4 => exact (Kd.R_reads' HO433.out).2.1); rintro e w' ⟨rfl, ⟨nd, rfl⟩⟩; refine ⟨_, rfl, ?_⟩))
                go_loopg [10] k2 (fun kq v10 w' => ∃ (x10_3 : Int), v10 = .int .i64 x10_3 ∧ Aside0 (arboristlaw08_GraphOrder.l2 kq t395 x8_2 t428 x10_3 x400000_1 x404000_1 = some r) ∧ Aside0 (kq ≤ k2) ∧ Aside0 (Kd.R (Kd.int .i64) 3 w' w.heap.size (fun _ => True) (.slice Ao70 t428.length co70) t428) ∧ Aside0 (Kd.R (Kd.int .u64) 30 w' w.heap.size (fun k_ => some k_ ≠ ((.slice Ao68 x404000_1.length co68) : Value).ownBlock) (.slice Ao65 x400000_1.length co65) x400000_1) ∧ Aside0 (Kd.R (Kd.int .u64) 30 w' w.heap.size (fun k_ => some k_ ≠ ((.slice Ao65 x400000_1.length co65) : Value).ownBlock) (.slice Ao68 x404000_1.length co68) x404000_1) ∧ Aside0 (w'.heap[gb399]? = some (.cells #[(.slice Ao65 x400000_1.length co65)] 25 (0, 0))) ∧ Aside0 (w'.heap[gb403]? = some (.cells #[(.slice Ao68 x404000_1.length co68)] 25 (0, 0))) ∧ Aside0 (Below w.heap.size w w'))
                case atStart => exact ⟨(0), (by first | rfl | (simp; done) | (simp [*]; done)), H', ⟨Nat.le_refl _⟩, ⟨by (with_reducible repeat (first | apply Kd.R_alloc | apply Kd.R_drewN | apply Kd.R_drew)); exact Kd.R_mono HO430.out (fun _ hk => trivial)⟩, ⟨by (with_reducible repeat (first | apply Kd.R_alloc | apply Kd.R_drewN | apply Kd.R_drew)); exact HO_400000.out⟩, ⟨by (with_reducible repeat (first | apply Kd.R_alloc | apply Kd.R_drewN | apply Kd.R_drew)); exact HO_404000.out⟩, ⟨by (with_reducible repeat (first | refine blk_drewN ?_ _ | refine blk_drew ?_ | refine blk_alloc ?_ _)); exact BK399.out⟩, ⟨by (with_reducible repeat (first | refine blk_drewN ?_ _ | refine blk_drew ?_ | refine blk_alloc ?_ _)); exact BK403.out⟩, ⟨by repeat (first | (with_reducible first | exact HB.out | apply below_alloc | apply pw_below_drewN | apply below_drew1 | refine below_set ?_ GE399.out | refine below_set ?_ GE403.out) | exact HB.out)⟩⟩
                case round =>
                  clear H'
                  try clear c1
                  try clear c2
                  try clear p2
                  try clear c4
                  try clear p4
                  try clear q4
                  try clear hx4
                  try clear qi4
                  try clear c5
                  try clear c6
                  try clear p6
                  try clear c16
                  try clear c16b0
                  try clear c17
                  try clear c18
                  try clear c19
                  try clear c19b0
                  try clear c19b1
                  try clear c20
                  try clear c21
                  try clear c24
                  try clear c25
                  try clear c40
                  try clear p40
                  try clear q40
                  try clear hx40
                  try clear qi40
                  try clear c41
                  try clear p41
                  try clear q41
                  try clear hx41
                  try clear c42
                  try clear p42
                  try clear q42
                  try clear hx42
                  try clear qi42
                  try clear c47
                  try clear c47b0
                  try clear c48
                  try clear c48b0
                  try clear c49
                  try clear c49b0
                  try clear c49b1
                  try clear c50
                  try clear c50b0
                  try clear c50b1
                  try clear c51
                  try clear c51b0
                  try clear c51b1
                  try clear c58
                  try clear c58b0
                  try clear c62
                  try clear c62b0
                  try clear c62b1
                  try clear c63
                  try clear p64
                  try clear hcz64_0
                  try clear hcz67_0
                  try clear hfz64_0
                  try clear hfz67_0
                  try clear hx404_0
                  try clear hx405_0
                  try clear hx406_0
                  try clear hx407_0
                  try clear hx408_0
                  try clear hx412_0
                  try clear hx420_0
                  try clear hx421_0
                  try clear hx422_0
                  try clear hx423_0
                  try clear hx424_0
                  try clear p2
                  try clear p4
                  try clear p40
                  try clear p404
                  try clear p407
                  try clear p408
                  try clear p41
                  try clear p412
                  try clear p42
                  try clear p420
                  try clear p421
                  try clear p422
                  try clear p423
                  try clear p424
                  try clear p6
                  try clear q4
                  try clear q40
                  try clear q404
                  try clear q407
                  try clear q408
                  try clear q41
                  try clear q412
                  try clear q42
                  try clear q420
                  try clear q421
                  try clear q422
                  try clear q423
                  try clear q424
                  obtain ⟨x10_3, rfl, HA, HK3, HO_9, HO_400000, HO_404000, BK399, BK403, HB⟩ := hrel
                  cases gk with
                  | zero => exact absurd HA.out (by simp [arboristlaw08_GraphOrder.l2])
                  | succ k3 =>
                    have H := HA.out
                    clear HA
                    simp only [arboristlaw08_GraphOrder.l2] at H
                    by_cases c72 : x10_3 < (t428.length : Int)
                    · rw [if_pos c72] at H
                      have c72b0 : decide (x10_3 < (t428.length : Int)) = true := decide_eq_true c72
                      clear c72
                      by_cases c73 : 0 ≤ x10_3
                      · rw [if_pos c73] at H
                        have c73b0 : decide (0 ≤ x10_3) = true := decide_eq_true c73
                        clear c73
                        replace H := Option.bind_eq_some_iff.mp H
                        obtain ⟨t436, A740, H⟩ := H
                        replace H : ((arboristref01_In.f k3 t436 x8_2).bind fun t439 => (if t439 = true then ((graph_Beside.f x400000_1 x8_2 (rd t428 x10_3)).bind fun t441 => (if t441 = true then (arboristlaw08_GraphOrder.l2 k3 t395 x8_2 t428 (wrap64 (x10_3 + 1)) x400000_1 x404000_1) else (some false))) else (some false))) = some r := H
                        have A74 := Aside0.mk A740
                        clear A740
                        replace H := Option.bind_eq_some_iff.mp H
                        obtain ⟨t439, A750, H⟩ := H
                        replace H : (if t439 = true then ((graph_Beside.f x400000_1 x8_2 (rd t428 x10_3)).bind fun t441 => (if t441 = true then (arboristlaw08_GraphOrder.l2 k3 t395 x8_2 t428 (wrap64 (x10_3 + 1)) x400000_1 x404000_1) else (some false))) else (some false)) = some r := H
                        have A75 := Aside0.mk A750
                        clear A750
                        by_cases c76 : t439 = true
                        · subst c76
                          have H1 : ((graph_Beside.f x400000_1 x8_2 (rd t428 x10_3)).bind fun t441 => (if t441 = true then (arboristlaw08_GraphOrder.l2 k3 t395 x8_2 t428 (wrap64 (x10_3 + 1)) x400000_1 x404000_1) else (some false))) = some r := by rw [if_pos rfl] at H; exact H
                          clear H
                          have H := H1
                          clear H1
                          replace H := Option.bind_eq_some_iff.mp H
                          obtain ⟨t441, A770, H⟩ := H
                          replace H : (if t441 = true then (arboristlaw08_GraphOrder.l2 k3 t395 x8_2 t428 (wrap64 (x10_3 + 1)) x400000_1 x404000_1) else (some false)) = some r := H
                          have A77 := Aside0.mk A770
                          clear A770
                          by_cases c78 : t441 = true
                          · subst c78
                            have H1 : (arboristlaw08_GraphOrder.l2 k3 t395 x8_2 t428 (wrap64 (x10_3 + 1)) x400000_1 x404000_1) = some r := by rw [if_pos rfl] at H; exact H
                            clear H
                            have H := H1
                            clear H1
                            have H' := Aside0.mk H
                            clear H
                            try go_wp2
                            have n0_ := Aside0.mk (Kd.R_drew HO_9.out)
                            have n1_ := Aside0.mk (Kd.R_drew HO_400000.out)
                            have n2_ := Aside0.mk (Kd.R_drew HO_404000.out)
                            have n3_ := Aside0.mk (blk_drew BK399.out)
                            have n4_ := Aside0.mk (blk_drew BK403.out)
                            have n5_ := Aside0.mk (below_drew1 HB.out)
                            clear HO_9
                            clear HO_400000
                            clear HO_404000
                            clear BK399
                            clear BK403
                            clear HB
                            have HO_9 := n0_
                            have HO_400000 := n1_
                            have HO_404000 := n2_
                            have BK399 := n3_
                            have BK403 := n4_
                            have HB := n5_
                            clear n0_ n1_ n2_ n3_ n4_ n5_
                            have p435 : 0 ≤ (x10_3 : Int) := of_decide_eq_true (by first | (with_reducible assumption) | assumption)
                            have q435 : x10_3 < (t428.length : Int) := of_decide_eq_true (by first | (with_reducible assumption) | assumption)
                            obtain ⟨ad435, e435, hx435_0⟩ := Kd.at_int (Kd.R_reads' HO_9.out).2.2 x10_3 p435 q435
                            cases e435
                            replace p435 := eq_true p435
                            replace q435 := eq_true q435
                            refine start_ (n := 9) (S := fun w' => w'.cell? ⟨gb399, 0, none⟩ = some (.slice Ao65 x400000_1.length co65) ∧ w'.cell? (ad435.add (x10_3).toNat) = some (.int .i64 (rd t428 x10_3))) (ds := []) (bs 9 0) (by kernel_rfl) rfl rfl ⟨(blk_cell BK399.out 0).trans rfl, hx435_0⟩ (fun hHeld => ?_); refine with_tabW arboristlaw08_GraphOrder.tab21 arboristlaw08_GraphOrder.bits21 (fun HT_ HW_ => ?_)
                            generalize wr.drew = w79 at HO_9 HO_400000 HO_404000 BK399 BK403 HB hx435_0 hHeld ⊢
                            refine pure_ (i := 1) (N := some 92) (v := ?_) (a' := ?_) (bs 9 2) rfl rfl (any_of HT_.out (by kernel_rfl)) (fun _ _ _ h => h) (Or.inl ⟨by rfl, ?_⟩) ?_ ?_
                            rotate_left; (intro w'; go_simp; with_reducible rfl); rotate_left; (simp only [Act.put, List.setIfInBounds_toArray, List.set_cons_zero, List.set_cons_succ, i64_w, i32_w]; rfl)
                            refine pure_ (i := 2) (N := some 93) (v := ?_) (a' := ?_) (bs 9 6) rfl rfl (any_of HT_.out (by kernel_rfl)) (fun _ _ _ h => h) (Or.inl ⟨by rfl, ?_⟩) ?_ ?_
                            rotate_left; (intro w'; go_simp; with_reducible rfl); rotate_left; (simp only [Act.put, List.setIfInBounds_toArray, List.set_cons_zero, List.set_cons_succ, i64_w, i32_w]; rfl)
                            refine pure_ (i := 3) (N := some 94) (v := ?_) (a' := ?_) (bs 9 14) rfl rfl (any_of HT_.out (by kernel_rfl)) (fun _ _ _ h => h) (Or.inl ⟨by rfl, ?_⟩) ?_ ?_
                            rotate_left; (intro w'; go_simp; with_reducible rfl); rotate_left; (simp only [Act.put, List.setIfInBounds_toArray, List.set_cons_zero, List.set_cons_succ, i64_w, i32_w]; rfl)
                            refine pure_ (i := 6) (N := some 97) (v := ?_) (a' := ?_) (bs 9 78) rfl rfl (any_of HT_.out (by kernel_rfl)) (fun _ _ _ h => h) (Or.inl ⟨by rfl, ?_⟩) ?_ ?_
                            rotate_left; (intro w'; go_simp; with_reducible rfl); rotate_left; (simp only [Act.put, List.setIfInBounds_toArray, List.set_cons_zero, List.set_cons_succ, i64_w, i32_w]; rfl)
                            refine take_ (i := 0) (N := some 91) (v := ?_) (a' := ?_) (bs 9 79) rfl rfl (take_ofW HT_.out HW_.out (by kernel_rfl)) (fun _ _ _ h => h) (Or.inl ⟨by rfl, ?_⟩) hHeld ?_ ?_
                            rotate_left
                            · rintro w' ⟨s0, s1⟩
                              go_simp
                              with_reducible rfl
                            rotate_left; (simp only [Act.put, List.setIfInBounds_toArray, List.set_cons_zero, List.set_cons_succ, i64_w, i32_w]; rfl)
                            refine take_ (i := 4) (N := some 95) (v := ?_) (a' := ?_) (bs 9 95) rfl rfl (take_ofW HT_.out HW_.out (by kernel_rfl)) (fun _ _ _ h => h) (Or.inl ⟨by rfl, ?_⟩) hHeld ?_ ?_
                            rotate_left
                            · rintro w' ⟨s0, s1⟩
                              go_simp
                              with_reducible rfl
                            rotate_left; (simp only [Act.put, List.setIfInBounds_toArray, List.set_cons_zero, List.set_cons_succ, i64_w, i32_w]; rfl)
                            refine one_ (i := 5) (N := some 96) (bs 9 127) rfl rfl (one_of HT_.out (by kernel_rfl)) (by decide) (fun K hK => ?_)
                            refine goes_ Tryd.func20 (by kernel_rfl) rfl #[.agg #[.slice Ao65 x400000_1.length co65], .int .i64 (rd t428 x10_3)] (by rfl) rfl rfl (by (try simp only [List.map_toArray, List.map_cons, List.map_nil]); first | done | rfl | (simp only [List.length_drop, List.length_take]; rfl)) ?_
                            with_reducible refine (graph_Neighbors.calls (hTb := (by first | exact HTAB.out | exact tab_drewN HTAB.out _ | exact tab_below HTAB.out (by repeat (first | (with_reducible first | exact HB.out | apply below_alloc | apply pw_below_drewN | apply below_drew1 | refine below_set ?_ GE399.out | refine below_set ?_ GE403.out) | exact HB.out)))) _ _ x400000_1 (rd t428 x10_3) t436 _ ?side1 ?side2 A74.out).mono ?_
                            (case side1 => repeat (first | exact (Kd.R_reads' HO_400000.out).2.2 | (with_reducible refine Kd.C_alloc ?_ _) | (with_reducible refine Kd.C_drewN ?_ _) | (with_reducible refine Kd.C_drew ?_)))
                            (case side2 => exact (Kd.R_reads' HO_400000.out).2.1)
                            rintro e w80 ⟨v437, rfl, ho0, hb⟩
                            have HS1_ := (hb.cell (World.block_lt_of_cell? _ _ (hHeld.2))).trans (hHeld.2)
                            refine ⟨_, rfl, ?_⟩
                            have n0_ := Aside0.mk (Kd.R_elder' (by (with_reducible repeat (first | apply Kd.R_alloc | apply Kd.R_drewN | apply Kd.R_drew)); exact HO_9.out) (Kd.R_base ho0) hb)
                            have n1_ := Aside0.mk (Kd.R_below (by (with_reducible repeat (first | apply Kd.R_alloc | apply Kd.R_drewN | apply Kd.R_drew)); exact HO_400000.out) hb)
                            have n2_ := Aside0.mk (Kd.R_below (by (with_reducible repeat (first | apply Kd.R_alloc | apply Kd.R_drewN | apply Kd.R_drew)); exact HO_404000.out) hb)
                            have n3_ := Aside0.mk (Kd.R_lower (Kd.R_new' ho0 (Kd.R_lt (by (with_reducible repeat (first | apply Kd.R_alloc | apply Kd.R_drewN | apply Kd.R_drew)); exact HO_9.out))) (below_size (by repeat (first | (with_reducible first | exact HB.out | apply below_alloc | apply pw_below_drewN | apply below_drew1 | refine below_set ?_ GE399.out | refine below_set ?_ GE403.out) | exact HB.out))))
                            have n4_ := Aside0.mk (blk_below (g := gb399) (o := .cells #[.slice Ao65 x400000_1.length co65] 25 (0, 0)) (by (with_reducible repeat (first | refine blk_drewN ?_ _ | refine blk_drew ?_ | refine blk_alloc ?_ _)); exact BK399.out) hb)
                            have n5_ := Aside0.mk (blk_below (g := gb403) (o := .cells #[.slice Ao68 x404000_1.length co68] 25 (0, 0)) (by (with_reducible repeat (first | refine blk_drewN ?_ _ | refine blk_drew ?_ | refine blk_alloc ?_ _)); exact BK403.out) hb)
                            have n6_ := Aside0.mk (below_step (by repeat (first | (with_reducible first | exact HB.out | apply below_alloc | apply pw_below_drewN | apply below_drew1 | refine below_set ?_ GE399.out | refine below_set ?_ GE403.out) | exact HB.out)) hb)
                            clear HO_9
                            clear HO_400000
                            clear HO_404000
                            clear BK399
                            clear BK403
                            clear HB
                            have HO_9 := n0_
                            have HO_400000 := n1_
                            have HO_404000 := n2_
                            have HO438 := n3_
                            have BK399 := n4_
                            have BK403 := n5_
                            have HB := n6_
                            clear n0_ n1_ n2_ n3_ n4_ n5_ n6_
                            (try clear hb)
                            (try clear hb2)
                            (try clear hk)
                            (try clear hi)
                            (try clear ho0)
                            obtain ⟨Ao81, co81, eo81⟩ := Kd.R_slice HO438.out
                            (first | subst eo81 | (injection eo81 with f1_ f2_ f3_; have f4_ := f1_.symm; have f5_ := f3_.symm; clear f1_ f2_ f3_; subst f4_; subst f5_))
                            refine hK.out _ _ ⟨(blk_cell BK399.out 0).trans rfl, HS1_⟩ (fun hHeld => ?_)
                            clear hK K
                            refine norm_ (a' := ?_) ?_ ?_
                            rotate_left
                            · show Act.put _ (some 96) _ = _
                              simp only [Act.put, List.setIfInBounds_toArray, List.set_cons_zero, List.set_cons_succ, i64_w, i32_w]
                              rfl
                            refine one_ (i := 7) (N := some 98) (bs 9 255) rfl rfl (one_of HT_.out (by kernel_rfl)) (by decide) (fun K hK => ?_)
                            refine goes_ Tryd.func28 (by kernel_rfl) rfl #[.slice Ao81 t436.length co81, .int .i64 x8_2] (by rfl) rfl rfl (by (try simp only [List.map_toArray, List.map_cons, List.map_nil]); first | done | rfl | (simp only [List.length_drop, List.length_take]; rfl)) ?_
                            with_reducible refine (arboristref01_In.calls k3 _ _ t436 x8_2 true _ ?side1 ?side2 A75.out).mono ?_
                            (case side1 => repeat (first | exact (Kd.R_reads' HO438.out).2.2 | (with_reducible refine Kd.C_alloc ?_ _) | (with_reducible refine Kd.C_drewN ?_ _) | (with_reducible refine Kd.C_drew ?_)))
                            (case side2 => exact (Kd.R_reads' HO438.out).2.1)
                            rintro e w' ⟨rfl, ⟨nd, rfl⟩⟩
                            refine ⟨_, rfl, ?_⟩
                            refine hK.out _ _ ⟨(blk_cell BK399.out 0).trans rfl, hHeld.2⟩ (fun hHeld => ?_)
                            clear hK K
                            refine norm_ (a' := ?_) ?_ ?_
                            rotate_left
                            · show Act.put _ (some 98) _ = _
                              simp only [Act.put, List.setIfInBounds_toArray, List.set_cons_zero, List.set_cons_succ, i64_w, i32_w]
                              rfl
                            refine pure_ (i := 8) (N := some 11) (v := ?_) (a' := ?_) (bs 9 511) rfl rfl (any_of HT_.out (by kernel_rfl)) (fun _ _ _ h => h) (Or.inl ⟨by rfl, ?_⟩) ?_ ?_
                            rotate_left; (intro w'; go_simp; with_reducible rfl); rotate_left; (simp only [Act.put, List.setIfInBounds_toArray, List.set_cons_zero, List.set_cons_succ, i64_w, i32_w]; rfl)
                            refine done_ (done_of HT_.out (by kernel_rfl)) ?_
                            try go_wp2
                            (try (rw [drewN_self w80]; generalize hq_ : World.drewN w80 _ = w80; have n0_ : Aside0 (Kd.R (Kd.int .i64) 3 w80 w.heap.size (fun k_ => some k_ ≠ (.slice (some ad435) t428.length co70 : Value).ownBlock) (.slice Ao81 t436.length co81) t436) := ⟨by rw [← hq_]; exact (by (with_reducible repeat (first | apply Kd.R_alloc | apply Kd.R_drewN | apply Kd.R_drew)); exact Kd.R_mono HO438.out (fun _ hk => hk.2))⟩; have n1_ : Aside0 (Kd.R (Kd.int .u64) 30 w80 w.heap.size (fun k_ => some k_ ≠ (.slice Ao68 x404000_1.length co68 : Value).ownBlock) (.slice Ao65 x400000_1.length co65) x400000_1) := ⟨by rw [← hq_]; exact (by (with_reducible repeat (first | apply Kd.R_alloc | apply Kd.R_drewN | apply Kd.R_drew)); exact HO_400000.out)⟩; have n2_ : Aside0 (Kd.R (Kd.int .u64) 30 w80 w.heap.size (fun k_ => some k_ ≠ (.slice Ao65 x400000_1.length co65 : Value).ownBlock) (.slice Ao68 x404000_1.length co68) x404000_1) := ⟨by rw [← hq_]; exact (by (with_reducible repeat (first | apply Kd.R_alloc | apply Kd.R_drewN | apply Kd.R_drew)); exact HO_404000.out)⟩; have n3_ : Aside0 (Kd.R (Kd.int .i64) 3 w80 w.heap.size (fun k_ => some k_ ≠ (.slice Ao81 t436.length co81 : Value).ownBlock) (.slice (some ad435) t428.length co70) t428) := ⟨by rw [← hq_]; exact (by (with_reducible repeat (first | apply Kd.R_alloc | apply Kd.R_drewN | apply Kd.R_drew)); exact Kd.R_mono HO_9.out (fun _ hk => hk.2))⟩; have n4_ : Aside0 (w80.heap[gb399]? = some (.cells #[.slice Ao65 x400000_1.length co65] 25 (0, 0))) := ⟨by rw [← hq_]; exact (by (with_reducible repeat (first | refine blk_drewN ?_ _ | refine blk_drew ?_ | refine blk_alloc ?_ _)); exact BK399.out)⟩; have n5_ : Aside0 (w80.heap[gb403]? = some (.cells #[.slice Ao68 x404000_1.length co68] 25 (0, 0))) := ⟨by rw [← hq_]; exact (by (with_reducible repeat (first | refine blk_drewN ?_ _ | refine blk_drew ?_ | refine blk_alloc ?_ _)); exact BK403.out)⟩; have n6_ : Aside0 (Below w.heap.size w w80) := ⟨by rw [← hq_]; exact (by repeat (first | (with_reducible first | exact HB.out | apply below_alloc | apply pw_below_drewN | apply below_drew1 | refine below_set ?_ GE399.out | refine below_set ?_ GE403.out) | exact HB.out))⟩; clear HO438 HO_400000 HO_404000 HO_9 BK399 BK403 HB hq_; have HO438 := n0_; have HO_400000 := n1_; have HO_404000 := n2_; have HO_9 := n3_; have BK399 := n4_; have BK403 := n5_; have HB := n6_; clear n0_ n1_ n2_ n3_ n4_ n5_ n6_))
                            have n0_ := Aside0.mk (Kd.R_drew HO_9.out)
                            have n1_ := Aside0.mk (Kd.R_drew HO_400000.out)
                            have n2_ := Aside0.mk (Kd.R_drew HO_404000.out)
                            have n3_ := Aside0.mk (Kd.R_drew HO438.out)
                            have n4_ := Aside0.mk (blk_drew BK399.out)
                            have n5_ := Aside0.mk (blk_drew BK403.out)
                            have n6_ := Aside0.mk (below_drew1 HB.out)
                            clear HO_9
                            clear HO_400000
                            clear HO_404000
                            clear HO438
                            clear BK399
                            clear BK403
                            clear HB
                            have HO_9 := n0_
                            have HO_400000 := n1_
                            have HO_404000 := n2_
                            have HO438 := n3_
                            have BK399 := n4_
                            have BK403 := n5_
                            have HB := n6_
                            clear n0_ n1_ n2_ n3_ n4_ n5_ n6_
                            have p440 : 0 ≤ (x10_3 : Int) := of_decide_eq_true (by first | (with_reducible assumption) | assumption)
                            have q440 : x10_3 < (t428.length : Int) := of_decide_eq_true (by first | (with_reducible assumption) | assumption)
                            obtain ⟨ad440, e440, hx440_0⟩ := Kd.at_int (Kd.R_reads' HO_9.out).2.2 x10_3 p440 q440
                            obtain rfl : ad435 = ad440 := (by injection e440)
                            replace p440 := eq_true p440
                            replace q440 := eq_true q440
                            refine start_ (n := 12) (S := fun w' => w'.cell? ⟨gb399, 0, none⟩ = some (.slice Ao65 x400000_1.length co65) ∧ w'.cell? (ad435.add (x10_3).toNat) = some (.int .i64 (rd t428 x10_3))) (ds := []) (bs 12 0) (by kernel_rfl) rfl rfl ⟨(blk_cell BK399.out 0).trans rfl, hx440_0⟩ (fun hHeld => ?_); refine with_tabW arboristlaw08_GraphOrder.tab22 arboristlaw08_GraphOrder.bits22 (fun HT_ HW_ => ?_)
                            generalize w80.drew = w82 at HO_9 HO_400000 HO_404000 HO438 BK399 BK403 HB hx440_0 hHeld ⊢
                            refine pure_ (i := 0) (N := some 99) (v := ?_) (a' := ?_) (bs 12 1) rfl rfl (any_of HT_.out (by kernel_rfl)) (fun _ _ _ h => h) (Or.inl ⟨by rfl, ?_⟩) ?_ ?_
                            rotate_left; (intro w'; go_simp; with_reducible rfl); rotate_left; (simp only [Act.put, List.setIfInBounds_toArray, List.set_cons_zero, List.set_cons_succ, i64_w, i32_w]; rfl)
                            refine pure_ (i := 1) (N := some 100) (v := ?_) (a' := ?_) (bs 12 3) rfl rfl (any_of HT_.out (by kernel_rfl)) (fun _ _ _ h => h) (Or.inl ⟨by rfl, ?_⟩) ?_ ?_
                            rotate_left; (intro w'; go_simp; with_reducible rfl); rotate_left; (simp only [Act.put, List.setIfInBounds_toArray, List.set_cons_zero, List.set_cons_succ, i64_w, i32_w]; rfl)
                            refine pure_ (i := 2) (N := some 101) (v := ?_) (a' := ?_) (bs 12 7) rfl rfl (any_of HT_.out (by kernel_rfl)) (fun _ _ _ h => h) (Or.inl ⟨by rfl, ?_⟩) ?_ ?_
                            rotate_left; (intro w'; go_simp; with_reducible rfl); rotate_left; (simp only [Act.put, List.setIfInBounds_toArray, List.set_cons_zero, List.set_cons_succ, i64_w, i32_w]; rfl)
                            refine pure_ (i := 4) (N := some 103) (v := ?_) (a' := ?_) (bs 12 23) rfl rfl (any_of HT_.out (by kernel_rfl)) (fun _ _ _ h => h) (Or.inl ⟨by rfl, ?_⟩) ?_ ?_
                            rotate_left; (intro w'; go_simp; with_reducible rfl); rotate_left; (simp only [Act.put, List.setIfInBounds_toArray, List.set_cons_zero, List.set_cons_succ, i64_w, i32_w]; rfl)
                            refine pure_ (i := 5) (N := some 104) (v := ?_) (a' := ?_) (bs 12 55) rfl rfl (any_of HT_.out (by kernel_rfl)) (fun _ _ _ h => h) (Or.inl ⟨by rfl, ?_⟩) ?_ ?_
                            rotate_left; (intro w'; go_simp; with_reducible rfl); rotate_left; (simp only [Act.put, List.setIfInBounds_toArray, List.set_cons_zero, List.set_cons_succ, i64_w, i32_w]; rfl)
                            refine pure_ (i := 6) (N := some 105) (v := ?_) (a' := ?_) (bs 12 119) rfl rfl (any_of HT_.out (by kernel_rfl)) (fun _ _ _ h => h) (Or.inl ⟨by rfl, ?_⟩) ?_ ?_
                            rotate_left; (intro w'; go_simp; with_reducible rfl); rotate_left; (simp only [Act.put, List.setIfInBounds_toArray, List.set_cons_zero, List.set_cons_succ, i64_w, i32_w]; rfl)
                            refine pure_ (i := 7) (N := some 106) (v := ?_) (a' := ?_) (bs 12 247) rfl rfl (any_of HT_.out (by kernel_rfl)) (fun _ _ _ h => h) (Or.inl ⟨by rfl, ?_⟩) ?_ ?_
                            rotate_left; (intro w'; go_simp; with_reducible rfl); rotate_left; (simp only [Act.put, List.setIfInBounds_toArray, List.set_cons_zero, List.set_cons_succ, i64_w, i32_w]; rfl)
                            refine take_ (i := 3) (N := some 102) (v := ?_) (a' := ?_) (bs 12 255) rfl rfl (take_ofW HT_.out HW_.out (by kernel_rfl)) (fun _ _ _ h => h) (Or.inl ⟨by rfl, ?_⟩) hHeld ?_ ?_
                            rotate_left
                            · rintro w' ⟨s0, s1⟩
                              go_simp
                              with_reducible rfl
                            rotate_left; (simp only [Act.put, List.setIfInBounds_toArray, List.set_cons_zero, List.set_cons_succ, i64_w, i32_w]; rfl)
                            refine take_ (i := 8) (N := some 107) (v := ?_) (a' := ?_) (bs 12 511) rfl rfl (take_ofW HT_.out HW_.out (by kernel_rfl)) (fun _ _ _ h => h) (Or.inl ⟨by rfl, ?_⟩) hHeld ?_ ?_
                            rotate_left
                            · rintro w' ⟨s0, s1⟩
                              go_simp
                              with_reducible rfl
                            rotate_left; (simp only [Act.put, List.setIfInBounds_toArray, List.set_cons_zero, List.set_cons_succ, i64_w, i32_w]; rfl)
                            refine one_ (i := 9) (N := some 108) (bs 12 1023) rfl rfl (one_of HT_.out (by kernel_rfl)) (by decide) (fun K hK => ?_)
                            refine goes_ Tryd.func18 (by kernel_rfl) rfl #[.agg #[.slice Ao65 x400000_1.length co65], .int .i64 x8_2, .int .i64 (rd t428 x10_3)] (by rfl) rfl rfl (by (try simp only [List.map_toArray, List.map_cons, List.map_nil]); first | done | rfl | (simp only [List.length_drop, List.length_take]; rfl)) ?_
                            with_reducible refine (graph_Beside.calls _ _ x400000_1 x8_2 (rd t428 x10_3) true _ ?side1 ?side2 A77.out).mono ?_
                            (case side1 => repeat (first | exact (Kd.R_reads' HO_400000.out).2.2 | (with_reducible refine Kd.C_alloc ?_ _) | (with_reducible refine Kd.C_drewN ?_ _) | (with_reducible refine Kd.C_drew ?_)))
                            (case side2 => exact (Kd.R_reads' HO_400000.out).2.1)
                            rintro e w83 ⟨rfl, hb⟩
                            have HS1_ := (hb.cell (World.block_lt_of_cell? _ _ (hHeld.2))).trans (hHeld.2)
                            refine ⟨_, rfl, ?_⟩
                            have n0_ := Aside0.mk (Kd.R_below (by (with_reducible repeat (first | apply Kd.R_alloc | apply Kd.R_drewN | apply Kd.R_drew)); exact HO_9.out) hb)
                            have n1_ := Aside0.mk (Kd.R_below (by (with_reducible repeat (first | apply Kd.R_alloc | apply Kd.R_drewN | apply Kd.R_drew)); exact HO_400000.out) hb)
                            have n2_ := Aside0.mk (Kd.R_below (by (with_reducible repeat (first | apply Kd.R_alloc | apply Kd.R_drewN | apply Kd.R_drew)); exact HO_404000.out) hb)
                            have n3_ := Aside0.mk (Kd.R_below (by (with_reducible repeat (first | apply Kd.R_alloc | apply Kd.R_drewN | apply Kd.R_drew)); exact HO438.out) hb)
                            have n4_ := Aside0.mk (blk_below (g := gb399) (o := .cells #[.slice Ao65 x400000_1.length co65] 25 (0, 0)) (by (with_reducible repeat (first | refine blk_drewN ?_ _ | refine blk_drew ?_ | refine blk_alloc ?_ _)); exact BK399.out) hb)
                            have n5_ := Aside0.mk (blk_below (g := gb403) (o := .cells #[.slice Ao68 x404000_1.length co68] 25 (0, 0)) (by (with_reducible repeat (first | refine blk_drewN ?_ _ | refine blk_drew ?_ | refine blk_alloc ?_ _)); exact BK403.out) hb)
                            have n6_ := Aside0.mk (below_step (by repeat (first | (with_reducible first | exact HB.out | apply below_alloc | apply pw_below_drewN | apply below_drew1 | refine below_set ?_ GE399.out | refine below_set ?_ GE403.out) | exact HB.out)) hb)
                            clear HO_9
                            clear HO_400000
                            clear HO_404000
                            clear HO438
                            clear BK399
                            clear BK403
                            clear HB
                            have HO_9 := n0_
                            have HO_400000 := n1_
                            have HO_404000 := n2_
                            have HO438 := n3_
                            have BK399 := n4_
                            have BK403 := n5_
                            have HB := n6_
                            clear n0_ n1_ n2_ n3_ n4_ n5_ n6_
                            (try clear hb)
                            (try clear hb2)
                            (try clear hk)
                            (try clear hi)
                            refine hK.out _ _ ⟨(blk_cell BK399.out 0).trans rfl, HS1_⟩ (fun hHeld => ?_)
                            clear hK K
                            refine norm_ (a' := ?_) ?_ ?_
                            rotate_left
                            · show Act.put _ (some 108) _ = _
                              simp only [Act.put, List.setIfInBounds_toArray, List.set_cons_zero, List.set_cons_succ, i64_w, i32_w]
                              rfl
                            refine pure_ (i := 10) (N := some 109) (v := ?_) (a' := ?_) (bs 12 2047) rfl rfl (any_of HT_.out (by kernel_rfl)) (fun _ _ _ h => h) (Or.inl ⟨by rfl, ?_⟩) ?_ ?_
                            rotate_left; (intro w'; go_simp; with_reducible rfl); rotate_left; (simp only [Act.put, List.setIfInBounds_toArray, List.set_cons_zero, List.set_cons_succ, i64_w, i32_w]; rfl)
                            refine pure_ (i := 11) (N := some 110) (v := ?_) (a' := ?_) (bs 12 4095) rfl rfl (any_of HT_.out (by kernel_rfl)) (fun _ _ _ h => h) (Or.inl ⟨by rfl, ?_⟩) ?_ ?_
                            rotate_left; (intro w'; go_simp; with_reducible rfl); rotate_left; (simp only [Act.put, List.setIfInBounds_toArray, List.set_cons_zero, List.set_cons_succ, i64_w, i32_w]; rfl)
                            refine done_ (done_of HT_.out (by kernel_rfl)) ?_
                            try go_wp2
                            go_roundg k3
                            case measure => have := HK1.out; have := HK2.out; have := HK3.out; omega
                            case rel => exact ⟨(wrap64 (x10_3 + 1)), (by first | rfl | (simp; done) | (simp [*]; done)), H', ⟨by have := HK1.out; have := HK2.out; have := HK3.out; omega⟩, ⟨by (with_reducible repeat (first | apply Kd.R_alloc | apply Kd.R_drewN | apply Kd.R_drew)); exact Kd.R_mono HO_9.out (fun _ hk => trivial)⟩, ⟨by (with_reducible repeat (first | apply Kd.R_alloc | apply Kd.R_drewN | apply Kd.R_drew)); exact HO_400000.out⟩, ⟨by (with_reducible repeat (first | apply Kd.R_alloc | apply Kd.R_drewN | apply Kd.R_drew)); exact HO_404000.out⟩, ⟨by (with_reducible repeat (first | refine blk_drewN ?_ _ | refine blk_drew ?_ | refine blk_alloc ?_ _)); exact BK399.out⟩, ⟨by (with_reducible repeat (first | refine blk_drewN ?_ _ | refine blk_drew ?_ | refine blk_alloc ?_ _)); exact BK403.out⟩, ⟨by repeat (first | (with_reducible first | exact HB.out | apply below_alloc | apply pw_below_drewN | apply below_drew1 | refine below_set ?_ GE399.out | refine below_set ?_ GE403.out) | exact HB.out)⟩⟩
                          · replace c78 := Bool.eq_false_iff.mpr c78
                            subst c78
                            have H1 : (some false) = some r := by rw [if_neg (show ¬ (false = true) by decide)] at H; exact H
                            clear H
                            have H := H1
                            clear H1
                            exact absurd ((Option.some.inj H).trans HT_.out) (by decide)
                        · replace c76 := Bool.eq_false_iff.mpr c76
                          subst c76
                          have H1 : (some false) = some r := by rw [if_neg (show ¬ (false = true) by decide)] at H; exact H
                          clear H
                          have H := H1
                          clear H1
                          exact absurd ((Option.some.inj H).trans HT_.out) (by decide)
                      · rw [if_neg c73] at H
                        exact absurd H (by simp)
                    · rw [if_neg c72] at H
                      have c72b0 : decide (x10_3 < (t428.length : Int)) = false := decide_eq_false c72
                      clear c72
                      have H' := Aside0.mk H
                      clear H
                      go_wp2
                      go_roundg k3
                      case measure => have := HK1.out; have := HK2.out; have := HK3.out; omega
                      case rel => exact ⟨(wrap64 (x8_2 + 1)), (by first | rfl | (simp; done) | (simp [*]; done)), H', ⟨by have := HK1.out; have := HK2.out; have := HK3.out; omega⟩, ⟨by (with_reducible repeat (first | apply Kd.R_alloc | apply Kd.R_drewN | apply Kd.R_drew)); exact HO_400000.out⟩, ⟨by (with_reducible repeat (first | apply Kd.R_alloc | apply Kd.R_drewN | apply Kd.R_drew)); exact HO_404000.out⟩, ⟨by (with_reducible repeat (first | refine blk_drewN ?_ _ | refine blk_drew ?_ | refine blk_alloc ?_ _)); exact BK399.out⟩, ⟨by (with_reducible repeat (first | refine blk_drewN ?_ _ | refine blk_drew ?_ | refine blk_alloc ?_ _)); exact BK403.out⟩, ⟨by repeat (first | (with_reducible first | exact HB.out | apply below_alloc | apply pw_below_drewN | apply below_drew1 | refine below_set ?_ GE399.out | refine below_set ?_ GE403.out) | exact HB.out)⟩⟩
              · rw [if_neg c62] at H
                have c62b0 : (t434 == 0) = false := beq_eq_false_iff_ne.mpr c62
                have c62b1 : (t434 != 0) = true := bne_iff_ne.mpr c62
                exact absurd ((Option.some.inj H).trans HT_.out) (by decide)
            · rw [if_neg c58] at H
              have c58b0 : decide (x8_2 < 12) = false := decide_eq_false c58
              clear c58
              obtain rfl := Option.some.inj H
              go_wp2
              go_ret
              exact ⟨by first | rfl | (simp [errW_none, errW_some] <;> rfl) | (simp only [← hji5]; first | rfl | (simp [errW_none, errW_some] <;> rfl)) | (simp [*, errW_none, errW_some] <;> rfl), by repeat (first | (with_reducible first | exact HB.out | apply below_alloc | apply pw_below_drewN | apply below_drew1 | refine below_set ?_ GE399.out | refine below_set ?_ GE403.out) | exact HB.out)⟩

/-- THE ONE PURE STATEMENT of arboristlaw08_GraphOrder. -/
def arboristlaw08_GraphOrder.Pure : Prop := ∀ (l0 : List (List Int)), (l0.length ≤ maxLen ∧ ∀ z0 ∈ l0, (z0.length ≤ maxLen ∧ ∀ z1 ∈ z0, (Lit.int .i64 z1).wf = true)) → ∃ k, arboristlaw08_GraphOrder.f k l0 = some true

end Go.Proofs.YtaodbohfhelokaaDoor.Pr
