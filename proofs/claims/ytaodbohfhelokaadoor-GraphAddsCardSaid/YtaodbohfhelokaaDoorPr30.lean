-- Printed by a program of this session's own (wip/tools/pp.py) over the kit's print.py; Lean checks it.
import Derived.Test.YtaodbohfhelokaaDoorPr0
import Derived.Test.YtaodbohfhelokaaDoorPr8
import Derived.Test.YtaodbohfhelokaaDoorPr11
import Derived.Test.YtaodbohfhelokaaDoorPr12
import Derived.Test.YtaodbohfhelokaaDoorPr16
import Derived.Test.YtaodbohfhelokaaDoorPr17
namespace Go.Proofs.YtaodbohfhelokaaDoor.Pr
open Go.RowKit Go.Proofs.YtaodbohfhelokaaDoorW.PrintWords Go.Proofs.YtaodbohfhelokaaDoorW.PrintLast Go.Proofs.YtaodbohfhelokaaDoorW.PrintMore
attribute [local go_sem] max2_int min2_int max_two min_two max_three min_three max_four min_four   -- for this text's walks alone
set_option linter.unusedVariables false
set_option linter.unusedSimpArgs false

/-! ### arboristlaw08_GraphAdds: function 9 -/
mutual
def arboristlaw08_GraphAdds.l0 : Nat → Int → Int → Bool → List (List Int) → List (List Int) → Bool → Int → Option (Bool)
  | 0, _, _, _, _, _, _, _ => none
  | k + 1, x2, x3, x9, x12, x13, x14, x15 => if x15 < (x12.length : Int) then (arboristlaw08_GraphAdds.l1 k x2 x3 x9 x12 x13 x14 x15 false false 0) else (if x14 = true then (if x9 = true then (some ((x13.length : Int) == (x12.length : Int))) else (some false)) else (if x9 = true then (some ((x13.length : Int) == (wrap64 ((x12.length : Int) - 1)))) else (some false)))
def arboristlaw08_GraphAdds.l1 : Nat → Int → Int → Bool → List (List Int) → List (List Int) → Bool → Int → Bool → Bool → Int → Option (Bool)
  | 0, _, _, _, _, _, _, _, _, _, _ => none
  | k + 1, x2, x3, x9, x12, x13, x14, x15, x16, x17, x18 => if 0 ≤ x15 then (if x15 < (x12.length : Int) then (if x18 < ((rd_L2 x12 x15).length : Int) then (if x16 = true then (if x17 = true then (arboristlaw08_GraphAdds.l1 k x2 x3 x9 x12 x13 x14 x15 true true (wrap64 (x18 + 1))) else (if 0 ≤ x18 then (arboristlaw08_GraphAdds.l1 k x2 x3 x9 x12 x13 x14 x15 true ((rd (rd_L2 x12 x15) x18) == x3) (wrap64 (x18 + 1))) else (none))) else (if 0 ≤ x18 then (if x17 = true then (arboristlaw08_GraphAdds.l1 k x2 x3 x9 x12 x13 x14 x15 ((rd (rd_L2 x12 x15) x18) == x2) true (wrap64 (x18 + 1))) else (arboristlaw08_GraphAdds.l1 k x2 x3 x9 x12 x13 x14 x15 ((rd (rd_L2 x12 x15) x18) == x2) ((rd (rd_L2 x12 x15) x18) == x3) (wrap64 (x18 + 1)))) else (none))) else (if x14 = true then (arboristlaw08_GraphAdds.l0 k x2 x3 x9 x12 x13 true (wrap64 (x15 + 1))) else (if x16 = true then (arboristlaw08_GraphAdds.l0 k x2 x3 x9 x12 x13 x17 (wrap64 (x15 + 1))) else (arboristlaw08_GraphAdds.l0 k x2 x3 x9 x12 x13 false (wrap64 (x15 + 1)))))) else (none)) else (none)
end
def arboristlaw08_GraphAdds.f (k : Nat) (a0 : Int) (l1 : List (List Int)) (a2 : Int) (a3 : Int) : Option (Bool) := (arboristlaw08_shown.f k).bind fun t514 => ((arboristlaw08_made.f k a0 l1).bind fun t515 => (if (t515.length : Int) = 0 then (some t514) else ((arboristref08_Graph.f k t515).bind fun t518 => ((graph_Parts.f k t518).bind fun t522 => ((graph_Join.f t518 (Int.tmod (Go.bits .and .i64 a2 65535) (t515.length : Int)) (Int.tmod (Go.bits .and .i64 a3 65535) (t515.length : Int))).bind fun t525 => ((graph_Parts.f k t525).bind fun t528 => (arboristlaw08_GraphAdds.l0 k (Int.tmod (Go.bits .and .i64 a2 65535) (t515.length : Int)) (Int.tmod (Go.bits .and .i64 a3 65535) (t515.length : Int)) t514 t522 t528 false 0)))))))
theorem arboristlaw08_GraphAdds.mono_l : ∀ k, (∀ y0 y1 y2 y3 y4 y5 y6, LeO (arboristlaw08_GraphAdds.l0 k y0 y1 y2 y3 y4 y5 y6) (arboristlaw08_GraphAdds.l0 (k + 1) y0 y1 y2 y3 y4 y5 y6)) ∧ (∀ y0 y1 y2 y3 y4 y5 y6 y7 y8 y9, LeO (arboristlaw08_GraphAdds.l1 k y0 y1 y2 y3 y4 y5 y6 y7 y8 y9) (arboristlaw08_GraphAdds.l1 (k + 1) y0 y1 y2 y3 y4 y5 y6 y7 y8 y9))
  | 0 => ⟨fun _ _ _ _ _ _ _ r h => by simp [arboristlaw08_GraphAdds.l0] at h, fun _ _ _ _ _ _ _ _ _ _ r h => by simp [arboristlaw08_GraphAdds.l1] at h⟩
  | k + 1 => by
    obtain ⟨ih0, ih1⟩ := arboristlaw08_GraphAdds.mono_l k
    refine ⟨?_, ?_⟩
    all_goals intros
    all_goals (first | unfold arboristlaw08_GraphAdds.l0 | unfold arboristlaw08_GraphAdds.l1)
    all_goals repeat' first
    | (with_reducible exact ih0 _ _ _ _ _ _ _)
    | (with_reducible exact ih1 _ _ _ _ _ _ _ _ _ _)
    | (with_reducible exact arboristlaw08_made.mono _ _ _)
    | (with_reducible exact arboristlaw08_shown.mono _)
    | (with_reducible exact arboristref08_Graph.mono _ _)
    | (with_reducible exact graph_Parts.mono _ _)
    | (with_reducible exact LeO.refl _)
    | (with_reducible exact LeO.none _)
    | (with_reducible refine LeO.ite ?_ ?_)
    | (with_reducible refine LeO.bind ?_ (fun _ => ?_))
    | exact ih0 _ _ _ _ _ _ _
    | exact ih1 _ _ _ _ _ _ _ _ _ _
    | exact arboristlaw08_made.mono _ _ _
    | exact arboristlaw08_shown.mono _
    | exact arboristref08_Graph.mono _ _
    | exact graph_Parts.mono _ _
    | exact LeO.none _
    | refine LeO.ite ?_ ?_
    | refine LeO.bind ?_ (fun _ => ?_)
theorem arboristlaw08_GraphAdds.mono : ∀ a0 a1 a2 a3 k, LeO (arboristlaw08_GraphAdds.f k a0 a1 a2 a3) (arboristlaw08_GraphAdds.f (k + 1) a0 a1 a2 a3) := by
  intro a0 a1 a2 a3 k
  obtain ⟨ih0, ih1⟩ := arboristlaw08_GraphAdds.mono_l k
  unfold arboristlaw08_GraphAdds.f
  repeat' first
      | (with_reducible exact ih0 _ _ _ _ _ _ _)
      | (with_reducible exact ih1 _ _ _ _ _ _ _ _ _ _)
      | (with_reducible exact arboristlaw08_made.mono _ _ _)
      | (with_reducible exact arboristlaw08_shown.mono _)
      | (with_reducible exact arboristref08_Graph.mono _ _)
      | (with_reducible exact graph_Parts.mono _ _)
      | (with_reducible exact LeO.refl _)
      | (with_reducible exact LeO.none _)
      | (with_reducible refine LeO.ite ?_ ?_)
      | (with_reducible refine LeO.bind ?_ (fun _ => ?_))
      | exact ih0 _ _ _ _ _ _ _
      | exact ih1 _ _ _ _ _ _ _ _ _ _
      | exact arboristlaw08_made.mono _ _ _
      | exact arboristlaw08_shown.mono _
      | exact arboristref08_Graph.mono _ _
      | exact graph_Parts.mono _ _
      | exact LeO.none _
      | refine LeO.ite ?_ ?_
      | refine LeO.bind ?_ (fun _ => ?_)
set_option maxHeartbeats 8000000 in
set_option maxRecDepth 100000 in
theorem arboristlaw08_GraphAdds.calls (k : Nat) (a0 : Int) (A1 : Option Addr) (c1 : Nat) (l1 : List (List Int)) (a2 : Int) (a3 : Int) (r : Bool) (w : World) (hTb : Tab64 w) (hr1 : Kd.C (Kd.slice 3 (Kd.int .i64)) w A1 l1.length l1) (hc1 : l1.length ≤ c1) (hT : r = true) (h : arboristlaw08_GraphAdds.f k a0 l1 a2 a3 = some r) :
    Calls Tryd.prog 9 #[.int .i64 a0, .slice A1 l1.length c1, .int .i64 a2, .int .i64 a3] w fun e w' => e = .returned (.bool r) ∧ Below w.heap.size w w' := by
  have HTAB := Aside0.mk hTb
  clear hTb
  have HT_ := Aside0.mk (show r = true from hT)
  clear hT
  have hu25 := Tryd.underlying25
  have HR1 := Aside0.mk hr1
  have HC1 := Aside0.mk hc1
  clear hr1 hc1
  have HB := Aside0.mk (Below.refl w.heap.size w)
  have H : ((arboristlaw08_shown.f k).bind fun t514 => ((arboristlaw08_made.f k a0 l1).bind fun t515 => (if (t515.length : Int) = 0 then (some t514) else ((arboristref08_Graph.f k t515).bind fun t518 => ((graph_Parts.f k t518).bind fun t522 => ((graph_Join.f t518 (Int.tmod (Go.bits .and .i64 a2 65535) (t515.length : Int)) (Int.tmod (Go.bits .and .i64 a3 65535) (t515.length : Int))).bind fun t525 => ((graph_Parts.f k t525).bind fun t528 => (arboristlaw08_GraphAdds.l0 k (Int.tmod (Go.bits .and .i64 a2 65535) (t515.length : Int)) (Int.tmod (Go.bits .and .i64 a3 65535) (t515.length : Int)) t514 t522 t528 false 0)))))))) = some r := h
  clear h
  replace H := Option.bind_eq_some_iff.mp H
  obtain ⟨t514, A50, H⟩ := H
  replace H : ((arboristlaw08_made.f k a0 l1).bind fun t515 => (if (t515.length : Int) = 0 then (some t514) else ((arboristref08_Graph.f k t515).bind fun t518 => ((graph_Parts.f k t518).bind fun t522 => ((graph_Join.f t518 (Int.tmod (Go.bits .and .i64 a2 65535) (t515.length : Int)) (Int.tmod (Go.bits .and .i64 a3 65535) (t515.length : Int))).bind fun t525 => ((graph_Parts.f k t525).bind fun t528 => (arboristlaw08_GraphAdds.l0 k (Int.tmod (Go.bits .and .i64 a2 65535) (t515.length : Int)) (Int.tmod (Go.bits .and .i64 a3 65535) (t515.length : Int)) t514 t522 t528 false 0))))))) = some r := H
  have A5 := Aside0.mk A50
  clear A50
  replace H := Option.bind_eq_some_iff.mp H
  obtain ⟨t515, A60, H⟩ := H
  replace H : (if (t515.length : Int) = 0 then (some t514) else ((arboristref08_Graph.f k t515).bind fun t518 => ((graph_Parts.f k t518).bind fun t522 => ((graph_Join.f t518 (Int.tmod (Go.bits .and .i64 a2 65535) (t515.length : Int)) (Int.tmod (Go.bits .and .i64 a3 65535) (t515.length : Int))).bind fun t525 => ((graph_Parts.f k t525).bind fun t528 => (arboristlaw08_GraphAdds.l0 k (Int.tmod (Go.bits .and .i64 a2 65535) (t515.length : Int)) (Int.tmod (Go.bits .and .i64 a3 65535) (t515.length : Int)) t514 t522 t528 false 0)))))) = some r := H
  have A6 := Aside0.mk A60
  clear A60
  by_cases c7 : (t515.length : Int) = 0
  · rw [if_pos c7] at H
    have c7b0 : ((t515.length : Int) == 0) = true := beq_iff_eq.mpr c7
    have c7b1 : ((t515.length : Int) != 0) = false := bne_eq_false_iff_eq.mpr c7
    clear c7
    obtain rfl := Option.some.inj H
    go_enter Tryd.func9, Tryd.ntmps9
    go_wp2_with (first | ((with_reducible refine gate_callee (f := 11) rfl ?_); refine goesL_ (some 19) rfl rfl Tryd.func11 (by kernel_rfl) rfl #[] rfl (by (try simp only [List.map_toArray, List.map_cons, List.map_nil]); first | done | rfl | (simp only [List.length_drop, List.length_take]; rfl)) ?_; (with_reducible refine (arboristlaw08_shown.calls (hTb := (by first | exact HTAB.out | exact tab_drewN HTAB.out _ | exact tab_below HTAB.out (by repeat (first | (with_reducible first | exact HB.out | apply below_alloc | apply pw_below_drewN | apply below_drew1 | refine below_set ?_ GE521.out) | exact HB.out)))) k  t514 _ A5.out).mono ?_); rintro e w8 ⟨rfl, hb⟩; refine ⟨_, rfl, ?_⟩; have n0_ := Aside0.mk (below_step (by repeat (first | (with_reducible first | exact HB.out | apply below_alloc | apply pw_below_drewN | apply below_drew1) | exact HB.out)) hb); clear HB; have HB := n0_; clear n0_; (try clear hb); (try clear hb2); (try clear hk); (try clear hi)) | ((with_reducible refine gate_callee (f := 15) rfl ?_); refine goesL_ (some 22) rfl rfl Tryd.func15 (by kernel_rfl) rfl #[.int .i64 a0, .slice A1 l1.length c1] rfl (by (try simp only [List.map_toArray, List.map_cons, List.map_nil]); first | done | rfl | (simp only [List.length_drop, List.length_take]; rfl)) ?_; (with_reducible refine (arboristlaw08_made.calls k a0 _ _ l1 t515 _ ?side1 ?side2 A6.out).mono ?_); (case side1 => repeat (first | exact (Kd.C_below HR1.out HB.out) | (with_reducible refine Kd.C_alloc ?_ _) | (with_reducible refine Kd.C_drewN ?_ _) | (with_reducible refine Kd.C_drew ?_))); (case side2 => exact HC1.out); rintro e w9 ⟨v516, rfl, ho0, hb⟩; refine ⟨_, rfl, ?_⟩; have n0_ := Aside0.mk (Kd.S_lower ho0 (below_size (by repeat (first | (with_reducible first | exact HB.out | apply below_alloc | apply pw_below_drewN | apply below_drew1) | exact HB.out)))); have n1_ := Aside0.mk (below_step (by repeat (first | (with_reducible first | exact HB.out | apply below_alloc | apply pw_below_drewN | apply below_drew1) | exact HB.out)) hb); clear HB; have HO517 := n0_; have HB := n1_; clear n0_ n1_; (try clear hb); (try clear hb2); (try clear hk); (try clear hi); (try clear ho0); obtain ⟨Ao10, co10, eo10⟩ := Kd.S_slice HO517.out; subst eo10))
    go_ret
    exact ⟨by first | rfl | (simp [errW_none, errW_some] <;> rfl) | (simp [*, errW_none, errW_some] <;> rfl), by repeat (first | (with_reducible first | exact HB.out | apply below_alloc | apply pw_below_drewN | apply below_drew1) | exact HB.out)⟩
  · rw [if_neg c7] at H
    have c7b0 : ((t515.length : Int) == 0) = false := beq_eq_false_iff_ne.mpr c7
    have c7b1 : ((t515.length : Int) != 0) = true := bne_iff_ne.mpr c7
    have c7b2 : ¬ (t515 = []) := fun h_ => c7 (by rw [h_]; rfl)
    replace H := Option.bind_eq_some_iff.mp H
    obtain ⟨t518, A110, H⟩ := H
    replace H : ((graph_Parts.f k t518).bind fun t522 => ((graph_Join.f t518 (Int.tmod (Go.bits .and .i64 a2 65535) (t515.length : Int)) (Int.tmod (Go.bits .and .i64 a3 65535) (t515.length : Int))).bind fun t525 => ((graph_Parts.f k t525).bind fun t528 => (arboristlaw08_GraphAdds.l0 k (Int.tmod (Go.bits .and .i64 a2 65535) (t515.length : Int)) (Int.tmod (Go.bits .and .i64 a3 65535) (t515.length : Int)) t514 t522 t528 false 0)))) = some r := H
    have A11 := Aside0.mk A110
    clear A110
    replace H := Option.bind_eq_some_iff.mp H
    obtain ⟨t522, A120, H⟩ := H
    replace H : ((graph_Join.f t518 (Int.tmod (Go.bits .and .i64 a2 65535) (t515.length : Int)) (Int.tmod (Go.bits .and .i64 a3 65535) (t515.length : Int))).bind fun t525 => ((graph_Parts.f k t525).bind fun t528 => (arboristlaw08_GraphAdds.l0 k (Int.tmod (Go.bits .and .i64 a2 65535) (t515.length : Int)) (Int.tmod (Go.bits .and .i64 a3 65535) (t515.length : Int)) t514 t522 t528 false 0))) = some r := H
    have A12 := Aside0.mk A120
    clear A120
    replace H := Option.bind_eq_some_iff.mp H
    obtain ⟨t525, A130, H⟩ := H
    replace H : ((graph_Parts.f k t525).bind fun t528 => (arboristlaw08_GraphAdds.l0 k (Int.tmod (Go.bits .and .i64 a2 65535) (t515.length : Int)) (Int.tmod (Go.bits .and .i64 a3 65535) (t515.length : Int)) t514 t522 t528 false 0)) = some r := H
    have A13 := Aside0.mk A130
    clear A130
    replace H := Option.bind_eq_some_iff.mp H
    obtain ⟨t528, A140, H⟩ := H
    replace H : (arboristlaw08_GraphAdds.l0 k (Int.tmod (Go.bits .and .i64 a2 65535) (t515.length : Int)) (Int.tmod (Go.bits .and .i64 a3 65535) (t515.length : Int)) t514 t522 t528 false 0) = some r := H
    have A14 := Aside0.mk A140
    clear A140
    have H' := Aside0.mk H
    clear H
    go_enter Tryd.func9, Tryd.ntmps9
    go_wp2_with (first | ((with_reducible refine gate_callee (f := 11) rfl ?_); refine goesL_ (some 19) rfl rfl Tryd.func11 (by kernel_rfl) rfl #[] rfl (by (try simp only [List.map_toArray, List.map_cons, List.map_nil]); first | done | rfl | (simp only [List.length_drop, List.length_take]; rfl)) ?_; (with_reducible refine (arboristlaw08_shown.calls (hTb := (by first | exact HTAB.out | exact tab_drewN HTAB.out _ | exact tab_below HTAB.out (by repeat (first | (with_reducible first | exact HB.out | apply below_alloc | apply pw_below_drewN | apply below_drew1 | refine below_set ?_ GE521.out) | exact HB.out)))) k  t514 _ A5.out).mono ?_); rintro e w15 ⟨rfl, hb⟩; refine ⟨_, rfl, ?_⟩; have n0_ := Aside0.mk (below_step (by repeat (first | (with_reducible first | exact HB.out | apply below_alloc | apply pw_below_drewN | apply below_drew1) | exact HB.out)) hb); clear HB; have HB := n0_; clear n0_; (try clear hb); (try clear hb2); (try clear hk); (try clear hi)) | ((with_reducible refine gate_callee (f := 15) rfl ?_); refine goesL_ (some 22) rfl rfl Tryd.func15 (by kernel_rfl) rfl #[.int .i64 a0, .slice A1 l1.length c1] rfl (by (try simp only [List.map_toArray, List.map_cons, List.map_nil]); first | done | rfl | (simp only [List.length_drop, List.length_take]; rfl)) ?_; (with_reducible refine (arboristlaw08_made.calls k a0 _ _ l1 t515 _ ?side1 ?side2 A6.out).mono ?_); (case side1 => repeat (first | exact (Kd.C_below HR1.out HB.out) | (with_reducible refine Kd.C_alloc ?_ _) | (with_reducible refine Kd.C_drewN ?_ _) | (with_reducible refine Kd.C_drew ?_))); (case side2 => exact HC1.out); rintro e w16 ⟨v516, rfl, ho0, hb⟩; refine ⟨_, rfl, ?_⟩; have n0_ := Aside0.mk (Kd.S_lower ho0 (below_size (by repeat (first | (with_reducible first | exact HB.out | apply below_alloc | apply pw_below_drewN | apply below_drew1) | exact HB.out)))); have n1_ := Aside0.mk (below_step (by repeat (first | (with_reducible first | exact HB.out | apply below_alloc | apply pw_below_drewN | apply below_drew1) | exact HB.out)) hb); clear HB; have HO517 := n0_; have HB := n1_; clear n0_ n1_; (try clear hb); (try clear hb2); (try clear hk); (try clear hi); (try clear ho0); obtain ⟨Ao17, co17, eo17⟩ := Kd.S_slice HO517.out; subst eo17) | ((with_reducible refine gate_callee (f := 16) rfl ?_); refine goesL_ (some 38) rfl rfl Tryd.func16 (by kernel_rfl) rfl #[.slice Ao17 t515.length co17] rfl (by (try simp only [List.map_toArray, List.map_cons, List.map_nil]); first | done | rfl | (simp only [List.length_drop, List.length_take]; rfl)) ?_; (with_reducible refine (arboristref08_Graph.calls k _ _ t515 t518 _ ?side1 ?side2 A11.out).mono ?_); (case side1 => repeat (first | exact (Kd.S_reads' HO517.out).2.2 | (with_reducible refine Kd.C_alloc ?_ _) | (with_reducible refine Kd.C_drewN ?_ _) | (with_reducible refine Kd.C_drew ?_))); (case side2 => exact (Kd.S_reads' HO517.out).2.1); rintro e w18 ⟨v519, rfl, ho0, hb⟩; refine ⟨_, rfl, ?_⟩; have n0_ := Aside0.mk (Kd.S_below (by (with_reducible repeat (first | apply Kd.S_alloc | apply Kd.S_drewN | apply Kd.S_drew)); exact HO517.out) hb); have n1_ := Aside0.mk (Kd.R_lower ho0 (below_size (by repeat (first | (with_reducible first | exact HB.out | apply below_alloc | apply pw_below_drewN | apply below_drew1) | exact HB.out)))); have n2_ := Aside0.mk (below_step (by repeat (first | (with_reducible first | exact HB.out | apply below_alloc | apply pw_below_drewN | apply below_drew1) | exact HB.out)) hb); clear HO517; clear HB; have HO517 := n0_; have HO520 := n1_; have HB := n2_; clear n0_ n1_ n2_; (try clear hb); (try clear hb2); (try clear hk); (try clear hi); (try clear ho0)) | ((with_reducible refine gate_dst (N := 11) rfl ?_); (try (refine gate_guard (by rfl) ?_; dsimp only)); refine box_event ?hg (N := 11) ?hd (cs := #[.slice none 0 0]) (t := 25) ?hr ?_; (case hd => rfl); (case hg => rfl); (case hr => first | (go_simp; done) | (go_simp; rfl)); intro gb521 hg w19 hbox hb; have n0_ := Aside0.mk (Kd.S_below (by (with_reducible repeat (first | apply Kd.S_alloc | apply Kd.S_drewN | apply Kd.S_drew)); exact HO517.out) hb); have n1_ := Aside0.mk (Kd.R_below (by (with_reducible repeat (first | apply Kd.R_alloc | apply Kd.R_drewN | apply Kd.R_drew)); exact HO520.out) hb); have n2_ := Aside0.mk (below_step (by repeat (first | (with_reducible first | exact HB.out | apply below_alloc | apply pw_below_drewN | apply below_drew1) | exact HB.out)) hb); have n3_ := Aside0.mk (hbox); have n4_ := Aside0.mk ((by rw [hg]; exact (below_size (by repeat (first | (with_reducible first | exact HB.out | apply below_alloc | apply pw_below_drewN | apply below_drew1) | exact HB.out))) : w.heap.size ≤ gb521)); have n5_ := Aside0.mk ((by rw [hg]; exact (below_size (by repeat (first | (with_reducible first | exact HB.out | apply below_alloc | apply pw_below_drewN | apply below_drew1) | exact HB.out))) : w.heap.size ≤ gb521)); clear HO517; clear HO520; clear HB; have HO517 := n0_; have HO520 := n1_; have HB := n2_; have BK521 := n3_; have GW521 := n4_; have GE521 := n5_; clear n0_ n1_ n2_ n3_ n4_ n5_; clear hb hbox hg; obtain ⟨Ao20, co20, eo20⟩ := Kd.R_slice HO520.out; subst eo20; have hcz21_0 : w19.cell? ⟨gb521, 0, none⟩ = some (.slice none 0 0) := (blk_cell BK521.out 0).trans rfl; have hfz21_0 := blk_frozen BK521.out 0) | ((with_reducible refine gate_callee (f := 25) rfl ?_); refine goesL_ (some 40) rfl rfl Tryd.func25 (by kernel_rfl) rfl #[.agg #[.slice Ao20 t518.length co20]] rfl (by (try simp only [List.map_toArray, List.map_cons, List.map_nil]); first | done | rfl | (simp only [List.length_drop, List.length_take]; rfl)) ?_; (with_reducible refine (graph_Parts.calls (hTb := (by first | exact HTAB.out | exact tab_drewN HTAB.out _ | exact tab_below HTAB.out (by repeat (first | (with_reducible first | exact HB.out | apply below_alloc | apply pw_below_drewN | apply below_drew1 | refine below_set ?_ GE521.out) | exact HB.out)))) k _ _ t518 t522 _ ?side1 ?side2 A12.out).mono ?_); (case side1 => refine (Kd.R_reads' (e := 30) (base := w.heap.size) (ok := fun k_ => True) (n := t518.length) (c := co20) ?_).2.2; exact (by (with_reducible repeat (first | apply Kd.R_alloc | apply Kd.R_drewN | apply Kd.R_drew)); exact (Kd.R_mono (Kd.R_far (p := ⟨gb521, 0, none⟩) (Kd.R_types HO520.out BK521.out (by decide)) (fun _ hk => hk.2) (.slice Ao20 t518.length co20)) (fun _ h_ => h_.1)))); (case side2 => exact (Kd.R_reads' HO520.out).2.1); rintro e w22 ⟨v523, rfl, ho0, hb⟩; refine ⟨_, rfl, ?_⟩; have n0_ := Aside0.mk (Kd.S_below (by (with_reducible repeat (first | apply Kd.S_alloc | apply Kd.S_drewN | apply Kd.S_drew)); exact (Kd.S_mono (Kd.S_far (p := ⟨gb521, 0, none⟩) (Kd.S_types HO517.out BK521.out (by decide)) (fun _ hk => hk.2) (.slice Ao20 t518.length co20)) (fun _ h_ => h_.1))) hb); have n1_ := Aside0.mk (Kd.R_below (by (with_reducible repeat (first | apply Kd.R_alloc | apply Kd.R_drewN | apply Kd.R_drew)); exact (Kd.R_mono (Kd.R_far (p := ⟨gb521, 0, none⟩) (Kd.R_types HO520.out BK521.out (by decide)) (fun _ hk => hk.2) (.slice Ao20 t518.length co20)) (fun _ h_ => h_.1))) hb); have n2_ := Aside0.mk (Kd.S_lower ho0 (below_size (by repeat (first | (with_reducible first | exact HB.out | apply below_alloc | apply pw_below_drewN | apply below_drew1 | refine below_set ?_ GE521.out) | exact HB.out)))); have n3_ := Aside0.mk (blk_below (g := gb521) (o := .cells #[.slice Ao20 t518.length co20] 25 (0, 0)) (by (with_reducible repeat (first | refine blk_drewN ?_ _ | refine blk_drew ?_ | refine blk_alloc ?_ _)); refine blk_put (cs := #[.slice none 0 0]) ?_ 0 _ rfl; (with_reducible repeat (first | refine blk_drewN ?_ _ | refine blk_drew ?_ | refine blk_alloc ?_ _)); exact BK521.out) hb); have n4_ := Aside0.mk (below_step (by repeat (first | (with_reducible first | exact HB.out | apply below_alloc | apply pw_below_drewN | apply below_drew1 | refine below_set ?_ GE521.out) | exact HB.out)) hb); clear HO517; clear HO520; clear BK521; clear HB; have HO517 := n0_; have HO520 := n1_; have HO524 := n2_; have BK521 := n3_; have HB := n4_; clear n0_ n1_ n2_ n3_ n4_; (try clear hb); (try clear hb2); (try clear hk); (try clear hi); (try clear ho0); have hcz23_0 : w22.cell? ⟨gb521, 0, none⟩ = some (.slice Ao20 t518.length co20) := (blk_cell BK521.out 0).trans rfl; have hfz23_0 := blk_frozen BK521.out 0) | ((with_reducible refine gate_callee (f := 17) rfl ?_); refine goesL_ (some 44) rfl rfl Tryd.func17 (by kernel_rfl) rfl #[.agg #[.slice Ao20 t518.length co20], .int .i64 (Int.tmod (Go.bits .and .i64 a2 65535) (t515.length : Int)), .int .i64 (Int.tmod (Go.bits .and .i64 a3 65535) (t515.length : Int))] rfl (by (try simp only [List.map_toArray, List.map_cons, List.map_nil]); first | done | rfl | (simp only [List.length_drop, List.length_take]; rfl)) ?_; (with_reducible refine (graph_Join.calls _ _ t518 (Int.tmod (Go.bits .and .i64 a2 65535) (t515.length : Int)) (Int.tmod (Go.bits .and .i64 a3 65535) (t515.length : Int)) t525 _ ?side1 ?side2 A13.out).mono ?_); (case side1 => repeat (first | exact (Kd.R_reads' HO520.out).2.2 | (with_reducible refine Kd.C_alloc ?_ _) | (with_reducible refine Kd.C_drewN ?_ _) | (with_reducible refine Kd.C_drew ?_))); (case side2 => exact (Kd.R_reads' HO520.out).2.1); rintro e w24 ⟨v526, rfl, ho0, hb⟩; refine ⟨_, rfl, ?_⟩; have n0_ := Aside0.mk (Kd.S_below (by (with_reducible repeat (first | apply Kd.S_alloc | apply Kd.S_drewN | apply Kd.S_drew)); exact HO517.out) hb); have n1_ := Aside0.mk (Kd.R_elder' (by (with_reducible repeat (first | apply Kd.R_alloc | apply Kd.R_drewN | apply Kd.R_drew)); exact HO520.out) (Kd.R_base ho0) hb); have n2_ := Aside0.mk (Kd.S_below (by (with_reducible repeat (first | apply Kd.S_alloc | apply Kd.S_drewN | apply Kd.S_drew)); exact HO524.out) hb); have n3_ := Aside0.mk (Kd.R_lower (Kd.R_new' ho0 (Kd.R_lt (by (with_reducible repeat (first | apply Kd.R_alloc | apply Kd.R_drewN | apply Kd.R_drew)); exact HO520.out))) (below_size (by repeat (first | (with_reducible first | exact HB.out | apply below_alloc | apply pw_below_drewN | apply below_drew1 | refine below_set ?_ GE521.out) | exact HB.out)))); have n4_ := Aside0.mk (blk_below (g := gb521) (o := .cells #[.slice Ao20 t518.length co20] 25 (0, 0)) (by (with_reducible repeat (first | refine blk_drewN ?_ _ | refine blk_drew ?_ | refine blk_alloc ?_ _)); exact BK521.out) hb); have n5_ := Aside0.mk (below_step (by repeat (first | (with_reducible first | exact HB.out | apply below_alloc | apply pw_below_drewN | apply below_drew1 | refine below_set ?_ GE521.out) | exact HB.out)) hb); clear HO517; clear HO520; clear HO524; clear BK521; clear HB; have HO517 := n0_; have HO520 := n1_; have HO524 := n2_; have HO527 := n3_; have BK521 := n4_; have HB := n5_; clear n0_ n1_ n2_ n3_ n4_ n5_; (try clear hb); (try clear hb2); (try clear hk); (try clear hi); (try clear ho0); obtain ⟨Ao25, co25, eo25⟩ := Kd.R_slice HO527.out; subst eo25) | ((with_reducible refine gate_callee (f := 25) rfl ?_); refine goesL_ (some 45) rfl rfl Tryd.func25 (by kernel_rfl) rfl #[.agg #[.slice Ao25 t525.length co25]] rfl (by (try simp only [List.map_toArray, List.map_cons, List.map_nil]); first | done | rfl | (simp only [List.length_drop, List.length_take]; rfl)) ?_; (with_reducible refine (graph_Parts.calls (hTb := (by first | exact HTAB.out | exact tab_drewN HTAB.out _ | exact tab_below HTAB.out (by repeat (first | (with_reducible first | exact HB.out | apply below_alloc | apply pw_below_drewN | apply below_drew1 | refine below_set ?_ GE521.out) | exact HB.out)))) k _ _ t525 t528 _ ?side1 ?side2 A14.out).mono ?_); (case side1 => repeat (first | exact (Kd.R_reads' HO527.out).2.2 | (with_reducible refine Kd.C_alloc ?_ _) | (with_reducible refine Kd.C_drewN ?_ _) | (with_reducible refine Kd.C_drew ?_))); (case side2 => exact (Kd.R_reads' HO527.out).2.1); rintro e w26 ⟨v529, rfl, ho0, hb⟩; refine ⟨_, rfl, ?_⟩; have n0_ := Aside0.mk (Kd.S_below (by (with_reducible repeat (first | apply Kd.S_alloc | apply Kd.S_drewN | apply Kd.S_drew)); exact HO517.out) hb); have n1_ := Aside0.mk (Kd.R_below (by (with_reducible repeat (first | apply Kd.R_alloc | apply Kd.R_drewN | apply Kd.R_drew)); exact HO520.out) hb); have n2_ := Aside0.mk (Kd.S_elder' (by (with_reducible repeat (first | apply Kd.S_alloc | apply Kd.S_drewN | apply Kd.S_drew)); exact HO524.out) (Kd.S_base ho0) hb); have n3_ := Aside0.mk (Kd.R_below (by (with_reducible repeat (first | apply Kd.R_alloc | apply Kd.R_drewN | apply Kd.R_drew)); exact HO527.out) hb); have n4_ := Aside0.mk (Kd.S_lower (Kd.S_new' ho0 (Kd.S_lt (by (with_reducible repeat (first | apply Kd.S_alloc | apply Kd.S_drewN | apply Kd.S_drew)); exact HO524.out))) (below_size (by repeat (first | (with_reducible first | exact HB.out | apply below_alloc | apply pw_below_drewN | apply below_drew1 | refine below_set ?_ GE521.out) | exact HB.out)))); have n5_ := Aside0.mk (blk_below (g := gb521) (o := .cells #[.slice Ao20 t518.length co20] 25 (0, 0)) (by (with_reducible repeat (first | refine blk_drewN ?_ _ | refine blk_drew ?_ | refine blk_alloc ?_ _)); exact BK521.out) hb); have n6_ := Aside0.mk (below_step (by repeat (first | (with_reducible first | exact HB.out | apply below_alloc | apply pw_below_drewN | apply below_drew1 | refine below_set ?_ GE521.out) | exact HB.out)) hb); clear HO517; clear HO520; clear HO524; clear HO527; clear BK521; clear HB; have HO517 := n0_; have HO520 := n1_; have HO524 := n2_; have HO527 := n3_; have HO530 := n4_; have BK521 := n5_; have HB := n6_; clear n0_ n1_ n2_ n3_ n4_ n5_ n6_; (try clear hb); (try clear hb2); (try clear hk); (try clear hi); (try clear ho0)))
    go_loopg [14, 15] k (fun kq v14 v15 w' => ∃ (x14_1 : Bool) (x15_1 : Int), v14 = .bool x14_1 ∧ v15 = .int .i64 x15_1 ∧ Aside0 (arboristlaw08_GraphAdds.l0 kq (Int.tmod (Go.bits .and .i64 a2 65535) (t515.length : Int)) (Int.tmod (Go.bits .and .i64 a3 65535) (t515.length : Int)) t514 t522 t528 x14_1 x15_1 = some r) ∧ Aside0 (kq ≤ k) ∧ Aside0 (Kd.S (Kd.slice 3 (Kd.int .i64)) 34 w' w.heap.size (fun k_ => some k_ ≠ (v529 : Value).ownBlock) v523 t522) ∧ Aside0 (Kd.S (Kd.slice 3 (Kd.int .i64)) 34 w' w.heap.size (fun k_ => some k_ ≠ (v523 : Value).ownBlock) v529 t528) ∧ Aside0 (Kd.R (Kd.int .u64) 30 w' w.heap.size (fun _ => True) (.slice Ao20 t518.length co20) t518) ∧ Aside0 (w'.heap[gb521]? = some (.cells #[(.slice Ao20 t518.length co20)] 25 (0, 0))) ∧ Aside0 (Below w.heap.size w w'))
    case atStart => exact ⟨(false), (0), (by first | rfl | (simp; done) | (simp [*]; done)), (by first | rfl | (simp; done) | (simp [*]; done)), H', ⟨Nat.le_refl _⟩, ⟨by (with_reducible repeat (first | apply Kd.S_alloc | apply Kd.S_drewN | apply Kd.S_drew)); exact Kd.S_mono HO524.out (fun _ hk => hk.2)⟩, ⟨by (with_reducible repeat (first | apply Kd.S_alloc | apply Kd.S_drewN | apply Kd.S_drew)); exact Kd.S_mono HO530.out (fun _ hk => hk.2)⟩, ⟨by (with_reducible repeat (first | apply Kd.R_alloc | apply Kd.R_drewN | apply Kd.R_drew)); exact Kd.R_mono HO520.out (fun _ hk => trivial)⟩, ⟨by (with_reducible repeat (first | refine blk_drewN ?_ _ | refine blk_drew ?_ | refine blk_alloc ?_ _)); exact BK521.out⟩, ⟨by repeat (first | (with_reducible first | exact HB.out | apply below_alloc | apply pw_below_drewN | apply below_drew1 | refine below_set ?_ GE521.out) | exact HB.out)⟩⟩
    case round =>
      clear H'
      try clear c1
      try clear c2
      try clear p2
      try clear c7
      try clear c7b0
      try clear c7b1
      try clear c7b2
      try clear c9
      try clear c11
      try clear c15
      try clear c16
      try clear c17
      try clear c25
      try clear hcz21_0
      try clear hcz23_0
      try clear hfz21_0
      try clear hfz23_0
      obtain ⟨x14_1, x15_1, rfl, rfl, HA, HK1, HO_12, HO_13, HO_522000, BK521, HB⟩ := hrel
      cases gk with
      | zero => exact absurd HA.out (by simp [arboristlaw08_GraphAdds.l0])
      | succ k1 =>
        have H := HA.out
        clear HA
        simp only [arboristlaw08_GraphAdds.l0] at H
        by_cases c27 : x15_1 < (t522.length : Int)
        · rw [if_pos c27] at H
          have c27b0 : decide (x15_1 < (t522.length : Int)) = true := decide_eq_true c27
          clear c27
          have H' := Aside0.mk H
          clear H
          obtain ⟨Ao28, co28, eo28⟩ := Kd.S_slice HO_12.out
          subst eo28
          go_wp2
          go_loopg [16, 17, 18] k1 (fun kq v16 v17 v18 w' => ∃ (x16_2 : Bool) (x17_2 : Bool) (x18_2 : Int), v16 = .bool x16_2 ∧ v17 = .bool x17_2 ∧ v18 = .int .i64 x18_2 ∧ Aside0 (arboristlaw08_GraphAdds.l1 kq (Int.tmod (Go.bits .and .i64 a2 65535) (t515.length : Int)) (Int.tmod (Go.bits .and .i64 a3 65535) (t515.length : Int)) t514 t522 t528 x14_1 x15_1 x16_2 x17_2 x18_2 = some r) ∧ Aside0 (kq ≤ k1) ∧ Aside0 (Kd.S (Kd.slice 3 (Kd.int .i64)) 34 w' w.heap.size (fun k_ => some k_ ≠ (v529 : Value).ownBlock) (.slice Ao28 t522.length co28) t522) ∧ Aside0 (Kd.S (Kd.slice 3 (Kd.int .i64)) 34 w' w.heap.size (fun k_ => some k_ ≠ ((.slice Ao28 t522.length co28) : Value).ownBlock) v529 t528) ∧ Aside0 (Kd.R (Kd.int .u64) 30 w' w.heap.size (fun _ => True) (.slice Ao20 t518.length co20) t518) ∧ Aside0 (w'.heap[gb521]? = some (.cells #[(.slice Ao20 t518.length co20)] 25 (0, 0))) ∧ Aside0 (Below w.heap.size w w'))
          case atStart => exact ⟨(false), (false), (0), (by first | rfl | (simp; done) | (simp [*]; done)), (by first | rfl | (simp; done) | (simp [*]; done)), (by first | rfl | (simp; done) | (simp [*]; done)), H', ⟨Nat.le_refl _⟩, ⟨by (with_reducible repeat (first | apply Kd.S_alloc | apply Kd.S_drewN | apply Kd.S_drew)); exact HO_12.out⟩, ⟨by (with_reducible repeat (first | apply Kd.S_alloc | apply Kd.S_drewN | apply Kd.S_drew)); exact HO_13.out⟩, ⟨by (with_reducible repeat (first | apply Kd.R_alloc | apply Kd.R_drewN | apply Kd.R_drew)); exact HO_522000.out⟩, ⟨by (with_reducible repeat (first | refine blk_drewN ?_ _ | refine blk_drew ?_ | refine blk_alloc ?_ _)); exact BK521.out⟩, ⟨by repeat (first | (with_reducible first | exact HB.out | apply below_alloc | apply pw_below_drewN | apply below_drew1 | refine below_set ?_ GE521.out) | exact HB.out)⟩⟩
          case round =>
            clear H'
            try clear c1
            try clear c2
            try clear p2
            try clear c7
            try clear c7b0
            try clear c7b1
            try clear c7b2
            try clear c9
            try clear c11
            try clear c15
            try clear c16
            try clear c17
            try clear c25
            try clear c27
            try clear c27b0
            try clear hcz21_0
            try clear hcz23_0
            try clear hfz21_0
            try clear hfz23_0
            try clear p2
            obtain ⟨x16_2, x17_2, x18_2, rfl, rfl, rfl, HA, HK2, HO_12, HO_13, HO_522000, BK521, HB⟩ := hrel
            cases gk with
            | zero => exact absurd HA.out (by simp [arboristlaw08_GraphAdds.l1])
            | succ k2 =>
              have H := HA.out
              clear HA
              simp only [arboristlaw08_GraphAdds.l1] at H
              by_cases c29 : 0 ≤ x15_1
              · rw [if_pos c29] at H
                have c29b0 : decide (0 ≤ x15_1) = true := decide_eq_true c29
                clear c29
                by_cases c30 : x15_1 < (t522.length : Int)
                · rw [if_pos c30] at H
                  have c30b0 : decide (x15_1 < (t522.length : Int)) = true := decide_eq_true c30
                  clear c30
                  by_cases c31 : x18_2 < ((rd_L2 t522 x15_1).length : Int)
                  · rw [if_pos c31] at H
                    have c31b0 : decide (x18_2 < ((rd_L2 t522 x15_1).length : Int)) = true := decide_eq_true c31
                    clear c31
                    by_cases c32 : x16_2 = true
                    · subst c32
                      have H1 : (if x17_2 = true then (arboristlaw08_GraphAdds.l1 k2 (Int.tmod (Go.bits .and .i64 a2 65535) (t515.length : Int)) (Int.tmod (Go.bits .and .i64 a3 65535) (t515.length : Int)) t514 t522 t528 x14_1 x15_1 true true (wrap64 (x18_2 + 1))) else (if 0 ≤ x18_2 then (arboristlaw08_GraphAdds.l1 k2 (Int.tmod (Go.bits .and .i64 a2 65535) (t515.length : Int)) (Int.tmod (Go.bits .and .i64 a3 65535) (t515.length : Int)) t514 t522 t528 x14_1 x15_1 true ((rd (rd_L2 t522 x15_1) x18_2) == (Int.tmod (Go.bits .and .i64 a3 65535) (t515.length : Int))) (wrap64 (x18_2 + 1))) else (none))) = some r := by rw [if_pos rfl] at H; exact H
                      clear H
                      have H := H1
                      clear H1
                      by_cases c33 : x17_2 = true
                      · subst c33
                        have H1 : (arboristlaw08_GraphAdds.l1 k2 (Int.tmod (Go.bits .and .i64 a2 65535) (t515.length : Int)) (Int.tmod (Go.bits .and .i64 a3 65535) (t515.length : Int)) t514 t522 t528 x14_1 x15_1 true true (wrap64 (x18_2 + 1))) = some r := by rw [if_pos rfl] at H; exact H
                        clear H
                        have H := H1
                        clear H1
                        have H' := Aside0.mk H
                        clear H
                        have p531 : 0 ≤ (x15_1 : Int) := of_decide_eq_true (by first | (with_reducible assumption) | assumption)
                        have q531 : x15_1 < (t522.length : Int) := of_decide_eq_true (by first | (with_reducible assumption) | assumption)
                        obtain ⟨ad531, A531_0, c531_0, e531, hx531_0, hl531_0, hi531_0⟩ := at_L2 (Kd.S_reads' HO_12.out).2.2 x15_1 p531 q531
                        cases e531
                        obtain ⟨ce531, hce531, hMe531, hcc531⟩ := Kd.S_get HO_12.out [] x15_1 p531 (by first | exact q531 | exact of_decide_eq_true (by first | (with_reducible assumption) | assumption) | (have e_ := (Kd.S_reads' HO_12.out).1; omega))
                        obtain ⟨ve531_0, rfl, ge531_0⟩ := hMe531
                        have hv531_0 := hcc531 0 _ rfl
                        rw [Nat.add_zero, show ((Kd.slice 3 (Kd.int .i64))).sz = 1 from rfl, Nat.mul_one] at hv531_0
                        replace hv531_0 := Option.some.inj (hv531_0.symm.trans hx531_0)
                        rw [hv531_0] at ge531_0
                        have HL531_0 := Aside0.mk (show Kd.R (Kd.int .i64) 3 _ _ _ _ (rd_L2 t522 x15_1) from ge531_0)
                        clear hv531_0 ge531_0
                        clear hcc531 hce531
                        have HR531_0 := Aside0.mk hi531_0
                        have HC531_0 := Aside0.mk hl531_0
                        clear hi531_0 hl531_0
                        replace p531 := eq_true p531
                        replace q531 := eq_true q531
                        go_wp2
                        go_roundg k2
                        case measure => have := HK1.out; have := HK2.out; omega
                        case rel => exact ⟨(true), (true), (wrap64 (x18_2 + 1)), (by first | rfl | (simp; done) | (simp [*]; done)), (by first | rfl | (simp; done) | (simp [*]; done)), (by first | rfl | (simp; done) | (simp [*]; done)), H', ⟨by have := HK1.out; have := HK2.out; omega⟩, ⟨by (with_reducible repeat (first | apply Kd.S_alloc | apply Kd.S_drewN | apply Kd.S_drew)); exact HO_12.out⟩, ⟨by (with_reducible repeat (first | apply Kd.S_alloc | apply Kd.S_drewN | apply Kd.S_drew)); exact HO_13.out⟩, ⟨by (with_reducible repeat (first | apply Kd.R_alloc | apply Kd.R_drewN | apply Kd.R_drew)); exact HO_522000.out⟩, ⟨by (with_reducible repeat (first | refine blk_drewN ?_ _ | refine blk_drew ?_ | refine blk_alloc ?_ _)); exact BK521.out⟩, ⟨by repeat (first | (with_reducible first | exact HB.out | apply below_alloc | apply pw_below_drewN | apply below_drew1 | refine below_set ?_ GE521.out) | exact HB.out)⟩⟩
                      · replace c33 := Bool.eq_false_iff.mpr c33
                        subst c33
                        have H1 : (if 0 ≤ x18_2 then (arboristlaw08_GraphAdds.l1 k2 (Int.tmod (Go.bits .and .i64 a2 65535) (t515.length : Int)) (Int.tmod (Go.bits .and .i64 a3 65535) (t515.length : Int)) t514 t522 t528 x14_1 x15_1 true ((rd (rd_L2 t522 x15_1) x18_2) == (Int.tmod (Go.bits .and .i64 a3 65535) (t515.length : Int))) (wrap64 (x18_2 + 1))) else (none)) = some r := by rw [if_neg (show ¬ (false = true) by decide)] at H; exact H
                        clear H
                        have H := H1
                        clear H1
                        by_cases c34 : 0 ≤ x18_2
                        · rw [if_pos c34] at H
                          have c34b0 : decide (0 ≤ x18_2) = true := decide_eq_true c34
                          clear c34
                          have H' := Aside0.mk H
                          clear H
                          have p531 : 0 ≤ (x15_1 : Int) := of_decide_eq_true (by first | (with_reducible assumption) | assumption)
                          have q531 : x15_1 < (t522.length : Int) := of_decide_eq_true (by first | (with_reducible assumption) | assumption)
                          obtain ⟨ad531, A531_0, c531_0, e531, hx531_0, hl531_0, hi531_0⟩ := at_L2 (Kd.S_reads' HO_12.out).2.2 x15_1 p531 q531
                          cases e531
                          obtain ⟨ce531, hce531, hMe531, hcc531⟩ := Kd.S_get HO_12.out [] x15_1 p531 (by first | exact q531 | exact of_decide_eq_true (by first | (with_reducible assumption) | assumption) | (have e_ := (Kd.S_reads' HO_12.out).1; omega))
                          obtain ⟨ve531_0, rfl, ge531_0⟩ := hMe531
                          have hv531_0 := hcc531 0 _ rfl
                          rw [Nat.add_zero, show ((Kd.slice 3 (Kd.int .i64))).sz = 1 from rfl, Nat.mul_one] at hv531_0
                          replace hv531_0 := Option.some.inj (hv531_0.symm.trans hx531_0)
                          rw [hv531_0] at ge531_0
                          have HL531_0 := Aside0.mk (show Kd.R (Kd.int .i64) 3 _ _ _ _ (rd_L2 t522 x15_1) from ge531_0)
                          clear hv531_0 ge531_0
                          clear hcc531 hce531
                          have HR531_0 := Aside0.mk hi531_0
                          have HC531_0 := Aside0.mk hl531_0
                          clear hi531_0 hl531_0
                          replace p531 := eq_true p531
                          replace q531 := eq_true q531
                          have p532 : 0 ≤ (x15_1 : Int) := of_decide_eq_true (by first | (with_reducible assumption) | assumption)
                          have q532 : x15_1 < (t522.length : Int) := of_decide_eq_true (by first | (with_reducible assumption) | assumption)
                          obtain ⟨ad532, A532_0, c532_0, e532, hx532_0, hl532_0, hi532_0⟩ := at_L2 (Kd.S_reads' HO_12.out).2.2 x15_1 p532 q532
                          obtain rfl : ad531 = ad532 := (by injection e532)
                          obtain ⟨ce532, hce532, hMe532, hcc532⟩ := Kd.S_get HO_12.out [] x15_1 p532 (by first | exact q532 | exact of_decide_eq_true (by first | (with_reducible assumption) | assumption) | (have e_ := (Kd.S_reads' HO_12.out).1; omega))
                          obtain ⟨ve532_0, rfl, ge532_0⟩ := hMe532
                          have hv532_0 := hcc532 0 _ rfl
                          rw [Nat.add_zero, show ((Kd.slice 3 (Kd.int .i64))).sz = 1 from rfl, Nat.mul_one] at hv532_0
                          replace hv532_0 := Option.some.inj (hv532_0.symm.trans hx532_0)
                          rw [hv532_0] at ge532_0
                          have HL532_0 := Aside0.mk (show Kd.R (Kd.int .i64) 3 _ _ _ _ (rd_L2 t522 x15_1) from ge532_0)
                          clear hv532_0 ge532_0
                          clear hcc532 hce532
                          have HR532_0 := Aside0.mk hi532_0
                          have HC532_0 := Aside0.mk hl532_0
                          clear hi532_0 hl532_0
                          replace p532 := eq_true p532
                          replace q532 := eq_true q532
                          have ea_ := Option.some.inj (hx531_0.symm.trans hx532_0)
                          injection ea_ with ea_ en_ ec_
                          subst ea_
                          subst ec_
                          clear en_
                          have p533 : 0 ≤ (x18_2 : Int) := of_decide_eq_true (by first | (with_reducible assumption) | assumption)
                          have q533 : x18_2 < ((rd_L2 t522 x15_1).length : Int) := of_decide_eq_true (by first | (with_reducible assumption) | assumption)
                          obtain ⟨ad533, e533, hx533_0⟩ := Kd.at_int (by repeat (first | (with_reducible exact HR532_0.out) | (with_reducible refine Kd.C_alloc ?_ _) | (with_reducible refine Kd.C_drewN ?_ _) | (with_reducible refine Kd.C_drew ?_) | exact HR532_0.out)) x18_2 p533 q533
                          cases e533
                          replace p533 := eq_true p533
                          replace q533 := eq_true q533
                          go_wp2
                          go_roundg k2
                          case measure => have := HK1.out; have := HK2.out; omega
                          case rel => exact ⟨(true), (((rd (rd_L2 t522 x15_1) x18_2) == (Int.tmod (Go.bits .and .i64 a3 65535) (t515.length : Int)))), (wrap64 (x18_2 + 1)), (by first | rfl | (simp; done) | (simp [*]; done)), (by first | rfl | (simp; done) | (simp [*]; done)), (by first | rfl | (simp; done) | (simp [*]; done)), H', ⟨by have := HK1.out; have := HK2.out; omega⟩, ⟨by (with_reducible repeat (first | apply Kd.S_alloc | apply Kd.S_drewN | apply Kd.S_drew)); exact HO_12.out⟩, ⟨by (with_reducible repeat (first | apply Kd.S_alloc | apply Kd.S_drewN | apply Kd.S_drew)); exact HO_13.out⟩, ⟨by (with_reducible repeat (first | apply Kd.R_alloc | apply Kd.R_drewN | apply Kd.R_drew)); exact HO_522000.out⟩, ⟨by (with_reducible repeat (first | refine blk_drewN ?_ _ | refine blk_drew ?_ | refine blk_alloc ?_ _)); exact BK521.out⟩, ⟨by repeat (first | (with_reducible first | exact HB.out | apply below_alloc | apply pw_below_drewN | apply below_drew1 | refine below_set ?_ GE521.out) | exact HB.out)⟩⟩
                        · rw [if_neg c34] at H
                          exact absurd H (by simp)
                    · replace c32 := Bool.eq_false_iff.mpr c32
                      subst c32
                      have H1 : (if 0 ≤ x18_2 then (if x17_2 = true then (arboristlaw08_GraphAdds.l1 k2 (Int.tmod (Go.bits .and .i64 a2 65535) (t515.length : Int)) (Int.tmod (Go.bits .and .i64 a3 65535) (t515.length : Int)) t514 t522 t528 x14_1 x15_1 ((rd (rd_L2 t522 x15_1) x18_2) == (Int.tmod (Go.bits .and .i64 a2 65535) (t515.length : Int))) true (wrap64 (x18_2 + 1))) else (arboristlaw08_GraphAdds.l1 k2 (Int.tmod (Go.bits .and .i64 a2 65535) (t515.length : Int)) (Int.tmod (Go.bits .and .i64 a3 65535) (t515.length : Int)) t514 t522 t528 x14_1 x15_1 ((rd (rd_L2 t522 x15_1) x18_2) == (Int.tmod (Go.bits .and .i64 a2 65535) (t515.length : Int))) ((rd (rd_L2 t522 x15_1) x18_2) == (Int.tmod (Go.bits .and .i64 a3 65535) (t515.length : Int))) (wrap64 (x18_2 + 1)))) else (none)) = some r := by rw [if_neg (show ¬ (false = true) by decide)] at H; exact H
                      clear H
                      have H := H1
                      clear H1
                      by_cases c35 : 0 ≤ x18_2
                      · rw [if_pos c35] at H
                        have c35b0 : decide (0 ≤ x18_2) = true := decide_eq_true c35
                        clear c35
                        by_cases c36 : x17_2 = true
                        · subst c36
                          have H1 : (arboristlaw08_GraphAdds.l1 k2 (Int.tmod (Go.bits .and .i64 a2 65535) (t515.length : Int)) (Int.tmod (Go.bits .and .i64 a3 65535) (t515.length : Int)) t514 t522 t528 x14_1 x15_1 ((rd (rd_L2 t522 x15_1) x18_2) == (Int.tmod (Go.bits .and .i64 a2 65535) (t515.length : Int))) true (wrap64 (x18_2 + 1))) = some r := by rw [if_pos rfl] at H; exact H
                          clear H
                          have H := H1
                          clear H1
                          have H' := Aside0.mk H
                          clear H
                          have p531 : 0 ≤ (x15_1 : Int) := of_decide_eq_true (by first | (with_reducible assumption) | assumption)
                          have q531 : x15_1 < (t522.length : Int) := of_decide_eq_true (by first | (with_reducible assumption) | assumption)
                          obtain ⟨ad531, A531_0, c531_0, e531, hx531_0, hl531_0, hi531_0⟩ := at_L2 (Kd.S_reads' HO_12.out).2.2 x15_1 p531 q531
                          cases e531
                          obtain ⟨ce531, hce531, hMe531, hcc531⟩ := Kd.S_get HO_12.out [] x15_1 p531 (by first | exact q531 | exact of_decide_eq_true (by first | (with_reducible assumption) | assumption) | (have e_ := (Kd.S_reads' HO_12.out).1; omega))
                          obtain ⟨ve531_0, rfl, ge531_0⟩ := hMe531
                          have hv531_0 := hcc531 0 _ rfl
                          rw [Nat.add_zero, show ((Kd.slice 3 (Kd.int .i64))).sz = 1 from rfl, Nat.mul_one] at hv531_0
                          replace hv531_0 := Option.some.inj (hv531_0.symm.trans hx531_0)
                          rw [hv531_0] at ge531_0
                          have HL531_0 := Aside0.mk (show Kd.R (Kd.int .i64) 3 _ _ _ _ (rd_L2 t522 x15_1) from ge531_0)
                          clear hv531_0 ge531_0
                          clear hcc531 hce531
                          have HR531_0 := Aside0.mk hi531_0
                          have HC531_0 := Aside0.mk hl531_0
                          clear hi531_0 hl531_0
                          replace p531 := eq_true p531
                          replace q531 := eq_true q531
                          have p534 : 0 ≤ (x15_1 : Int) := of_decide_eq_true (by first | (with_reducible assumption) | assumption)
                          have q534 : x15_1 < (t522.length : Int) := of_decide_eq_true (by first | (with_reducible assumption) | assumption)
                          obtain ⟨ad534, A534_0, c534_0, e534, hx534_0, hl534_0, hi534_0⟩ := at_L2 (Kd.S_reads' HO_12.out).2.2 x15_1 p534 q534
                          obtain rfl : ad531 = ad534 := (by injection e534)
                          obtain ⟨ce534, hce534, hMe534, hcc534⟩ := Kd.S_get HO_12.out [] x15_1 p534 (by first | exact q534 | exact of_decide_eq_true (by first | (with_reducible assumption) | assumption) | (have e_ := (Kd.S_reads' HO_12.out).1; omega))
                          obtain ⟨ve534_0, rfl, ge534_0⟩ := hMe534
                          have hv534_0 := hcc534 0 _ rfl
                          rw [Nat.add_zero, show ((Kd.slice 3 (Kd.int .i64))).sz = 1 from rfl, Nat.mul_one] at hv534_0
                          replace hv534_0 := Option.some.inj (hv534_0.symm.trans hx534_0)
                          rw [hv534_0] at ge534_0
                          have HL534_0 := Aside0.mk (show Kd.R (Kd.int .i64) 3 _ _ _ _ (rd_L2 t522 x15_1) from ge534_0)
                          clear hv534_0 ge534_0
                          clear hcc534 hce534
                          have HR534_0 := Aside0.mk hi534_0
                          have HC534_0 := Aside0.mk hl534_0
                          clear hi534_0 hl534_0
                          replace p534 := eq_true p534
                          replace q534 := eq_true q534
                          have ea_ := Option.some.inj (hx531_0.symm.trans hx534_0)
                          injection ea_ with ea_ en_ ec_
                          subst ea_
                          subst ec_
                          clear en_
                          have p535 : 0 ≤ (x18_2 : Int) := of_decide_eq_true (by first | (with_reducible assumption) | assumption)
                          have q535 : x18_2 < ((rd_L2 t522 x15_1).length : Int) := of_decide_eq_true (by first | (with_reducible assumption) | assumption)
                          obtain ⟨ad535, e535, hx535_0⟩ := Kd.at_int (by repeat (first | (with_reducible exact HR534_0.out) | (with_reducible refine Kd.C_alloc ?_ _) | (with_reducible refine Kd.C_drewN ?_ _) | (with_reducible refine Kd.C_drew ?_) | exact HR534_0.out)) x18_2 p535 q535
                          cases e535
                          replace p535 := eq_true p535
                          replace q535 := eq_true q535
                          go_wp2
                          go_roundg k2
                          case measure => have := HK1.out; have := HK2.out; omega
                          case rel => exact ⟨(((rd (rd_L2 t522 x15_1) x18_2) == (Int.tmod (Go.bits .and .i64 a2 65535) (t515.length : Int)))), (true), (wrap64 (x18_2 + 1)), (by first | rfl | (simp; done) | (simp [*]; done)), (by first | rfl | (simp; done) | (simp [*]; done)), (by first | rfl | (simp; done) | (simp [*]; done)), H', ⟨by have := HK1.out; have := HK2.out; omega⟩, ⟨by (with_reducible repeat (first | apply Kd.S_alloc | apply Kd.S_drewN | apply Kd.S_drew)); exact HO_12.out⟩, ⟨by (with_reducible repeat (first | apply Kd.S_alloc | apply Kd.S_drewN | apply Kd.S_drew)); exact HO_13.out⟩, ⟨by (with_reducible repeat (first | apply Kd.R_alloc | apply Kd.R_drewN | apply Kd.R_drew)); exact HO_522000.out⟩, ⟨by (with_reducible repeat (first | refine blk_drewN ?_ _ | refine blk_drew ?_ | refine blk_alloc ?_ _)); exact BK521.out⟩, ⟨by repeat (first | (with_reducible first | exact HB.out | apply below_alloc | apply pw_below_drewN | apply below_drew1 | refine below_set ?_ GE521.out) | exact HB.out)⟩⟩
                        · replace c36 := Bool.eq_false_iff.mpr c36
                          subst c36
                          have H1 : (arboristlaw08_GraphAdds.l1 k2 (Int.tmod (Go.bits .and .i64 a2 65535) (t515.length : Int)) (Int.tmod (Go.bits .and .i64 a3 65535) (t515.length : Int)) t514 t522 t528 x14_1 x15_1 ((rd (rd_L2 t522 x15_1) x18_2) == (Int.tmod (Go.bits .and .i64 a2 65535) (t515.length : Int))) ((rd (rd_L2 t522 x15_1) x18_2) == (Int.tmod (Go.bits .and .i64 a3 65535) (t515.length : Int))) (wrap64 (x18_2 + 1))) = some r := by rw [if_neg (show ¬ (false = true) by decide)] at H; exact H
                          clear H
                          have H := H1
                          clear H1
                          have H' := Aside0.mk H
                          clear H
                          have p531 : 0 ≤ (x15_1 : Int) := of_decide_eq_true (by first | (with_reducible assumption) | assumption)
                          have q531 : x15_1 < (t522.length : Int) := of_decide_eq_true (by first | (with_reducible assumption) | assumption)
                          obtain ⟨ad531, A531_0, c531_0, e531, hx531_0, hl531_0, hi531_0⟩ := at_L2 (Kd.S_reads' HO_12.out).2.2 x15_1 p531 q531
                          cases e531
                          obtain ⟨ce531, hce531, hMe531, hcc531⟩ := Kd.S_get HO_12.out [] x15_1 p531 (by first | exact q531 | exact of_decide_eq_true (by first | (with_reducible assumption) | assumption) | (have e_ := (Kd.S_reads' HO_12.out).1; omega))
                          obtain ⟨ve531_0, rfl, ge531_0⟩ := hMe531
                          have hv531_0 := hcc531 0 _ rfl
                          rw [Nat.add_zero, show ((Kd.slice 3 (Kd.int .i64))).sz = 1 from rfl, Nat.mul_one] at hv531_0
                          replace hv531_0 := Option.some.inj (hv531_0.symm.trans hx531_0)
                          rw [hv531_0] at ge531_0
                          have HL531_0 := Aside0.mk (show Kd.R (Kd.int .i64) 3 _ _ _ _ (rd_L2 t522 x15_1) from ge531_0)
                          clear hv531_0 ge531_0
                          clear hcc531 hce531
                          have HR531_0 := Aside0.mk hi531_0
                          have HC531_0 := Aside0.mk hl531_0
                          clear hi531_0 hl531_0
                          replace p531 := eq_true p531
                          replace q531 := eq_true q531
                          have p534 : 0 ≤ (x15_1 : Int) := of_decide_eq_true (by first | (with_reducible assumption) | assumption)
                          have q534 : x15_1 < (t522.length : Int) := of_decide_eq_true (by first | (with_reducible assumption) | assumption)
                          obtain ⟨ad534, A534_0, c534_0, e534, hx534_0, hl534_0, hi534_0⟩ := at_L2 (Kd.S_reads' HO_12.out).2.2 x15_1 p534 q534
                          obtain rfl : ad531 = ad534 := (by injection e534)
                          obtain ⟨ce534, hce534, hMe534, hcc534⟩ := Kd.S_get HO_12.out [] x15_1 p534 (by first | exact q534 | exact of_decide_eq_true (by first | (with_reducible assumption) | assumption) | (have e_ := (Kd.S_reads' HO_12.out).1; omega))
                          obtain ⟨ve534_0, rfl, ge534_0⟩ := hMe534
                          have hv534_0 := hcc534 0 _ rfl
                          rw [Nat.add_zero, show ((Kd.slice 3 (Kd.int .i64))).sz = 1 from rfl, Nat.mul_one] at hv534_0
                          replace hv534_0 := Option.some.inj (hv534_0.symm.trans hx534_0)
                          rw [hv534_0] at ge534_0
                          have HL534_0 := Aside0.mk (show Kd.R (Kd.int .i64) 3 _ _ _ _ (rd_L2 t522 x15_1) from ge534_0)
                          clear hv534_0 ge534_0
                          clear hcc534 hce534
                          have HR534_0 := Aside0.mk hi534_0
                          have HC534_0 := Aside0.mk hl534_0
                          clear hi534_0 hl534_0
                          replace p534 := eq_true p534
                          replace q534 := eq_true q534
                          have ea_ := Option.some.inj (hx531_0.symm.trans hx534_0)
                          injection ea_ with ea_ en_ ec_
                          subst ea_
                          subst ec_
                          clear en_
                          have p535 : 0 ≤ (x18_2 : Int) := of_decide_eq_true (by first | (with_reducible assumption) | assumption)
                          have q535 : x18_2 < ((rd_L2 t522 x15_1).length : Int) := of_decide_eq_true (by first | (with_reducible assumption) | assumption)
                          obtain ⟨ad535, e535, hx535_0⟩ := Kd.at_int (by repeat (first | (with_reducible exact HR534_0.out) | (with_reducible refine Kd.C_alloc ?_ _) | (with_reducible refine Kd.C_drewN ?_ _) | (with_reducible refine Kd.C_drew ?_) | exact HR534_0.out)) x18_2 p535 q535
                          cases e535
                          replace p535 := eq_true p535
                          replace q535 := eq_true q535
                          have p536 : 0 ≤ (x15_1 : Int) := of_decide_eq_true (by first | (with_reducible assumption) | assumption)
                          have q536 : x15_1 < (t522.length : Int) := of_decide_eq_true (by first | (with_reducible assumption) | assumption)
                          obtain ⟨ad536, A536_0, c536_0, e536, hx536_0, hl536_0, hi536_0⟩ := at_L2 (Kd.S_reads' HO_12.out).2.2 x15_1 p536 q536
                          obtain rfl : ad531 = ad536 := (by injection e536)
                          obtain ⟨ce536, hce536, hMe536, hcc536⟩ := Kd.S_get HO_12.out [] x15_1 p536 (by first | exact q536 | exact of_decide_eq_true (by first | (with_reducible assumption) | assumption) | (have e_ := (Kd.S_reads' HO_12.out).1; omega))
                          obtain ⟨ve536_0, rfl, ge536_0⟩ := hMe536
                          have hv536_0 := hcc536 0 _ rfl
                          rw [Nat.add_zero, show ((Kd.slice 3 (Kd.int .i64))).sz = 1 from rfl, Nat.mul_one] at hv536_0
                          replace hv536_0 := Option.some.inj (hv536_0.symm.trans hx536_0)
                          rw [hv536_0] at ge536_0
                          have HL536_0 := Aside0.mk (show Kd.R (Kd.int .i64) 3 _ _ _ _ (rd_L2 t522 x15_1) from ge536_0)
                          clear hv536_0 ge536_0
                          clear hcc536 hce536
                          have HR536_0 := Aside0.mk hi536_0
                          have HC536_0 := Aside0.mk hl536_0
                          clear hi536_0 hl536_0
                          replace p536 := eq_true p536
                          replace q536 := eq_true q536
                          have ea_ := Option.some.inj (hx531_0.symm.trans hx536_0)
                          injection ea_ with ea_ en_ ec_
                          subst ea_
                          subst ec_
                          clear en_
                          have p537 : 0 ≤ (x18_2 : Int) := of_decide_eq_true (by first | (with_reducible assumption) | assumption)
                          have q537 : x18_2 < ((rd_L2 t522 x15_1).length : Int) := of_decide_eq_true (by first | (with_reducible assumption) | assumption)
                          obtain ⟨ad537, e537, hx537_0⟩ := Kd.at_int (by repeat (first | (with_reducible exact HR536_0.out) | (with_reducible refine Kd.C_alloc ?_ _) | (with_reducible refine Kd.C_drewN ?_ _) | (with_reducible refine Kd.C_drew ?_) | exact HR536_0.out)) x18_2 p537 q537
                          cases e537
                          replace p537 := eq_true p537
                          replace q537 := eq_true q537
                          go_wp2
                          go_roundg k2
                          case measure => have := HK1.out; have := HK2.out; omega
                          case rel => exact ⟨(((rd (rd_L2 t522 x15_1) x18_2) == (Int.tmod (Go.bits .and .i64 a2 65535) (t515.length : Int)))), (((rd (rd_L2 t522 x15_1) x18_2) == (Int.tmod (Go.bits .and .i64 a3 65535) (t515.length : Int)))), (wrap64 (x18_2 + 1)), (by first | rfl | (simp; done) | (simp [*]; done)), (by first | rfl | (simp; done) | (simp [*]; done)), (by first | rfl | (simp; done) | (simp [*]; done)), H', ⟨by have := HK1.out; have := HK2.out; omega⟩, ⟨by (with_reducible repeat (first | apply Kd.S_alloc | apply Kd.S_drewN | apply Kd.S_drew)); exact HO_12.out⟩, ⟨by (with_reducible repeat (first | apply Kd.S_alloc | apply Kd.S_drewN | apply Kd.S_drew)); exact HO_13.out⟩, ⟨by (with_reducible repeat (first | apply Kd.R_alloc | apply Kd.R_drewN | apply Kd.R_drew)); exact HO_522000.out⟩, ⟨by (with_reducible repeat (first | refine blk_drewN ?_ _ | refine blk_drew ?_ | refine blk_alloc ?_ _)); exact BK521.out⟩, ⟨by repeat (first | (with_reducible first | exact HB.out | apply below_alloc | apply pw_below_drewN | apply below_drew1 | refine below_set ?_ GE521.out) | exact HB.out)⟩⟩
                      · rw [if_neg c35] at H
                        exact absurd H (by simp)
                  · rw [if_neg c31] at H
                    have c31b0 : decide (x18_2 < ((rd_L2 t522 x15_1).length : Int)) = false := decide_eq_false c31
                    clear c31
                    by_cases c37 : x14_1 = true
                    · subst c37
                      have H1 : (arboristlaw08_GraphAdds.l0 k2 (Int.tmod (Go.bits .and .i64 a2 65535) (t515.length : Int)) (Int.tmod (Go.bits .and .i64 a3 65535) (t515.length : Int)) t514 t522 t528 true (wrap64 (x15_1 + 1))) = some r := by rw [if_pos rfl] at H; exact H
                      clear H
                      have H := H1
                      clear H1
                      have H' := Aside0.mk H
                      clear H
                      have p531 : 0 ≤ (x15_1 : Int) := of_decide_eq_true (by first | (with_reducible assumption) | assumption)
                      have q531 : x15_1 < (t522.length : Int) := of_decide_eq_true (by first | (with_reducible assumption) | assumption)
                      obtain ⟨ad531, A531_0, c531_0, e531, hx531_0, hl531_0, hi531_0⟩ := at_L2 (Kd.S_reads' HO_12.out).2.2 x15_1 p531 q531
                      cases e531
                      obtain ⟨ce531, hce531, hMe531, hcc531⟩ := Kd.S_get HO_12.out [] x15_1 p531 (by first | exact q531 | exact of_decide_eq_true (by first | (with_reducible assumption) | assumption) | (have e_ := (Kd.S_reads' HO_12.out).1; omega))
                      obtain ⟨ve531_0, rfl, ge531_0⟩ := hMe531
                      have hv531_0 := hcc531 0 _ rfl
                      rw [Nat.add_zero, show ((Kd.slice 3 (Kd.int .i64))).sz = 1 from rfl, Nat.mul_one] at hv531_0
                      replace hv531_0 := Option.some.inj (hv531_0.symm.trans hx531_0)
                      rw [hv531_0] at ge531_0
                      have HL531_0 := Aside0.mk (show Kd.R (Kd.int .i64) 3 _ _ _ _ (rd_L2 t522 x15_1) from ge531_0)
                      clear hv531_0 ge531_0
                      clear hcc531 hce531
                      have HR531_0 := Aside0.mk hi531_0
                      have HC531_0 := Aside0.mk hl531_0
                      clear hi531_0 hl531_0
                      replace p531 := eq_true p531
                      replace q531 := eq_true q531
                      go_wp2
                      go_roundg k2
                      case measure => have := HK1.out; have := HK2.out; omega
                      case rel => exact ⟨(true), (wrap64 (x15_1 + 1)), (by first | rfl | (simp; done) | (simp [*]; done)), (by first | rfl | (simp; done) | (simp [*]; done)), H', ⟨by have := HK1.out; have := HK2.out; omega⟩, ⟨by (with_reducible repeat (first | apply Kd.S_alloc | apply Kd.S_drewN | apply Kd.S_drew)); exact HO_12.out⟩, ⟨by (with_reducible repeat (first | apply Kd.S_alloc | apply Kd.S_drewN | apply Kd.S_drew)); exact HO_13.out⟩, ⟨by (with_reducible repeat (first | apply Kd.R_alloc | apply Kd.R_drewN | apply Kd.R_drew)); exact HO_522000.out⟩, ⟨by (with_reducible repeat (first | refine blk_drewN ?_ _ | refine blk_drew ?_ | refine blk_alloc ?_ _)); exact BK521.out⟩, ⟨by repeat (first | (with_reducible first | exact HB.out | apply below_alloc | apply pw_below_drewN | apply below_drew1 | refine below_set ?_ GE521.out) | exact HB.out)⟩⟩
                    · replace c37 := Bool.eq_false_iff.mpr c37
                      subst c37
                      have H1 : (if x16_2 = true then (arboristlaw08_GraphAdds.l0 k2 (Int.tmod (Go.bits .and .i64 a2 65535) (t515.length : Int)) (Int.tmod (Go.bits .and .i64 a3 65535) (t515.length : Int)) t514 t522 t528 x17_2 (wrap64 (x15_1 + 1))) else (arboristlaw08_GraphAdds.l0 k2 (Int.tmod (Go.bits .and .i64 a2 65535) (t515.length : Int)) (Int.tmod (Go.bits .and .i64 a3 65535) (t515.length : Int)) t514 t522 t528 false (wrap64 (x15_1 + 1)))) = some r := by rw [if_neg (show ¬ (false = true) by decide)] at H; exact H
                      clear H
                      have H := H1
                      clear H1
                      by_cases c38 : x16_2 = true
                      · subst c38
                        have H1 : (arboristlaw08_GraphAdds.l0 k2 (Int.tmod (Go.bits .and .i64 a2 65535) (t515.length : Int)) (Int.tmod (Go.bits .and .i64 a3 65535) (t515.length : Int)) t514 t522 t528 x17_2 (wrap64 (x15_1 + 1))) = some r := by rw [if_pos rfl] at H; exact H
                        clear H
                        have H := H1
                        clear H1
                        have H' := Aside0.mk H
                        clear H
                        have p531 : 0 ≤ (x15_1 : Int) := of_decide_eq_true (by first | (with_reducible assumption) | assumption)
                        have q531 : x15_1 < (t522.length : Int) := of_decide_eq_true (by first | (with_reducible assumption) | assumption)
                        obtain ⟨ad531, A531_0, c531_0, e531, hx531_0, hl531_0, hi531_0⟩ := at_L2 (Kd.S_reads' HO_12.out).2.2 x15_1 p531 q531
                        cases e531
                        obtain ⟨ce531, hce531, hMe531, hcc531⟩ := Kd.S_get HO_12.out [] x15_1 p531 (by first | exact q531 | exact of_decide_eq_true (by first | (with_reducible assumption) | assumption) | (have e_ := (Kd.S_reads' HO_12.out).1; omega))
                        obtain ⟨ve531_0, rfl, ge531_0⟩ := hMe531
                        have hv531_0 := hcc531 0 _ rfl
                        rw [Nat.add_zero, show ((Kd.slice 3 (Kd.int .i64))).sz = 1 from rfl, Nat.mul_one] at hv531_0
                        replace hv531_0 := Option.some.inj (hv531_0.symm.trans hx531_0)
                        rw [hv531_0] at ge531_0
                        have HL531_0 := Aside0.mk (show Kd.R (Kd.int .i64) 3 _ _ _ _ (rd_L2 t522 x15_1) from ge531_0)
                        clear hv531_0 ge531_0
                        clear hcc531 hce531
                        have HR531_0 := Aside0.mk hi531_0
                        have HC531_0 := Aside0.mk hl531_0
                        clear hi531_0 hl531_0
                        replace p531 := eq_true p531
                        replace q531 := eq_true q531
                        go_wp2
                        go_roundg k2
                        case measure => have := HK1.out; have := HK2.out; omega
                        case rel => exact ⟨(x17_2), (wrap64 (x15_1 + 1)), (by first | rfl | (simp; done) | (simp [*]; done)), (by first | rfl | (simp; done) | (simp [*]; done)), H', ⟨by have := HK1.out; have := HK2.out; omega⟩, ⟨by (with_reducible repeat (first | apply Kd.S_alloc | apply Kd.S_drewN | apply Kd.S_drew)); exact HO_12.out⟩, ⟨by (with_reducible repeat (first | apply Kd.S_alloc | apply Kd.S_drewN | apply Kd.S_drew)); exact HO_13.out⟩, ⟨by (with_reducible repeat (first | apply Kd.R_alloc | apply Kd.R_drewN | apply Kd.R_drew)); exact HO_522000.out⟩, ⟨by (with_reducible repeat (first | refine blk_drewN ?_ _ | refine blk_drew ?_ | refine blk_alloc ?_ _)); exact BK521.out⟩, ⟨by repeat (first | (with_reducible first | exact HB.out | apply below_alloc | apply pw_below_drewN | apply below_drew1 | refine below_set ?_ GE521.out) | exact HB.out)⟩⟩
                      · replace c38 := Bool.eq_false_iff.mpr c38
                        subst c38
                        have H1 : (arboristlaw08_GraphAdds.l0 k2 (Int.tmod (Go.bits .and .i64 a2 65535) (t515.length : Int)) (Int.tmod (Go.bits .and .i64 a3 65535) (t515.length : Int)) t514 t522 t528 false (wrap64 (x15_1 + 1))) = some r := by rw [if_neg (show ¬ (false = true) by decide)] at H; exact H
                        clear H
                        have H := H1
                        clear H1
                        have H' := Aside0.mk H
                        clear H
                        have p531 : 0 ≤ (x15_1 : Int) := of_decide_eq_true (by first | (with_reducible assumption) | assumption)
                        have q531 : x15_1 < (t522.length : Int) := of_decide_eq_true (by first | (with_reducible assumption) | assumption)
                        obtain ⟨ad531, A531_0, c531_0, e531, hx531_0, hl531_0, hi531_0⟩ := at_L2 (Kd.S_reads' HO_12.out).2.2 x15_1 p531 q531
                        cases e531
                        obtain ⟨ce531, hce531, hMe531, hcc531⟩ := Kd.S_get HO_12.out [] x15_1 p531 (by first | exact q531 | exact of_decide_eq_true (by first | (with_reducible assumption) | assumption) | (have e_ := (Kd.S_reads' HO_12.out).1; omega))
                        obtain ⟨ve531_0, rfl, ge531_0⟩ := hMe531
                        have hv531_0 := hcc531 0 _ rfl
                        rw [Nat.add_zero, show ((Kd.slice 3 (Kd.int .i64))).sz = 1 from rfl, Nat.mul_one] at hv531_0
                        replace hv531_0 := Option.some.inj (hv531_0.symm.trans hx531_0)
                        rw [hv531_0] at ge531_0
                        have HL531_0 := Aside0.mk (show Kd.R (Kd.int .i64) 3 _ _ _ _ (rd_L2 t522 x15_1) from ge531_0)
                        clear hv531_0 ge531_0
                        clear hcc531 hce531
                        have HR531_0 := Aside0.mk hi531_0
                        have HC531_0 := Aside0.mk hl531_0
                        clear hi531_0 hl531_0
                        replace p531 := eq_true p531
                        replace q531 := eq_true q531
                        go_wp2
                        go_roundg k2
                        case measure => have := HK1.out; have := HK2.out; omega
                        case rel => exact ⟨(false), (wrap64 (x15_1 + 1)), (by first | rfl | (simp; done) | (simp [*]; done)), (by first | rfl | (simp; done) | (simp [*]; done)), H', ⟨by have := HK1.out; have := HK2.out; omega⟩, ⟨by (with_reducible repeat (first | apply Kd.S_alloc | apply Kd.S_drewN | apply Kd.S_drew)); exact HO_12.out⟩, ⟨by (with_reducible repeat (first | apply Kd.S_alloc | apply Kd.S_drewN | apply Kd.S_drew)); exact HO_13.out⟩, ⟨by (with_reducible repeat (first | apply Kd.R_alloc | apply Kd.R_drewN | apply Kd.R_drew)); exact HO_522000.out⟩, ⟨by (with_reducible repeat (first | refine blk_drewN ?_ _ | refine blk_drew ?_ | refine blk_alloc ?_ _)); exact BK521.out⟩, ⟨by repeat (first | (with_reducible first | exact HB.out | apply below_alloc | apply pw_below_drewN | apply below_drew1 | refine below_set ?_ GE521.out) | exact HB.out)⟩⟩
                · rw [if_neg c30] at H
                  exact absurd H (by simp)
              · rw [if_neg c29] at H
                exact absurd H (by simp)
        · rw [if_neg c27] at H
          have c27b0 : decide (x15_1 < (t522.length : Int)) = false := decide_eq_false c27
          clear c27
          by_cases c39 : x14_1 = true
          · subst c39
            have H1 : (if t514 = true then (some ((t528.length : Int) == (t522.length : Int))) else (some false)) = some r := by rw [if_pos rfl] at H; exact H
            clear H
            have H := H1
            clear H1
            by_cases c40 : t514 = true
            · subst c40
              have H1 : (some ((t528.length : Int) == (t522.length : Int))) = some r := by rw [if_pos rfl] at H; exact H
              clear H
              have H := H1
              clear H1
              obtain rfl := Option.some.inj H
              obtain ⟨Ao41, co41, eo41⟩ := Kd.S_slice HO_12.out
              subst eo41
              obtain ⟨Ao42, co42, eo42⟩ := Kd.S_slice HO_13.out
              subst eo42
              go_wp2
              go_ret
              exact ⟨by first | rfl | (simp [errW_none, errW_some] <;> rfl) | (simp [*, errW_none, errW_some] <;> rfl), by repeat (first | (with_reducible first | exact HB.out | apply below_alloc | apply pw_below_drewN | apply below_drew1 | refine below_set ?_ GE521.out) | exact HB.out)⟩
            · replace c40 := Bool.eq_false_iff.mpr c40
              subst c40
              have H1 : (some false) = some r := by rw [if_neg (show ¬ (false = true) by decide)] at H; exact H
              clear H
              have H := H1
              clear H1
              exact absurd ((Option.some.inj H).trans HT_.out) (by decide)
          · replace c39 := Bool.eq_false_iff.mpr c39
            subst c39
            have H1 : (if t514 = true then (some ((t528.length : Int) == (wrap64 ((t522.length : Int) - 1)))) else (some false)) = some r := by rw [if_neg (show ¬ (false = true) by decide)] at H; exact H
            clear H
            have H := H1
            clear H1
            by_cases c43 : t514 = true
            · subst c43
              have H1 : (some ((t528.length : Int) == (wrap64 ((t522.length : Int) - 1)))) = some r := by rw [if_pos rfl] at H; exact H
              clear H
              have H := H1
              clear H1
              obtain rfl := Option.some.inj H
              obtain ⟨Ao44, co44, eo44⟩ := Kd.S_slice HO_12.out
              subst eo44
              obtain ⟨Ao45, co45, eo45⟩ := Kd.S_slice HO_13.out
              subst eo45
              go_wp2
              go_ret
              exact ⟨by first | rfl | (simp [errW_none, errW_some] <;> rfl) | (simp [*, errW_none, errW_some] <;> rfl), by repeat (first | (with_reducible first | exact HB.out | apply below_alloc | apply pw_below_drewN | apply below_drew1 | refine below_set ?_ GE521.out) | exact HB.out)⟩
            · replace c43 := Bool.eq_false_iff.mpr c43
              subst c43
              have H1 : (some false) = some r := by rw [if_neg (show ¬ (false = true) by decide)] at H; exact H
              clear H
              have H := H1
              clear H1
              exact absurd ((Option.some.inj H).trans HT_.out) (by decide)

/-- THE ONE PURE STATEMENT of arboristlaw08_GraphAdds. -/
def arboristlaw08_GraphAdds.Pure : Prop := ∀ (a0 : Int) (l1 : List (List Int)) (a2 : Int) (a3 : Int), (Lit.int .i64 a0).wf = true → (l1.length ≤ maxLen ∧ ∀ z0 ∈ l1, (z0.length ≤ maxLen ∧ ∀ z1 ∈ z0, (Lit.int .i64 z1).wf = true)) → (Lit.int .i64 a2).wf = true → (Lit.int .i64 a3).wf = true → ∃ k, arboristlaw08_GraphAdds.f k a0 l1 a2 a3 = some true

end Go.Proofs.YtaodbohfhelokaaDoor.Pr
