-- Printed by a program of this session's own (wip/tools/pp.py) over the kit's print.py; Lean checks it.
import Derived.Test.YtopjffgmpphdbaaDoorPr0
import Derived.Test.YtopjffgmpphdbaaDoorPr22
import Derived.Test.YtopjffgmpphdbaaDoorPr29
import Derived.Test.YtopjffgmpphdbaaDoorPr30
import Derived.Test.YtopjffgmpphdbaaDoorPr33
import Derived.Test.YtopjffgmpphdbaaDoorPr48
namespace Go.Proofs.YtopjffgmpphdbaaDoor.Pr
open Go.RowKit Go.Proofs.YtopjffgmpphdbaaDoorW.PrintWords Go.Proofs.YtopjffgmpphdbaaDoorW.PrintLast Go.Proofs.YtopjffgmpphdbaaDoorW.PrintMore
attribute [local go_sem] max2_int min2_int max_two min_two max_three min_three max_four min_four   -- for this text's walks alone
set_option linter.unusedVariables false
set_option linter.unusedSimpArgs false

/-! ### arboristlaw10_FillWide: function 7 -/
mutual
def arboristlaw10_FillWide.j0 : Nat → Int → Int → Bool → List (List Bool) → List Int → Int → Bool → Option (Bool)
  | 0, _, _, _, _, _, _, _ => none
  | k + 1, x3, x4, x11, x12, x13, x15, x55 => if x55 = true then (some false) else (if (x12.length : Int) = 0 then (if x11 = true then (some (x15 == (-1))) else (some false)) else (arboristlaw10_FillWide.l0 k (Int.tmod (Go.bits .and .i64 x3 65535) (x12.length : Int)) (Int.tmod (Go.bits .and .i64 x4 65535) (x12.length : Int)) x11 x12 x13 x15 0))
def arboristlaw10_FillWide.l0 : Nat → Int → Int → Bool → List (List Bool) → List Int → Int → Int → Option (Bool)
  | 0, _, _, _, _, _, _, _ => none
  | k + 1, x3, x4, x11, x12, x13, x15, x17 => if x17 < (x12.length : Int) then ((arboristref08_Clique.f k x12 (([x3, x4, x17] : List Int))).bind fun t743 => (if t743 = true then (if x3 = x4 then (arboristlaw10_FillWide.l0 k x3 x4 x11 x12 x13 x15 (wrap64 (x17 + 1))) else (if x3 = x17 then (arboristlaw10_FillWide.l0 k x3 x4 x11 x12 x13 x15 (wrap64 (x17 + 1))) else (if x4 = x17 then (arboristlaw10_FillWide.l0 k x3 x4 x11 x12 x13 x15 (wrap64 (x17 + 1))) else (if x15 < 2 then (some false) else (arboristlaw10_FillWide.l0 k x3 x4 x11 x12 x13 x15 (wrap64 (x17 + 1))))))) else (arboristlaw10_FillWide.l0 k x3 x4 x11 x12 x13 x15 (wrap64 (x17 + 1))))) else (if x3 = x4 then ((arboristref08_Graph.f k x12).bind fun t744 => ((fill_Width.f k t744 x13).bind fun bt747 => (if x11 = true then (if bt747.2 = 0 then (some (decide (bt747.1 ≥ x15))) else (some false)) else (some false)))) else (if 0 ≤ x3 then (if x3 < (x12.length : Int) then (if 0 ≤ x4 then (if x4 < ((rd_L7 x12 x3).length : Int) then ((some (x12.set (x3 : Int).toNat ((rd_L7 x12 x3).set (x4 : Int).toNat true) : List (List Bool))).bind fun y752 => (if x4 < (x12.length : Int) then (if x3 < ((rd_L7 y752 x4).length : Int) then ((arboristref08_Graph.f k (y752.set (x4 : Int).toNat ((rd_L7 y752 x4).set (x3 : Int).toNat true))).bind fun t757 => ((fill_Width.f k t757 x13).bind fun bt760 => (if x11 = true then (if bt760.2 = 0 then (some (decide (bt760.1 ≥ x15))) else (some false)) else (some false)))) else (none)) else (none))) else (none)) else (none)) else (none)) else (none)))
end
def arboristlaw10_FillWide.f (k : Nat) (a0 : Int) (l1 : List (List Int)) (l2 : List Int) (a3 : Int) (a4 : Int) : Option (Bool) := (arboristlaw10_shown.f k).bind fun t727 => ((arboristlaw10_made.f k a0 l1).bind fun t728 => ((arboristlaw10_given.f k (t728.length : Int) l2).bind fun t731 => ((arboristref08_Graph.f k t728).bind fun t734 => ((fill_Width.f k t734 t731).bind fun bt738 => (if bt738.2 = 0 then (if bt738.1 < (-1) then (arboristlaw10_FillWide.j0 k a3 a4 t727 t728 t731 bt738.1 true) else (if bt738.1 ≥ (mx (t728.length : Int) 0) then (arboristlaw10_FillWide.j0 k a3 a4 t727 t728 t731 bt738.1 (decide ((t728.length : Int) > 0))) else (arboristlaw10_FillWide.j0 k a3 a4 t727 t728 t731 bt738.1 false))) else (arboristlaw10_FillWide.j0 k a3 a4 t727 t728 t731 bt738.1 true))))))
theorem arboristlaw10_FillWide.mono_l : ∀ k, (∀ y0 y1 y2 y3 y4 y5 y6, LeO (arboristlaw10_FillWide.j0 k y0 y1 y2 y3 y4 y5 y6) (arboristlaw10_FillWide.j0 (k + 1) y0 y1 y2 y3 y4 y5 y6)) ∧ (∀ y0 y1 y2 y3 y4 y5 y6, LeO (arboristlaw10_FillWide.l0 k y0 y1 y2 y3 y4 y5 y6) (arboristlaw10_FillWide.l0 (k + 1) y0 y1 y2 y3 y4 y5 y6))
  | 0 => ⟨fun _ _ _ _ _ _ _ r h => by simp [arboristlaw10_FillWide.j0] at h, fun _ _ _ _ _ _ _ r h => by simp [arboristlaw10_FillWide.l0] at h⟩
  | k + 1 => by
    obtain ⟨ih0, ih1⟩ := arboristlaw10_FillWide.mono_l k
    refine ⟨?_, ?_⟩
    all_goals intros
    all_goals (first | unfold arboristlaw10_FillWide.j0 | unfold arboristlaw10_FillWide.l0)
    all_goals repeat' first
    | (with_reducible exact ih0 _ _ _ _ _ _ _)
    | (with_reducible exact ih1 _ _ _ _ _ _ _)
    | (with_reducible exact arboristlaw10_given.mono _ _ _)
    | (with_reducible exact arboristlaw10_made.mono _ _ _)
    | (with_reducible exact arboristlaw10_shown.mono _)
    | (with_reducible exact arboristref08_Clique.mono _ _ _)
    | (with_reducible exact arboristref08_Graph.mono _ _)
    | (with_reducible exact fill_Width.mono _ _ _)
    | (with_reducible exact LeO.refl _)
    | (with_reducible exact LeO.none _)
    | (with_reducible refine LeO.ite ?_ ?_)
    | (with_reducible refine LeO.bind ?_ (fun _ => ?_))
    | exact ih0 _ _ _ _ _ _ _
    | exact ih1 _ _ _ _ _ _ _
    | exact arboristlaw10_given.mono _ _ _
    | exact arboristlaw10_made.mono _ _ _
    | exact arboristlaw10_shown.mono _
    | exact arboristref08_Clique.mono _ _ _
    | exact arboristref08_Graph.mono _ _
    | exact fill_Width.mono _ _ _
    | exact LeO.none _
    | refine LeO.ite ?_ ?_
    | refine LeO.bind ?_ (fun _ => ?_)
theorem arboristlaw10_FillWide.mono : ∀ a0 a1 a2 a3 a4 k, LeO (arboristlaw10_FillWide.f k a0 a1 a2 a3 a4) (arboristlaw10_FillWide.f (k + 1) a0 a1 a2 a3 a4) := by
  intro a0 a1 a2 a3 a4 k
  obtain ⟨ih0, ih1⟩ := arboristlaw10_FillWide.mono_l k
  unfold arboristlaw10_FillWide.f
  repeat' first
      | (with_reducible exact ih0 _ _ _ _ _ _ _)
      | (with_reducible exact ih1 _ _ _ _ _ _ _)
      | (with_reducible exact arboristlaw10_given.mono _ _ _)
      | (with_reducible exact arboristlaw10_made.mono _ _ _)
      | (with_reducible exact arboristlaw10_shown.mono _)
      | (with_reducible exact arboristref08_Clique.mono _ _ _)
      | (with_reducible exact arboristref08_Graph.mono _ _)
      | (with_reducible exact fill_Width.mono _ _ _)
      | (with_reducible exact LeO.refl _)
      | (with_reducible exact LeO.none _)
      | (with_reducible refine LeO.ite ?_ ?_)
      | (with_reducible refine LeO.bind ?_ (fun _ => ?_))
      | exact ih0 _ _ _ _ _ _ _
      | exact ih1 _ _ _ _ _ _ _
      | exact arboristlaw10_given.mono _ _ _
      | exact arboristlaw10_made.mono _ _ _
      | exact arboristlaw10_shown.mono _
      | exact arboristref08_Clique.mono _ _ _
      | exact arboristref08_Graph.mono _ _
      | exact fill_Width.mono _ _ _
      | exact LeO.none _
      | refine LeO.ite ?_ ?_
      | refine LeO.bind ?_ (fun _ => ?_)
set_option maxHeartbeats 8000000 in
set_option maxRecDepth 100000 in
theorem arboristlaw10_FillWide.calls (k : Nat) (a0 : Int) (A1 : Option Addr) (c1 : Nat) (l1 : List (List Int)) (A2 : Option Addr) (c2 : Nat) (l2 : List Int) (a3 : Int) (a4 : Int) (r : Bool) (w : World) (hTb : Tab64 w) (hr1 : Kd.C (Kd.slice 3 (Kd.int .i64)) w A1 l1.length l1) (hc1 : l1.length ≤ c1) (hr2 : Kd.C (Kd.int .i64) w A2 l2.length l2) (hc2 : l2.length ≤ c2) (hT : r = true) (h : arboristlaw10_FillWide.f k a0 l1 l2 a3 a4 = some r) :
    Calls Tryd.prog 7 #[.int .i64 a0, .slice A1 l1.length c1, .slice A2 l2.length c2, .int .i64 a3, .int .i64 a4] w fun e w' => e = .returned (.bool r) ∧ Below w.heap.size w w' := by
  have HTAB := Aside0.mk hTb
  clear hTb
  have HT_ := Aside0.mk (show r = true from hT)
  clear hT
  have hu29 := Tryd.underlying29
  have HR1 := Aside0.mk hr1
  have HC1 := Aside0.mk hc1
  clear hr1 hc1
  have HR2 := Aside0.mk hr2
  have HC2 := Aside0.mk hc2
  clear hr2 hc2
  have HB := Aside0.mk (Below.refl w.heap.size w)
  have H : ((arboristlaw10_shown.f k).bind fun t727 => ((arboristlaw10_made.f k a0 l1).bind fun t728 => ((arboristlaw10_given.f k (t728.length : Int) l2).bind fun t731 => ((arboristref08_Graph.f k t728).bind fun t734 => ((fill_Width.f k t734 t731).bind fun bt738 => (if bt738.2 = 0 then (if bt738.1 < (-1) then (arboristlaw10_FillWide.j0 k a3 a4 t727 t728 t731 bt738.1 true) else (if bt738.1 ≥ (mx (t728.length : Int) 0) then (arboristlaw10_FillWide.j0 k a3 a4 t727 t728 t731 bt738.1 (decide ((t728.length : Int) > 0))) else (arboristlaw10_FillWide.j0 k a3 a4 t727 t728 t731 bt738.1 false))) else (arboristlaw10_FillWide.j0 k a3 a4 t727 t728 t731 bt738.1 true))))))) = some r := h
  clear h
  replace H := Option.bind_eq_some_iff.mp H
  obtain ⟨t727, A60, H⟩ := H
  replace H : ((arboristlaw10_made.f k a0 l1).bind fun t728 => ((arboristlaw10_given.f k (t728.length : Int) l2).bind fun t731 => ((arboristref08_Graph.f k t728).bind fun t734 => ((fill_Width.f k t734 t731).bind fun bt738 => (if bt738.2 = 0 then (if bt738.1 < (-1) then (arboristlaw10_FillWide.j0 k a3 a4 t727 t728 t731 bt738.1 true) else (if bt738.1 ≥ (mx (t728.length : Int) 0) then (arboristlaw10_FillWide.j0 k a3 a4 t727 t728 t731 bt738.1 (decide ((t728.length : Int) > 0))) else (arboristlaw10_FillWide.j0 k a3 a4 t727 t728 t731 bt738.1 false))) else (arboristlaw10_FillWide.j0 k a3 a4 t727 t728 t731 bt738.1 true)))))) = some r := H
  have A6 := Aside0.mk A60
  clear A60
  replace H := Option.bind_eq_some_iff.mp H
  obtain ⟨t728, A70, H⟩ := H
  replace H : ((arboristlaw10_given.f k (t728.length : Int) l2).bind fun t731 => ((arboristref08_Graph.f k t728).bind fun t734 => ((fill_Width.f k t734 t731).bind fun bt738 => (if bt738.2 = 0 then (if bt738.1 < (-1) then (arboristlaw10_FillWide.j0 k a3 a4 t727 t728 t731 bt738.1 true) else (if bt738.1 ≥ (mx (t728.length : Int) 0) then (arboristlaw10_FillWide.j0 k a3 a4 t727 t728 t731 bt738.1 (decide ((t728.length : Int) > 0))) else (arboristlaw10_FillWide.j0 k a3 a4 t727 t728 t731 bt738.1 false))) else (arboristlaw10_FillWide.j0 k a3 a4 t727 t728 t731 bt738.1 true))))) = some r := H
  have A7 := Aside0.mk A70
  clear A70
  replace H := Option.bind_eq_some_iff.mp H
  obtain ⟨t731, A80, H⟩ := H
  replace H : ((arboristref08_Graph.f k t728).bind fun t734 => ((fill_Width.f k t734 t731).bind fun bt738 => (if bt738.2 = 0 then (if bt738.1 < (-1) then (arboristlaw10_FillWide.j0 k a3 a4 t727 t728 t731 bt738.1 true) else (if bt738.1 ≥ (mx (t728.length : Int) 0) then (arboristlaw10_FillWide.j0 k a3 a4 t727 t728 t731 bt738.1 (decide ((t728.length : Int) > 0))) else (arboristlaw10_FillWide.j0 k a3 a4 t727 t728 t731 bt738.1 false))) else (arboristlaw10_FillWide.j0 k a3 a4 t727 t728 t731 bt738.1 true)))) = some r := H
  have A8 := Aside0.mk A80
  clear A80
  replace H := Option.bind_eq_some_iff.mp H
  obtain ⟨t734, A90, H⟩ := H
  replace H : ((fill_Width.f k t734 t731).bind fun bt738 => (if bt738.2 = 0 then (if bt738.1 < (-1) then (arboristlaw10_FillWide.j0 k a3 a4 t727 t728 t731 bt738.1 true) else (if bt738.1 ≥ (mx (t728.length : Int) 0) then (arboristlaw10_FillWide.j0 k a3 a4 t727 t728 t731 bt738.1 (decide ((t728.length : Int) > 0))) else (arboristlaw10_FillWide.j0 k a3 a4 t727 t728 t731 bt738.1 false))) else (arboristlaw10_FillWide.j0 k a3 a4 t727 t728 t731 bt738.1 true))) = some r := H
  have A9 := Aside0.mk A90
  clear A90
  replace H := Option.bind_eq_some_iff.mp H
  obtain ⟨⟨t738, t739⟩, A100, H⟩ := H
  replace H : (if t739 = 0 then (if t738 < (-1) then (arboristlaw10_FillWide.j0 k a3 a4 t727 t728 t731 t738 true) else (if t738 ≥ (mx (t728.length : Int) 0) then (arboristlaw10_FillWide.j0 k a3 a4 t727 t728 t731 t738 (decide ((t728.length : Int) > 0))) else (arboristlaw10_FillWide.j0 k a3 a4 t727 t728 t731 t738 false))) else (arboristlaw10_FillWide.j0 k a3 a4 t727 t728 t731 t738 true)) = some r := H
  have A10 := Aside0.mk A100
  clear A100
  have HC11 := Aside0.mk H
  clear H
  go_enter Tryd.func7, Tryd.ntmps7
  go_upto_region 6 with (first | ((with_reducible refine gate_callee (f := 10) rfl ?_); refine goesL_ (some 22) rfl rfl Tryd.func10 (by kernel_rfl) rfl #[] rfl (by (try simp only [List.map_toArray, List.map_cons, List.map_nil]); first | done | rfl | (simp only [List.length_drop, List.length_take]; rfl)) ?_; (with_reducible refine (arboristlaw10_shown.calls (hTb := (by first | exact HTAB.out | exact tab_drewN HTAB.out _ | exact tab_below HTAB.out (by repeat (first | (with_reducible first | exact HB.out | apply below_alloc | apply pw_below_drewN | apply below_drew1 | refine below_set ?_ GE737.out) | exact HB.out)))) k  t727 _ A6.out).mono ?_); rintro e w12 ⟨rfl, hb⟩; refine ⟨_, rfl, ?_⟩; have n0_ := Aside0.mk (below_step (by repeat (first | (with_reducible first | exact HB.out | apply below_alloc | apply pw_below_drewN | apply below_drew1) | exact HB.out)) hb); clear HB; have HB := n0_; clear n0_; (try clear hb); (try clear hb2); (try clear hk); (try clear hi)) | ((with_reducible refine gate_callee (f := 11) rfl ?_); refine goesL_ (some 25) rfl rfl Tryd.func11 (by kernel_rfl) rfl #[.int .i64 a0, .slice A1 l1.length c1] rfl (by (try simp only [List.map_toArray, List.map_cons, List.map_nil]); first | done | rfl | (simp only [List.length_drop, List.length_take]; rfl)) ?_; (with_reducible refine (arboristlaw10_made.calls k a0 _ _ l1 t728 _ ?side1 ?side2 A7.out).mono ?_); (case side1 => repeat (first | exact (Kd.C_below HR1.out HB.out) | (with_reducible refine Kd.C_alloc ?_ _) | (with_reducible refine Kd.C_drewN ?_ _) | (with_reducible refine Kd.C_drew ?_))); (case side2 => exact HC1.out); rintro e w13 ⟨v729, rfl, ho0, hb⟩; refine ⟨_, rfl, ?_⟩; have n0_ := Aside0.mk (Kd.S_lower ho0 (below_size (by repeat (first | (with_reducible first | exact HB.out | apply below_alloc | apply pw_below_drewN | apply below_drew1) | exact HB.out)))); have n1_ := Aside0.mk (below_step (by repeat (first | (with_reducible first | exact HB.out | apply below_alloc | apply pw_below_drewN | apply below_drew1) | exact HB.out)) hb); clear HB; have HO730 := n0_; have HB := n1_; clear n0_ n1_; (try clear hb); (try clear hb2); (try clear hk); (try clear hi); (try clear ho0); obtain ⟨Ao14, co14, eo14⟩ := Kd.S_slice HO730.out; subst eo14) | ((with_reducible refine gate_callee (f := 13) rfl ?_); refine goesL_ (some 29) rfl rfl Tryd.func13 (by kernel_rfl) rfl #[.int .i64 (t728.length : Int), .slice A2 l2.length c2] rfl (by (try simp only [List.map_toArray, List.map_cons, List.map_nil]); first | done | rfl | (simp only [List.length_drop, List.length_take]; rfl)) ?_; (with_reducible refine (arboristlaw10_given.calls k (t728.length : Int) _ _ l2 t731 _ ?side1 ?side2 A8.out).mono ?_); (case side1 => repeat (first | exact (Kd.C_below HR2.out HB.out) | (with_reducible refine Kd.C_alloc ?_ _) | (with_reducible refine Kd.C_drewN ?_ _) | (with_reducible refine Kd.C_drew ?_))); (case side2 => exact HC2.out); rintro e w15 ⟨v732, rfl, ho0, hb⟩; refine ⟨_, rfl, ?_⟩; have n0_ := Aside0.mk (Kd.S_below (by (with_reducible repeat (first | apply Kd.S_alloc | apply Kd.S_drewN | apply Kd.S_drew)); exact HO730.out) hb); have n1_ := Aside0.mk (Kd.R_lower ho0 (below_size (by repeat (first | (with_reducible first | exact HB.out | apply below_alloc | apply pw_below_drewN | apply below_drew1) | exact HB.out)))); have n2_ := Aside0.mk (below_step (by repeat (first | (with_reducible first | exact HB.out | apply below_alloc | apply pw_below_drewN | apply below_drew1) | exact HB.out)) hb); clear HO730; clear HB; have HO730 := n0_; have HO733 := n1_; have HB := n2_; clear n0_ n1_ n2_; (try clear hb); (try clear hb2); (try clear hk); (try clear hi); (try clear ho0)) | ((with_reducible refine gate_callee (f := 12) rfl ?_); refine goesL_ (some 31) rfl rfl Tryd.func12 (by kernel_rfl) rfl #[.slice Ao14 t728.length co14] rfl (by (try simp only [List.map_toArray, List.map_cons, List.map_nil]); first | done | rfl | (simp only [List.length_drop, List.length_take]; rfl)) ?_; (with_reducible refine (arboristref08_Graph.calls k _ _ t728 t734 _ ?side1 ?side2 A9.out).mono ?_); (case side1 => repeat (first | exact (Kd.S_reads' HO730.out).2.2 | (with_reducible refine Kd.C_alloc ?_ _) | (with_reducible refine Kd.C_drewN ?_ _) | (with_reducible refine Kd.C_drew ?_))); (case side2 => exact (Kd.S_reads' HO730.out).2.1); rintro e w16 ⟨v735, rfl, ho0, hb⟩; refine ⟨_, rfl, ?_⟩; have n0_ := Aside0.mk (Kd.S_below (by (with_reducible repeat (first | apply Kd.S_alloc | apply Kd.S_drewN | apply Kd.S_drew)); exact HO730.out) hb); have n1_ := Aside0.mk (Kd.R_below (by (with_reducible repeat (first | apply Kd.R_alloc | apply Kd.R_drewN | apply Kd.R_drew)); exact HO733.out) hb); have n2_ := Aside0.mk (Kd.R_lower ho0 (below_size (by repeat (first | (with_reducible first | exact HB.out | apply below_alloc | apply pw_below_drewN | apply below_drew1) | exact HB.out)))); have n3_ := Aside0.mk (below_step (by repeat (first | (with_reducible first | exact HB.out | apply below_alloc | apply pw_below_drewN | apply below_drew1) | exact HB.out)) hb); clear HO730; clear HO733; clear HB; have HO730 := n0_; have HO733 := n1_; have HO736 := n2_; have HB := n3_; clear n0_ n1_ n2_ n3_; (try clear hb); (try clear hb2); (try clear hk); (try clear hi); (try clear ho0)) | ((with_reducible refine gate_dst (N := 14) rfl ?_); (try (refine gate_guard (by rfl) ?_; dsimp only)); refine box_event ?hg (N := 14) ?hd (cs := #[.slice none 0 0]) (t := 29) ?hr ?_; (case hd => rfl); (case hg => rfl); (case hr => first | (go_simp; done) | (go_simp; rfl)); intro gb737 hg w17 hbox hb; have n0_ := Aside0.mk (Kd.S_below (by (with_reducible repeat (first | apply Kd.S_alloc | apply Kd.S_drewN | apply Kd.S_drew)); exact HO730.out) hb); have n1_ := Aside0.mk (Kd.R_below (by (with_reducible repeat (first | apply Kd.R_alloc | apply Kd.R_drewN | apply Kd.R_drew)); exact HO733.out) hb); have n2_ := Aside0.mk (Kd.R_below (by (with_reducible repeat (first | apply Kd.R_alloc | apply Kd.R_drewN | apply Kd.R_drew)); exact HO736.out) hb); have n3_ := Aside0.mk (below_step (by repeat (first | (with_reducible first | exact HB.out | apply below_alloc | apply pw_below_drewN | apply below_drew1) | exact HB.out)) hb); have n4_ := Aside0.mk (hbox); have n5_ := Aside0.mk ((by rw [hg]; exact (below_size (by repeat (first | (with_reducible first | exact HB.out | apply below_alloc | apply pw_below_drewN | apply below_drew1) | exact HB.out))) : w.heap.size ≤ gb737)); have n6_ := Aside0.mk ((by rw [hg]; exact (below_size (by repeat (first | (with_reducible first | exact HB.out | apply below_alloc | apply pw_below_drewN | apply below_drew1) | exact HB.out))) : w.heap.size ≤ gb737)); clear HO730; clear HO733; clear HO736; clear HB; have HO730 := n0_; have HO733 := n1_; have HO736 := n2_; have HB := n3_; have BK737 := n4_; have GW737 := n5_; have GE737 := n6_; clear n0_ n1_ n2_ n3_ n4_ n5_ n6_; clear hb hbox hg; obtain ⟨Ao18, co18, eo18⟩ := Kd.R_slice HO736.out; subst eo18; have hcz19_0 : w17.cell? ⟨gb737, 0, none⟩ = some (.slice none 0 0) := (blk_cell BK737.out 0).trans rfl; have hfz19_0 := blk_frozen BK737.out 0; obtain ⟨Ao20, co20, eo20⟩ := Kd.R_slice HO733.out; subst eo20) | ((with_reducible refine gate_callee (f := 16) rfl ?_); refine goesL_ (some 35) rfl rfl Tryd.func16 (by kernel_rfl) rfl #[.agg #[.slice Ao18 t734.length co18], .slice Ao20 t731.length co20] rfl (by (try simp only [List.map_toArray, List.map_cons, List.map_nil]); first | done | rfl | (simp only [List.length_drop, List.length_take]; rfl)) ?_; (with_reducible refine (fill_Width.calls (hTb := (by first | exact HTAB.out | exact tab_drewN HTAB.out _ | exact tab_below HTAB.out (by repeat (first | (with_reducible first | exact HB.out | apply below_alloc | apply pw_below_drewN | apply below_drew1 | refine below_set ?_ GE737.out) | exact HB.out)))) k _ _ t734 _ _ t731 t738 t739 _ ?side1 ?side2 ?side3 ?side4 A10.out).mono ?_); (case side1 => refine (Kd.R_reads' (e := 61) (base := w.heap.size) (ok := fun k_ => True) (n := t734.length) (c := co18) ?_).2.2; exact (by (with_reducible repeat (first | apply Kd.R_alloc | apply Kd.R_drewN | apply Kd.R_drew)); exact (Kd.R_mono (Kd.R_far (p := ⟨gb737, 0, none⟩) (Kd.R_types HO736.out BK737.out (by decide)) (fun _ hk => hk.2) (.slice Ao18 t734.length co18)) (fun _ h_ => h_.1)))); (case side2 => exact (Kd.R_reads' HO736.out).2.1); (case side3 => refine (Kd.R_reads' (e := 3) (base := w.heap.size) (ok := fun k_ => True) (n := t731.length) (c := co20) ?_).2.2; exact (by (with_reducible repeat (first | apply Kd.R_alloc | apply Kd.R_drewN | apply Kd.R_drew)); exact (Kd.R_mono (Kd.R_far (p := ⟨gb737, 0, none⟩) (Kd.R_types HO733.out BK737.out (by decide)) (fun _ hk => hk.2) (.slice Ao18 t734.length co18)) (fun _ h_ => h_.1)))); (case side4 => exact (Kd.R_reads' HO733.out).2.1); rintro e w21 ⟨rfl, hb⟩; refine ⟨_, rfl, ?_⟩; have n0_ := Aside0.mk (Kd.S_below (by (with_reducible repeat (first | apply Kd.S_alloc | apply Kd.S_drewN | apply Kd.S_drew)); exact (Kd.S_mono (Kd.S_far (p := ⟨gb737, 0, none⟩) (Kd.S_types HO730.out BK737.out (by decide)) (fun _ hk => hk.2) (.slice Ao18 t734.length co18)) (fun _ h_ => h_.1))) hb); have n1_ := Aside0.mk (Kd.R_below (by (with_reducible repeat (first | apply Kd.R_alloc | apply Kd.R_drewN | apply Kd.R_drew)); exact (Kd.R_mono (Kd.R_far (p := ⟨gb737, 0, none⟩) (Kd.R_types HO733.out BK737.out (by decide)) (fun _ hk => hk.2) (.slice Ao18 t734.length co18)) (fun _ h_ => h_.1))) hb); have n2_ := Aside0.mk (Kd.R_below (by (with_reducible repeat (first | apply Kd.R_alloc | apply Kd.R_drewN | apply Kd.R_drew)); exact (Kd.R_mono (Kd.R_far (p := ⟨gb737, 0, none⟩) (Kd.R_types HO736.out BK737.out (by decide)) (fun _ hk => hk.2) (.slice Ao18 t734.length co18)) (fun _ h_ => h_.1))) hb); have n3_ := Aside0.mk (blk_below (g := gb737) (o := .cells #[.slice Ao18 t734.length co18] 29 (0, 0)) (by (with_reducible repeat (first | refine blk_drewN ?_ _ | refine blk_drew ?_ | refine blk_alloc ?_ _)); refine blk_put (cs := #[.slice none 0 0]) ?_ 0 _ rfl; (with_reducible repeat (first | refine blk_drewN ?_ _ | refine blk_drew ?_ | refine blk_alloc ?_ _)); exact BK737.out) hb); have n4_ := Aside0.mk (below_step (by repeat (first | (with_reducible first | exact HB.out | apply below_alloc | apply pw_below_drewN | apply below_drew1 | refine below_set ?_ GE737.out) | exact HB.out)) hb); clear HO730; clear HO733; clear HO736; clear BK737; clear HB; have HO730 := n0_; have HO733 := n1_; have HO736 := n2_; have BK737 := n3_; have HB := n4_; clear n0_ n1_ n2_ n3_ n4_; (try clear hb); (try clear hb2); (try clear hk); (try clear hi)))
  (try simp only [Act.put, List.setIfInBounds_toArray, List.set_cons_zero, List.set_cons_succ])
  go_cut [55] (fun v55 wc => ∃ (kq : Nat) (x55_10 : Bool), v55 = .bool x55_10 ∧ Aside0 (arboristlaw10_FillWide.j0 kq a3 a4 t727 t728 t731 t738 x55_10 = some r) ∧ Aside0 (kq ≤ k) ∧ Aside0 (Kd.S (Kd.slice 4 Kd.bool) 55 wc w.heap.size (fun _ => True) (.slice Ao14 t728.length co14) t728) ∧ Aside0 (Kd.R (Kd.int .i64) 3 wc w.heap.size (fun _ => True) (.slice Ao20 t731.length co20) t731) ∧ Aside0 (Kd.R (Kd.int .u64) 61 wc w.heap.size (fun _ => True) (.slice Ao18 t734.length co18) t734) ∧ Aside0 (wc.heap[gb737]? = some (.cells #[(.slice Ao18 t734.length co18)] 29 (0, 0))) ∧ Aside0 (Below w.heap.size w wc))
  case first =>
    have H := HC11.out
    clear HC11
    by_cases c22 : t739 = 0
    · rw [if_pos c22] at H
      have c22b0 : (t739 == 0) = true := beq_iff_eq.mpr c22
      have c22b1 : (t739 != 0) = false := bne_eq_false_iff_eq.mpr c22
      clear c22
      (first | rw [c22b0] | (simp only [i64_w, i32_w]; rw [c22b0]) | skip)
      by_cases c23 : t738 < (-1)
      · rw [if_pos c23] at H
        have c23b0 : decide (t738 < (-1)) = true := decide_eq_true c23
        clear c23
        have H' := Aside0.mk H
        clear H
        go_wp2
        go_meet
        case rel => exact ⟨_, (true), (by first | rfl | (simp; done) | (simp [*]; done)), H', ⟨by first | omega | exact Nat.le_refl _⟩, ⟨by (with_reducible repeat (first | apply Kd.S_alloc | apply Kd.S_drewN | apply Kd.S_drew)); exact HO730.out⟩, ⟨by (with_reducible repeat (first | apply Kd.R_alloc | apply Kd.R_drewN | apply Kd.R_drew)); exact HO733.out⟩, ⟨by (with_reducible repeat (first | apply Kd.R_alloc | apply Kd.R_drewN | apply Kd.R_drew)); exact HO736.out⟩, ⟨by (with_reducible repeat (first | refine blk_drewN ?_ _ | refine blk_drew ?_ | refine blk_alloc ?_ _)); exact BK737.out⟩, ⟨by repeat (first | (with_reducible first | exact HB.out | apply below_alloc | apply pw_below_drewN | apply below_drew1 | refine below_set ?_ GE737.out) | exact HB.out)⟩⟩
      · rw [if_neg c23] at H
        have c23b0 : decide (t738 < (-1)) = false := decide_eq_false c23
        clear c23
        obtain ⟨ji24, hji24⟩ : ∃ j_ : Int, (mx (t728.length : Int) 0) = j_ := ⟨_, rfl⟩
        replace H : (if t738 ≥ (ji24) then (arboristlaw10_FillWide.j0 k a3 a4 t727 t728 t731 t738 (decide ((t728.length : Int) > 0))) else (arboristlaw10_FillWide.j0 k a3 a4 t727 t728 t731 t738 false)) = some r := by first | (rw [hji24] at H; exact H) | (simp only [hji24] at H ⊢; exact H)
        (try (have hji24l : 0 ≤ ji24 := by (rw [← hji24]; unfold mx; (repeat' split) <;> omega)))
        (try (have hji24m : 0 ≤ ji24 := by omega))
        have hji24_ : (if (t728.length : Int) < 0 then 0 else (t728.length : Int)) = ji24 := hji24
        by_cases c25 : t738 ≥ (ji24)
        · rw [if_pos c25] at H
          have c25b0 : decide ((ji24) ≤ t738) = true := decide_eq_true c25
          (try (have c25b9 : decide ((t728.length : Int) ≤ t738) = true := by (rw [show (t728.length : Int) = ji24 from by (have := hji24_; omega)]; exact c25b0)))
          clear c25
          have H' := Aside0.mk H
          clear H
          go_wp2
          go_meet
          case rel => exact ⟨_, (decide ((t728.length : Int) > 0)), (by first | rfl | (simp; done) | (simp [*]; done)), H', ⟨by first | omega | exact Nat.le_refl _⟩, ⟨by (with_reducible repeat (first | apply Kd.S_alloc | apply Kd.S_drewN | apply Kd.S_drew)); exact HO730.out⟩, ⟨by (with_reducible repeat (first | apply Kd.R_alloc | apply Kd.R_drewN | apply Kd.R_drew)); exact HO733.out⟩, ⟨by (with_reducible repeat (first | apply Kd.R_alloc | apply Kd.R_drewN | apply Kd.R_drew)); exact HO736.out⟩, ⟨by (with_reducible repeat (first | refine blk_drewN ?_ _ | refine blk_drew ?_ | refine blk_alloc ?_ _)); exact BK737.out⟩, ⟨by repeat (first | (with_reducible first | exact HB.out | apply below_alloc | apply pw_below_drewN | apply below_drew1 | refine below_set ?_ GE737.out) | exact HB.out)⟩⟩
        · rw [if_neg c25] at H
          have c25b0 : decide ((ji24) ≤ t738) = false := decide_eq_false c25
          (try (have c25b9 : decide ((t728.length : Int) ≤ t738) = false := by (rw [show (t728.length : Int) = ji24 from by (have := hji24_; omega)]; exact c25b0)))
          clear c25
          have H' := Aside0.mk H
          clear H
          go_wp2
          go_meet
          case rel => exact ⟨_, (false), (by first | rfl | (simp; done) | (simp [*]; done)), H', ⟨by first | omega | exact Nat.le_refl _⟩, ⟨by (with_reducible repeat (first | apply Kd.S_alloc | apply Kd.S_drewN | apply Kd.S_drew)); exact HO730.out⟩, ⟨by (with_reducible repeat (first | apply Kd.R_alloc | apply Kd.R_drewN | apply Kd.R_drew)); exact HO733.out⟩, ⟨by (with_reducible repeat (first | apply Kd.R_alloc | apply Kd.R_drewN | apply Kd.R_drew)); exact HO736.out⟩, ⟨by (with_reducible repeat (first | refine blk_drewN ?_ _ | refine blk_drew ?_ | refine blk_alloc ?_ _)); exact BK737.out⟩, ⟨by repeat (first | (with_reducible first | exact HB.out | apply below_alloc | apply pw_below_drewN | apply below_drew1 | refine below_set ?_ GE737.out) | exact HB.out)⟩⟩
    · rw [if_neg c22] at H
      have c22b0 : (t739 == 0) = false := beq_eq_false_iff_ne.mpr c22
      have c22b1 : (t739 != 0) = true := bne_iff_ne.mpr c22
      (first | rw [c22b0] | (simp only [i64_w, i32_w]; rw [c22b0]) | skip)
      have H' := Aside0.mk H
      clear H
      go_wp2
      go_meet
      case rel => exact ⟨_, (true), (by first | rfl | (simp; done) | (simp [*]; done)), H', ⟨by first | omega | exact Nat.le_refl _⟩, ⟨by (with_reducible repeat (first | apply Kd.S_alloc | apply Kd.S_drewN | apply Kd.S_drew)); exact HO730.out⟩, ⟨by (with_reducible repeat (first | apply Kd.R_alloc | apply Kd.R_drewN | apply Kd.R_drew)); exact HO733.out⟩, ⟨by (with_reducible repeat (first | apply Kd.R_alloc | apply Kd.R_drewN | apply Kd.R_drew)); exact HO736.out⟩, ⟨by (with_reducible repeat (first | refine blk_drewN ?_ _ | refine blk_drew ?_ | refine blk_alloc ?_ _)); exact BK737.out⟩, ⟨by repeat (first | (with_reducible first | exact HB.out | apply below_alloc | apply pw_below_drewN | apply below_drew1 | refine below_set ?_ GE737.out) | exact HB.out)⟩⟩
  case rest =>
    clear HC11
    try clear c1
    try clear c2
    try clear p2
    try clear c7
    try clear c10
    try clear c11
    try clear c12
    try clear c13
    try clear c16
    try clear c22
    try clear c22b0
    try clear c22b1
    try clear c23
    try clear c23b0
    try clear c25
    try clear c25b0
    try clear hcz19_0
    try clear hfz19_0
    obtain ⟨kq, x55_10, rfl, HA, HJ10, HO_12, HO_13, HO_738000, BK737, HB⟩ := hcut
    cases kq with
    | zero => exact absurd HA.out (by simp [arboristlaw10_FillWide.j0])
    | succ kj10 =>
      have H := HA.out
      clear HA
      simp only [arboristlaw10_FillWide.j0] at H
      by_cases c26 : x55_10 = true
      · subst c26
        have H1 : (some false) = some r := by rw [if_pos rfl] at H; exact H
        clear H
        have H := H1
        clear H1
        exact absurd ((Option.some.inj H).trans HT_.out) (by decide)
      · replace c26 := Bool.eq_false_iff.mpr c26
        subst c26
        have H1 : (if (t728.length : Int) = 0 then (if t727 = true then (some (t738 == (-1))) else (some false)) else (arboristlaw10_FillWide.l0 kj10 (Int.tmod (Go.bits .and .i64 a3 65535) (t728.length : Int)) (Int.tmod (Go.bits .and .i64 a4 65535) (t728.length : Int)) t727 t728 t731 t738 0)) = some r := by rw [if_neg (show ¬ (false = true) by decide)] at H; exact H
        clear H
        have H := H1
        clear H1
        by_cases c27 : (t728.length : Int) = 0
        · rw [if_pos c27] at H
          have c27b0 : ((t728.length : Int) == 0) = true := beq_iff_eq.mpr c27
          have c27b1 : ((t728.length : Int) != 0) = false := bne_eq_false_iff_eq.mpr c27
          clear c27
          by_cases c28 : t727 = true
          · subst c28
            have H1 : (some (t738 == (-1))) = some r := by rw [if_pos rfl] at H; exact H
            clear H
            have H := H1
            clear H1
            obtain rfl := Option.some.inj H
            go_wp2
            go_ret
            exact ⟨by first | rfl | (simp [errW_none, errW_some] <;> rfl) | (simp [*, errW_none, errW_some] <;> rfl), by repeat (first | (with_reducible first | exact HB.out | apply below_alloc | apply pw_below_drewN | apply below_drew1 | refine below_set ?_ GE737.out) | exact HB.out)⟩
          · replace c28 := Bool.eq_false_iff.mpr c28
            subst c28
            have H1 : (some false) = some r := by rw [if_neg (show ¬ (false = true) by decide)] at H; exact H
            clear H
            have H := H1
            clear H1
            exact absurd ((Option.some.inj H).trans HT_.out) (by decide)
        · rw [if_neg c27] at H
          have c27b0 : ((t728.length : Int) == 0) = false := beq_eq_false_iff_ne.mpr c27
          have c27b1 : ((t728.length : Int) != 0) = true := bne_iff_ne.mpr c27
          have c27b2 : ¬ (t728 = []) := fun h_ => c27 (by rw [h_]; rfl)
          have H' := Aside0.mk H
          clear H
          go_wp2
          go_loopg [17] kj10 (fun kq v17 w' => ∃ (x17_2 : Int), v17 = .int .i64 x17_2 ∧ Aside0 (arboristlaw10_FillWide.l0 kq (Int.tmod (Go.bits .and .i64 a3 65535) (t728.length : Int)) (Int.tmod (Go.bits .and .i64 a4 65535) (t728.length : Int)) t727 t728 t731 t738 x17_2 = some r) ∧ Aside0 (kq ≤ kj10) ∧ Aside0 (Kd.S (Kd.slice 4 Kd.bool) 55 w' w.heap.size (fun _ => True) (.slice Ao14 t728.length co14) t728) ∧ Aside0 (Kd.R (Kd.int .i64) 3 w' w.heap.size (fun _ => True) (.slice Ao20 t731.length co20) t731) ∧ Aside0 (Kd.R (Kd.int .u64) 61 w' w.heap.size (fun _ => True) (.slice Ao18 t734.length co18) t734) ∧ Aside0 (w'.heap[gb737]? = some (.cells #[(.slice Ao18 t734.length co18)] 29 (0, 0))) ∧ Aside0 (Below w.heap.size w w'))
          case atStart => exact ⟨(0), (by first | rfl | (simp; done) | (simp [*]; done)), H', ⟨Nat.le_refl _⟩, ⟨by (with_reducible repeat (first | apply Kd.S_alloc | apply Kd.S_drewN | apply Kd.S_drew)); exact HO_12.out⟩, ⟨by (with_reducible repeat (first | apply Kd.R_alloc | apply Kd.R_drewN | apply Kd.R_drew)); exact HO_13.out⟩, ⟨by (with_reducible repeat (first | apply Kd.R_alloc | apply Kd.R_drewN | apply Kd.R_drew)); exact HO_738000.out⟩, ⟨by (with_reducible repeat (first | refine blk_drewN ?_ _ | refine blk_drew ?_ | refine blk_alloc ?_ _)); exact BK737.out⟩, ⟨by repeat (first | (with_reducible first | exact HB.out | apply below_alloc | apply pw_below_drewN | apply below_drew1 | refine below_set ?_ GE737.out) | exact HB.out)⟩⟩
          case round =>
            clear H'
            try clear c1
            try clear c2
            try clear p2
            try clear c7
            try clear c10
            try clear c11
            try clear c12
            try clear c13
            try clear c16
            try clear c22
            try clear c22b0
            try clear c22b1
            try clear c23
            try clear c23b0
            try clear c25
            try clear c25b0
            try clear c26
            try clear c27
            try clear c27b0
            try clear c27b1
            try clear c27b2
            try clear c28
            try clear hcz19_0
            try clear hfz19_0
            try clear p2
            obtain ⟨x17_2, rfl, HA, HK2, HO_12, HO_13, HO_738000, BK737, HB⟩ := hrel
            cases gk with
            | zero => exact absurd HA.out (by simp [arboristlaw10_FillWide.l0])
            | succ k2 =>
              have H := HA.out
              clear HA
              simp only [arboristlaw10_FillWide.l0] at H
              by_cases c29 : x17_2 < (t728.length : Int)
              · rw [if_pos c29] at H
                have c29b0 : decide (x17_2 < (t728.length : Int)) = true := decide_eq_true c29
                clear c29
                obtain ⟨y740, hy740⟩ : ∃ y_ : List Int, y_ = (([(Int.tmod (Go.bits .and .i64 a3 65535) (t728.length : Int)), (Int.tmod (Go.bits .and .i64 a4 65535) (t728.length : Int)), x17_2] : List Int)) := ⟨_, rfl⟩
                replace H : ((arboristref08_Clique.f k2 t728 y740).bind fun t743 => (if t743 = true then (if (Int.tmod (Go.bits .and .i64 a3 65535) (t728.length : Int)) = (Int.tmod (Go.bits .and .i64 a4 65535) (t728.length : Int)) then (arboristlaw10_FillWide.l0 k2 (Int.tmod (Go.bits .and .i64 a3 65535) (t728.length : Int)) (Int.tmod (Go.bits .and .i64 a4 65535) (t728.length : Int)) t727 t728 t731 t738 (wrap64 (x17_2 + 1))) else (if (Int.tmod (Go.bits .and .i64 a3 65535) (t728.length : Int)) = x17_2 then (arboristlaw10_FillWide.l0 k2 (Int.tmod (Go.bits .and .i64 a3 65535) (t728.length : Int)) (Int.tmod (Go.bits .and .i64 a4 65535) (t728.length : Int)) t727 t728 t731 t738 (wrap64 (x17_2 + 1))) else (if (Int.tmod (Go.bits .and .i64 a4 65535) (t728.length : Int)) = x17_2 then (arboristlaw10_FillWide.l0 k2 (Int.tmod (Go.bits .and .i64 a3 65535) (t728.length : Int)) (Int.tmod (Go.bits .and .i64 a4 65535) (t728.length : Int)) t727 t728 t731 t738 (wrap64 (x17_2 + 1))) else (if t738 < 2 then (some false) else (arboristlaw10_FillWide.l0 k2 (Int.tmod (Go.bits .and .i64 a3 65535) (t728.length : Int)) (Int.tmod (Go.bits .and .i64 a4 65535) (t728.length : Int)) t727 t728 t731 t738 (wrap64 (x17_2 + 1))))))) else (arboristlaw10_FillWide.l0 k2 (Int.tmod (Go.bits .and .i64 a3 65535) (t728.length : Int)) (Int.tmod (Go.bits .and .i64 a4 65535) (t728.length : Int)) t727 t728 t731 t738 (wrap64 (x17_2 + 1))))) = some r := by first | (rw [hy740]; with_reducible exact H) | (have H2_ := (Option.bind_some _ _).symm.trans H; rw [hy740]; with_reducible exact H2_) | (have H2_ := (Option.bind_some _ _).symm.trans H; with_reducible exact H2_) | with_reducible exact H | (rw [hy740]; exact H) | exact H
                have Ny740 := Aside0.mk hy740
                clear hy740
                replace H := Option.bind_eq_some_iff.mp H
                obtain ⟨t743, A300, H⟩ := H
                replace H : (if t743 = true then (if (Int.tmod (Go.bits .and .i64 a3 65535) (t728.length : Int)) = (Int.tmod (Go.bits .and .i64 a4 65535) (t728.length : Int)) then (arboristlaw10_FillWide.l0 k2 (Int.tmod (Go.bits .and .i64 a3 65535) (t728.length : Int)) (Int.tmod (Go.bits .and .i64 a4 65535) (t728.length : Int)) t727 t728 t731 t738 (wrap64 (x17_2 + 1))) else (if (Int.tmod (Go.bits .and .i64 a3 65535) (t728.length : Int)) = x17_2 then (arboristlaw10_FillWide.l0 k2 (Int.tmod (Go.bits .and .i64 a3 65535) (t728.length : Int)) (Int.tmod (Go.bits .and .i64 a4 65535) (t728.length : Int)) t727 t728 t731 t738 (wrap64 (x17_2 + 1))) else (if (Int.tmod (Go.bits .and .i64 a4 65535) (t728.length : Int)) = x17_2 then (arboristlaw10_FillWide.l0 k2 (Int.tmod (Go.bits .and .i64 a3 65535) (t728.length : Int)) (Int.tmod (Go.bits .and .i64 a4 65535) (t728.length : Int)) t727 t728 t731 t738 (wrap64 (x17_2 + 1))) else (if t738 < 2 then (some false) else (arboristlaw10_FillWide.l0 k2 (Int.tmod (Go.bits .and .i64 a3 65535) (t728.length : Int)) (Int.tmod (Go.bits .and .i64 a4 65535) (t728.length : Int)) t727 t728 t731 t738 (wrap64 (x17_2 + 1))))))) else (arboristlaw10_FillWide.l0 k2 (Int.tmod (Go.bits .and .i64 a3 65535) (t728.length : Int)) (Int.tmod (Go.bits .and .i64 a4 65535) (t728.length : Int)) t727 t728 t731 t738 (wrap64 (x17_2 + 1)))) = some r := H
                have A30 := Aside0.mk A300
                clear A300
                by_cases c31 : t743 = true
                · subst c31
                  have H1 : (if (Int.tmod (Go.bits .and .i64 a3 65535) (t728.length : Int)) = (Int.tmod (Go.bits .and .i64 a4 65535) (t728.length : Int)) then (arboristlaw10_FillWide.l0 k2 (Int.tmod (Go.bits .and .i64 a3 65535) (t728.length : Int)) (Int.tmod (Go.bits .and .i64 a4 65535) (t728.length : Int)) t727 t728 t731 t738 (wrap64 (x17_2 + 1))) else (if (Int.tmod (Go.bits .and .i64 a3 65535) (t728.length : Int)) = x17_2 then (arboristlaw10_FillWide.l0 k2 (Int.tmod (Go.bits .and .i64 a3 65535) (t728.length : Int)) (Int.tmod (Go.bits .and .i64 a4 65535) (t728.length : Int)) t727 t728 t731 t738 (wrap64 (x17_2 + 1))) else (if (Int.tmod (Go.bits .and .i64 a4 65535) (t728.length : Int)) = x17_2 then (arboristlaw10_FillWide.l0 k2 (Int.tmod (Go.bits .and .i64 a3 65535) (t728.length : Int)) (Int.tmod (Go.bits .and .i64 a4 65535) (t728.length : Int)) t727 t728 t731 t738 (wrap64 (x17_2 + 1))) else (if t738 < 2 then (some false) else (arboristlaw10_FillWide.l0 k2 (Int.tmod (Go.bits .and .i64 a3 65535) (t728.length : Int)) (Int.tmod (Go.bits .and .i64 a4 65535) (t728.length : Int)) t727 t728 t731 t738 (wrap64 (x17_2 + 1))))))) = some r := by rw [if_pos rfl] at H; exact H
                  clear H
                  have H := H1
                  clear H1
                  by_cases c32 : (Int.tmod (Go.bits .and .i64 a3 65535) (t728.length : Int)) = (Int.tmod (Go.bits .and .i64 a4 65535) (t728.length : Int))
                  · rw [if_pos c32] at H
                    have c32b0 : ((Int.tmod (Go.bits .and .i64 a3 65535) (t728.length : Int)) == (Int.tmod (Go.bits .and .i64 a4 65535) (t728.length : Int))) = true := beq_iff_eq.mpr c32
                    have c32b1 : ((Int.tmod (Go.bits .and .i64 a3 65535) (t728.length : Int)) != (Int.tmod (Go.bits .and .i64 a4 65535) (t728.length : Int))) = false := bne_eq_false_iff_eq.mpr c32
                    clear c32
                    have H' := Aside0.mk H
                    clear H
                    go_wp2_with (first | ((with_reducible refine gate_dst (N := 83) rfl ?_); (try (refine gate_guard (by rfl) ?_; dsimp only)); refine Kd.R_lit (Kd.int .i64) _ 3 ?hg (N := 83) ?hd (xs := ([(Int.tmod (Go.bits .and .i64 a3 65535) (t728.length : Int)), (Int.tmod (Go.bits .and .i64 a4 65535) (t728.length : Int)), x17_2] : List Int)) (inner := [.int .i64 (Int.tmod (Go.bits .and .i64 a3 65535) (t728.length : Int)), .int .i64 (Int.tmod (Go.bits .and .i64 a4 65535) (t728.length : Int)), .int .i64 x17_2]) (ok := fun _ => True) (okp := fun _ => True) ?hr ?hp (fun _ hk => hk) trivial (Below.refl _ _) (Nat.le_refl _) (by simp) ?_; (case hd => rfl); (case hg => rfl); (case hr => first | (go_simp; done) | (go_simp; rfl)); (case hp => exact (Reps.one (show Kd.M (Kd.int .i64) _ _ _ (Int.tmod (Go.bits .and .i64 a3 65535) (t728.length : Int)) [.int .i64 (Int.tmod (Go.bits .and .i64 a3 65535) (t728.length : Int))] from rfl) (Reps.one (show Kd.M (Kd.int .i64) _ _ _ (Int.tmod (Go.bits .and .i64 a4 65535) (t728.length : Int)) [.int .i64 (Int.tmod (Go.bits .and .i64 a4 65535) (t728.length : Int))] from rfl) (Reps.one (show Kd.M (Kd.int .i64) _ _ _ x17_2 [.int .i64 x17_2] from rfl) (Reps.none _ _))))); intro v741 w33 ho34 hb hg_ hnew_; clear hg_ hnew_; (first | rw [← Ny740.out] at ho34 | (simp only [Int.reduceToNat] at ho34; rw [← Ny740.out] at ho34)); have n0_ := Aside0.mk (Kd.S_below (by (with_reducible repeat (first | apply Kd.S_alloc | apply Kd.S_drewN | apply Kd.S_drew)); exact HO_12.out) hb); have n1_ := Aside0.mk (Kd.R_elder' (by (with_reducible repeat (first | apply Kd.R_alloc | apply Kd.R_drewN | apply Kd.R_drew)); exact HO_13.out) (Kd.R_base ho34) hb); have n2_ := Aside0.mk (Kd.R_below (by (with_reducible repeat (first | apply Kd.R_alloc | apply Kd.R_drewN | apply Kd.R_drew)); exact HO_738000.out) hb); have n3_ := Aside0.mk (Kd.R_lower (Kd.R_new' ho34 (Kd.R_lt (by (with_reducible repeat (first | apply Kd.R_alloc | apply Kd.R_drewN | apply Kd.R_drew)); exact HO_13.out))) (below_size (by repeat (first | (with_reducible first | exact HB.out | apply below_alloc | apply pw_below_drewN | apply below_drew1 | refine below_set ?_ GE737.out) | exact HB.out)))); have n4_ := Aside0.mk (blk_below (g := gb737) (o := .cells #[.slice Ao18 t734.length co18] 29 (0, 0)) (by (with_reducible repeat (first | refine blk_drewN ?_ _ | refine blk_drew ?_ | refine blk_alloc ?_ _)); exact BK737.out) hb); have n5_ := Aside0.mk (below_step (by repeat (first | (with_reducible first | exact HB.out | apply below_alloc | apply pw_below_drewN | apply below_drew1 | refine below_set ?_ GE737.out) | exact HB.out)) hb); clear HO_12; clear HO_13; clear HO_738000; clear BK737; clear HB; have HO_12 := n0_; have HO_13 := n1_; have HO_738000 := n2_; have HO742 := n3_; have BK737 := n4_; have HB := n5_; clear n0_ n1_ n2_ n3_ n4_ n5_; clear hb ho34; obtain ⟨Ao35, co35, eo35⟩ := Kd.R_slice HO742.out; subst eo35) | ((with_reducible refine gate_callee (f := 26) rfl ?_); refine goesL_ (some 86) rfl rfl Tryd.func26 (by kernel_rfl) rfl #[.slice Ao14 t728.length co14, .slice Ao35 y740.length co35] rfl (by (try simp only [List.map_toArray, List.map_cons, List.map_nil]); first | done | rfl | (simp only [List.length_drop, List.length_take]; rfl)) ?_; (with_reducible refine (arboristref08_Clique.calls k2 _ _ t728 _ _ y740 true _ ?side1 ?side2 ?side3 ?side4 A30.out).mono ?_); (case side1 => repeat (first | exact (Kd.S_reads' HO_12.out).2.2 | (with_reducible refine Kd.C_alloc ?_ _) | (with_reducible refine Kd.C_drewN ?_ _) | (with_reducible refine Kd.C_drew ?_))); (case side2 => exact (Kd.S_reads' HO_12.out).2.1); (case side3 => repeat (first | exact (Kd.R_reads' HO742.out).2.2 | (with_reducible refine Kd.C_alloc ?_ _) | (with_reducible refine Kd.C_drewN ?_ _) | (with_reducible refine Kd.C_drew ?_))); (case side4 => exact (Kd.R_reads' HO742.out).2.1); rintro e w' ⟨rfl, ⟨nd, rfl⟩⟩; refine ⟨_, rfl, ?_⟩))
                    go_roundg k2
                    case measure => have := HJ10.out; have := HK2.out; omega
                    case rel => exact ⟨(wrap64 (x17_2 + 1)), (by first | rfl | (simp; done) | (simp [*]; done)), H', ⟨by have := HJ10.out; have := HK2.out; omega⟩, ⟨by (with_reducible repeat (first | apply Kd.S_alloc | apply Kd.S_drewN | apply Kd.S_drew)); exact HO_12.out⟩, ⟨by (with_reducible repeat (first | apply Kd.R_alloc | apply Kd.R_drewN | apply Kd.R_drew)); exact Kd.R_mono HO_13.out (fun _ hk => trivial)⟩, ⟨by (with_reducible repeat (first | apply Kd.R_alloc | apply Kd.R_drewN | apply Kd.R_drew)); exact HO_738000.out⟩, ⟨by (with_reducible repeat (first | refine blk_drewN ?_ _ | refine blk_drew ?_ | refine blk_alloc ?_ _)); exact BK737.out⟩, ⟨by repeat (first | (with_reducible first | exact HB.out | apply below_alloc | apply pw_below_drewN | apply below_drew1 | refine below_set ?_ GE737.out) | exact HB.out)⟩⟩
                  · rw [if_neg c32] at H
                    have c32b0 : ((Int.tmod (Go.bits .and .i64 a3 65535) (t728.length : Int)) == (Int.tmod (Go.bits .and .i64 a4 65535) (t728.length : Int))) = false := beq_eq_false_iff_ne.mpr c32
                    have c32b1 : ((Int.tmod (Go.bits .and .i64 a3 65535) (t728.length : Int)) != (Int.tmod (Go.bits .and .i64 a4 65535) (t728.length : Int))) = true := bne_iff_ne.mpr c32
                    by_cases c36 : (Int.tmod (Go.bits .and .i64 a3 65535) (t728.length : Int)) = x17_2
                    · rw [if_pos c36] at H
                      have c36b0 : ((Int.tmod (Go.bits .and .i64 a3 65535) (t728.length : Int)) == x17_2) = true := beq_iff_eq.mpr c36
                      have c36b1 : ((Int.tmod (Go.bits .and .i64 a3 65535) (t728.length : Int)) != x17_2) = false := bne_eq_false_iff_eq.mpr c36
                      clear c36
                      have H' := Aside0.mk H
                      clear H
                      go_wp2_with (first | ((with_reducible refine gate_dst (N := 83) rfl ?_); (try (refine gate_guard (by rfl) ?_; dsimp only)); refine Kd.R_lit (Kd.int .i64) _ 3 ?hg (N := 83) ?hd (xs := ([(Int.tmod (Go.bits .and .i64 a3 65535) (t728.length : Int)), (Int.tmod (Go.bits .and .i64 a4 65535) (t728.length : Int)), x17_2] : List Int)) (inner := [.int .i64 (Int.tmod (Go.bits .and .i64 a3 65535) (t728.length : Int)), .int .i64 (Int.tmod (Go.bits .and .i64 a4 65535) (t728.length : Int)), .int .i64 x17_2]) (ok := fun _ => True) (okp := fun _ => True) ?hr ?hp (fun _ hk => hk) trivial (Below.refl _ _) (Nat.le_refl _) (by simp) ?_; (case hd => rfl); (case hg => rfl); (case hr => first | (go_simp; done) | (go_simp; rfl)); (case hp => exact (Reps.one (show Kd.M (Kd.int .i64) _ _ _ (Int.tmod (Go.bits .and .i64 a3 65535) (t728.length : Int)) [.int .i64 (Int.tmod (Go.bits .and .i64 a3 65535) (t728.length : Int))] from rfl) (Reps.one (show Kd.M (Kd.int .i64) _ _ _ (Int.tmod (Go.bits .and .i64 a4 65535) (t728.length : Int)) [.int .i64 (Int.tmod (Go.bits .and .i64 a4 65535) (t728.length : Int))] from rfl) (Reps.one (show Kd.M (Kd.int .i64) _ _ _ x17_2 [.int .i64 x17_2] from rfl) (Reps.none _ _))))); intro v741 w37 ho38 hb hg_ hnew_; clear hg_ hnew_; (first | rw [← Ny740.out] at ho38 | (simp only [Int.reduceToNat] at ho38; rw [← Ny740.out] at ho38)); have n0_ := Aside0.mk (Kd.S_below (by (with_reducible repeat (first | apply Kd.S_alloc | apply Kd.S_drewN | apply Kd.S_drew)); exact HO_12.out) hb); have n1_ := Aside0.mk (Kd.R_elder' (by (with_reducible repeat (first | apply Kd.R_alloc | apply Kd.R_drewN | apply Kd.R_drew)); exact HO_13.out) (Kd.R_base ho38) hb); have n2_ := Aside0.mk (Kd.R_below (by (with_reducible repeat (first | apply Kd.R_alloc | apply Kd.R_drewN | apply Kd.R_drew)); exact HO_738000.out) hb); have n3_ := Aside0.mk (Kd.R_lower (Kd.R_new' ho38 (Kd.R_lt (by (with_reducible repeat (first | apply Kd.R_alloc | apply Kd.R_drewN | apply Kd.R_drew)); exact HO_13.out))) (below_size (by repeat (first | (with_reducible first | exact HB.out | apply below_alloc | apply pw_below_drewN | apply below_drew1 | refine below_set ?_ GE737.out) | exact HB.out)))); have n4_ := Aside0.mk (blk_below (g := gb737) (o := .cells #[.slice Ao18 t734.length co18] 29 (0, 0)) (by (with_reducible repeat (first | refine blk_drewN ?_ _ | refine blk_drew ?_ | refine blk_alloc ?_ _)); exact BK737.out) hb); have n5_ := Aside0.mk (below_step (by repeat (first | (with_reducible first | exact HB.out | apply below_alloc | apply pw_below_drewN | apply below_drew1 | refine below_set ?_ GE737.out) | exact HB.out)) hb); clear HO_12; clear HO_13; clear HO_738000; clear BK737; clear HB; have HO_12 := n0_; have HO_13 := n1_; have HO_738000 := n2_; have HO742 := n3_; have BK737 := n4_; have HB := n5_; clear n0_ n1_ n2_ n3_ n4_ n5_; clear hb ho38; obtain ⟨Ao39, co39, eo39⟩ := Kd.R_slice HO742.out; subst eo39) | ((with_reducible refine gate_callee (f := 26) rfl ?_); refine goesL_ (some 86) rfl rfl Tryd.func26 (by kernel_rfl) rfl #[.slice Ao14 t728.length co14, .slice Ao39 y740.length co39] rfl (by (try simp only [List.map_toArray, List.map_cons, List.map_nil]); first | done | rfl | (simp only [List.length_drop, List.length_take]; rfl)) ?_; (with_reducible refine (arboristref08_Clique.calls k2 _ _ t728 _ _ y740 true _ ?side1 ?side2 ?side3 ?side4 A30.out).mono ?_); (case side1 => repeat (first | exact (Kd.S_reads' HO_12.out).2.2 | (with_reducible refine Kd.C_alloc ?_ _) | (with_reducible refine Kd.C_drewN ?_ _) | (with_reducible refine Kd.C_drew ?_))); (case side2 => exact (Kd.S_reads' HO_12.out).2.1); (case side3 => repeat (first | exact (Kd.R_reads' HO742.out).2.2 | (with_reducible refine Kd.C_alloc ?_ _) | (with_reducible refine Kd.C_drewN ?_ _) | (with_reducible refine Kd.C_drew ?_))); (case side4 => exact (Kd.R_reads' HO742.out).2.1); rintro e w' ⟨rfl, ⟨nd, rfl⟩⟩; refine ⟨_, rfl, ?_⟩))
                      go_roundg k2
                      case measure => have := HJ10.out; have := HK2.out; omega
                      case rel => exact ⟨(wrap64 (x17_2 + 1)), (by first | rfl | (simp; done) | (simp [*]; done)), H', ⟨by have := HJ10.out; have := HK2.out; omega⟩, ⟨by (with_reducible repeat (first | apply Kd.S_alloc | apply Kd.S_drewN | apply Kd.S_drew)); exact HO_12.out⟩, ⟨by (with_reducible repeat (first | apply Kd.R_alloc | apply Kd.R_drewN | apply Kd.R_drew)); exact Kd.R_mono HO_13.out (fun _ hk => trivial)⟩, ⟨by (with_reducible repeat (first | apply Kd.R_alloc | apply Kd.R_drewN | apply Kd.R_drew)); exact HO_738000.out⟩, ⟨by (with_reducible repeat (first | refine blk_drewN ?_ _ | refine blk_drew ?_ | refine blk_alloc ?_ _)); exact BK737.out⟩, ⟨by repeat (first | (with_reducible first | exact HB.out | apply below_alloc | apply pw_below_drewN | apply below_drew1 | refine below_set ?_ GE737.out) | exact HB.out)⟩⟩
                    · rw [if_neg c36] at H
                      have c36b0 : ((Int.tmod (Go.bits .and .i64 a3 65535) (t728.length : Int)) == x17_2) = false := beq_eq_false_iff_ne.mpr c36
                      have c36b1 : ((Int.tmod (Go.bits .and .i64 a3 65535) (t728.length : Int)) != x17_2) = true := bne_iff_ne.mpr c36
                      by_cases c40 : (Int.tmod (Go.bits .and .i64 a4 65535) (t728.length : Int)) = x17_2
                      · rw [if_pos c40] at H
                        have c40b0 : ((Int.tmod (Go.bits .and .i64 a4 65535) (t728.length : Int)) == x17_2) = true := beq_iff_eq.mpr c40
                        have c40b1 : ((Int.tmod (Go.bits .and .i64 a4 65535) (t728.length : Int)) != x17_2) = false := bne_eq_false_iff_eq.mpr c40
                        clear c40
                        have H' := Aside0.mk H
                        clear H
                        go_wp2_with (first | ((with_reducible refine gate_dst (N := 83) rfl ?_); (try (refine gate_guard (by rfl) ?_; dsimp only)); refine Kd.R_lit (Kd.int .i64) _ 3 ?hg (N := 83) ?hd (xs := ([(Int.tmod (Go.bits .and .i64 a3 65535) (t728.length : Int)), (Int.tmod (Go.bits .and .i64 a4 65535) (t728.length : Int)), x17_2] : List Int)) (inner := [.int .i64 (Int.tmod (Go.bits .and .i64 a3 65535) (t728.length : Int)), .int .i64 (Int.tmod (Go.bits .and .i64 a4 65535) (t728.length : Int)), .int .i64 x17_2]) (ok := fun _ => True) (okp := fun _ => True) ?hr ?hp (fun _ hk => hk) trivial (Below.refl _ _) (Nat.le_refl _) (by simp) ?_; (case hd => rfl); (case hg => rfl); (case hr => first | (go_simp; done) | (go_simp; rfl)); (case hp => exact (Reps.one (show Kd.M (Kd.int .i64) _ _ _ (Int.tmod (Go.bits .and .i64 a3 65535) (t728.length : Int)) [.int .i64 (Int.tmod (Go.bits .and .i64 a3 65535) (t728.length : Int))] from rfl) (Reps.one (show Kd.M (Kd.int .i64) _ _ _ (Int.tmod (Go.bits .and .i64 a4 65535) (t728.length : Int)) [.int .i64 (Int.tmod (Go.bits .and .i64 a4 65535) (t728.length : Int))] from rfl) (Reps.one (show Kd.M (Kd.int .i64) _ _ _ x17_2 [.int .i64 x17_2] from rfl) (Reps.none _ _))))); intro v741 w41 ho42 hb hg_ hnew_; clear hg_ hnew_; (first | rw [← Ny740.out] at ho42 | (simp only [Int.reduceToNat] at ho42; rw [← Ny740.out] at ho42)); have n0_ := Aside0.mk (Kd.S_below (by (with_reducible repeat (first | apply Kd.S_alloc | apply Kd.S_drewN | apply Kd.S_drew)); exact HO_12.out) hb); have n1_ := Aside0.mk (Kd.R_elder' (by (with_reducible repeat (first | apply Kd.R_alloc | apply Kd.R_drewN | apply Kd.R_drew)); exact HO_13.out) (Kd.R_base ho42) hb); have n2_ := Aside0.mk (Kd.R_below (by (with_reducible repeat (first | apply Kd.R_alloc | apply Kd.R_drewN | apply Kd.R_drew)); exact HO_738000.out) hb); have n3_ := Aside0.mk (Kd.R_lower (Kd.R_new' ho42 (Kd.R_lt (by (with_reducible repeat (first | apply Kd.R_alloc | apply Kd.R_drewN | apply Kd.R_drew)); exact HO_13.out))) (below_size (by repeat (first | (with_reducible first | exact HB.out | apply below_alloc | apply pw_below_drewN | apply below_drew1 | refine below_set ?_ GE737.out) | exact HB.out)))); have n4_ := Aside0.mk (blk_below (g := gb737) (o := .cells #[.slice Ao18 t734.length co18] 29 (0, 0)) (by (with_reducible repeat (first | refine blk_drewN ?_ _ | refine blk_drew ?_ | refine blk_alloc ?_ _)); exact BK737.out) hb); have n5_ := Aside0.mk (below_step (by repeat (first | (with_reducible first | exact HB.out | apply below_alloc | apply pw_below_drewN | apply below_drew1 | refine below_set ?_ GE737.out) | exact HB.out)) hb); clear HO_12; clear HO_13; clear HO_738000; clear BK737; clear HB; have HO_12 := n0_; have HO_13 := n1_; have HO_738000 := n2_; have HO742 := n3_; have BK737 := n4_; have HB := n5_; clear n0_ n1_ n2_ n3_ n4_ n5_; clear hb ho42; obtain ⟨Ao43, co43, eo43⟩ := Kd.R_slice HO742.out; subst eo43) | ((with_reducible refine gate_callee (f := 26) rfl ?_); refine goesL_ (some 86) rfl rfl Tryd.func26 (by kernel_rfl) rfl #[.slice Ao14 t728.length co14, .slice Ao43 y740.length co43] rfl (by (try simp only [List.map_toArray, List.map_cons, List.map_nil]); first | done | rfl | (simp only [List.length_drop, List.length_take]; rfl)) ?_; (with_reducible refine (arboristref08_Clique.calls k2 _ _ t728 _ _ y740 true _ ?side1 ?side2 ?side3 ?side4 A30.out).mono ?_); (case side1 => repeat (first | exact (Kd.S_reads' HO_12.out).2.2 | (with_reducible refine Kd.C_alloc ?_ _) | (with_reducible refine Kd.C_drewN ?_ _) | (with_reducible refine Kd.C_drew ?_))); (case side2 => exact (Kd.S_reads' HO_12.out).2.1); (case side3 => repeat (first | exact (Kd.R_reads' HO742.out).2.2 | (with_reducible refine Kd.C_alloc ?_ _) | (with_reducible refine Kd.C_drewN ?_ _) | (with_reducible refine Kd.C_drew ?_))); (case side4 => exact (Kd.R_reads' HO742.out).2.1); rintro e w' ⟨rfl, ⟨nd, rfl⟩⟩; refine ⟨_, rfl, ?_⟩))
                        go_roundg k2
                        case measure => have := HJ10.out; have := HK2.out; omega
                        case rel => exact ⟨(wrap64 (x17_2 + 1)), (by first | rfl | (simp; done) | (simp [*]; done)), H', ⟨by have := HJ10.out; have := HK2.out; omega⟩, ⟨by (with_reducible repeat (first | apply Kd.S_alloc | apply Kd.S_drewN | apply Kd.S_drew)); exact HO_12.out⟩, ⟨by (with_reducible repeat (first | apply Kd.R_alloc | apply Kd.R_drewN | apply Kd.R_drew)); exact Kd.R_mono HO_13.out (fun _ hk => trivial)⟩, ⟨by (with_reducible repeat (first | apply Kd.R_alloc | apply Kd.R_drewN | apply Kd.R_drew)); exact HO_738000.out⟩, ⟨by (with_reducible repeat (first | refine blk_drewN ?_ _ | refine blk_drew ?_ | refine blk_alloc ?_ _)); exact BK737.out⟩, ⟨by repeat (first | (with_reducible first | exact HB.out | apply below_alloc | apply pw_below_drewN | apply below_drew1 | refine below_set ?_ GE737.out) | exact HB.out)⟩⟩
                      · rw [if_neg c40] at H
                        have c40b0 : ((Int.tmod (Go.bits .and .i64 a4 65535) (t728.length : Int)) == x17_2) = false := beq_eq_false_iff_ne.mpr c40
                        have c40b1 : ((Int.tmod (Go.bits .and .i64 a4 65535) (t728.length : Int)) != x17_2) = true := bne_iff_ne.mpr c40
                        by_cases c44 : t738 < 2
                        · rw [if_pos c44] at H
                          have c44b0 : decide (t738 < 2) = true := decide_eq_true c44
                          clear c44
                          exact absurd ((Option.some.inj H).trans HT_.out) (by decide)
                        · rw [if_neg c44] at H
                          have c44b0 : decide (t738 < 2) = false := decide_eq_false c44
                          clear c44
                          have H' := Aside0.mk H
                          clear H
                          go_wp2_with (first | ((with_reducible refine gate_dst (N := 83) rfl ?_); (try (refine gate_guard (by rfl) ?_; dsimp only)); refine Kd.R_lit (Kd.int .i64) _ 3 ?hg (N := 83) ?hd (xs := ([(Int.tmod (Go.bits .and .i64 a3 65535) (t728.length : Int)), (Int.tmod (Go.bits .and .i64 a4 65535) (t728.length : Int)), x17_2] : List Int)) (inner := [.int .i64 (Int.tmod (Go.bits .and .i64 a3 65535) (t728.length : Int)), .int .i64 (Int.tmod (Go.bits .and .i64 a4 65535) (t728.length : Int)), .int .i64 x17_2]) (ok := fun _ => True) (okp := fun _ => True) ?hr ?hp (fun _ hk => hk) trivial (Below.refl _ _) (Nat.le_refl _) (by simp) ?_; (case hd => rfl); (case hg => rfl); (case hr => first | (go_simp; done) | (go_simp; rfl)); (case hp => exact (Reps.one (show Kd.M (Kd.int .i64) _ _ _ (Int.tmod (Go.bits .and .i64 a3 65535) (t728.length : Int)) [.int .i64 (Int.tmod (Go.bits .and .i64 a3 65535) (t728.length : Int))] from rfl) (Reps.one (show Kd.M (Kd.int .i64) _ _ _ (Int.tmod (Go.bits .and .i64 a4 65535) (t728.length : Int)) [.int .i64 (Int.tmod (Go.bits .and .i64 a4 65535) (t728.length : Int))] from rfl) (Reps.one (show Kd.M (Kd.int .i64) _ _ _ x17_2 [.int .i64 x17_2] from rfl) (Reps.none _ _))))); intro v741 w45 ho46 hb hg_ hnew_; clear hg_ hnew_; (first | rw [← Ny740.out] at ho46 | (simp only [Int.reduceToNat] at ho46; rw [← Ny740.out] at ho46)); have n0_ := Aside0.mk (Kd.S_below (by (with_reducible repeat (first | apply Kd.S_alloc | apply Kd.S_drewN | apply Kd.S_drew)); exact HO_12.out) hb); have n1_ := Aside0.mk (Kd.R_elder' (by (with_reducible repeat (first | apply Kd.R_alloc | apply Kd.R_drewN | apply Kd.R_drew)); exact HO_13.out) (Kd.R_base ho46) hb); have n2_ := Aside0.mk (Kd.R_below (by (with_reducible repeat (first | apply Kd.R_alloc | apply Kd.R_drewN | apply Kd.R_drew)); exact HO_738000.out) hb); have n3_ := Aside0.mk (Kd.R_lower (Kd.R_new' ho46 (Kd.R_lt (by (with_reducible repeat (first | apply Kd.R_alloc | apply Kd.R_drewN | apply Kd.R_drew)); exact HO_13.out))) (below_size (by repeat (first | (with_reducible first | exact HB.out | apply below_alloc | apply pw_below_drewN | apply below_drew1 | refine below_set ?_ GE737.out) | exact HB.out)))); have n4_ := Aside0.mk (blk_below (g := gb737) (o := .cells #[.slice Ao18 t734.length co18] 29 (0, 0)) (by (with_reducible repeat (first | refine blk_drewN ?_ _ | refine blk_drew ?_ | refine blk_alloc ?_ _)); exact BK737.out) hb); have n5_ := Aside0.mk (below_step (by repeat (first | (with_reducible first | exact HB.out | apply below_alloc | apply pw_below_drewN | apply below_drew1 | refine below_set ?_ GE737.out) | exact HB.out)) hb); clear HO_12; clear HO_13; clear HO_738000; clear BK737; clear HB; have HO_12 := n0_; have HO_13 := n1_; have HO_738000 := n2_; have HO742 := n3_; have BK737 := n4_; have HB := n5_; clear n0_ n1_ n2_ n3_ n4_ n5_; clear hb ho46; obtain ⟨Ao47, co47, eo47⟩ := Kd.R_slice HO742.out; subst eo47) | ((with_reducible refine gate_callee (f := 26) rfl ?_); refine goesL_ (some 86) rfl rfl Tryd.func26 (by kernel_rfl) rfl #[.slice Ao14 t728.length co14, .slice Ao47 y740.length co47] rfl (by (try simp only [List.map_toArray, List.map_cons, List.map_nil]); first | done | rfl | (simp only [List.length_drop, List.length_take]; rfl)) ?_; (with_reducible refine (arboristref08_Clique.calls k2 _ _ t728 _ _ y740 true _ ?side1 ?side2 ?side3 ?side4 A30.out).mono ?_); (case side1 => repeat (first | exact (Kd.S_reads' HO_12.out).2.2 | (with_reducible refine Kd.C_alloc ?_ _) | (with_reducible refine Kd.C_drewN ?_ _) | (with_reducible refine Kd.C_drew ?_))); (case side2 => exact (Kd.S_reads' HO_12.out).2.1); (case side3 => repeat (first | exact (Kd.R_reads' HO742.out).2.2 | (with_reducible refine Kd.C_alloc ?_ _) | (with_reducible refine Kd.C_drewN ?_ _) | (with_reducible refine Kd.C_drew ?_))); (case side4 => exact (Kd.R_reads' HO742.out).2.1); rintro e w' ⟨rfl, ⟨nd, rfl⟩⟩; refine ⟨_, rfl, ?_⟩))
                          go_roundg k2
                          case measure => have := HJ10.out; have := HK2.out; omega
                          case rel => exact ⟨(wrap64 (x17_2 + 1)), (by first | rfl | (simp; done) | (simp [*]; done)), H', ⟨by have := HJ10.out; have := HK2.out; omega⟩, ⟨by (with_reducible repeat (first | apply Kd.S_alloc | apply Kd.S_drewN | apply Kd.S_drew)); exact HO_12.out⟩, ⟨by (with_reducible repeat (first | apply Kd.R_alloc | apply Kd.R_drewN | apply Kd.R_drew)); exact Kd.R_mono HO_13.out (fun _ hk => trivial)⟩, ⟨by (with_reducible repeat (first | apply Kd.R_alloc | apply Kd.R_drewN | apply Kd.R_drew)); exact HO_738000.out⟩, ⟨by (with_reducible repeat (first | refine blk_drewN ?_ _ | refine blk_drew ?_ | refine blk_alloc ?_ _)); exact BK737.out⟩, ⟨by repeat (first | (with_reducible first | exact HB.out | apply below_alloc | apply pw_below_drewN | apply below_drew1 | refine below_set ?_ GE737.out) | exact HB.out)⟩⟩
                · replace c31 := Bool.eq_false_iff.mpr c31
                  subst c31
                  have H1 : (arboristlaw10_FillWide.l0 k2 (Int.tmod (Go.bits .and .i64 a3 65535) (t728.length : Int)) (Int.tmod (Go.bits .and .i64 a4 65535) (t728.length : Int)) t727 t728 t731 t738 (wrap64 (x17_2 + 1))) = some r := by rw [if_neg (show ¬ (false = true) by decide)] at H; exact H
                  clear H
                  have H := H1
                  clear H1
                  have H' := Aside0.mk H
                  clear H
                  go_wp2_with (first | ((with_reducible refine gate_dst (N := 83) rfl ?_); (try (refine gate_guard (by rfl) ?_; dsimp only)); refine Kd.R_lit (Kd.int .i64) _ 3 ?hg (N := 83) ?hd (xs := ([(Int.tmod (Go.bits .and .i64 a3 65535) (t728.length : Int)), (Int.tmod (Go.bits .and .i64 a4 65535) (t728.length : Int)), x17_2] : List Int)) (inner := [.int .i64 (Int.tmod (Go.bits .and .i64 a3 65535) (t728.length : Int)), .int .i64 (Int.tmod (Go.bits .and .i64 a4 65535) (t728.length : Int)), .int .i64 x17_2]) (ok := fun _ => True) (okp := fun _ => True) ?hr ?hp (fun _ hk => hk) trivial (Below.refl _ _) (Nat.le_refl _) (by simp) ?_; (case hd => rfl); (case hg => rfl); (case hr => first | (go_simp; done) | (go_simp; rfl)); (case hp => exact (Reps.one (show Kd.M (Kd.int .i64) _ _ _ (Int.tmod (Go.bits .and .i64 a3 65535) (t728.length : Int)) [.int .i64 (Int.tmod (Go.bits .and .i64 a3 65535) (t728.length : Int))] from rfl) (Reps.one (show Kd.M (Kd.int .i64) _ _ _ (Int.tmod (Go.bits .and .i64 a4 65535) (t728.length : Int)) [.int .i64 (Int.tmod (Go.bits .and .i64 a4 65535) (t728.length : Int))] from rfl) (Reps.one (show Kd.M (Kd.int .i64) _ _ _ x17_2 [.int .i64 x17_2] from rfl) (Reps.none _ _))))); intro v741 w48 ho49 hb hg_ hnew_; clear hg_ hnew_; (first | rw [← Ny740.out] at ho49 | (simp only [Int.reduceToNat] at ho49; rw [← Ny740.out] at ho49)); have n0_ := Aside0.mk (Kd.S_below (by (with_reducible repeat (first | apply Kd.S_alloc | apply Kd.S_drewN | apply Kd.S_drew)); exact HO_12.out) hb); have n1_ := Aside0.mk (Kd.R_elder' (by (with_reducible repeat (first | apply Kd.R_alloc | apply Kd.R_drewN | apply Kd.R_drew)); exact HO_13.out) (Kd.R_base ho49) hb); have n2_ := Aside0.mk (Kd.R_below (by (with_reducible repeat (first | apply Kd.R_alloc | apply Kd.R_drewN | apply Kd.R_drew)); exact HO_738000.out) hb); have n3_ := Aside0.mk (Kd.R_lower (Kd.R_new' ho49 (Kd.R_lt (by (with_reducible repeat (first | apply Kd.R_alloc | apply Kd.R_drewN | apply Kd.R_drew)); exact HO_13.out))) (below_size (by repeat (first | (with_reducible first | exact HB.out | apply below_alloc | apply pw_below_drewN | apply below_drew1 | refine below_set ?_ GE737.out) | exact HB.out)))); have n4_ := Aside0.mk (blk_below (g := gb737) (o := .cells #[.slice Ao18 t734.length co18] 29 (0, 0)) (by (with_reducible repeat (first | refine blk_drewN ?_ _ | refine blk_drew ?_ | refine blk_alloc ?_ _)); exact BK737.out) hb); have n5_ := Aside0.mk (below_step (by repeat (first | (with_reducible first | exact HB.out | apply below_alloc | apply pw_below_drewN | apply below_drew1 | refine below_set ?_ GE737.out) | exact HB.out)) hb); clear HO_12; clear HO_13; clear HO_738000; clear BK737; clear HB; have HO_12 := n0_; have HO_13 := n1_; have HO_738000 := n2_; have HO742 := n3_; have BK737 := n4_; have HB := n5_; clear n0_ n1_ n2_ n3_ n4_ n5_; clear hb ho49; obtain ⟨Ao50, co50, eo50⟩ := Kd.R_slice HO742.out; subst eo50) | ((with_reducible refine gate_callee (f := 26) rfl ?_); refine goesL_ (some 86) rfl rfl Tryd.func26 (by kernel_rfl) rfl #[.slice Ao14 t728.length co14, .slice Ao50 y740.length co50] rfl (by (try simp only [List.map_toArray, List.map_cons, List.map_nil]); first | done | rfl | (simp only [List.length_drop, List.length_take]; rfl)) ?_; (with_reducible refine (arboristref08_Clique.calls k2 _ _ t728 _ _ y740 false _ ?side1 ?side2 ?side3 ?side4 A30.out).mono ?_); (case side1 => repeat (first | exact (Kd.S_reads' HO_12.out).2.2 | (with_reducible refine Kd.C_alloc ?_ _) | (with_reducible refine Kd.C_drewN ?_ _) | (with_reducible refine Kd.C_drew ?_))); (case side2 => exact (Kd.S_reads' HO_12.out).2.1); (case side3 => repeat (first | exact (Kd.R_reads' HO742.out).2.2 | (with_reducible refine Kd.C_alloc ?_ _) | (with_reducible refine Kd.C_drewN ?_ _) | (with_reducible refine Kd.C_drew ?_))); (case side4 => exact (Kd.R_reads' HO742.out).2.1); rintro e w' ⟨rfl, ⟨nd, rfl⟩⟩; refine ⟨_, rfl, ?_⟩))
                  go_roundg k2
                  case measure => have := HJ10.out; have := HK2.out; omega
                  case rel => exact ⟨(wrap64 (x17_2 + 1)), (by first | rfl | (simp; done) | (simp [*]; done)), H', ⟨by have := HJ10.out; have := HK2.out; omega⟩, ⟨by (with_reducible repeat (first | apply Kd.S_alloc | apply Kd.S_drewN | apply Kd.S_drew)); exact HO_12.out⟩, ⟨by (with_reducible repeat (first | apply Kd.R_alloc | apply Kd.R_drewN | apply Kd.R_drew)); exact Kd.R_mono HO_13.out (fun _ hk => trivial)⟩, ⟨by (with_reducible repeat (first | apply Kd.R_alloc | apply Kd.R_drewN | apply Kd.R_drew)); exact HO_738000.out⟩, ⟨by (with_reducible repeat (first | refine blk_drewN ?_ _ | refine blk_drew ?_ | refine blk_alloc ?_ _)); exact BK737.out⟩, ⟨by repeat (first | (with_reducible first | exact HB.out | apply below_alloc | apply pw_below_drewN | apply below_drew1 | refine below_set ?_ GE737.out) | exact HB.out)⟩⟩
              · rw [if_neg c29] at H
                have c29b0 : decide (x17_2 < (t728.length : Int)) = false := decide_eq_false c29
                clear c29
                by_cases c51 : (Int.tmod (Go.bits .and .i64 a3 65535) (t728.length : Int)) = (Int.tmod (Go.bits .and .i64 a4 65535) (t728.length : Int))
                · rw [if_pos c51] at H
                  have c51b0 : ((Int.tmod (Go.bits .and .i64 a3 65535) (t728.length : Int)) == (Int.tmod (Go.bits .and .i64 a4 65535) (t728.length : Int))) = true := beq_iff_eq.mpr c51
                  have c51b1 : ((Int.tmod (Go.bits .and .i64 a3 65535) (t728.length : Int)) != (Int.tmod (Go.bits .and .i64 a4 65535) (t728.length : Int))) = false := bne_eq_false_iff_eq.mpr c51
                  clear c51
                  replace H := Option.bind_eq_some_iff.mp H
                  obtain ⟨t744, A520, H⟩ := H
                  replace H : ((fill_Width.f k2 t744 t731).bind fun bt747 => (if t727 = true then (if bt747.2 = 0 then (some (decide (bt747.1 ≥ t738))) else (some false)) else (some false))) = some r := H
                  have A52 := Aside0.mk A520
                  clear A520
                  replace H := Option.bind_eq_some_iff.mp H
                  obtain ⟨⟨t747, t748⟩, A530, H⟩ := H
                  replace H : (if t727 = true then (if t748 = 0 then (some (decide (t747 ≥ t738))) else (some false)) else (some false)) = some r := H
                  have A53 := Aside0.mk A530
                  clear A530
                  by_cases c54 : t727 = true
                  · subst c54
                    have H1 : (if t748 = 0 then (some (decide (t747 ≥ t738))) else (some false)) = some r := by rw [if_pos rfl] at H; exact H
                    clear H
                    have H := H1
                    clear H1
                    by_cases c55 : t748 = 0
                    · rw [if_pos c55] at H
                      have c55b0 : (t748 == 0) = true := beq_iff_eq.mpr c55
                      have c55b1 : (t748 != 0) = false := bne_eq_false_iff_eq.mpr c55
                      clear c55
                      obtain rfl := Option.some.inj H
                      go_wp2_with (first | ((with_reducible refine gate_callee (f := 12) rfl ?_); refine goesL_ (some 124) rfl rfl Tryd.func12 (by kernel_rfl) rfl #[.slice Ao14 t728.length co14] rfl (by (try simp only [List.map_toArray, List.map_cons, List.map_nil]); first | done | rfl | (simp only [List.length_drop, List.length_take]; rfl)) ?_; (with_reducible refine (arboristref08_Graph.calls k2 _ _ t728 t744 _ ?side1 ?side2 A52.out).mono ?_); (case side1 => repeat (first | exact (Kd.S_reads' HO_12.out).2.2 | (with_reducible refine Kd.C_alloc ?_ _) | (with_reducible refine Kd.C_drewN ?_ _) | (with_reducible refine Kd.C_drew ?_))); (case side2 => exact (Kd.S_reads' HO_12.out).2.1); rintro e w56 ⟨v745, rfl, ho0, hb⟩; refine ⟨_, rfl, ?_⟩; have n0_ := Aside0.mk (Kd.S_below (by (with_reducible repeat (first | apply Kd.S_alloc | apply Kd.S_drewN | apply Kd.S_drew)); exact HO_12.out) hb); have n1_ := Aside0.mk (Kd.R_below (by (with_reducible repeat (first | apply Kd.R_alloc | apply Kd.R_drewN | apply Kd.R_drew)); exact HO_13.out) hb); have n2_ := Aside0.mk (Kd.R_elder' (by (with_reducible repeat (first | apply Kd.R_alloc | apply Kd.R_drewN | apply Kd.R_drew)); exact HO_738000.out) (Kd.R_base ho0) hb); have n3_ := Aside0.mk (Kd.R_lower (Kd.R_new' ho0 (Kd.R_lt (by (with_reducible repeat (first | apply Kd.R_alloc | apply Kd.R_drewN | apply Kd.R_drew)); exact HO_738000.out))) (below_size (by repeat (first | (with_reducible first | exact HB.out | apply below_alloc | apply pw_below_drewN | apply below_drew1 | refine below_set ?_ GE737.out) | exact HB.out)))); have n4_ := Aside0.mk (blk_below (g := gb737) (o := .cells #[.slice Ao18 t734.length co18] 29 (0, 0)) (by (with_reducible repeat (first | refine blk_drewN ?_ _ | refine blk_drew ?_ | refine blk_alloc ?_ _)); exact BK737.out) hb); have n5_ := Aside0.mk (below_step (by repeat (first | (with_reducible first | exact HB.out | apply below_alloc | apply pw_below_drewN | apply below_drew1 | refine below_set ?_ GE737.out) | exact HB.out)) hb); clear HO_12; clear HO_13; clear HO_738000; clear BK737; clear HB; have HO_12 := n0_; have HO_13 := n1_; have HO_738000 := n2_; have HO746 := n3_; have BK737 := n4_; have HB := n5_; clear n0_ n1_ n2_ n3_ n4_ n5_; (try clear hb); (try clear hb2); (try clear hk); (try clear hi); (try clear ho0); obtain ⟨Ao57, co57, eo57⟩ := Kd.R_slice HO746.out; subst eo57) | ((with_reducible refine gate_callee (f := 16) rfl ?_); refine goesL_ (some 126) rfl rfl Tryd.func16 (by kernel_rfl) rfl #[.agg #[.slice Ao57 t744.length co57], .slice Ao20 t731.length co20] rfl (by (try simp only [List.map_toArray, List.map_cons, List.map_nil]); first | done | rfl | (simp only [List.length_drop, List.length_take]; rfl)) ?_; (with_reducible refine (fill_Width.calls (hTb := (by first | exact HTAB.out | exact tab_drewN HTAB.out _ | exact tab_below HTAB.out (by repeat (first | (with_reducible first | exact HB.out | apply below_alloc | apply pw_below_drewN | apply below_drew1 | refine below_set ?_ GE737.out) | exact HB.out)))) k2 _ _ t744 _ _ t731 t747 t748 _ ?side1 ?side2 ?side3 ?side4 A53.out).mono ?_); (case side1 => repeat (first | exact (Kd.R_reads' HO746.out).2.2 | (with_reducible refine Kd.C_alloc ?_ _) | (with_reducible refine Kd.C_drewN ?_ _) | (with_reducible refine Kd.C_drew ?_))); (case side2 => exact (Kd.R_reads' HO746.out).2.1); (case side3 => repeat (first | exact (Kd.R_reads' HO_13.out).2.2 | (with_reducible refine Kd.C_alloc ?_ _) | (with_reducible refine Kd.C_drewN ?_ _) | (with_reducible refine Kd.C_drew ?_))); (case side4 => exact (Kd.R_reads' HO_13.out).2.1); rintro e w58 ⟨rfl, hb⟩; refine ⟨_, rfl, ?_⟩; have n0_ := Aside0.mk (Kd.S_below (by (with_reducible repeat (first | apply Kd.S_alloc | apply Kd.S_drewN | apply Kd.S_drew)); exact HO_12.out) hb); have n1_ := Aside0.mk (Kd.R_below (by (with_reducible repeat (first | apply Kd.R_alloc | apply Kd.R_drewN | apply Kd.R_drew)); exact HO_13.out) hb); have n2_ := Aside0.mk (Kd.R_below (by (with_reducible repeat (first | apply Kd.R_alloc | apply Kd.R_drewN | apply Kd.R_drew)); exact HO_738000.out) hb); have n3_ := Aside0.mk (Kd.R_below (by (with_reducible repeat (first | apply Kd.R_alloc | apply Kd.R_drewN | apply Kd.R_drew)); exact HO746.out) hb); have n4_ := Aside0.mk (blk_below (g := gb737) (o := .cells #[.slice Ao18 t734.length co18] 29 (0, 0)) (by (with_reducible repeat (first | refine blk_drewN ?_ _ | refine blk_drew ?_ | refine blk_alloc ?_ _)); exact BK737.out) hb); have n5_ := Aside0.mk (below_step (by repeat (first | (with_reducible first | exact HB.out | apply below_alloc | apply pw_below_drewN | apply below_drew1 | refine below_set ?_ GE737.out) | exact HB.out)) hb); clear HO_12; clear HO_13; clear HO_738000; clear HO746; clear BK737; clear HB; have HO_12 := n0_; have HO_13 := n1_; have HO_738000 := n2_; have HO746 := n3_; have BK737 := n4_; have HB := n5_; clear n0_ n1_ n2_ n3_ n4_ n5_; (try clear hb); (try clear hb2); (try clear hk); (try clear hi)))
                      go_ret
                      exact ⟨by first | rfl | (simp [errW_none, errW_some] <;> rfl) | (simp [*, errW_none, errW_some] <;> rfl), by repeat (first | (with_reducible first | exact HB.out | apply below_alloc | apply pw_below_drewN | apply below_drew1 | refine below_set ?_ GE737.out) | exact HB.out)⟩
                    · rw [if_neg c55] at H
                      have c55b0 : (t748 == 0) = false := beq_eq_false_iff_ne.mpr c55
                      have c55b1 : (t748 != 0) = true := bne_iff_ne.mpr c55
                      exact absurd ((Option.some.inj H).trans HT_.out) (by decide)
                  · replace c54 := Bool.eq_false_iff.mpr c54
                    subst c54
                    have H1 : (some false) = some r := by rw [if_neg (show ¬ (false = true) by decide)] at H; exact H
                    clear H
                    have H := H1
                    clear H1
                    exact absurd ((Option.some.inj H).trans HT_.out) (by decide)
                · rw [if_neg c51] at H
                  have c51b0 : ((Int.tmod (Go.bits .and .i64 a3 65535) (t728.length : Int)) == (Int.tmod (Go.bits .and .i64 a4 65535) (t728.length : Int))) = false := beq_eq_false_iff_ne.mpr c51
                  have c51b1 : ((Int.tmod (Go.bits .and .i64 a3 65535) (t728.length : Int)) != (Int.tmod (Go.bits .and .i64 a4 65535) (t728.length : Int))) = true := bne_iff_ne.mpr c51
                  obtain ⟨ji59, hji59⟩ : ∃ j_ : Int, (Int.tmod (Go.bits .and .i64 a3 65535) (t728.length : Int)) = j_ := ⟨_, rfl⟩
                  replace H : (if 0 ≤ (ji59) then (if (ji59) < (t728.length : Int) then (if 0 ≤ (Int.tmod (Go.bits .and .i64 a4 65535) (t728.length : Int)) then (if (Int.tmod (Go.bits .and .i64 a4 65535) (t728.length : Int)) < ((rd_L7 t728 (ji59)).length : Int) then ((some (t728.set ((ji59) : Int).toNat ((rd_L7 t728 (ji59)).set ((Int.tmod (Go.bits .and .i64 a4 65535) (t728.length : Int)) : Int).toNat true) : List (List Bool))).bind fun y752 => (if (Int.tmod (Go.bits .and .i64 a4 65535) (t728.length : Int)) < (t728.length : Int) then (if (ji59) < ((rd_L7 y752 (Int.tmod (Go.bits .and .i64 a4 65535) (t728.length : Int))).length : Int) then ((arboristref08_Graph.f k2 (y752.set ((Int.tmod (Go.bits .and .i64 a4 65535) (t728.length : Int)) : Int).toNat ((rd_L7 y752 (Int.tmod (Go.bits .and .i64 a4 65535) (t728.length : Int))).set ((ji59) : Int).toNat true))).bind fun t757 => ((fill_Width.f k2 t757 t731).bind fun bt760 => (if t727 = true then (if bt760.2 = 0 then (some (decide (bt760.1 ≥ t738))) else (some false)) else (some false)))) else (none)) else (none))) else (none)) else (none)) else (none)) else (none)) = some r := by first | (rw [hji59] at H; exact H) | (simp only [hji59] at H ⊢; exact H)
                  (try rw [hji59] at c51b0)
                  (try rw [hji59] at c51b1)
                  by_cases c60 : 0 ≤ (ji59)
                  · rw [if_pos c60] at H
                    have c60b0 : decide (0 ≤ (ji59)) = true := decide_eq_true c60
                    clear c60
                    by_cases c61 : (ji59) < (t728.length : Int)
                    · rw [if_pos c61] at H
                      have c61b0 : decide ((ji59) < (t728.length : Int)) = true := decide_eq_true c61
                      clear c61
                      obtain ⟨ji62, hji62⟩ : ∃ j_ : Int, (Int.tmod (Go.bits .and .i64 a4 65535) (t728.length : Int)) = j_ := ⟨_, rfl⟩
                      replace H : (if 0 ≤ (ji62) then (if (ji62) < ((rd_L7 t728 (ji59)).length : Int) then ((some (t728.set ((ji59) : Int).toNat ((rd_L7 t728 (ji59)).set ((ji62) : Int).toNat true) : List (List Bool))).bind fun y752 => (if (ji62) < (t728.length : Int) then (if (ji59) < ((rd_L7 y752 (ji62)).length : Int) then ((arboristref08_Graph.f k2 (y752.set ((ji62) : Int).toNat ((rd_L7 y752 (ji62)).set ((ji59) : Int).toNat true))).bind fun t757 => ((fill_Width.f k2 t757 t731).bind fun bt760 => (if t727 = true then (if bt760.2 = 0 then (some (decide (bt760.1 ≥ t738))) else (some false)) else (some false)))) else (none)) else (none))) else (none)) else (none)) = some r := by first | (rw [hji62] at H; exact H) | (simp only [hji62] at H ⊢; exact H)
                      (try rw [hji62] at c51b0)
                      (try rw [hji62] at c51b1)
                      by_cases c63 : 0 ≤ (ji62)
                      · rw [if_pos c63] at H
                        have c63b0 : decide (0 ≤ (ji62)) = true := decide_eq_true c63
                        clear c63
                        by_cases c64 : (ji62) < ((rd_L7 t728 (ji59)).length : Int)
                        · rw [if_pos c64] at H
                          have c64b0 : decide ((ji62) < ((rd_L7 t728 (ji59)).length : Int)) = true := decide_eq_true c64
                          clear c64
                          obtain ⟨y750, hy750⟩ : ∃ y_ : List Bool, y_ = ((rd_L7 t728 (ji59)).set ((ji62) : Int).toNat true) := ⟨_, rfl⟩
                          replace H : ((some (t728.set ((ji59) : Int).toNat y750 : List (List Bool))).bind fun y752 => (if (ji62) < (t728.length : Int) then (if (ji59) < ((rd_L7 y752 (ji62)).length : Int) then ((arboristref08_Graph.f k2 (y752.set ((ji62) : Int).toNat ((rd_L7 y752 (ji62)).set ((ji59) : Int).toNat true))).bind fun t757 => ((fill_Width.f k2 t757 t731).bind fun bt760 => (if t727 = true then (if bt760.2 = 0 then (some (decide (bt760.1 ≥ t738))) else (some false)) else (some false)))) else (none)) else (none))) = some r := by first | (rw [hy750]; with_reducible exact H) | (have H2_ := (Option.bind_some _ _).symm.trans H; rw [hy750]; with_reducible exact H2_) | (have H2_ := (Option.bind_some _ _).symm.trans H; with_reducible exact H2_) | with_reducible exact H | (rw [hy750]; exact H) | exact H
                          have Ny750 := Aside0.mk hy750
                          clear hy750
                          obtain ⟨y752, hy752⟩ : ∃ y_ : List (List Bool), y_ = (t728.set ((ji59) : Int).toNat y750) := ⟨_, rfl⟩
                          replace H : (if (ji62) < (t728.length : Int) then (if (ji59) < ((rd_L7 y752 (ji62)).length : Int) then ((arboristref08_Graph.f k2 (y752.set ((ji62) : Int).toNat ((rd_L7 y752 (ji62)).set ((ji59) : Int).toNat true))).bind fun t757 => ((fill_Width.f k2 t757 t731).bind fun bt760 => (if t727 = true then (if bt760.2 = 0 then (some (decide (bt760.1 ≥ t738))) else (some false)) else (some false)))) else (none)) else (none)) = some r := by first | (rw [hy752]; with_reducible exact H) | (have H2_ := (Option.bind_some _ _).symm.trans H; rw [hy752]; with_reducible exact H2_) | (have H2_ := (Option.bind_some _ _).symm.trans H; with_reducible exact H2_) | with_reducible exact H | (rw [hy752]; exact H) | exact H
                          have Ny752 := Aside0.mk hy752
                          clear hy752
                          by_cases c66 : (ji62) < (t728.length : Int)
                          · rw [if_pos c66] at H
                            have c66b0 : decide ((ji62) < (t728.length : Int)) = true := decide_eq_true c66
                            clear c66
                            by_cases c67 : (ji59) < ((rd_L7 y752 (ji62)).length : Int)
                            · rw [if_pos c67] at H
                              have c67b0 : decide ((ji59) < ((rd_L7 y752 (ji62)).length : Int)) = true := decide_eq_true c67
                              clear c67
                              obtain ⟨y754, hy754⟩ : ∃ y_ : List Bool, y_ = ((rd_L7 y752 (ji62)).set ((ji59) : Int).toNat true) := ⟨_, rfl⟩
                              replace H : ((arboristref08_Graph.f k2 (y752.set ((ji62) : Int).toNat y754)).bind fun t757 => ((fill_Width.f k2 t757 t731).bind fun bt760 => (if t727 = true then (if bt760.2 = 0 then (some (decide (bt760.1 ≥ t738))) else (some false)) else (some false)))) = some r := by first | (rw [hy754]; with_reducible exact H) | (have H2_ := (Option.bind_some _ _).symm.trans H; rw [hy754]; with_reducible exact H2_) | (have H2_ := (Option.bind_some _ _).symm.trans H; with_reducible exact H2_) | with_reducible exact H | (rw [hy754]; exact H) | exact H
                              have Ny754 := Aside0.mk hy754
                              clear hy754
                              obtain ⟨y756, hy756⟩ : ∃ y_ : List (List Bool), y_ = (y752.set ((ji62) : Int).toNat y754) := ⟨_, rfl⟩
                              replace H : ((arboristref08_Graph.f k2 y756).bind fun t757 => ((fill_Width.f k2 t757 t731).bind fun bt760 => (if t727 = true then (if bt760.2 = 0 then (some (decide (bt760.1 ≥ t738))) else (some false)) else (some false)))) = some r := by first | (rw [hy756]; with_reducible exact H) | (have H2_ := (Option.bind_some _ _).symm.trans H; rw [hy756]; with_reducible exact H2_) | (have H2_ := (Option.bind_some _ _).symm.trans H; with_reducible exact H2_) | with_reducible exact H | (rw [hy756]; exact H) | exact H
                              have Ny756 := Aside0.mk hy756
                              clear hy756
                              replace H := Option.bind_eq_some_iff.mp H
                              obtain ⟨t757, A690, H⟩ := H
                              replace H : ((fill_Width.f k2 t757 t731).bind fun bt760 => (if t727 = true then (if bt760.2 = 0 then (some (decide (bt760.1 ≥ t738))) else (some false)) else (some false))) = some r := H
                              have A69 := Aside0.mk A690
                              clear A690
                              replace H := Option.bind_eq_some_iff.mp H
                              obtain ⟨⟨t760, t761⟩, A700, H⟩ := H
                              replace H : (if t727 = true then (if t761 = 0 then (some (decide (t760 ≥ t738))) else (some false)) else (some false)) = some r := H
                              have A70 := Aside0.mk A700
                              clear A700
                              by_cases c71 : t727 = true
                              · subst c71
                                have H1 : (if t761 = 0 then (some (decide (t760 ≥ t738))) else (some false)) = some r := by rw [if_pos rfl] at H; exact H
                                clear H
                                have H := H1
                                clear H1
                                by_cases c72 : t761 = 0
                                · rw [if_pos c72] at H
                                  have c72b0 : (t761 == 0) = true := beq_iff_eq.mpr c72
                                  have c72b1 : (t761 != 0) = false := bne_eq_false_iff_eq.mpr c72
                                  clear c72
                                  obtain rfl := Option.some.inj H
                                  have p749 : 0 ≤ ((ji59) : Int) := of_decide_eq_true (by first | (with_reducible assumption) | assumption)
                                  have q749 : (ji59) < (t728.length : Int) := of_decide_eq_true (by first | (with_reducible assumption) | assumption)
                                  obtain ⟨ad749, A749_0, c749_0, e749, hx749_0, hl749_0, hi749_0⟩ := at_L7 (Kd.S_reads' HO_12.out).2.2 (ji59) p749 q749
                                  cases e749
                                  obtain ⟨ce749, hce749, hMe749, hcc749⟩ := Kd.S_get HO_12.out [] (ji59) p749 (by first | exact q749 | exact of_decide_eq_true (by first | (with_reducible assumption) | assumption) | (have e_ := (Kd.S_reads' HO_12.out).1; omega))
                                  obtain ⟨ve749_0, rfl, ge749_0⟩ := hMe749
                                  have hv749_0 := hcc749 0 _ rfl
                                  rw [Nat.add_zero, show ((Kd.slice 4 Kd.bool)).sz = 1 from rfl, Nat.mul_one] at hv749_0
                                  replace hv749_0 := Option.some.inj (hv749_0.symm.trans hx749_0)
                                  rw [hv749_0] at ge749_0
                                  have HL749_0 := Aside0.mk (show Kd.R Kd.bool 4 _ _ _ _ (rd_L7 t728 (ji59)) from ge749_0)
                                  clear hv749_0 ge749_0
                                  have HX749_0 := Aside0.mk hx749_0
                                  clear hcc749 hce749
                                  have HR749_0 := Aside0.mk hi749_0
                                  have HC749_0 := Aside0.mk hl749_0
                                  clear hi749_0 hl749_0
                                  replace p749 := eq_true p749
                                  replace q749 := eq_true q749
                                  have p65 : 0 ≤ ((ji62) : Int) := of_decide_eq_true (by first | (with_reducible assumption) | assumption)
                                  have q65 : ((ji62) : Int) < (((rd_L7 t728 (ji59)).length : Int) : Int) := of_decide_eq_true (by first | (with_reducible assumption) | assumption)
                                  obtain ⟨go65, co65, eo65, gb65, gl65, cl65, HG65⟩ := Kd.R_form HL749_0.out (by omega)
                                  (first | cases eo65 | (injection eo65 with ea_ en_ ec_; (first | subst ea_ | (injection ea_ with ea_; subst ea_)); subst ec_; clear en_))
                                  have GB65 := Aside0.mk gb65
                                  have GG65 := Aside0.mk HG65
                                  clear gb65 gl65 HG65
                                  obtain ⟨hx65_0, hf65_0⟩ := Kd.R_celln false HL749_0.out ((ji62) : Int) p65 q65
                                  replace p65 := eq_true p65
                                  replace q65 := eq_true q65
                                  have hq73 : ((ji59) : Int) < (t728.length : Int) := (by have h_ : ((ji59) : Int) < ((t728.length : Int) : Int) := of_decide_eq_true (by first | (with_reducible assumption) | assumption); first | exact h_ | (have e_ := (Kd.S_reads' HO_12.out).1; omega) | simpa only [List.length_set, List.length_set] using h_)
                                  obtain ⟨oki73, ce73, hcl73, hM73, hcc73, hok73, hbk73⟩ := Kd.S_borrow HO_12.out [] ((ji59) : Int) (of_decide_eq_true (by first | (with_reducible assumption) | assumption)) (by first | exact hq73 | (have e_ := (Kd.S_reads' HO_12.out).1; have h_ := hq73; omega))
                                  obtain ⟨ve73_0, rfl, ge73_0⟩ := hM73
                                  have hv73 := hcc73 0 _ rfl
                                  rw [Nat.add_zero, show ((Kd.slice 4 Kd.bool)).sz = 1 from rfl, Nat.mul_one] at hv73
                                  replace hv73 := Option.some.inj (hv73.symm.trans HX749_0.out)
                                  subst hv73
                                  clear hcc73 hcl73
                                  replace ge73_0 := (show Kd.R Kd.bool 4 _ _ _ _ (rd_L7 t728 (ji59)) from ge73_0)
                                  have HP73 := Kd.R_putg ge73_0 ((ji62) : Int) true
                                  go_wp2_with (first | ((with_reducible refine gate_store (t := 4) (p := 115) rfl ?_); refine store_event (t := 4) (p := 115) (v := ?vo_w74) (w1 := (wr.setCell ⟨go65, ((ji62) : Int).toNat, none⟩ (.bool true))) ?hg ?ho ?hn ?hr ?_; (case ho => rfl); (case hg => rfl); (case hn => rfl); (case hr => first | (go_simp; done) | (go_simp; rfl)); intro w74 hw; have hg : wr.grownBy w74 (some go65) := (by rw [hw]; exact HP73.2); have hz_ : Kd.R Kd.bool 4 w74 w.heap.size oki73 (.slice (some ⟨go65, 0, none⟩) (rd_L7 t728 (ji59)).length c749_0) y750 := (by rw [hw, Ny750.out]; exact HP73.1); have hp_ : Kd.S (Kd.slice 4 Kd.bool) 55 w74 w.heap.size (fun _ => True) (.slice (some ad749) t728.length co14) y752 := (by rw [Ny752.out]; exact hbk73 hg (fun k_ e_ => by injection e_ with e_; subst e_; exact ge73_0.1 _ rfl) (Kd.M_row hz_)); have hm_ := Kd.R_mono hz_ hok73; clear HP73 hbk73; have n0_ := Aside0.mk (hp_); have n1_ := Aside0.mk (Kd.R_over' (v := (.slice (some ⟨go65, 0, none⟩) (rd_L7 t728 (ji59)).length c749_0)) (by (with_reducible repeat (first | apply Kd.R_alloc | apply Kd.R_drewN | apply Kd.R_drew)); exact HO_13.out) (Kd.R_typed HL749_0.out) (by decide) hg); have n2_ := Aside0.mk (Kd.R_over' (v := (.slice (some ⟨go65, 0, none⟩) (rd_L7 t728 (ji59)).length c749_0)) (by (with_reducible repeat (first | apply Kd.R_alloc | apply Kd.R_drewN | apply Kd.R_drew)); exact HO_738000.out) (Kd.R_typed HL749_0.out) (by decide) hg); have n3_ := Aside0.mk (blk_grown (g := gb737) (o := .cells #[.slice Ao18 t734.length co18] 29 (0, 0)) (by (with_reducible repeat (first | refine blk_drewN ?_ _ | refine blk_drew ?_ | refine blk_alloc ?_ _)); exact BK737.out) hg (Kd.R_ne HL749_0.out BK737.out (by decide))); have n4_ := Aside0.mk ((by rw [hw]; exact below_set (HB.out) GB65.out : Below w.heap.size w w74)); have n5_ := Aside0.mk (hm_); have n6_ := Aside0.mk ((Kd.R_reads' hm_).2.1); clear HO_12; clear HO_13; clear HO_738000; clear BK737; clear HB; clear HL749_0; have HO_12 := n0_; have HO_13 := n1_; have HO_738000 := n2_; have BK737 := n3_; have HB := n4_; have HL762 := n5_; have HC751 := n6_; clear n0_ n1_ n2_ n3_ n4_ n5_ n6_; clear hg hw hp_ hz_ hm_ hok73; have p753 : 0 ≤ ((ji62) : Int) := of_decide_eq_true (by first | (with_reducible assumption) | assumption); have q753 : (ji62) < (y752.length : Int) := (by have h_ : ((ji62) : Int) < ((t728.length : Int) : Int) := of_decide_eq_true (by first | (with_reducible assumption) | assumption); first | (have e_ := (Kd.S_reads' HO_12.out).1; omega) | simpa only [Ny752.out, List.length_set] using h_); have ql753 : (((ji62) : Int) < ((t728.length : Int) : Int)) = True := eq_true (of_decide_eq_true (by first | (with_reducible assumption) | assumption)); obtain ⟨ad753, A753_0, c753_0, e753, hx753_0, hl753_0, hi753_0⟩ := at_L7 (Kd.S_reads' HO_12.out).2.2 (ji62) p753 q753; obtain rfl : ad749 = ad753 := (by injection e753); obtain ⟨ce753, hce753, hMe753, hcc753⟩ := Kd.S_get HO_12.out [] (ji62) p753 (by first | exact q753 | exact of_decide_eq_true (by first | (with_reducible assumption) | assumption) | (have e_ := (Kd.S_reads' HO_12.out).1; omega)); obtain ⟨ve753_0, rfl, ge753_0⟩ := hMe753; have hv753_0 := hcc753 0 _ rfl; rw [Nat.add_zero, show ((Kd.slice 4 Kd.bool)).sz = 1 from rfl, Nat.mul_one] at hv753_0; replace hv753_0 := Option.some.inj (hv753_0.symm.trans hx753_0); rw [hv753_0] at ge753_0; have HL753_0 := Aside0.mk (show Kd.R Kd.bool 4 _ _ _ _ (rd_L7 y752 (ji62)) from ge753_0); clear hv753_0 ge753_0; have HX753_0 := Aside0.mk hx753_0; clear hcc753 hce753; have HR753_0 := Aside0.mk hi753_0; have HC753_0 := Aside0.mk hl753_0; clear hi753_0 hl753_0; replace p753 := eq_true p753; replace q753 := eq_true q753; have p68 : 0 ≤ ((ji59) : Int) := of_decide_eq_true (by first | (with_reducible assumption) | assumption); have q68 : ((ji59) : Int) < (((rd_L7 y752 (ji62)).length : Int) : Int) := of_decide_eq_true (by first | (with_reducible assumption) | assumption); obtain ⟨go68, co68, eo68, gb68, gl68, cl68, HG68⟩ := Kd.R_form HL753_0.out (by omega); (first | cases eo68 | (injection eo68 with ea_ en_ ec_; (first | subst ea_ | (injection ea_ with ea_; subst ea_)); subst ec_; clear en_)); have GB68 := Aside0.mk gb68; have GG68 := Aside0.mk HG68; clear gb68 gl68 HG68; obtain ⟨hx68_0, hf68_0⟩ := Kd.R_celln false HL753_0.out ((ji59) : Int) p68 q68; replace p68 := eq_true p68; replace q68 := eq_true q68; have hq75 : ((ji62) : Int) < (y752.length : Int) := (by have h_ : ((ji62) : Int) < ((t728.length : Int) : Int) := of_decide_eq_true (by first | (with_reducible assumption) | assumption); first | exact h_ | (have e_ := (Kd.S_reads' HO_12.out).1; omega) | simpa only [Ny752.out, List.length_set] using h_); obtain ⟨oki75, ce75, hcl75, hM75, hcc75, hok75, hbk75⟩ := Kd.S_borrow HO_12.out [] ((ji62) : Int) (of_decide_eq_true (by first | (with_reducible assumption) | assumption)) (by first | exact hq75 | (have e_ := (Kd.S_reads' HO_12.out).1; have h_ := hq75; omega)); obtain ⟨ve75_0, rfl, ge75_0⟩ := hM75; have hv75 := hcc75 0 _ rfl; rw [Nat.add_zero, show ((Kd.slice 4 Kd.bool)).sz = 1 from rfl, Nat.mul_one] at hv75; replace hv75 := Option.some.inj (hv75.symm.trans HX753_0.out); subst hv75; clear hcc75 hcl75; replace ge75_0 := (show Kd.R Kd.bool 4 _ _ _ _ (rd_L7 y752 (ji62)) from ge75_0); have HP75 := Kd.R_putg ge75_0 ((ji59) : Int) true) | ((with_reducible refine gate_store (t := 4) (p := 121) rfl ?_); refine store_event (t := 4) (p := 121) (v := ?vo_w76) (w1 := (w74.setCell ⟨go68, ((ji59) : Int).toNat, none⟩ (.bool true))) ?hg ?ho ?hn ?hr ?_; (case ho => rfl); (case hg => rfl); (case hn => rfl); (case hr => first | (go_simp; done) | (go_simp; rfl)); intro w76 hw; have hg : w74.grownBy w76 (some go68) := (by rw [hw]; exact HP75.2); have hz_ : Kd.R Kd.bool 4 w76 w.heap.size oki75 (.slice (some ⟨go68, 0, none⟩) (rd_L7 y752 (ji62)).length c753_0) y754 := (by rw [hw, Ny754.out]; exact HP75.1); have hp_ : Kd.S (Kd.slice 4 Kd.bool) 55 w76 w.heap.size (fun _ => True) (.slice (some ad749) t728.length co14) y756 := (by rw [Ny756.out]; exact hbk75 hg (fun k_ e_ => by injection e_ with e_; subst e_; exact ge75_0.1 _ rfl) (Kd.M_row hz_)); have hm_ := Kd.R_mono hz_ hok75; clear HP75 hbk75; have n0_ := Aside0.mk (hp_); have n1_ := Aside0.mk (Kd.R_over' (v := (.slice (some ⟨go68, 0, none⟩) (rd_L7 y752 (ji62)).length c753_0)) (by (with_reducible repeat (first | apply Kd.R_alloc | apply Kd.R_drewN | apply Kd.R_drew)); exact HO_13.out) (Kd.R_typed HL753_0.out) (by decide) hg); have n2_ := Aside0.mk (Kd.R_over' (v := (.slice (some ⟨go68, 0, none⟩) (rd_L7 y752 (ji62)).length c753_0)) (by (with_reducible repeat (first | apply Kd.R_alloc | apply Kd.R_drewN | apply Kd.R_drew)); exact HO_738000.out) (Kd.R_typed HL753_0.out) (by decide) hg); have n3_ := Aside0.mk (blk_grown (g := gb737) (o := .cells #[.slice Ao18 t734.length co18] 29 (0, 0)) (by (with_reducible repeat (first | refine blk_drewN ?_ _ | refine blk_drew ?_ | refine blk_alloc ?_ _)); exact BK737.out) hg (Kd.R_ne HL753_0.out BK737.out (by decide))); have n4_ := Aside0.mk ((by rw [hw]; exact below_set (HB.out) GB68.out : Below w.heap.size w w76)); have n5_ := Aside0.mk (hm_); have n6_ := Aside0.mk ((Kd.R_reads' hm_).2.1); clear HO_12; clear HO_13; clear HO_738000; clear BK737; clear HB; clear HL762; clear HL753_0; have HO_12 := n0_; have HO_13 := n1_; have HO_738000 := n2_; have BK737 := n3_; have HB := n4_; have HL763 := n5_; have HC755 := n6_; clear n0_ n1_ n2_ n3_ n4_ n5_ n6_; clear hg hw hp_ hz_ hm_ hok75) | ((with_reducible refine gate_callee (f := 12) rfl ?_); refine goesL_ (some 124) rfl rfl Tryd.func12 (by kernel_rfl) rfl #[.slice (some ad749) y756.length co14] rfl (by (try simp only [List.map_toArray, List.map_cons, List.map_nil]); first | done | (rw [show y756.length = t728.length from (Kd.S_reads' HO_12.out).1.symm] <;> rfl) | rfl | (simp only [List.length_drop, List.length_take]; rfl)) ?_; (with_reducible refine (arboristref08_Graph.calls k2 _ _ y756 t757 _ ?side1 ?side2 A69.out).mono ?_); (case side1 => repeat (first | exact (Kd.S_reads' HO_12.out).2.2 | (with_reducible refine Kd.C_alloc ?_ _) | (with_reducible refine Kd.C_drewN ?_ _) | (with_reducible refine Kd.C_drew ?_))); (case side2 => rw [show y756.length = t728.length from (Kd.S_reads' HO_12.out).1.symm]; exact (Kd.S_reads' HO_12.out).2.1); rintro e w77 ⟨v758, rfl, ho0, hb⟩; refine ⟨_, rfl, ?_⟩; have n0_ := Aside0.mk (Kd.S_below (by (with_reducible repeat (first | apply Kd.S_alloc | apply Kd.S_drewN | apply Kd.S_drew)); exact HO_12.out) hb); have n1_ := Aside0.mk (Kd.R_below (by (with_reducible repeat (first | apply Kd.R_alloc | apply Kd.R_drewN | apply Kd.R_drew)); exact HO_13.out) hb); have n2_ := Aside0.mk (Kd.R_elder' (by (with_reducible repeat (first | apply Kd.R_alloc | apply Kd.R_drewN | apply Kd.R_drew)); exact HO_738000.out) (Kd.R_base ho0) hb); have n3_ := Aside0.mk (Kd.R_below (by (with_reducible repeat (first | apply Kd.R_alloc | apply Kd.R_drewN | apply Kd.R_drew)); exact HL763.out) hb); have n4_ := Aside0.mk (Kd.R_lower (Kd.R_new' ho0 (Kd.R_lt (by (with_reducible repeat (first | apply Kd.R_alloc | apply Kd.R_drewN | apply Kd.R_drew)); exact HO_738000.out))) (below_size (by repeat (first | (with_reducible first | exact HB.out | apply below_alloc | apply pw_below_drewN | apply below_drew1 | refine below_set ?_ GE737.out) | exact HB.out)))); have n5_ := Aside0.mk (blk_below (g := gb737) (o := .cells #[.slice Ao18 t734.length co18] 29 (0, 0)) (by (with_reducible repeat (first | refine blk_drewN ?_ _ | refine blk_drew ?_ | refine blk_alloc ?_ _)); exact BK737.out) hb); have n6_ := Aside0.mk (below_step (by repeat (first | (with_reducible first | exact HB.out | apply below_alloc | apply pw_below_drewN | apply below_drew1 | refine below_set ?_ GE737.out) | exact HB.out)) hb); clear HO_12; clear HO_13; clear HO_738000; clear HL763; clear BK737; clear HB; have HO_12 := n0_; have HO_13 := n1_; have HO_738000 := n2_; have HL763 := n3_; have HO759 := n4_; have BK737 := n5_; have HB := n6_; clear n0_ n1_ n2_ n3_ n4_ n5_ n6_; (try clear hb); (try clear hb2); (try clear hk); (try clear hi); (try clear ho0); obtain ⟨Ao78, co78, eo78⟩ := Kd.R_slice HO759.out; subst eo78) | ((with_reducible refine gate_callee (f := 16) rfl ?_); refine goesL_ (some 126) rfl rfl Tryd.func16 (by kernel_rfl) rfl #[.agg #[.slice Ao78 t757.length co78], .slice Ao20 t731.length co20] rfl (by (try simp only [List.map_toArray, List.map_cons, List.map_nil]); first | done | rfl | (simp only [List.length_drop, List.length_take]; rfl)) ?_; (with_reducible refine (fill_Width.calls (hTb := (by first | exact HTAB.out | exact tab_drewN HTAB.out _ | exact tab_below HTAB.out (by repeat (first | (with_reducible first | exact HB.out | apply below_alloc | apply pw_below_drewN | apply below_drew1 | refine below_set ?_ GE737.out) | exact HB.out)))) k2 _ _ t757 _ _ t731 t760 t761 _ ?side1 ?side2 ?side3 ?side4 A70.out).mono ?_); (case side1 => repeat (first | exact (Kd.R_reads' HO759.out).2.2 | (with_reducible refine Kd.C_alloc ?_ _) | (with_reducible refine Kd.C_drewN ?_ _) | (with_reducible refine Kd.C_drew ?_))); (case side2 => exact (Kd.R_reads' HO759.out).2.1); (case side3 => repeat (first | exact (Kd.R_reads' HO_13.out).2.2 | (with_reducible refine Kd.C_alloc ?_ _) | (with_reducible refine Kd.C_drewN ?_ _) | (with_reducible refine Kd.C_drew ?_))); (case side4 => exact (Kd.R_reads' HO_13.out).2.1); rintro e w79 ⟨rfl, hb⟩; refine ⟨_, rfl, ?_⟩; have n0_ := Aside0.mk (Kd.S_below (by (with_reducible repeat (first | apply Kd.S_alloc | apply Kd.S_drewN | apply Kd.S_drew)); exact HO_12.out) hb); have n1_ := Aside0.mk (Kd.R_below (by (with_reducible repeat (first | apply Kd.R_alloc | apply Kd.R_drewN | apply Kd.R_drew)); exact HO_13.out) hb); have n2_ := Aside0.mk (Kd.R_below (by (with_reducible repeat (first | apply Kd.R_alloc | apply Kd.R_drewN | apply Kd.R_drew)); exact HO_738000.out) hb); have n3_ := Aside0.mk (Kd.R_below (by (with_reducible repeat (first | apply Kd.R_alloc | apply Kd.R_drewN | apply Kd.R_drew)); exact HL763.out) hb); have n4_ := Aside0.mk (Kd.R_below (by (with_reducible repeat (first | apply Kd.R_alloc | apply Kd.R_drewN | apply Kd.R_drew)); exact HO759.out) hb); have n5_ := Aside0.mk (blk_below (g := gb737) (o := .cells #[.slice Ao18 t734.length co18] 29 (0, 0)) (by (with_reducible repeat (first | refine blk_drewN ?_ _ | refine blk_drew ?_ | refine blk_alloc ?_ _)); exact BK737.out) hb); have n6_ := Aside0.mk (below_step (by repeat (first | (with_reducible first | exact HB.out | apply below_alloc | apply pw_below_drewN | apply below_drew1 | refine below_set ?_ GE737.out) | exact HB.out)) hb); clear HO_12; clear HO_13; clear HO_738000; clear HL763; clear HO759; clear BK737; clear HB; have HO_12 := n0_; have HO_13 := n1_; have HO_738000 := n2_; have HL763 := n3_; have HO759 := n4_; have BK737 := n5_; have HB := n6_; clear n0_ n1_ n2_ n3_ n4_ n5_ n6_; (try clear hb); (try clear hb2); (try clear hk); (try clear hi)))
                                  go_ret
                                  exact ⟨by first | rfl | (simp [errW_none, errW_some] <;> rfl) | (simp only [← hji59, ← hji62]; first | rfl | (simp [errW_none, errW_some] <;> rfl)) | (simp [*, errW_none, errW_some] <;> rfl), by repeat (first | (with_reducible first | exact HB.out | apply below_alloc | apply pw_below_drewN | apply below_drew1 | refine below_set ?_ GE737.out) | exact HB.out)⟩
                                · rw [if_neg c72] at H
                                  have c72b0 : (t761 == 0) = false := beq_eq_false_iff_ne.mpr c72
                                  have c72b1 : (t761 != 0) = true := bne_iff_ne.mpr c72
                                  exact absurd ((Option.some.inj H).trans HT_.out) (by decide)
                              · replace c71 := Bool.eq_false_iff.mpr c71
                                subst c71
                                have H1 : (some false) = some r := by rw [if_neg (show ¬ (false = true) by decide)] at H; exact H
                                clear H
                                have H := H1
                                clear H1
                                exact absurd ((Option.some.inj H).trans HT_.out) (by decide)
                            · rw [if_neg c67] at H
                              exact absurd H (by simp)
                          · rw [if_neg c66] at H
                            exact absurd H (by simp)
                        · rw [if_neg c64] at H
                          exact absurd H (by simp)
                      · rw [if_neg c63] at H
                        exact absurd H (by simp)
                    · rw [if_neg c61] at H
                      exact absurd H (by simp)
                  · rw [if_neg c60] at H
                    exact absurd H (by simp)

/-- THE ONE PURE STATEMENT of arboristlaw10_FillWide. -/
def arboristlaw10_FillWide.Pure : Prop := ∀ (a0 : Int) (l1 : List (List Int)) (l2 : List Int) (a3 : Int) (a4 : Int), (Lit.int .i64 a0).wf = true → (l1.length ≤ maxLen ∧ ∀ z0 ∈ l1, (z0.length ≤ maxLen ∧ ∀ z1 ∈ z0, (Lit.int .i64 z1).wf = true)) → (l2.length ≤ maxLen ∧ ∀ z0 ∈ l2, (Lit.int .i64 z0).wf = true) → (Lit.int .i64 a3).wf = true → (Lit.int .i64 a4).wf = true → ∃ k, arboristlaw10_FillWide.f k a0 l1 l2 a3 a4 = some true

end Go.Proofs.YtopjffgmpphdbaaDoor.Pr
