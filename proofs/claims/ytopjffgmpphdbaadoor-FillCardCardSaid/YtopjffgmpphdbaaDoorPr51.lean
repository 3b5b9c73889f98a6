-- Printed by a program of this session's own (wip/tools/pp.py) over the kit's print.py; Lean checks it.
import Derived.Test.YtopjffgmpphdbaaDoorPr0
import Derived.Test.YtopjffgmpphdbaaDoorPr22
import Derived.Test.YtopjffgmpphdbaaDoorPr28
import Derived.Test.YtopjffgmpphdbaaDoorPr29
import Derived.Test.YtopjffgmpphdbaaDoorPr30
import Derived.Test.YtopjffgmpphdbaaDoorPr33
import Derived.Test.YtopjffgmpphdbaaDoorPr43
import Derived.Test.YtopjffgmpphdbaaDoorPr46
namespace Go.Proofs.YtopjffgmpphdbaaDoor.Pr
open Go.RowKit Go.Proofs.YtopjffgmpphdbaaDoorW.PrintWords Go.Proofs.YtopjffgmpphdbaaDoorW.PrintLast Go.Proofs.YtopjffgmpphdbaaDoorW.PrintMore
attribute [local go_sem] max2_int min2_int max_two min_two max_three min_three max_four min_four   -- for this text's walks alone
set_option linter.unusedVariables false
set_option linter.unusedSimpArgs false

/-! ### arboristlaw10_FillCard: function 6 -/
mutual
def arboristlaw10_FillCard.j0 : Nat → Bool → List (List Bool) → Bool → List Int → Option (Bool)
  | 0, _, _, _, _ => none
  | k + 1, x7, x11, x42, x667000 => if x42 = true then (some false) else (arboristlaw10_FillCard.l0 k x7 x11 1 x667000)
def arboristlaw10_FillCard.l0 : Nat → Bool → List (List Bool) → Int → List Int → Option (Bool)
  | 0, _, _, _, _ => none
  | k + 1, x7, x11, x13, x667000 => if x13 < 4 then ((order_Of.f k x667000 x13).bind fun bt671 => ((fill_Filled.f x667000 bt671.1).bind fun bt675 => (if bt671.2 = 0 then (if bt675.2 = 0 then ((arboristlaw10_alike.f k bt675.1 x11).bind fun t680 => (if t680 = true then (arboristlaw10_FillCard.l0 k x7 x11 (wrap64 (x13 + 2)) x667000) else (some false))) else (some false)) else (some false)))) else (some x7)
end
def arboristlaw10_FillCard.f (k : Nat) (a0 : Int) (l1 : List (List Int)) (l2 : List Int) : Option (Bool) := (arboristlaw10_shown.f k).bind fun t652 => ((arboristlaw10_made.f k a0 l1).bind fun t653 => ((arboristref08_Graph.f k t653).bind fun t656 => ((arboristlaw10_given.f k (t653.length : Int) l2).bind fun t659 => ((fill_Filled.f t656 t659).bind fun bt662 => ((arboristref08_Truths.f k bt662.1).bind fun bt667 => (if bt662.2 = 0 then (arboristlaw10_FillCard.j0 k t652 bt667.1 (!bt667.2) bt662.1) else (arboristlaw10_FillCard.j0 k t652 bt667.1 true bt662.1)))))))
theorem arboristlaw10_FillCard.mono_l : ∀ k, (∀ y0 y1 y2 y3, LeO (arboristlaw10_FillCard.j0 k y0 y1 y2 y3) (arboristlaw10_FillCard.j0 (k + 1) y0 y1 y2 y3)) ∧ (∀ y0 y1 y2 y3, LeO (arboristlaw10_FillCard.l0 k y0 y1 y2 y3) (arboristlaw10_FillCard.l0 (k + 1) y0 y1 y2 y3))
  | 0 => ⟨fun _ _ _ _ r h => by simp [arboristlaw10_FillCard.j0] at h, fun _ _ _ _ r h => by simp [arboristlaw10_FillCard.l0] at h⟩
  | k + 1 => by
    obtain ⟨ih0, ih1⟩ := arboristlaw10_FillCard.mono_l k
    refine ⟨?_, ?_⟩
    all_goals intros
    all_goals (first | unfold arboristlaw10_FillCard.j0 | unfold arboristlaw10_FillCard.l0)
    all_goals repeat' first
    | (with_reducible exact ih0 _ _ _ _)
    | (with_reducible exact ih1 _ _ _ _)
    | (with_reducible exact arboristlaw10_alike.mono _ _ _)
    | (with_reducible exact arboristlaw10_given.mono _ _ _)
    | (with_reducible exact arboristlaw10_made.mono _ _ _)
    | (with_reducible exact arboristlaw10_shown.mono _)
    | (with_reducible exact arboristref08_Graph.mono _ _)
    | (with_reducible exact arboristref08_Truths.mono _ _)
    | (with_reducible exact order_Of.mono _ _ _)
    | (with_reducible exact LeO.refl _)
    | (with_reducible exact LeO.none _)
    | (with_reducible refine LeO.ite ?_ ?_)
    | (with_reducible refine LeO.bind ?_ (fun _ => ?_))
    | exact ih0 _ _ _ _
    | exact ih1 _ _ _ _
    | exact arboristlaw10_alike.mono _ _ _
    | exact arboristlaw10_given.mono _ _ _
    | exact arboristlaw10_made.mono _ _ _
    | exact arboristlaw10_shown.mono _
    | exact arboristref08_Graph.mono _ _
    | exact arboristref08_Truths.mono _ _
    | exact order_Of.mono _ _ _
    | exact LeO.none _
    | refine LeO.ite ?_ ?_
    | refine LeO.bind ?_ (fun _ => ?_)
theorem arboristlaw10_FillCard.mono : ∀ a0 a1 a2 k, LeO (arboristlaw10_FillCard.f k a0 a1 a2) (arboristlaw10_FillCard.f (k + 1) a0 a1 a2) := by
  intro a0 a1 a2 k
  obtain ⟨ih0, ih1⟩ := arboristlaw10_FillCard.mono_l k
  unfold arboristlaw10_FillCard.f
  repeat' first
      | (with_reducible exact ih0 _ _ _ _)
      | (with_reducible exact ih1 _ _ _ _)
      | (with_reducible exact arboristlaw10_alike.mono _ _ _)
      | (with_reducible exact arboristlaw10_given.mono _ _ _)
      | (with_reducible exact arboristlaw10_made.mono _ _ _)
      | (with_reducible exact arboristlaw10_shown.mono _)
      | (with_reducible exact arboristref08_Graph.mono _ _)
      | (with_reducible exact arboristref08_Truths.mono _ _)
      | (with_reducible exact order_Of.mono _ _ _)
      | (with_reducible exact LeO.refl _)
      | (with_reducible exact LeO.none _)
      | (with_reducible refine LeO.ite ?_ ?_)
      | (with_reducible refine LeO.bind ?_ (fun _ => ?_))
      | exact ih0 _ _ _ _
      | exact ih1 _ _ _ _
      | exact arboristlaw10_alike.mono _ _ _
      | exact arboristlaw10_given.mono _ _ _
      | exact arboristlaw10_made.mono _ _ _
      | exact arboristlaw10_shown.mono _
      | exact arboristref08_Graph.mono _ _
      | exact arboristref08_Truths.mono _ _
      | exact order_Of.mono _ _ _
      | exact LeO.none _
      | refine LeO.ite ?_ ?_
      | refine LeO.bind ?_ (fun _ => ?_)
set_option maxHeartbeats 8000000 in
set_option maxRecDepth 100000 in
theorem arboristlaw10_FillCard.calls (k : Nat) (a0 : Int) (A1 : Option Addr) (c1 : Nat) (l1 : List (List Int)) (A2 : Option Addr) (c2 : Nat) (l2 : List Int) (r : Bool) (w : World) (hTb : Tab64 w) (hr1 : Kd.C (Kd.slice 3 (Kd.int .i64)) w A1 l1.length l1) (hc1 : l1.length ≤ c1) (hr2 : Kd.C (Kd.int .i64) w A2 l2.length l2) (hc2 : l2.length ≤ c2) (hT : r = true) (h : arboristlaw10_FillCard.f k a0 l1 l2 = some r) :
    Calls Tryd.prog 6 #[.int .i64 a0, .slice A1 l1.length c1, .slice A2 l2.length c2] w fun e w' => e = .returned (.bool r) ∧ Below w.heap.size w w' := by
  have HTAB := Aside0.mk hTb
  clear hTb
  have HT_ := Aside0.mk (show r = true from hT)
  clear hT
  have hu29 := Tryd.underlying29
  have HR1 := Aside0.mk hr1
  have HC1 := Aside0.mk hc1
  clear hr1 hc1
  have HR2 := Aside0.mk hr2
  have HC2 := Aside0.mk hc2
  clear hr2 hc2
  have HB := Aside0.mk (Below.refl w.heap.size w)
  have H : ((arboristlaw10_shown.f k).bind fun t652 => ((arboristlaw10_made.f k a0 l1).bind fun t653 => ((arboristref08_Graph.f k t653).bind fun t656 => ((arboristlaw10_given.f k (t653.length : Int) l2).bind fun t659 => ((fill_Filled.f t656 t659).bind fun bt662 => ((arboristref08_Truths.f k bt662.1).bind fun bt667 => (if bt662.2 = 0 then (arboristlaw10_FillCard.j0 k t652 bt667.1 (!bt667.2) bt662.1) else (arboristlaw10_FillCard.j0 k t652 bt667.1 true bt662.1)))))))) = some r := h
  clear h
  replace H := Option.bind_eq_some_iff.mp H
  obtain ⟨t652, A40, H⟩ := H
  replace H : ((arboristlaw10_made.f k a0 l1).bind fun t653 => ((arboristref08_Graph.f k t653).bind fun t656 => ((arboristlaw10_given.f k (t653.length : Int) l2).bind fun t659 => ((fill_Filled.f t656 t659).bind fun bt662 => ((arboristref08_Truths.f k bt662.1).bind fun bt667 => (if bt662.2 = 0 then (arboristlaw10_FillCard.j0 k t652 bt667.1 (!bt667.2) bt662.1) else (arboristlaw10_FillCard.j0 k t652 bt667.1 true bt662.1))))))) = some r := H
  have A4 := Aside0.mk A40
  clear A40
  replace H := Option.bind_eq_some_iff.mp H
  obtain ⟨t653, A50, H⟩ := H
  replace H : ((arboristref08_Graph.f k t653).bind fun t656 => ((arboristlaw10_given.f k (t653.length : Int) l2).bind fun t659 => ((fill_Filled.f t656 t659).bind fun bt662 => ((arboristref08_Truths.f k bt662.1).bind fun bt667 => (if bt662.2 = 0 then (arboristlaw10_FillCard.j0 k t652 bt667.1 (!bt667.2) bt662.1) else (arboristlaw10_FillCard.j0 k t652 bt667.1 true bt662.1)))))) = some r := H
  have A5 := Aside0.mk A50
  clear A50
  replace H := Option.bind_eq_some_iff.mp H
  obtain ⟨t656, A60, H⟩ := H
  replace H : ((arboristlaw10_given.f k (t653.length : Int) l2).bind fun t659 => ((fill_Filled.f t656 t659).bind fun bt662 => ((arboristref08_Truths.f k bt662.1).bind fun bt667 => (if bt662.2 = 0 then (arboristlaw10_FillCard.j0 k t652 bt667.1 (!bt667.2) bt662.1) else (arboristlaw10_FillCard.j0 k t652 bt667.1 true bt662.1))))) = some r := H
  have A6 := Aside0.mk A60
  clear A60
  replace H := Option.bind_eq_some_iff.mp H
  obtain ⟨t659, A70, H⟩ := H
  replace H : ((fill_Filled.f t656 t659).bind fun bt662 => ((arboristref08_Truths.f k bt662.1).bind fun bt667 => (if bt662.2 = 0 then (arboristlaw10_FillCard.j0 k t652 bt667.1 (!bt667.2) bt662.1) else (arboristlaw10_FillCard.j0 k t652 bt667.1 true bt662.1)))) = some r := H
  have A7 := Aside0.mk A70
  clear A70
  replace H := Option.bind_eq_some_iff.mp H
  obtain ⟨⟨t662, t665⟩, A80, H⟩ := H
  replace H : ((arboristref08_Truths.f k t662).bind fun bt667 => (if t665 = 0 then (arboristlaw10_FillCard.j0 k t652 bt667.1 (!bt667.2) t662) else (arboristlaw10_FillCard.j0 k t652 bt667.1 true t662))) = some r := H
  have A8 := Aside0.mk A80
  clear A80
  replace H := Option.bind_eq_some_iff.mp H
  obtain ⟨⟨t667, t670⟩, A90, H⟩ := H
  replace H : (if t665 = 0 then (arboristlaw10_FillCard.j0 k t652 t667 (!t670) t662) else (arboristlaw10_FillCard.j0 k t652 t667 true t662)) = some r := H
  have A9 := Aside0.mk A90
  clear A90
  have HC10 := Aside0.mk H
  clear H
  go_enter Tryd.func6, Tryd.ntmps6
  go_upto_region 5 with (first | ((with_reducible refine gate_callee (f := 10) rfl ?_); refine goesL_ (some 18) rfl rfl Tryd.func10 (by kernel_rfl) rfl #[] rfl (by (try simp only [List.map_toArray, List.map_cons, List.map_nil]); first | done | rfl | (simp only [List.length_drop, List.length_take]; rfl)) ?_; (with_reducible refine (arboristlaw10_shown.calls (hTb := (by first | exact HTAB.out | exact tab_drewN HTAB.out _ | exact tab_below HTAB.out (by repeat (first | (with_reducible first | exact HB.out | apply below_alloc | apply pw_below_drewN | apply below_drew1 | refine below_set ?_ GE666.out | refine below_set ?_ GE679.out) | exact HB.out)))) k  t652 _ A4.out).mono ?_); rintro e w11 ⟨rfl, hb⟩; refine ⟨_, rfl, ?_⟩; have n0_ := Aside0.mk (below_step (by repeat (first | (with_reducible first | exact HB.out | apply below_alloc | apply pw_below_drewN | apply below_drew1) | exact HB.out)) hb); clear HB; have HB := n0_; clear n0_; (try clear hb); (try clear hb2); (try clear hk); (try clear hi)) | ((with_reducible refine gate_callee (f := 11) rfl ?_); refine goesL_ (some 21) rfl rfl Tryd.func11 (by kernel_rfl) rfl #[.int .i64 a0, .slice A1 l1.length c1] rfl (by (try simp only [List.map_toArray, List.map_cons, List.map_nil]); first | done | rfl | (simp only [List.length_drop, List.length_take]; rfl)) ?_; (with_reducible refine (arboristlaw10_made.calls k a0 _ _ l1 t653 _ ?side1 ?side2 A5.out).mono ?_); (case side1 => repeat (first | exact (Kd.C_below HR1.out HB.out) | (with_reducible refine Kd.C_alloc ?_ _) | (with_reducible refine Kd.C_drewN ?_ _) | (with_reducible refine Kd.C_drew ?_))); (case side2 => exact HC1.out); rintro e w12 ⟨v654, rfl, ho0, hb⟩; refine ⟨_, rfl, ?_⟩; have n0_ := Aside0.mk (Kd.S_lower ho0 (below_size (by repeat (first | (with_reducible first | exact HB.out | apply below_alloc | apply pw_below_drewN | apply below_drew1) | exact HB.out)))); have n1_ := Aside0.mk (below_step (by repeat (first | (with_reducible first | exact HB.out | apply below_alloc | apply pw_below_drewN | apply below_drew1) | exact HB.out)) hb); clear HB; have HO655 := n0_; have HB := n1_; clear n0_ n1_; (try clear hb); (try clear hb2); (try clear hk); (try clear hi); (try clear ho0); obtain ⟨Ao13, co13, eo13⟩ := Kd.S_slice HO655.out; subst eo13) | ((with_reducible refine gate_callee (f := 12) rfl ?_); refine goesL_ (some 24) rfl rfl Tryd.func12 (by kernel_rfl) rfl #[.slice Ao13 t653.length co13] rfl (by (try simp only [List.map_toArray, List.map_cons, List.map_nil]); first | done | rfl | (simp only [List.length_drop, List.length_take]; rfl)) ?_; (with_reducible refine (arboristref08_Graph.calls k _ _ t653 t656 _ ?side1 ?side2 A6.out).mono ?_); (case side1 => repeat (first | exact (Kd.S_reads' HO655.out).2.2 | (with_reducible refine Kd.C_alloc ?_ _) | (with_reducible refine Kd.C_drewN ?_ _) | (with_reducible refine Kd.C_drew ?_))); (case side2 => exact (Kd.S_reads' HO655.out).2.1); rintro e w14 ⟨v657, rfl, ho0, hb⟩; refine ⟨_, rfl, ?_⟩; have n0_ := Aside0.mk (Kd.S_below (by (with_reducible repeat (first | apply Kd.S_alloc | apply Kd.S_drewN | apply Kd.S_drew)); exact HO655.out) hb); have n1_ := Aside0.mk (Kd.R_lower ho0 (below_size (by repeat (first | (with_reducible first | exact HB.out | apply below_alloc | apply pw_below_drewN | apply below_drew1) | exact HB.out)))); have n2_ := Aside0.mk (below_step (by repeat (first | (with_reducible first | exact HB.out | apply below_alloc | apply pw_below_drewN | apply below_drew1) | exact HB.out)) hb); clear HO655; clear HB; have HO655 := n0_; have HO658 := n1_; have HB := n2_; clear n0_ n1_ n2_; (try clear hb); (try clear hb2); (try clear hk); (try clear hi); (try clear ho0)) | ((with_reducible refine gate_callee (f := 13) rfl ?_); refine goesL_ (some 28) rfl rfl Tryd.func13 (by kernel_rfl) rfl #[.int .i64 (t653.length : Int), .slice A2 l2.length c2] rfl (by (try simp only [List.map_toArray, List.map_cons, List.map_nil]); first | done | rfl | (simp only [List.length_drop, List.length_take]; rfl)) ?_; (with_reducible refine (arboristlaw10_given.calls k (t653.length : Int) _ _ l2 t659 _ ?side1 ?side2 A7.out).mono ?_); (case side1 => repeat (first | exact (Kd.C_below HR2.out HB.out) | (with_reducible refine Kd.C_alloc ?_ _) | (with_reducible refine Kd.C_drewN ?_ _) | (with_reducible refine Kd.C_drew ?_))); (case side2 => exact HC2.out); rintro e w15 ⟨v660, rfl, ho0, hb⟩; refine ⟨_, rfl, ?_⟩; have n0_ := Aside0.mk (Kd.S_below (by (with_reducible repeat (first | apply Kd.S_alloc | apply Kd.S_drewN | apply Kd.S_drew)); exact HO655.out) hb); have n1_ := Aside0.mk (Kd.R_below (by (with_reducible repeat (first | apply Kd.R_alloc | apply Kd.R_drewN | apply Kd.R_drew)); exact HO658.out) hb); have n2_ := Aside0.mk (Kd.R_lower ho0 (below_size (by repeat (first | (with_reducible first | exact HB.out | apply below_alloc | apply pw_below_drewN | apply below_drew1) | exact HB.out)))); have n3_ := Aside0.mk (below_step (by repeat (first | (with_reducible first | exact HB.out | apply below_alloc | apply pw_below_drewN | apply below_drew1) | exact HB.out)) hb); clear HO655; clear HO658; clear HB; have HO655 := n0_; have HO658 := n1_; have HO661 := n2_; have HB := n3_; clear n0_ n1_ n2_ n3_; (try clear hb); (try clear hb2); (try clear hk); (try clear hi); (try clear ho0); obtain ⟨Ao16, co16, eo16⟩ := Kd.R_slice HO658.out; subst eo16; obtain ⟨Ao17, co17, eo17⟩ := Kd.R_slice HO661.out; subst eo17) | ((with_reducible refine gate_callee (f := 14) rfl ?_); refine goesL_ (some 29) rfl rfl Tryd.func14 (by kernel_rfl) rfl #[.agg #[.slice Ao16 t656.length co16], .slice Ao17 t659.length co17] rfl (by (try simp only [List.map_toArray, List.map_cons, List.map_nil]); first | done | rfl | (simp only [List.length_drop, List.length_take]; rfl)) ?_; (with_reducible refine (fill_Filled.calls (hTb := (by first | exact HTAB.out | exact tab_drewN HTAB.out _ | exact tab_below HTAB.out (by repeat (first | (with_reducible first | exact HB.out | apply below_alloc | apply pw_below_drewN | apply below_drew1 | refine below_set ?_ GE666.out | refine below_set ?_ GE679.out) | exact HB.out)))) _ _ t656 _ _ t659 t662 t665 _ ?side1 ?side2 ?side3 ?side4 A8.out).mono ?_); (case side1 => repeat (first | exact (Kd.R_reads' HO658.out).2.2 | (with_reducible refine Kd.C_alloc ?_ _) | (with_reducible refine Kd.C_drewN ?_ _) | (with_reducible refine Kd.C_drew ?_))); (case side2 => exact (Kd.R_reads' HO658.out).2.1); (case side3 => repeat (first | exact (Kd.R_reads' HO661.out).2.2 | (with_reducible refine Kd.C_alloc ?_ _) | (with_reducible refine Kd.C_drewN ?_ _) | (with_reducible refine Kd.C_drew ?_))); (case side4 => exact (Kd.R_reads' HO661.out).2.1); rintro e w18 ⟨v663, rfl, ho0, hb⟩; refine ⟨_, rfl, ?_⟩; have n0_ := Aside0.mk (Kd.S_below (by (with_reducible repeat (first | apply Kd.S_alloc | apply Kd.S_drewN | apply Kd.S_drew)); exact HO655.out) hb); have n1_ := Aside0.mk (Kd.R_elder' (by (with_reducible repeat (first | apply Kd.R_alloc | apply Kd.R_drewN | apply Kd.R_drew)); exact HO658.out) (Kd.R_base ho0) hb); have n2_ := Aside0.mk (Kd.R_below (by (with_reducible repeat (first | apply Kd.R_alloc | apply Kd.R_drewN | apply Kd.R_drew)); exact HO661.out) hb); have n3_ := Aside0.mk (Kd.R_lower (Kd.R_new' ho0 (Kd.R_lt (by (with_reducible repeat (first | apply Kd.R_alloc | apply Kd.R_drewN | apply Kd.R_drew)); exact HO658.out))) (below_size (by repeat (first | (with_reducible first | exact HB.out | apply below_alloc | apply pw_below_drewN | apply below_drew1) | exact HB.out)))); have n4_ := Aside0.mk (below_step (by repeat (first | (with_reducible first | exact HB.out | apply below_alloc | apply pw_below_drewN | apply below_drew1) | exact HB.out)) hb); clear HO655; clear HO658; clear HO661; clear HB; have HO655 := n0_; have HO658 := n1_; have HO661 := n2_; have HO664 := n3_; have HB := n4_; clear n0_ n1_ n2_ n3_ n4_; (try clear hb); (try clear hb2); (try clear hk); (try clear hi); (try clear ho0)) | ((with_reducible refine gate_dst (N := 9) rfl ?_); refine box_event ?hg (N := 9) ?hd (cs := #[.slice none 0 0]) (t := 29) ?hr ?_; (case hd => rfl); (case hg => rfl); (case hr => first | (go_simp; done) | (go_simp; rfl)); intro gb666 hg w19 hbox hb; have n0_ := Aside0.mk (Kd.S_below (by (with_reducible repeat (first | apply Kd.S_alloc | apply Kd.S_drewN | apply Kd.S_drew)); exact HO655.out) hb); have n1_ := Aside0.mk (Kd.R_below (by (with_reducible repeat (first | apply Kd.R_alloc | apply Kd.R_drewN | apply Kd.R_drew)); exact HO658.out) hb); have n2_ := Aside0.mk (Kd.R_below (by (with_reducible repeat (first | apply Kd.R_alloc | apply Kd.R_drewN | apply Kd.R_drew)); exact HO661.out) hb); have n3_ := Aside0.mk (Kd.R_below (by (with_reducible repeat (first | apply Kd.R_alloc | apply Kd.R_drewN | apply Kd.R_drew)); exact HO664.out) hb); have n4_ := Aside0.mk (below_step (by repeat (first | (with_reducible first | exact HB.out | apply below_alloc | apply pw_below_drewN | apply below_drew1) | exact HB.out)) hb); have n5_ := Aside0.mk (hbox); have n6_ := Aside0.mk ((by rw [hg]; exact (below_size (by repeat (first | (with_reducible first | exact HB.out | apply below_alloc | apply pw_below_drewN | apply below_drew1) | exact HB.out))) : w.heap.size ≤ gb666)); have n7_ := Aside0.mk ((by rw [hg]; exact (below_size (by repeat (first | (with_reducible first | exact HB.out | apply below_alloc | apply pw_below_drewN | apply below_drew1) | exact HB.out))) : w.heap.size ≤ gb666)); clear HO655; clear HO658; clear HO661; clear HO664; clear HB; have HO655 := n0_; have HO658 := n1_; have HO661 := n2_; have HO664 := n3_; have HB := n4_; have BK666 := n5_; have GW666 := n6_; have GE666 := n7_; clear n0_ n1_ n2_ n3_ n4_ n5_ n6_ n7_; clear hb hbox hg; obtain ⟨Ao20, co20, eo20⟩ := Kd.R_slice HO664.out; subst eo20; have hcz21_0 : w19.cell? ⟨gb666, 0, none⟩ = some (.slice none 0 0) := (blk_cell BK666.out 0).trans rfl; have hfz21_0 := blk_frozen BK666.out 0) | ((with_reducible refine gate_callee (f := 25) rfl ?_); refine goesL_ (some 34) rfl rfl Tryd.func25 (by kernel_rfl) rfl #[.agg #[.slice Ao20 t662.length co20]] rfl (by (try simp only [List.map_toArray, List.map_cons, List.map_nil]); first | done | rfl | (simp only [List.length_drop, List.length_take]; rfl)) ?_; (with_reducible refine (arboristref08_Truths.calls k _ _ t662 t667 t670 _ ?side1 ?side2 A9.out).mono ?_); (case side1 => refine (Kd.R_reads' (e := 61) (base := w.heap.size) (ok := fun k_ => (True ∧ some k_ ≠ (.slice Ao16 t656.length co16 : Value).ownBlock)) (n := t662.length) (c := co20) ?_).2.2; exact (by (with_reducible repeat (first | apply Kd.R_alloc | apply Kd.R_drewN | apply Kd.R_drew)); exact (Kd.R_mono (Kd.R_far (p := ⟨gb666, 0, none⟩) (Kd.R_types HO664.out BK666.out (by decide)) (fun _ hk => hk.2) (.slice Ao20 t662.length co20)) (fun _ h_ => h_.1)))); (case side2 => exact (Kd.R_reads' HO664.out).2.1); rintro e w22 ⟨v668, rfl, ho0, hb⟩; refine ⟨_, rfl, ?_⟩; have n0_ := Aside0.mk (Kd.S_elder' (by (with_reducible repeat (first | apply Kd.S_alloc | apply Kd.S_drewN | apply Kd.S_drew)); exact (Kd.S_mono (Kd.S_far (p := ⟨gb666, 0, none⟩) (Kd.S_types HO655.out BK666.out (by decide)) (fun _ hk => hk.2) (.slice Ao20 t662.length co20)) (fun _ h_ => h_.1))) (Kd.S_base ho0) hb); have n1_ := Aside0.mk (Kd.R_below (by (with_reducible repeat (first | apply Kd.R_alloc | apply Kd.R_drewN | apply Kd.R_drew)); exact (Kd.R_mono (Kd.R_far (p := ⟨gb666, 0, none⟩) (Kd.R_types HO658.out BK666.out (by decide)) (fun _ hk => hk.2) (.slice Ao20 t662.length co20)) (fun _ h_ => h_.1))) hb); have n2_ := Aside0.mk (Kd.R_below (by (with_reducible repeat (first | apply Kd.R_alloc | apply Kd.R_drewN | apply Kd.R_drew)); exact (Kd.R_mono (Kd.R_far (p := ⟨gb666, 0, none⟩) (Kd.R_types HO661.out BK666.out (by decide)) (fun _ hk => hk.2) (.slice Ao20 t662.length co20)) (fun _ h_ => h_.1))) hb); have n3_ := Aside0.mk (Kd.R_below (by (with_reducible repeat (first | apply Kd.R_alloc | apply Kd.R_drewN | apply Kd.R_drew)); exact (Kd.R_mono (Kd.R_far (p := ⟨gb666, 0, none⟩) (Kd.R_types HO664.out BK666.out (by decide)) (fun _ hk => hk.2) (.slice Ao20 t662.length co20)) (fun _ h_ => h_.1))) hb); have n4_ := Aside0.mk (Kd.S_lower (Kd.S_new' ho0 (Kd.S_lt (by (with_reducible repeat (first | apply Kd.S_alloc | apply Kd.S_drewN | apply Kd.S_drew)); exact (Kd.S_mono (Kd.S_far (p := ⟨gb666, 0, none⟩) (Kd.S_types HO655.out BK666.out (by decide)) (fun _ hk => hk.2) (.slice Ao20 t662.length co20)) (fun _ h_ => h_.1))))) (below_size (by repeat (first | (with_reducible first | exact HB.out | apply below_alloc | apply pw_below_drewN | apply below_drew1 | refine below_set ?_ GE666.out) | exact HB.out)))); have n5_ := Aside0.mk (blk_below (g := gb666) (o := .cells #[.slice Ao20 t662.length co20] 29 (0, 0)) (by (with_reducible repeat (first | refine blk_drewN ?_ _ | refine blk_drew ?_ | refine blk_alloc ?_ _)); refine blk_put (cs := #[.slice none 0 0]) ?_ 0 _ rfl; (with_reducible repeat (first | refine blk_drewN ?_ _ | refine blk_drew ?_ | refine blk_alloc ?_ _)); exact BK666.out) hb); have n6_ := Aside0.mk (below_step (by repeat (first | (with_reducible first | exact HB.out | apply below_alloc | apply pw_below_drewN | apply below_drew1 | refine below_set ?_ GE666.out) | exact HB.out)) hb); clear HO655; clear HO658; clear HO661; clear HO664; clear BK666; clear HB; have HO655 := n0_; have HO658 := n1_; have HO661 := n2_; have HO664 := n3_; have HO669 := n4_; have BK666 := n5_; have HB := n6_; clear n0_ n1_ n2_ n3_ n4_ n5_ n6_; (try clear hb); (try clear hb2); (try clear hk); (try clear hi); (try clear ho0)))
  (try simp only [Act.put, List.setIfInBounds_toArray, List.set_cons_zero, List.set_cons_succ])
  go_cut [42] (fun v42 wc => ∃ (kq : Nat) (x42_9 : Bool), v42 = .bool x42_9 ∧ Aside0 (arboristlaw10_FillCard.j0 kq t652 t667 x42_9 t662 = some r) ∧ Aside0 (kq ≤ k) ∧ Aside0 (Kd.S (Kd.slice 4 Kd.bool) 55 wc w.heap.size (fun _ => True) v668 t667) ∧ Aside0 (Kd.R (Kd.int .u64) 61 wc w.heap.size (fun _ => True) (.slice Ao20 t662.length co20) t662) ∧ Aside0 (wc.heap[gb666]? = some (.cells #[(.slice Ao20 t662.length co20)] 29 (0, 0))) ∧ Aside0 (Below w.heap.size w wc))
  case first =>
    have H := HC10.out
    clear HC10
    by_cases c23 : t665 = 0
    · rw [if_pos c23] at H
      have c23b0 : (t665 == 0) = true := beq_iff_eq.mpr c23
      have c23b1 : (t665 != 0) = false := bne_eq_false_iff_eq.mpr c23
      clear c23
      (first | rw [c23b0] | (simp only [i64_w, i32_w]; rw [c23b0]) | skip)
      have H' := Aside0.mk H
      clear H
      go_wp2
      go_meet
      case rel => exact ⟨_, (!t670), (by first | rfl | (simp; done) | (simp [*]; done)), H', ⟨by first | omega | exact Nat.le_refl _⟩, ⟨by (with_reducible repeat (first | apply Kd.S_alloc | apply Kd.S_drewN | apply Kd.S_drew)); exact Kd.S_mono HO669.out (fun _ hk => trivial)⟩, ⟨by (with_reducible repeat (first | apply Kd.R_alloc | apply Kd.R_drewN | apply Kd.R_drew)); exact Kd.R_mono HO664.out (fun _ hk => trivial)⟩, ⟨by (with_reducible repeat (first | refine blk_drewN ?_ _ | refine blk_drew ?_ | refine blk_alloc ?_ _)); exact BK666.out⟩, ⟨by repeat (first | (with_reducible first | exact HB.out | apply below_alloc | apply pw_below_drewN | apply below_drew1 | refine below_set ?_ GE666.out) | exact HB.out)⟩⟩
    · rw [if_neg c23] at H
      have c23b0 : (t665 == 0) = false := beq_eq_false_iff_ne.mpr c23
      have c23b1 : (t665 != 0) = true := bne_iff_ne.mpr c23
      (first | rw [c23b0] | (simp only [i64_w, i32_w]; rw [c23b0]) | skip)
      have H' := Aside0.mk H
      clear H
      go_wp2
      go_meet
      case rel => exact ⟨_, (true), (by first | rfl | (simp; done) | (simp [*]; done)), H', ⟨by first | omega | exact Nat.le_refl _⟩, ⟨by (with_reducible repeat (first | apply Kd.S_alloc | apply Kd.S_drewN | apply Kd.S_drew)); exact Kd.S_mono HO669.out (fun _ hk => trivial)⟩, ⟨by (with_reducible repeat (first | apply Kd.R_alloc | apply Kd.R_drewN | apply Kd.R_drew)); exact Kd.R_mono HO664.out (fun _ hk => trivial)⟩, ⟨by (with_reducible repeat (first | refine blk_drewN ?_ _ | refine blk_drew ?_ | refine blk_alloc ?_ _)); exact BK666.out⟩, ⟨by repeat (first | (with_reducible first | exact HB.out | apply below_alloc | apply pw_below_drewN | apply below_drew1 | refine below_set ?_ GE666.out) | exact HB.out)⟩⟩
  case rest =>
    clear HC10
    try clear c1
    try clear c2
    try clear p2
    try clear c6
    try clear c10
    try clear c11
    try clear c12
    try clear c13
    try clear c14
    try clear c23
    try clear c23b0
    try clear c23b1
    try clear hcz21_0
    try clear hfz21_0
    obtain ⟨kq, x42_9, rfl, HA, HJ9, HO_11, HO_667000, BK666, HB⟩ := hcut
    cases kq with
    | zero => exact absurd HA.out (by simp [arboristlaw10_FillCard.j0])
    | succ kj9 =>
      have H := HA.out
      clear HA
      simp only [arboristlaw10_FillCard.j0] at H
      by_cases c24 : x42_9 = true
      · subst c24
        have H1 : (some false) = some r := by rw [if_pos rfl] at H; exact H
        clear H
        have H := H1
        clear H1
        exact absurd ((Option.some.inj H).trans HT_.out) (by decide)
      · replace c24 := Bool.eq_false_iff.mpr c24
        subst c24
        have H1 : (arboristlaw10_FillCard.l0 kj9 t652 t667 1 t662) = some r := by rw [if_neg (show ¬ (false = true) by decide)] at H; exact H
        clear H
        have H := H1
        clear H1
        have H' := Aside0.mk H
        clear H
        go_wp2
        go_loopg [13] kj9 (fun kq v13 w' => ∃ (x13_2 : Int), v13 = .int .i64 x13_2 ∧ Aside0 (arboristlaw10_FillCard.l0 kq t652 t667 x13_2 t662 = some r) ∧ Aside0 (kq ≤ kj9) ∧ Aside0 (Kd.S (Kd.slice 4 Kd.bool) 55 w' w.heap.size (fun _ => True) v668 t667) ∧ Aside0 (Kd.R (Kd.int .u64) 61 w' w.heap.size (fun _ => True) (.slice Ao20 t662.length co20) t662) ∧ Aside0 (w'.heap[gb666]? = some (.cells #[(.slice Ao20 t662.length co20)] 29 (0, 0))) ∧ Aside0 (Below w.heap.size w w'))
        case atStart => exact ⟨(1), (by first | rfl | (simp; done) | (simp [*]; done)), H', ⟨Nat.le_refl _⟩, ⟨by (with_reducible repeat (first | apply Kd.S_alloc | apply Kd.S_drewN | apply Kd.S_drew)); exact HO_11.out⟩, ⟨by (with_reducible repeat (first | apply Kd.R_alloc | apply Kd.R_drewN | apply Kd.R_drew)); exact HO_667000.out⟩, ⟨by (with_reducible repeat (first | refine blk_drewN ?_ _ | refine blk_drew ?_ | refine blk_alloc ?_ _)); exact BK666.out⟩, ⟨by repeat (first | (with_reducible first | exact HB.out | apply below_alloc | apply pw_below_drewN | apply below_drew1 | refine below_set ?_ GE666.out) | exact HB.out)⟩⟩
        case round =>
          clear H'
          try clear c1
          try clear c2
          try clear p2
          try clear c6
          try clear c10
          try clear c11
          try clear c12
          try clear c13
          try clear c14
          try clear c23
          try clear c23b0
          try clear c23b1
          try clear c24
          try clear hcz21_0
          try clear hfz21_0
          try clear p2
          obtain ⟨x13_2, rfl, HA, HK2, HO_11, HO_667000, BK666, HB⟩ := hrel
          cases gk with
          | zero => exact absurd HA.out (by simp [arboristlaw10_FillCard.l0])
          | succ k2 =>
            have H := HA.out
            clear HA
            simp only [arboristlaw10_FillCard.l0] at H
            by_cases c25 : x13_2 < 4
            · rw [if_pos c25] at H
              have c25b0 : decide (x13_2 < 4) = true := decide_eq_true c25
              clear c25
              replace H := Option.bind_eq_some_iff.mp H
              obtain ⟨⟨t671, t674⟩, A260, H⟩ := H
              replace H : ((fill_Filled.f t662 t671).bind fun bt675 => (if t674 = 0 then (if bt675.2 = 0 then ((arboristlaw10_alike.f k2 bt675.1 t667).bind fun t680 => (if t680 = true then (arboristlaw10_FillCard.l0 k2 t652 t667 (wrap64 (x13_2 + 2)) t662) else (some false))) else (some false)) else (some false))) = some r := H
              have A26 := Aside0.mk A260
              clear A260
              replace H := Option.bind_eq_some_iff.mp H
              obtain ⟨⟨t675, t678⟩, A270, H⟩ := H
              replace H : (if t674 = 0 then (if t678 = 0 then ((arboristlaw10_alike.f k2 t675 t667).bind fun t680 => (if t680 = true then (arboristlaw10_FillCard.l0 k2 t652 t667 (wrap64 (x13_2 + 2)) t662) else (some false))) else (some false)) else (some false)) = some r := H
              have A27 := Aside0.mk A270
              clear A270
              by_cases c28 : t674 = 0
              · rw [if_pos c28] at H
                have c28b0 : (t674 == 0) = true := beq_iff_eq.mpr c28
                have c28b1 : (t674 != 0) = false := bne_eq_false_iff_eq.mpr c28
                clear c28
                by_cases c29 : t678 = 0
                · rw [if_pos c29] at H
                  have c29b0 : (t678 == 0) = true := beq_iff_eq.mpr c29
                  have c29b1 : (t678 != 0) = false := bne_eq_false_iff_eq.mpr c29
                  clear c29
                  replace H := Option.bind_eq_some_iff.mp H
                  obtain ⟨t680, A300, H⟩ := H
                  replace H : (if t680 = true then (arboristlaw10_FillCard.l0 k2 t652 t667 (wrap64 (x13_2 + 2)) t662) else (some false)) = some r := H
                  have A30 := Aside0.mk A300
                  clear A300
                  by_cases c31 : t680 = true
                  · subst c31
                    have H1 : (arboristlaw10_FillCard.l0 k2 t652 t667 (wrap64 (x13_2 + 2)) t662) = some r := by rw [if_pos rfl] at H; exact H
                    clear H
                    have H := H1
                    clear H1
                    have H' := Aside0.mk H
                    clear H
                    have hcz32_0 : wr.cell? ⟨gb666, 0, none⟩ = some (.slice Ao20 t662.length co20) := (blk_cell BK666.out 0).trans rfl
                    have hfz32_0 := blk_frozen BK666.out 0
                    go_wp2_with (first | ((with_reducible refine gate_callee (f := 30) rfl ?_); refine goesL_ (some 50) rfl rfl Tryd.func30 (by kernel_rfl) rfl #[.agg #[.slice Ao20 t662.length co20], .int .i64 x13_2] rfl (by (try simp only [List.map_toArray, List.map_cons, List.map_nil]); first | done | rfl | (simp only [List.length_drop, List.length_take]; rfl)) ?_; (with_reducible refine (order_Of.calls (hTb := (by first | exact HTAB.out | exact tab_drewN HTAB.out _ | exact tab_below HTAB.out (by repeat (first | (with_reducible first | exact HB.out | apply below_alloc | apply pw_below_drewN | apply below_drew1 | refine below_set ?_ GE666.out | refine below_set ?_ GE679.out) | exact HB.out)))) k2 _ _ t662 x13_2 t671 t674 _ ?side1 ?side2 A26.out).mono ?_); (case side1 => repeat (first | exact (Kd.R_reads' HO_667000.out).2.2 | (with_reducible refine Kd.C_alloc ?_ _) | (with_reducible refine Kd.C_drewN ?_ _) | (with_reducible refine Kd.C_drew ?_))); (case side2 => exact (Kd.R_reads' HO_667000.out).2.1); rintro e w33 ⟨v672, rfl, ho0, hb⟩; refine ⟨_, rfl, ?_⟩; have n0_ := Aside0.mk (Kd.S_below (by (with_reducible repeat (first | apply Kd.S_alloc | apply Kd.S_drewN | apply Kd.S_drew)); exact HO_11.out) hb); have n1_ := Aside0.mk (Kd.R_below (by (with_reducible repeat (first | apply Kd.R_alloc | apply Kd.R_drewN | apply Kd.R_drew)); exact HO_667000.out) hb); have n2_ := Aside0.mk (Kd.R_lower ho0 (below_size (by repeat (first | (with_reducible first | exact HB.out | apply below_alloc | apply pw_below_drewN | apply below_drew1 | refine below_set ?_ GE666.out) | exact HB.out)))); have n3_ := Aside0.mk (blk_below (g := gb666) (o := .cells #[.slice Ao20 t662.length co20] 29 (0, 0)) (by (with_reducible repeat (first | refine blk_drewN ?_ _ | refine blk_drew ?_ | refine blk_alloc ?_ _)); exact BK666.out) hb); have n4_ := Aside0.mk (below_step (by repeat (first | (with_reducible first | exact HB.out | apply below_alloc | apply pw_below_drewN | apply below_drew1 | refine below_set ?_ GE666.out) | exact HB.out)) hb); clear HO_11; clear HO_667000; clear BK666; clear HB; have HO_11 := n0_; have HO_667000 := n1_; have HO673 := n2_; have BK666 := n3_; have HB := n4_; clear n0_ n1_ n2_ n3_ n4_; (try clear hb); (try clear hb2); (try clear hk); (try clear hi); (try clear ho0); have hcz34_0 : w33.cell? ⟨gb666, 0, none⟩ = some (.slice Ao20 t662.length co20) := (blk_cell BK666.out 0).trans rfl; have hfz34_0 := blk_frozen BK666.out 0; obtain ⟨Ao35, co35, eo35⟩ := Kd.R_slice HO673.out; subst eo35) | ((with_reducible refine gate_callee (f := 14) rfl ?_); refine goesL_ (some 56) rfl rfl Tryd.func14 (by kernel_rfl) rfl #[.agg #[.slice Ao20 t662.length co20], .slice Ao35 t671.length co35] rfl (by (try simp only [List.map_toArray, List.map_cons, List.map_nil]); first | done | rfl | (simp only [List.length_drop, List.length_take]; rfl)) ?_; (with_reducible refine (fill_Filled.calls (hTb := (by first | exact HTAB.out | exact tab_drewN HTAB.out _ | exact tab_below HTAB.out (by repeat (first | (with_reducible first | exact HB.out | apply below_alloc | apply pw_below_drewN | apply below_drew1 | refine below_set ?_ GE666.out | refine below_set ?_ GE679.out) | exact HB.out)))) _ _ t662 _ _ t671 t675 t678 _ ?side1 ?side2 ?side3 ?side4 A27.out).mono ?_); (case side1 => repeat (first | exact (Kd.R_reads' HO_667000.out).2.2 | (with_reducible refine Kd.C_alloc ?_ _) | (with_reducible refine Kd.C_drewN ?_ _) | (with_reducible refine Kd.C_drew ?_))); (case side2 => exact (Kd.R_reads' HO_667000.out).2.1); (case side3 => repeat (first | exact (Kd.R_reads' HO673.out).2.2 | (with_reducible refine Kd.C_alloc ?_ _) | (with_reducible refine Kd.C_drewN ?_ _) | (with_reducible refine Kd.C_drew ?_))); (case side4 => exact (Kd.R_reads' HO673.out).2.1); rintro e w36 ⟨v676, rfl, ho0, hb⟩; refine ⟨_, rfl, ?_⟩; have n0_ := Aside0.mk (Kd.S_below (by (with_reducible repeat (first | apply Kd.S_alloc | apply Kd.S_drewN | apply Kd.S_drew)); exact HO_11.out) hb); have n1_ := Aside0.mk (Kd.R_elder' (by (with_reducible repeat (first | apply Kd.R_alloc | apply Kd.R_drewN | apply Kd.R_drew)); exact HO_667000.out) (Kd.R_base ho0) hb); have n2_ := Aside0.mk (Kd.R_below (by (with_reducible repeat (first | apply Kd.R_alloc | apply Kd.R_drewN | apply Kd.R_drew)); exact HO673.out) hb); have n3_ := Aside0.mk (Kd.R_lower (Kd.R_new' ho0 (Kd.R_lt (by (with_reducible repeat (first | apply Kd.R_alloc | apply Kd.R_drewN | apply Kd.R_drew)); exact HO_667000.out))) (below_size (by repeat (first | (with_reducible first | exact HB.out | apply below_alloc | apply pw_below_drewN | apply below_drew1 | refine below_set ?_ GE666.out) | exact HB.out)))); have n4_ := Aside0.mk (blk_below (g := gb666) (o := .cells #[.slice Ao20 t662.length co20] 29 (0, 0)) (by (with_reducible repeat (first | refine blk_drewN ?_ _ | refine blk_drew ?_ | refine blk_alloc ?_ _)); exact BK666.out) hb); have n5_ := Aside0.mk (below_step (by repeat (first | (with_reducible first | exact HB.out | apply below_alloc | apply pw_below_drewN | apply below_drew1 | refine below_set ?_ GE666.out) | exact HB.out)) hb); clear HO_11; clear HO_667000; clear HO673; clear BK666; clear HB; have HO_11 := n0_; have HO_667000 := n1_; have HO673 := n2_; have HO677 := n3_; have BK666 := n4_; have HB := n5_; clear n0_ n1_ n2_ n3_ n4_ n5_; (try clear hb); (try clear hb2); (try clear hk); (try clear hi); (try clear ho0)) | ((with_reducible refine gate_dst (N := 16) rfl ?_); refine box_event ?hg (N := 16) ?hd (cs := #[.slice none 0 0]) (t := 29) ?hr ?_; (case hd => rfl); (case hg => rfl); (case hr => first | (go_simp; done) | (go_simp; rfl)); intro gb679 hg w37 hbox hb; have n0_ := Aside0.mk (Kd.S_below (by (with_reducible repeat (first | apply Kd.S_alloc | apply Kd.S_drewN | apply Kd.S_drew)); exact HO_11.out) hb); have n1_ := Aside0.mk (Kd.R_below (by (with_reducible repeat (first | apply Kd.R_alloc | apply Kd.R_drewN | apply Kd.R_drew)); exact HO_667000.out) hb); have n2_ := Aside0.mk (Kd.R_below (by (with_reducible repeat (first | apply Kd.R_alloc | apply Kd.R_drewN | apply Kd.R_drew)); exact HO673.out) hb); have n3_ := Aside0.mk (Kd.R_below (by (with_reducible repeat (first | apply Kd.R_alloc | apply Kd.R_drewN | apply Kd.R_drew)); exact HO677.out) hb); have n4_ := Aside0.mk (blk_below (g := gb666) (o := .cells #[.slice Ao20 t662.length co20] 29 (0, 0)) (by (with_reducible repeat (first | refine blk_drewN ?_ _ | refine blk_drew ?_ | refine blk_alloc ?_ _)); exact BK666.out) hb); have n5_ := Aside0.mk (below_step (by repeat (first | (with_reducible first | exact HB.out | apply below_alloc | apply pw_below_drewN | apply below_drew1 | refine below_set ?_ GE666.out) | exact HB.out)) hb); have n6_ := Aside0.mk (hbox); have n7_ := Aside0.mk ((by rw [hg]; exact (below_size (by repeat (first | (with_reducible first | exact HB.out | apply below_alloc | apply pw_below_drewN | apply below_drew1 | refine below_set ?_ GE666.out) | exact HB.out))) : w.heap.size ≤ gb679)); have n8_ := Aside0.mk ((by rw [hg]; exact (below_size (by repeat (first | (with_reducible first | exact HB.out | apply below_alloc | apply pw_below_drewN | apply below_drew1 | refine below_set ?_ GE666.out) | exact HB.out))) : w.heap.size ≤ gb679)); have n9_ := Aside0.mk ((by rw [hg]; exact Nat.ne_of_lt (blk_lt (g := gb666) (o := .cells #[.slice Ao20 t662.length co20] 29 (0, 0)) (by (with_reducible repeat (first | refine blk_drewN ?_ _ | refine blk_drew ?_ | refine blk_alloc ?_ _)); exact BK666.out)) : gb666 ≠ gb679)); have n10_ := Aside0.mk ((by rw [hg]; exact Nat.ne_of_gt (blk_lt (g := gb666) (o := .cells #[.slice Ao20 t662.length co20] 29 (0, 0)) (by (with_reducible repeat (first | refine blk_drewN ?_ _ | refine blk_drew ?_ | refine blk_alloc ?_ _)); exact BK666.out)) : gb679 ≠ gb666)); clear HO_11; clear HO_667000; clear HO673; clear HO677; clear BK666; clear HB; have HO_11 := n0_; have HO_667000 := n1_; have HO673 := n2_; have HO677 := n3_; have BK666 := n4_; have HB := n5_; have BK679 := n6_; have GW679 := n7_; have GE679 := n8_; have NB666_679 := n9_; have NB679_666 := n10_; clear n0_ n1_ n2_ n3_ n4_ n5_ n6_ n7_ n8_ n9_ n10_; clear hb hbox hg; obtain ⟨Ao38, co38, eo38⟩ := Kd.R_slice HO677.out; subst eo38; have hnb39 := NB679_666.out; have hnc39 := NB666_679.out; have hcz40_0 : w37.cell? ⟨gb679, 0, none⟩ = some (.slice none 0 0) := (blk_cell BK679.out 0).trans rfl; have hfz40_0 := blk_frozen BK679.out 0; obtain ⟨Ao41, co41, eo41⟩ := Kd.S_slice HO_11.out; subst eo41) | (go_at_call 22; (with_reducible refine (arboristlaw10_alike.calls k2 _ _ t675 _ _ t667 true _ ?side1 ?side2 ?side3 ?side4 A30.out).mono ?_); (case side1 => refine (Kd.R_reads' (e := 61) (base := w.heap.size) (ok := fun k_ => (True ∧ some k_ ≠ (.slice Ao20 t662.length co20 : Value).ownBlock)) (n := t675.length) (c := co38) ?_).2.2; exact (by (with_reducible repeat (first | apply Kd.R_alloc | apply Kd.R_drewN | apply Kd.R_drew)); exact (Kd.R_mono (Kd.R_far (p := ⟨gb679, 0, none⟩) (Kd.R_types HO677.out BK679.out (by decide)) (fun _ hk => hk.2) (.slice Ao38 t675.length co38)) (fun _ h_ => h_.1)))); (case side2 => exact (Kd.R_reads' HO677.out).2.1); (case side3 => refine (Kd.S_reads' (e := 55) (base := w.heap.size) (ok := fun k_ => True) (n := t667.length) (c := co41) ?_).2.2; exact (by (with_reducible repeat (first | apply Kd.S_alloc | apply Kd.S_drewN | apply Kd.S_drew)); exact (Kd.S_mono (Kd.S_far (p := ⟨gb679, 0, none⟩) (Kd.S_types HO_11.out BK679.out (by decide)) (fun _ hk => hk.2) (.slice Ao38 t675.length co38)) (fun _ h_ => h_.1)))); (case side4 => exact (Kd.S_reads' HO_11.out).2.1); rintro e w42 ⟨rfl, hb⟩; have n0_ := Aside0.mk (Kd.S_below (by (with_reducible repeat (first | apply Kd.S_alloc | apply Kd.S_drewN | apply Kd.S_drew)); exact (Kd.S_mono (Kd.S_far (p := ⟨gb679, 0, none⟩) (Kd.S_types HO_11.out BK679.out (by decide)) (fun _ hk => hk.2) (.slice Ao38 t675.length co38)) (fun _ h_ => h_.1))) hb); have n1_ := Aside0.mk (Kd.R_below (by (with_reducible repeat (first | apply Kd.R_alloc | apply Kd.R_drewN | apply Kd.R_drew)); exact (Kd.R_mono (Kd.R_far (p := ⟨gb679, 0, none⟩) (Kd.R_types HO_667000.out BK679.out (by decide)) (fun _ hk => hk.2) (.slice Ao38 t675.length co38)) (fun _ h_ => h_.1))) hb); have n2_ := Aside0.mk (Kd.R_below (by (with_reducible repeat (first | apply Kd.R_alloc | apply Kd.R_drewN | apply Kd.R_drew)); exact (Kd.R_mono (Kd.R_far (p := ⟨gb679, 0, none⟩) (Kd.R_types HO673.out BK679.out (by decide)) (fun _ hk => hk.2) (.slice Ao38 t675.length co38)) (fun _ h_ => h_.1))) hb); have n3_ := Aside0.mk (Kd.R_below (by (with_reducible repeat (first | apply Kd.R_alloc | apply Kd.R_drewN | apply Kd.R_drew)); exact (Kd.R_mono (Kd.R_far (p := ⟨gb679, 0, none⟩) (Kd.R_types HO677.out BK679.out (by decide)) (fun _ hk => hk.2) (.slice Ao38 t675.length co38)) (fun _ h_ => h_.1))) hb); have n4_ := Aside0.mk (blk_below (g := gb666) (o := .cells #[.slice Ao20 t662.length co20] 29 (0, 0)) (by (with_reducible repeat (first | refine blk_drewN ?_ _ | refine blk_drew ?_ | refine blk_alloc ?_ _)); refine blk_far ?_ NB666_679.out _; (with_reducible repeat (first | refine blk_drewN ?_ _ | refine blk_drew ?_ | refine blk_alloc ?_ _)); exact BK666.out) hb); have n5_ := Aside0.mk (blk_below (g := gb679) (o := .cells #[.slice Ao38 t675.length co38] 29 (0, 0)) (by (with_reducible repeat (first | refine blk_drewN ?_ _ | refine blk_drew ?_ | refine blk_alloc ?_ _)); refine blk_put (cs := #[.slice none 0 0]) ?_ 0 _ rfl; (with_reducible repeat (first | refine blk_drewN ?_ _ | refine blk_drew ?_ | refine blk_alloc ?_ _)); exact BK679.out) hb); have n6_ := Aside0.mk (below_step (by repeat (first | (with_reducible first | exact HB.out | apply below_alloc | apply pw_below_drewN | apply below_drew1 | refine below_set ?_ GE666.out | refine below_set ?_ GE679.out) | exact HB.out)) hb); clear HO_11; clear HO_667000; clear HO673; clear HO677; clear BK666; clear BK679; clear HB; have HO_11 := n0_; have HO_667000 := n1_; have HO673 := n2_; have HO677 := n3_; have BK666 := n4_; have BK679 := n5_; have HB := n6_; clear n0_ n1_ n2_ n3_ n4_ n5_ n6_; (try clear hb); (try clear hb2); (try clear hk); (try clear hi)))
                    go_roundg k2
                    case measure => have := HJ9.out; have := HK2.out; omega
                    case rel => exact ⟨(wrap64 (x13_2 + 2)), (by first | rfl | (simp; done) | (simp [*]; done)), H', ⟨by have := HJ9.out; have := HK2.out; omega⟩, ⟨by (with_reducible repeat (first | apply Kd.S_alloc | apply Kd.S_drewN | apply Kd.S_drew)); exact HO_11.out⟩, ⟨by (with_reducible repeat (first | apply Kd.R_alloc | apply Kd.R_drewN | apply Kd.R_drew)); exact Kd.R_mono HO_667000.out (fun _ hk => trivial)⟩, ⟨by (with_reducible repeat (first | refine blk_drewN ?_ _ | refine blk_drew ?_ | refine blk_alloc ?_ _)); exact BK666.out⟩, ⟨by repeat (first | (with_reducible first | exact HB.out | apply below_alloc | apply pw_below_drewN | apply below_drew1 | refine below_set ?_ GE666.out | refine below_set ?_ GE679.out) | exact HB.out)⟩⟩
                  · replace c31 := Bool.eq_false_iff.mpr c31
                    subst c31
                    have H1 : (some false) = some r := by rw [if_neg (show ¬ (false = true) by decide)] at H; exact H
                    clear H
                    have H := H1
                    clear H1
                    exact absurd ((Option.some.inj H).trans HT_.out) (by decide)
                · rw [if_neg c29] at H
                  have c29b0 : (t678 == 0) = false := beq_eq_false_iff_ne.mpr c29
                  have c29b1 : (t678 != 0) = true := bne_iff_ne.mpr c29
                  exact absurd ((Option.some.inj H).trans HT_.out) (by decide)
              · rw [if_neg c28] at H
                have c28b0 : (t674 == 0) = false := beq_eq_false_iff_ne.mpr c28
                have c28b1 : (t674 != 0) = true := bne_iff_ne.mpr c28
                exact absurd ((Option.some.inj H).trans HT_.out) (by decide)
            · rw [if_neg c25] at H
              have c25b0 : decide (x13_2 < 4) = false := decide_eq_false c25
              clear c25
              obtain rfl := Option.some.inj H
              go_wp2
              go_ret
              exact ⟨by first | rfl | (simp [errW_none, errW_some] <;> rfl) | (simp [*, errW_none, errW_some] <;> rfl), by repeat (first | (with_reducible first | exact HB.out | apply below_alloc | apply pw_below_drewN | apply below_drew1 | refine below_set ?_ GE666.out) | exact HB.out)⟩

/-- THE ONE PURE STATEMENT of arboristlaw10_FillCard. -/
def arboristlaw10_FillCard.Pure : Prop := ∀ (a0 : Int) (l1 : List (List Int)) (l2 : List Int), (Lit.int .i64 a0).wf = true → (l1.length ≤ maxLen ∧ ∀ z0 ∈ l1, (z0.length ≤ maxLen ∧ ∀ z1 ∈ z0, (Lit.int .i64 z1).wf = true)) → (l2.length ≤ maxLen ∧ ∀ z0 ∈ l2, (Lit.int .i64 z0).wf = true) → ∃ k, arboristlaw10_FillCard.f k a0 l1 l2 = some true

end Go.Proofs.YtopjffgmpphdbaaDoor.Pr
