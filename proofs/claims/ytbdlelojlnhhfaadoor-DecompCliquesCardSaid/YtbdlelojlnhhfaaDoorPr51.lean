-- Printed by a program of this session's own (wip/tools/pp.py) over the kit's print.py; Lean checks it.
import Derived.Test.YtbdlelojlnhhfaaDoorPr0
import Derived.Test.YtbdlelojlnhhfaaDoorPr29
import Derived.Test.YtbdlelojlnhhfaaDoorPr32
import Derived.Test.YtbdlelojlnhhfaaDoorPr35
import Derived.Test.YtbdlelojlnhhfaaDoorPr39
import Derived.Test.YtbdlelojlnhhfaaDoorPr50
namespace Go.Proofs.YtbdlelojlnhhfaaDoor.Pr
open Go.RowKit Go.Proofs.YtbdlelojlnhhfaaDoorW.PrintWords Go.Proofs.YtbdlelojlnhhfaaDoorW.PrintLast Go.Proofs.YtbdlelojlnhhfaaDoorW.PrintMore
attribute [local go_sem] max2_int min2_int max_two min_two max_three min_three max_four min_four   -- for this text's walks alone
set_option linter.unusedVariables false
set_option linter.unusedSimpArgs false

/-! ### arboristlaw11_DecompCliques: function 7 -/
def arboristlaw11_DecompCliques.l0 : Nat → List Int → Bool → Bool → Int → List (List Int) → List Int → Option (Bool)
  | 0, _, _, _, _, _, _ => none
  | k + 1, x3, x9, x14, x15, x723000, x723001 => if x15 < (x723000.length : Int) then (if 0 ≤ x15 then ((arboristref01_Without.f k x3 (rd_L1 x723000 x15)).bind fun t726 => (if x14 = true then (arboristlaw11_DecompCliques.l0 k x3 x9 true (wrap64 (x15 + 1)) x723000 x723001) else (arboristlaw11_DecompCliques.l0 k x3 x9 ((t726.length : Int) == 0) (wrap64 (x15 + 1)) x723000 x723001))) else (none)) else (if x9 = true then (some x14) else (some false))
def arboristlaw11_DecompCliques.f (k : Nat) (a0 : Int) (l1 : List (List Int)) (l2 : List Int) (l3 : List Int) : Option (Bool) := (arboristlaw11_shown.f).bind fun t705 => ((arboristlaw11_made.f k a0 l1).bind fun t706 => ((arboristref08_Graph.f k t706).bind fun t709 => ((arboristlaw11_given.f k (t706.length : Int) l2).bind fun t712 => ((decomp_Build.f t709 t712).bind fun bt715 => (if 0 ≤ (mn (l3.length : Int) 5) then (if (mn (l3.length : Int) 5) ≤ (l3.length : Int) then ((arboristref08_Clique.f k t706 (l3.take ((mn (l3.length : Int) 5) : Int).toNat)).bind fun t724 => (if bt715.2.2 = 0 then (if t724 = true then (arboristlaw11_DecompCliques.l0 k (l3.take ((mn (l3.length : Int) 5) : Int).toNat) t705 (((l3.take ((mn (l3.length : Int) 5) : Int).toNat).length : Int) == 0) 0 bt715.1 bt715.2.1) else (some t705)) else (some false))) else (none)) else (none))))))
theorem arboristlaw11_DecompCliques.mono_l : ∀ k, (∀ y0 y1 y2 y3 y4 y5, LeO (arboristlaw11_DecompCliques.l0 k y0 y1 y2 y3 y4 y5) (arboristlaw11_DecompCliques.l0 (k + 1) y0 y1 y2 y3 y4 y5))
  | 0 => fun _ _ _ _ _ _ r h => by simp [arboristlaw11_DecompCliques.l0] at h
  | k + 1 => by
    have ih0 := arboristlaw11_DecompCliques.mono_l k
    all_goals intros
    all_goals (first | unfold arboristlaw11_DecompCliques.l0)
    all_goals repeat' first
    | (with_reducible exact ih0 _ _ _ _ _ _)
    | (with_reducible exact arboristlaw11_given.mono _ _ _)
    | (with_reducible exact arboristlaw11_made.mono _ _ _)
    | (with_reducible exact arboristref01_Without.mono _ _ _)
    | (with_reducible exact arboristref08_Clique.mono _ _ _)
    | (with_reducible exact arboristref08_Graph.mono _ _)
    | (with_reducible exact LeO.refl _)
    | (with_reducible exact LeO.none _)
    | (with_reducible refine LeO.ite ?_ ?_)
    | (with_reducible refine LeO.bind ?_ (fun _ => ?_))
    | exact ih0 _ _ _ _ _ _
    | exact arboristlaw11_given.mono _ _ _
    | exact arboristlaw11_made.mono _ _ _
    | exact arboristref01_Without.mono _ _ _
    | exact arboristref08_Clique.mono _ _ _
    | exact arboristref08_Graph.mono _ _
    | exact LeO.none _
    | refine LeO.ite ?_ ?_
    | refine LeO.bind ?_ (fun _ => ?_)
theorem arboristlaw11_DecompCliques.mono : ∀ a0 a1 a2 a3 k, LeO (arboristlaw11_DecompCliques.f k a0 a1 a2 a3) (arboristlaw11_DecompCliques.f (k + 1) a0 a1 a2 a3) := by
  intro a0 a1 a2 a3 k
  have ih0 := arboristlaw11_DecompCliques.mono_l k
  unfold arboristlaw11_DecompCliques.f
  repeat' first
      | (with_reducible exact ih0 _ _ _ _ _ _)
      | (with_reducible exact arboristlaw11_given.mono _ _ _)
      | (with_reducible exact arboristlaw11_made.mono _ _ _)
      | (with_reducible exact arboristref01_Without.mono _ _ _)
      | (with_reducible exact arboristref08_Clique.mono _ _ _)
      | (with_reducible exact arboristref08_Graph.mono _ _)
      | (with_reducible exact LeO.refl _)
      | (with_reducible exact LeO.none _)
      | (with_reducible refine LeO.ite ?_ ?_)
      | (with_reducible refine LeO.bind ?_ (fun _ => ?_))
      | exact ih0 _ _ _ _ _ _
      | exact arboristlaw11_given.mono _ _ _
      | exact arboristlaw11_made.mono _ _ _
      | exact arboristref01_Without.mono _ _ _
      | exact arboristref08_Clique.mono _ _ _
      | exact arboristref08_Graph.mono _ _
      | exact LeO.none _
      | refine LeO.ite ?_ ?_
      | refine LeO.bind ?_ (fun _ => ?_)
set_option maxHeartbeats 8000000 in
set_option maxRecDepth 100000 in
theorem arboristlaw11_DecompCliques.calls (k : Nat) (a0 : Int) (A1 : Option Addr) (c1 : Nat) (l1 : List (List Int)) (A2 : Option Addr) (c2 : Nat) (l2 : List Int) (A3 : Option Addr) (c3 : Nat) (l3 : List Int) (r : Bool) (w : World) (hTb : Tab64 w) (hr1 : Kd.C (Kd.slice 3 (Kd.int .i64)) w A1 l1.length l1) (hc1 : l1.length ≤ c1) (hr2 : Kd.C (Kd.int .i64) w A2 l2.length l2) (hc2 : l2.length ≤ c2) (hr3 : Kd.C (Kd.int .i64) w A3 l3.length l3) (hc3 : l3.length ≤ c3) (hT : r = true) (h : arboristlaw11_DecompCliques.f k a0 l1 l2 l3 = some r) :
    Calls Tryd.prog 7 #[.int .i64 a0, .slice A1 l1.length c1, .slice A2 l2.length c2, .slice A3 l3.length c3] w fun e w' => e = .returned (.bool r) ∧ Below w.heap.size w w' := by
  have HTAB := Aside0.mk hTb
  clear hTb
  have HT_ := Aside0.mk (show r = true from hT)
  clear hT
  have hu28 := Tryd.underlying28
  have HR1 := Aside0.mk hr1
  have HC1 := Aside0.mk hc1
  clear hr1 hc1
  have HR2 := Aside0.mk hr2
  have HC2 := Aside0.mk hc2
  clear hr2 hc2
  have HR3 := Aside0.mk hr3
  have HC3 := Aside0.mk hc3
  clear hr3 hc3
  have HB := Aside0.mk (Below.refl w.heap.size w)
  have H : ((arboristlaw11_shown.f).bind fun t705 => ((arboristlaw11_made.f k a0 l1).bind fun t706 => ((arboristref08_Graph.f k t706).bind fun t709 => ((arboristlaw11_given.f k (t706.length : Int) l2).bind fun t712 => ((decomp_Build.f t709 t712).bind fun bt715 => (if 0 ≤ (mn (l3.length : Int) 5) then (if (mn (l3.length : Int) 5) ≤ (l3.length : Int) then ((arboristref08_Clique.f k t706 (l3.take ((mn (l3.length : Int) 5) : Int).toNat)).bind fun t724 => (if bt715.2.2 = 0 then (if t724 = true then (arboristlaw11_DecompCliques.l0 k (l3.take ((mn (l3.length : Int) 5) : Int).toNat) t705 (((l3.take ((mn (l3.length : Int) 5) : Int).toNat).length : Int) == 0) 0 bt715.1 bt715.2.1) else (some t705)) else (some false))) else (none)) else (none))))))) = some r := h
  clear h
  replace H := Option.bind_eq_some_iff.mp H
  obtain ⟨t705, A50, H⟩ := H
  replace H : ((arboristlaw11_made.f k a0 l1).bind fun t706 => ((arboristref08_Graph.f k t706).bind fun t709 => ((arboristlaw11_given.f k (t706.length : Int) l2).bind fun t712 => ((decomp_Build.f t709 t712).bind fun bt715 => (if 0 ≤ (mn (l3.length : Int) 5) then (if (mn (l3.length : Int) 5) ≤ (l3.length : Int) then ((arboristref08_Clique.f k t706 (l3.take ((mn (l3.length : Int) 5) : Int).toNat)).bind fun t724 => (if bt715.2.2 = 0 then (if t724 = true then (arboristlaw11_DecompCliques.l0 k (l3.take ((mn (l3.length : Int) 5) : Int).toNat) t705 (((l3.take ((mn (l3.length : Int) 5) : Int).toNat).length : Int) == 0) 0 bt715.1 bt715.2.1) else (some t705)) else (some false))) else (none)) else (none)))))) = some r := H
  have A5 := Aside0.mk A50
  clear A50
  replace H := Option.bind_eq_some_iff.mp H
  obtain ⟨t706, A60, H⟩ := H
  replace H : ((arboristref08_Graph.f k t706).bind fun t709 => ((arboristlaw11_given.f k (t706.length : Int) l2).bind fun t712 => ((decomp_Build.f t709 t712).bind fun bt715 => (if 0 ≤ (mn (l3.length : Int) 5) then (if (mn (l3.length : Int) 5) ≤ (l3.length : Int) then ((arboristref08_Clique.f k t706 (l3.take ((mn (l3.length : Int) 5) : Int).toNat)).bind fun t724 => (if bt715.2.2 = 0 then (if t724 = true then (arboristlaw11_DecompCliques.l0 k (l3.take ((mn (l3.length : Int) 5) : Int).toNat) t705 (((l3.take ((mn (l3.length : Int) 5) : Int).toNat).length : Int) == 0) 0 bt715.1 bt715.2.1) else (some t705)) else (some false))) else (none)) else (none))))) = some r := H
  have A6 := Aside0.mk A60
  clear A60
  replace H := Option.bind_eq_some_iff.mp H
  obtain ⟨t709, A70, H⟩ := H
  replace H : ((arboristlaw11_given.f k (t706.length : Int) l2).bind fun t712 => ((decomp_Build.f t709 t712).bind fun bt715 => (if 0 ≤ (mn (l3.length : Int) 5) then (if (mn (l3.length : Int) 5) ≤ (l3.length : Int) then ((arboristref08_Clique.f k t706 (l3.take ((mn (l3.length : Int) 5) : Int).toNat)).bind fun t724 => (if bt715.2.2 = 0 then (if t724 = true then (arboristlaw11_DecompCliques.l0 k (l3.take ((mn (l3.length : Int) 5) : Int).toNat) t705 (((l3.take ((mn (l3.length : Int) 5) : Int).toNat).length : Int) == 0) 0 bt715.1 bt715.2.1) else (some t705)) else (some false))) else (none)) else (none)))) = some r := H
  have A7 := Aside0.mk A70
  clear A70
  replace H := Option.bind_eq_some_iff.mp H
  obtain ⟨t712, A80, H⟩ := H
  replace H : ((decomp_Build.f t709 t712).bind fun bt715 => (if 0 ≤ (mn (l3.length : Int) 5) then (if (mn (l3.length : Int) 5) ≤ (l3.length : Int) then ((arboristref08_Clique.f k t706 (l3.take ((mn (l3.length : Int) 5) : Int).toNat)).bind fun t724 => (if bt715.2.2 = 0 then (if t724 = true then (arboristlaw11_DecompCliques.l0 k (l3.take ((mn (l3.length : Int) 5) : Int).toNat) t705 (((l3.take ((mn (l3.length : Int) 5) : Int).toNat).length : Int) == 0) 0 bt715.1 bt715.2.1) else (some t705)) else (some false))) else (none)) else (none))) = some r := H
  have A8 := Aside0.mk A80
  clear A80
  replace H := Option.bind_eq_some_iff.mp H
  obtain ⟨⟨t715, t718, t721⟩, A90, H⟩ := H
  replace H : (if 0 ≤ (mn (l3.length : Int) 5) then (if (mn (l3.length : Int) 5) ≤ (l3.length : Int) then ((arboristref08_Clique.f k t706 (l3.take ((mn (l3.length : Int) 5) : Int).toNat)).bind fun t724 => (if t721 = 0 then (if t724 = true then (arboristlaw11_DecompCliques.l0 k (l3.take ((mn (l3.length : Int) 5) : Int).toNat) t705 (((l3.take ((mn (l3.length : Int) 5) : Int).toNat).length : Int) == 0) 0 t715 t718) else (some t705)) else (some false))) else (none)) else (none)) = some r := H
  have A9 := Aside0.mk A90
  clear A90
  obtain ⟨ji10, hji10⟩ : ∃ j_ : Int, (mn (l3.length : Int) 5) = j_ := ⟨_, rfl⟩
  replace H : (if 0 ≤ (ji10) then (if (ji10) ≤ (l3.length : Int) then ((arboristref08_Clique.f k t706 (l3.take ((ji10) : Int).toNat)).bind fun t724 => (if t721 = 0 then (if t724 = true then (arboristlaw11_DecompCliques.l0 k (l3.take ((ji10) : Int).toNat) t705 (((l3.take ((ji10) : Int).toNat).length : Int) == 0) 0 t715 t718) else (some t705)) else (some false))) else (none)) else (none)) = some r := by first | (rw [hji10] at H; exact H) | (simp only [hji10] at H ⊢; exact H)
  (try rw [hji10] at A5)
  (try rw [hji10] at A6)
  (try rw [hji10] at A7)
  (try rw [hji10] at A8)
  (try rw [hji10] at A9)
  (try (have hji10h : ji10 ≤ 5 := by (rw [← hji10]; unfold mn; (repeat' split) <;> omega)))
  (try (have hji10g : ji10 ≤ 64 := by omega))
  (try (have hji10l : 0 ≤ ji10 := by (rw [← hji10]; unfold mn; (repeat' split) <;> omega)))
  (try (have hji10m : 0 ≤ ji10 := by omega))
  have hji10_ : (if 5 < (l3.length : Int) then 5 else (l3.length : Int)) = ji10 := hji10
  by_cases c11 : 0 ≤ (ji10)
  · rw [if_pos c11] at H
    have c11b0 := eq_true c11
    have c11b1 : decide (0 ≤ (ji10)) = true := decide_eq_true c11
    clear c11
    by_cases c12 : (ji10) ≤ (l3.length : Int)
    · rw [if_pos c12] at H
      have c12b0 := eq_true c12
      have c12b1 : decide ((ji10) ≤ (l3.length : Int)) = true := decide_eq_true c12
      clear c12
      replace H := Option.bind_eq_some_iff.mp H
      obtain ⟨t724, A130, H⟩ := H
      replace H : (if t721 = 0 then (if t724 = true then (arboristlaw11_DecompCliques.l0 k (l3.take ((ji10) : Int).toNat) t705 (((l3.take ((ji10) : Int).toNat).length : Int) == 0) 0 t715 t718) else (some t705)) else (some false)) = some r := H
      have A13 := Aside0.mk A130
      clear A130
      by_cases c14 : t721 = 0
      · rw [if_pos c14] at H
        have c14b0 : (t721 == 0) = true := beq_iff_eq.mpr c14
        have c14b1 : (t721 != 0) = false := bne_eq_false_iff_eq.mpr c14
        clear c14
        by_cases c15 : t724 = true
        · subst c15
          have H1 : (arboristlaw11_DecompCliques.l0 k (l3.take ((ji10) : Int).toNat) t705 (((l3.take ((ji10) : Int).toNat).length : Int) == 0) 0 t715 t718) = some r := by rw [if_pos rfl] at H; exact H
          clear H
          have H := H1
          clear H1
          have H' := Aside0.mk H
          clear H
          go_enter Tryd.func7, Tryd.ntmps7
          go_wp2_with (first | ((with_reducible refine gate_callee (f := 10) rfl ?_); refine goesL_ (some 17) rfl rfl Tryd.func10 (by kernel_rfl) rfl #[] rfl (by (try simp only [List.map_toArray, List.map_cons, List.map_nil]); first | done | rfl | (simp only [List.length_drop, List.length_take]; rfl)) ?_; (with_reducible refine (arboristlaw11_shown.calls (hTb := (by first | exact HTAB.out | exact tab_drewN HTAB.out _ | exact tab_below HTAB.out (by repeat (first | (with_reducible first | exact HB.out | apply below_alloc | apply pw_below_drewN | apply below_drew1 | refine below_set ?_ GE722.out) | exact HB.out))))  t705 _ A5.out).mono ?_); rintro e w16 ⟨rfl, hb⟩; refine ⟨_, rfl, ?_⟩; have n0_ := Aside0.mk (below_step (by repeat (first | (with_reducible first | exact HB.out | apply below_alloc | apply pw_below_drewN | apply below_drew1) | exact HB.out)) hb); clear HB; have HB := n0_; clear n0_; (try clear hb); (try clear hb2); (try clear hk); (try clear hi)) | ((with_reducible refine gate_callee (f := 11) rfl ?_); refine goesL_ (some 20) rfl rfl Tryd.func11 (by kernel_rfl) rfl #[.int .i64 a0, .slice A1 l1.length c1] rfl (by (try simp only [List.map_toArray, List.map_cons, List.map_nil]); first | done | rfl | (simp only [List.length_drop, List.length_take]; rfl)) ?_; (with_reducible refine (arboristlaw11_made.calls k a0 _ _ l1 t706 _ ?side1 ?side2 A6.out).mono ?_); (case side1 => repeat (first | exact (Kd.C_below HR1.out HB.out) | (with_reducible refine Kd.C_alloc ?_ _) | (with_reducible refine Kd.C_drewN ?_ _) | (with_reducible refine Kd.C_drew ?_))); (case side2 => exact HC1.out); rintro e w17 ⟨v707, rfl, ho0, hb⟩; refine ⟨_, rfl, ?_⟩; have n0_ := Aside0.mk (Kd.S_lower ho0 (below_size (by repeat (first | (with_reducible first | exact HB.out | apply below_alloc | apply pw_below_drewN | apply below_drew1) | exact HB.out)))); have n1_ := Aside0.mk (below_step (by repeat (first | (with_reducible first | exact HB.out | apply below_alloc | apply pw_below_drewN | apply below_drew1) | exact HB.out)) hb); clear HB; have HO708 := n0_; have HB := n1_; clear n0_ n1_; (try clear hb); (try clear hb2); (try clear hk); (try clear hi); (try clear ho0); obtain ⟨Ao18, co18, eo18⟩ := Kd.S_slice HO708.out; subst eo18) | ((with_reducible refine gate_callee (f := 13) rfl ?_); refine goesL_ (some 23) rfl rfl Tryd.func13 (by kernel_rfl) rfl #[.slice Ao18 t706.length co18] rfl (by (try simp only [List.map_toArray, List.map_cons, List.map_nil]); first | done | rfl | (simp only [List.length_drop, List.length_take]; rfl)) ?_; (with_reducible refine (arboristref08_Graph.calls k _ _ t706 t709 _ ?side1 ?side2 A7.out).mono ?_); (case side1 => repeat (first | exact (Kd.S_reads' HO708.out).2.2 | (with_reducible refine Kd.C_alloc ?_ _) | (with_reducible refine Kd.C_drewN ?_ _) | (with_reducible refine Kd.C_drew ?_))); (case side2 => exact (Kd.S_reads' HO708.out).2.1); rintro e w19 ⟨v710, rfl, ho0, hb⟩; refine ⟨_, rfl, ?_⟩; have n0_ := Aside0.mk (Kd.S_below (by (with_reducible repeat (first | apply Kd.S_alloc | apply Kd.S_drewN | apply Kd.S_drew)); exact HO708.out) hb); have n1_ := Aside0.mk (Kd.R_lower ho0 (below_size (by repeat (first | (with_reducible first | exact HB.out | apply below_alloc | apply pw_below_drewN | apply below_drew1) | exact HB.out)))); have n2_ := Aside0.mk (below_step (by repeat (first | (with_reducible first | exact HB.out | apply below_alloc | apply pw_below_drewN | apply below_drew1) | exact HB.out)) hb); clear HO708; clear HB; have HO708 := n0_; have HO711 := n1_; have HB := n2_; clear n0_ n1_ n2_; (try clear hb); (try clear hb2); (try clear hk); (try clear hi); (try clear ho0)) | ((with_reducible refine gate_callee (f := 14) rfl ?_); refine goesL_ (some 27) rfl rfl Tryd.func14 (by kernel_rfl) rfl #[.int .i64 (t706.length : Int), .slice A2 l2.length c2] rfl (by (try simp only [List.map_toArray, List.map_cons, List.map_nil]); first | done | rfl | (simp only [List.length_drop, List.length_take]; rfl)) ?_; (with_reducible refine (arboristlaw11_given.calls k (t706.length : Int) _ _ l2 t712 _ ?side1 ?side2 A8.out).mono ?_); (case side1 => repeat (first | exact (Kd.C_below HR2.out HB.out) | (with_reducible refine Kd.C_alloc ?_ _) | (with_reducible refine Kd.C_drewN ?_ _) | (with_reducible refine Kd.C_drew ?_))); (case side2 => exact HC2.out); rintro e w20 ⟨v713, rfl, ho0, hb⟩; refine ⟨_, rfl, ?_⟩; have n0_ := Aside0.mk (Kd.S_below (by (with_reducible repeat (first | apply Kd.S_alloc | apply Kd.S_drewN | apply Kd.S_drew)); exact HO708.out) hb); have n1_ := Aside0.mk (Kd.R_below (by (with_reducible repeat (first | apply Kd.R_alloc | apply Kd.R_drewN | apply Kd.R_drew)); exact HO711.out) hb); have n2_ := Aside0.mk (Kd.R_lower ho0 (below_size (by repeat (first | (with_reducible first | exact HB.out | apply below_alloc | apply pw_below_drewN | apply below_drew1) | exact HB.out)))); have n3_ := Aside0.mk (below_step (by repeat (first | (with_reducible first | exact HB.out | apply below_alloc | apply pw_below_drewN | apply below_drew1) | exact HB.out)) hb); clear HO708; clear HO711; clear HB; have HO708 := n0_; have HO711 := n1_; have HO714 := n2_; have HB := n3_; clear n0_ n1_ n2_ n3_; (try clear hb); (try clear hb2); (try clear hk); (try clear hi); (try clear ho0); obtain ⟨Ao21, co21, eo21⟩ := Kd.R_slice HO711.out; subst eo21; obtain ⟨Ao22, co22, eo22⟩ := Kd.R_slice HO714.out; subst eo22) | ((with_reducible refine gate_callee (f := 12) rfl ?_); refine goesL_ (some 28) rfl rfl Tryd.func12 (by kernel_rfl) rfl #[.agg #[.slice Ao21 t709.length co21], .slice Ao22 t712.length co22] rfl (by (try simp only [List.map_toArray, List.map_cons, List.map_nil]); first | done | rfl | (simp only [List.length_drop, List.length_take]; rfl)) ?_; (with_reducible refine (decomp_Build.calls (hTb := (by first | exact HTAB.out | exact tab_drewN HTAB.out _ | exact tab_below HTAB.out (by repeat (first | (with_reducible first | exact HB.out | apply below_alloc | apply pw_below_drewN | apply below_drew1 | refine below_set ?_ GE722.out) | exact HB.out)))) _ _ t709 _ _ t712 t715 t718 t721 _ ?side1 ?side2 ?side3 ?side4 A9.out).mono ?_); (case side1 => repeat (first | exact (Kd.R_reads' HO711.out).2.2 | (with_reducible refine Kd.C_alloc ?_ _) | (with_reducible refine Kd.C_drewN ?_ _) | (with_reducible refine Kd.C_drew ?_))); (case side2 => exact (Kd.R_reads' HO711.out).2.1); (case side3 => repeat (first | exact (Kd.R_reads' HO714.out).2.2 | (with_reducible refine Kd.C_alloc ?_ _) | (with_reducible refine Kd.C_drewN ?_ _) | (with_reducible refine Kd.C_drew ?_))); (case side4 => exact (Kd.R_reads' HO714.out).2.1); rintro e w23 ⟨v716, v719, rfl, ho0, ho1, hb⟩; refine ⟨_, rfl, ?_⟩; have n0_ := Aside0.mk (Kd.S_below (by (with_reducible repeat (first | apply Kd.S_alloc | apply Kd.S_drewN | apply Kd.S_drew)); exact HO708.out) hb); have n1_ := Aside0.mk (Kd.R_below (by (with_reducible repeat (first | apply Kd.R_alloc | apply Kd.R_drewN | apply Kd.R_drew)); exact HO711.out) hb); have n2_ := Aside0.mk (Kd.R_elder' (by (with_reducible repeat (first | apply Kd.R_alloc | apply Kd.R_drewN | apply Kd.R_drew)); exact HO714.out) (Kd.R_base ho1) hb); have n3_ := Aside0.mk (Kd.S_lower (Kd.S_new' ho0 (Kd.R_lt (by (with_reducible repeat (first | apply Kd.R_alloc | apply Kd.R_drewN | apply Kd.R_drew)); exact HO714.out))) (below_size (by repeat (first | (with_reducible first | exact HB.out | apply below_alloc | apply pw_below_drewN | apply below_drew1) | exact HB.out)))); have n4_ := Aside0.mk (Kd.R_lower (Kd.R_new' ho1 (Kd.R_lt (by (with_reducible repeat (first | apply Kd.R_alloc | apply Kd.R_drewN | apply Kd.R_drew)); exact HO714.out))) (below_size (by repeat (first | (with_reducible first | exact HB.out | apply below_alloc | apply pw_below_drewN | apply below_drew1) | exact HB.out)))); have n5_ := Aside0.mk (below_step (by repeat (first | (with_reducible first | exact HB.out | apply below_alloc | apply pw_below_drewN | apply below_drew1) | exact HB.out)) hb); clear HO708; clear HO711; clear HO714; clear HB; have HO708 := n0_; have HO711 := n1_; have HO714 := n2_; have HO717 := n3_; have HO720 := n4_; have HB := n5_; clear n0_ n1_ n2_ n3_ n4_ n5_; (try clear hb); (try clear hb2); (try clear hk); (try clear hi); (try clear ho0); (try clear ho1)) | ((with_reducible refine gate_dst (N := 11) rfl ?_); refine box_event ?hg (N := 11) ?hd (cs := #[.slice none 0 0, .slice none 0 0]) (t := 28) ?hr ?_; (case hd => rfl); (case hg => rfl); (case hr => first | (go_simp; done) | (go_simp; rfl)); intro gb722 hg w24 hbox hb; have n0_ := Aside0.mk (Kd.S_below (by (with_reducible repeat (first | apply Kd.S_alloc | apply Kd.S_drewN | apply Kd.S_drew)); exact HO708.out) hb); have n1_ := Aside0.mk (Kd.R_below (by (with_reducible repeat (first | apply Kd.R_alloc | apply Kd.R_drewN | apply Kd.R_drew)); exact HO711.out) hb); have n2_ := Aside0.mk (Kd.R_below (by (with_reducible repeat (first | apply Kd.R_alloc | apply Kd.R_drewN | apply Kd.R_drew)); exact HO714.out) hb); have n3_ := Aside0.mk (Kd.S_below (by (with_reducible repeat (first | apply Kd.S_alloc | apply Kd.S_drewN | apply Kd.S_drew)); exact HO717.out) hb); have n4_ := Aside0.mk (Kd.R_below (by (with_reducible repeat (first | apply Kd.R_alloc | apply Kd.R_drewN | apply Kd.R_drew)); exact HO720.out) hb); have n5_ := Aside0.mk (below_step (by repeat (first | (with_reducible first | exact HB.out | apply below_alloc | apply pw_below_drewN | apply below_drew1) | exact HB.out)) hb); have n6_ := Aside0.mk (hbox); have n7_ := Aside0.mk ((by rw [hg]; exact (below_size (by repeat (first | (with_reducible first | exact HB.out | apply below_alloc | apply pw_below_drewN | apply below_drew1) | exact HB.out))) : w.heap.size ≤ gb722)); have n8_ := Aside0.mk ((by rw [hg]; exact (below_size (by repeat (first | (with_reducible first | exact HB.out | apply below_alloc | apply pw_below_drewN | apply below_drew1) | exact HB.out))) : w.heap.size ≤ gb722)); clear HO708; clear HO711; clear HO714; clear HO717; clear HO720; clear HB; have HO708 := n0_; have HO711 := n1_; have HO714 := n2_; have HO717 := n3_; have HO720 := n4_; have HB := n5_; have BK722 := n6_; have GW722 := n7_; have GE722 := n8_; clear n0_ n1_ n2_ n3_ n4_ n5_ n6_ n7_ n8_; clear hb hbox hg; obtain ⟨Ao25, co25, eo25⟩ := Kd.S_slice HO717.out; subst eo25; have hcz26_0 : w24.cell? ⟨gb722, 0, none⟩ = some (.slice none 0 0) := (blk_cell BK722.out 0).trans rfl; have hcz26_1 : w24.cell? ⟨gb722, 1, none⟩ = some (.slice none 0 0) := (blk_cell BK722.out 1).trans rfl; have hfz26_0 := blk_frozen BK722.out 0; have hfz26_1 := blk_frozen BK722.out 1; obtain ⟨Ao27, co27, eo27⟩ := Kd.R_slice HO720.out; subst eo27; obtain ⟨i028, hi028, _, hsz28, _⟩ := info_parts info3; obtain ⟨hcut28, hA28, hC28⟩ := print_take_of (P := Tryd.prog) (Value.int .i64) 0 23 3 .i64 Tryd.underlying23 hi028 hsz28 A3 c3 l3 (ji10) (of_decide_eq_true (by first | (with_reducible assumption) | assumption)) (of_decide_eq_true (by first | (with_reducible assumption) | assumption)) HC3.out; have HR723 := Aside0.mk (Kd.C_of_reads (h1 := fun _ => rfl) (hA28 _ (Kd.reads_of_C HR3.out))); have HC723 := Aside0.mk hC28; clear hA28 hC28 hi028 hsz28) | ((with_reducible refine gate_callee (f := 23) rfl ?_); refine goesL_ (some 38) rfl rfl Tryd.func23 (by kernel_rfl) rfl #[.slice Ao18 t706.length co18, .slice A3 (l3.take ((ji10) : Int).toNat).length c3] rfl (by (try simp only [List.map_toArray, List.map_cons, List.map_nil]); first | done | (rw [show (l3.take ((ji10) : Int).toNat).length = (ji10).toNat from (by rw [List.length_take]; have h_ : ((ji10) : Int) ≤ (l3.length : Int) := (by first | exact of_decide_eq_true (by first | (with_reducible assumption) | assumption) | (have h9_ := hji10_; split at h9_ <;> omega)); omega)] <;> rfl) | (simp only [hji10]; rfl) | rfl | (simp only [List.length_drop, List.length_take]; rfl)) ?_; (with_reducible refine (arboristref08_Clique.calls k _ _ t706 _ _ (l3.take ((ji10) : Int).toNat) true _ ?side1 ?side2 ?side3 ?side4 A13.out).mono ?_); (case side1 => refine (Kd.S_reads' (e := 40) (base := w.heap.size) (ok := fun k_ => True) (n := t706.length) (c := co18) ?_).2.2; exact (by (with_reducible repeat (first | apply Kd.S_alloc | apply Kd.S_drewN | apply Kd.S_drew)); exact (Kd.S_mono (Kd.S_far (p := ⟨gb722, 1, none⟩) (Kd.S_far (p := ⟨gb722, 0, none⟩) (Kd.S_types HO708.out BK722.out (by decide)) (fun _ hk => hk.2) (.slice Ao25 t715.length co25)) (fun _ hk => hk.2) (.slice Ao27 t718.length co27)) (fun _ h_ => h_.1)))); (case side2 => exact (Kd.S_reads' HO708.out).2.1); (case side3 => exact Kd.C_below HR723.out (by repeat (first | (with_reducible first | exact HB.out | apply below_alloc | apply pw_below_drewN | apply below_drew1 | refine below_set ?_ GE722.out) | exact HB.out))); (case side4 => exact HC723.out); rintro e w' ⟨rfl, ⟨nd, rfl⟩⟩; refine ⟨_, rfl, ?_⟩))
          go_loopg [14, 15] k (fun kq v14 v15 w' => ∃ (x14_1 : Bool) (x15_1 : Int), v14 = .bool x14_1 ∧ v15 = .int .i64 x15_1 ∧ Aside0 (arboristlaw11_DecompCliques.l0 kq (l3.take ((ji10) : Int).toNat) t705 x14_1 x15_1 t715 t718 = some r) ∧ Aside0 (kq ≤ k) ∧ Aside0 (Kd.S (Kd.slice 3 (Kd.int .i64)) 23 w' w.heap.size (fun k_ => some k_ ≠ ((.slice Ao27 t718.length co27) : Value).ownBlock) (.slice Ao25 t715.length co25) t715) ∧ Aside0 (Kd.R (Kd.int .i64) 3 w' w.heap.size (fun _ => True) (.slice Ao27 t718.length co27) t718) ∧ Aside0 (w'.heap[gb722]? = some (.cells #[(.slice Ao25 t715.length co25), (.slice Ao27 t718.length co27)] 28 (0, 0))) ∧ Aside0 (Below w.heap.size w w'))
          case atStart => exact ⟨((((l3.take ((ji10) : Int).toNat).length : Int) == 0)), (0), (by first | rfl | (rw [show (l3.take ((ji10) : Int).toNat).length = (ji10).toNat from (by rw [List.length_take]; have h_ : ((ji10) : Int) ≤ (l3.length : Int) := (by first | exact of_decide_eq_true (by first | (with_reducible assumption) | assumption) | (have h9_ := hji10_; split at h9_ <;> omega)); omega), Int.toNat_of_nonneg hji10l, show max ji10 0 = ji10 from by omega]) | (simp; done) | (simp only [← hji10] <;> (first | rfl | simp)) | (simp [*]; done)), (by first | rfl | (simp; done) | (simp [*]; done)), H', ⟨Nat.le_refl _⟩, ⟨by (with_reducible repeat (first | apply Kd.S_alloc | apply Kd.S_drewN | apply Kd.S_drew)); exact Kd.S_mono (Kd.S_far (p := ⟨gb722, 1, none⟩) (Kd.S_far (p := ⟨gb722, 0, none⟩) (Kd.S_types HO717.out BK722.out (by decide)) (fun _ hk => hk.2) (.slice Ao25 t715.length co25)) (fun _ hk => hk.2) (.slice Ao27 t718.length co27)) (fun _ hk => hk.1.1)⟩, ⟨by (with_reducible repeat (first | apply Kd.R_alloc | apply Kd.R_drewN | apply Kd.R_drew)); exact Kd.R_mono (Kd.R_far (p := ⟨gb722, 1, none⟩) (Kd.R_far (p := ⟨gb722, 0, none⟩) (Kd.R_types HO720.out BK722.out (by decide)) (fun _ hk => hk.2) (.slice Ao25 t715.length co25)) (fun _ hk => hk.2) (.slice Ao27 t718.length co27)) (fun _ hk => trivial)⟩, ⟨by (with_reducible repeat (first | refine blk_drewN ?_ _ | refine blk_drew ?_ | refine blk_alloc ?_ _)); refine blk_put (cs := #[.slice Ao25 t715.length co25, .slice none 0 0]) ?_ 1 _ rfl; (with_reducible repeat (first | refine blk_drewN ?_ _ | refine blk_drew ?_ | refine blk_alloc ?_ _)); refine blk_put (cs := #[.slice none 0 0, .slice none 0 0]) ?_ 0 _ rfl; (with_reducible repeat (first | refine blk_drewN ?_ _ | refine blk_drew ?_ | refine blk_alloc ?_ _)); exact BK722.out⟩, ⟨by repeat (first | (with_reducible first | exact HB.out | apply below_alloc | apply pw_below_drewN | apply below_drew1 | refine below_set ?_ GE722.out) | exact HB.out)⟩⟩
          case round =>
            clear H'
            try clear c1
            try clear c2
            try clear p2
            try clear c3
            try clear c7
            try clear c10
            try clear c11
            try clear c11b0
            try clear c11b1
            try clear c12
            try clear c12b0
            try clear c12b1
            try clear c13
            try clear c14
            try clear c14b0
            try clear c14b1
            try clear c15
            try clear c23
            try clear hcz26_0
            try clear hcz26_1
            try clear hfz26_0
            try clear hfz26_1
            obtain ⟨x14_1, x15_1, rfl, rfl, HA, HK1, HO_723000, HO_723001, BK722, HB⟩ := hrel
            cases gk with
            | zero => exact absurd HA.out (by simp [arboristlaw11_DecompCliques.l0])
            | succ k1 =>
              have H := HA.out
              clear HA
              simp only [arboristlaw11_DecompCliques.l0] at H
              by_cases c29 : x15_1 < (t715.length : Int)
              · rw [if_pos c29] at H
                have c29b0 : decide (x15_1 < (t715.length : Int)) = true := decide_eq_true c29
                clear c29
                by_cases c30 : 0 ≤ x15_1
                · rw [if_pos c30] at H
                  have c30b0 : decide (0 ≤ x15_1) = true := decide_eq_true c30
                  clear c30
                  replace H := Option.bind_eq_some_iff.mp H
                  obtain ⟨t726, A310, H⟩ := H
                  replace H : (if x14_1 = true then (arboristlaw11_DecompCliques.l0 k1 (l3.take ((ji10) : Int).toNat) t705 true (wrap64 (x15_1 + 1)) t715 t718) else (arboristlaw11_DecompCliques.l0 k1 (l3.take ((ji10) : Int).toNat) t705 ((t726.length : Int) == 0) (wrap64 (x15_1 + 1)) t715 t718)) = some r := H
                  have A31 := Aside0.mk A310
                  clear A310
                  by_cases c32 : x14_1 = true
                  · subst c32
                    have H1 : (arboristlaw11_DecompCliques.l0 k1 (l3.take ((ji10) : Int).toNat) t705 true (wrap64 (x15_1 + 1)) t715 t718) = some r := by rw [if_pos rfl] at H; exact H
                    clear H
                    have H := H1
                    clear H1
                    have H' := Aside0.mk H
                    clear H
                    have hcz33_0 : wr.cell? ⟨gb722, 0, none⟩ = some (.slice Ao25 t715.length co25) := (blk_cell BK722.out 0).trans rfl
                    have hcz33_1 : wr.cell? ⟨gb722, 1, none⟩ = some (.slice Ao27 t718.length co27) := (blk_cell BK722.out 1).trans rfl
                    have hfz33_0 := blk_frozen BK722.out 0
                    have hfz33_1 := blk_frozen BK722.out 1
                    have p725 : 0 ≤ (x15_1 : Int) := of_decide_eq_true (by first | (with_reducible assumption) | assumption)
                    have q725 : x15_1 < (t715.length : Int) := of_decide_eq_true (by first | (with_reducible assumption) | assumption)
                    obtain ⟨ad725, A725_0, c725_0, e725, hx725_0, hl725_0, hi725_0⟩ := at_L1 (Kd.S_reads' HO_723000.out).2.2 x15_1 p725 q725
                    cases e725
                    obtain ⟨ce725, hce725, hMe725, hcc725⟩ := Kd.S_get HO_723000.out [] x15_1 p725 (by first | exact q725 | exact of_decide_eq_true (by first | (with_reducible assumption) | assumption) | (have e_ := (Kd.S_reads' HO_723000.out).1; omega))
                    obtain ⟨ve725_0, rfl, ge725_0⟩ := hMe725
                    have hv725_0 := hcc725 0 _ rfl
                    rw [Nat.add_zero, show ((Kd.slice 3 (Kd.int .i64))).sz = 1 from rfl, Nat.mul_one] at hv725_0
                    replace hv725_0 := Option.some.inj (hv725_0.symm.trans hx725_0)
                    rw [hv725_0] at ge725_0
                    have HL725_0 := Aside0.mk (show Kd.R (Kd.int .i64) 3 _ _ _ _ (rd_L1 t715 x15_1) from ge725_0)
                    clear hv725_0 ge725_0
                    clear hcc725 hce725
                    have HR725_0 := Aside0.mk hi725_0
                    have HC725_0 := Aside0.mk hl725_0
                    clear hi725_0 hl725_0
                    replace p725 := eq_true p725
                    replace q725 := eq_true q725
                    go_wp2_with (first | ((with_reducible refine gate_callee (f := 24) rfl ?_); refine goesL_ (some 60) rfl rfl Tryd.func24 (by kernel_rfl) rfl #[.slice A3 (l3.take ((ji10) : Int).toNat).length c3, .slice A725_0 (rd_L1 t715 x15_1).length c725_0] rfl (by (try simp only [List.map_toArray, List.map_cons, List.map_nil]); first | done | (rw [show (l3.take ((ji10) : Int).toNat).length = (ji10).toNat from (by rw [List.length_take]; have h_ : ((ji10) : Int) ≤ (l3.length : Int) := (by first | exact of_decide_eq_true (by first | (with_reducible assumption) | assumption) | (have h9_ := hji10_; split at h9_ <;> omega)); omega)] <;> rfl) | (simp only [hji10]; rfl) | rfl | (simp only [List.length_drop, List.length_take]; rfl)) ?_; (with_reducible refine (arboristref01_Without.calls k1 _ _ (l3.take ((ji10) : Int).toNat) _ _ (rd_L1 t715 x15_1) t726 _ ?side1 ?side2 ?side3 ?side4 A31.out).mono ?_); (case side1 => repeat (first | exact (Kd.C_below HR723.out HB.out) | (with_reducible refine Kd.C_alloc ?_ _) | (with_reducible refine Kd.C_drewN ?_ _) | (with_reducible refine Kd.C_drew ?_))); (case side2 => exact HC723.out); (case side3 => repeat (first | exact (by repeat (first | (with_reducible exact HR725_0.out) | (with_reducible refine Kd.C_alloc ?_ _) | (with_reducible refine Kd.C_drewN ?_ _) | (with_reducible refine Kd.C_drew ?_) | exact HR725_0.out)) | (with_reducible refine Kd.C_alloc ?_ _) | (with_reducible refine Kd.C_drewN ?_ _) | (with_reducible refine Kd.C_drew ?_))); (case side4 => exact HC725_0.out); rintro e w34 ⟨v727, rfl, ho0, hb⟩; refine ⟨_, rfl, ?_⟩; have n0_ := Aside0.mk (Kd.S_elder' (by (with_reducible repeat (first | apply Kd.S_alloc | apply Kd.S_drewN | apply Kd.S_drew)); exact HO_723000.out) (Kd.R_base ho0) hb); have n1_ := Aside0.mk (Kd.R_elder' (by (with_reducible repeat (first | apply Kd.R_alloc | apply Kd.R_drewN | apply Kd.R_drew)); exact HO_723001.out) (Kd.R_base ho0) hb); have n2_ := Aside0.mk (Kd.R_elder' (by (with_reducible repeat (first | apply Kd.R_alloc | apply Kd.R_drewN | apply Kd.R_drew)); exact HL725_0.out) (Kd.R_base ho0) hb); have n3_ := Aside0.mk (Kd.R_lower (Kd.R_new' (Kd.R_new' ho0 (Kd.R_lt (by (with_reducible repeat (first | apply Kd.R_alloc | apply Kd.R_drewN | apply Kd.R_drew)); exact HO_723001.out))) (Kd.R_lt (by (with_reducible repeat (first | apply Kd.R_alloc | apply Kd.R_drewN | apply Kd.R_drew)); exact HL725_0.out))) (below_size (by repeat (first | (with_reducible first | exact HB.out | apply below_alloc | apply pw_below_drewN | apply below_drew1 | refine below_set ?_ GE722.out) | exact HB.out)))); have n4_ := Aside0.mk (blk_below (g := gb722) (o := .cells #[.slice (some ad725) t715.length co25, .slice Ao27 t718.length co27] 28 (0, 0)) (by (with_reducible repeat (first | refine blk_drewN ?_ _ | refine blk_drew ?_ | refine blk_alloc ?_ _)); exact BK722.out) hb); have n5_ := Aside0.mk (Kd.C_below (by repeat (first | (with_reducible exact HR725_0.out) | (with_reducible refine Kd.C_alloc ?_ _) | (with_reducible refine Kd.C_drewN ?_ _) | (with_reducible refine Kd.C_drew ?_) | exact HR725_0.out)) hb); have n6_ := Aside0.mk (below_step (by repeat (first | (with_reducible first | exact HB.out | apply below_alloc | apply pw_below_drewN | apply below_drew1 | refine below_set ?_ GE722.out) | exact HB.out)) hb); clear HO_723000; clear HO_723001; clear HL725_0; clear BK722; clear HR725_0; clear HB; have HO_723000 := n0_; have HO_723001 := n1_; have HL725_0 := n2_; have HO728 := n3_; have BK722 := n4_; have HR725_0 := n5_; have HB := n6_; clear n0_ n1_ n2_ n3_ n4_ n5_ n6_; (try clear hb); (try clear hb2); (try clear hk); (try clear hi); (try clear ho0); obtain ⟨Ao35, co35, eo35⟩ := Kd.R_slice HO728.out; subst eo35))
                    first | go_roundg k1 | (simp only [← hji10]; (try simp only [← hji10] at H'); go_roundg k1)
                    case measure => have := HK1.out; omega
                    case rel => exact ⟨(true), (wrap64 (x15_1 + 1)), (by first | rfl | (simp; done) | (simp [*]; done)), (by first | rfl | (simp; done) | (simp [*]; done)), H', ⟨by have := HK1.out; omega⟩, ⟨by (with_reducible repeat (first | apply Kd.S_alloc | apply Kd.S_drewN | apply Kd.S_drew)); exact Kd.S_mono HO_723000.out (fun _ hk => hk.1)⟩, ⟨by (with_reducible repeat (first | apply Kd.R_alloc | apply Kd.R_drewN | apply Kd.R_drew)); exact Kd.R_mono HO_723001.out (fun _ hk => trivial)⟩, ⟨by (with_reducible repeat (first | refine blk_drewN ?_ _ | refine blk_drew ?_ | refine blk_alloc ?_ _)); exact BK722.out⟩, ⟨by repeat (first | (with_reducible first | exact HB.out | apply below_alloc | apply pw_below_drewN | apply below_drew1 | refine below_set ?_ GE722.out) | exact HB.out)⟩⟩
                  · replace c32 := Bool.eq_false_iff.mpr c32
                    subst c32
                    have H1 : (arboristlaw11_DecompCliques.l0 k1 (l3.take ((ji10) : Int).toNat) t705 ((t726.length : Int) == 0) (wrap64 (x15_1 + 1)) t715 t718) = some r := by rw [if_neg (show ¬ (false = true) by decide)] at H; exact H
                    clear H
                    have H := H1
                    clear H1
                    have H' := Aside0.mk H
                    clear H
                    have hcz36_0 : wr.cell? ⟨gb722, 0, none⟩ = some (.slice Ao25 t715.length co25) := (blk_cell BK722.out 0).trans rfl
                    have hcz36_1 : wr.cell? ⟨gb722, 1, none⟩ = some (.slice Ao27 t718.length co27) := (blk_cell BK722.out 1).trans rfl
                    have hfz36_0 := blk_frozen BK722.out 0
                    have hfz36_1 := blk_frozen BK722.out 1
                    have p725 : 0 ≤ (x15_1 : Int) := of_decide_eq_true (by first | (with_reducible assumption) | assumption)
                    have q725 : x15_1 < (t715.length : Int) := of_decide_eq_true (by first | (with_reducible assumption) | assumption)
                    obtain ⟨ad725, A725_0, c725_0, e725, hx725_0, hl725_0, hi725_0⟩ := at_L1 (Kd.S_reads' HO_723000.out).2.2 x15_1 p725 q725
                    cases e725
                    obtain ⟨ce725, hce725, hMe725, hcc725⟩ := Kd.S_get HO_723000.out [] x15_1 p725 (by first | exact q725 | exact of_decide_eq_true (by first | (with_reducible assumption) | assumption) | (have e_ := (Kd.S_reads' HO_723000.out).1; omega))
                    obtain ⟨ve725_0, rfl, ge725_0⟩ := hMe725
                    have hv725_0 := hcc725 0 _ rfl
                    rw [Nat.add_zero, show ((Kd.slice 3 (Kd.int .i64))).sz = 1 from rfl, Nat.mul_one] at hv725_0
                    replace hv725_0 := Option.some.inj (hv725_0.symm.trans hx725_0)
                    rw [hv725_0] at ge725_0
                    have HL725_0 := Aside0.mk (show Kd.R (Kd.int .i64) 3 _ _ _ _ (rd_L1 t715 x15_1) from ge725_0)
                    clear hv725_0 ge725_0
                    clear hcc725 hce725
                    have HR725_0 := Aside0.mk hi725_0
                    have HC725_0 := Aside0.mk hl725_0
                    clear hi725_0 hl725_0
                    replace p725 := eq_true p725
                    replace q725 := eq_true q725
                    go_wp2_with (first | ((with_reducible refine gate_callee (f := 24) rfl ?_); refine goesL_ (some 60) rfl rfl Tryd.func24 (by kernel_rfl) rfl #[.slice A3 (l3.take ((ji10) : Int).toNat).length c3, .slice A725_0 (rd_L1 t715 x15_1).length c725_0] rfl (by (try simp only [List.map_toArray, List.map_cons, List.map_nil]); first | done | (rw [show (l3.take ((ji10) : Int).toNat).length = (ji10).toNat from (by rw [List.length_take]; have h_ : ((ji10) : Int) ≤ (l3.length : Int) := (by first | exact of_decide_eq_true (by first | (with_reducible assumption) | assumption) | (have h9_ := hji10_; split at h9_ <;> omega)); omega)] <;> rfl) | (simp only [hji10]; rfl) | rfl | (simp only [List.length_drop, List.length_take]; rfl)) ?_; (with_reducible refine (arboristref01_Without.calls k1 _ _ (l3.take ((ji10) : Int).toNat) _ _ (rd_L1 t715 x15_1) t726 _ ?side1 ?side2 ?side3 ?side4 A31.out).mono ?_); (case side1 => repeat (first | exact (Kd.C_below HR723.out HB.out) | (with_reducible refine Kd.C_alloc ?_ _) | (with_reducible refine Kd.C_drewN ?_ _) | (with_reducible refine Kd.C_drew ?_))); (case side2 => exact HC723.out); (case side3 => repeat (first | exact (by repeat (first | (with_reducible exact HR725_0.out) | (with_reducible refine Kd.C_alloc ?_ _) | (with_reducible refine Kd.C_drewN ?_ _) | (with_reducible refine Kd.C_drew ?_) | exact HR725_0.out)) | (with_reducible refine Kd.C_alloc ?_ _) | (with_reducible refine Kd.C_drewN ?_ _) | (with_reducible refine Kd.C_drew ?_))); (case side4 => exact HC725_0.out); rintro e w37 ⟨v727, rfl, ho0, hb⟩; refine ⟨_, rfl, ?_⟩; have n0_ := Aside0.mk (Kd.S_elder' (by (with_reducible repeat (first | apply Kd.S_alloc | apply Kd.S_drewN | apply Kd.S_drew)); exact HO_723000.out) (Kd.R_base ho0) hb); have n1_ := Aside0.mk (Kd.R_elder' (by (with_reducible repeat (first | apply Kd.R_alloc | apply Kd.R_drewN | apply Kd.R_drew)); exact HO_723001.out) (Kd.R_base ho0) hb); have n2_ := Aside0.mk (Kd.R_elder' (by (with_reducible repeat (first | apply Kd.R_alloc | apply Kd.R_drewN | apply Kd.R_drew)); exact HL725_0.out) (Kd.R_base ho0) hb); have n3_ := Aside0.mk (Kd.R_lower (Kd.R_new' (Kd.R_new' ho0 (Kd.R_lt (by (with_reducible repeat (first | apply Kd.R_alloc | apply Kd.R_drewN | apply Kd.R_drew)); exact HO_723001.out))) (Kd.R_lt (by (with_reducible repeat (first | apply Kd.R_alloc | apply Kd.R_drewN | apply Kd.R_drew)); exact HL725_0.out))) (below_size (by repeat (first | (with_reducible first | exact HB.out | apply below_alloc | apply pw_below_drewN | apply below_drew1 | refine below_set ?_ GE722.out) | exact HB.out)))); have n4_ := Aside0.mk (blk_below (g := gb722) (o := .cells #[.slice (some ad725) t715.length co25, .slice Ao27 t718.length co27] 28 (0, 0)) (by (with_reducible repeat (first | refine blk_drewN ?_ _ | refine blk_drew ?_ | refine blk_alloc ?_ _)); exact BK722.out) hb); have n5_ := Aside0.mk (Kd.C_below (by repeat (first | (with_reducible exact HR725_0.out) | (with_reducible refine Kd.C_alloc ?_ _) | (with_reducible refine Kd.C_drewN ?_ _) | (with_reducible refine Kd.C_drew ?_) | exact HR725_0.out)) hb); have n6_ := Aside0.mk (below_step (by repeat (first | (with_reducible first | exact HB.out | apply below_alloc | apply pw_below_drewN | apply below_drew1 | refine below_set ?_ GE722.out) | exact HB.out)) hb); clear HO_723000; clear HO_723001; clear HL725_0; clear BK722; clear HR725_0; clear HB; have HO_723000 := n0_; have HO_723001 := n1_; have HL725_0 := n2_; have HO728 := n3_; have BK722 := n4_; have HR725_0 := n5_; have HB := n6_; clear n0_ n1_ n2_ n3_ n4_ n5_ n6_; (try clear hb); (try clear hb2); (try clear hk); (try clear hi); (try clear ho0); obtain ⟨Ao38, co38, eo38⟩ := Kd.R_slice HO728.out; subst eo38))
                    first | go_roundg k1 | (simp only [← hji10]; (try simp only [← hji10] at H'); go_roundg k1)
                    case measure => have := HK1.out; omega
                    case rel => exact ⟨(((t726.length : Int) == 0)), (wrap64 (x15_1 + 1)), (by first | rfl | (simp; done) | (simp [*]; done)), (by first | rfl | (simp; done) | (simp [*]; done)), H', ⟨by have := HK1.out; omega⟩, ⟨by (with_reducible repeat (first | apply Kd.S_alloc | apply Kd.S_drewN | apply Kd.S_drew)); exact Kd.S_mono HO_723000.out (fun _ hk => hk.1)⟩, ⟨by (with_reducible repeat (first | apply Kd.R_alloc | apply Kd.R_drewN | apply Kd.R_drew)); exact Kd.R_mono HO_723001.out (fun _ hk => trivial)⟩, ⟨by (with_reducible repeat (first | refine blk_drewN ?_ _ | refine blk_drew ?_ | refine blk_alloc ?_ _)); exact BK722.out⟩, ⟨by repeat (first | (with_reducible first | exact HB.out | apply below_alloc | apply pw_below_drewN | apply below_drew1 | refine below_set ?_ GE722.out) | exact HB.out)⟩⟩
                · rw [if_neg c30] at H
                  exact absurd H (by simp)
              · rw [if_neg c29] at H
                have c29b0 : decide (x15_1 < (t715.length : Int)) = false := decide_eq_false c29
                clear c29
                by_cases c39 : t705 = true
                · subst c39
                  have H1 : (some x14_1) = some r := by rw [if_pos rfl] at H; exact H
                  clear H
                  have H := H1
                  clear H1
                  obtain rfl := Option.some.inj H
                  have hcz40_0 : wr.cell? ⟨gb722, 0, none⟩ = some (.slice Ao25 t715.length co25) := (blk_cell BK722.out 0).trans rfl
                  have hcz40_1 : wr.cell? ⟨gb722, 1, none⟩ = some (.slice Ao27 t718.length co27) := (blk_cell BK722.out 1).trans rfl
                  have hfz40_0 := blk_frozen BK722.out 0
                  have hfz40_1 := blk_frozen BK722.out 1
                  go_wp2
                  go_ret
                  exact ⟨by first | rfl | (simp [errW_none, errW_some] <;> rfl) | (simp only [← hji10]; first | rfl | (simp [errW_none, errW_some] <;> rfl)) | (simp [*, errW_none, errW_some] <;> rfl), by repeat (first | (with_reducible first | exact HB.out | apply below_alloc | apply pw_below_drewN | apply below_drew1 | refine below_set ?_ GE722.out) | exact HB.out)⟩
                · replace c39 := Bool.eq_false_iff.mpr c39
                  subst c39
                  have H1 : (some false) = some r := by rw [if_neg (show ¬ (false = true) by decide)] at H; exact H
                  clear H
                  have H := H1
                  clear H1
                  exact absurd ((Option.some.inj H).trans HT_.out) (by decide)
        · replace c15 := Bool.eq_false_iff.mpr c15
          subst c15
          have H1 : (some t705) = some r := by rw [if_neg (show ¬ (false = true) by decide)] at H; exact H
          clear H
          have H := H1
          clear H1
          obtain rfl := Option.some.inj H
          go_enter Tryd.func7, Tryd.ntmps7
          go_wp2_with (first | ((with_reducible refine gate_callee (f := 10) rfl ?_); refine goesL_ (some 17) rfl rfl Tryd.func10 (by kernel_rfl) rfl #[] rfl (by (try simp only [List.map_toArray, List.map_cons, List.map_nil]); first | done | rfl | (simp only [List.length_drop, List.length_take]; rfl)) ?_; (with_reducible refine (arboristlaw11_shown.calls (hTb := (by first | exact HTAB.out | exact tab_drewN HTAB.out _ | exact tab_below HTAB.out (by repeat (first | (with_reducible first | exact HB.out | apply below_alloc | apply pw_below_drewN | apply below_drew1 | refine below_set ?_ GE722.out) | exact HB.out))))  t705 _ A5.out).mono ?_); rintro e w41 ⟨rfl, hb⟩; refine ⟨_, rfl, ?_⟩; have n0_ := Aside0.mk (below_step (by repeat (first | (with_reducible first | exact HB.out | apply below_alloc | apply pw_below_drewN | apply below_drew1) | exact HB.out)) hb); clear HB; have HB := n0_; clear n0_; (try clear hb); (try clear hb2); (try clear hk); (try clear hi)) | ((with_reducible refine gate_callee (f := 11) rfl ?_); refine goesL_ (some 20) rfl rfl Tryd.func11 (by kernel_rfl) rfl #[.int .i64 a0, .slice A1 l1.length c1] rfl (by (try simp only [List.map_toArray, List.map_cons, List.map_nil]); first | done | rfl | (simp only [List.length_drop, List.length_take]; rfl)) ?_; (with_reducible refine (arboristlaw11_made.calls k a0 _ _ l1 t706 _ ?side1 ?side2 A6.out).mono ?_); (case side1 => repeat (first | exact (Kd.C_below HR1.out HB.out) | (with_reducible refine Kd.C_alloc ?_ _) | (with_reducible refine Kd.C_drewN ?_ _) | (with_reducible refine Kd.C_drew ?_))); (case side2 => exact HC1.out); rintro e w42 ⟨v707, rfl, ho0, hb⟩; refine ⟨_, rfl, ?_⟩; have n0_ := Aside0.mk (Kd.S_lower ho0 (below_size (by repeat (first | (with_reducible first | exact HB.out | apply below_alloc | apply pw_below_drewN | apply below_drew1) | exact HB.out)))); have n1_ := Aside0.mk (below_step (by repeat (first | (with_reducible first | exact HB.out | apply below_alloc | apply pw_below_drewN | apply below_drew1) | exact HB.out)) hb); clear HB; have HO708 := n0_; have HB := n1_; clear n0_ n1_; (try clear hb); (try clear hb2); (try clear hk); (try clear hi); (try clear ho0); obtain ⟨Ao43, co43, eo43⟩ := Kd.S_slice HO708.out; subst eo43) | ((with_reducible refine gate_callee (f := 13) rfl ?_); refine goesL_ (some 23) rfl rfl Tryd.func13 (by kernel_rfl) rfl #[.slice Ao43 t706.length co43] rfl (by (try simp only [List.map_toArray, List.map_cons, List.map_nil]); first | done | rfl | (simp only [List.length_drop, List.length_take]; rfl)) ?_; (with_reducible refine (arboristref08_Graph.calls k _ _ t706 t709 _ ?side1 ?side2 A7.out).mono ?_); (case side1 => repeat (first | exact (Kd.S_reads' HO708.out).2.2 | (with_reducible refine Kd.C_alloc ?_ _) | (with_reducible refine Kd.C_drewN ?_ _) | (with_reducible refine Kd.C_drew ?_))); (case side2 => exact (Kd.S_reads' HO708.out).2.1); rintro e w44 ⟨v710, rfl, ho0, hb⟩; refine ⟨_, rfl, ?_⟩; have n0_ := Aside0.mk (Kd.S_below (by (with_reducible repeat (first | apply Kd.S_alloc | apply Kd.S_drewN | apply Kd.S_drew)); exact HO708.out) hb); have n1_ := Aside0.mk (Kd.R_lower ho0 (below_size (by repeat (first | (with_reducible first | exact HB.out | apply below_alloc | apply pw_below_drewN | apply below_drew1) | exact HB.out)))); have n2_ := Aside0.mk (below_step (by repeat (first | (with_reducible first | exact HB.out | apply below_alloc | apply pw_below_drewN | apply below_drew1) | exact HB.out)) hb); clear HO708; clear HB; have HO708 := n0_; have HO711 := n1_; have HB := n2_; clear n0_ n1_ n2_; (try clear hb); (try clear hb2); (try clear hk); (try clear hi); (try clear ho0)) | ((with_reducible refine gate_callee (f := 14) rfl ?_); refine goesL_ (some 27) rfl rfl Tryd.func14 (by kernel_rfl) rfl #[.int .i64 (t706.length : Int), .slice A2 l2.length c2] rfl (by (try simp only [List.map_toArray, List.map_cons, List.map_nil]); first | done | rfl | (simp only [List.length_drop, List.length_take]; rfl)) ?_; (with_reducible refine (arboristlaw11_given.calls k (t706.length : Int) _ _ l2 t712 _ ?side1 ?side2 A8.out).mono ?_); (case side1 => repeat (first | exact (Kd.C_below HR2.out HB.out) | (with_reducible refine Kd.C_alloc ?_ _) | (with_reducible refine Kd.C_drewN ?_ _) | (with_reducible refine Kd.C_drew ?_))); (case side2 => exact HC2.out); rintro e w45 ⟨v713, rfl, ho0, hb⟩; refine ⟨_, rfl, ?_⟩; have n0_ := Aside0.mk (Kd.S_below (by (with_reducible repeat (first | apply Kd.S_alloc | apply Kd.S_drewN | apply Kd.S_drew)); exact HO708.out) hb); have n1_ := Aside0.mk (Kd.R_below (by (with_reducible repeat (first | apply Kd.R_alloc | apply Kd.R_drewN | apply Kd.R_drew)); exact HO711.out) hb); have n2_ := Aside0.mk (Kd.R_lower ho0 (below_size (by repeat (first | (with_reducible first | exact HB.out | apply below_alloc | apply pw_below_drewN | apply below_drew1) | exact HB.out)))); have n3_ := Aside0.mk (below_step (by repeat (first | (with_reducible first | exact HB.out | apply below_alloc | apply pw_below_drewN | apply below_drew1) | exact HB.out)) hb); clear HO708; clear HO711; clear HB; have HO708 := n0_; have HO711 := n1_; have HO714 := n2_; have HB := n3_; clear n0_ n1_ n2_ n3_; (try clear hb); (try clear hb2); (try clear hk); (try clear hi); (try clear ho0); obtain ⟨Ao46, co46, eo46⟩ := Kd.R_slice HO711.out; subst eo46; obtain ⟨Ao47, co47, eo47⟩ := Kd.R_slice HO714.out; subst eo47) | ((with_reducible refine gate_callee (f := 12) rfl ?_); refine goesL_ (some 28) rfl rfl Tryd.func12 (by kernel_rfl) rfl #[.agg #[.slice Ao46 t709.length co46], .slice Ao47 t712.length co47] rfl (by (try simp only [List.map_toArray, List.map_cons, List.map_nil]); first | done | rfl | (simp only [List.length_drop, List.length_take]; rfl)) ?_; (with_reducible refine (decomp_Build.calls (hTb := (by first | exact HTAB.out | exact tab_drewN HTAB.out _ | exact tab_below HTAB.out (by repeat (first | (with_reducible first | exact HB.out | apply below_alloc | apply pw_below_drewN | apply below_drew1 | refine below_set ?_ GE722.out) | exact HB.out)))) _ _ t709 _ _ t712 t715 t718 t721 _ ?side1 ?side2 ?side3 ?side4 A9.out).mono ?_); (case side1 => repeat (first | exact (Kd.R_reads' HO711.out).2.2 | (with_reducible refine Kd.C_alloc ?_ _) | (with_reducible refine Kd.C_drewN ?_ _) | (with_reducible refine Kd.C_drew ?_))); (case side2 => exact (Kd.R_reads' HO711.out).2.1); (case side3 => repeat (first | exact (Kd.R_reads' HO714.out).2.2 | (with_reducible refine Kd.C_alloc ?_ _) | (with_reducible refine Kd.C_drewN ?_ _) | (with_reducible refine Kd.C_drew ?_))); (case side4 => exact (Kd.R_reads' HO714.out).2.1); rintro e w48 ⟨v716, v719, rfl, ho0, ho1, hb⟩; refine ⟨_, rfl, ?_⟩; have n0_ := Aside0.mk (Kd.S_below (by (with_reducible repeat (first | apply Kd.S_alloc | apply Kd.S_drewN | apply Kd.S_drew)); exact HO708.out) hb); have n1_ := Aside0.mk (Kd.R_below (by (with_reducible repeat (first | apply Kd.R_alloc | apply Kd.R_drewN | apply Kd.R_drew)); exact HO711.out) hb); have n2_ := Aside0.mk (Kd.R_elder' (by (with_reducible repeat (first | apply Kd.R_alloc | apply Kd.R_drewN | apply Kd.R_drew)); exact HO714.out) (Kd.R_base ho1) hb); have n3_ := Aside0.mk (Kd.S_lower (Kd.S_new' ho0 (Kd.R_lt (by (with_reducible repeat (first | apply Kd.R_alloc | apply Kd.R_drewN | apply Kd.R_drew)); exact HO714.out))) (below_size (by repeat (first | (with_reducible first | exact HB.out | apply below_alloc | apply pw_below_drewN | apply below_drew1) | exact HB.out)))); have n4_ := Aside0.mk (Kd.R_lower (Kd.R_new' ho1 (Kd.R_lt (by (with_reducible repeat (first | apply Kd.R_alloc | apply Kd.R_drewN | apply Kd.R_drew)); exact HO714.out))) (below_size (by repeat (first | (with_reducible first | exact HB.out | apply below_alloc | apply pw_below_drewN | apply below_drew1) | exact HB.out)))); have n5_ := Aside0.mk (below_step (by repeat (first | (with_reducible first | exact HB.out | apply below_alloc | apply pw_below_drewN | apply below_drew1) | exact HB.out)) hb); clear HO708; clear HO711; clear HO714; clear HB; have HO708 := n0_; have HO711 := n1_; have HO714 := n2_; have HO717 := n3_; have HO720 := n4_; have HB := n5_; clear n0_ n1_ n2_ n3_ n4_ n5_; (try clear hb); (try clear hb2); (try clear hk); (try clear hi); (try clear ho0); (try clear ho1)) | ((with_reducible refine gate_dst (N := 11) rfl ?_); refine box_event ?hg (N := 11) ?hd (cs := #[.slice none 0 0, .slice none 0 0]) (t := 28) ?hr ?_; (case hd => rfl); (case hg => rfl); (case hr => first | (go_simp; done) | (go_simp; rfl)); intro gb722 hg w49 hbox hb; have n0_ := Aside0.mk (Kd.S_below (by (with_reducible repeat (first | apply Kd.S_alloc | apply Kd.S_drewN | apply Kd.S_drew)); exact HO708.out) hb); have n1_ := Aside0.mk (Kd.R_below (by (with_reducible repeat (first | apply Kd.R_alloc | apply Kd.R_drewN | apply Kd.R_drew)); exact HO711.out) hb); have n2_ := Aside0.mk (Kd.R_below (by (with_reducible repeat (first | apply Kd.R_alloc | apply Kd.R_drewN | apply Kd.R_drew)); exact HO714.out) hb); have n3_ := Aside0.mk (Kd.S_below (by (with_reducible repeat (first | apply Kd.S_alloc | apply Kd.S_drewN | apply Kd.S_drew)); exact HO717.out) hb); have n4_ := Aside0.mk (Kd.R_below (by (with_reducible repeat (first | apply Kd.R_alloc | apply Kd.R_drewN | apply Kd.R_drew)); exact HO720.out) hb); have n5_ := Aside0.mk (below_step (by repeat (first | (with_reducible first | exact HB.out | apply below_alloc | apply pw_below_drewN | apply below_drew1) | exact HB.out)) hb); have n6_ := Aside0.mk (hbox); have n7_ := Aside0.mk ((by rw [hg]; exact (below_size (by repeat (first | (with_reducible first | exact HB.out | apply below_alloc | apply pw_below_drewN | apply below_drew1) | exact HB.out))) : w.heap.size ≤ gb722)); have n8_ := Aside0.mk ((by rw [hg]; exact (below_size (by repeat (first | (with_reducible first | exact HB.out | apply below_alloc | apply pw_below_drewN | apply below_drew1) | exact HB.out))) : w.heap.size ≤ gb722)); clear HO708; clear HO711; clear HO714; clear HO717; clear HO720; clear HB; have HO708 := n0_; have HO711 := n1_; have HO714 := n2_; have HO717 := n3_; have HO720 := n4_; have HB := n5_; have BK722 := n6_; have GW722 := n7_; have GE722 := n8_; clear n0_ n1_ n2_ n3_ n4_ n5_ n6_ n7_ n8_; clear hb hbox hg; obtain ⟨Ao50, co50, eo50⟩ := Kd.S_slice HO717.out; subst eo50; have hcz51_0 : w49.cell? ⟨gb722, 0, none⟩ = some (.slice none 0 0) := (blk_cell BK722.out 0).trans rfl; have hcz51_1 : w49.cell? ⟨gb722, 1, none⟩ = some (.slice none 0 0) := (blk_cell BK722.out 1).trans rfl; have hfz51_0 := blk_frozen BK722.out 0; have hfz51_1 := blk_frozen BK722.out 1; obtain ⟨Ao52, co52, eo52⟩ := Kd.R_slice HO720.out; subst eo52; obtain ⟨i053, hi053, _, hsz53, _⟩ := info_parts info3; obtain ⟨hcut53, hA53, hC53⟩ := print_take_of (P := Tryd.prog) (Value.int .i64) 0 23 3 .i64 Tryd.underlying23 hi053 hsz53 A3 c3 l3 (ji10) (of_decide_eq_true (by first | (with_reducible assumption) | assumption)) (of_decide_eq_true (by first | (with_reducible assumption) | assumption)) HC3.out; have HR723 := Aside0.mk (Kd.C_of_reads (h1 := fun _ => rfl) (hA53 _ (Kd.reads_of_C HR3.out))); have HC723 := Aside0.mk hC53; clear hA53 hC53 hi053 hsz53) | ((with_reducible refine gate_callee (f := 23) rfl ?_); refine goesL_ (some 38) rfl rfl Tryd.func23 (by kernel_rfl) rfl #[.slice Ao43 t706.length co43, .slice A3 (l3.take ((ji10) : Int).toNat).length c3] rfl (by (try simp only [List.map_toArray, List.map_cons, List.map_nil]); first | done | (rw [show (l3.take ((ji10) : Int).toNat).length = (ji10).toNat from (by rw [List.length_take]; have h_ : ((ji10) : Int) ≤ (l3.length : Int) := (by first | exact of_decide_eq_true (by first | (with_reducible assumption) | assumption) | (have h9_ := hji10_; split at h9_ <;> omega)); omega)] <;> rfl) | (simp only [hji10]; rfl) | rfl | (simp only [List.length_drop, List.length_take]; rfl)) ?_; (with_reducible refine (arboristref08_Clique.calls k _ _ t706 _ _ (l3.take ((ji10) : Int).toNat) false _ ?side1 ?side2 ?side3 ?side4 A13.out).mono ?_); (case side1 => refine (Kd.S_reads' (e := 40) (base := w.heap.size) (ok := fun k_ => True) (n := t706.length) (c := co43) ?_).2.2; exact (by (with_reducible repeat (first | apply Kd.S_alloc | apply Kd.S_drewN | apply Kd.S_drew)); exact (Kd.S_mono (Kd.S_far (p := ⟨gb722, 1, none⟩) (Kd.S_far (p := ⟨gb722, 0, none⟩) (Kd.S_types HO708.out BK722.out (by decide)) (fun _ hk => hk.2) (.slice Ao50 t715.length co50)) (fun _ hk => hk.2) (.slice Ao52 t718.length co52)) (fun _ h_ => h_.1)))); (case side2 => exact (Kd.S_reads' HO708.out).2.1); (case side3 => exact Kd.C_below HR723.out (by repeat (first | (with_reducible first | exact HB.out | apply below_alloc | apply pw_below_drewN | apply below_drew1 | refine below_set ?_ GE722.out) | exact HB.out))); (case side4 => exact HC723.out); rintro e w' ⟨rfl, ⟨nd, rfl⟩⟩; refine ⟨_, rfl, ?_⟩))
          go_ret
          exact ⟨by first | rfl | (simp [errW_none, errW_some] <;> rfl) | (simp only [← hji10]; first | rfl | (simp [errW_none, errW_some] <;> rfl)) | (simp [*, errW_none, errW_some] <;> rfl), by repeat (first | (with_reducible first | exact HB.out | apply below_alloc | apply pw_below_drewN | apply below_drew1 | refine below_set ?_ GE722.out) | exact HB.out)⟩
      · rw [if_neg c14] at H
        have c14b0 : (t721 == 0) = false := beq_eq_false_iff_ne.mpr c14
        have c14b1 : (t721 != 0) = true := bne_iff_ne.mpr c14
        exact absurd ((Option.some.inj H).trans HT_.out) (by decide)
    · rw [if_neg c12] at H
      exact absurd H (by simp)
  · rw [if_neg c11] at H
    exact absurd H (by simp)

/-- THE ONE PURE STATEMENT of arboristlaw11_DecompCliques. -/
def arboristlaw11_DecompCliques.Pure : Prop := ∀ (a0 : Int) (l1 : List (List Int)) (l2 : List Int) (l3 : List Int), (Lit.int .i64 a0).wf = true → (l1.length ≤ maxLen ∧ ∀ z0 ∈ l1, (z0.length ≤ maxLen ∧ ∀ z1 ∈ z0, (Lit.int .i64 z1).wf = true)) → (l2.length ≤ maxLen ∧ ∀ z0 ∈ l2, (Lit.int .i64 z0).wf = true) → (l3.length ≤ maxLen ∧ ∀ z0 ∈ l3, (Lit.int .i64 z0).wf = true) → ∃ k, arboristlaw11_DecompCliques.f k a0 l1 l2 l3 = some true

end Go.Proofs.YtbdlelojlnhhfaaDoor.Pr
