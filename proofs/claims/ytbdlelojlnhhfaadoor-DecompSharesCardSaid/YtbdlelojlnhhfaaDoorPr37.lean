-- Printed by a program of this session's own (wip/tools/pp.py) over the kit's print.py; Lean checks it.
import Derived.Test.YtbdlelojlnhhfaaDoorPr1
import Derived.Test.YtbdlelojlnhhfaaDoorPr0
import Derived.Test.YtbdlelojlnhhfaaDoorPr29
import Derived.Test.YtbdlelojlnhhfaaDoorPr32
import Derived.Test.YtbdlelojlnhhfaaDoorPr35
import Derived.Test.YtbdlelojlnhhfaaDoorPr36
namespace Go.Proofs.YtbdlelojlnhhfaaDoor.Pr
open Go.RowKit Go.Proofs.YtbdlelojlnhhfaaDoorW.PrintWords Go.Proofs.YtbdlelojlnhhfaaDoorW.PrintLast Go.Proofs.YtbdlelojlnhhfaaDoorW.PrintMore
attribute [local go_sem] max2_int min2_int max_two min_two max_three min_three max_four min_four   -- for this text's walks alone
set_option linter.unusedVariables false
set_option linter.unusedSimpArgs false

/-! ### arboristlaw11_DecompShares: function 3 -/
mutual
def arboristlaw11_DecompShares.j0 : Nat → Bool → Bool → List (List Int) → List Int → Option (Bool)
  | 0, _, _, _, _ => none
  | k + 1, x7, x37, x391000, x391001 => if x37 = true then (some false) else (arboristlaw11_DecompShares.l0 k x7 1 x391000 x391001)
def arboristlaw11_DecompShares.l0 : Nat → Bool → Int → List (List Int) → List Int → Option (Bool)
  | 0, _, _, _, _ => none
  | k + 1, x7, x11, x391000, x391001 => if x11 < (x391000.length : Int) then (if 0 ≤ x11 then (if x11 < (x391001.length : Int) then (if (rd x391001 x11) < 0 then (arboristlaw11_DecompShares.j2 k x7 x11 (rd x391001 x11) true x391000 x391001) else (if (rd x391001 x11) ≥ (x391000.length : Int) then (arboristlaw11_DecompShares.j2 k x7 x11 (rd x391001 x11) true x391000 x391001) else (arboristlaw11_DecompShares.j2 k x7 x11 (rd x391001 x11) ((rd x391001 x11) == x11) x391000 x391001))) else (none)) else (none)) else (if x7 = true then (if (x391001.length : Int) = 0 then (some true) else (if 0 < (x391001.length : Int) then (some ((rd x391001 0) == (-1))) else (none))) else (some false))
def arboristlaw11_DecompShares.j2 : Nat → Bool → Int → Int → Bool → List (List Int) → List Int → Option (Bool)
  | 0, _, _, _, _, _, _ => none
  | k + 1, x7, x11, x12, x63, x391000, x391001 => if x63 = true then (some false) else (if 0 ≤ x11 then (if x11 < (x391000.length : Int) then (if 0 ≤ x12 then (if x12 < (x391000.length : Int) then ((arboristref01_Meet.f k (rd_L1 x391000 x11) (rd_L1 x391000 x12)).bind fun t395 => (if 0 < (x391000.length : Int) then ((arboristref01_Meet.f k (rd_L1 x391000 x11) (rd_L1 x391000 0)).bind fun t400 => (if (t395.length : Int) < (t400.length : Int) then (some false) else (arboristlaw11_DecompShares.l0 k x7 (wrap64 (x11 + 1)) x391000 x391001))) else (none))) else (none)) else (none)) else (none)) else (none))
end
def arboristlaw11_DecompShares.f (k : Nat) (a0 : Int) (l1 : List (List Int)) (l2 : List Int) : Option (Bool) := (arboristlaw11_shown.f).bind fun t373 => ((arboristlaw11_made.f k a0 l1).bind fun t374 => ((arboristref08_Graph.f k t374).bind fun t377 => ((arboristlaw11_given.f k (t374.length : Int) l2).bind fun t380 => ((decomp_Build.f t377 t380).bind fun bt383 => (if bt383.2.2 = 0 then (arboristlaw11_DecompShares.j0 k t373 ((bt383.2.1.length : Int) != (bt383.1.length : Int)) bt383.1 bt383.2.1) else (arboristlaw11_DecompShares.j0 k t373 true bt383.1 bt383.2.1))))))
theorem arboristlaw11_DecompShares.mono_l : ∀ k, (∀ y0 y1 y2 y3, LeO (arboristlaw11_DecompShares.j0 k y0 y1 y2 y3) (arboristlaw11_DecompShares.j0 (k + 1) y0 y1 y2 y3)) ∧ (∀ y0 y1 y2 y3, LeO (arboristlaw11_DecompShares.l0 k y0 y1 y2 y3) (arboristlaw11_DecompShares.l0 (k + 1) y0 y1 y2 y3)) ∧ (∀ y0 y1 y2 y3 y4 y5, LeO (arboristlaw11_DecompShares.j2 k y0 y1 y2 y3 y4 y5) (arboristlaw11_DecompShares.j2 (k + 1) y0 y1 y2 y3 y4 y5))
  | 0 => ⟨fun _ _ _ _ r h => by simp [arboristlaw11_DecompShares.j0] at h, fun _ _ _ _ r h => by simp [arboristlaw11_DecompShares.l0] at h, fun _ _ _ _ _ _ r h => by simp [arboristlaw11_DecompShares.j2] at h⟩
  | k + 1 => by
    obtain ⟨ih0, ih1, ih2⟩ := arboristlaw11_DecompShares.mono_l k
    refine ⟨?_, ?_, ?_⟩
    all_goals intros
    all_goals (first | unfold arboristlaw11_DecompShares.j0 | unfold arboristlaw11_DecompShares.l0 | unfold arboristlaw11_DecompShares.j2)
    all_goals repeat' first
    | (with_reducible exact ih0 _ _ _ _)
    | (with_reducible exact ih1 _ _ _ _)
    | (with_reducible exact ih2 _ _ _ _ _ _)
    | (with_reducible exact arboristlaw11_given.mono _ _ _)
    | (with_reducible exact arboristlaw11_made.mono _ _ _)
    | (with_reducible exact arboristref01_Meet.mono _ _ _)
    | (with_reducible exact arboristref08_Graph.mono _ _)
    | (with_reducible exact LeO.refl _)
    | (with_reducible exact LeO.none _)
    | (with_reducible refine LeO.ite ?_ ?_)
    | (with_reducible refine LeO.bind ?_ (fun _ => ?_))
    | exact ih0 _ _ _ _
    | exact ih1 _ _ _ _
    | exact ih2 _ _ _ _ _ _
    | exact arboristlaw11_given.mono _ _ _
    | exact arboristlaw11_made.mono _ _ _
    | exact arboristref01_Meet.mono _ _ _
    | exact arboristref08_Graph.mono _ _
    | exact LeO.none _
    | refine LeO.ite ?_ ?_
    | refine LeO.bind ?_ (fun _ => ?_)
theorem arboristlaw11_DecompShares.mono : ∀ a0 a1 a2 k, LeO (arboristlaw11_DecompShares.f k a0 a1 a2) (arboristlaw11_DecompShares.f (k + 1) a0 a1 a2) := by
  intro a0 a1 a2 k
  obtain ⟨ih0, ih1, ih2⟩ := arboristlaw11_DecompShares.mono_l k
  unfold arboristlaw11_DecompShares.f
  repeat' first
      | (with_reducible exact ih0 _ _ _ _)
      | (with_reducible exact ih1 _ _ _ _)
      | (with_reducible exact ih2 _ _ _ _ _ _)
      | (with_reducible exact arboristlaw11_given.mono _ _ _)
      | (with_reducible exact arboristlaw11_made.mono _ _ _)
      | (with_reducible exact arboristref01_Meet.mono _ _ _)
      | (with_reducible exact arboristref08_Graph.mono _ _)
      | (with_reducible exact LeO.refl _)
      | (with_reducible exact LeO.none _)
      | (with_reducible refine LeO.ite ?_ ?_)
      | (with_reducible refine LeO.bind ?_ (fun _ => ?_))
      | exact ih0 _ _ _ _
      | exact ih1 _ _ _ _
      | exact ih2 _ _ _ _ _ _
      | exact arboristlaw11_given.mono _ _ _
      | exact arboristlaw11_made.mono _ _ _
      | exact arboristref01_Meet.mono _ _ _
      | exact arboristref08_Graph.mono _ _
      | exact LeO.none _
      | refine LeO.ite ?_ ?_
      | refine LeO.bind ?_ (fun _ => ?_)
def arboristlaw11_DecompShares.T12 : Bool × List (List Nat × List Nat) := (true, [([], []), ([0], [0]), ([], []), ([1, 2], [1, 2]), ([3], [3]), ([], []), ([5], [5]), ([], []), ([6, 7], [6, 7]), ([8], [8]), ([4, 9], [4, 9]), ([10], [10]), ([], []), ([12], [12]), ([], []), ([13, 14], [13, 14]), ([15], [15]), ([], []), ([17], [17]), ([18], [18]), ([19], [19]), ([16, 20, 10], [16, 20]), ([21], [21]), ([11, 22], [11, 22])])
def arboristlaw11_DecompShares.B12 : List Nat := [0, 1, 0, 7, 15, 0, 32, 0, 224, 480, 1023, 2047, 0, 4096, 0, 28672, 61440, 0, 131072, 393216, 917504, 2095103, 4192255, 8388607]
theorem arboristlaw11_DecompShares.tab12 : rtab .any (opsOf Tryd.f3 12) = arboristlaw11_DecompShares.T12 := by kernel_rfl
theorem arboristlaw11_DecompShares.bits12 : waitsOk arboristlaw11_DecompShares.T12.2 arboristlaw11_DecompShares.B12 = true := by kernel_rfl
set_option maxHeartbeats 8000000 in
set_option maxRecDepth 100000 in
theorem arboristlaw11_DecompShares.calls (k : Nat) (a0 : Int) (A1 : Option Addr) (c1 : Nat) (l1 : List (List Int)) (A2 : Option Addr) (c2 : Nat) (l2 : List Int) (r : Bool) (w : World) (hTb : Tab64 w) (hr1 : Kd.C (Kd.slice 3 (Kd.int .i64)) w A1 l1.length l1) (hc1 : l1.length ≤ c1) (hr2 : Kd.C (Kd.int .i64) w A2 l2.length l2) (hc2 : l2.length ≤ c2) (hT : r = true) (h : arboristlaw11_DecompShares.f k a0 l1 l2 = some r) :
    Calls Tryd.prog 3 #[.int .i64 a0, .slice A1 l1.length c1, .slice A2 l2.length c2] w fun e w' => e = .returned (.bool r) ∧ Below w.heap.size w w' := by
  have HTAB := Aside0.mk hTb
  clear hTb
  have HTR_ := Aside0.mk (show r = true from hT)
  clear hT
  have hu28 := Tryd.underlying28
  have HR1 := Aside0.mk hr1
  have HC1 := Aside0.mk hc1
  clear hr1 hc1
  have HR2 := Aside0.mk hr2
  have HC2 := Aside0.mk hc2
  clear hr2 hc2
  have HB := Aside0.mk (Below.refl w.heap.size w)
  have H : ((arboristlaw11_shown.f).bind fun t373 => ((arboristlaw11_made.f k a0 l1).bind fun t374 => ((arboristref08_Graph.f k t374).bind fun t377 => ((arboristlaw11_given.f k (t374.length : Int) l2).bind fun t380 => ((decomp_Build.f t377 t380).bind fun bt383 => (if bt383.2.2 = 0 then (arboristlaw11_DecompShares.j0 k t373 ((bt383.2.1.length : Int) != (bt383.1.length : Int)) bt383.1 bt383.2.1) else (arboristlaw11_DecompShares.j0 k t373 true bt383.1 bt383.2.1))))))) = some r := h
  clear h
  replace H := Option.bind_eq_some_iff.mp H
  obtain ⟨t373, A40, H⟩ := H
  replace H : ((arboristlaw11_made.f k a0 l1).bind fun t374 => ((arboristref08_Graph.f k t374).bind fun t377 => ((arboristlaw11_given.f k (t374.length : Int) l2).bind fun t380 => ((decomp_Build.f t377 t380).bind fun bt383 => (if bt383.2.2 = 0 then (arboristlaw11_DecompShares.j0 k t373 ((bt383.2.1.length : Int) != (bt383.1.length : Int)) bt383.1 bt383.2.1) else (arboristlaw11_DecompShares.j0 k t373 true bt383.1 bt383.2.1)))))) = some r := H
  have A4 := Aside0.mk A40
  clear A40
  replace H := Option.bind_eq_some_iff.mp H
  obtain ⟨t374, A50, H⟩ := H
  replace H : ((arboristref08_Graph.f k t374).bind fun t377 => ((arboristlaw11_given.f k (t374.length : Int) l2).bind fun t380 => ((decomp_Build.f t377 t380).bind fun bt383 => (if bt383.2.2 = 0 then (arboristlaw11_DecompShares.j0 k t373 ((bt383.2.1.length : Int) != (bt383.1.length : Int)) bt383.1 bt383.2.1) else (arboristlaw11_DecompShares.j0 k t373 true bt383.1 bt383.2.1))))) = some r := H
  have A5 := Aside0.mk A50
  clear A50
  replace H := Option.bind_eq_some_iff.mp H
  obtain ⟨t377, A60, H⟩ := H
  replace H : ((arboristlaw11_given.f k (t374.length : Int) l2).bind fun t380 => ((decomp_Build.f t377 t380).bind fun bt383 => (if bt383.2.2 = 0 then (arboristlaw11_DecompShares.j0 k t373 ((bt383.2.1.length : Int) != (bt383.1.length : Int)) bt383.1 bt383.2.1) else (arboristlaw11_DecompShares.j0 k t373 true bt383.1 bt383.2.1)))) = some r := H
  have A6 := Aside0.mk A60
  clear A60
  replace H := Option.bind_eq_some_iff.mp H
  obtain ⟨t380, A70, H⟩ := H
  replace H : ((decomp_Build.f t377 t380).bind fun bt383 => (if bt383.2.2 = 0 then (arboristlaw11_DecompShares.j0 k t373 ((bt383.2.1.length : Int) != (bt383.1.length : Int)) bt383.1 bt383.2.1) else (arboristlaw11_DecompShares.j0 k t373 true bt383.1 bt383.2.1))) = some r := H
  have A7 := Aside0.mk A70
  clear A70
  replace H := Option.bind_eq_some_iff.mp H
  obtain ⟨⟨t383, t386, t389⟩, A80, H⟩ := H
  replace H : (if t389 = 0 then (arboristlaw11_DecompShares.j0 k t373 ((t386.length : Int) != (t383.length : Int)) t383 t386) else (arboristlaw11_DecompShares.j0 k t373 true t383 t386)) = some r := H
  have A8 := Aside0.mk A80
  clear A80
  have HC9 := Aside0.mk H
  clear H
  go_enter Tryd.func3, Tryd.ntmps3
  go_upto_region 4 with (first | ((with_reducible refine gate_callee (f := 10) rfl ?_); refine goesL_ (some 13) rfl rfl Tryd.func10 (by kernel_rfl) rfl #[] rfl (by (try simp only [List.map_toArray, List.map_cons, List.map_nil]); first | done | rfl | (simp only [List.length_drop, List.length_take]; rfl)) ?_; (with_reducible refine (arboristlaw11_shown.calls (hTb := (by first | exact HTAB.out | exact tab_drewN HTAB.out _ | exact tab_below HTAB.out (by repeat (first | (with_reducible first | exact HB.out | apply below_alloc | apply pw_below_drewN | apply below_drew1 | refine below_set ?_ GE390.out) | exact HB.out))))  t373 _ A4.out).mono ?_); rintro e w10 ⟨rfl, hb⟩; refine ⟨_, rfl, ?_⟩; have n0_ := Aside0.mk (below_step (by repeat (first | (with_reducible first | exact HB.out | apply below_alloc | apply pw_below_drewN | apply below_drew1) | exact HB.out)) hb); clear HB; have HB := n0_; clear n0_; (try clear hb); (try clear hb2); (try clear hk); (try clear hi)) | ((with_reducible refine gate_callee (f := 11) rfl ?_); refine goesL_ (some 16) rfl rfl Tryd.func11 (by kernel_rfl) rfl #[.int .i64 a0, .slice A1 l1.length c1] rfl (by (try simp only [List.map_toArray, List.map_cons, List.map_nil]); first | done | rfl | (simp only [List.length_drop, List.length_take]; rfl)) ?_; (with_reducible refine (arboristlaw11_made.calls k a0 _ _ l1 t374 _ ?side1 ?side2 A5.out).mono ?_); (case side1 => repeat (first | exact (Kd.C_below HR1.out HB.out) | (with_reducible refine Kd.C_alloc ?_ _) | (with_reducible refine Kd.C_drewN ?_ _) | (with_reducible refine Kd.C_drew ?_))); (case side2 => exact HC1.out); rintro e w11 ⟨v375, rfl, ho0, hb⟩; refine ⟨_, rfl, ?_⟩; have n0_ := Aside0.mk (Kd.S_lower ho0 (below_size (by repeat (first | (with_reducible first | exact HB.out | apply below_alloc | apply pw_below_drewN | apply below_drew1) | exact HB.out)))); have n1_ := Aside0.mk (below_step (by repeat (first | (with_reducible first | exact HB.out | apply below_alloc | apply pw_below_drewN | apply below_drew1) | exact HB.out)) hb); clear HB; have HO376 := n0_; have HB := n1_; clear n0_ n1_; (try clear hb); (try clear hb2); (try clear hk); (try clear hi); (try clear ho0); obtain ⟨Ao12, co12, eo12⟩ := Kd.S_slice HO376.out; subst eo12) | ((with_reducible refine gate_callee (f := 13) rfl ?_); refine goesL_ (some 19) rfl rfl Tryd.func13 (by kernel_rfl) rfl #[.slice Ao12 t374.length co12] rfl (by (try simp only [List.map_toArray, List.map_cons, List.map_nil]); first | done | rfl | (simp only [List.length_drop, List.length_take]; rfl)) ?_; (with_reducible refine (arboristref08_Graph.calls k _ _ t374 t377 _ ?side1 ?side2 A6.out).mono ?_); (case side1 => repeat (first | exact (Kd.S_reads' HO376.out).2.2 | (with_reducible refine Kd.C_alloc ?_ _) | (with_reducible refine Kd.C_drewN ?_ _) | (with_reducible refine Kd.C_drew ?_))); (case side2 => exact (Kd.S_reads' HO376.out).2.1); rintro e w13 ⟨v378, rfl, ho0, hb⟩; refine ⟨_, rfl, ?_⟩; have n0_ := Aside0.mk (Kd.S_below (by (with_reducible repeat (first | apply Kd.S_alloc | apply Kd.S_drewN | apply Kd.S_drew)); exact HO376.out) hb); have n1_ := Aside0.mk (Kd.R_lower ho0 (below_size (by repeat (first | (with_reducible first | exact HB.out | apply below_alloc | apply pw_below_drewN | apply below_drew1) | exact HB.out)))); have n2_ := Aside0.mk (below_step (by repeat (first | (with_reducible first | exact HB.out | apply below_alloc | apply pw_below_drewN | apply below_drew1) | exact HB.out)) hb); clear HO376; clear HB; have HO376 := n0_; have HO379 := n1_; have HB := n2_; clear n0_ n1_ n2_; (try clear hb); (try clear hb2); (try clear hk); (try clear hi); (try clear ho0)) | ((with_reducible refine gate_callee (f := 14) rfl ?_); refine goesL_ (some 23) rfl rfl Tryd.func14 (by kernel_rfl) rfl #[.int .i64 (t374.length : Int), .slice A2 l2.length c2] rfl (by (try simp only [List.map_toArray, List.map_cons, List.map_nil]); first | done | rfl | (simp only [List.length_drop, List.length_take]; rfl)) ?_; (with_reducible refine (arboristlaw11_given.calls k (t374.length : Int) _ _ l2 t380 _ ?side1 ?side2 A7.out).mono ?_); (case side1 => repeat (first | exact (Kd.C_below HR2.out HB.out) | (with_reducible refine Kd.C_alloc ?_ _) | (with_reducible refine Kd.C_drewN ?_ _) | (with_reducible refine Kd.C_drew ?_))); (case side2 => exact HC2.out); rintro e w14 ⟨v381, rfl, ho0, hb⟩; refine ⟨_, rfl, ?_⟩; have n0_ := Aside0.mk (Kd.S_below (by (with_reducible repeat (first | apply Kd.S_alloc | apply Kd.S_drewN | apply Kd.S_drew)); exact HO376.out) hb); have n1_ := Aside0.mk (Kd.R_below (by (with_reducible repeat (first | apply Kd.R_alloc | apply Kd.R_drewN | apply Kd.R_drew)); exact HO379.out) hb); have n2_ := Aside0.mk (Kd.R_lower ho0 (below_size (by repeat (first | (with_reducible first | exact HB.out | apply below_alloc | apply pw_below_drewN | apply below_drew1) | exact HB.out)))); have n3_ := Aside0.mk (below_step (by repeat (first | (with_reducible first | exact HB.out | apply below_alloc | apply pw_below_drewN | apply below_drew1) | exact HB.out)) hb); clear HO376; clear HO379; clear HB; have HO376 := n0_; have HO379 := n1_; have HO382 := n2_; have HB := n3_; clear n0_ n1_ n2_ n3_; (try clear hb); (try clear hb2); (try clear hk); (try clear hi); (try clear ho0); obtain ⟨Ao15, co15, eo15⟩ := Kd.R_slice HO379.out; subst eo15; obtain ⟨Ao16, co16, eo16⟩ := Kd.R_slice HO382.out; subst eo16) | ((with_reducible refine gate_callee (f := 12) rfl ?_); refine goesL_ (some 24) rfl rfl Tryd.func12 (by kernel_rfl) rfl #[.agg #[.slice Ao15 t377.length co15], .slice Ao16 t380.length co16] rfl (by (try simp only [List.map_toArray, List.map_cons, List.map_nil]); first | done | rfl | (simp only [List.length_drop, List.length_take]; rfl)) ?_; (with_reducible refine (decomp_Build.calls (hTb := (by first | exact HTAB.out | exact tab_drewN HTAB.out _ | exact tab_below HTAB.out (by repeat (first | (with_reducible first | exact HB.out | apply below_alloc | apply pw_below_drewN | apply below_drew1 | refine below_set ?_ GE390.out) | exact HB.out)))) _ _ t377 _ _ t380 t383 t386 t389 _ ?side1 ?side2 ?side3 ?side4 A8.out).mono ?_); (case side1 => repeat (first | exact (Kd.R_reads' HO379.out).2.2 | (with_reducible refine Kd.C_alloc ?_ _) | (with_reducible refine Kd.C_drewN ?_ _) | (with_reducible refine Kd.C_drew ?_))); (case side2 => exact (Kd.R_reads' HO379.out).2.1); (case side3 => repeat (first | exact (Kd.R_reads' HO382.out).2.2 | (with_reducible refine Kd.C_alloc ?_ _) | (with_reducible refine Kd.C_drewN ?_ _) | (with_reducible refine Kd.C_drew ?_))); (case side4 => exact (Kd.R_reads' HO382.out).2.1); rintro e w17 ⟨v384, v387, rfl, ho0, ho1, hb⟩; refine ⟨_, rfl, ?_⟩; have n0_ := Aside0.mk (Kd.S_below (by (with_reducible repeat (first | apply Kd.S_alloc | apply Kd.S_drewN | apply Kd.S_drew)); exact HO376.out) hb); have n1_ := Aside0.mk (Kd.R_below (by (with_reducible repeat (first | apply Kd.R_alloc | apply Kd.R_drewN | apply Kd.R_drew)); exact HO379.out) hb); have n2_ := Aside0.mk (Kd.R_elder' (by (with_reducible repeat (first | apply Kd.R_alloc | apply Kd.R_drewN | apply Kd.R_drew)); exact HO382.out) (Kd.R_base ho1) hb); have n3_ := Aside0.mk (Kd.S_lower (Kd.S_new' ho0 (Kd.R_lt (by (with_reducible repeat (first | apply Kd.R_alloc | apply Kd.R_drewN | apply Kd.R_drew)); exact HO382.out))) (below_size (by repeat (first | (with_reducible first | exact HB.out | apply below_alloc | apply pw_below_drewN | apply below_drew1) | exact HB.out)))); have n4_ := Aside0.mk (Kd.R_lower (Kd.R_new' ho1 (Kd.R_lt (by (with_reducible repeat (first | apply Kd.R_alloc | apply Kd.R_drewN | apply Kd.R_drew)); exact HO382.out))) (below_size (by repeat (first | (with_reducible first | exact HB.out | apply below_alloc | apply pw_below_drewN | apply below_drew1) | exact HB.out)))); have n5_ := Aside0.mk (below_step (by repeat (first | (with_reducible first | exact HB.out | apply below_alloc | apply pw_below_drewN | apply below_drew1) | exact HB.out)) hb); clear HO376; clear HO379; clear HO382; clear HB; have HO376 := n0_; have HO379 := n1_; have HO382 := n2_; have HO385 := n3_; have HO388 := n4_; have HB := n5_; clear n0_ n1_ n2_ n3_ n4_ n5_; (try clear hb); (try clear hb2); (try clear hk); (try clear hi); (try clear ho0); (try clear ho1)) | ((with_reducible refine gate_dst (N := 9) rfl ?_); (try (refine gate_guard (by rfl) ?_; dsimp only)); refine box_event ?hg (N := 9) ?hd (cs := #[.slice none 0 0, .slice none 0 0]) (t := 28) ?hr ?_; (case hd => rfl); (case hg => rfl); (case hr => first | (go_simp; done) | (go_simp; rfl)); intro gb390 hg w18 hbox hb; have n0_ := Aside0.mk (Kd.S_below (by (with_reducible repeat (first | apply Kd.S_alloc | apply Kd.S_drewN | apply Kd.S_drew)); exact HO376.out) hb); have n1_ := Aside0.mk (Kd.R_below (by (with_reducible repeat (first | apply Kd.R_alloc | apply Kd.R_drewN | apply Kd.R_drew)); exact HO379.out) hb); have n2_ := Aside0.mk (Kd.R_below (by (with_reducible repeat (first | apply Kd.R_alloc | apply Kd.R_drewN | apply Kd.R_drew)); exact HO382.out) hb); have n3_ := Aside0.mk (Kd.S_below (by (with_reducible repeat (first | apply Kd.S_alloc | apply Kd.S_drewN | apply Kd.S_drew)); exact HO385.out) hb); have n4_ := Aside0.mk (Kd.R_below (by (with_reducible repeat (first | apply Kd.R_alloc | apply Kd.R_drewN | apply Kd.R_drew)); exact HO388.out) hb); have n5_ := Aside0.mk (below_step (by repeat (first | (with_reducible first | exact HB.out | apply below_alloc | apply pw_below_drewN | apply below_drew1) | exact HB.out)) hb); have n6_ := Aside0.mk (hbox); have n7_ := Aside0.mk ((by rw [hg]; exact (below_size (by repeat (first | (with_reducible first | exact HB.out | apply below_alloc | apply pw_below_drewN | apply below_drew1) | exact HB.out))) : w.heap.size ≤ gb390)); have n8_ := Aside0.mk ((by rw [hg]; exact (below_size (by repeat (first | (with_reducible first | exact HB.out | apply below_alloc | apply pw_below_drewN | apply below_drew1) | exact HB.out))) : w.heap.size ≤ gb390)); clear HO376; clear HO379; clear HO382; clear HO385; clear HO388; clear HB; have HO376 := n0_; have HO379 := n1_; have HO382 := n2_; have HO385 := n3_; have HO388 := n4_; have HB := n5_; have BK390 := n6_; have GW390 := n7_; have GE390 := n8_; clear n0_ n1_ n2_ n3_ n4_ n5_ n6_ n7_ n8_; clear hb hbox hg; obtain ⟨Ao19, co19, eo19⟩ := Kd.S_slice HO385.out; subst eo19; have hcz20_0 : w18.cell? ⟨gb390, 0, none⟩ = some (.slice none 0 0) := (blk_cell BK390.out 0).trans rfl; have hcz20_1 : w18.cell? ⟨gb390, 1, none⟩ = some (.slice none 0 0) := (blk_cell BK390.out 1).trans rfl; have hfz20_0 := blk_frozen BK390.out 0; have hfz20_1 := blk_frozen BK390.out 1; obtain ⟨Ao21, co21, eo21⟩ := Kd.R_slice HO388.out; subst eo21))
  (try simp only [Act.put, List.setIfInBounds_toArray, List.set_cons_zero, List.set_cons_succ])
  go_cut [37] (fun v37 wc => ∃ (kq : Nat) (x37_8 : Bool), v37 = .bool x37_8 ∧ Aside0 (arboristlaw11_DecompShares.j0 kq t373 x37_8 t383 t386 = some r) ∧ Aside0 (kq ≤ k) ∧ Aside0 (Kd.S (Kd.slice 3 (Kd.int .i64)) 23 wc w.heap.size (fun k_ => some k_ ≠ ((.slice Ao21 t386.length co21) : Value).ownBlock) (.slice Ao19 t383.length co19) t383) ∧ Aside0 (Kd.R (Kd.int .i64) 3 wc w.heap.size (fun _ => True) (.slice Ao21 t386.length co21) t386) ∧ Aside0 (wc.heap[gb390]? = some (.cells #[(.slice Ao19 t383.length co19), (.slice Ao21 t386.length co21)] 28 (0, 0))) ∧ Aside0 (Below w.heap.size w wc))
  case first =>
    have H := HC9.out
    clear HC9
    by_cases c22 : t389 = 0
    · rw [if_pos c22] at H
      have c22b0 : (t389 == 0) = true := beq_iff_eq.mpr c22
      have c22b1 : (t389 != 0) = false := bne_eq_false_iff_eq.mpr c22
      clear c22
      (first | rw [c22b0] | (simp only [i64_w, i32_w]; rw [c22b0]) | skip)
      have H' := Aside0.mk H
      clear H
      have hcz23_0 : w18.cell? ⟨gb390, 0, none⟩ = some (.slice none 0 0) := (blk_cell BK390.out 0).trans rfl
      have hcz23_1 : w18.cell? ⟨gb390, 1, none⟩ = some (.slice none 0 0) := (blk_cell BK390.out 1).trans rfl
      have hfz23_0 := blk_frozen BK390.out 0
      have hfz23_1 := blk_frozen BK390.out 1
      go_wp2
      go_meet
      case rel => exact ⟨_, (((t386.length : Int) != (t383.length : Int))), (by first | rfl | (simp; done) | (simp [*]; done)), H', ⟨by first | omega | exact Nat.le_refl _⟩, ⟨by (with_reducible repeat (first | apply Kd.S_alloc | apply Kd.S_drewN | apply Kd.S_drew)); exact Kd.S_mono (Kd.S_far (p := ⟨gb390, 1, none⟩) (Kd.S_far (p := ⟨gb390, 0, none⟩) (Kd.S_types HO385.out BK390.out (by decide)) (fun _ hk => hk.2) (.slice Ao19 t383.length co19)) (fun _ hk => hk.2) (.slice Ao21 t386.length co21)) (fun _ hk => hk.1.1)⟩, ⟨by (with_reducible repeat (first | apply Kd.R_alloc | apply Kd.R_drewN | apply Kd.R_drew)); exact Kd.R_mono (Kd.R_far (p := ⟨gb390, 1, none⟩) (Kd.R_far (p := ⟨gb390, 0, none⟩) (Kd.R_types HO388.out BK390.out (by decide)) (fun _ hk => hk.2) (.slice Ao19 t383.length co19)) (fun _ hk => hk.2) (.slice Ao21 t386.length co21)) (fun _ hk => trivial)⟩, ⟨by (with_reducible repeat (first | refine blk_drewN ?_ _ | refine blk_drew ?_ | refine blk_alloc ?_ _)); refine blk_put (cs := #[.slice Ao19 t383.length co19, .slice none 0 0]) ?_ 1 _ rfl; (with_reducible repeat (first | refine blk_drewN ?_ _ | refine blk_drew ?_ | refine blk_alloc ?_ _)); refine blk_put (cs := #[.slice none 0 0, .slice none 0 0]) ?_ 0 _ rfl; (with_reducible repeat (first | refine blk_drewN ?_ _ | refine blk_drew ?_ | refine blk_alloc ?_ _)); exact BK390.out⟩, ⟨by repeat (first | (with_reducible first | exact HB.out | apply below_alloc | apply pw_below_drewN | apply below_drew1 | refine below_set ?_ GE390.out) | exact HB.out)⟩⟩
    · rw [if_neg c22] at H
      have c22b0 : (t389 == 0) = false := beq_eq_false_iff_ne.mpr c22
      have c22b1 : (t389 != 0) = true := bne_iff_ne.mpr c22
      (first | rw [c22b0] | (simp only [i64_w, i32_w]; rw [c22b0]) | skip)
      have H' := Aside0.mk H
      clear H
      go_wp2
      go_meet
      case rel => exact ⟨_, (true), (by first | rfl | (simp; done) | (simp [*]; done)), H', ⟨by first | omega | exact Nat.le_refl _⟩, ⟨by (with_reducible repeat (first | apply Kd.S_alloc | apply Kd.S_drewN | apply Kd.S_drew)); exact Kd.S_mono (Kd.S_far (p := ⟨gb390, 1, none⟩) (Kd.S_far (p := ⟨gb390, 0, none⟩) (Kd.S_types HO385.out BK390.out (by decide)) (fun _ hk => hk.2) (.slice Ao19 t383.length co19)) (fun _ hk => hk.2) (.slice Ao21 t386.length co21)) (fun _ hk => hk.1.1)⟩, ⟨by (with_reducible repeat (first | apply Kd.R_alloc | apply Kd.R_drewN | apply Kd.R_drew)); exact Kd.R_mono (Kd.R_far (p := ⟨gb390, 1, none⟩) (Kd.R_far (p := ⟨gb390, 0, none⟩) (Kd.R_types HO388.out BK390.out (by decide)) (fun _ hk => hk.2) (.slice Ao19 t383.length co19)) (fun _ hk => hk.2) (.slice Ao21 t386.length co21)) (fun _ hk => trivial)⟩, ⟨by (with_reducible repeat (first | refine blk_drewN ?_ _ | refine blk_drew ?_ | refine blk_alloc ?_ _)); refine blk_put (cs := #[.slice Ao19 t383.length co19, .slice none 0 0]) ?_ 1 _ rfl; (with_reducible repeat (first | refine blk_drewN ?_ _ | refine blk_drew ?_ | refine blk_alloc ?_ _)); refine blk_put (cs := #[.slice none 0 0, .slice none 0 0]) ?_ 0 _ rfl; (with_reducible repeat (first | refine blk_drewN ?_ _ | refine blk_drew ?_ | refine blk_alloc ?_ _)); exact BK390.out⟩, ⟨by repeat (first | (with_reducible first | exact HB.out | apply below_alloc | apply pw_below_drewN | apply below_drew1 | refine below_set ?_ GE390.out) | exact HB.out)⟩⟩
  case rest =>
    clear HC9
    try clear c1
    try clear c2
    try clear p2
    try clear c3
    try clear c10
    try clear c11
    try clear c12
    try clear c13
    try clear c14
    try clear c22
    try clear c22b0
    try clear c22b1
    try clear hcz20_0
    try clear hcz20_1
    try clear hcz23_0
    try clear hcz23_1
    try clear hfz20_0
    try clear hfz20_1
    try clear hfz23_0
    try clear hfz23_1
    obtain ⟨kq, x37_8, rfl, HA, HJ8, HO_391000, HO_391001, BK390, HB⟩ := hcut
    cases kq with
    | zero => exact absurd HA.out (by simp [arboristlaw11_DecompShares.j0])
    | succ kj8 =>
      have H := HA.out
      clear HA
      simp only [arboristlaw11_DecompShares.j0] at H
      by_cases c24 : x37_8 = true
      · subst c24
        have H1 : (some false) = some r := by rw [if_pos rfl] at H; exact H
        clear H
        have H := H1
        clear H1
        exact absurd ((Option.some.inj H).trans HTR_.out) (by decide)
      · replace c24 := Bool.eq_false_iff.mpr c24
        subst c24
        have H1 : (arboristlaw11_DecompShares.l0 kj8 t373 1 t383 t386) = some r := by rw [if_neg (show ¬ (false = true) by decide)] at H; exact H
        clear H
        have H := H1
        clear H1
        have H' := Aside0.mk H
        clear H
        go_wp2
        go_loopg [11] kj8 (fun kq v11 w' => ∃ (x11_2 : Int), v11 = .int .i64 x11_2 ∧ Aside0 (arboristlaw11_DecompShares.l0 kq t373 x11_2 t383 t386 = some r) ∧ Aside0 (kq ≤ kj8) ∧ Aside0 (Kd.S (Kd.slice 3 (Kd.int .i64)) 23 w' w.heap.size (fun k_ => some k_ ≠ ((.slice Ao21 t386.length co21) : Value).ownBlock) (.slice Ao19 t383.length co19) t383) ∧ Aside0 (Kd.R (Kd.int .i64) 3 w' w.heap.size (fun _ => True) (.slice Ao21 t386.length co21) t386) ∧ Aside0 (w'.heap[gb390]? = some (.cells #[(.slice Ao19 t383.length co19), (.slice Ao21 t386.length co21)] 28 (0, 0))) ∧ Aside0 (Below w.heap.size w w'))
        case atStart => exact ⟨(1), (by first | rfl | (simp; done) | (simp [*]; done)), H', ⟨Nat.le_refl _⟩, ⟨by (with_reducible repeat (first | apply Kd.S_alloc | apply Kd.S_drewN | apply Kd.S_drew)); exact HO_391000.out⟩, ⟨by (with_reducible repeat (first | apply Kd.R_alloc | apply Kd.R_drewN | apply Kd.R_drew)); exact HO_391001.out⟩, ⟨by (with_reducible repeat (first | refine blk_drewN ?_ _ | refine blk_drew ?_ | refine blk_alloc ?_ _)); exact BK390.out⟩, ⟨by repeat (first | (with_reducible first | exact HB.out | apply below_alloc | apply pw_below_drewN | apply below_drew1 | refine below_set ?_ GE390.out) | exact HB.out)⟩⟩
        case round =>
          clear H'
          try clear c1
          try clear c2
          try clear p2
          try clear c3
          try clear c10
          try clear c11
          try clear c12
          try clear c13
          try clear c14
          try clear c22
          try clear c22b0
          try clear c22b1
          try clear c24
          try clear hcz20_0
          try clear hcz20_1
          try clear hcz23_0
          try clear hcz23_1
          try clear hfz20_0
          try clear hfz20_1
          try clear hfz23_0
          try clear hfz23_1
          try clear p2
          obtain ⟨x11_2, rfl, HA, HK2, HO_391000, HO_391001, BK390, HB⟩ := hrel
          cases gk with
          | zero => exact absurd HA.out (by simp [arboristlaw11_DecompShares.l0])
          | succ k2 =>
            have H := HA.out
            clear HA
            simp only [arboristlaw11_DecompShares.l0] at H
            by_cases c25 : x11_2 < (t383.length : Int)
            · rw [if_pos c25] at H
              have c25b0 : decide (x11_2 < (t383.length : Int)) = true := decide_eq_true c25
              clear c25
              by_cases c26 : 0 ≤ x11_2
              · rw [if_pos c26] at H
                have c26b0 : decide (0 ≤ x11_2) = true := decide_eq_true c26
                clear c26
                by_cases c27 : x11_2 < (t386.length : Int)
                · rw [if_pos c27] at H
                  have c27b0 : decide (x11_2 < (t386.length : Int)) = true := decide_eq_true c27
                  clear c27
                  have HC28 := Aside0.mk H
                  clear H
                  have hcz29_0 : wr.cell? ⟨gb390, 0, none⟩ = some (.slice Ao19 t383.length co19) := (blk_cell BK390.out 0).trans rfl
                  have hcz29_1 : wr.cell? ⟨gb390, 1, none⟩ = some (.slice Ao21 t386.length co21) := (blk_cell BK390.out 1).trans rfl
                  have hfz29_0 := blk_frozen BK390.out 0
                  have hfz29_1 := blk_frozen BK390.out 1
                  have p392 : 0 ≤ (x11_2 : Int) := of_decide_eq_true (by first | (with_reducible assumption) | assumption)
                  have q392 : x11_2 < (t386.length : Int) := of_decide_eq_true (by first | (with_reducible assumption) | assumption)
                  obtain ⟨ad392, e392, hx392_0⟩ := Kd.at_int (Kd.R_reads' HO_391001.out).2.2 x11_2 p392 q392
                  cases e392
                  replace p392 := eq_true p392
                  replace q392 := eq_true q392
                  go_upto_region 10 with (fail)
                  go_cut [63] (fun v63 wc => ∃ (kq : Nat) (x63_27 : Bool), v63 = .bool x63_27 ∧ Aside0 (arboristlaw11_DecompShares.j2 kq t373 x11_2 (rd t386 x11_2) x63_27 t383 t386 = some r) ∧ Aside0 (kq ≤ k2) ∧ Aside0 (Kd.S (Kd.slice 3 (Kd.int .i64)) 23 wc w.heap.size (fun k_ => some k_ ≠ ((.slice (some ad392) t386.length co21) : Value).ownBlock) (.slice Ao19 t383.length co19) t383) ∧ Aside0 (Kd.R (Kd.int .i64) 3 wc w.heap.size (fun _ => True) (.slice (some ad392) t386.length co21) t386) ∧ Aside0 (wc.heap[gb390]? = some (.cells #[(.slice Ao19 t383.length co19), (.slice (some ad392) t386.length co21)] 28 (0, 0))) ∧ Aside0 (Below w.heap.size w wc))
                  case first =>
                    have H := HC28.out
                    clear HC28
                    by_cases c30 : (rd t386 x11_2) < 0
                    · rw [if_pos c30] at H
                      have c30b0 : decide ((rd t386 x11_2) < 0) = true := decide_eq_true c30
                      clear c30
                      (first | rw [c30b0] | (simp only [i64_w, i32_w]; rw [c30b0]) | skip)
                      have H' := Aside0.mk H
                      clear H
                      go_wp2
                      go_meet
                      case rel => exact ⟨_, (true), (by first | rfl | (simp; done) | (simp [*]; done)), H', ⟨by have := HJ8.out; have := HK2.out; first | omega | exact Nat.le_refl _⟩, ⟨by (with_reducible repeat (first | apply Kd.S_alloc | apply Kd.S_drewN | apply Kd.S_drew)); exact HO_391000.out⟩, ⟨by (with_reducible repeat (first | apply Kd.R_alloc | apply Kd.R_drewN | apply Kd.R_drew)); exact HO_391001.out⟩, ⟨by (with_reducible repeat (first | refine blk_drewN ?_ _ | refine blk_drew ?_ | refine blk_alloc ?_ _)); exact BK390.out⟩, ⟨by repeat (first | (with_reducible first | exact HB.out | apply below_alloc | apply pw_below_drewN | apply below_drew1 | refine below_set ?_ GE390.out) | exact HB.out)⟩⟩
                    · rw [if_neg c30] at H
                      have c30b0 : decide ((rd t386 x11_2) < 0) = false := decide_eq_false c30
                      clear c30
                      (first | rw [c30b0] | (simp only [i64_w, i32_w]; rw [c30b0]) | skip)
                      by_cases c31 : (rd t386 x11_2) ≥ (t383.length : Int)
                      · rw [if_pos c31] at H
                        have c31b0 : decide ((t383.length : Int) ≤ (rd t386 x11_2)) = true := decide_eq_true c31
                        clear c31
                        have H' := Aside0.mk H
                        clear H
                        have hcz32_0 : wr.cell? ⟨gb390, 0, none⟩ = some (.slice Ao19 t383.length co19) := (blk_cell BK390.out 0).trans rfl
                        have hcz32_1 : wr.cell? ⟨gb390, 1, none⟩ = some (.slice (some ad392) t386.length co21) := (blk_cell BK390.out 1).trans rfl
                        have hfz32_0 := blk_frozen BK390.out 0
                        have hfz32_1 := blk_frozen BK390.out 1
                        go_wp2
                        go_meet
                        case rel => exact ⟨_, (true), (by first | rfl | (simp; done) | (simp [*]; done)), H', ⟨by have := HJ8.out; have := HK2.out; first | omega | exact Nat.le_refl _⟩, ⟨by (with_reducible repeat (first | apply Kd.S_alloc | apply Kd.S_drewN | apply Kd.S_drew)); exact HO_391000.out⟩, ⟨by (with_reducible repeat (first | apply Kd.R_alloc | apply Kd.R_drewN | apply Kd.R_drew)); exact HO_391001.out⟩, ⟨by (with_reducible repeat (first | refine blk_drewN ?_ _ | refine blk_drew ?_ | refine blk_alloc ?_ _)); exact BK390.out⟩, ⟨by repeat (first | (with_reducible first | exact HB.out | apply below_alloc | apply pw_below_drewN | apply below_drew1 | refine below_set ?_ GE390.out) | exact HB.out)⟩⟩
                      · rw [if_neg c31] at H
                        have c31b0 : decide ((t383.length : Int) ≤ (rd t386 x11_2)) = false := decide_eq_false c31
                        clear c31
                        have H' := Aside0.mk H
                        clear H
                        have hcz33_0 : wr.cell? ⟨gb390, 0, none⟩ = some (.slice Ao19 t383.length co19) := (blk_cell BK390.out 0).trans rfl
                        have hcz33_1 : wr.cell? ⟨gb390, 1, none⟩ = some (.slice (some ad392) t386.length co21) := (blk_cell BK390.out 1).trans rfl
                        have hfz33_0 := blk_frozen BK390.out 0
                        have hfz33_1 := blk_frozen BK390.out 1
                        go_wp2
                        go_meet
                        case rel => exact ⟨_, (((rd t386 x11_2) == x11_2)), (by first | rfl | (simp; done) | (simp [*]; done)), H', ⟨by have := HJ8.out; have := HK2.out; first | omega | exact Nat.le_refl _⟩, ⟨by (with_reducible repeat (first | apply Kd.S_alloc | apply Kd.S_drewN | apply Kd.S_drew)); exact HO_391000.out⟩, ⟨by (with_reducible repeat (first | apply Kd.R_alloc | apply Kd.R_drewN | apply Kd.R_drew)); exact HO_391001.out⟩, ⟨by (with_reducible repeat (first | refine blk_drewN ?_ _ | refine blk_drew ?_ | refine blk_alloc ?_ _)); exact BK390.out⟩, ⟨by repeat (first | (with_reducible first | exact HB.out | apply below_alloc | apply pw_below_drewN | apply below_drew1 | refine below_set ?_ GE390.out) | exact HB.out)⟩⟩
                  case rest =>
                    clear HC28
                    try clear c1
                    try clear c2
                    try clear p2
                    try clear c3
                    try clear p3
                    try clear q3
                    try clear hx3
                    try clear c10
                    try clear c11
                    try clear c12
                    try clear c13
                    try clear c14
                    try clear c22
                    try clear c22b0
                    try clear c22b1
                    try clear c24
                    try clear c25
                    try clear c25b0
                    try clear c26
                    try clear c26b0
                    try clear c27
                    try clear c27b0
                    try clear c30
                    try clear c30b0
                    try clear c31
                    try clear c31b0
                    try clear hcz20_0
                    try clear hcz20_1
                    try clear hcz23_0
                    try clear hcz23_1
                    try clear hcz29_0
                    try clear hcz29_1
                    try clear hcz32_0
                    try clear hcz32_1
                    try clear hcz33_0
                    try clear hcz33_1
                    try clear hfz20_0
                    try clear hfz20_1
                    try clear hfz23_0
                    try clear hfz23_1
                    try clear hfz29_0
                    try clear hfz29_1
                    try clear hfz32_0
                    try clear hfz32_1
                    try clear hfz33_0
                    try clear hfz33_1
                    try clear hx392_0
                    try clear p2
                    try clear p392
                    try clear q392
                    obtain ⟨kq, x63_27, rfl, HA, HJ27, HO_391000, HO_391001, BK390, HB⟩ := hcut
                    cases kq with
                    | zero => exact absurd HA.out (by simp [arboristlaw11_DecompShares.j2])
                    | succ kj27 =>
                      have H := HA.out
                      clear HA
                      simp only [arboristlaw11_DecompShares.j2] at H
                      by_cases c34 : x63_27 = true
                      · subst c34
                        have H1 : (some false) = some r := by rw [if_pos rfl] at H; exact H
                        clear H
                        have H := H1
                        clear H1
                        exact absurd ((Option.some.inj H).trans HTR_.out) (by decide)
                      · replace c34 := Bool.eq_false_iff.mpr c34
                        subst c34
                        have H1 : (if 0 ≤ x11_2 then (if x11_2 < (t383.length : Int) then (if 0 ≤ (rd t386 x11_2) then (if (rd t386 x11_2) < (t383.length : Int) then ((arboristref01_Meet.f kj27 (rd_L1 t383 x11_2) (rd_L1 t383 (rd t386 x11_2))).bind fun t395 => (if 0 < (t383.length : Int) then ((arboristref01_Meet.f kj27 (rd_L1 t383 x11_2) (rd_L1 t383 0)).bind fun t400 => (if (t395.length : Int) < (t400.length : Int) then (some false) else (arboristlaw11_DecompShares.l0 kj27 t373 (wrap64 (x11_2 + 1)) t383 t386))) else (none))) else (none)) else (none)) else (none)) else (none)) = some r := by rw [if_neg (show ¬ (false = true) by decide)] at H; exact H
                        clear H
                        have H := H1
                        clear H1
                        by_cases c35 : 0 ≤ x11_2
                        · rw [if_pos c35] at H
                          have c35b0 : decide (0 ≤ x11_2) = true := decide_eq_true c35
                          clear c35
                          by_cases c36 : x11_2 < (t383.length : Int)
                          · rw [if_pos c36] at H
                            have c36b0 : decide (x11_2 < (t383.length : Int)) = true := decide_eq_true c36
                            clear c36
                            by_cases c37 : 0 ≤ (rd t386 x11_2)
                            · rw [if_pos c37] at H
                              have c37b0 : decide (0 ≤ (rd t386 x11_2)) = true := decide_eq_true c37
                              clear c37
                              by_cases c38 : (rd t386 x11_2) < (t383.length : Int)
                              · rw [if_pos c38] at H
                                have c38b0 : decide ((rd t386 x11_2) < (t383.length : Int)) = true := decide_eq_true c38
                                clear c38
                                replace H := Option.bind_eq_some_iff.mp H
                                obtain ⟨t395, A390, H⟩ := H
                                replace H : (if 0 < (t383.length : Int) then ((arboristref01_Meet.f kj27 (rd_L1 t383 x11_2) (rd_L1 t383 0)).bind fun t400 => (if (t395.length : Int) < (t400.length : Int) then (some false) else (arboristlaw11_DecompShares.l0 kj27 t373 (wrap64 (x11_2 + 1)) t383 t386))) else (none)) = some r := H
                                have A39 := Aside0.mk A390
                                clear A390
                                by_cases c40 : 0 < (t383.length : Int)
                                · rw [if_pos c40] at H
                                  have c40b0 : decide (0 < (t383.length : Int)) = true := decide_eq_true c40
                                  have c40b1 : decide (0 < t383.length) = true := decide_eq_true (by omega)
                                  clear c40
                                  replace H := Option.bind_eq_some_iff.mp H
                                  obtain ⟨t400, A410, H⟩ := H
                                  replace H : (if (t395.length : Int) < (t400.length : Int) then (some false) else (arboristlaw11_DecompShares.l0 kj27 t373 (wrap64 (x11_2 + 1)) t383 t386)) = some r := H
                                  have A41 := Aside0.mk A410
                                  clear A410
                                  by_cases c42 : (t395.length : Int) < (t400.length : Int)
                                  · rw [if_pos c42] at H
                                    have c42b0 : decide ((t395.length : Int) < (t400.length : Int)) = true := decide_eq_true c42
                                    have c42b1 : decide (t395.length < t400.length) = true := decide_eq_true (Int.ofNat_lt.mp c42)
                                    clear c42
                                    exact absurd ((Option.some.inj H).trans HTR_.out) (by decide)
                                  · rw [if_neg c42] at H
                                    have c42b0 : decide ((t395.length : Int) < (t400.length : Int)) = false := decide_eq_false c42
                                    have c42b1 : decide (t395.length < t400.length) = false := decide_eq_false (fun h => c42 (Int.ofNat_lt.mpr h))
                                    clear c42
                                    have H' := Aside0.mk H
                                    clear H
                                    try go_wp2
                                    have n0_ := Aside0.mk (Kd.S_drew HO_391000.out)
                                    have n1_ := Aside0.mk (Kd.R_drew HO_391001.out)
                                    have n2_ := Aside0.mk (blk_drew BK390.out)
                                    have n3_ := Aside0.mk (below_drew1 HB.out)
                                    clear HO_391000
                                    clear HO_391001
                                    clear BK390
                                    clear HB
                                    have HO_391000 := n0_
                                    have HO_391001 := n1_
                                    have BK390 := n2_
                                    have HB := n3_
                                    clear n0_ n1_ n2_ n3_
                                    have p393 : 0 ≤ (x11_2 : Int) := of_decide_eq_true (by first | (with_reducible assumption) | assumption)
                                    have q393 : x11_2 < (t383.length : Int) := of_decide_eq_true (by first | (with_reducible assumption) | assumption)
                                    obtain ⟨ad393, A393_0, c393_0, e393, hx393_0, hl393_0, hi393_0⟩ := at_L1 (Kd.S_reads' HO_391000.out).2.2 x11_2 p393 q393
                                    cases e393
                                    obtain ⟨ce393, hce393, hMe393, hcc393⟩ := Kd.S_get HO_391000.out [] x11_2 p393 (by first | exact q393 | exact of_decide_eq_true (by first | (with_reducible assumption) | assumption) | (have e_ := (Kd.S_reads' HO_391000.out).1; omega))
                                    obtain ⟨ve393_0, rfl, ge393_0⟩ := hMe393
                                    have hv393_0 := hcc393 0 _ rfl
                                    rw [Nat.add_zero, show ((Kd.slice 3 (Kd.int .i64))).sz = 1 from rfl, Nat.mul_one] at hv393_0
                                    replace hv393_0 := Option.some.inj (hv393_0.symm.trans hx393_0)
                                    rw [hv393_0] at ge393_0
                                    have HL393_0 := Aside0.mk (show Kd.R (Kd.int .i64) 3 _ _ _ _ (rd_L1 t383 x11_2) from ge393_0)
                                    clear hv393_0 ge393_0
                                    clear hcc393 hce393
                                    have HR393_0 := Aside0.mk hi393_0
                                    have HC393_0 := Aside0.mk hl393_0
                                    clear hi393_0 hl393_0
                                    replace p393 := eq_true p393
                                    replace q393 := eq_true q393
                                    have p394 : 0 ≤ ((rd t386 x11_2) : Int) := of_decide_eq_true (by first | (with_reducible assumption) | assumption)
                                    have q394 : (rd t386 x11_2) < (t383.length : Int) := of_decide_eq_true (by first | (with_reducible assumption) | assumption)
                                    obtain ⟨ad394, A394_0, c394_0, e394, hx394_0, hl394_0, hi394_0⟩ := at_L1 (Kd.S_reads' HO_391000.out).2.2 (rd t386 x11_2) p394 q394
                                    obtain rfl : ad393 = ad394 := (by injection e394)
                                    obtain ⟨ce394, hce394, hMe394, hcc394⟩ := Kd.S_get HO_391000.out [] (rd t386 x11_2) p394 (by first | exact q394 | exact of_decide_eq_true (by first | (with_reducible assumption) | assumption) | (have e_ := (Kd.S_reads' HO_391000.out).1; omega))
                                    obtain ⟨ve394_0, rfl, ge394_0⟩ := hMe394
                                    have hv394_0 := hcc394 0 _ rfl
                                    rw [Nat.add_zero, show ((Kd.slice 3 (Kd.int .i64))).sz = 1 from rfl, Nat.mul_one] at hv394_0
                                    replace hv394_0 := Option.some.inj (hv394_0.symm.trans hx394_0)
                                    rw [hv394_0] at ge394_0
                                    have HL394_0 := Aside0.mk (show Kd.R (Kd.int .i64) 3 _ _ _ _ (rd_L1 t383 (rd t386 x11_2)) from ge394_0)
                                    clear hv394_0 ge394_0
                                    clear hcc394 hce394
                                    have HR394_0 := Aside0.mk hi394_0
                                    have HC394_0 := Aside0.mk hl394_0
                                    clear hi394_0 hl394_0
                                    replace p394 := eq_true p394
                                    replace q394 := eq_true q394
                                    have p398 : 0 ≤ (x11_2 : Int) := of_decide_eq_true (by first | (with_reducible assumption) | assumption)
                                    have q398 : x11_2 < (t383.length : Int) := of_decide_eq_true (by first | (with_reducible assumption) | assumption)
                                    obtain ⟨ad398, A398_0, c398_0, e398, hx398_0, hl398_0, hi398_0⟩ := at_L1 (Kd.S_reads' HO_391000.out).2.2 x11_2 p398 q398
                                    obtain rfl : ad393 = ad398 := (by injection e398)
                                    obtain ⟨ce398, hce398, hMe398, hcc398⟩ := Kd.S_get HO_391000.out [] x11_2 p398 (by first | exact q398 | exact of_decide_eq_true (by first | (with_reducible assumption) | assumption) | (have e_ := (Kd.S_reads' HO_391000.out).1; omega))
                                    obtain ⟨ve398_0, rfl, ge398_0⟩ := hMe398
                                    have hv398_0 := hcc398 0 _ rfl
                                    rw [Nat.add_zero, show ((Kd.slice 3 (Kd.int .i64))).sz = 1 from rfl, Nat.mul_one] at hv398_0
                                    replace hv398_0 := Option.some.inj (hv398_0.symm.trans hx398_0)
                                    rw [hv398_0] at ge398_0
                                    have HL398_0 := Aside0.mk (show Kd.R (Kd.int .i64) 3 _ _ _ _ (rd_L1 t383 x11_2) from ge398_0)
                                    clear hv398_0 ge398_0
                                    clear hcc398 hce398
                                    have HR398_0 := Aside0.mk hi398_0
                                    have HC398_0 := Aside0.mk hl398_0
                                    clear hi398_0 hl398_0
                                    replace p398 := eq_true p398
                                    replace q398 := eq_true q398
                                    have ea_ := Option.some.inj (hx393_0.symm.trans hx398_0)
                                    injection ea_ with ea_ en_ ec_
                                    subst ea_
                                    subst ec_
                                    clear en_
                                    have p399 : 0 ≤ (0 : Int) := (by omega)
                                    have q399 : 0 < (t383.length : Int) := of_decide_eq_true (by first | (with_reducible assumption) | assumption)
                                    obtain ⟨ad399, A399_0, c399_0, e399, hx399_0, hl399_0, hi399_0⟩ := at_L1 (Kd.S_reads' HO_391000.out).2.2 0 p399 q399
                                    obtain rfl : ad393 = ad399 := (by injection e399)
                                    obtain ⟨ce399, hce399, hMe399, hcc399⟩ := Kd.S_get HO_391000.out [] 0 p399 (by first | exact q399 | exact of_decide_eq_true (by first | (with_reducible assumption) | assumption) | (have e_ := (Kd.S_reads' HO_391000.out).1; omega))
                                    obtain ⟨ve399_0, rfl, ge399_0⟩ := hMe399
                                    have hv399_0 := hcc399 0 _ rfl
                                    rw [Nat.add_zero, show ((Kd.slice 3 (Kd.int .i64))).sz = 1 from rfl, Nat.mul_one] at hv399_0
                                    replace hv399_0 := Option.some.inj (hv399_0.symm.trans hx399_0)
                                    rw [hv399_0] at ge399_0
                                    have HL399_0 := Aside0.mk (show Kd.R (Kd.int .i64) 3 _ _ _ _ (rd_L1 t383 0) from ge399_0)
                                    clear hv399_0 ge399_0
                                    clear hcc399 hce399
                                    have qi399 : (0 < t383.length) = True := eq_true (by omega)
                                    (try rw [show ((0 : Int)).toNat = 0 from rfl] at hx399_0)
                                    (try rw [Addr.add_zero'] at hx399_0)
                                    have HR399_0 := Aside0.mk hi399_0
                                    have HC399_0 := Aside0.mk hl399_0
                                    clear hi399_0 hl399_0
                                    replace p399 := eq_true p399
                                    replace q399 := eq_true q399
                                    refine start_ (n := 24) (S := fun w' => w'.cell? ⟨gb390, 0, none⟩ = some (.slice (some ad393) t383.length co19) ∧ w'.cell? ⟨gb390, 1, none⟩ = some (.slice (some ad392) t386.length co21) ∧ w'.cell? (ad393.add (x11_2).toNat) = some (.slice A393_0 (rd_L1 t383 x11_2).length c393_0) ∧ w'.cell? (ad393.add ((rd t386 x11_2)).toNat) = some (.slice A394_0 (rd_L1 t383 (rd t386 x11_2)).length c394_0) ∧ w'.cell? (ad393.add (x11_2).toNat) = some (.slice A393_0 (rd_L1 t383 x11_2).length c393_0) ∧ w'.cell? ad393 = some (.slice A399_0 (rd_L1 t383 0).length c399_0)) (ds := []) (bs 24 0) (by kernel_rfl) rfl rfl ⟨(blk_cell BK390.out 0).trans rfl, (blk_cell BK390.out 1).trans rfl, hx393_0, hx394_0, hx398_0, hx399_0⟩ (fun hHeld => ?_); refine with_tabW arboristlaw11_DecompShares.tab12 arboristlaw11_DecompShares.bits12 (fun HT_ HW_ => ?_)
                                    generalize wc.drew = w43 at HO_391000 HO_391001 BK390 HB HL393_0 HL394_0 HL398_0 HL399_0 HR393_0 HR394_0 HR398_0 HR399_0 hx393_0 hx394_0 hx398_0 hx399_0 hHeld ⊢
                                    refine pure_ (i := 0) (N := some 64) (v := ?_) (a' := ?_) (bs 24 1) rfl rfl (any_of HT_.out (by kernel_rfl)) (fun _ _ _ h => h) (Or.inl ⟨by rfl, ?_⟩) ?_ ?_
                                    rotate_left; (intro w'; go_simp; with_reducible rfl); rotate_left; (simp only [Act.put, List.setIfInBounds_toArray, List.set_cons_zero, List.set_cons_succ, i64_w, i32_w]; rfl)
                                    refine pure_ (i := 2) (N := some 66) (v := ?_) (a' := ?_) (bs 24 5) rfl rfl (any_of HT_.out (by kernel_rfl)) (fun _ _ _ h => h) (Or.inl ⟨by rfl, ?_⟩) ?_ ?_
                                    rotate_left; (intro w'; go_simp; with_reducible rfl); rotate_left; (simp only [Act.put, List.setIfInBounds_toArray, List.set_cons_zero, List.set_cons_succ, i64_w, i32_w]; rfl)
                                    refine pure_ (i := 5) (N := some 69) (v := ?_) (a' := ?_) (bs 24 37) rfl rfl (any_of HT_.out (by kernel_rfl)) (fun _ _ _ h => h) (Or.inl ⟨by rfl, ?_⟩) ?_ ?_
                                    rotate_left; (intro w'; go_simp; with_reducible rfl); rotate_left; (simp only [Act.put, List.setIfInBounds_toArray, List.set_cons_zero, List.set_cons_succ, i64_w, i32_w]; rfl)
                                    refine pure_ (i := 7) (N := some 71) (v := ?_) (a' := ?_) (bs 24 165) rfl rfl (any_of HT_.out (by kernel_rfl)) (fun _ _ _ h => h) (Or.inl ⟨by rfl, ?_⟩) ?_ ?_
                                    rotate_left; (intro w'; go_simp; with_reducible rfl); rotate_left; (simp only [Act.put, List.setIfInBounds_toArray, List.set_cons_zero, List.set_cons_succ, i64_w, i32_w]; rfl)
                                    refine pure_ (i := 12) (N := some 76) (v := ?_) (a' := ?_) (bs 24 4261) rfl rfl (any_of HT_.out (by kernel_rfl)) (fun _ _ _ h => h) (Or.inl ⟨by rfl, ?_⟩) ?_ ?_
                                    rotate_left; (intro w'; go_simp; with_reducible rfl); rotate_left; (simp only [Act.put, List.setIfInBounds_toArray, List.set_cons_zero, List.set_cons_succ, i64_w, i32_w]; rfl)
                                    refine pure_ (i := 14) (N := some 78) (v := ?_) (a' := ?_) (bs 24 20645) rfl rfl (any_of HT_.out (by kernel_rfl)) (fun _ _ _ h => h) (Or.inl ⟨by rfl, ?_⟩) ?_ ?_
                                    rotate_left; (intro w'; go_simp; with_reducible rfl); rotate_left; (simp only [Act.put, List.setIfInBounds_toArray, List.set_cons_zero, List.set_cons_succ, i64_w, i32_w]; rfl)
                                    refine pure_ (i := 17) (N := some 81) (v := ?_) (a' := ?_) (bs 24 151717) rfl rfl (any_of HT_.out (by kernel_rfl)) (fun _ _ _ h => h) (Or.inl ⟨by rfl, ?_⟩) ?_ ?_
                                    rotate_left; (intro w'; go_simp; with_reducible rfl); rotate_left; (simp only [Act.put, List.setIfInBounds_toArray, List.set_cons_zero, List.set_cons_succ, i64_w, i32_w]; rfl)
                                    refine take_ (i := 1) (N := some 65) (v := ?_) (a' := ?_) (bs 24 151719) rfl rfl (take_ofW HT_.out HW_.out (by kernel_rfl)) (fun _ _ _ h => h) (Or.inl ⟨by rfl, ?_⟩) hHeld ?_ ?_
                                    rotate_left
                                    · rintro w' ⟨s0, s1, s2, s3, s4, s5⟩
                                      go_simp
                                      with_reducible rfl
                                    rotate_left; (simp only [Act.put, List.setIfInBounds_toArray, List.set_cons_zero, List.set_cons_succ, i64_w, i32_w]; rfl)
                                    refine pure_ (i := 3) (N := some 67) (v := ?_) (a' := ?_) (bs 24 151727) rfl rfl (any_of HT_.out (by kernel_rfl)) (fun _ _ _ h => h) (Or.inl ⟨by rfl, ?_⟩) ?_ ?_
                                    rotate_left; (intro w'; go_simp; with_reducible rfl); rotate_left; (simp only [Act.put, List.setIfInBounds_toArray, List.set_cons_zero, List.set_cons_succ, i64_w, i32_w]; rfl)
                                    refine take_ (i := 4) (N := some 68) (v := ?_) (a' := ?_) (bs 24 151743) rfl rfl (take_ofW HT_.out HW_.out (by kernel_rfl)) (fun _ _ _ h => h) (Or.inl ⟨by rfl, ?_⟩) hHeld ?_ ?_
                                    rotate_left
                                    · rintro w' ⟨s0, s1, s2, s3, s4, s5⟩
                                      go_simp
                                      with_reducible rfl
                                    rotate_left; (simp only [Act.put, List.setIfInBounds_toArray, List.set_cons_zero, List.set_cons_succ, i64_w, i32_w]; rfl)
                                    refine take_ (i := 6) (N := some 70) (v := ?_) (a' := ?_) (bs 24 151807) rfl rfl (take_ofW HT_.out HW_.out (by kernel_rfl)) (fun _ _ _ h => h) (Or.inl ⟨by rfl, ?_⟩) hHeld ?_ ?_
                                    rotate_left
                                    · rintro w' ⟨s0, s1, s2, s3, s4, s5⟩
                                      go_simp
                                      with_reducible rfl
                                    rotate_left; (simp only [Act.put, List.setIfInBounds_toArray, List.set_cons_zero, List.set_cons_succ, i64_w, i32_w]; rfl)
                                    refine pure_ (i := 8) (N := some 72) (v := ?_) (a' := ?_) (bs 24 152063) rfl rfl (any_of HT_.out (by kernel_rfl)) (fun _ _ _ h => h) (Or.inl ⟨by rfl, ?_⟩) ?_ ?_
                                    rotate_left; (intro w'; go_simp; with_reducible rfl); rotate_left; (simp only [Act.put, List.setIfInBounds_toArray, List.set_cons_zero, List.set_cons_succ, i64_w, i32_w]; rfl)
                                    refine take_ (i := 9) (N := some 73) (v := ?_) (a' := ?_) (bs 24 152575) rfl rfl (take_ofW HT_.out HW_.out (by kernel_rfl)) (fun _ _ _ h => h) (Or.inl ⟨by rfl, ?_⟩) hHeld ?_ ?_
                                    rotate_left
                                    · rintro w' ⟨s0, s1, s2, s3, s4, s5⟩
                                      go_simp
                                      with_reducible rfl
                                    rotate_left; (simp only [Act.put, List.setIfInBounds_toArray, List.set_cons_zero, List.set_cons_succ, i64_w, i32_w]; rfl)
                                    refine take_ (i := 13) (N := some 77) (v := ?_) (a' := ?_) (bs 24 160767) rfl rfl (take_ofW HT_.out HW_.out (by kernel_rfl)) (fun _ _ _ h => h) (Or.inl ⟨by rfl, ?_⟩) hHeld ?_ ?_
                                    rotate_left
                                    · rintro w' ⟨s0, s1, s2, s3, s4, s5⟩
                                      go_simp
                                      with_reducible rfl
                                    rotate_left; (simp only [Act.put, List.setIfInBounds_toArray, List.set_cons_zero, List.set_cons_succ, i64_w, i32_w]; rfl)
                                    refine pure_ (i := 15) (N := some 79) (v := ?_) (a' := ?_) (bs 24 193535) rfl rfl (any_of HT_.out (by kernel_rfl)) (fun _ _ _ h => h) (Or.inl ⟨by rfl, ?_⟩) ?_ ?_
                                    rotate_left; (intro w'; go_simp; with_reducible rfl); rotate_left; (simp only [Act.put, List.setIfInBounds_toArray, List.set_cons_zero, List.set_cons_succ, i64_w, i32_w]; rfl)
                                    refine take_ (i := 16) (N := some 80) (v := ?_) (a' := ?_) (bs 24 259071) rfl rfl (take_ofW HT_.out HW_.out (by kernel_rfl)) (fun _ _ _ h => h) (Or.inl ⟨by rfl, ?_⟩) hHeld ?_ ?_
                                    rotate_left
                                    · rintro w' ⟨s0, s1, s2, s3, s4, s5⟩
                                      go_simp
                                      with_reducible rfl
                                    rotate_left; (simp only [Act.put, List.setIfInBounds_toArray, List.set_cons_zero, List.set_cons_succ, i64_w, i32_w]; rfl)
                                    refine take_ (i := 18) (N := some 82) (v := ?_) (a' := ?_) (bs 24 521215) rfl rfl (take_ofW HT_.out HW_.out (by kernel_rfl)) (fun _ _ _ h => h) (Or.inl ⟨by rfl, ?_⟩) hHeld ?_ ?_
                                    rotate_left
                                    · rintro w' ⟨s0, s1, s2, s3, s4, s5⟩
                                      go_simp
                                      with_reducible rfl
                                    rotate_left; (simp only [Act.put, List.setIfInBounds_toArray, List.set_cons_zero, List.set_cons_succ, i64_w, i32_w]; rfl)
                                    refine pure_ (i := 19) (N := some 83) (v := ?_) (a' := ?_) (bs 24 1045503) rfl rfl (any_of HT_.out (by kernel_rfl)) (fun _ _ _ h => h) (Or.inl ⟨by rfl, ?_⟩) ?_ ?_
                                    rotate_left; (intro w'; go_simp; with_reducible rfl); rotate_left; (simp only [Act.put, List.setIfInBounds_toArray, List.set_cons_zero, List.set_cons_succ, i64_w, i32_w]; rfl)
                                    refine take_ (i := 20) (N := some 84) (v := ?_) (a' := ?_) (bs 24 2094079) rfl rfl (take_ofW HT_.out HW_.out (by kernel_rfl)) (fun _ _ _ h => h) (Or.inl ⟨by rfl, ?_⟩) hHeld ?_ ?_
                                    rotate_left
                                    · rintro w' ⟨s0, s1, s2, s3, s4, s5⟩
                                      go_simp
                                      with_reducible rfl
                                    rotate_left; (simp only [Act.put, List.setIfInBounds_toArray, List.set_cons_zero, List.set_cons_succ, i64_w, i32_w]; rfl)
                                    refine one_ (i := 10) (N := some 74) (bs 24 2095103) rfl rfl (one_of HT_.out (by kernel_rfl)) (by decide) (fun K hK => ?_)
                                    refine goes_ Tryd.func15 (by kernel_rfl) rfl #[.slice A393_0 (rd_L1 t383 x11_2).length c393_0, .slice A394_0 (rd_L1 t383 (rd t386 x11_2)).length c394_0] (by rfl) rfl rfl (by (try simp only [List.map_toArray, List.map_cons, List.map_nil]); first | done | rfl | (simp only [List.length_drop, List.length_take]; rfl)) ?_
                                    with_reducible refine (arboristref01_Meet.calls kj27 _ _ (rd_L1 t383 x11_2) _ _ (rd_L1 t383 (rd t386 x11_2)) t395 _ ?side1 ?side2 ?side3 ?side4 A39.out).mono ?_
                                    (case side1 => repeat (first | exact (by repeat (first | (with_reducible exact HR393_0.out) | (with_reducible refine Kd.C_alloc ?_ _) | (with_reducible refine Kd.C_drewN ?_ _) | (with_reducible refine Kd.C_drew ?_) | exact HR393_0.out)) | (with_reducible refine Kd.C_alloc ?_ _) | (with_reducible refine Kd.C_drewN ?_ _) | (with_reducible refine Kd.C_drew ?_)))
                                    (case side2 => exact HC393_0.out)
                                    (case side3 => repeat (first | exact (by repeat (first | (with_reducible exact HR394_0.out) | (with_reducible refine Kd.C_alloc ?_ _) | (with_reducible refine Kd.C_drewN ?_ _) | (with_reducible refine Kd.C_drew ?_) | exact HR394_0.out)) | (with_reducible refine Kd.C_alloc ?_ _) | (with_reducible refine Kd.C_drewN ?_ _) | (with_reducible refine Kd.C_drew ?_)))
                                    (case side4 => exact HC394_0.out)
                                    rintro e w44 ⟨v396, rfl, ho0, hb⟩
                                    have HS2_ := (hb.cell (World.block_lt_of_cell? _ _ (hHeld.2.2.1))).trans (hHeld.2.2.1)
                                    have HS3_ := (hb.cell (World.block_lt_of_cell? _ _ (hHeld.2.2.2.1))).trans (hHeld.2.2.2.1)
                                    have HS4_ := (hb.cell (World.block_lt_of_cell? _ _ (hHeld.2.2.2.2.1))).trans (hHeld.2.2.2.2.1)
                                    have HS5_ := (hb.cell (World.block_lt_of_cell? _ _ (hHeld.2.2.2.2.2))).trans (hHeld.2.2.2.2.2)
                                    refine ⟨_, rfl, ?_⟩
                                    have n0_ := Aside0.mk (Kd.S_elder' (by (with_reducible repeat (first | apply Kd.S_alloc | apply Kd.S_drewN | apply Kd.S_drew)); exact HO_391000.out) (Kd.R_base ho0) hb)
                                    have n1_ := Aside0.mk (Kd.R_elder' (by (with_reducible repeat (first | apply Kd.R_alloc | apply Kd.R_drewN | apply Kd.R_drew)); exact HO_391001.out) (Kd.R_base ho0) hb)
                                    have n2_ := Aside0.mk (Kd.R_elder' (by (with_reducible repeat (first | apply Kd.R_alloc | apply Kd.R_drewN | apply Kd.R_drew)); exact HL393_0.out) (Kd.R_base ho0) hb)
                                    have n3_ := Aside0.mk (Kd.R_elder' (by (with_reducible repeat (first | apply Kd.R_alloc | apply Kd.R_drewN | apply Kd.R_drew)); exact HL394_0.out) (Kd.R_base ho0) hb)
                                    have n4_ := Aside0.mk (Kd.R_elder' (by (with_reducible repeat (first | apply Kd.R_alloc | apply Kd.R_drewN | apply Kd.R_drew)); exact HL398_0.out) (Kd.R_base ho0) hb)
                                    have n5_ := Aside0.mk (Kd.R_elder' (by (with_reducible repeat (first | apply Kd.R_alloc | apply Kd.R_drewN | apply Kd.R_drew)); exact HL399_0.out) (Kd.R_base ho0) hb)
                                    have n6_ := Aside0.mk (Kd.R_lower (Kd.R_new' (Kd.R_new' (Kd.R_new' (Kd.R_new' (Kd.R_new' ho0 (Kd.R_lt (by (with_reducible repeat (first | apply Kd.R_alloc | apply Kd.R_drewN | apply Kd.R_drew)); exact HO_391001.out))) (Kd.R_lt (by (with_reducible repeat (first | apply Kd.R_alloc | apply Kd.R_drewN | apply Kd.R_drew)); exact HL393_0.out))) (Kd.R_lt (by (with_reducible repeat (first | apply Kd.R_alloc | apply Kd.R_drewN | apply Kd.R_drew)); exact HL394_0.out))) (Kd.R_lt (by (with_reducible repeat (first | apply Kd.R_alloc | apply Kd.R_drewN | apply Kd.R_drew)); exact HL398_0.out))) (Kd.R_lt (by (with_reducible repeat (first | apply Kd.R_alloc | apply Kd.R_drewN | apply Kd.R_drew)); exact HL399_0.out))) (below_size (by repeat (first | (with_reducible first | exact HB.out | apply below_alloc | apply pw_below_drewN | apply below_drew1 | refine below_set ?_ GE390.out) | exact HB.out))))
                                    have n7_ := Aside0.mk (blk_below (g := gb390) (o := .cells #[.slice (some ad393) t383.length co19, .slice (some ad392) t386.length co21] 28 (0, 0)) (by (with_reducible repeat (first | refine blk_drewN ?_ _ | refine blk_drew ?_ | refine blk_alloc ?_ _)); exact BK390.out) hb)
                                    have n8_ := Aside0.mk (Kd.C_below (by repeat (first | (with_reducible exact HR393_0.out) | (with_reducible refine Kd.C_alloc ?_ _) | (with_reducible refine Kd.C_drewN ?_ _) | (with_reducible refine Kd.C_drew ?_) | exact HR393_0.out)) hb)
                                    have n9_ := Aside0.mk (Kd.C_below (by repeat (first | (with_reducible exact HR394_0.out) | (with_reducible refine Kd.C_alloc ?_ _) | (with_reducible refine Kd.C_drewN ?_ _) | (with_reducible refine Kd.C_drew ?_) | exact HR394_0.out)) hb)
                                    have n10_ := Aside0.mk (Kd.C_below (by repeat (first | (with_reducible exact HR398_0.out) | (with_reducible refine Kd.C_alloc ?_ _) | (with_reducible refine Kd.C_drewN ?_ _) | (with_reducible refine Kd.C_drew ?_) | exact HR398_0.out)) hb)
                                    have n11_ := Aside0.mk (Kd.C_below (by repeat (first | (with_reducible exact HR399_0.out) | (with_reducible refine Kd.C_alloc ?_ _) | (with_reducible refine Kd.C_drewN ?_ _) | (with_reducible refine Kd.C_drew ?_) | exact HR399_0.out)) hb)
                                    have n12_ := Aside0.mk (below_step (by repeat (first | (with_reducible first | exact HB.out | apply below_alloc | apply pw_below_drewN | apply below_drew1 | refine below_set ?_ GE390.out) | exact HB.out)) hb)
                                    clear HO_391000
                                    clear HO_391001
                                    clear HL393_0
                                    clear HL394_0
                                    clear HL398_0
                                    clear HL399_0
                                    clear BK390
                                    clear HR393_0
                                    clear HR394_0
                                    clear HR398_0
                                    clear HR399_0
                                    clear HB
                                    have HO_391000 := n0_
                                    have HO_391001 := n1_
                                    have HL393_0 := n2_
                                    have HL394_0 := n3_
                                    have HL398_0 := n4_
                                    have HL399_0 := n5_
                                    have HO397 := n6_
                                    have BK390 := n7_
                                    have HR393_0 := n8_
                                    have HR394_0 := n9_
                                    have HR398_0 := n10_
                                    have HR399_0 := n11_
                                    have HB := n12_
                                    clear n0_ n1_ n2_ n3_ n4_ n5_ n6_ n7_ n8_ n9_ n10_ n11_ n12_
                                    (try clear hb)
                                    (try clear hb2)
                                    (try clear hk)
                                    (try clear hi)
                                    (try clear ho0)
                                    obtain ⟨Ao45, co45, eo45⟩ := Kd.R_slice HO397.out
                                    (first | subst eo45 | (injection eo45 with f1_ f2_ f3_; have f4_ := f1_.symm; have f5_ := f3_.symm; clear f1_ f2_ f3_; subst f4_; subst f5_))
                                    refine hK.out _ _ ⟨(blk_cell BK390.out 0).trans rfl, (blk_cell BK390.out 1).trans rfl, HS2_, HS3_, HS4_, HS5_⟩ (fun hHeld => ?_)
                                    clear hK K
                                    refine norm_ (a' := ?_) ?_ ?_
                                    rotate_left
                                    · show Act.put _ (some 74) _ = _
                                      simp only [Act.put, List.setIfInBounds_toArray, List.set_cons_zero, List.set_cons_succ, i64_w, i32_w]
                                      rfl
                                    refine pure_ (i := 11) (N := some 75) (v := ?_) (a' := ?_) (bs 24 2097151) rfl rfl (any_of HT_.out (by kernel_rfl)) (fun _ _ _ h => h) (Or.inl ⟨by rfl, ?_⟩) ?_ ?_
                                    rotate_left; (intro w'; go_simp; with_reducible rfl); rotate_left; (simp only [Act.put, List.setIfInBounds_toArray, List.set_cons_zero, List.set_cons_succ, i64_w, i32_w]; rfl)
                                    refine one_ (i := 21) (N := some 85) (bs 24 4194303) rfl rfl (one_of HT_.out (by kernel_rfl)) (by decide) (fun K hK => ?_)
                                    refine goes_ Tryd.func15 (by kernel_rfl) rfl #[.slice A393_0 (rd_L1 t383 x11_2).length c393_0, .slice A399_0 (rd_L1 t383 0).length c399_0] (by rfl) rfl rfl (by (try simp only [List.map_toArray, List.map_cons, List.map_nil]); first | done | rfl | (simp only [List.length_drop, List.length_take]; rfl)) ?_
                                    with_reducible refine (arboristref01_Meet.calls kj27 _ _ (rd_L1 t383 x11_2) _ _ (rd_L1 t383 0) t400 _ ?side1 ?side2 ?side3 ?side4 A41.out).mono ?_
                                    (case side1 => repeat (first | exact (by repeat (first | (with_reducible exact HR398_0.out) | (with_reducible refine Kd.C_alloc ?_ _) | (with_reducible refine Kd.C_drewN ?_ _) | (with_reducible refine Kd.C_drew ?_) | exact HR398_0.out)) | (with_reducible refine Kd.C_alloc ?_ _) | (with_reducible refine Kd.C_drewN ?_ _) | (with_reducible refine Kd.C_drew ?_)))
                                    (case side2 => exact HC398_0.out)
                                    (case side3 => repeat (first | exact (by repeat (first | (with_reducible exact HR399_0.out) | (with_reducible refine Kd.C_alloc ?_ _) | (with_reducible refine Kd.C_drewN ?_ _) | (with_reducible refine Kd.C_drew ?_) | exact HR399_0.out)) | (with_reducible refine Kd.C_alloc ?_ _) | (with_reducible refine Kd.C_drewN ?_ _) | (with_reducible refine Kd.C_drew ?_)))
                                    (case side4 => exact HC399_0.out)
                                    rintro e w46 ⟨v401, rfl, ho0, hb⟩
                                    have HS2_ := (hb.cell (World.block_lt_of_cell? _ _ (hHeld.2.2.1))).trans (hHeld.2.2.1)
                                    have HS3_ := (hb.cell (World.block_lt_of_cell? _ _ (hHeld.2.2.2.1))).trans (hHeld.2.2.2.1)
                                    have HS4_ := (hb.cell (World.block_lt_of_cell? _ _ (hHeld.2.2.2.2.1))).trans (hHeld.2.2.2.2.1)
                                    have HS5_ := (hb.cell (World.block_lt_of_cell? _ _ (hHeld.2.2.2.2.2))).trans (hHeld.2.2.2.2.2)
                                    refine ⟨_, rfl, ?_⟩
                                    have n0_ := Aside0.mk (Kd.S_elder' (by (with_reducible repeat (first | apply Kd.S_alloc | apply Kd.S_drewN | apply Kd.S_drew)); exact HO_391000.out) (Kd.R_base ho0) hb)
                                    have n1_ := Aside0.mk (Kd.R_elder' (by (with_reducible repeat (first | apply Kd.R_alloc | apply Kd.R_drewN | apply Kd.R_drew)); exact HO_391001.out) (Kd.R_base ho0) hb)
                                    have n2_ := Aside0.mk (Kd.R_elder' (by (with_reducible repeat (first | apply Kd.R_alloc | apply Kd.R_drewN | apply Kd.R_drew)); exact HL393_0.out) (Kd.R_base ho0) hb)
                                    have n3_ := Aside0.mk (Kd.R_elder' (by (with_reducible repeat (first | apply Kd.R_alloc | apply Kd.R_drewN | apply Kd.R_drew)); exact HL394_0.out) (Kd.R_base ho0) hb)
                                    have n4_ := Aside0.mk (Kd.R_elder' (by (with_reducible repeat (first | apply Kd.R_alloc | apply Kd.R_drewN | apply Kd.R_drew)); exact HL398_0.out) (Kd.R_base ho0) hb)
                                    have n5_ := Aside0.mk (Kd.R_elder' (by (with_reducible repeat (first | apply Kd.R_alloc | apply Kd.R_drewN | apply Kd.R_drew)); exact HL399_0.out) (Kd.R_base ho0) hb)
                                    have n6_ := Aside0.mk (Kd.R_elder' (by (with_reducible repeat (first | apply Kd.R_alloc | apply Kd.R_drewN | apply Kd.R_drew)); exact HO397.out) (Kd.R_base ho0) hb)
                                    have n7_ := Aside0.mk (Kd.R_lower (Kd.R_new' (Kd.R_new' (Kd.R_new' (Kd.R_new' (Kd.R_new' (Kd.R_new' ho0 (Kd.R_lt (by (with_reducible repeat (first | apply Kd.R_alloc | apply Kd.R_drewN | apply Kd.R_drew)); exact HO_391001.out))) (Kd.R_lt (by (with_reducible repeat (first | apply Kd.R_alloc | apply Kd.R_drewN | apply Kd.R_drew)); exact HL393_0.out))) (Kd.R_lt (by (with_reducible repeat (first | apply Kd.R_alloc | apply Kd.R_drewN | apply Kd.R_drew)); exact HL394_0.out))) (Kd.R_lt (by (with_reducible repeat (first | apply Kd.R_alloc | apply Kd.R_drewN | apply Kd.R_drew)); exact HL398_0.out))) (Kd.R_lt (by (with_reducible repeat (first | apply Kd.R_alloc | apply Kd.R_drewN | apply Kd.R_drew)); exact HL399_0.out))) (Kd.R_lt (by (with_reducible repeat (first | apply Kd.R_alloc | apply Kd.R_drewN | apply Kd.R_drew)); exact HO397.out))) (below_size (by repeat (first | (with_reducible first | exact HB.out | apply below_alloc | apply pw_below_drewN | apply below_drew1 | refine below_set ?_ GE390.out) | exact HB.out))))
                                    have n8_ := Aside0.mk (blk_below (g := gb390) (o := .cells #[.slice (some ad393) t383.length co19, .slice (some ad392) t386.length co21] 28 (0, 0)) (by (with_reducible repeat (first | refine blk_drewN ?_ _ | refine blk_drew ?_ | refine blk_alloc ?_ _)); exact BK390.out) hb)
                                    have n9_ := Aside0.mk (Kd.C_below (by repeat (first | (with_reducible exact HR393_0.out) | (with_reducible refine Kd.C_alloc ?_ _) | (with_reducible refine Kd.C_drewN ?_ _) | (with_reducible refine Kd.C_drew ?_) | exact HR393_0.out)) hb)
                                    have n10_ := Aside0.mk (Kd.C_below (by repeat (first | (with_reducible exact HR394_0.out) | (with_reducible refine Kd.C_alloc ?_ _) | (with_reducible refine Kd.C_drewN ?_ _) | (with_reducible refine Kd.C_drew ?_) | exact HR394_0.out)) hb)
                                    have n11_ := Aside0.mk (Kd.C_below (by repeat (first | (with_reducible exact HR398_0.out) | (with_reducible refine Kd.C_alloc ?_ _) | (with_reducible refine Kd.C_drewN ?_ _) | (with_reducible refine Kd.C_drew ?_) | exact HR398_0.out)) hb)
                                    have n12_ := Aside0.mk (Kd.C_below (by repeat (first | (with_reducible exact HR399_0.out) | (with_reducible refine Kd.C_alloc ?_ _) | (with_reducible refine Kd.C_drewN ?_ _) | (with_reducible refine Kd.C_drew ?_) | exact HR399_0.out)) hb)
                                    have n13_ := Aside0.mk (below_step (by repeat (first | (with_reducible first | exact HB.out | apply below_alloc | apply pw_below_drewN | apply below_drew1 | refine below_set ?_ GE390.out) | exact HB.out)) hb)
                                    clear HO_391000
                                    clear HO_391001
                                    clear HL393_0
                                    clear HL394_0
                                    clear HL398_0
                                    clear HL399_0
                                    clear HO397
                                    clear BK390
                                    clear HR393_0
                                    clear HR394_0
                                    clear HR398_0
                                    clear HR399_0
                                    clear HB
                                    have HO_391000 := n0_
                                    have HO_391001 := n1_
                                    have HL393_0 := n2_
                                    have HL394_0 := n3_
                                    have HL398_0 := n4_
                                    have HL399_0 := n5_
                                    have HO397 := n6_
                                    have HO402 := n7_
                                    have BK390 := n8_
                                    have HR393_0 := n9_
                                    have HR394_0 := n10_
                                    have HR398_0 := n11_
                                    have HR399_0 := n12_
                                    have HB := n13_
                                    clear n0_ n1_ n2_ n3_ n4_ n5_ n6_ n7_ n8_ n9_ n10_ n11_ n12_ n13_
                                    (try clear hb)
                                    (try clear hb2)
                                    (try clear hk)
                                    (try clear hi)
                                    (try clear ho0)
                                    obtain ⟨Ao47, co47, eo47⟩ := Kd.R_slice HO402.out
                                    (first | subst eo47 | (injection eo47 with f1_ f2_ f3_; have f4_ := f1_.symm; have f5_ := f3_.symm; clear f1_ f2_ f3_; subst f4_; subst f5_))
                                    refine hK.out _ _ ⟨(blk_cell BK390.out 0).trans rfl, (blk_cell BK390.out 1).trans rfl, HS2_, HS3_, HS4_, HS5_⟩ (fun hHeld => ?_)
                                    clear hK K
                                    refine norm_ (a' := ?_) ?_ ?_
                                    rotate_left
                                    · show Act.put _ (some 85) _ = _
                                      simp only [Act.put, List.setIfInBounds_toArray, List.set_cons_zero, List.set_cons_succ, i64_w, i32_w]
                                      rfl
                                    refine pure_ (i := 22) (N := some 86) (v := ?_) (a' := ?_) (bs 24 8388607) rfl rfl (any_of HT_.out (by kernel_rfl)) (fun _ _ _ h => h) (Or.inl ⟨by rfl, ?_⟩) ?_ ?_
                                    rotate_left; (intro w'; go_simp; with_reducible rfl); rotate_left; (simp only [Act.put, List.setIfInBounds_toArray, List.set_cons_zero, List.set_cons_succ, i64_w, i32_w]; rfl)
                                    refine pure_ (i := 23) (N := some 87) (v := ?_) (a' := ?_) (bs 24 16777215) rfl rfl (any_of HT_.out (by kernel_rfl)) (fun _ _ _ h => h) (Or.inl ⟨by rfl, ?_⟩) ?_ ?_
                                    rotate_left; (intro w'; go_simp; with_reducible rfl); rotate_left; (simp only [Act.put, List.setIfInBounds_toArray, List.set_cons_zero, List.set_cons_succ, i64_w, i32_w]; rfl)
                                    refine done_ (done_of HT_.out (by kernel_rfl)) ?_
                                    try go_wp2
                                    go_roundg kj27
                                    case measure => have := HJ8.out; have := HK2.out; have := HJ27.out; omega
                                    case rel => exact ⟨(wrap64 (x11_2 + 1)), (by first | rfl | (simp; done) | (simp [*]; done)), H', ⟨by have := HJ8.out; have := HK2.out; have := HJ27.out; omega⟩, ⟨by (with_reducible repeat (first | apply Kd.S_alloc | apply Kd.S_drewN | apply Kd.S_drew)); exact Kd.S_mono HO_391000.out (fun _ hk => hk.1.1)⟩, ⟨by (with_reducible repeat (first | apply Kd.R_alloc | apply Kd.R_drewN | apply Kd.R_drew)); exact Kd.R_mono HO_391001.out (fun _ hk => trivial)⟩, ⟨by (with_reducible repeat (first | refine blk_drewN ?_ _ | refine blk_drew ?_ | refine blk_alloc ?_ _)); exact BK390.out⟩, ⟨by repeat (first | (with_reducible first | exact HB.out | apply below_alloc | apply pw_below_drewN | apply below_drew1 | refine below_set ?_ GE390.out) | exact HB.out)⟩⟩
                                · rw [if_neg c40] at H
                                  exact absurd H (by simp)
                              · rw [if_neg c38] at H
                                exact absurd H (by simp)
                            · rw [if_neg c37] at H
                              exact absurd H (by simp)
                          · rw [if_neg c36] at H
                            exact absurd H (by simp)
                        · rw [if_neg c35] at H
                          exact absurd H (by simp)
                · rw [if_neg c27] at H
                  exact absurd H (by simp)
              · rw [if_neg c26] at H
                exact absurd H (by simp)
            · rw [if_neg c25] at H
              have c25b0 : decide (x11_2 < (t383.length : Int)) = false := decide_eq_false c25
              clear c25
              by_cases c48 : t373 = true
              · subst c48
                have H1 : (if (t386.length : Int) = 0 then (some true) else (if 0 < (t386.length : Int) then (some ((rd t386 0) == (-1))) else (none))) = some r := by rw [if_pos rfl] at H; exact H
                clear H
                have H := H1
                clear H1
                by_cases c49 : (t386.length : Int) = 0
                · rw [if_pos c49] at H
                  have c49b0 : ((t386.length : Int) == 0) = true := beq_iff_eq.mpr c49
                  have c49b1 : ((t386.length : Int) != 0) = false := bne_eq_false_iff_eq.mpr c49
                  clear c49
                  obtain rfl := Option.some.inj H
                  have hcz50_0 : wr.cell? ⟨gb390, 0, none⟩ = some (.slice Ao19 t383.length co19) := (blk_cell BK390.out 0).trans rfl
                  have hcz50_1 : wr.cell? ⟨gb390, 1, none⟩ = some (.slice Ao21 t386.length co21) := (blk_cell BK390.out 1).trans rfl
                  have hfz50_0 := blk_frozen BK390.out 0
                  have hfz50_1 := blk_frozen BK390.out 1
                  go_wp2
                  go_ret
                  exact ⟨by first | rfl | (simp [errW_none, errW_some] <;> rfl) | (simp [*, errW_none, errW_some] <;> rfl), by repeat (first | (with_reducible first | exact HB.out | apply below_alloc | apply pw_below_drewN | apply below_drew1 | refine below_set ?_ GE390.out) | exact HB.out)⟩
                · rw [if_neg c49] at H
                  have c49b0 : ((t386.length : Int) == 0) = false := beq_eq_false_iff_ne.mpr c49
                  have c49b1 : ((t386.length : Int) != 0) = true := bne_iff_ne.mpr c49
                  have c49b2 : ¬ (t386 = []) := fun h_ => c49 (by rw [h_]; rfl)
                  by_cases c51 : 0 < (t386.length : Int)
                  · rw [if_pos c51] at H
                    have c51b0 : decide (0 < (t386.length : Int)) = true := decide_eq_true c51
                    have c51b1 : decide (0 < t386.length) = true := decide_eq_true (by omega)
                    clear c51
                    obtain rfl := Option.some.inj H
                    have hcz52_0 : wr.cell? ⟨gb390, 0, none⟩ = some (.slice Ao19 t383.length co19) := (blk_cell BK390.out 0).trans rfl
                    have hcz52_1 : wr.cell? ⟨gb390, 1, none⟩ = some (.slice Ao21 t386.length co21) := (blk_cell BK390.out 1).trans rfl
                    have hfz52_0 := blk_frozen BK390.out 0
                    have hfz52_1 := blk_frozen BK390.out 1
                    have p391 : 0 ≤ (0 : Int) := (by omega)
                    have q391 : 0 < (t386.length : Int) := of_decide_eq_true (by first | (with_reducible assumption) | assumption)
                    obtain ⟨ad391, e391, hx391_0⟩ := Kd.at_int (Kd.R_reads' HO_391001.out).2.2 0 p391 q391
                    cases e391
                    have qi391 : (0 < t386.length) = True := eq_true (by omega)
                    (try rw [show ((0 : Int)).toNat = 0 from rfl] at hx391_0)
                    (try rw [Addr.add_zero'] at hx391_0)
                    replace p391 := eq_true p391
                    replace q391 := eq_true q391
                    go_wp2
                    go_ret
                    exact ⟨by first | rfl | (simp [errW_none, errW_some] <;> rfl) | (simp [*, errW_none, errW_some] <;> rfl), by repeat (first | (with_reducible first | exact HB.out | apply below_alloc | apply pw_below_drewN | apply below_drew1 | refine below_set ?_ GE390.out) | exact HB.out)⟩
                  · rw [if_neg c51] at H
                    exact absurd H (by simp)
              · replace c48 := Bool.eq_false_iff.mpr c48
                subst c48
                have H1 : (some false) = some r := by rw [if_neg (show ¬ (false = true) by decide)] at H; exact H
                clear H
                have H := H1
                clear H1
                exact absurd ((Option.some.inj H).trans HTR_.out) (by decide)

/-- THE ONE PURE STATEMENT of arboristlaw11_DecompShares. -/
def arboristlaw11_DecompShares.Pure : Prop := ∀ (a0 : Int) (l1 : List (List Int)) (l2 : List Int), (Lit.int .i64 a0).wf = true → (l1.length ≤ maxLen ∧ ∀ z0 ∈ l1, (z0.length ≤ maxLen ∧ ∀ z1 ∈ z0, (Lit.int .i64 z1).wf = true)) → (l2.length ≤ maxLen ∧ ∀ z0 ∈ l2, (Lit.int .i64 z0).wf = true) → ∃ k, arboristlaw11_DecompShares.f k a0 l1 l2 = some true

end Go.Proofs.YtbdlelojlnhhfaaDoor.Pr
