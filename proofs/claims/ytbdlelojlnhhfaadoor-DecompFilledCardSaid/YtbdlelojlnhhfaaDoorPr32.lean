-- Printed by wip/tools/pp.py over the kit's print.py, several texts in one (wip/tools/mergepr.py); Lean checks it.
import Derived.Test.YtbdlelojlnhhfaaDoorPr0
import Derived.Test.YtbdlelojlnhhfaaDoorPr29
namespace Go.Proofs.YtbdlelojlnhhfaaDoor.Pr
open Go.RowKit Go.Proofs.YtbdlelojlnhhfaaDoorW.PrintWords Go.Proofs.YtbdlelojlnhhfaaDoorW.PrintLast Go.Proofs.YtbdlelojlnhhfaaDoorW.PrintMore
attribute [local go_sem] max2_int min2_int max_two min_two max_three min_three max_four min_four   -- for this text's walks alone
set_option linter.unusedVariables false
set_option linter.unusedSimpArgs false

/-! ### arboristlaw11_shown: function 10 -/
def arboristlaw11_shown.f  : Option (Bool) := (decomp_Build.f (([10, 5, 10, 5] : List Int)) (([0, 1, 2, 3] : List Int))).bind fun bt256 => ((decomp_Build.f (([0] : List Int)) ([] : List Int)).bind fun bt267 => (if bt256.2.2 = 0 then (if (bt256.1.length : Int) = 2 then (if (bt256.2.1.length : Int) = 2 then (if 0 < (bt256.2.1.length : Int) then (if (rd bt256.2.1 0) = (-1) then (if 1 < (bt256.2.1.length : Int) then (if (rd bt256.2.1 1) = 0 then (if 1 < (bt256.1.length : Int) then (if ((rd_L1 bt256.1 1).length : Int) = 3 then (if 0 < ((rd_L1 bt256.1 1).length : Int) then (if (rd (rd_L1 bt256.1 1) 0) = 1 then (some (bt267.2.2 == 8)) else (some false)) else (none)) else (some false)) else (none)) else (some false)) else (none)) else (some false)) else (none)) else (some false)) else (some false)) else (some false)))
theorem arboristlaw11_shown.true_ (r : Bool) (h : arboristlaw11_shown.f = some r) : r = true := by
  have h0 : arboristlaw11_shown.f = some true := by decide +kernel
  exact Option.some.inj (h.symm.trans h0)
set_option maxHeartbeats 8000000 in
set_option maxRecDepth 100000 in
theorem arboristlaw11_shown.calls  (r : Bool) (w : World) (hTb : Tab64 w) (h : arboristlaw11_shown.f  = some r) :
    Calls Tryd.prog 10 #[] w fun e w' => e = .returned (.bool r) ∧ Below w.heap.size w w' := by
  have HTAB := Aside0.mk hTb
  clear hTb
  have HT_ := Aside0.mk (show r = true from arboristlaw11_shown.true_ r h)
  have hu34 := Tryd.underlying34
  have hu28 := Tryd.underlying28
  have HB := Aside0.mk (Below.refl w.heap.size w)
  have H : ((decomp_Build.f (([10, 5, 10, 5] : List Int)) (([0, 1, 2, 3] : List Int))).bind fun bt256 => ((decomp_Build.f (([0] : List Int)) ([] : List Int)).bind fun bt267 => (if bt256.2.2 = 0 then (if (bt256.1.length : Int) = 2 then (if (bt256.2.1.length : Int) = 2 then (if 0 < (bt256.2.1.length : Int) then (if (rd bt256.2.1 0) = (-1) then (if 1 < (bt256.2.1.length : Int) then (if (rd bt256.2.1 1) = 0 then (if 1 < (bt256.1.length : Int) then (if ((rd_L1 bt256.1 1).length : Int) = 3 then (if 0 < ((rd_L1 bt256.1 1).length : Int) then (if (rd (rd_L1 bt256.1 1) 0) = 1 then (some (bt267.2.2 == 8)) else (some false)) else (none)) else (some false)) else (none)) else (some false)) else (none)) else (some false)) else (none)) else (some false)) else (some false)) else (some false)))) = some r := h
  clear h
  obtain ⟨y250, hy250⟩ : ∃ y_ : List Int, y_ = (([10, 5, 10, 5] : List Int)) := ⟨_, rfl⟩
  replace H : ((decomp_Build.f y250 (([0, 1, 2, 3] : List Int))).bind fun bt256 => ((decomp_Build.f (([0] : List Int)) ([] : List Int)).bind fun bt267 => (if bt256.2.2 = 0 then (if (bt256.1.length : Int) = 2 then (if (bt256.2.1.length : Int) = 2 then (if 0 < (bt256.2.1.length : Int) then (if (rd bt256.2.1 0) = (-1) then (if 1 < (bt256.2.1.length : Int) then (if (rd bt256.2.1 1) = 0 then (if 1 < (bt256.1.length : Int) then (if ((rd_L1 bt256.1 1).length : Int) = 3 then (if 0 < ((rd_L1 bt256.1 1).length : Int) then (if (rd (rd_L1 bt256.1 1) 0) = 1 then (some (bt267.2.2 == 8)) else (some false)) else (none)) else (some false)) else (none)) else (some false)) else (none)) else (some false)) else (none)) else (some false)) else (some false)) else (some false)))) = some r := by first | (rw [hy250]; with_reducible exact H) | (have H2_ := (Option.bind_some _ _).symm.trans H; rw [hy250]; with_reducible exact H2_) | (have H2_ := (Option.bind_some _ _).symm.trans H; with_reducible exact H2_) | with_reducible exact H | (rw [hy250]; exact H) | exact H
  have Ny250 := Aside0.mk hy250
  clear hy250
  obtain ⟨y253, hy253⟩ : ∃ y_ : List Int, y_ = (([0, 1, 2, 3] : List Int)) := ⟨_, rfl⟩
  replace H : ((decomp_Build.f y250 y253).bind fun bt256 => ((decomp_Build.f (([0] : List Int)) ([] : List Int)).bind fun bt267 => (if bt256.2.2 = 0 then (if (bt256.1.length : Int) = 2 then (if (bt256.2.1.length : Int) = 2 then (if 0 < (bt256.2.1.length : Int) then (if (rd bt256.2.1 0) = (-1) then (if 1 < (bt256.2.1.length : Int) then (if (rd bt256.2.1 1) = 0 then (if 1 < (bt256.1.length : Int) then (if ((rd_L1 bt256.1 1).length : Int) = 3 then (if 0 < ((rd_L1 bt256.1 1).length : Int) then (if (rd (rd_L1 bt256.1 1) 0) = 1 then (some (bt267.2.2 == 8)) else (some false)) else (none)) else (some false)) else (none)) else (some false)) else (none)) else (some false)) else (none)) else (some false)) else (some false)) else (some false)))) = some r := by first | (rw [hy253]; with_reducible exact H) | (have H2_ := (Option.bind_some _ _).symm.trans H; rw [hy253]; with_reducible exact H2_) | (have H2_ := (Option.bind_some _ _).symm.trans H; with_reducible exact H2_) | with_reducible exact H | (rw [hy253]; exact H) | exact H
  have Ny253 := Aside0.mk hy253
  clear hy253
  replace H := Option.bind_eq_some_iff.mp H
  obtain ⟨⟨t256, t259, t262⟩, A10, H⟩ := H
  replace H : ((decomp_Build.f (([0] : List Int)) ([] : List Int)).bind fun bt267 => (if t262 = 0 then (if (t256.length : Int) = 2 then (if (t259.length : Int) = 2 then (if 0 < (t259.length : Int) then (if (rd t259 0) = (-1) then (if 1 < (t259.length : Int) then (if (rd t259 1) = 0 then (if 1 < (t256.length : Int) then (if ((rd_L1 t256 1).length : Int) = 3 then (if 0 < ((rd_L1 t256 1).length : Int) then (if (rd (rd_L1 t256 1) 0) = 1 then (some (bt267.2.2 == 8)) else (some false)) else (none)) else (some false)) else (none)) else (some false)) else (none)) else (some false)) else (none)) else (some false)) else (some false)) else (some false))) = some r := H
  have A1 := Aside0.mk A10
  clear A10
  obtain ⟨y264, hy264⟩ : ∃ y_ : List Int, y_ = (([0] : List Int)) := ⟨_, rfl⟩
  replace H : ((decomp_Build.f y264 ([] : List Int)).bind fun bt267 => (if t262 = 0 then (if (t256.length : Int) = 2 then (if (t259.length : Int) = 2 then (if 0 < (t259.length : Int) then (if (rd t259 0) = (-1) then (if 1 < (t259.length : Int) then (if (rd t259 1) = 0 then (if 1 < (t256.length : Int) then (if ((rd_L1 t256 1).length : Int) = 3 then (if 0 < ((rd_L1 t256 1).length : Int) then (if (rd (rd_L1 t256 1) 0) = 1 then (some (bt267.2.2 == 8)) else (some false)) else (none)) else (some false)) else (none)) else (some false)) else (none)) else (some false)) else (none)) else (some false)) else (some false)) else (some false))) = some r := by first | (rw [hy264]; with_reducible exact H) | (have H2_ := (Option.bind_some _ _).symm.trans H; rw [hy264]; with_reducible exact H2_) | (have H2_ := (Option.bind_some _ _).symm.trans H; with_reducible exact H2_) | with_reducible exact H | (rw [hy264]; exact H) | exact H
  have Ny264 := Aside0.mk hy264
  clear hy264
  replace H := Option.bind_eq_some_iff.mp H
  obtain ⟨⟨t267, t270, t273⟩, A20, H⟩ := H
  replace H : (if t262 = 0 then (if (t256.length : Int) = 2 then (if (t259.length : Int) = 2 then (if 0 < (t259.length : Int) then (if (rd t259 0) = (-1) then (if 1 < (t259.length : Int) then (if (rd t259 1) = 0 then (if 1 < (t256.length : Int) then (if ((rd_L1 t256 1).length : Int) = 3 then (if 0 < ((rd_L1 t256 1).length : Int) then (if (rd (rd_L1 t256 1) 0) = 1 then (some (t273 == 8)) else (some false)) else (none)) else (some false)) else (none)) else (some false)) else (none)) else (some false)) else (none)) else (some false)) else (some false)) else (some false)) = some r := H
  have A2 := Aside0.mk A20
  clear A20
  by_cases c3 : t262 = 0
  · rw [if_pos c3] at H
    have c3b0 : (t262 == 0) = true := beq_iff_eq.mpr c3
    have c3b1 : (t262 != 0) = false := bne_eq_false_iff_eq.mpr c3
    clear c3
    by_cases c4 : (t256.length : Int) = 2
    · rw [if_pos c4] at H
      have c4b0 : ((t256.length : Int) == 2) = true := beq_iff_eq.mpr c4
      have c4b1 : ((t256.length : Int) != 2) = false := bne_eq_false_iff_eq.mpr c4
      clear c4
      by_cases c5 : (t259.length : Int) = 2
      · rw [if_pos c5] at H
        have c5b0 : ((t259.length : Int) == 2) = true := beq_iff_eq.mpr c5
        have c5b1 : ((t259.length : Int) != 2) = false := bne_eq_false_iff_eq.mpr c5
        clear c5
        by_cases c6 : 0 < (t259.length : Int)
        · rw [if_pos c6] at H
          have c6b0 : decide (0 < (t259.length : Int)) = true := decide_eq_true c6
          have c6b1 : decide (0 < t259.length) = true := decide_eq_true (by omega)
          clear c6
          by_cases c7 : (rd t259 0) = (-1)
          · rw [if_pos c7] at H
            have c7b0 : ((rd t259 0) == (-1)) = true := beq_iff_eq.mpr c7
            have c7b1 : ((rd t259 0) != (-1)) = false := bne_eq_false_iff_eq.mpr c7
            clear c7
            by_cases c8 : 1 < (t259.length : Int)
            · rw [if_pos c8] at H
              have c8b0 : decide (1 < (t259.length : Int)) = true := decide_eq_true c8
              have c8b1 : decide (1 < t259.length) = true := decide_eq_true (by omega)
              clear c8
              by_cases c9 : (rd t259 1) = 0
              · rw [if_pos c9] at H
                have c9b0 : ((rd t259 1) == 0) = true := beq_iff_eq.mpr c9
                have c9b1 : ((rd t259 1) != 0) = false := bne_eq_false_iff_eq.mpr c9
                clear c9
                by_cases c10 : 1 < (t256.length : Int)
                · rw [if_pos c10] at H
                  have c10b0 : decide (1 < (t256.length : Int)) = true := decide_eq_true c10
                  have c10b1 : decide (1 < t256.length) = true := decide_eq_true (by omega)
                  clear c10
                  by_cases c11 : ((rd_L1 t256 1).length : Int) = 3
                  · rw [if_pos c11] at H
                    have c11b0 : (((rd_L1 t256 1).length : Int) == 3) = true := beq_iff_eq.mpr c11
                    have c11b1 : (((rd_L1 t256 1).length : Int) != 3) = false := bne_eq_false_iff_eq.mpr c11
                    clear c11
                    by_cases c12 : 0 < ((rd_L1 t256 1).length : Int)
                    · rw [if_pos c12] at H
                      have c12b0 : decide (0 < ((rd_L1 t256 1).length : Int)) = true := decide_eq_true c12
                      have c12b1 : decide (0 < (rd_L1 t256 1).length) = true := decide_eq_true (by omega)
                      clear c12
                      by_cases c13 : (rd (rd_L1 t256 1) 0) = 1
                      · rw [if_pos c13] at H
                        have c13b0 : ((rd (rd_L1 t256 1) 0) == 1) = true := beq_iff_eq.mpr c13
                        have c13b1 : ((rd (rd_L1 t256 1) 0) != 1) = false := bne_eq_false_iff_eq.mpr c13
                        clear c13
                        obtain rfl := Option.some.inj H
                        go_enter Tryd.func10, Tryd.ntmps10
                        go_wp2_with (first | ((with_reducible refine gate_dst (N := 6) rfl ?_); (try (refine gate_guard (by rfl) ?_; dsimp only)); refine Kd.R_lit (Kd.int .u64) _ 54 ?hg (N := 6) ?hd (xs := ([10, 5, 10, 5] : List Int)) (inner := [.int .u64 10, .int .u64 5, .int .u64 10, .int .u64 5]) (ok := fun _ => True) (okp := fun _ => True) ?hr ?hp (fun _ hk => hk) trivial (Below.refl _ _) (Nat.le_refl _) (by simp) ?_; (case hd => rfl); (case hg => rfl); (case hr => first | (go_simp; done) | (go_simp; rfl)); (case hp => exact (Reps.one (show Kd.M (Kd.int .u64) _ _ _ 10 [.int .u64 10] from rfl) (Reps.one (show Kd.M (Kd.int .u64) _ _ _ 5 [.int .u64 5] from rfl) (Reps.one (show Kd.M (Kd.int .u64) _ _ _ 10 [.int .u64 10] from rfl) (Reps.one (show Kd.M (Kd.int .u64) _ _ _ 5 [.int .u64 5] from rfl) (Reps.none _ _)))))); intro v251 w14 ho15 hb hg_ hnew_; clear hg_ hnew_; (first | rw [← Ny250.out] at ho15 | (simp only [Int.reduceToNat] at ho15; rw [← Ny250.out] at ho15)); have n0_ := Aside0.mk (Kd.R_lower ho15 (below_size (by repeat (first | (with_reducible first | exact HB.out | apply below_alloc | apply pw_below_drewN | apply below_drew1) | exact HB.out)))); have n1_ := Aside0.mk (below_step (by repeat (first | (with_reducible first | exact HB.out | apply below_alloc | apply pw_below_drewN | apply below_drew1) | exact HB.out)) hb); clear HB; have HO252 := n0_; have HB := n1_; clear n0_ n1_; clear hb ho15; obtain ⟨Ao16, co16, eo16⟩ := Kd.R_slice HO252.out; subst eo16) | ((with_reducible refine gate_dst (N := 8) rfl ?_); (try (refine gate_guard (by rfl) ?_; dsimp only)); refine Kd.R_lit (Kd.int .i64) _ 3 ?hg (N := 8) ?hd (xs := ([0, 1, 2, 3] : List Int)) (inner := [.int .i64 0, .int .i64 1, .int .i64 2, .int .i64 3]) (ok := fun _ => True) (okp := fun _ => True) ?hr ?hp (fun _ hk => hk) trivial (Below.refl _ _) (Nat.le_refl _) (by simp) ?_; (case hd => rfl); (case hg => rfl); (case hr => first | (go_simp; done) | (go_simp; rfl)); (case hp => exact (Reps.one (show Kd.M (Kd.int .i64) _ _ _ 0 [.int .i64 0] from rfl) (Reps.one (show Kd.M (Kd.int .i64) _ _ _ 1 [.int .i64 1] from rfl) (Reps.one (show Kd.M (Kd.int .i64) _ _ _ 2 [.int .i64 2] from rfl) (Reps.one (show Kd.M (Kd.int .i64) _ _ _ 3 [.int .i64 3] from rfl) (Reps.none _ _)))))); intro v254 w17 ho18 hb hg_ hnew_; clear hg_ hnew_; (first | rw [← Ny253.out] at ho18 | (simp only [Int.reduceToNat] at ho18; rw [← Ny253.out] at ho18)); have n0_ := Aside0.mk (Kd.R_below (by (with_reducible repeat (first | apply Kd.R_alloc | apply Kd.R_drewN | apply Kd.R_drew)); exact HO252.out) hb); have n1_ := Aside0.mk (Kd.R_lower ho18 (below_size (by repeat (first | (with_reducible first | exact HB.out | apply below_alloc | apply pw_below_drewN | apply below_drew1) | exact HB.out)))); have n2_ := Aside0.mk (below_step (by repeat (first | (with_reducible first | exact HB.out | apply below_alloc | apply pw_below_drewN | apply below_drew1) | exact HB.out)) hb); clear HO252; clear HB; have HO252 := n0_; have HO255 := n1_; have HB := n2_; clear n0_ n1_ n2_; clear hb ho18; obtain ⟨Ao19, co19, eo19⟩ := Kd.R_slice HO255.out; subst eo19) | ((with_reducible refine gate_callee (f := 12) rfl ?_); refine goesL_ (some 9) rfl rfl Tryd.func12 (by kernel_rfl) rfl #[.agg #[.slice Ao16 y250.length co16], .slice Ao19 y253.length co19] rfl (by (try simp only [List.map_toArray, List.map_cons, List.map_nil]); first | done | rfl | (simp only [List.length_drop, List.length_take]; rfl)) ?_; (with_reducible refine (decomp_Build.calls (hTb := (by first | exact HTAB.out | exact tab_drewN HTAB.out _ | exact tab_below HTAB.out (by repeat (first | (with_reducible first | exact HB.out | apply below_alloc | apply pw_below_drewN | apply below_drew1 | refine below_set ?_ GE263.out | refine below_set ?_ GE274.out) | exact HB.out)))) _ _ y250 _ _ y253 t256 t259 t262 _ ?side1 ?side2 ?side3 ?side4 A1.out).mono ?_); (case side1 => repeat (first | exact (Kd.R_reads' HO252.out).2.2 | (with_reducible refine Kd.C_alloc ?_ _) | (with_reducible refine Kd.C_drewN ?_ _) | (with_reducible refine Kd.C_drew ?_))); (case side2 => exact (Kd.R_reads' HO252.out).2.1); (case side3 => repeat (first | exact (Kd.R_reads' HO255.out).2.2 | (with_reducible refine Kd.C_alloc ?_ _) | (with_reducible refine Kd.C_drewN ?_ _) | (with_reducible refine Kd.C_drew ?_))); (case side4 => exact (Kd.R_reads' HO255.out).2.1); rintro e w20 ⟨v257, v260, rfl, ho0, ho1, hb⟩; refine ⟨_, rfl, ?_⟩; have n0_ := Aside0.mk (Kd.R_below (by (with_reducible repeat (first | apply Kd.R_alloc | apply Kd.R_drewN | apply Kd.R_drew)); exact HO252.out) hb); have n1_ := Aside0.mk (Kd.R_elder' (by (with_reducible repeat (first | apply Kd.R_alloc | apply Kd.R_drewN | apply Kd.R_drew)); exact HO255.out) (Kd.R_base ho1) hb); have n2_ := Aside0.mk (Kd.S_lower (Kd.S_new' ho0 (Kd.R_lt (by (with_reducible repeat (first | apply Kd.R_alloc | apply Kd.R_drewN | apply Kd.R_drew)); exact HO255.out))) (below_size (by repeat (first | (with_reducible first | exact HB.out | apply below_alloc | apply pw_below_drewN | apply below_drew1) | exact HB.out)))); have n3_ := Aside0.mk (Kd.R_lower (Kd.R_new' ho1 (Kd.R_lt (by (with_reducible repeat (first | apply Kd.R_alloc | apply Kd.R_drewN | apply Kd.R_drew)); exact HO255.out))) (below_size (by repeat (first | (with_reducible first | exact HB.out | apply below_alloc | apply pw_below_drewN | apply below_drew1) | exact HB.out)))); have n4_ := Aside0.mk (below_step (by repeat (first | (with_reducible first | exact HB.out | apply below_alloc | apply pw_below_drewN | apply below_drew1) | exact HB.out)) hb); clear HO252; clear HO255; clear HB; have HO252 := n0_; have HO255 := n1_; have HO258 := n2_; have HO261 := n3_; have HB := n4_; clear n0_ n1_ n2_ n3_ n4_; (try clear hb); (try clear hb2); (try clear hk); (try clear hi); (try clear ho0); (try clear ho1)) | ((with_reducible refine gate_dst (N := 1) rfl ?_); (try (refine gate_guard (by rfl) ?_; dsimp only)); refine box_event ?hg (N := 1) ?hd (cs := #[.slice none 0 0, .slice none 0 0]) (t := 28) ?hr ?_; (case hd => rfl); (case hg => rfl); (case hr => first | (go_simp; done) | (go_simp; rfl)); intro gb263 hg w21 hbox hb; have n0_ := Aside0.mk (Kd.R_below (by (with_reducible repeat (first | apply Kd.R_alloc | apply Kd.R_drewN | apply Kd.R_drew)); exact HO252.out) hb); have n1_ := Aside0.mk (Kd.R_below (by (with_reducible repeat (first | apply Kd.R_alloc | apply Kd.R_drewN | apply Kd.R_drew)); exact HO255.out) hb); have n2_ := Aside0.mk (Kd.S_below (by (with_reducible repeat (first | apply Kd.S_alloc | apply Kd.S_drewN | apply Kd.S_drew)); exact HO258.out) hb); have n3_ := Aside0.mk (Kd.R_below (by (with_reducible repeat (first | apply Kd.R_alloc | apply Kd.R_drewN | apply Kd.R_drew)); exact HO261.out) hb); have n4_ := Aside0.mk (below_step (by repeat (first | (with_reducible first | exact HB.out | apply below_alloc | apply pw_below_drewN | apply below_drew1) | exact HB.out)) hb); have n5_ := Aside0.mk (hbox); have n6_ := Aside0.mk ((by rw [hg]; exact (below_size (by repeat (first | (with_reducible first | exact HB.out | apply below_alloc | apply pw_below_drewN | apply below_drew1) | exact HB.out))) : w.heap.size ≤ gb263)); have n7_ := Aside0.mk ((by rw [hg]; exact (below_size (by repeat (first | (with_reducible first | exact HB.out | apply below_alloc | apply pw_below_drewN | apply below_drew1) | exact HB.out))) : w.heap.size ≤ gb263)); clear HO252; clear HO255; clear HO258; clear HO261; clear HB; have HO252 := n0_; have HO255 := n1_; have HO258 := n2_; have HO261 := n3_; have HB := n4_; have BK263 := n5_; have GW263 := n6_; have GE263 := n7_; clear n0_ n1_ n2_ n3_ n4_ n5_ n6_ n7_; clear hb hbox hg; obtain ⟨Ao22, co22, eo22⟩ := Kd.S_slice HO258.out; subst eo22; have hcz23_0 : w21.cell? ⟨gb263, 0, none⟩ = some (.slice none 0 0) := (blk_cell BK263.out 0).trans rfl; have hcz23_1 : w21.cell? ⟨gb263, 1, none⟩ = some (.slice none 0 0) := (blk_cell BK263.out 1).trans rfl; have hfz23_0 := blk_frozen BK263.out 0; have hfz23_1 := blk_frozen BK263.out 1; obtain ⟨Ao24, co24, eo24⟩ := Kd.R_slice HO261.out; subst eo24) | ((with_reducible refine gate_dst (N := 13) rfl ?_); (try (refine gate_guard (by rfl) ?_; dsimp only)); refine Kd.R_lit (Kd.int .u64) _ 54 ?hg (N := 13) ?hd (xs := ([0] : List Int)) (inner := [.int .u64 0]) (ok := fun _ => True) (okp := fun _ => True) ?hr ?hp (fun _ hk => hk) trivial (Below.refl _ _) (Nat.le_refl _) (by simp) ?_; (case hd => rfl); (case hg => rfl); (case hr => first | (go_simp; done) | (go_simp; rfl)); (case hp => exact (Reps.one (show Kd.M (Kd.int .u64) _ _ _ 0 [.int .u64 0] from rfl) (Reps.none _ _))); intro v265 w25 ho26 hb hg_ hnew_; clear hg_ hnew_; (first | rw [← Ny264.out] at ho26 | (simp only [Int.reduceToNat] at ho26; rw [← Ny264.out] at ho26)); have n0_ := Aside0.mk (Kd.R_elder' (by (with_reducible repeat (first | apply Kd.R_alloc | apply Kd.R_drewN | apply Kd.R_drew)); exact (Kd.R_mono (Kd.R_far (p := ⟨gb263, 1, none⟩) (Kd.R_far (p := ⟨gb263, 0, none⟩) (Kd.R_types HO252.out BK263.out (by decide)) (fun _ hk => hk.2) (.slice Ao22 t256.length co22)) (fun _ hk => hk.2) (.slice Ao24 t259.length co24)) (fun _ h_ => h_.1))) (Kd.R_base ho26) hb); have n1_ := Aside0.mk (Kd.R_below (by (with_reducible repeat (first | apply Kd.R_alloc | apply Kd.R_drewN | apply Kd.R_drew)); exact (Kd.R_mono (Kd.R_far (p := ⟨gb263, 1, none⟩) (Kd.R_far (p := ⟨gb263, 0, none⟩) (Kd.R_types HO255.out BK263.out (by decide)) (fun _ hk => hk.2) (.slice Ao22 t256.length co22)) (fun _ hk => hk.2) (.slice Ao24 t259.length co24)) (fun _ h_ => h_.1))) hb); have n2_ := Aside0.mk (Kd.S_below (by (with_reducible repeat (first | apply Kd.S_alloc | apply Kd.S_drewN | apply Kd.S_drew)); exact (Kd.S_mono (Kd.S_far (p := ⟨gb263, 1, none⟩) (Kd.S_far (p := ⟨gb263, 0, none⟩) (Kd.S_types HO258.out BK263.out (by decide)) (fun _ hk => hk.2) (.slice Ao22 t256.length co22)) (fun _ hk => hk.2) (.slice Ao24 t259.length co24)) (fun _ h_ => h_.1))) hb); have n3_ := Aside0.mk (Kd.R_below (by (with_reducible repeat (first | apply Kd.R_alloc | apply Kd.R_drewN | apply Kd.R_drew)); exact (Kd.R_mono (Kd.R_far (p := ⟨gb263, 1, none⟩) (Kd.R_far (p := ⟨gb263, 0, none⟩) (Kd.R_types HO261.out BK263.out (by decide)) (fun _ hk => hk.2) (.slice Ao22 t256.length co22)) (fun _ hk => hk.2) (.slice Ao24 t259.length co24)) (fun _ h_ => h_.1))) hb); have n4_ := Aside0.mk (Kd.R_lower (Kd.R_new' ho26 (Kd.R_lt (by (with_reducible repeat (first | apply Kd.R_alloc | apply Kd.R_drewN | apply Kd.R_drew)); exact (Kd.R_mono (Kd.R_far (p := ⟨gb263, 1, none⟩) (Kd.R_far (p := ⟨gb263, 0, none⟩) (Kd.R_types HO252.out BK263.out (by decide)) (fun _ hk => hk.2) (.slice Ao22 t256.length co22)) (fun _ hk => hk.2) (.slice Ao24 t259.length co24)) (fun _ h_ => h_.1))))) (below_size (by repeat (first | (with_reducible first | exact HB.out | apply below_alloc | apply pw_below_drewN | apply below_drew1 | refine below_set ?_ GE263.out) | exact HB.out)))); have n5_ := Aside0.mk (blk_below (g := gb263) (o := .cells #[.slice Ao22 t256.length co22, .slice Ao24 t259.length co24] 28 (0, 0)) (by (with_reducible repeat (first | refine blk_drewN ?_ _ | refine blk_drew ?_ | refine blk_alloc ?_ _)); refine blk_put (cs := #[.slice Ao22 t256.length co22, .slice none 0 0]) ?_ 1 _ rfl; (with_reducible repeat (first | refine blk_drewN ?_ _ | refine blk_drew ?_ | refine blk_alloc ?_ _)); refine blk_put (cs := #[.slice none 0 0, .slice none 0 0]) ?_ 0 _ rfl; (with_reducible repeat (first | refine blk_drewN ?_ _ | refine blk_drew ?_ | refine blk_alloc ?_ _)); exact BK263.out) hb); have n6_ := Aside0.mk (below_step (by repeat (first | (with_reducible first | exact HB.out | apply below_alloc | apply pw_below_drewN | apply below_drew1 | refine below_set ?_ GE263.out) | exact HB.out)) hb); clear HO252; clear HO255; clear HO258; clear HO261; clear BK263; clear HB; have HO252 := n0_; have HO255 := n1_; have HO258 := n2_; have HO261 := n3_; have HO266 := n4_; have BK263 := n5_; have HB := n6_; clear n0_ n1_ n2_ n3_ n4_ n5_ n6_; clear hb ho26; obtain ⟨Ao27, co27, eo27⟩ := Kd.R_slice HO266.out; subst eo27) | ((with_reducible refine gate_callee (f := 12) rfl ?_); refine goesL_ (some 15) rfl rfl Tryd.func12 (by kernel_rfl) rfl #[.agg #[.slice Ao27 y264.length co27], .slice none 0 0] rfl (by (try simp only [List.map_toArray, List.map_cons, List.map_nil]); first | done | rfl | (simp only [List.length_drop, List.length_take]; rfl)) ?_; (refine (decomp_Build.calls (hTb := (by first | exact HTAB.out | exact tab_drewN HTAB.out _ | exact tab_below HTAB.out (by repeat (first | (with_reducible first | exact HB.out | apply below_alloc | apply pw_below_drewN | apply below_drew1 | refine below_set ?_ GE263.out | refine below_set ?_ GE274.out) | exact HB.out)))) _ _ y264 _ _ ([] : List Int) t267 t270 t273 _ ?side1 ?side2 ?side3 ?side4 A2.out).mono ?_); (case side1 => repeat (first | exact (Kd.R_reads' HO266.out).2.2 | (with_reducible refine Kd.C_alloc ?_ _) | (with_reducible refine Kd.C_drewN ?_ _) | (with_reducible refine Kd.C_drew ?_))); (case side2 => exact (Kd.R_reads' HO266.out).2.1); (case side3 => exact Kd.C_nil _ _); (case side4 => exact Nat.le_refl _); rintro e w28 ⟨v268, v271, rfl, ho0, ho1, hb⟩; refine ⟨_, rfl, ?_⟩; have n0_ := Aside0.mk (Kd.R_below (by (with_reducible repeat (first | apply Kd.R_alloc | apply Kd.R_drewN | apply Kd.R_drew)); exact HO252.out) hb); have n1_ := Aside0.mk (Kd.R_elder' (by (with_reducible repeat (first | apply Kd.R_alloc | apply Kd.R_drewN | apply Kd.R_drew)); exact HO255.out) (Kd.R_base ho1) hb); have n2_ := Aside0.mk (Kd.S_mono (Kd.S_told (Kd.S_told (Kd.S_old (by (with_reducible repeat (first | apply Kd.S_alloc | apply Kd.S_drewN | apply Kd.S_drew)); exact HO258.out) hb) (Kd.S_base ho0)) (Kd.R_base ho1)) (fun _ h_ => h_.1)); have n3_ := Aside0.mk (Kd.R_elder' (by (with_reducible repeat (first | apply Kd.R_alloc | apply Kd.R_drewN | apply Kd.R_drew)); exact HO261.out) (Kd.R_base ho1) hb); have n4_ := Aside0.mk (Kd.R_below (by (with_reducible repeat (first | apply Kd.R_alloc | apply Kd.R_drewN | apply Kd.R_drew)); exact HO266.out) hb); have n5_ := Aside0.mk (Kd.S_lower (Kd.S_new' (Kd.S_new' (Kd.S_new' ho0 (Kd.R_lt (by (with_reducible repeat (first | apply Kd.R_alloc | apply Kd.R_drewN | apply Kd.R_drew)); exact HO255.out))) (Kd.S_lt (by (with_reducible repeat (first | apply Kd.S_alloc | apply Kd.S_drewN | apply Kd.S_drew)); exact HO258.out))) (Kd.R_lt (by (with_reducible repeat (first | apply Kd.R_alloc | apply Kd.R_drewN | apply Kd.R_drew)); exact HO261.out))) (below_size (by repeat (first | (with_reducible first | exact HB.out | apply below_alloc | apply pw_below_drewN | apply below_drew1 | refine below_set ?_ GE263.out) | exact HB.out)))); have n6_ := Aside0.mk (Kd.R_lower (Kd.R_new' (Kd.R_new' ho1 (Kd.R_lt (by (with_reducible repeat (first | apply Kd.R_alloc | apply Kd.R_drewN | apply Kd.R_drew)); exact HO255.out))) (Kd.R_lt (by (with_reducible repeat (first | apply Kd.R_alloc | apply Kd.R_drewN | apply Kd.R_drew)); exact HO261.out))) (below_size (by repeat (first | (with_reducible first | exact HB.out | apply below_alloc | apply pw_below_drewN | apply below_drew1 | refine below_set ?_ GE263.out) | exact HB.out)))); have n7_ := Aside0.mk (blk_below (g := gb263) (o := .cells #[.slice Ao22 t256.length co22, .slice Ao24 t259.length co24] 28 (0, 0)) (by (with_reducible repeat (first | refine blk_drewN ?_ _ | refine blk_drew ?_ | refine blk_alloc ?_ _)); exact BK263.out) hb); have n8_ := Aside0.mk (below_step (by repeat (first | (with_reducible first | exact HB.out | apply below_alloc | apply pw_below_drewN | apply below_drew1 | refine below_set ?_ GE263.out) | exact HB.out)) hb); clear HO252; clear HO255; clear HO258; clear HO261; clear HO266; clear BK263; clear HB; have HO252 := n0_; have HO255 := n1_; have HO258 := n2_; have HO261 := n3_; have HO266 := n4_; have HO269 := n5_; have HO272 := n6_; have BK263 := n7_; have HB := n8_; clear n0_ n1_ n2_ n3_ n4_ n5_ n6_ n7_ n8_; (try clear hb); (try clear hb2); (try clear hk); (try clear hi); (try clear ho0); (try clear ho1)) | ((with_reducible refine gate_dst (N := 3) rfl ?_); (try (refine gate_guard (by rfl) ?_; dsimp only)); refine box_event ?hg (N := 3) ?hd (cs := #[.slice none 0 0, .slice none 0 0]) (t := 28) ?hr ?_; (case hd => rfl); (case hg => rfl); (case hr => first | (go_simp; done) | (go_simp; rfl)); intro gb274 hg w29 hbox hb; have n0_ := Aside0.mk (Kd.R_below (by (with_reducible repeat (first | apply Kd.R_alloc | apply Kd.R_drewN | apply Kd.R_drew)); exact HO252.out) hb); have n1_ := Aside0.mk (Kd.R_below (by (with_reducible repeat (first | apply Kd.R_alloc | apply Kd.R_drewN | apply Kd.R_drew)); exact HO255.out) hb); have n2_ := Aside0.mk (Kd.S_below (by (with_reducible repeat (first | apply Kd.S_alloc | apply Kd.S_drewN | apply Kd.S_drew)); exact HO258.out) hb); have n3_ := Aside0.mk (Kd.R_below (by (with_reducible repeat (first | apply Kd.R_alloc | apply Kd.R_drewN | apply Kd.R_drew)); exact HO261.out) hb); have n4_ := Aside0.mk (Kd.R_below (by (with_reducible repeat (first | apply Kd.R_alloc | apply Kd.R_drewN | apply Kd.R_drew)); exact HO266.out) hb); have n5_ := Aside0.mk (Kd.S_below (by (with_reducible repeat (first | apply Kd.S_alloc | apply Kd.S_drewN | apply Kd.S_drew)); exact HO269.out) hb); have n6_ := Aside0.mk (Kd.R_below (by (with_reducible repeat (first | apply Kd.R_alloc | apply Kd.R_drewN | apply Kd.R_drew)); exact HO272.out) hb); have n7_ := Aside0.mk (blk_below (g := gb263) (o := .cells #[.slice Ao22 t256.length co22, .slice Ao24 t259.length co24] 28 (0, 0)) (by (with_reducible repeat (first | refine blk_drewN ?_ _ | refine blk_drew ?_ | refine blk_alloc ?_ _)); exact BK263.out) hb); have n8_ := Aside0.mk (below_step (by repeat (first | (with_reducible first | exact HB.out | apply below_alloc | apply pw_below_drewN | apply below_drew1 | refine below_set ?_ GE263.out) | exact HB.out)) hb); have n9_ := Aside0.mk (hbox); have n10_ := Aside0.mk ((by rw [hg]; exact (below_size (by repeat (first | (with_reducible first | exact HB.out | apply below_alloc | apply pw_below_drewN | apply below_drew1 | refine below_set ?_ GE263.out) | exact HB.out))) : w.heap.size ≤ gb274)); have n11_ := Aside0.mk ((by rw [hg]; exact (below_size (by repeat (first | (with_reducible first | exact HB.out | apply below_alloc | apply pw_below_drewN | apply below_drew1 | refine below_set ?_ GE263.out) | exact HB.out))) : w.heap.size ≤ gb274)); have n12_ := Aside0.mk ((by rw [hg]; exact Nat.ne_of_lt (blk_lt (g := gb263) (o := .cells #[.slice Ao22 t256.length co22, .slice Ao24 t259.length co24] 28 (0, 0)) (by (with_reducible repeat (first | refine blk_drewN ?_ _ | refine blk_drew ?_ | refine blk_alloc ?_ _)); exact BK263.out)) : gb263 ≠ gb274)); have n13_ := Aside0.mk ((by rw [hg]; exact Nat.ne_of_gt (blk_lt (g := gb263) (o := .cells #[.slice Ao22 t256.length co22, .slice Ao24 t259.length co24] 28 (0, 0)) (by (with_reducible repeat (first | refine blk_drewN ?_ _ | refine blk_drew ?_ | refine blk_alloc ?_ _)); exact BK263.out)) : gb274 ≠ gb263)); clear HO252; clear HO255; clear HO258; clear HO261; clear HO266; clear HO269; clear HO272; clear BK263; clear HB; have HO252 := n0_; have HO255 := n1_; have HO258 := n2_; have HO261 := n3_; have HO266 := n4_; have HO269 := n5_; have HO272 := n6_; have BK263 := n7_; have HB := n8_; have BK274 := n9_; have GW274 := n10_; have GE274 := n11_; have NB263_274 := n12_; have NB274_263 := n13_; clear n0_ n1_ n2_ n3_ n4_ n5_ n6_ n7_ n8_ n9_ n10_ n11_ n12_ n13_; clear hb hbox hg; obtain ⟨Ao30, co30, eo30⟩ := Kd.S_slice HO269.out; subst eo30; have hnb31 := NB274_263.out; have hnc31 := NB263_274.out; have hcz32_0 : w29.cell? ⟨gb274, 0, none⟩ = some (.slice none 0 0) := (blk_cell BK274.out 0).trans rfl; have hcz32_1 : w29.cell? ⟨gb274, 1, none⟩ = some (.slice none 0 0) := (blk_cell BK274.out 1).trans rfl; have hfz32_0 := blk_frozen BK274.out 0; have hfz32_1 := blk_frozen BK274.out 1; obtain ⟨Ao33, co33, eo33⟩ := Kd.R_slice HO272.out; subst eo33) | ((with_reducible refine gate_store (t := 28) (p := 3) rfl ?_); refine store_event (t := 28) (p := 3) (v := ?vo_w34) (w1 := ((w29.setCell ⟨gb274, 0, none⟩ (.slice Ao30 t267.length co30)).setCell ⟨gb274, 1, none⟩ (.slice Ao33 t270.length co33))) ?hg ?ho ?hn ?hr ?_; (case ho => rfl); (case hg => rfl); (case hn => rfl); (case hr => first | (go_simp; done) | (go_simp; rfl)); intro w34 hw; have n0_ : Aside0 (Kd.R (Kd.int .u64) 54 w34 w.heap.size (fun k_ => some k_ ≠ (.slice Ao27 y264.length co27 : Value).ownBlock) (.slice Ao16 y250.length co16) y250) := ⟨(by rw [hw]; exact (by (with_reducible repeat (first | apply Kd.R_alloc | apply Kd.R_drewN | apply Kd.R_drew)); exact Kd.R_mono (Kd.R_far (p := ⟨gb274, 1, none⟩) (Kd.R_far (p := ⟨gb274, 0, none⟩) (Kd.R_types HO252.out BK274.out (by decide)) (fun _ hk => hk.2) (.slice Ao30 t267.length co30)) (fun _ hk => hk.2) (.slice Ao33 t270.length co33)) (fun _ hk => hk.1.2)))⟩; have n1_ : Aside0 (Kd.R (Kd.int .i64) 3 w34 w.heap.size (fun k_ => some k_ ≠ (.slice Ao24 t259.length co24 : Value).ownBlock ∧ some k_ ≠ (.slice Ao33 t270.length co33 : Value).ownBlock) (.slice Ao19 y253.length co19) y253) := ⟨(by rw [hw]; exact (by (with_reducible repeat (first | apply Kd.R_alloc | apply Kd.R_drewN | apply Kd.R_drew)); exact Kd.R_mono (Kd.R_far (p := ⟨gb274, 1, none⟩) (Kd.R_far (p := ⟨gb274, 0, none⟩) (Kd.R_types HO255.out BK274.out (by decide)) (fun _ hk => hk.2) (.slice Ao30 t267.length co30)) (fun _ hk => hk.2) (.slice Ao33 t270.length co33)) (fun _ hk => ⟨hk.1.1.2, hk.1.2⟩)))⟩; have n2_ : Aside0 (Kd.S (Kd.slice 3 (Kd.int .i64)) 23 w34 w.heap.size (fun k_ => some k_ ≠ (.slice Ao19 y253.length co19 : Value).ownBlock ∧ some k_ ≠ (.slice Ao24 t259.length co24 : Value).ownBlock ∧ some k_ ≠ (.slice Ao30 t267.length co30 : Value).ownBlock ∧ some k_ ≠ (.slice Ao33 t270.length co33 : Value).ownBlock) (.slice Ao22 t256.length co22) t256) := ⟨(by rw [hw]; exact (by (with_reducible repeat (first | apply Kd.S_alloc | apply Kd.S_drewN | apply Kd.S_drew)); exact Kd.S_mono (Kd.S_far (p := ⟨gb274, 1, none⟩) (Kd.S_far (p := ⟨gb274, 0, none⟩) (Kd.S_types HO258.out BK274.out (by decide)) (fun _ hk => hk.2) (.slice Ao30 t267.length co30)) (fun _ hk => hk.2) (.slice Ao33 t270.length co33)) (fun _ hk => ⟨hk.1.1.1.2, ⟨hk.1.1.1.1, ⟨hk.1.1.2, hk.1.2⟩⟩⟩)))⟩; have n3_ : Aside0 (Kd.R (Kd.int .i64) 3 w34 w.heap.size (fun k_ => some k_ ≠ (.slice Ao19 y253.length co19 : Value).ownBlock ∧ some k_ ≠ (.slice Ao33 t270.length co33 : Value).ownBlock) (.slice Ao24 t259.length co24) t259) := ⟨(by rw [hw]; exact (by (with_reducible repeat (first | apply Kd.R_alloc | apply Kd.R_drewN | apply Kd.R_drew)); exact Kd.R_mono (Kd.R_far (p := ⟨gb274, 1, none⟩) (Kd.R_far (p := ⟨gb274, 0, none⟩) (Kd.R_types HO261.out BK274.out (by decide)) (fun _ hk => hk.2) (.slice Ao30 t267.length co30)) (fun _ hk => hk.2) (.slice Ao33 t270.length co33)) (fun _ hk => ⟨hk.1.1.2, hk.1.2⟩)))⟩; have n4_ : Aside0 (Kd.R (Kd.int .u64) 54 w34 w.heap.size (fun k_ => some k_ ≠ (.slice Ao16 y250.length co16 : Value).ownBlock) (.slice Ao27 y264.length co27) y264) := ⟨(by rw [hw]; exact (by (with_reducible repeat (first | apply Kd.R_alloc | apply Kd.R_drewN | apply Kd.R_drew)); exact Kd.R_mono (Kd.R_far (p := ⟨gb274, 1, none⟩) (Kd.R_far (p := ⟨gb274, 0, none⟩) (Kd.R_types HO266.out BK274.out (by decide)) (fun _ hk => hk.2) (.slice Ao30 t267.length co30)) (fun _ hk => hk.2) (.slice Ao33 t270.length co33)) (fun _ hk => hk.1.2)))⟩; have n5_ : Aside0 (Kd.S (Kd.slice 3 (Kd.int .i64)) 23 w34 w.heap.size (fun k_ => some k_ ≠ (.slice Ao19 y253.length co19 : Value).ownBlock ∧ some k_ ≠ (.slice Ao22 t256.length co22 : Value).ownBlock ∧ some k_ ≠ (.slice Ao24 t259.length co24 : Value).ownBlock ∧ some k_ ≠ (.slice Ao33 t270.length co33 : Value).ownBlock) (.slice Ao30 t267.length co30) t267) := ⟨(by rw [hw]; exact (by (with_reducible repeat (first | apply Kd.S_alloc | apply Kd.S_drewN | apply Kd.S_drew)); exact Kd.S_mono (Kd.S_far (p := ⟨gb274, 1, none⟩) (Kd.S_far (p := ⟨gb274, 0, none⟩) (Kd.S_types HO269.out BK274.out (by decide)) (fun _ hk => hk.2) (.slice Ao30 t267.length co30)) (fun _ hk => hk.2) (.slice Ao33 t270.length co33)) (fun _ hk => ⟨hk.1.1.1.2, ⟨hk.1.1.2, ⟨hk.1.2, hk.1.1.1.1⟩⟩⟩)))⟩; have n6_ : Aside0 (Kd.R (Kd.int .i64) 3 w34 w.heap.size (fun k_ => some k_ ≠ (.slice Ao19 y253.length co19 : Value).ownBlock ∧ some k_ ≠ (.slice Ao24 t259.length co24 : Value).ownBlock) (.slice Ao33 t270.length co33) t270) := ⟨(by rw [hw]; exact (by (with_reducible repeat (first | apply Kd.R_alloc | apply Kd.R_drewN | apply Kd.R_drew)); exact Kd.R_mono (Kd.R_far (p := ⟨gb274, 1, none⟩) (Kd.R_far (p := ⟨gb274, 0, none⟩) (Kd.R_types HO272.out BK274.out (by decide)) (fun _ hk => hk.2) (.slice Ao30 t267.length co30)) (fun _ hk => hk.2) (.slice Ao33 t270.length co33)) (fun _ hk => ⟨hk.1.1.2, hk.1.2⟩)))⟩; have n7_ : Aside0 (w34.heap[gb263]? = some (.cells #[.slice Ao22 t256.length co22, .slice Ao24 t259.length co24] 28 (0, 0))) := ⟨(by rw [hw]; exact (by (with_reducible repeat (first | refine blk_drewN ?_ _ | refine blk_drew ?_ | refine blk_alloc ?_ _)); refine blk_far ?_ NB263_274.out _; (with_reducible repeat (first | refine blk_drewN ?_ _ | refine blk_drew ?_ | refine blk_alloc ?_ _)); refine blk_far ?_ NB263_274.out _; (with_reducible repeat (first | refine blk_drewN ?_ _ | refine blk_drew ?_ | refine blk_alloc ?_ _)); exact BK263.out))⟩; have n8_ : Aside0 (w34.heap[gb274]? = some (.cells #[.slice Ao30 t267.length co30, .slice Ao33 t270.length co33] 28 (0, 0))) := ⟨(by rw [hw]; exact (by (with_reducible repeat (first | refine blk_drewN ?_ _ | refine blk_drew ?_ | refine blk_alloc ?_ _)); refine blk_put (cs := #[.slice Ao30 t267.length co30, .slice none 0 0]) ?_ 1 _ rfl; (with_reducible repeat (first | refine blk_drewN ?_ _ | refine blk_drew ?_ | refine blk_alloc ?_ _)); refine blk_put (cs := #[.slice none 0 0, .slice none 0 0]) ?_ 0 _ rfl; (with_reducible repeat (first | refine blk_drewN ?_ _ | refine blk_drew ?_ | refine blk_alloc ?_ _)); exact BK274.out))⟩; have n9_ : Aside0 (Below w.heap.size w w34) := ⟨(by rw [hw]; exact (by repeat (first | (with_reducible first | exact HB.out | apply below_alloc | apply pw_below_drewN | apply below_drew1 | refine below_set ?_ GE263.out | refine below_set ?_ GE274.out) | exact HB.out)))⟩; clear hw; clear HO252; clear HO255; clear HO258; clear HO261; clear HO266; clear HO269; clear HO272; clear BK263; clear BK274; clear HB; have HO252 := n0_; have HO255 := n1_; have HO258 := n2_; have HO261 := n3_; have HO266 := n4_; have HO269 := n5_; have HO272 := n6_; have BK263 := n7_; have BK274 := n8_; have HB := n9_; clear n0_ n1_ n2_ n3_ n4_ n5_ n6_ n7_ n8_ n9_; have hcz35_0 : w34.cell? ⟨gb263, 0, none⟩ = some (.slice Ao22 t256.length co22) := (blk_cell BK263.out 0).trans rfl; have hcz35_1 : w34.cell? ⟨gb263, 1, none⟩ = some (.slice Ao24 t259.length co24) := (blk_cell BK263.out 1).trans rfl; have hfz35_0 := blk_frozen BK263.out 0; have hfz35_1 := blk_frozen BK263.out 1; have p275 : 0 ≤ (0 : Int) := (by omega); have q275 : 0 < (t259.length : Int) := of_decide_eq_true (by first | (with_reducible assumption) | assumption); obtain ⟨ad275, e275, hx275_0⟩ := Kd.at_int (Kd.R_reads' HO261.out).2.2 0 p275 q275; cases e275; have qi275 : (0 < t259.length) = True := eq_true (by omega); (try rw [show ((0 : Int)).toNat = 0 from rfl] at hx275_0); (try rw [Addr.add_zero'] at hx275_0); replace p275 := eq_true p275; replace q275 := eq_true q275; have p276 : 0 ≤ (1 : Int) := (by omega); have q276 : 1 < (t259.length : Int) := of_decide_eq_true (by first | (with_reducible assumption) | assumption); obtain ⟨ad276, e276, hx276_0⟩ := Kd.at_int (Kd.R_reads' HO261.out).2.2 1 p276 q276; obtain rfl : ad275 = ad276 := (by injection e276); (try simp only [show (1 : Int).toNat = 1 from rfl, Nat.reduceMul, Nat.reduceEqDiff, Go.Addr.add, ↓reduceIte] at hx276_0); have qi276 : (1 < t259.length) = True := eq_true (by omega); (try rw [show ((1 : Int)).toNat = 1 from rfl] at hx276_0); replace p276 := eq_true p276; replace q276 := eq_true q276; have p277 : 0 ≤ (1 : Int) := (by omega); have q277 : 1 < (t256.length : Int) := of_decide_eq_true (by first | (with_reducible assumption) | assumption); obtain ⟨ad277, A277_0, c277_0, e277, hx277_0, hl277_0, hi277_0⟩ := at_L1 (Kd.S_reads' HO258.out).2.2 1 p277 q277; cases e277; obtain ⟨ce277, hce277, hMe277, hcc277⟩ := Kd.S_get HO258.out [] 1 p277 (by first | exact q277 | exact of_decide_eq_true (by first | (with_reducible assumption) | assumption) | (have e_ := (Kd.S_reads' HO258.out).1; omega)); obtain ⟨ve277_0, rfl, ge277_0⟩ := hMe277; have hv277_0 := hcc277 0 _ rfl; rw [Nat.add_zero, show ((Kd.slice 3 (Kd.int .i64))).sz = 1 from rfl, Nat.mul_one] at hv277_0; replace hv277_0 := Option.some.inj (hv277_0.symm.trans hx277_0); rw [hv277_0] at ge277_0; have HL277_0 := Aside0.mk (show Kd.R (Kd.int .i64) 3 _ _ _ _ (rd_L1 t256 1) from ge277_0); clear hv277_0 ge277_0; clear hcc277 hce277; (try simp only [show (1 : Int).toNat = 1 from rfl, Nat.reduceMul, Nat.reduceEqDiff, Go.Addr.add, ↓reduceIte] at hx277_0); have qi277 : (1 < t256.length) = True := eq_true (by omega); (try rw [show ((1 : Int)).toNat = 1 from rfl] at hx277_0); have HR277_0 := Aside0.mk hi277_0; have HC277_0 := Aside0.mk hl277_0; clear hi277_0 hl277_0; replace p277 := eq_true p277; replace q277 := eq_true q277; have p278 : 0 ≤ (1 : Int) := (by omega); have q278 : 1 < (t256.length : Int) := of_decide_eq_true (by first | (with_reducible assumption) | assumption); obtain ⟨ad278, A278_0, c278_0, e278, hx278_0, hl278_0, hi278_0⟩ := at_L1 (Kd.S_reads' HO258.out).2.2 1 p278 q278; obtain rfl : ad277 = ad278 := (by injection e278); obtain ⟨ce278, hce278, hMe278, hcc278⟩ := Kd.S_get HO258.out [] 1 p278 (by first | exact q278 | exact of_decide_eq_true (by first | (with_reducible assumption) | assumption) | (have e_ := (Kd.S_reads' HO258.out).1; omega)); obtain ⟨ve278_0, rfl, ge278_0⟩ := hMe278; have hv278_0 := hcc278 0 _ rfl; rw [Nat.add_zero, show ((Kd.slice 3 (Kd.int .i64))).sz = 1 from rfl, Nat.mul_one] at hv278_0; replace hv278_0 := Option.some.inj (hv278_0.symm.trans hx278_0); rw [hv278_0] at ge278_0; have HL278_0 := Aside0.mk (show Kd.R (Kd.int .i64) 3 _ _ _ _ (rd_L1 t256 1) from ge278_0); clear hv278_0 ge278_0; clear hcc278 hce278; (try simp only [show (1 : Int).toNat = 1 from rfl, Nat.reduceMul, Nat.reduceEqDiff, Go.Addr.add, ↓reduceIte] at hx278_0); have qi278 : (1 < t256.length) = True := eq_true (by omega); (try rw [show ((1 : Int)).toNat = 1 from rfl] at hx278_0); have HR278_0 := Aside0.mk hi278_0; have HC278_0 := Aside0.mk hl278_0; clear hi278_0 hl278_0; replace p278 := eq_true p278; replace q278 := eq_true q278; have ea_ := Option.some.inj (hx277_0.symm.trans hx278_0); injection ea_ with ea_ en_ ec_; subst ea_; subst ec_; clear en_; have p279 : 0 ≤ (0 : Int) := (by omega); have q279 : 0 < ((rd_L1 t256 1).length : Int) := of_decide_eq_true (by first | (with_reducible assumption) | assumption); obtain ⟨ad279, e279, hx279_0⟩ := Kd.at_int (by repeat (first | (with_reducible exact HR278_0.out) | (with_reducible refine Kd.C_alloc ?_ _) | (with_reducible refine Kd.C_drewN ?_ _) | (with_reducible refine Kd.C_drew ?_) | exact HR278_0.out)) 0 p279 q279; cases e279; have qi279 : (0 < (rd_L1 t256 1).length) = True := eq_true (by omega); (try rw [show ((0 : Int)).toNat = 0 from rfl] at hx279_0); (try rw [Addr.add_zero'] at hx279_0); replace p279 := eq_true p279; replace q279 := eq_true q279))
                        go_ret
                        exact ⟨by first | rfl | (simp [errW_none, errW_some] <;> rfl) | (simp [*, errW_none, errW_some] <;> rfl), by repeat (first | (with_reducible first | exact HB.out | apply below_alloc | apply pw_below_drewN | apply below_drew1 | refine below_set ?_ GE263.out | refine below_set ?_ GE274.out) | exact HB.out)⟩
                      · rw [if_neg c13] at H
                        have c13b0 : ((rd (rd_L1 t256 1) 0) == 1) = false := beq_eq_false_iff_ne.mpr c13
                        have c13b1 : ((rd (rd_L1 t256 1) 0) != 1) = true := bne_iff_ne.mpr c13
                        exact absurd ((Option.some.inj H).trans HT_.out) (by decide)
                    · rw [if_neg c12] at H
                      exact absurd H (by simp)
                  · rw [if_neg c11] at H
                    have c11b0 : (((rd_L1 t256 1).length : Int) == 3) = false := beq_eq_false_iff_ne.mpr c11
                    have c11b1 : (((rd_L1 t256 1).length : Int) != 3) = true := bne_iff_ne.mpr c11
                    exact absurd ((Option.some.inj H).trans HT_.out) (by decide)
                · rw [if_neg c10] at H
                  exact absurd H (by simp)
              · rw [if_neg c9] at H
                have c9b0 : ((rd t259 1) == 0) = false := beq_eq_false_iff_ne.mpr c9
                have c9b1 : ((rd t259 1) != 0) = true := bne_iff_ne.mpr c9
                exact absurd ((Option.some.inj H).trans HT_.out) (by decide)
            · rw [if_neg c8] at H
              exact absurd H (by simp)
          · rw [if_neg c7] at H
            have c7b0 : ((rd t259 0) == (-1)) = false := beq_eq_false_iff_ne.mpr c7
            have c7b1 : ((rd t259 0) != (-1)) = true := bne_iff_ne.mpr c7
            exact absurd ((Option.some.inj H).trans HT_.out) (by decide)
        · rw [if_neg c6] at H
          exact absurd H (by simp)
      · rw [if_neg c5] at H
        have c5b0 : ((t259.length : Int) == 2) = false := beq_eq_false_iff_ne.mpr c5
        have c5b1 : ((t259.length : Int) != 2) = true := bne_iff_ne.mpr c5
        exact absurd ((Option.some.inj H).trans HT_.out) (by decide)
    · rw [if_neg c4] at H
      have c4b0 : ((t256.length : Int) == 2) = false := beq_eq_false_iff_ne.mpr c4
      have c4b1 : ((t256.length : Int) != 2) = true := bne_iff_ne.mpr c4
      exact absurd ((Option.some.inj H).trans HT_.out) (by decide)
  · rw [if_neg c3] at H
    have c3b0 : (t262 == 0) = false := beq_eq_false_iff_ne.mpr c3
    have c3b1 : (t262 != 0) = true := bne_iff_ne.mpr c3
    exact absurd ((Option.some.inj H).trans HT_.out) (by decide)

/-! ### arboristref08_Empty: function 16 -/
def arboristref08_Empty.l0 : Nat → Int → List (List Bool) → Int → Option ((List (List Bool)))
  | 0, _, _, _ => none
  | k + 1, x0, x3, x4 => if x4 < x0 then (if 0 ≤ x0 then (if (x0 : Int).toNat ≤ 281474976710656 then (if x3.length < 5864062014805 then (arboristref08_Empty.l0 k x0 (x3 ++ [(List.replicate (x0 : Int).toNat false)]) (wrap64 (x4 + 1))) else (none)) else (none)) else (none)) else (some x3)
def arboristref08_Empty.f (k : Nat) (a0 : Int) : Option ((List (List Bool))) := arboristref08_Empty.l0 k a0 (([] : List (List Bool))) 0
theorem arboristref08_Empty.mono_l : ∀ k, (∀ y0 y1 y2, LeO (arboristref08_Empty.l0 k y0 y1 y2) (arboristref08_Empty.l0 (k + 1) y0 y1 y2))
  | 0 => fun _ _ _ r h => by simp [arboristref08_Empty.l0] at h
  | k + 1 => by
    have ih0 := arboristref08_Empty.mono_l k
    all_goals intros
    all_goals (first | unfold arboristref08_Empty.l0)
    all_goals repeat' first
    | (with_reducible exact ih0 _ _ _)
    | (with_reducible exact LeO.refl _)
    | (with_reducible exact LeO.none _)
    | (with_reducible refine LeO.ite ?_ ?_)
    | (with_reducible refine LeO.bind ?_ (fun _ => ?_))
    | exact ih0 _ _ _
    | exact LeO.none _
    | refine LeO.ite ?_ ?_
    | refine LeO.bind ?_ (fun _ => ?_)
theorem arboristref08_Empty.mono : ∀ a0 k, LeO (arboristref08_Empty.f k a0) (arboristref08_Empty.f (k + 1) a0) := by
  intro a0 k
  have ih0 := arboristref08_Empty.mono_l k
  unfold arboristref08_Empty.f
  repeat' first
      | (with_reducible exact ih0 _ _ _)
      | (with_reducible exact LeO.refl _)
      | (with_reducible exact LeO.none _)
      | (with_reducible refine LeO.ite ?_ ?_)
      | (with_reducible refine LeO.bind ?_ (fun _ => ?_))
      | exact ih0 _ _ _
      | exact LeO.none _
      | refine LeO.ite ?_ ?_
      | refine LeO.bind ?_ (fun _ => ?_)
set_option maxHeartbeats 8000000 in
set_option maxRecDepth 100000 in
theorem arboristref08_Empty.calls (k : Nat) (a0 : Int) (r : List (List Bool)) (w : World) (h : arboristref08_Empty.f k a0 = some r) :
    Calls Tryd.prog 16 #[.int .i64 a0] w fun e w' => ∃ v0_ : Value, e = .returned (v0_) ∧ Kd.S (Kd.slice 4 Kd.bool) 40 w' w.heap.size (fun _ => True) v0_ r ∧ Below w.heap.size w w' := by
  have HB := Aside0.mk (Below.refl w.heap.size w)
  have H : (arboristref08_Empty.l0 k a0 (([] : List (List Bool))) 0) = some r := h
  clear h
  obtain ⟨y280, hy280⟩ : ∃ y_ : List (List Bool), y_ = (([] : List (List Bool))) := ⟨_, rfl⟩
  replace H : (arboristref08_Empty.l0 k a0 y280 0) = some r := by first | (rw [hy280]; with_reducible exact H) | (have H2_ := (Option.bind_some _ _).symm.trans H; rw [hy280]; with_reducible exact H2_) | (have H2_ := (Option.bind_some _ _).symm.trans H; with_reducible exact H2_) | with_reducible exact H | (rw [hy280]; exact H) | exact H
  have Ny280 := Aside0.mk hy280
  clear hy280
  have H' := Aside0.mk H
  clear H
  go_enter Tryd.func16, Tryd.ntmps16
  go_wp2_with (first | ((with_reducible refine gate_dst (N := 5) rfl ?_); refine Kd.S_lit (Kd.slice 4 Kd.bool) _ 40 ?hg (N := 5) ?hd (xs := ([] : List (List Bool))) (inner := []) (ok := fun _ => True) (okp := fun _ => True) ?hr ?hp (fun _ hk => hk) trivial (Below.refl _ _) (Nat.le_refl _) (by simp) ?_; (case hd => rfl); (case hg => rfl); (case hr => first | (go_simp; done) | (go_simp; rfl)); (case hp => exact (Reps.none _ _)); intro v281 w2 ho3 hb hg_ hnew_; clear hg_ hnew_; (first | rw [← Ny280.out] at ho3 | (simp only [Int.reduceToNat] at ho3; rw [← Ny280.out] at ho3)); have n0_ := Aside0.mk (Kd.S_lower ho3 (below_size (by repeat (first | (with_reducible first | exact HB.out | apply below_alloc | apply pw_below_drewN | apply below_drew1) | exact HB.out)))); have n1_ := Aside0.mk (below_step (by repeat (first | (with_reducible first | exact HB.out | apply below_alloc | apply pw_below_drewN | apply below_drew1) | exact HB.out)) hb); clear HB; have HO282 := n0_; have HB := n1_; clear n0_ n1_; clear hb ho3))
  go_loopg [3, 4] k (fun kq v3 v4 w' => ∃ (x3_1 : List (List Bool)) (x4_1 : Int), v4 = .int .i64 x4_1 ∧ Aside0 (arboristref08_Empty.l0 kq a0 x3_1 x4_1 = some r) ∧ Aside0 (kq ≤ k) ∧ Aside0 (Kd.S (Kd.slice 4 Kd.bool) 40 w' w.heap.size (fun _ => True) v3 x3_1) ∧ Aside0 (Below w.heap.size w w'))
  case atStart => exact ⟨(y280), (0), (by first | rfl | (simp; done) | (simp [*]; done)), H', ⟨Nat.le_refl _⟩, ⟨by (with_reducible repeat (first | apply Kd.S_alloc | apply Kd.S_drewN | apply Kd.S_drew)); exact HO282.out⟩, ⟨by repeat (first | (with_reducible first | exact HB.out | apply below_alloc | apply pw_below_drewN | apply below_drew1) | exact HB.out)⟩⟩
  case round =>
    clear H'
    try clear c1
    try clear p2
    obtain ⟨x3_1, x4_1, rfl, HA, HK1, HO_3, HB⟩ := hrel
    cases gk with
    | zero => exact absurd HA.out (by simp [arboristref08_Empty.l0])
    | succ k1 =>
      have H := HA.out
      clear HA
      simp only [arboristref08_Empty.l0] at H
      by_cases c4 : x4_1 < a0
      · rw [if_pos c4] at H
        have c4b0 : decide (x4_1 < a0) = true := decide_eq_true c4
        clear c4
        by_cases c5 : 0 ≤ a0
        · rw [if_pos c5] at H
          have c5b0 := eq_true c5
          have c5b1 : decide (0 ≤ a0) = true := decide_eq_true c5
          clear c5
          by_cases c6 : (a0 : Int).toNat ≤ 281474976710656
          · rw [if_pos c6] at H
            have c6b0 := eq_true c6
            have c6b1 : decide ((a0 : Int).toNat ≤ 281474976710656) = true := decide_eq_true c6
            clear c6
            obtain ⟨y283, hy283⟩ : ∃ y_ : List Bool, y_ = (List.replicate (a0 : Int).toNat false) := ⟨_, rfl⟩
            replace H : (if x3_1.length < 5864062014805 then (arboristref08_Empty.l0 k1 a0 (x3_1 ++ [y283]) (wrap64 (x4_1 + 1))) else (none)) = some r := by first | (rw [hy283]; with_reducible exact H) | (have H2_ := (Option.bind_some _ _).symm.trans H; rw [hy283]; with_reducible exact H2_) | (have H2_ := (Option.bind_some _ _).symm.trans H; with_reducible exact H2_) | with_reducible exact H | (rw [hy283]; exact H) | exact H
            have Ny283 := Aside0.mk hy283
            clear hy283
            by_cases c7 : x3_1.length < 5864062014805
            · rw [if_pos c7] at H
              have LMc7 := Aside0.mk c7
              clear c7
              obtain ⟨y286, hy286⟩ : ∃ y_ : List (List Bool), y_ = (x3_1 ++ [y283]) := ⟨_, rfl⟩
              replace H : (arboristref08_Empty.l0 k1 a0 y286 (wrap64 (x4_1 + 1))) = some r := by first | (rw [hy286]; with_reducible exact H) | (have H2_ := (Option.bind_some _ _).symm.trans H; rw [hy286]; with_reducible exact H2_) | (have H2_ := (Option.bind_some _ _).symm.trans H; with_reducible exact H2_) | with_reducible exact H | (rw [hy286]; exact H) | exact H
              have Ny286 := Aside0.mk hy286
              clear hy286
              have H' := Aside0.mk H
              clear H
              go_wp2_with (first | ((with_reducible refine gate_dst (N := 13) rfl ?_); refine Kd.R_make Kd.bool _ 4 rfl (N := 13) rfl 40 _ _ rfl a0 rfl rfl Tryd.underlying40 (.bool false) 1 info4 rfl (by decide) (by omega) false (ok := fun _ => True) (okp := fun _ => True) rfl (fun _ hk => hk) trivial (of_decide_eq_true (by first | (with_reducible assumption) | assumption)) (Nat.le_trans (Nat.mul_le_mul_right _ (of_decide_eq_true (by first | (with_reducible assumption) | assumption) : a0.toNat ≤ 281474976710656)) (by omega)) (Below.refl _ _) (Nat.le_refl _) ?_; intro v284 w8 ho9 hb hg_ hnew_; clear hg_ hnew_; (first | rw [← Ny283.out] at ho9 | (simp only [Int.reduceToNat] at ho9; rw [← Ny283.out] at ho9)); have n0_ := Aside0.mk (Kd.S_elder' (by (with_reducible repeat (first | apply Kd.S_alloc | apply Kd.S_drewN | apply Kd.S_drew)); exact HO_3.out) (Kd.R_base ho9) hb); have n1_ := Aside0.mk (Kd.R_lower ho9 (below_size (by repeat (first | (with_reducible first | exact HB.out | apply below_alloc | apply pw_below_drewN | apply below_drew1) | exact HB.out)))); have n2_ := Aside0.mk (below_step (by repeat (first | (with_reducible first | exact HB.out | apply below_alloc | apply pw_below_drewN | apply below_drew1) | exact HB.out)) hb); clear HO_3; clear HB; have HO_3 := n0_; have HO285 := n1_; have HB := n2_; clear n0_ n1_ n2_; clear hb ho9; obtain ⟨Ao11, co11, eo11⟩ := Kd.R_slice HO285.out; subst eo11) | ((with_reducible refine gate_builtin (b := .append) (xs := #[.tmp 11, .tmp 14]) rfl ?_); at_builtin; refine Kd.S_append (Kd.slice 4 Kd.bool) (w0 := w) w.heap.size rfl (.tmp 11) (.tmp 14) 25 40 (.slice none 0 0) 24 rfl Tryd.underlying25 info40 rfl (by decide) (by omega) u3 x3_1 y283 [.slice Ao11 y283.length co11] (fun _ => True) (fun k_ => some k_ = (.slice Ao11 y283.length co11 : Value).ownBlock) rfl rfl ?aP (fun k_ hk_ => ((Kd.R_mono (ok' := fun k_ => ((fun _ => True)) k_ ∧ some k_ ≠ (u3 : Value).ownBlock) (Kd.R_apart' (HO285.out) (Kd.S_typed HO_3.out) (by decide)) (fun k_ hk => ⟨trivial, hk.2⟩))).1 k_ hk_.symm) ?aF ?aO ?aB ?aS ?aL ?_; (case aP => exact Kd.M_row (Kd.R_mono (Kd.R_tight rfl (Kd.R_mono (ok' := fun k_ => ((fun _ => True)) k_ ∧ some k_ ≠ (u3 : Value).ownBlock) (Kd.R_apart' (HO285.out) (Kd.S_typed HO_3.out) (by decide)) (fun k_ hk => ⟨trivial, hk.2⟩))) (fun _ h_ => h_))); (case aB => exact (by repeat (first | (with_reducible first | exact HB.out | apply below_alloc | apply pw_below_drewN | apply below_drew1) | exact HB.out))); (case aF => exact (fun _ _ => trivial)); (case aO => exact (by (with_reducible repeat (first | apply Kd.S_alloc | apply Kd.S_drewN | apply Kd.S_drew)); exact Kd.S_mono HO_3.out (fun k_ hk => ⟨trivial, fun e_ => hk.2 e_⟩))); (case aS => exact (below_size (by repeat (first | (with_reducible first | exact HB.out | apply below_alloc | apply pw_below_drewN | apply below_drew1) | exact HB.out)))); (case aL => have := LMc7.out; omega); intro v287 w10 ho hb hg hat; rw [← Ny286.out] at ho; have n0_ := Aside0.mk (hb); have n1_ := Aside0.mk (ho); clear HB; clear HO_3; clear HO285; have HB := n0_; have HO288 := n1_; clear n0_ n1_; clear ho hb hg hat))
              go_roundg k1
              case measure => have := HK1.out; omega
              case rel => exact ⟨(y286), (wrap64 (x4_1 + 1)), (by first | rfl | (simp; done) | (simp [*]; done)), H', ⟨by have := HK1.out; omega⟩, ⟨by (with_reducible repeat (first | apply Kd.S_alloc | apply Kd.S_drewN | apply Kd.S_drew)); exact HO288.out⟩, ⟨by repeat (first | (with_reducible first | exact HB.out | apply below_alloc | apply pw_below_drewN | apply below_drew1) | exact HB.out)⟩⟩
            · rw [if_neg c7] at H
              exact absurd H (by simp)
          · rw [if_neg c6] at H
            exact absurd H (by simp)
        · rw [if_neg c5] at H
          exact absurd H (by simp)
      · rw [if_neg c4] at H
        have c4b0 : decide (x4_1 < a0) = false := decide_eq_false c4
        clear c4
        obtain rfl := Option.some.inj H
        go_wp2
        go_ret
        exact ⟨_, by first | rfl | (simp [errW_none, errW_some] <;> rfl) | (simp [*, errW_none, errW_some] <;> rfl), by (with_reducible repeat (first | apply Kd.S_alloc | apply Kd.S_drewN | apply Kd.S_drew)); exact HO_3.out, by repeat (first | (with_reducible first | exact HB.out | apply below_alloc | apply pw_below_drewN | apply below_drew1) | exact HB.out)⟩

end Go.Proofs.YtbdlelojlnhhfaaDoor.Pr
namespace Go.Proofs.YtbdlelojlnhhfaaDoor.Pr
open Go.RowKit Go.Proofs.YtbdlelojlnhhfaaDoorW.PrintWords Go.Proofs.YtbdlelojlnhhfaaDoorW.PrintLast Go.Proofs.YtbdlelojlnhhfaaDoorW.PrintMore
attribute [local go_sem] max2_int min2_int max_two min_two max_three min_three max_four min_four   -- for this text's walks alone
set_option linter.unusedVariables false
set_option linter.unusedSimpArgs false

/-! ### arboristlaw11_made: function 11 -/
mutual
def arboristlaw11_made.l0 : Nat → Int → List (List Int) → List (List Bool) → Int → Option ((List (List Bool)))
  | 0, _, _, _, _ => none
  | k + 1, x0, x1, x5, x6 => if x6 < (x1.length : Int) then (if x6 < 40 then (arboristlaw11_made.j1 k x0 x1 x5 x6 (decide (x0 > 0))) else (arboristlaw11_made.j1 k x0 x1 x5 x6 false)) else (arboristlaw11_made.j1 k x0 x1 x5 x6 false)
def arboristlaw11_made.j1 : Nat → Int → List (List Int) → List (List Bool) → Int → Bool → Option ((List (List Bool)))
  | 0, _, _, _, _, _ => none
  | k + 1, x0, x1, x5, x6, x25 => if x25 = true then (if 0 ≤ x6 then (if x6 < (x1.length : Int) then (if ((rd_L1 x1 x6).length : Int) < 2 then (arboristlaw11_made.l0 k x0 x1 x5 (wrap64 (x6 + 1))) else (if 0 < ((rd_L1 x1 x6).length : Int) then (if x0 = 0 then (none) else (if 1 < ((rd_L1 x1 x6).length : Int) then (if (Int.tmod (Go.bits .and .i64 (rd (rd_L1 x1 x6) 0) 65535) x0) = (Int.tmod (Go.bits .and .i64 (rd (rd_L1 x1 x6) 1) 65535) x0) then (arboristlaw11_made.l0 k x0 x1 x5 (wrap64 (x6 + 1))) else (if 0 ≤ (Int.tmod (Go.bits .and .i64 (rd (rd_L1 x1 x6) 0) 65535) x0) then (if (Int.tmod (Go.bits .and .i64 (rd (rd_L1 x1 x6) 0) 65535) x0) < (x5.length : Int) then (if 0 ≤ (Int.tmod (Go.bits .and .i64 (rd (rd_L1 x1 x6) 1) 65535) x0) then (if (Int.tmod (Go.bits .and .i64 (rd (rd_L1 x1 x6) 1) 65535) x0) < ((rd_L8 x5 (Int.tmod (Go.bits .and .i64 (rd (rd_L1 x1 x6) 0) 65535) x0)).length : Int) then ((some (x5.set ((Int.tmod (Go.bits .and .i64 (rd (rd_L1 x1 x6) 0) 65535) x0) : Int).toNat ((rd_L8 x5 (Int.tmod (Go.bits .and .i64 (rd (rd_L1 x1 x6) 0) 65535) x0)).set ((Int.tmod (Go.bits .and .i64 (rd (rd_L1 x1 x6) 1) 65535) x0) : Int).toNat true) : List (List Bool))).bind fun y300 => (if (Int.tmod (Go.bits .and .i64 (rd (rd_L1 x1 x6) 1) 65535) x0) < (x5.length : Int) then (if (Int.tmod (Go.bits .and .i64 (rd (rd_L1 x1 x6) 0) 65535) x0) < ((rd_L8 y300 (Int.tmod (Go.bits .and .i64 (rd (rd_L1 x1 x6) 1) 65535) x0)).length : Int) then (arboristlaw11_made.l0 k x0 x1 (y300.set ((Int.tmod (Go.bits .and .i64 (rd (rd_L1 x1 x6) 1) 65535) x0) : Int).toNat ((rd_L8 y300 (Int.tmod (Go.bits .and .i64 (rd (rd_L1 x1 x6) 1) 65535) x0)).set ((Int.tmod (Go.bits .and .i64 (rd (rd_L1 x1 x6) 0) 65535) x0) : Int).toNat true)) (wrap64 (x6 + 1))) else (none)) else (none))) else (none)) else (none)) else (none)) else (none))) else (none))) else (none))) else (none)) else (none)) else (some x5)
end
def arboristlaw11_made.f (k : Nat) (a0 : Int) (l1 : List (List Int)) : Option ((List (List Bool))) := (arboristref08_Empty.f k (Int.tmod (Go.bits .and .i64 a0 65535) 10)).bind fun t289 => (arboristlaw11_made.l0 k (Int.tmod (Go.bits .and .i64 a0 65535) 10) l1 t289 0)
theorem arboristlaw11_made.mono_l : ∀ k, (∀ y0 y1 y2 y3, LeO (arboristlaw11_made.l0 k y0 y1 y2 y3) (arboristlaw11_made.l0 (k + 1) y0 y1 y2 y3)) ∧ (∀ y0 y1 y2 y3 y4, LeO (arboristlaw11_made.j1 k y0 y1 y2 y3 y4) (arboristlaw11_made.j1 (k + 1) y0 y1 y2 y3 y4))
  | 0 => ⟨fun _ _ _ _ r h => by simp [arboristlaw11_made.l0] at h, fun _ _ _ _ _ r h => by simp [arboristlaw11_made.j1] at h⟩
  | k + 1 => by
    obtain ⟨ih0, ih1⟩ := arboristlaw11_made.mono_l k
    refine ⟨?_, ?_⟩
    all_goals intros
    all_goals (first | unfold arboristlaw11_made.l0 | unfold arboristlaw11_made.j1)
    all_goals repeat' first
    | (with_reducible exact ih0 _ _ _ _)
    | (with_reducible exact ih1 _ _ _ _ _)
    | (with_reducible exact arboristref08_Empty.mono _ _)
    | (with_reducible exact LeO.refl _)
    | (with_reducible exact LeO.none _)
    | (with_reducible refine LeO.ite ?_ ?_)
    | (with_reducible refine LeO.bind ?_ (fun _ => ?_))
    | exact ih0 _ _ _ _
    | exact ih1 _ _ _ _ _
    | exact arboristref08_Empty.mono _ _
    | exact LeO.none _
    | refine LeO.ite ?_ ?_
    | refine LeO.bind ?_ (fun _ => ?_)
theorem arboristlaw11_made.mono : ∀ a0 a1 k, LeO (arboristlaw11_made.f k a0 a1) (arboristlaw11_made.f (k + 1) a0 a1) := by
  intro a0 a1 k
  obtain ⟨ih0, ih1⟩ := arboristlaw11_made.mono_l k
  unfold arboristlaw11_made.f
  repeat' first
      | (with_reducible exact ih0 _ _ _ _)
      | (with_reducible exact ih1 _ _ _ _ _)
      | (with_reducible exact arboristref08_Empty.mono _ _)
      | (with_reducible exact LeO.refl _)
      | (with_reducible exact LeO.none _)
      | (with_reducible refine LeO.ite ?_ ?_)
      | (with_reducible refine LeO.bind ?_ (fun _ => ?_))
      | exact ih0 _ _ _ _
      | exact ih1 _ _ _ _ _
      | exact arboristref08_Empty.mono _ _
      | exact LeO.none _
      | refine LeO.ite ?_ ?_
      | refine LeO.bind ?_ (fun _ => ?_)
set_option maxHeartbeats 8000000 in
set_option maxRecDepth 100000 in
theorem arboristlaw11_made.calls (k : Nat) (a0 : Int) (A1 : Option Addr) (c1 : Nat) (l1 : List (List Int)) (r : List (List Bool)) (w : World) (hr1 : Kd.C (Kd.slice 3 (Kd.int .i64)) w A1 l1.length l1) (hc1 : l1.length ≤ c1) (h : arboristlaw11_made.f k a0 l1 = some r) :
    Calls Tryd.prog 11 #[.int .i64 a0, .slice A1 l1.length c1] w fun e w' => ∃ v0_ : Value, e = .returned (v0_) ∧ Kd.S (Kd.slice 4 Kd.bool) 40 w' w.heap.size (fun _ => True) v0_ r ∧ Below w.heap.size w w' := by
  have HR1 := Aside0.mk hr1
  have HC1 := Aside0.mk hc1
  clear hr1 hc1
  have HB := Aside0.mk (Below.refl w.heap.size w)
  have H : ((arboristref08_Empty.f k (Int.tmod (Go.bits .and .i64 a0 65535) 10)).bind fun t289 => (arboristlaw11_made.l0 k (Int.tmod (Go.bits .and .i64 a0 65535) 10) l1 t289 0)) = some r := h
  clear h
  replace H := Option.bind_eq_some_iff.mp H
  obtain ⟨t289, A30, H⟩ := H
  replace H : (arboristlaw11_made.l0 k (Int.tmod (Go.bits .and .i64 a0 65535) 10) l1 t289 0) = some r := H
  have A3 := Aside0.mk A30
  clear A30
  have H' := Aside0.mk H
  clear H
  go_enter Tryd.func11, Tryd.ntmps11
  go_wp2_with (first | ((with_reducible refine gate_callee (f := 16) rfl ?_); refine goesL_ (some 13) rfl rfl Tryd.func16 (by kernel_rfl) rfl #[.int .i64 (Int.tmod (Go.bits .and .i64 a0 65535) 10)] rfl (by (try simp only [List.map_toArray, List.map_cons, List.map_nil]); first | done | rfl | (simp only [List.length_drop, List.length_take]; rfl)) ?_; (with_reducible refine (arboristref08_Empty.calls k (Int.tmod (Go.bits .and .i64 a0 65535) 10) t289 _ A3.out).mono ?_); rintro e w4 ⟨v290, rfl, ho0, hb⟩; refine ⟨_, rfl, ?_⟩; have n0_ := Aside0.mk (Kd.S_lower ho0 (below_size (by repeat (first | (with_reducible first | exact HB.out | apply below_alloc | apply pw_below_drewN | apply below_drew1) | exact HB.out)))); have n1_ := Aside0.mk (below_step (by repeat (first | (with_reducible first | exact HB.out | apply below_alloc | apply pw_below_drewN | apply below_drew1) | exact HB.out)) hb); clear HB; have HO291 := n0_; have HB := n1_; clear n0_ n1_; (try clear hb); (try clear hb2); (try clear hk); (try clear hi); (try clear ho0)))
  go_loopg [6] k (fun kq v6 w' => ∃ (x5_1 : List (List Bool)) (x6_1 : Int), v6 = .int .i64 x6_1 ∧ Aside0 (arboristlaw11_made.l0 kq (Int.tmod (Go.bits .and .i64 a0 65535) 10) l1 x5_1 x6_1 = some r) ∧ Aside0 (kq ≤ k) ∧ Aside0 (Kd.S (Kd.slice 4 Kd.bool) 40 w' w.heap.size (fun _ => True) v290 x5_1) ∧ Aside0 (Below w.heap.size w w'))
  case atStart => exact ⟨(t289), (0), (by first | rfl | (simp; done) | (simp [*]; done)), H', ⟨Nat.le_refl _⟩, ⟨by (with_reducible repeat (first | apply Kd.S_alloc | apply Kd.S_drewN | apply Kd.S_drew)); exact HO291.out⟩, ⟨by repeat (first | (with_reducible first | exact HB.out | apply below_alloc | apply pw_below_drewN | apply below_drew1) | exact HB.out)⟩⟩
  case round =>
    clear H'
    try clear c1
    try clear p2
    obtain ⟨x5_1, x6_1, rfl, HA, HK1, HO_5, HB⟩ := hrel
    cases gk with
    | zero => exact absurd HA.out (by simp [arboristlaw11_made.l0])
    | succ k1 =>
      have H := HA.out
      clear HA
      simp only [arboristlaw11_made.l0] at H
      have HC5 := Aside0.mk H
      clear H
      go_upto_region 4 with (fail)
      go_cut [25] (fun v25 wc => ∃ (kq : Nat) (x25_4 : Bool), v25 = .bool x25_4 ∧ Aside0 (arboristlaw11_made.j1 kq (Int.tmod (Go.bits .and .i64 a0 65535) 10) l1 x5_1 x6_1 x25_4 = some r) ∧ Aside0 (kq ≤ k1) ∧ Aside0 (Kd.S (Kd.slice 4 Kd.bool) 40 wc w.heap.size (fun _ => True) v290 x5_1) ∧ Aside0 (Below w.heap.size w wc))
      case first =>
        have H := HC5.out
        clear HC5
        by_cases c6 : x6_1 < (l1.length : Int)
        · rw [if_pos c6] at H
          have c6b0 : decide (x6_1 < (l1.length : Int)) = true := decide_eq_true c6
          clear c6
          (first | rw [c6b0] | (simp only [i64_w, i32_w]; rw [c6b0]) | skip)
          by_cases c7 : x6_1 < 40
          · rw [if_pos c7] at H
            have c7b0 : decide (x6_1 < 40) = true := decide_eq_true c7
            clear c7
            have H' := Aside0.mk H
            clear H
            go_wp2
            go_meet
            case rel => exact ⟨_, (decide ((Int.tmod (Go.bits .and .i64 a0 65535) 10) > 0)), (by first | rfl | (simp; done) | (simp [*]; done)), H', ⟨by have := HK1.out; first | omega | exact Nat.le_refl _⟩, ⟨by (with_reducible repeat (first | apply Kd.S_alloc | apply Kd.S_drewN | apply Kd.S_drew)); exact HO_5.out⟩, ⟨by repeat (first | (with_reducible first | exact HB.out | apply below_alloc | apply pw_below_drewN | apply below_drew1) | exact HB.out)⟩⟩
          · rw [if_neg c7] at H
            have c7b0 : decide (x6_1 < 40) = false := decide_eq_false c7
            clear c7
            have H' := Aside0.mk H
            clear H
            go_wp2
            go_meet
            case rel => exact ⟨_, (false), (by first | rfl | (simp; done) | (simp [*]; done)), H', ⟨by have := HK1.out; first | omega | exact Nat.le_refl _⟩, ⟨by (with_reducible repeat (first | apply Kd.S_alloc | apply Kd.S_drewN | apply Kd.S_drew)); exact HO_5.out⟩, ⟨by repeat (first | (with_reducible first | exact HB.out | apply below_alloc | apply pw_below_drewN | apply below_drew1) | exact HB.out)⟩⟩
        · rw [if_neg c6] at H
          have c6b0 : decide (x6_1 < (l1.length : Int)) = false := decide_eq_false c6
          clear c6
          (first | rw [c6b0] | (simp only [i64_w, i32_w]; rw [c6b0]) | skip)
          have H' := Aside0.mk H
          clear H
          go_wp2
          go_meet
          case rel => exact ⟨_, (false), (by first | rfl | (simp; done) | (simp [*]; done)), H', ⟨by have := HK1.out; first | omega | exact Nat.le_refl _⟩, ⟨by (with_reducible repeat (first | apply Kd.S_alloc | apply Kd.S_drewN | apply Kd.S_drew)); exact HO_5.out⟩, ⟨by repeat (first | (with_reducible first | exact HB.out | apply below_alloc | apply pw_below_drewN | apply below_drew1) | exact HB.out)⟩⟩
      case rest =>
        clear HC5
        try clear c1
        try clear p2
        try clear c6
        try clear c6b0
        try clear c7
        try clear c7b0
        try clear p2
        obtain ⟨kq, x25_4, rfl, HA, HJ4, HO_5, HB⟩ := hcut
        cases kq with
        | zero => exact absurd HA.out (by simp [arboristlaw11_made.j1])
        | succ kj4 =>
          have H := HA.out
          clear HA
          simp only [arboristlaw11_made.j1] at H
          by_cases c8 : x25_4 = true
          · subst c8
            have H1 : (if 0 ≤ x6_1 then (if x6_1 < (l1.length : Int) then (if ((rd_L1 l1 x6_1).length : Int) < 2 then (arboristlaw11_made.l0 kj4 (Int.tmod (Go.bits .and .i64 a0 65535) 10) l1 x5_1 (wrap64 (x6_1 + 1))) else (if 0 < ((rd_L1 l1 x6_1).length : Int) then (if (Int.tmod (Go.bits .and .i64 a0 65535) 10) = 0 then (none) else (if 1 < ((rd_L1 l1 x6_1).length : Int) then (if (Int.tmod (Go.bits .and .i64 (rd (rd_L1 l1 x6_1) 0) 65535) (Int.tmod (Go.bits .and .i64 a0 65535) 10)) = (Int.tmod (Go.bits .and .i64 (rd (rd_L1 l1 x6_1) 1) 65535) (Int.tmod (Go.bits .and .i64 a0 65535) 10)) then (arboristlaw11_made.l0 kj4 (Int.tmod (Go.bits .and .i64 a0 65535) 10) l1 x5_1 (wrap64 (x6_1 + 1))) else (if 0 ≤ (Int.tmod (Go.bits .and .i64 (rd (rd_L1 l1 x6_1) 0) 65535) (Int.tmod (Go.bits .and .i64 a0 65535) 10)) then (if (Int.tmod (Go.bits .and .i64 (rd (rd_L1 l1 x6_1) 0) 65535) (Int.tmod (Go.bits .and .i64 a0 65535) 10)) < (x5_1.length : Int) then (if 0 ≤ (Int.tmod (Go.bits .and .i64 (rd (rd_L1 l1 x6_1) 1) 65535) (Int.tmod (Go.bits .and .i64 a0 65535) 10)) then (if (Int.tmod (Go.bits .and .i64 (rd (rd_L1 l1 x6_1) 1) 65535) (Int.tmod (Go.bits .and .i64 a0 65535) 10)) < ((rd_L8 x5_1 (Int.tmod (Go.bits .and .i64 (rd (rd_L1 l1 x6_1) 0) 65535) (Int.tmod (Go.bits .and .i64 a0 65535) 10))).length : Int) then ((some (x5_1.set ((Int.tmod (Go.bits .and .i64 (rd (rd_L1 l1 x6_1) 0) 65535) (Int.tmod (Go.bits .and .i64 a0 65535) 10)) : Int).toNat ((rd_L8 x5_1 (Int.tmod (Go.bits .and .i64 (rd (rd_L1 l1 x6_1) 0) 65535) (Int.tmod (Go.bits .and .i64 a0 65535) 10))).set ((Int.tmod (Go.bits .and .i64 (rd (rd_L1 l1 x6_1) 1) 65535) (Int.tmod (Go.bits .and .i64 a0 65535) 10)) : Int).toNat true) : List (List Bool))).bind fun y300 => (if (Int.tmod (Go.bits .and .i64 (rd (rd_L1 l1 x6_1) 1) 65535) (Int.tmod (Go.bits .and .i64 a0 65535) 10)) < (x5_1.length : Int) then (if (Int.tmod (Go.bits .and .i64 (rd (rd_L1 l1 x6_1) 0) 65535) (Int.tmod (Go.bits .and .i64 a0 65535) 10)) < ((rd_L8 y300 (Int.tmod (Go.bits .and .i64 (rd (rd_L1 l1 x6_1) 1) 65535) (Int.tmod (Go.bits .and .i64 a0 65535) 10))).length : Int) then (arboristlaw11_made.l0 kj4 (Int.tmod (Go.bits .and .i64 a0 65535) 10) l1 (y300.set ((Int.tmod (Go.bits .and .i64 (rd (rd_L1 l1 x6_1) 1) 65535) (Int.tmod (Go.bits .and .i64 a0 65535) 10)) : Int).toNat ((rd_L8 y300 (Int.tmod (Go.bits .and .i64 (rd (rd_L1 l1 x6_1) 1) 65535) (Int.tmod (Go.bits .and .i64 a0 65535) 10))).set ((Int.tmod (Go.bits .and .i64 (rd (rd_L1 l1 x6_1) 0) 65535) (Int.tmod (Go.bits .and .i64 a0 65535) 10)) : Int).toNat true)) (wrap64 (x6_1 + 1))) else (none)) else (none))) else (none)) else (none)) else (none)) else (none))) else (none))) else (none))) else (none)) else (none)) = some r := by rw [if_pos rfl] at H; exact H
            clear H
            have H := H1
            clear H1
            by_cases c9 : 0 ≤ x6_1
            · rw [if_pos c9] at H
              have c9b0 : decide (0 ≤ x6_1) = true := decide_eq_true c9
              clear c9
              by_cases c10 : x6_1 < (l1.length : Int)
              · rw [if_pos c10] at H
                have c10b0 : decide (x6_1 < (l1.length : Int)) = true := decide_eq_true c10
                clear c10
                by_cases c11 : ((rd_L1 l1 x6_1).length : Int) < 2
                · rw [if_pos c11] at H
                  have c11b0 : decide (((rd_L1 l1 x6_1).length : Int) < 2) = true := decide_eq_true c11
                  have c11b1 : decide ((rd_L1 l1 x6_1).length < 2) = true := decide_eq_true (by omega)
                  clear c11
                  have H' := Aside0.mk H
                  clear H
                  have p292 : 0 ≤ (x6_1 : Int) := of_decide_eq_true (by first | (with_reducible assumption) | assumption)
                  have q292 : x6_1 < (l1.length : Int) := of_decide_eq_true (by first | (with_reducible assumption) | assumption)
                  obtain ⟨ad292, A292_0, c292_0, e292, hx292_0, hl292_0, hi292_0⟩ := at_L1 HR1.out x6_1 p292 q292
                  cases e292
                  replace hx292_0 := (HB.out.cell (World.block_lt_of_cell? w _ hx292_0)).trans hx292_0
                  have HR292_0 := Aside0.mk hi292_0
                  have HC292_0 := Aside0.mk hl292_0
                  clear hi292_0 hl292_0
                  replace p292 := eq_true p292
                  replace q292 := eq_true q292
                  go_wp2
                  go_roundg kj4
                  case measure => have := HK1.out; have := HJ4.out; omega
                  case rel => exact ⟨(x5_1), (wrap64 (x6_1 + 1)), (by first | rfl | (simp; done) | (simp [*]; done)), H', ⟨by have := HK1.out; have := HJ4.out; omega⟩, ⟨by (with_reducible repeat (first | apply Kd.S_alloc | apply Kd.S_drewN | apply Kd.S_drew)); exact HO_5.out⟩, ⟨by repeat (first | (with_reducible first | exact HB.out | apply below_alloc | apply pw_below_drewN | apply below_drew1) | exact HB.out)⟩⟩
                · rw [if_neg c11] at H
                  have c11b0 : decide (((rd_L1 l1 x6_1).length : Int) < 2) = false := decide_eq_false c11
                  have c11b1 : decide ((rd_L1 l1 x6_1).length < 2) = false := decide_eq_false (by omega)
                  clear c11
                  by_cases c12 : 0 < ((rd_L1 l1 x6_1).length : Int)
                  · rw [if_pos c12] at H
                    have c12b0 : decide (0 < ((rd_L1 l1 x6_1).length : Int)) = true := decide_eq_true c12
                    have c12b1 : decide (0 < (rd_L1 l1 x6_1).length) = true := decide_eq_true (by omega)
                    clear c12
                    by_cases c13 : (Int.tmod (Go.bits .and .i64 a0 65535) 10) = 0
                    · rw [if_pos c13] at H
                      exact absurd H (by simp)
                    · rw [if_neg c13] at H
                      have c13b0 : ((Int.tmod (Go.bits .and .i64 a0 65535) 10) == 0) = false := beq_eq_false_iff_ne.mpr c13
                      have c13b1 : ((Int.tmod (Go.bits .and .i64 a0 65535) 10) != 0) = true := bne_iff_ne.mpr c13
                      by_cases c14 : 1 < ((rd_L1 l1 x6_1).length : Int)
                      · rw [if_pos c14] at H
                        have c14b0 : decide (1 < ((rd_L1 l1 x6_1).length : Int)) = true := decide_eq_true c14
                        have c14b1 : decide (1 < (rd_L1 l1 x6_1).length) = true := decide_eq_true (by omega)
                        clear c14
                        by_cases c15 : (Int.tmod (Go.bits .and .i64 (rd (rd_L1 l1 x6_1) 0) 65535) (Int.tmod (Go.bits .and .i64 a0 65535) 10)) = (Int.tmod (Go.bits .and .i64 (rd (rd_L1 l1 x6_1) 1) 65535) (Int.tmod (Go.bits .and .i64 a0 65535) 10))
                        · rw [if_pos c15] at H
                          have c15b0 : ((Int.tmod (Go.bits .and .i64 (rd (rd_L1 l1 x6_1) 0) 65535) (Int.tmod (Go.bits .and .i64 a0 65535) 10)) == (Int.tmod (Go.bits .and .i64 (rd (rd_L1 l1 x6_1) 1) 65535) (Int.tmod (Go.bits .and .i64 a0 65535) 10))) = true := beq_iff_eq.mpr c15
                          have c15b1 : ((Int.tmod (Go.bits .and .i64 (rd (rd_L1 l1 x6_1) 0) 65535) (Int.tmod (Go.bits .and .i64 a0 65535) 10)) != (Int.tmod (Go.bits .and .i64 (rd (rd_L1 l1 x6_1) 1) 65535) (Int.tmod (Go.bits .and .i64 a0 65535) 10))) = false := bne_eq_false_iff_eq.mpr c15
                          clear c15
                          have H' := Aside0.mk H
                          clear H
                          have p292 : 0 ≤ (x6_1 : Int) := of_decide_eq_true (by first | (with_reducible assumption) | assumption)
                          have q292 : x6_1 < (l1.length : Int) := of_decide_eq_true (by first | (with_reducible assumption) | assumption)
                          obtain ⟨ad292, A292_0, c292_0, e292, hx292_0, hl292_0, hi292_0⟩ := at_L1 HR1.out x6_1 p292 q292
                          cases e292
                          replace hx292_0 := (HB.out.cell (World.block_lt_of_cell? w _ hx292_0)).trans hx292_0
                          have HR292_0 := Aside0.mk hi292_0
                          have HC292_0 := Aside0.mk hl292_0
                          clear hi292_0 hl292_0
                          replace p292 := eq_true p292
                          replace q292 := eq_true q292
                          have p293 : 0 ≤ (x6_1 : Int) := of_decide_eq_true (by first | (with_reducible assumption) | assumption)
                          have q293 : x6_1 < (l1.length : Int) := of_decide_eq_true (by first | (with_reducible assumption) | assumption)
                          obtain ⟨ad293, A293_0, c293_0, e293, hx293_0, hl293_0, hi293_0⟩ := at_L1 HR1.out x6_1 p293 q293
                          obtain rfl : ad292 = ad293 := (by injection e293)
                          replace hx293_0 := (HB.out.cell (World.block_lt_of_cell? w _ hx293_0)).trans hx293_0
                          have HR293_0 := Aside0.mk hi293_0
                          have HC293_0 := Aside0.mk hl293_0
                          clear hi293_0 hl293_0
                          replace p293 := eq_true p293
                          replace q293 := eq_true q293
                          have ea_ := Option.some.inj (hx292_0.symm.trans hx293_0)
                          injection ea_ with ea_ en_ ec_
                          subst ea_
                          subst ec_
                          clear en_
                          have p294 : 0 ≤ (0 : Int) := (by omega)
                          have q294 : 0 < ((rd_L1 l1 x6_1).length : Int) := of_decide_eq_true (by first | (with_reducible assumption) | assumption)
                          obtain ⟨ad294, e294, hx294_0⟩ := Kd.at_int HR293_0.out 0 p294 q294
                          cases e294
                          have qi294 : (0 < (rd_L1 l1 x6_1).length) = True := eq_true (by omega)
                          (try rw [show ((0 : Int)).toNat = 0 from rfl] at hx294_0)
                          (try rw [Addr.add_zero'] at hx294_0)
                          replace hx294_0 := (HB.out.cell (World.block_lt_of_cell? w _ hx294_0)).trans hx294_0
                          replace p294 := eq_true p294
                          replace q294 := eq_true q294
                          have p295 : 0 ≤ (x6_1 : Int) := of_decide_eq_true (by first | (with_reducible assumption) | assumption)
                          have q295 : x6_1 < (l1.length : Int) := of_decide_eq_true (by first | (with_reducible assumption) | assumption)
                          obtain ⟨ad295, A295_0, c295_0, e295, hx295_0, hl295_0, hi295_0⟩ := at_L1 HR1.out x6_1 p295 q295
                          obtain rfl : ad292 = ad295 := (by injection e295)
                          replace hx295_0 := (HB.out.cell (World.block_lt_of_cell? w _ hx295_0)).trans hx295_0
                          have HR295_0 := Aside0.mk hi295_0
                          have HC295_0 := Aside0.mk hl295_0
                          clear hi295_0 hl295_0
                          replace p295 := eq_true p295
                          replace q295 := eq_true q295
                          have ea_ := Option.some.inj (hx292_0.symm.trans hx295_0)
                          injection ea_ with ea_ en_ ec_
                          subst ea_
                          subst ec_
                          clear en_
                          have p296 : 0 ≤ (1 : Int) := (by omega)
                          have q296 : 1 < ((rd_L1 l1 x6_1).length : Int) := of_decide_eq_true (by first | (with_reducible assumption) | assumption)
                          obtain ⟨ad296, e296, hx296_0⟩ := Kd.at_int HR295_0.out 1 p296 q296
                          cases e296
                          (try simp only [show (1 : Int).toNat = 1 from rfl, Nat.reduceMul, Nat.reduceEqDiff, Go.Addr.add, ↓reduceIte] at hx296_0)
                          have qi296 : (1 < (rd_L1 l1 x6_1).length) = True := eq_true (by omega)
                          (try rw [show ((1 : Int)).toNat = 1 from rfl] at hx296_0)
                          replace hx296_0 := (HB.out.cell (World.block_lt_of_cell? w _ hx296_0)).trans hx296_0
                          replace p296 := eq_true p296
                          replace q296 := eq_true q296
                          go_wp2
                          go_roundg kj4
                          case measure => have := HK1.out; have := HJ4.out; omega
                          case rel => exact ⟨(x5_1), (wrap64 (x6_1 + 1)), (by first | rfl | (simp; done) | (simp [*]; done)), H', ⟨by have := HK1.out; have := HJ4.out; omega⟩, ⟨by (with_reducible repeat (first | apply Kd.S_alloc | apply Kd.S_drewN | apply Kd.S_drew)); exact HO_5.out⟩, ⟨by repeat (first | (with_reducible first | exact HB.out | apply below_alloc | apply pw_below_drewN | apply below_drew1) | exact HB.out)⟩⟩
                        · rw [if_neg c15] at H
                          have c15b0 : ((Int.tmod (Go.bits .and .i64 (rd (rd_L1 l1 x6_1) 0) 65535) (Int.tmod (Go.bits .and .i64 a0 65535) 10)) == (Int.tmod (Go.bits .and .i64 (rd (rd_L1 l1 x6_1) 1) 65535) (Int.tmod (Go.bits .and .i64 a0 65535) 10))) = false := beq_eq_false_iff_ne.mpr c15
                          have c15b1 : ((Int.tmod (Go.bits .and .i64 (rd (rd_L1 l1 x6_1) 0) 65535) (Int.tmod (Go.bits .and .i64 a0 65535) 10)) != (Int.tmod (Go.bits .and .i64 (rd (rd_L1 l1 x6_1) 1) 65535) (Int.tmod (Go.bits .and .i64 a0 65535) 10))) = true := bne_iff_ne.mpr c15
                          obtain ⟨ji16, hji16⟩ : ∃ j_ : Int, (Int.tmod (Go.bits .and .i64 (rd (rd_L1 l1 x6_1) 0) 65535) (Int.tmod (Go.bits .and .i64 a0 65535) 10)) = j_ := ⟨_, rfl⟩
                          replace H : (if 0 ≤ (ji16) then (if (ji16) < (x5_1.length : Int) then (if 0 ≤ (Int.tmod (Go.bits .and .i64 (rd (rd_L1 l1 x6_1) 1) 65535) (Int.tmod (Go.bits .and .i64 a0 65535) 10)) then (if (Int.tmod (Go.bits .and .i64 (rd (rd_L1 l1 x6_1) 1) 65535) (Int.tmod (Go.bits .and .i64 a0 65535) 10)) < ((rd_L8 x5_1 (ji16)).length : Int) then ((some (x5_1.set ((ji16) : Int).toNat ((rd_L8 x5_1 (ji16)).set ((Int.tmod (Go.bits .and .i64 (rd (rd_L1 l1 x6_1) 1) 65535) (Int.tmod (Go.bits .and .i64 a0 65535) 10)) : Int).toNat true) : List (List Bool))).bind fun y300 => (if (Int.tmod (Go.bits .and .i64 (rd (rd_L1 l1 x6_1) 1) 65535) (Int.tmod (Go.bits .and .i64 a0 65535) 10)) < (x5_1.length : Int) then (if (ji16) < ((rd_L8 y300 (Int.tmod (Go.bits .and .i64 (rd (rd_L1 l1 x6_1) 1) 65535) (Int.tmod (Go.bits .and .i64 a0 65535) 10))).length : Int) then (arboristlaw11_made.l0 kj4 (Int.tmod (Go.bits .and .i64 a0 65535) 10) l1 (y300.set ((Int.tmod (Go.bits .and .i64 (rd (rd_L1 l1 x6_1) 1) 65535) (Int.tmod (Go.bits .and .i64 a0 65535) 10)) : Int).toNat ((rd_L8 y300 (Int.tmod (Go.bits .and .i64 (rd (rd_L1 l1 x6_1) 1) 65535) (Int.tmod (Go.bits .and .i64 a0 65535) 10))).set ((ji16) : Int).toNat true)) (wrap64 (x6_1 + 1))) else (none)) else (none))) else (none)) else (none)) else (none)) else (none)) = some r := by first | (rw [hji16] at H; exact H) | (simp only [hji16] at H ⊢; exact H)
                          (try rw [hji16] at c15b0)
                          (try rw [hji16] at c15b1)
                          by_cases c17 : 0 ≤ (ji16)
                          · rw [if_pos c17] at H
                            have c17b0 : decide (0 ≤ (ji16)) = true := decide_eq_true c17
                            clear c17
                            by_cases c18 : (ji16) < (x5_1.length : Int)
                            · rw [if_pos c18] at H
                              have c18b0 : decide ((ji16) < (x5_1.length : Int)) = true := decide_eq_true c18
                              clear c18
                              obtain ⟨ji19, hji19⟩ : ∃ j_ : Int, (Int.tmod (Go.bits .and .i64 (rd (rd_L1 l1 x6_1) 1) 65535) (Int.tmod (Go.bits .and .i64 a0 65535) 10)) = j_ := ⟨_, rfl⟩
                              replace H : (if 0 ≤ (ji19) then (if (ji19) < ((rd_L8 x5_1 (ji16)).length : Int) then ((some (x5_1.set ((ji16) : Int).toNat ((rd_L8 x5_1 (ji16)).set ((ji19) : Int).toNat true) : List (List Bool))).bind fun y300 => (if (ji19) < (x5_1.length : Int) then (if (ji16) < ((rd_L8 y300 (ji19)).length : Int) then (arboristlaw11_made.l0 kj4 (Int.tmod (Go.bits .and .i64 a0 65535) 10) l1 (y300.set ((ji19) : Int).toNat ((rd_L8 y300 (ji19)).set ((ji16) : Int).toNat true)) (wrap64 (x6_1 + 1))) else (none)) else (none))) else (none)) else (none)) = some r := by first | (rw [hji19] at H; exact H) | (simp only [hji19] at H ⊢; exact H)
                              (try rw [hji19] at c15b0)
                              (try rw [hji19] at c15b1)
                              by_cases c20 : 0 ≤ (ji19)
                              · rw [if_pos c20] at H
                                have c20b0 : decide (0 ≤ (ji19)) = true := decide_eq_true c20
                                clear c20
                                by_cases c21 : (ji19) < ((rd_L8 x5_1 (ji16)).length : Int)
                                · rw [if_pos c21] at H
                                  have c21b0 : decide ((ji19) < ((rd_L8 x5_1 (ji16)).length : Int)) = true := decide_eq_true c21
                                  clear c21
                                  obtain ⟨y298, hy298⟩ : ∃ y_ : List Bool, y_ = ((rd_L8 x5_1 (ji16)).set ((ji19) : Int).toNat true) := ⟨_, rfl⟩
                                  replace H : ((some (x5_1.set ((ji16) : Int).toNat y298 : List (List Bool))).bind fun y300 => (if (ji19) < (x5_1.length : Int) then (if (ji16) < ((rd_L8 y300 (ji19)).length : Int) then (arboristlaw11_made.l0 kj4 (Int.tmod (Go.bits .and .i64 a0 65535) 10) l1 (y300.set ((ji19) : Int).toNat ((rd_L8 y300 (ji19)).set ((ji16) : Int).toNat true)) (wrap64 (x6_1 + 1))) else (none)) else (none))) = some r := by first | (rw [hy298]; with_reducible exact H) | (have H2_ := (Option.bind_some _ _).symm.trans H; rw [hy298]; with_reducible exact H2_) | (have H2_ := (Option.bind_some _ _).symm.trans H; with_reducible exact H2_) | with_reducible exact H | (rw [hy298]; exact H) | exact H
                                  have Ny298 := Aside0.mk hy298
                                  clear hy298
                                  obtain ⟨y300, hy300⟩ : ∃ y_ : List (List Bool), y_ = (x5_1.set ((ji16) : Int).toNat y298) := ⟨_, rfl⟩
                                  replace H : (if (ji19) < (x5_1.length : Int) then (if (ji16) < ((rd_L8 y300 (ji19)).length : Int) then (arboristlaw11_made.l0 kj4 (Int.tmod (Go.bits .and .i64 a0 65535) 10) l1 (y300.set ((ji19) : Int).toNat ((rd_L8 y300 (ji19)).set ((ji16) : Int).toNat true)) (wrap64 (x6_1 + 1))) else (none)) else (none)) = some r := by first | (rw [hy300]; with_reducible exact H) | (have H2_ := (Option.bind_some _ _).symm.trans H; rw [hy300]; with_reducible exact H2_) | (have H2_ := (Option.bind_some _ _).symm.trans H; with_reducible exact H2_) | with_reducible exact H | (rw [hy300]; exact H) | exact H
                                  have Ny300 := Aside0.mk hy300
                                  clear hy300
                                  by_cases c23 : (ji19) < (x5_1.length : Int)
                                  · rw [if_pos c23] at H
                                    have c23b0 : decide ((ji19) < (x5_1.length : Int)) = true := decide_eq_true c23
                                    clear c23
                                    by_cases c24 : (ji16) < ((rd_L8 y300 (ji19)).length : Int)
                                    · rw [if_pos c24] at H
                                      have c24b0 : decide ((ji16) < ((rd_L8 y300 (ji19)).length : Int)) = true := decide_eq_true c24
                                      clear c24
                                      obtain ⟨y302, hy302⟩ : ∃ y_ : List Bool, y_ = ((rd_L8 y300 (ji19)).set ((ji16) : Int).toNat true) := ⟨_, rfl⟩
                                      replace H : (arboristlaw11_made.l0 kj4 (Int.tmod (Go.bits .and .i64 a0 65535) 10) l1 (y300.set ((ji19) : Int).toNat y302) (wrap64 (x6_1 + 1))) = some r := by first | (rw [hy302]; with_reducible exact H) | (have H2_ := (Option.bind_some _ _).symm.trans H; rw [hy302]; with_reducible exact H2_) | (have H2_ := (Option.bind_some _ _).symm.trans H; with_reducible exact H2_) | with_reducible exact H | (rw [hy302]; exact H) | exact H
                                      have Ny302 := Aside0.mk hy302
                                      clear hy302
                                      obtain ⟨y304, hy304⟩ : ∃ y_ : List (List Bool), y_ = (y300.set ((ji19) : Int).toNat y302) := ⟨_, rfl⟩
                                      replace H : (arboristlaw11_made.l0 kj4 (Int.tmod (Go.bits .and .i64 a0 65535) 10) l1 y304 (wrap64 (x6_1 + 1))) = some r := by first | (rw [hy304]; with_reducible exact H) | (have H2_ := (Option.bind_some _ _).symm.trans H; rw [hy304]; with_reducible exact H2_) | (have H2_ := (Option.bind_some _ _).symm.trans H; with_reducible exact H2_) | with_reducible exact H | (rw [hy304]; exact H) | exact H
                                      have Ny304 := Aside0.mk hy304
                                      clear hy304
                                      have H' := Aside0.mk H
                                      clear H
                                      have p292 : 0 ≤ (x6_1 : Int) := of_decide_eq_true (by first | (with_reducible assumption) | assumption)
                                      have q292 : x6_1 < (l1.length : Int) := of_decide_eq_true (by first | (with_reducible assumption) | assumption)
                                      obtain ⟨ad292, A292_0, c292_0, e292, hx292_0, hl292_0, hi292_0⟩ := at_L1 HR1.out x6_1 p292 q292
                                      cases e292
                                      replace hx292_0 := (HB.out.cell (World.block_lt_of_cell? w _ hx292_0)).trans hx292_0
                                      have HR292_0 := Aside0.mk hi292_0
                                      have HC292_0 := Aside0.mk hl292_0
                                      clear hi292_0 hl292_0
                                      replace p292 := eq_true p292
                                      replace q292 := eq_true q292
                                      have p293 : 0 ≤ (x6_1 : Int) := of_decide_eq_true (by first | (with_reducible assumption) | assumption)
                                      have q293 : x6_1 < (l1.length : Int) := of_decide_eq_true (by first | (with_reducible assumption) | assumption)
                                      obtain ⟨ad293, A293_0, c293_0, e293, hx293_0, hl293_0, hi293_0⟩ := at_L1 HR1.out x6_1 p293 q293
                                      obtain rfl : ad292 = ad293 := (by injection e293)
                                      replace hx293_0 := (HB.out.cell (World.block_lt_of_cell? w _ hx293_0)).trans hx293_0
                                      have HR293_0 := Aside0.mk hi293_0
                                      have HC293_0 := Aside0.mk hl293_0
                                      clear hi293_0 hl293_0
                                      replace p293 := eq_true p293
                                      replace q293 := eq_true q293
                                      have ea_ := Option.some.inj (hx292_0.symm.trans hx293_0)
                                      injection ea_ with ea_ en_ ec_
                                      subst ea_
                                      subst ec_
                                      clear en_
                                      have p294 : 0 ≤ (0 : Int) := (by omega)
                                      have q294 : 0 < ((rd_L1 l1 x6_1).length : Int) := of_decide_eq_true (by first | (with_reducible assumption) | assumption)
                                      obtain ⟨ad294, e294, hx294_0⟩ := Kd.at_int HR293_0.out 0 p294 q294
                                      cases e294
                                      have qi294 : (0 < (rd_L1 l1 x6_1).length) = True := eq_true (by omega)
                                      (try rw [show ((0 : Int)).toNat = 0 from rfl] at hx294_0)
                                      (try rw [Addr.add_zero'] at hx294_0)
                                      replace hx294_0 := (HB.out.cell (World.block_lt_of_cell? w _ hx294_0)).trans hx294_0
                                      replace p294 := eq_true p294
                                      replace q294 := eq_true q294
                                      have p295 : 0 ≤ (x6_1 : Int) := of_decide_eq_true (by first | (with_reducible assumption) | assumption)
                                      have q295 : x6_1 < (l1.length : Int) := of_decide_eq_true (by first | (with_reducible assumption) | assumption)
                                      obtain ⟨ad295, A295_0, c295_0, e295, hx295_0, hl295_0, hi295_0⟩ := at_L1 HR1.out x6_1 p295 q295
                                      obtain rfl : ad292 = ad295 := (by injection e295)
                                      replace hx295_0 := (HB.out.cell (World.block_lt_of_cell? w _ hx295_0)).trans hx295_0
                                      have HR295_0 := Aside0.mk hi295_0
                                      have HC295_0 := Aside0.mk hl295_0
                                      clear hi295_0 hl295_0
                                      replace p295 := eq_true p295
                                      replace q295 := eq_true q295
                                      have ea_ := Option.some.inj (hx292_0.symm.trans hx295_0)
                                      injection ea_ with ea_ en_ ec_
                                      subst ea_
                                      subst ec_
                                      clear en_
                                      have p296 : 0 ≤ (1 : Int) := (by omega)
                                      have q296 : 1 < ((rd_L1 l1 x6_1).length : Int) := of_decide_eq_true (by first | (with_reducible assumption) | assumption)
                                      obtain ⟨ad296, e296, hx296_0⟩ := Kd.at_int HR295_0.out 1 p296 q296
                                      cases e296
                                      (try simp only [show (1 : Int).toNat = 1 from rfl, Nat.reduceMul, Nat.reduceEqDiff, Go.Addr.add, ↓reduceIte] at hx296_0)
                                      have qi296 : (1 < (rd_L1 l1 x6_1).length) = True := eq_true (by omega)
                                      (try rw [show ((1 : Int)).toNat = 1 from rfl] at hx296_0)
                                      replace hx296_0 := (HB.out.cell (World.block_lt_of_cell? w _ hx296_0)).trans hx296_0
                                      replace p296 := eq_true p296
                                      replace q296 := eq_true q296
                                      obtain ⟨Ao26, co26, eo26⟩ := Kd.S_slice HO_5.out
                                      subst eo26
                                      have p297 : 0 ≤ ((ji16) : Int) := of_decide_eq_true (by first | (with_reducible assumption) | assumption)
                                      have q297 : (ji16) < (x5_1.length : Int) := of_decide_eq_true (by first | (with_reducible assumption) | assumption)
                                      obtain ⟨ad297, A297_0, c297_0, e297, hx297_0, hl297_0, hi297_0⟩ := at_L8 (Kd.S_reads' HO_5.out).2.2 (ji16) p297 q297
                                      cases e297
                                      obtain ⟨ce297, hce297, hMe297, hcc297⟩ := Kd.S_get HO_5.out [] (ji16) p297 (by first | exact q297 | exact of_decide_eq_true (by first | (with_reducible assumption) | assumption) | (have e_ := (Kd.S_reads' HO_5.out).1; omega))
                                      obtain ⟨ve297_0, rfl, ge297_0⟩ := hMe297
                                      have hv297_0 := hcc297 0 _ rfl
                                      rw [Nat.add_zero, show ((Kd.slice 4 Kd.bool)).sz = 1 from rfl, Nat.mul_one] at hv297_0
                                      replace hv297_0 := Option.some.inj (hv297_0.symm.trans hx297_0)
                                      rw [hv297_0] at ge297_0
                                      have HL297_0 := Aside0.mk (show Kd.R Kd.bool 4 _ _ _ _ (rd_L8 x5_1 (ji16)) from ge297_0)
                                      clear hv297_0 ge297_0
                                      have HX297_0 := Aside0.mk hx297_0
                                      clear hcc297 hce297
                                      have HR297_0 := Aside0.mk hi297_0
                                      have HC297_0 := Aside0.mk hl297_0
                                      clear hi297_0 hl297_0
                                      replace p297 := eq_true p297
                                      replace q297 := eq_true q297
                                      have p22 : 0 ≤ ((ji19) : Int) := of_decide_eq_true (by first | (with_reducible assumption) | assumption)
                                      have q22 : ((ji19) : Int) < (((rd_L8 x5_1 (ji16)).length : Int) : Int) := of_decide_eq_true (by first | (with_reducible assumption) | assumption)
                                      obtain ⟨go22, co22, eo22, gb22, gl22, cl22, HG22⟩ := Kd.R_form HL297_0.out (by omega)
                                      (first | cases eo22 | (injection eo22 with ea_ en_ ec_; (first | subst ea_ | (injection ea_ with ea_; subst ea_)); subst ec_; clear en_))
                                      have GB22 := Aside0.mk gb22
                                      have GG22 := Aside0.mk HG22
                                      clear gb22 gl22 HG22
                                      obtain ⟨hx22_0, hf22_0⟩ := Kd.R_celln false HL297_0.out ((ji19) : Int) p22 q22
                                      replace p22 := eq_true p22
                                      replace q22 := eq_true q22
                                      have hq27 : ((ji16) : Int) < (x5_1.length : Int) := (by have h_ : ((ji16) : Int) < ((x5_1.length : Int) : Int) := of_decide_eq_true (by first | (with_reducible assumption) | assumption); first | exact h_ | (have e_ := (Kd.S_reads' HO_5.out).1; omega) | simpa only [List.length_set, List.length_set] using h_)
                                      obtain ⟨oki27, ce27, hcl27, hM27, hcc27, hok27, hbk27⟩ := Kd.S_borrow HO_5.out [] ((ji16) : Int) (of_decide_eq_true (by first | (with_reducible assumption) | assumption)) (by first | exact hq27 | (have e_ := (Kd.S_reads' HO_5.out).1; have h_ := hq27; omega))
                                      obtain ⟨ve27_0, rfl, ge27_0⟩ := hM27
                                      have hv27 := hcc27 0 _ rfl
                                      rw [Nat.add_zero, show ((Kd.slice 4 Kd.bool)).sz = 1 from rfl, Nat.mul_one] at hv27
                                      replace hv27 := Option.some.inj (hv27.symm.trans HX297_0.out)
                                      subst hv27
                                      clear hcc27 hcl27
                                      replace ge27_0 := (show Kd.R Kd.bool 4 _ _ _ _ (rd_L8 x5_1 (ji16)) from ge27_0)
                                      have HP27 := Kd.R_putg ge27_0 ((ji19) : Int) true
                                      go_wp2_with (first | ((with_reducible refine gate_store (t := 4) (p := 60) rfl ?_); refine store_event (t := 4) (p := 60) (v := ?vo_w28) (w1 := (wc.setCell ⟨go22, ((ji19) : Int).toNat, none⟩ (.bool true))) ?hg ?ho ?hn ?hr ?_; (case ho => rfl); (case hg => rfl); (case hn => rfl); (case hr => first | (go_simp; done) | (go_simp; rfl)); intro w28 hw; have hg : wc.grownBy w28 (some go22) := (by rw [hw]; exact HP27.2); have hz_ : Kd.R Kd.bool 4 w28 w.heap.size oki27 (.slice (some ⟨go22, 0, none⟩) (rd_L8 x5_1 (ji16)).length c297_0) y298 := (by rw [hw, Ny298.out]; exact HP27.1); have hp_ : Kd.S (Kd.slice 4 Kd.bool) 40 w28 w.heap.size (fun _ => True) (.slice (some ad297) x5_1.length co26) y300 := (by rw [Ny300.out]; exact hbk27 hg (fun k_ e_ => by injection e_ with e_; subst e_; exact ge27_0.1 _ rfl) (Kd.M_row hz_)); have hm_ := Kd.R_mono hz_ hok27; clear HP27 hbk27; have n0_ := Aside0.mk (hp_); have n1_ := Aside0.mk ((by rw [hw]; exact below_set (HB.out) GB22.out : Below w.heap.size w w28)); have n2_ := Aside0.mk (hm_); have n3_ := Aside0.mk ((Kd.R_reads' hm_).2.1); clear HO_5; clear HB; clear HL297_0; have HO_5 := n0_; have HB := n1_; have HL305 := n2_; have HC299 := n3_; clear n0_ n1_ n2_ n3_; clear hg hw hp_ hz_ hm_ hok27; have p301 : 0 ≤ ((ji19) : Int) := of_decide_eq_true (by first | (with_reducible assumption) | assumption); have q301 : (ji19) < (y300.length : Int) := (by have h_ : ((ji19) : Int) < ((x5_1.length : Int) : Int) := of_decide_eq_true (by first | (with_reducible assumption) | assumption); first | (have e_ := (Kd.S_reads' HO_5.out).1; omega) | simpa only [Ny300.out, List.length_set] using h_); have ql301 : (((ji19) : Int) < ((x5_1.length : Int) : Int)) = True := eq_true (of_decide_eq_true (by first | (with_reducible assumption) | assumption)); obtain ⟨ad301, A301_0, c301_0, e301, hx301_0, hl301_0, hi301_0⟩ := at_L8 (Kd.S_reads' HO_5.out).2.2 (ji19) p301 q301; obtain rfl : ad297 = ad301 := (by injection e301); obtain ⟨ce301, hce301, hMe301, hcc301⟩ := Kd.S_get HO_5.out [] (ji19) p301 (by first | exact q301 | exact of_decide_eq_true (by first | (with_reducible assumption) | assumption) | (have e_ := (Kd.S_reads' HO_5.out).1; omega)); obtain ⟨ve301_0, rfl, ge301_0⟩ := hMe301; have hv301_0 := hcc301 0 _ rfl; rw [Nat.add_zero, show ((Kd.slice 4 Kd.bool)).sz = 1 from rfl, Nat.mul_one] at hv301_0; replace hv301_0 := Option.some.inj (hv301_0.symm.trans hx301_0); rw [hv301_0] at ge301_0; have HL301_0 := Aside0.mk (show Kd.R Kd.bool 4 _ _ _ _ (rd_L8 y300 (ji19)) from ge301_0); clear hv301_0 ge301_0; have HX301_0 := Aside0.mk hx301_0; clear hcc301 hce301; have HR301_0 := Aside0.mk hi301_0; have HC301_0 := Aside0.mk hl301_0; clear hi301_0 hl301_0; replace p301 := eq_true p301; replace q301 := eq_true q301; have p25 : 0 ≤ ((ji16) : Int) := of_decide_eq_true (by first | (with_reducible assumption) | assumption); have q25 : ((ji16) : Int) < (((rd_L8 y300 (ji19)).length : Int) : Int) := of_decide_eq_true (by first | (with_reducible assumption) | assumption); obtain ⟨go25, co25, eo25, gb25, gl25, cl25, HG25⟩ := Kd.R_form HL301_0.out (by omega); (first | cases eo25 | (injection eo25 with ea_ en_ ec_; (first | subst ea_ | (injection ea_ with ea_; subst ea_)); subst ec_; clear en_)); have GB25 := Aside0.mk gb25; have GG25 := Aside0.mk HG25; clear gb25 gl25 HG25; obtain ⟨hx25_0, hf25_0⟩ := Kd.R_celln false HL301_0.out ((ji16) : Int) p25 q25; replace p25 := eq_true p25; replace q25 := eq_true q25; have hq29 : ((ji19) : Int) < (y300.length : Int) := (by have h_ : ((ji19) : Int) < ((x5_1.length : Int) : Int) := of_decide_eq_true (by first | (with_reducible assumption) | assumption); first | exact h_ | (have e_ := (Kd.S_reads' HO_5.out).1; omega) | simpa only [Ny300.out, List.length_set] using h_); obtain ⟨oki29, ce29, hcl29, hM29, hcc29, hok29, hbk29⟩ := Kd.S_borrow HO_5.out [] ((ji19) : Int) (of_decide_eq_true (by first | (with_reducible assumption) | assumption)) (by first | exact hq29 | (have e_ := (Kd.S_reads' HO_5.out).1; have h_ := hq29; omega)); obtain ⟨ve29_0, rfl, ge29_0⟩ := hM29; have hv29 := hcc29 0 _ rfl; rw [Nat.add_zero, show ((Kd.slice 4 Kd.bool)).sz = 1 from rfl, Nat.mul_one] at hv29; replace hv29 := Option.some.inj (hv29.symm.trans HX301_0.out); subst hv29; clear hcc29 hcl29; replace ge29_0 := (show Kd.R Kd.bool 4 _ _ _ _ (rd_L8 y300 (ji19)) from ge29_0); have HP29 := Kd.R_putg ge29_0 ((ji16) : Int) true) | ((with_reducible refine gate_store (t := 4) (p := 66) rfl ?_); refine store_event (t := 4) (p := 66) (v := ?vo_w30) (w1 := (w28.setCell ⟨go25, ((ji16) : Int).toNat, none⟩ (.bool true))) ?hg ?ho ?hn ?hr ?_; (case ho => rfl); (case hg => rfl); (case hn => rfl); (case hr => first | (go_simp; done) | (go_simp; rfl)); intro w30 hw; have hg : w28.grownBy w30 (some go25) := (by rw [hw]; exact HP29.2); have hz_ : Kd.R Kd.bool 4 w30 w.heap.size oki29 (.slice (some ⟨go25, 0, none⟩) (rd_L8 y300 (ji19)).length c301_0) y302 := (by rw [hw, Ny302.out]; exact HP29.1); have hp_ : Kd.S (Kd.slice 4 Kd.bool) 40 w30 w.heap.size (fun _ => True) (.slice (some ad297) x5_1.length co26) y304 := (by rw [Ny304.out]; exact hbk29 hg (fun k_ e_ => by injection e_ with e_; subst e_; exact ge29_0.1 _ rfl) (Kd.M_row hz_)); have hm_ := Kd.R_mono hz_ hok29; clear HP29 hbk29; have n0_ := Aside0.mk (hp_); have n1_ := Aside0.mk ((by rw [hw]; exact below_set (HB.out) GB25.out : Below w.heap.size w w30)); have n2_ := Aside0.mk (hm_); have n3_ := Aside0.mk ((Kd.R_reads' hm_).2.1); clear HO_5; clear HB; clear HL305; clear HL301_0; have HO_5 := n0_; have HB := n1_; have HL306 := n2_; have HC303 := n3_; clear n0_ n1_ n2_ n3_; clear hg hw hp_ hz_ hm_ hok29))
                                      first | go_roundg kj4 | (simp only [← hji16, ← hji19]; (try simp only [← hji16, ← hji19] at H'); go_roundg kj4)
                                      case measure => have := HK1.out; have := HJ4.out; omega
                                      case rel => exact ⟨(y304), (wrap64 (x6_1 + 1)), (by first | rfl | (simp; done) | (simp [*]; done)), H', ⟨by have := HK1.out; have := HJ4.out; omega⟩, ⟨by (with_reducible repeat (first | apply Kd.S_alloc | apply Kd.S_drewN | apply Kd.S_drew)); exact HO_5.out⟩, ⟨by repeat (first | (with_reducible first | exact HB.out | apply below_alloc | apply pw_below_drewN | apply below_drew1) | exact HB.out)⟩⟩
                                    · rw [if_neg c24] at H
                                      exact absurd H (by simp)
                                  · rw [if_neg c23] at H
                                    exact absurd H (by simp)
                                · rw [if_neg c21] at H
                                  exact absurd H (by simp)
                              · rw [if_neg c20] at H
                                exact absurd H (by simp)
                            · rw [if_neg c18] at H
                              exact absurd H (by simp)
                          · rw [if_neg c17] at H
                            exact absurd H (by simp)
                      · rw [if_neg c14] at H
                        exact absurd H (by simp)
                  · rw [if_neg c12] at H
                    exact absurd H (by simp)
              · rw [if_neg c10] at H
                exact absurd H (by simp)
            · rw [if_neg c9] at H
              exact absurd H (by simp)
          · replace c8 := Bool.eq_false_iff.mpr c8
            subst c8
            have H1 : (some x5_1) = some r := by rw [if_neg (show ¬ (false = true) by decide)] at H; exact H
            clear H
            have H := H1
            clear H1
            obtain rfl := Option.some.inj H
            go_wp2
            go_ret
            exact ⟨_, by first | rfl | (simp [errW_none, errW_some] <;> rfl) | (simp [*, errW_none, errW_some] <;> rfl), by (with_reducible repeat (first | apply Kd.S_alloc | apply Kd.S_drewN | apply Kd.S_drew)); exact HO_5.out, by repeat (first | (with_reducible first | exact HB.out | apply below_alloc | apply pw_below_drewN | apply below_drew1) | exact HB.out)⟩

end Go.Proofs.YtbdlelojlnhhfaaDoor.Pr
namespace Go.Proofs.YtbdlelojlnhhfaaDoor.Pr
open Go.RowKit Go.Proofs.YtbdlelojlnhhfaaDoorW.PrintWords Go.Proofs.YtbdlelojlnhhfaaDoorW.PrintLast Go.Proofs.YtbdlelojlnhhfaaDoorW.PrintMore
attribute [local go_sem] max2_int min2_int max_two min_two max_three min_three max_four min_four   -- for this text's walks alone
set_option linter.unusedVariables false
set_option linter.unusedSimpArgs false

/-! ### arboristref08_Graph: function 13 -/
mutual
def arboristref08_Graph.l0 : Nat → List (List Bool) → Int → List Int → Option (List Int)
  | 0, _, _, _ => none
  | k + 1, x0, x4, x309000 => if x4 < (x0.length : Int) then (arboristref08_Graph.l1 k x0 x4 0 0 x309000) else (some x309000)
def arboristref08_Graph.l1 : Nat → List (List Bool) → Int → Int → Int → List Int → Option (List Int)
  | 0, _, _, _, _, _ => none
  | k + 1, x0, x4, x5, x6, x309000 => if x6 < (x0.length : Int) then (if 0 ≤ x4 then (if x4 < (x0.length : Int) then (if 0 ≤ x6 then (if x6 < ((rd_L8 x0 x4).length : Int) then (if rdOf false (rd_L8 x0 x4) x6 = true then (if 0 ≤ (IntKind.u64.wrap (x6)) then (arboristref08_Graph.l1 k x0 x4 (IntKind.u64.wrap (x5 + (shl .u64 1 (IntKind.u64.wrap (x6))))) (wrap64 (x6 + 1)) x309000) else (none)) else (arboristref08_Graph.l1 k x0 x4 x5 (wrap64 (x6 + 1)) x309000)) else (none)) else (none)) else (none)) else (none)) else (if x309000.length < 17592186044416 then (arboristref08_Graph.l0 k x0 (wrap64 (x4 + 1)) (x309000 ++ [x5])) else (none))
end
def arboristref08_Graph.f (k : Nat) (l0 : List (List Bool)) : Option (List Int) := arboristref08_Graph.l0 k l0 0 ([] : List Int)
theorem arboristref08_Graph.mono_l : ∀ k, (∀ y0 y1 y2, LeO (arboristref08_Graph.l0 k y0 y1 y2) (arboristref08_Graph.l0 (k + 1) y0 y1 y2)) ∧ (∀ y0 y1 y2 y3 y4, LeO (arboristref08_Graph.l1 k y0 y1 y2 y3 y4) (arboristref08_Graph.l1 (k + 1) y0 y1 y2 y3 y4))
  | 0 => ⟨fun _ _ _ r h => by simp [arboristref08_Graph.l0] at h, fun _ _ _ _ _ r h => by simp [arboristref08_Graph.l1] at h⟩
  | k + 1 => by
    obtain ⟨ih0, ih1⟩ := arboristref08_Graph.mono_l k
    refine ⟨?_, ?_⟩
    all_goals intros
    all_goals (first | unfold arboristref08_Graph.l0 | unfold arboristref08_Graph.l1)
    all_goals repeat' first
    | (with_reducible exact ih0 _ _ _)
    | (with_reducible exact ih1 _ _ _ _ _)
    | (with_reducible exact LeO.refl _)
    | (with_reducible exact LeO.none _)
    | (with_reducible refine LeO.ite ?_ ?_)
    | (with_reducible refine LeO.bind ?_ (fun _ => ?_))
    | exact ih0 _ _ _
    | exact ih1 _ _ _ _ _
    | exact LeO.none _
    | refine LeO.ite ?_ ?_
    | refine LeO.bind ?_ (fun _ => ?_)
theorem arboristref08_Graph.mono : ∀ a0 k, LeO (arboristref08_Graph.f k a0) (arboristref08_Graph.f (k + 1) a0) := by
  intro a0 k
  obtain ⟨ih0, ih1⟩ := arboristref08_Graph.mono_l k
  unfold arboristref08_Graph.f
  repeat' first
      | (with_reducible exact ih0 _ _ _)
      | (with_reducible exact ih1 _ _ _ _ _)
      | (with_reducible exact LeO.refl _)
      | (with_reducible exact LeO.none _)
      | (with_reducible refine LeO.ite ?_ ?_)
      | (with_reducible refine LeO.bind ?_ (fun _ => ?_))
      | exact ih0 _ _ _
      | exact ih1 _ _ _ _ _
      | exact LeO.none _
      | refine LeO.ite ?_ ?_
      | refine LeO.bind ?_ (fun _ => ?_)
set_option maxHeartbeats 8000000 in
set_option maxRecDepth 100000 in
theorem arboristref08_Graph.calls (k : Nat) (A0 : Option Addr) (c0 : Nat) (l0 : List (List Bool)) (r : List Int) (w : World) (hr0 : Kd.C (Kd.slice 4 Kd.bool) w A0 l0.length l0) (hc0 : l0.length ≤ c0) (h : arboristref08_Graph.f k l0 = some r) :
    Calls Tryd.prog 13 #[.slice A0 l0.length c0] w fun e w' => ∃ v0_ : Value, e = .returned (.agg #[v0_]) ∧ Kd.R (Kd.int .u64) 54 w' w.heap.size (fun _ => True) v0_ r ∧ Below w.heap.size w w' := by
  have hu34 := Tryd.underlying34
  have HR0 := Aside0.mk hr0
  have HC0 := Aside0.mk hc0
  clear hr0 hc0
  have HB := Aside0.mk (Below.refl w.heap.size w)
  have H : (arboristref08_Graph.l0 k l0 0 ([] : List Int)) = some r := h
  clear h
  have H' := Aside0.mk H
  clear H
  go_enter Tryd.func13, Tryd.ntmps13
  go_wp2_with (first | ((with_reducible refine gate_dst (N := 2) rfl ?_); refine box_event ?hg (N := 2) ?hd (cs := #[.slice none 0 0]) (t := 34) ?hr ?_; (case hd => rfl); (case hg => rfl); (case hr => first | (go_simp; done) | (go_simp; rfl)); intro gb307 hg w2 hbox hb; have n0_ := Aside0.mk (below_step (by repeat (first | (with_reducible first | exact HB.out | apply below_alloc | apply pw_below_drewN | apply below_drew1) | exact HB.out)) hb); have n1_ := Aside0.mk (hbox); have n2_ := Aside0.mk ((by rw [hg]; exact (below_size (by repeat (first | (with_reducible first | exact HB.out | apply below_alloc | apply pw_below_drewN | apply below_drew1) | exact HB.out))) : w.heap.size ≤ gb307)); have n3_ := Aside0.mk ((by rw [hg]; exact (below_size (by repeat (first | (with_reducible first | exact HB.out | apply below_alloc | apply pw_below_drewN | apply below_drew1) | exact HB.out))) : w.heap.size ≤ gb307)); clear HB; have HB := n0_; have BK307 := n1_; have GW307 := n2_; have GE307 := n3_; clear n0_ n1_ n2_ n3_; clear hb hbox hg) | ((with_reducible refine gate_dst (N := 3) rfl ?_); refine box_event ?hg (N := 3) ?hd (cs := #[.slice none 0 0]) (t := 34) ?hr ?_; (case hd => rfl); (case hg => rfl); (case hr => first | (go_simp; done) | (go_simp; rfl)); intro gb308 hg w3 hbox hb; have n0_ := Aside0.mk (blk_below (g := gb307) (o := .cells #[.slice none 0 0] 34 (0, 0)) (by (with_reducible repeat (first | refine blk_drewN ?_ _ | refine blk_drew ?_ | refine blk_alloc ?_ _)); exact BK307.out) hb); have n1_ := Aside0.mk (below_step (by repeat (first | (with_reducible first | exact HB.out | apply below_alloc | apply pw_below_drewN | apply below_drew1 | refine below_set ?_ GE307.out) | exact HB.out)) hb); have n2_ := Aside0.mk (hbox); have n3_ := Aside0.mk ((by rw [hg]; exact (below_size (by repeat (first | (with_reducible first | exact HB.out | apply below_alloc | apply pw_below_drewN | apply below_drew1 | refine below_set ?_ GE307.out) | exact HB.out))) : w.heap.size ≤ gb308)); have n4_ := Aside0.mk ((by rw [hg]; exact (below_size (by repeat (first | (with_reducible first | exact HB.out | apply below_alloc | apply pw_below_drewN | apply below_drew1 | refine below_set ?_ GE307.out) | exact HB.out))) : w.heap.size ≤ gb308)); have n5_ := Aside0.mk ((by rw [hg]; exact Nat.ne_of_lt (blk_lt (g := gb307) (o := .cells #[.slice none 0 0] 34 (0, 0)) (by (with_reducible repeat (first | refine blk_drewN ?_ _ | refine blk_drew ?_ | refine blk_alloc ?_ _)); exact BK307.out)) : gb307 ≠ gb308)); have n6_ := Aside0.mk ((by rw [hg]; exact Nat.ne_of_gt (blk_lt (g := gb307) (o := .cells #[.slice none 0 0] 34 (0, 0)) (by (with_reducible repeat (first | refine blk_drewN ?_ _ | refine blk_drew ?_ | refine blk_alloc ?_ _)); exact BK307.out)) : gb308 ≠ gb307)); clear BK307; clear HB; have BK307 := n0_; have HB := n1_; have BK308 := n2_; have GW308 := n3_; have GE308 := n4_; have NB307_308 := n5_; have NB308_307 := n6_; clear n0_ n1_ n2_ n3_ n4_ n5_ n6_; clear hb hbox hg; have hnb4 := NB308_307.out; have hnc4 := NB307_308.out; have hcz5_0 : w3.cell? ⟨gb308, 0, none⟩ = some (.slice none 0 0) := (blk_cell BK308.out 0).trans rfl; have hfz5_0 := blk_frozen BK308.out 0))
  go_loopg [4] k (fun kq v4 w' => ∃ (x4_1 : Int) (x309000_1 : List Int) (u309000 : Value), v4 = .int .i64 x4_1 ∧ Aside0 (arboristref08_Graph.l0 kq l0 x4_1 x309000_1 = some r) ∧ Aside0 (kq ≤ k) ∧ Aside0 (Kd.R (Kd.int .u64) 54 w' w.heap.size (fun _ => True) u309000 x309000_1) ∧ Aside0 (w'.heap[gb307]? = some (.cells #[(.slice none 0 0)] 34 (0, 0))) ∧ Aside0 (w'.heap[gb308]? = some (.cells #[u309000] 34 (0, 0))) ∧ Aside0 (Below w.heap.size w w'))
  case atStart => exact ⟨(0), (([] : List Int)), (.slice none 0 0), (by first | rfl | (simp; done) | (simp [*]; done)), H', ⟨Nat.le_refl _⟩, ⟨by first | exact Kd.R_nil _ _ _ _ _ | exact Kd.N_nil _ _ _ _ _ | exact Kd.V_nil _ _ _ _ _ | exact Kd.Q_nil _ _ _ _ _ | exact Kd.S_nil _ _ _ _ _⟩, ⟨by (with_reducible repeat (first | refine blk_drewN ?_ _ | refine blk_drew ?_ | refine blk_alloc ?_ _)); refine blk_far ?_ NB307_308.out _; (with_reducible repeat (first | refine blk_drewN ?_ _ | refine blk_drew ?_ | refine blk_alloc ?_ _)); exact BK307.out⟩, ⟨by (with_reducible repeat (first | refine blk_drewN ?_ _ | refine blk_drew ?_ | refine blk_alloc ?_ _)); refine blk_put (cs := #[.slice none 0 0]) ?_ 0 _ rfl; (with_reducible repeat (first | refine blk_drewN ?_ _ | refine blk_drew ?_ | refine blk_alloc ?_ _)); exact BK308.out⟩, ⟨by repeat (first | (with_reducible first | exact HB.out | apply below_alloc | apply pw_below_drewN | apply below_drew1 | refine below_set ?_ GE307.out | refine below_set ?_ GE308.out) | exact HB.out)⟩⟩
  case round =>
    clear H'
    try clear c1
    try clear p2
    try clear c4
    try clear hcz5_0
    try clear hfz5_0
    obtain ⟨x4_1, x309000_1, u309000, rfl, HA, HK1, HO_309000, BK307, BK308, HB⟩ := hrel
    cases gk with
    | zero => exact absurd HA.out (by simp [arboristref08_Graph.l0])
    | succ k1 =>
      have H := HA.out
      clear HA
      simp only [arboristref08_Graph.l0] at H
      by_cases c6 : x4_1 < (l0.length : Int)
      · rw [if_pos c6] at H
        have c6b0 : decide (x4_1 < (l0.length : Int)) = true := decide_eq_true c6
        clear c6
        have H' := Aside0.mk H
        clear H
        go_wp2
        go_loopg [5, 6] k1 (fun kq v5 v6 w' => ∃ (x5_2 : Int) (x6_2 : Int), v5 = .int .u64 x5_2 ∧ v6 = .int .i64 x6_2 ∧ Aside0 (arboristref08_Graph.l1 kq l0 x4_1 x5_2 x6_2 x309000_1 = some r) ∧ Aside0 (kq ≤ k1) ∧ Aside0 (Kd.R (Kd.int .u64) 54 w' w.heap.size (fun _ => True) u309000 x309000_1) ∧ Aside0 (w'.heap[gb307]? = some (.cells #[(.slice none 0 0)] 34 (0, 0))) ∧ Aside0 (w'.heap[gb308]? = some (.cells #[u309000] 34 (0, 0))) ∧ Aside0 (Below w.heap.size w w'))
        case atStart => exact ⟨(0), (0), (by first | rfl | (simp; done) | (simp [*]; done)), (by first | rfl | (simp; done) | (simp [*]; done)), H', ⟨Nat.le_refl _⟩, ⟨by (with_reducible repeat (first | apply Kd.R_alloc | apply Kd.R_drewN | apply Kd.R_drew)); exact HO_309000.out⟩, ⟨by (with_reducible repeat (first | refine blk_drewN ?_ _ | refine blk_drew ?_ | refine blk_alloc ?_ _)); exact BK307.out⟩, ⟨by (with_reducible repeat (first | refine blk_drewN ?_ _ | refine blk_drew ?_ | refine blk_alloc ?_ _)); exact BK308.out⟩, ⟨by repeat (first | (with_reducible first | exact HB.out | apply below_alloc | apply pw_below_drewN | apply below_drew1 | refine below_set ?_ GE307.out | refine below_set ?_ GE308.out) | exact HB.out)⟩⟩
        case round =>
          clear H'
          try clear c1
          try clear p2
          try clear c4
          try clear c6
          try clear c6b0
          try clear hcz5_0
          try clear hfz5_0
          try clear p2
          obtain ⟨x5_2, x6_2, rfl, rfl, HA, HK2, HO_309000, BK307, BK308, HB⟩ := hrel
          cases gk with
          | zero => exact absurd HA.out (by simp [arboristref08_Graph.l1])
          | succ k2 =>
            have H := HA.out
            clear HA
            simp only [arboristref08_Graph.l1] at H
            by_cases c7 : x6_2 < (l0.length : Int)
            · rw [if_pos c7] at H
              have c7b0 : decide (x6_2 < (l0.length : Int)) = true := decide_eq_true c7
              clear c7
              by_cases c8 : 0 ≤ x4_1
              · rw [if_pos c8] at H
                have c8b0 : decide (0 ≤ x4_1) = true := decide_eq_true c8
                clear c8
                by_cases c9 : x4_1 < (l0.length : Int)
                · rw [if_pos c9] at H
                  have c9b0 : decide (x4_1 < (l0.length : Int)) = true := decide_eq_true c9
                  clear c9
                  by_cases c10 : 0 ≤ x6_2
                  · rw [if_pos c10] at H
                    have c10b0 : decide (0 ≤ x6_2) = true := decide_eq_true c10
                    clear c10
                    by_cases c11 : x6_2 < ((rd_L8 l0 x4_1).length : Int)
                    · rw [if_pos c11] at H
                      have c11b0 : decide (x6_2 < ((rd_L8 l0 x4_1).length : Int)) = true := decide_eq_true c11
                      clear c11
                      obtain ⟨bq12, hbq12⟩ : ∃ b_ : Bool, b_ = (rdOf false (rd_L8 l0 x4_1) x6_2) := ⟨_, rfl⟩
                      replace H : (if bq12 = true then (if 0 ≤ (IntKind.u64.wrap (x6_2)) then (arboristref08_Graph.l1 k2 l0 x4_1 (IntKind.u64.wrap (x5_2 + (shl .u64 1 (IntKind.u64.wrap (x6_2))))) (wrap64 (x6_2 + 1)) x309000_1) else (none)) else (arboristref08_Graph.l1 k2 l0 x4_1 x5_2 (wrap64 (x6_2 + 1)) x309000_1)) = some r := by rw [← hbq12] at H; exact H
                      have Nbq12 := Aside0.mk hbq12
                      clear hbq12
                      by_cases c13 : bq12 = true
                      · subst c13
                        have H1 : (if 0 ≤ (IntKind.u64.wrap (x6_2)) then (arboristref08_Graph.l1 k2 l0 x4_1 (IntKind.u64.wrap (x5_2 + (shl .u64 1 (IntKind.u64.wrap (x6_2))))) (wrap64 (x6_2 + 1)) x309000_1) else (none)) = some r := by rw [if_pos rfl] at H; exact H
                        clear H
                        have H := H1
                        clear H1
                        obtain ⟨ji14, hji14⟩ : ∃ j_ : Int, (IntKind.u64.wrap (x6_2)) = j_ := ⟨_, rfl⟩
                        replace H : (if 0 ≤ (ji14) then (arboristref08_Graph.l1 k2 l0 x4_1 (IntKind.u64.wrap (x5_2 + (shl .u64 1 (ji14)))) (wrap64 (x6_2 + 1)) x309000_1) else (none)) = some r := by first | (rw [hji14] at H; exact H) | (simp only [hji14] at H ⊢; exact H)
                        by_cases c15 : 0 ≤ (ji14)
                        · rw [if_pos c15] at H
                          have c15b0 := eq_true c15
                          have c15b1 : decide (0 ≤ (ji14)) = true := decide_eq_true c15
                          clear c15
                          obtain ⟨ji16, hji16⟩ : ∃ j_ : Int, (shl .u64 1 (ji14)) = j_ := ⟨_, rfl⟩
                          replace H : (arboristref08_Graph.l1 k2 l0 x4_1 (IntKind.u64.wrap (x5_2 + (ji16))) (wrap64 (x6_2 + 1)) x309000_1) = some r := by first | (rw [hji16] at H; exact H) | (simp only [hji16] at H ⊢; exact H)
                          have hji16_ : (IntKind.u64.wrap (1 * 2 ^ min (ji14).toNat 64)) = ji16 := hji16
                          have hji16z : (ji14) ≤ 64 → (IntKind.u64.wrap (1 * 2 ^ (ji14).toNat)) = ji16 := shl_small hji16
                          have hji16u : (IntKind.u64.wrap (2 ^ min (ji14).toNat 64)) = ji16 := by have h_ := hji16_; rw [Int.one_mul] at h_; exact h_
                          have hji16v : (ji14) ≤ 64 → (IntKind.u64.wrap (2 ^ (ji14).toNat)) = ji16 := fun hle_ => by have h_ := hji16z hle_; rw [Int.one_mul] at h_; exact h_
                          have H' := Aside0.mk H
                          clear H
                          have p309 : 0 ≤ (x4_1 : Int) := of_decide_eq_true (by first | (with_reducible assumption) | assumption)
                          have q309 : x4_1 < (l0.length : Int) := of_decide_eq_true (by first | (with_reducible assumption) | assumption)
                          obtain ⟨ad309, A309_0, c309_0, e309, hx309_0, hl309_0, hi309_0⟩ := at_L8 HR0.out x4_1 p309 q309
                          cases e309
                          replace hx309_0 := (HB.out.cell (World.block_lt_of_cell? w _ hx309_0)).trans hx309_0
                          have HR309_0 := Aside0.mk hi309_0
                          have HC309_0 := Aside0.mk hl309_0
                          clear hi309_0 hl309_0
                          replace p309 := eq_true p309
                          replace q309 := eq_true q309
                          have p310 : 0 ≤ (x6_2 : Int) := of_decide_eq_true (by first | (with_reducible assumption) | assumption)
                          have q310 : x6_2 < ((rd_L8 l0 x4_1).length : Int) := of_decide_eq_true (by first | (with_reducible assumption) | assumption)
                          obtain ⟨ad310, e310, hx310_0⟩ := Kd.at_bool HR309_0.out x6_2 p310 q310
                          (try rw [← Nbq12.out] at hx310_0)
                          cases e310
                          replace hx310_0 := (HB.out.cell (World.block_lt_of_cell? w _ hx310_0)).trans hx310_0
                          replace p310 := eq_true p310
                          replace q310 := eq_true q310
                          go_wp2
                          first | go_roundg k2 | (simp only [← hji14, ← hji16]; (try simp only [← hji14, ← hji16] at H'); go_roundg k2)
                          case measure => have := HK1.out; have := HK2.out; omega
                          case rel => exact ⟨(IntKind.u64.wrap (x5_2 + (ji16))), (wrap64 (x6_2 + 1)), (by first | rfl | (simp; done) | (simp only [← hji16] <;> (first | rfl | simp)) | (simp [*]; done)), (by first | rfl | (simp; done) | (simp [*]; done)), H', ⟨by have := HK1.out; have := HK2.out; omega⟩, ⟨by (with_reducible repeat (first | apply Kd.R_alloc | apply Kd.R_drewN | apply Kd.R_drew)); exact HO_309000.out⟩, ⟨by (with_reducible repeat (first | refine blk_drewN ?_ _ | refine blk_drew ?_ | refine blk_alloc ?_ _)); exact BK307.out⟩, ⟨by (with_reducible repeat (first | refine blk_drewN ?_ _ | refine blk_drew ?_ | refine blk_alloc ?_ _)); exact BK308.out⟩, ⟨by repeat (first | (with_reducible first | exact HB.out | apply below_alloc | apply pw_below_drewN | apply below_drew1 | refine below_set ?_ GE307.out | refine below_set ?_ GE308.out) | exact HB.out)⟩⟩
                        · rw [if_neg c15] at H
                          exact absurd H (by simp)
                      · replace c13 := Bool.eq_false_iff.mpr c13
                        subst c13
                        have H1 : (arboristref08_Graph.l1 k2 l0 x4_1 x5_2 (wrap64 (x6_2 + 1)) x309000_1) = some r := by rw [if_neg (show ¬ (false = true) by decide)] at H; exact H
                        clear H
                        have H := H1
                        clear H1
                        have H' := Aside0.mk H
                        clear H
                        have p309 : 0 ≤ (x4_1 : Int) := of_decide_eq_true (by first | (with_reducible assumption) | assumption)
                        have q309 : x4_1 < (l0.length : Int) := of_decide_eq_true (by first | (with_reducible assumption) | assumption)
                        obtain ⟨ad309, A309_0, c309_0, e309, hx309_0, hl309_0, hi309_0⟩ := at_L8 HR0.out x4_1 p309 q309
                        cases e309
                        replace hx309_0 := (HB.out.cell (World.block_lt_of_cell? w _ hx309_0)).trans hx309_0
                        have HR309_0 := Aside0.mk hi309_0
                        have HC309_0 := Aside0.mk hl309_0
                        clear hi309_0 hl309_0
                        replace p309 := eq_true p309
                        replace q309 := eq_true q309
                        have p310 : 0 ≤ (x6_2 : Int) := of_decide_eq_true (by first | (with_reducible assumption) | assumption)
                        have q310 : x6_2 < ((rd_L8 l0 x4_1).length : Int) := of_decide_eq_true (by first | (with_reducible assumption) | assumption)
                        obtain ⟨ad310, e310, hx310_0⟩ := Kd.at_bool HR309_0.out x6_2 p310 q310
                        (try rw [← Nbq12.out] at hx310_0)
                        cases e310
                        replace hx310_0 := (HB.out.cell (World.block_lt_of_cell? w _ hx310_0)).trans hx310_0
                        replace p310 := eq_true p310
                        replace q310 := eq_true q310
                        go_wp2
                        go_roundg k2
                        case measure => have := HK1.out; have := HK2.out; omega
                        case rel => exact ⟨(x5_2), (wrap64 (x6_2 + 1)), (by first | rfl | (simp; done) | (simp [*]; done)), (by first | rfl | (simp; done) | (simp [*]; done)), H', ⟨by have := HK1.out; have := HK2.out; omega⟩, ⟨by (with_reducible repeat (first | apply Kd.R_alloc | apply Kd.R_drewN | apply Kd.R_drew)); exact HO_309000.out⟩, ⟨by (with_reducible repeat (first | refine blk_drewN ?_ _ | refine blk_drew ?_ | refine blk_alloc ?_ _)); exact BK307.out⟩, ⟨by (with_reducible repeat (first | refine blk_drewN ?_ _ | refine blk_drew ?_ | refine blk_alloc ?_ _)); exact BK308.out⟩, ⟨by repeat (first | (with_reducible first | exact HB.out | apply below_alloc | apply pw_below_drewN | apply below_drew1 | refine below_set ?_ GE307.out | refine below_set ?_ GE308.out) | exact HB.out)⟩⟩
                    · rw [if_neg c11] at H
                      exact absurd H (by simp)
                  · rw [if_neg c10] at H
                    exact absurd H (by simp)
                · rw [if_neg c9] at H
                  exact absurd H (by simp)
              · rw [if_neg c8] at H
                exact absurd H (by simp)
            · rw [if_neg c7] at H
              have c7b0 : decide (x6_2 < (l0.length : Int)) = false := decide_eq_false c7
              clear c7
              by_cases c17 : x309000_1.length < 17592186044416
              · rw [if_pos c17] at H
                have LMc17 := Aside0.mk c17
                clear c17
                obtain ⟨y311, hy311⟩ : ∃ y_ : List Int, y_ = (x309000_1 ++ [x5_2]) := ⟨_, rfl⟩
                replace H : (arboristref08_Graph.l0 k2 l0 (wrap64 (x4_1 + 1)) y311) = some r := by first | (rw [hy311]; with_reducible exact H) | (have H2_ := (Option.bind_some _ _).symm.trans H; rw [hy311]; with_reducible exact H2_) | (have H2_ := (Option.bind_some _ _).symm.trans H; with_reducible exact H2_) | with_reducible exact H | (rw [hy311]; exact H) | exact H
                have Ny311 := Aside0.mk hy311
                clear hy311
                have H' := Aside0.mk H
                clear H
                have hnb18 := NB308_307.out
                have hnc18 := NB307_308.out
                have hcz19_0 : wr.cell? ⟨gb308, 0, none⟩ = some (u309000) := (blk_cell BK308.out 0).trans rfl
                have hfz19_0 := blk_frozen BK308.out 0
                go_wp2_with (first | ((with_reducible refine gate_builtin (b := .append) (xs := #[.tmp 33, .tmp 35]) rfl ?_); at_builtin; refine Kd.R_append (Kd.int .u64) (w0 := w) w.heap.size rfl (.tmp 33) (.tmp 35) 32 54 (.int .u64 0) 8 rfl Tryd.underlying32 info54 rfl (by decide) (by omega) u309000 x309000_1 x5_2 [.int .u64 x5_2] (fun _ => True) (fun _ => False) rfl rfl ?aP (fun _ hk => hk.elim) ?aF ?aO ?aB ?aS ?aL ?_; (case aP => exact rfl); (case aB => exact (by repeat (first | (with_reducible first | exact HB.out | apply below_alloc | apply pw_below_drewN | apply below_drew1 | refine below_set ?_ GE307.out | refine below_set ?_ GE308.out) | exact HB.out))); (case aF => exact (fun _ _ => trivial)); (case aO => exact (by (with_reducible repeat (first | apply Kd.R_alloc | apply Kd.R_drewN | apply Kd.R_drew)); exact HO_309000.out)); (case aS => exact (below_size (by repeat (first | (with_reducible first | exact HB.out | apply below_alloc | apply pw_below_drewN | apply below_drew1 | refine below_set ?_ GE307.out | refine below_set ?_ GE308.out) | exact HB.out)))); (case aL => have := LMc17.out; omega); intro v312 w20 ho hb hg hat; rw [← Ny311.out] at ho; have n0_ := Aside0.mk (blk_grown (g := gb307) (o := .cells #[.slice none 0 0] 34 (0, 0)) (by (with_reducible repeat (first | refine blk_drewN ?_ _ | refine blk_drew ?_ | refine blk_alloc ?_ _)); exact BK307.out) hg (Kd.R_ne HO_309000.out BK307.out (by decide))); have n1_ := Aside0.mk (blk_grown (g := gb308) (o := .cells #[u309000] 34 (0, 0)) (by (with_reducible repeat (first | refine blk_drewN ?_ _ | refine blk_drew ?_ | refine blk_alloc ?_ _)); exact BK308.out) hg (Kd.R_ne HO_309000.out BK308.out (by decide))); have n2_ := Aside0.mk (hb); have n3_ := Aside0.mk (ho); clear BK307; clear BK308; clear HB; clear HO_309000; have BK307 := n0_; have BK308 := n1_; have HB := n2_; have HO313 := n3_; clear n0_ n1_ n2_ n3_; clear ho hb hg hat; obtain ⟨Ao21, co21, eo21⟩ := Kd.R_slice HO313.out; subst eo21; have hcz22_0 : w20.cell? ⟨gb308, 0, none⟩ = some (u309000) := (blk_cell BK308.out 0).trans rfl; have hfz22_0 := blk_frozen BK308.out 0))
                go_roundg k2
                case measure => have := HK1.out; have := HK2.out; omega
                case rel => exact ⟨(wrap64 (x4_1 + 1)), (y311), (.slice Ao21 y311.length co21), (by first | rfl | (simp; done) | (simp [*]; done)), H', ⟨by have := HK1.out; have := HK2.out; omega⟩, ⟨by (with_reducible repeat (first | apply Kd.R_alloc | apply Kd.R_drewN | apply Kd.R_drew)); exact Kd.R_mono (Kd.R_far (p := ⟨gb308, 0, none⟩) (Kd.R_types HO313.out BK308.out (by decide)) (fun _ hk => hk.2) (.slice Ao21 y311.length co21)) (fun _ hk => trivial)⟩, ⟨by (with_reducible repeat (first | refine blk_drewN ?_ _ | refine blk_drew ?_ | refine blk_alloc ?_ _)); refine blk_far ?_ NB307_308.out _; (with_reducible repeat (first | refine blk_drewN ?_ _ | refine blk_drew ?_ | refine blk_alloc ?_ _)); exact BK307.out⟩, ⟨by (with_reducible repeat (first | refine blk_drewN ?_ _ | refine blk_drew ?_ | refine blk_alloc ?_ _)); refine blk_put (cs := #[u309000]) ?_ 0 _ rfl; (with_reducible repeat (first | refine blk_drewN ?_ _ | refine blk_drew ?_ | refine blk_alloc ?_ _)); exact BK308.out⟩, ⟨by repeat (first | (with_reducible first | exact HB.out | apply below_alloc | apply pw_below_drewN | apply below_drew1 | refine below_set ?_ GE307.out | refine below_set ?_ GE308.out) | exact HB.out)⟩⟩
              · rw [if_neg c17] at H
                exact absurd H (by simp)
      · rw [if_neg c6] at H
        have c6b0 : decide (x4_1 < (l0.length : Int)) = false := decide_eq_false c6
        clear c6
        obtain rfl := Option.some.inj H
        have hnb23 := NB308_307.out
        have hnc23 := NB307_308.out
        have hcz24_0 : wr.cell? ⟨gb308, 0, none⟩ = some (u309000) := (blk_cell BK308.out 0).trans rfl
        have hfz24_0 := blk_frozen BK308.out 0
        obtain ⟨Ao25, co25, eo25⟩ := Kd.R_slice HO_309000.out
        subst eo25
        have hcz26_0 : wr.cell? ⟨gb307, 0, none⟩ = some (.slice none 0 0) := (blk_cell BK307.out 0).trans rfl
        have hfz26_0 := blk_frozen BK307.out 0
        go_wp2
        refine bodyPost_ret (results_cell_row rfl _ _ gb307 34 #[.slice Ao25 x309000_1.length co25] (0, 0) _ rfl (by (with_reducible repeat (first | refine blk_drewN ?_ _ | refine blk_drew ?_ | refine blk_alloc ?_ _)); refine blk_put (cs := #[.slice none 0 0]) ?_ 0 _ rfl; (with_reducible repeat (first | refine blk_drewN ?_ _ | refine blk_drew ?_ | refine blk_alloc ?_ _)); exact BK307.out) Tryd.underlying34 rfl (by kernel_rfl)) rfl ?_
        exact ⟨_, by first | rfl | (simp [errW_none, errW_some] <;> rfl) | (simp [*, errW_none, errW_some] <;> rfl), by (with_reducible repeat (first | apply Kd.R_alloc | apply Kd.R_drewN | apply Kd.R_drew)); exact Kd.R_mono (Kd.R_far (p := ⟨gb307, 0, none⟩) (Kd.R_types HO_309000.out BK307.out (by decide)) (fun _ hk => hk.2) (.slice Ao25 x309000_1.length co25)) (fun _ hk => trivial), by repeat (first | (with_reducible first | exact HB.out | apply below_alloc | apply pw_below_drewN | apply below_drew1 | refine below_set ?_ GE307.out | refine below_set ?_ GE308.out) | exact HB.out)⟩

end Go.Proofs.YtbdlelojlnhhfaaDoor.Pr
