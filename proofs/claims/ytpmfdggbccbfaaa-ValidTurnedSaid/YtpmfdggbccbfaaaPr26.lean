-- Printed by a program of this session's own (wip/tools/pp.py) over the kit's print.py; Lean checks it.
import Derived.Test.YtpmfdggbccbfaaaPr1
import Derived.Test.YtpmfdggbccbfaaaPr0
import Derived.Test.YtpmfdggbccbfaaaPr2
import Derived.Test.YtpmfdggbccbfaaaPr11
import Derived.Test.YtpmfdggbccbfaaaPr12
import Derived.Test.YtpmfdggbccbfaaaPr13
import Derived.Test.YtpmfdggbccbfaaaPr14
import Derived.Test.YtpmfdggbccbfaaaPr15
namespace Go.Proofs.Ytpmfdggbccbfaaa.Pr
open Go.RowKit Go.Proofs.YtpmfdggbccbfaaaW.PrintWords Go.Proofs.YtpmfdggbccbfaaaW.PrintLast Go.Proofs.YtpmfdggbccbfaaaW.PrintMore
attribute [local go_sem] max2_int min2_int max_two min_two max_three min_three max_four min_four   -- for this text's walks alone
set_option linter.unusedVariables false
set_option linter.unusedSimpArgs false

/-! ### arboristlaw12_ValidTurned: function 7 -/
def arboristlaw12_ValidTurned.l0 : Nat → Int → List (List Int) → Bool → Int → Int → List (List Int) → List Int → List (List Int) → List Int → Option (Bool)
  | 0, _, _, _, _, _, _, _, _, _ => none
  | k + 1, x0, x1, x7, x8, x10, x339000, x339001, x351000, x351001 => if x10 > 0 then (if 0 ≤ (wrap64 (x10 - 1)) then (if (wrap64 (x10 - 1)) < (x339001.length : Int) then (if (rd x339001 (wrap64 (x10 - 1))) ≥ 0 then (if (rd x339001 (wrap64 (x10 - 1))) < x8 then (if (wrap64 (x10 - 1)) < (x339000.length : Int) then (if x351000.length < 5864062014805 then (if x351001.length < 17592186044416 then (arboristlaw12_ValidTurned.l0 k x0 x1 x7 x8 (wrap64 (x10 - 1)) x339000 x339001 (x351000 ++ [rd_L1 x339000 (wrap64 (x10 - 1))]) (x351001 ++ [wrap64 ((wrap64 (x8 - 1)) - (rd x339001 (wrap64 (x10 - 1))))])) else (none)) else (none)) else (none)) else (if (wrap64 (x10 - 1)) < (x339000.length : Int) then (if x351000.length < 5864062014805 then (if x351001.length < 17592186044416 then (arboristlaw12_ValidTurned.l0 k x0 x1 x7 x8 (wrap64 (x10 - 1)) x339000 x339001 (x351000 ++ [rd_L1 x339000 (wrap64 (x10 - 1))]) (x351001 ++ [rd x339001 (wrap64 (x10 - 1))])) else (none)) else (none)) else (none))) else (if (wrap64 (x10 - 1)) < (x339000.length : Int) then (if x351000.length < 5864062014805 then (if x351001.length < 17592186044416 then (arboristlaw12_ValidTurned.l0 k x0 x1 x7 x8 (wrap64 (x10 - 1)) x339000 x339001 (x351000 ++ [rd_L1 x339000 (wrap64 (x10 - 1))]) (x351001 ++ [rd x339001 (wrap64 (x10 - 1))])) else (none)) else (none)) else (none))) else (none)) else (none)) else (if x7 = true then ((valid_Tree.f k x351000 x351001).bind fun t373 => ((valid_Tree.f k x339000 x339001).bind fun t374 => (if (t373 == t374) = true then ((valid_Covers.f x0 x1 x351000 x351001).bind fun t375 => ((valid_Covers.f x0 x1 x339000 x339001).bind fun t376 => (if (t375 == t376) = true then ((valid_Connected.f k x0 x351000 x351001).bind fun t377 => ((valid_Connected.f k x0 x339000 x339001).bind fun t378 => (some (t377 == t378)))) else (some false)))) else (some false)))) else (some false))
def arboristlaw12_ValidTurned.f (k : Nat) (a0 : Int) (l1 : List (List Int)) (l2_0 : List (List Int)) (l2_1 : List Int) : Option (Bool) := (arboristlaw12_shown.f k).bind fun t339 => ((arboristlaw12_cut.f k l2_0 l2_1).bind fun bt340 => ((arboristlaw12_scopes.f k l1).bind fun t346 => (if (bt340.2.length : Int) = (bt340.1.length : Int) then (arboristlaw12_ValidTurned.l0 k (mn a0 30) t346 t339 (bt340.1.length : Int) (bt340.1.length : Int) bt340.1 bt340.2 ([] : List (List Int)) ([] : List Int)) else (if t339 = true then ((valid_Tree.f k bt340.1 bt340.2).bind fun t349 => (some (!t349))) else (some false)))))
theorem arboristlaw12_ValidTurned.mono_l : ∀ k, (∀ y0 y1 y2 y3 y4 y5 y6 y7 y8, LeO (arboristlaw12_ValidTurned.l0 k y0 y1 y2 y3 y4 y5 y6 y7 y8) (arboristlaw12_ValidTurned.l0 (k + 1) y0 y1 y2 y3 y4 y5 y6 y7 y8))
  | 0 => fun _ _ _ _ _ _ _ _ _ r h => by simp [arboristlaw12_ValidTurned.l0] at h
  | k + 1 => by
    have ih0 := arboristlaw12_ValidTurned.mono_l k
    all_goals intros
    all_goals (first | unfold arboristlaw12_ValidTurned.l0)
    all_goals repeat' first
    | (with_reducible exact ih0 _ _ _ _ _ _ _ _ _)
    | (with_reducible exact arboristlaw12_cut.mono _ _ _)
    | (with_reducible exact arboristlaw12_scopes.mono _ _)
    | (with_reducible exact arboristlaw12_shown.mono _)
    | (with_reducible exact valid_Connected.mono _ _ _ _)
    | (with_reducible exact valid_Tree.mono _ _ _)
    | (with_reducible exact LeO.refl _)
    | (with_reducible exact LeO.none _)
    | (with_reducible refine LeO.ite ?_ ?_)
    | (with_reducible refine LeO.bind ?_ (fun _ => ?_))
    | exact ih0 _ _ _ _ _ _ _ _ _
    | exact arboristlaw12_cut.mono _ _ _
    | exact arboristlaw12_scopes.mono _ _
    | exact arboristlaw12_shown.mono _
    | exact valid_Connected.mono _ _ _ _
    | exact valid_Tree.mono _ _ _
    | exact LeO.none _
    | refine LeO.ite ?_ ?_
    | refine LeO.bind ?_ (fun _ => ?_)
theorem arboristlaw12_ValidTurned.mono : ∀ a0 a1 a2 a3 k, LeO (arboristlaw12_ValidTurned.f k a0 a1 a2 a3) (arboristlaw12_ValidTurned.f (k + 1) a0 a1 a2 a3) := by
  intro a0 a1 a2 a3 k
  have ih0 := arboristlaw12_ValidTurned.mono_l k
  unfold arboristlaw12_ValidTurned.f
  repeat' first
      | (with_reducible exact ih0 _ _ _ _ _ _ _ _ _)
      | (with_reducible exact arboristlaw12_cut.mono _ _ _)
      | (with_reducible exact arboristlaw12_scopes.mono _ _)
      | (with_reducible exact arboristlaw12_shown.mono _)
      | (with_reducible exact valid_Connected.mono _ _ _ _)
      | (with_reducible exact valid_Tree.mono _ _ _)
      | (with_reducible exact LeO.refl _)
      | (with_reducible exact LeO.none _)
      | (with_reducible refine LeO.ite ?_ ?_)
      | (with_reducible refine LeO.bind ?_ (fun _ => ?_))
      | exact ih0 _ _ _ _ _ _ _ _ _
      | exact arboristlaw12_cut.mono _ _ _
      | exact arboristlaw12_scopes.mono _ _
      | exact arboristlaw12_shown.mono _
      | exact valid_Connected.mono _ _ _ _
      | exact valid_Tree.mono _ _ _
      | exact LeO.none _
      | refine LeO.ite ?_ ?_
      | refine LeO.bind ?_ (fun _ => ?_)
def arboristlaw12_ValidTurned.T15 : Bool × List (List Nat × List Nat) := (true, [([], []), ([0], [0]), ([], []), ([2], [2]), ([], []), ([4], [4]), ([3, 5], [3, 5]), ([6], [6]), ([7], [7]), ([1, 8], [1, 8]), ([0, 1, 2, 3, 4, 5, 6, 7, 8, 9], []), ([10, 9, 9, 0, 1, 2, 3, 4, 5, 6, 7, 8, 9], [9, 10])])
def arboristlaw12_ValidTurned.B15 : List Nat := [0, 1, 0, 4, 0, 16, 60, 124, 252, 511, 1023, 2047]
theorem arboristlaw12_ValidTurned.tab15 : rtab .any (opsOf Try.f7 15) = arboristlaw12_ValidTurned.T15 := by kernel_rfl
theorem arboristlaw12_ValidTurned.bits15 : waitsOk arboristlaw12_ValidTurned.T15.2 arboristlaw12_ValidTurned.B15 = true := by kernel_rfl
def arboristlaw12_ValidTurned.T17 : Bool × List (List Nat × List Nat) := (true, [([], []), ([0], [0]), ([1], [1]), ([2, 1, 1], [1, 2]), ([1], [1]), ([4, 3, 1], [1, 4]), ([3, 5, 1], [1, 3, 5]), ([1, 6], [1, 6]), ([7, 5], [7]), ([8], [8]), ([8], [8]), ([8], [8]), ([9, 10, 11, 8, 8], [8, 9, 10, 11]), ([8], [8]), ([8], [8]), ([8], [8]), ([13, 14, 15, 12, 8], [8, 13, 14, 15]), ([12, 16, 8], [8, 12, 16]), ([8, 17], [8, 17]), ([18, 16], [18]), ([19], [19]), ([19], [19]), ([20, 21, 19, 19], [19, 20, 21]), ([19], [19]), ([19], [19]), ([23, 24, 22, 19], [19, 23, 24]), ([22, 25, 19], [19, 22, 25]), ([19, 26], [19, 26]), ([27, 25, 0, 1, 2, 3, 4, 5, 6, 7, 8, 9, 10, 11, 12, 13, 14, 15, 16, 17, 18, 19, 20, 21, 22, 23, 24, 25, 26, 27], [27])])
def arboristlaw12_ValidTurned.B17 : List Nat := [0, 1, 3, 7, 3, 31, 63, 127, 255, 511, 511, 511, 4095, 511, 511, 511, 65535, 131071, 262143, 524287, 1048575, 1048575, 4194303, 1048575, 1048575, 33554431, 67108863, 134217727, 268435455]
theorem arboristlaw12_ValidTurned.tab17 : rtab .any (opsOf Try.f7 17) = arboristlaw12_ValidTurned.T17 := by kernel_rfl
theorem arboristlaw12_ValidTurned.bits17 : waitsOk arboristlaw12_ValidTurned.T17.2 arboristlaw12_ValidTurned.B17 = true := by kernel_rfl
set_option maxHeartbeats 8000000 in
set_option maxRecDepth 100000 in
theorem arboristlaw12_ValidTurned.calls (k : Nat) (a0 : Int) (A1 : Option Addr) (c1 : Nat) (l1 : List (List Int)) (A2_0 : Option Addr) (c2_0 : Nat) (l2_0 : List (List Int)) (A2_1 : Option Addr) (c2_1 : Nat) (l2_1 : List Int) (r : Bool) (w : World) (hr1 : Kd.C (Kd.slice 3 (Kd.int .i64)) w A1 l1.length l1) (hc1 : l1.length ≤ c1) (hr2_0 : Kd.C (Kd.slice 3 (Kd.int .i64)) w A2_0 l2_0.length l2_0) (hc2_0 : l2_0.length ≤ c2_0) (hr2_1 : Kd.C (Kd.int .i64) w A2_1 l2_1.length l2_1) (hc2_1 : l2_1.length ≤ c2_1) (hT : r = true) (h : arboristlaw12_ValidTurned.f k a0 l1 l2_0 l2_1 = some r) :
    Calls Try.prog 7 #[.int .i64 a0, .slice A1 l1.length c1, .agg #[.slice A2_0 l2_0.length c2_0, .slice A2_1 l2_1.length c2_1]] w fun e w' => e = .returned (.bool r) ∧ Below w.heap.size w w' := by
  have HT_ := Aside0.mk (show r = true from hT)
  clear hT
  have hu25 := Try.underlying25
  have HR1 := Aside0.mk hr1
  have HC1 := Aside0.mk hc1
  clear hr1 hc1
  have HR2_0 := Aside0.mk hr2_0
  have HC2_0 := Aside0.mk hc2_0
  clear hr2_0 hc2_0
  have HR2_1 := Aside0.mk hr2_1
  have HC2_1 := Aside0.mk hc2_1
  clear hr2_1 hc2_1
  have HB := Aside0.mk (Below.refl w.heap.size w)
  have H : ((arboristlaw12_shown.f k).bind fun t339 => ((arboristlaw12_cut.f k l2_0 l2_1).bind fun bt340 => ((arboristlaw12_scopes.f k l1).bind fun t346 => (if (bt340.2.length : Int) = (bt340.1.length : Int) then (arboristlaw12_ValidTurned.l0 k (mn a0 30) t346 t339 (bt340.1.length : Int) (bt340.1.length : Int) bt340.1 bt340.2 ([] : List (List Int)) ([] : List Int)) else (if t339 = true then ((valid_Tree.f k bt340.1 bt340.2).bind fun t349 => (some (!t349))) else (some false)))))) = some r := h
  clear h
  replace H := Option.bind_eq_some_iff.mp H
  obtain ⟨t339, A40, H⟩ := H
  replace H : ((arboristlaw12_cut.f k l2_0 l2_1).bind fun bt340 => ((arboristlaw12_scopes.f k l1).bind fun t346 => (if (bt340.2.length : Int) = (bt340.1.length : Int) then (arboristlaw12_ValidTurned.l0 k (mn a0 30) t346 t339 (bt340.1.length : Int) (bt340.1.length : Int) bt340.1 bt340.2 ([] : List (List Int)) ([] : List Int)) else (if t339 = true then ((valid_Tree.f k bt340.1 bt340.2).bind fun t349 => (some (!t349))) else (some false))))) = some r := H
  have A4 := Aside0.mk A40
  clear A40
  obtain ⟨ji5, hji5⟩ : ∃ j_ : Int, (mn a0 30) = j_ := ⟨_, rfl⟩
  replace H : ((arboristlaw12_cut.f k l2_0 l2_1).bind fun bt340 => ((arboristlaw12_scopes.f k l1).bind fun t346 => (if (bt340.2.length : Int) = (bt340.1.length : Int) then (arboristlaw12_ValidTurned.l0 k ji5 t346 t339 (bt340.1.length : Int) (bt340.1.length : Int) bt340.1 bt340.2 ([] : List (List Int)) ([] : List Int)) else (if t339 = true then ((valid_Tree.f k bt340.1 bt340.2).bind fun t349 => (some (!t349))) else (some false))))) = some r := by first | (rw [hji5] at H; exact H) | (simp only [hji5] at H ⊢; exact H)
  (try rw [hji5] at A4)
  (try (have hji5h : ji5 ≤ 30 := by (rw [← hji5]; unfold mn; (repeat' split) <;> omega)))
  (try (have hji5g : ji5 ≤ 64 := by omega))
  have hji5_ : (if 30 < a0 then 30 else a0) = ji5 := hji5
  replace H := Option.bind_eq_some_iff.mp H
  obtain ⟨⟨t340, t343⟩, A60, H⟩ := H
  replace H : ((arboristlaw12_scopes.f k l1).bind fun t346 => (if (t343.length : Int) = (t340.length : Int) then (arboristlaw12_ValidTurned.l0 k ji5 t346 t339 (t340.length : Int) (t340.length : Int) t340 t343 ([] : List (List Int)) ([] : List Int)) else (if t339 = true then ((valid_Tree.f k t340 t343).bind fun t349 => (some (!t349))) else (some false)))) = some r := H
  have A6 := Aside0.mk A60
  clear A60
  replace H := Option.bind_eq_some_iff.mp H
  obtain ⟨t346, A70, H⟩ := H
  replace H : (if (t343.length : Int) = (t340.length : Int) then (arboristlaw12_ValidTurned.l0 k ji5 t346 t339 (t340.length : Int) (t340.length : Int) t340 t343 ([] : List (List Int)) ([] : List Int)) else (if t339 = true then ((valid_Tree.f k t340 t343).bind fun t349 => (some (!t349))) else (some false))) = some r := H
  have A7 := Aside0.mk A70
  clear A70
  by_cases c8 : (t343.length : Int) = (t340.length : Int)
  · rw [if_pos c8] at H
    have c8b0 : ((t343.length : Int) == (t340.length : Int)) = true := beq_iff_eq.mpr c8
    have c8b1 : ((t343.length : Int) != (t340.length : Int)) = false := bne_eq_false_iff_eq.mpr c8
    have c8b2 : (t343.length == t340.length) = true := by first | simpa using c8 | (simp at c8 ⊢; omega)
    clear c8
    have H' := Aside0.mk H
    clear H
    go_enter Try.func7, Try.ntmps7
    go_wp2_with (first | ((with_reducible refine gate_dst (N := 5) rfl ?_); refine box_event ?hg (N := 5) ?hd (cs := #[.slice A2_0 l2_0.length c2_0, .slice A2_1 l2_1.length c2_1]) (t := 25) ?hr ?_; (case hd => rfl); (case hg => rfl); (case hr => first | (go_simp; done) | (go_simp; rfl)); intro gb338 hg w9 hbox hb; have n0_ := Aside0.mk (below_step (by repeat (first | (with_reducible first | exact HB.out | apply below_alloc | apply pw_below_drewN | apply below_drew1) | exact HB.out)) hb); have n1_ := Aside0.mk (hbox); have n2_ := Aside0.mk ((by rw [hg]; exact (below_size (by repeat (first | (with_reducible first | exact HB.out | apply below_alloc | apply pw_below_drewN | apply below_drew1) | exact HB.out))) : w.heap.size ≤ gb338)); have n3_ := Aside0.mk ((by rw [hg]; exact (below_size (by repeat (first | (with_reducible first | exact HB.out | apply below_alloc | apply pw_below_drewN | apply below_drew1) | exact HB.out))) : w.heap.size ≤ gb338)); clear HB; have HB := n0_; have BK338 := n1_; have GW338 := n2_; have GE338 := n3_; clear n0_ n1_ n2_ n3_; clear hb hbox hg) | ((with_reducible refine gate_callee (f := 15) rfl ?_); refine goesL_ (some 12) rfl rfl Try.func15 (by kernel_rfl) rfl #[] rfl (by (try simp only [List.map_toArray, List.map_cons, List.map_nil]); first | done | rfl | (simp only [List.length_drop, List.length_take]; rfl)) ?_; (with_reducible refine (arboristlaw12_shown.calls k  t339 _ A4.out).mono ?_); rintro e w10 ⟨rfl, hb⟩; refine ⟨_, rfl, ?_⟩; have n0_ := Aside0.mk (blk_below (g := gb338) (o := .cells #[.slice A2_0 l2_0.length c2_0, .slice A2_1 l2_1.length c2_1] 25 (0, 0)) (by (with_reducible repeat (first | refine blk_drewN ?_ _ | refine blk_drew ?_ | refine blk_alloc ?_ _)); exact BK338.out) hb); have n1_ := Aside0.mk (below_step (by repeat (first | (with_reducible first | exact HB.out | apply below_alloc | apply pw_below_drewN | apply below_drew1 | refine below_set ?_ GE338.out) | exact HB.out)) hb); clear BK338; clear HB; have BK338 := n0_; have HB := n1_; clear n0_ n1_; (try clear hb); (try clear hb2); (try clear hk); (try clear hi); have hcz11_0 : w10.cell? ⟨gb338, 0, none⟩ = some (.slice A2_0 l2_0.length c2_0) := (blk_cell BK338.out 0).trans rfl; have hcz11_1 : w10.cell? ⟨gb338, 1, none⟩ = some (.slice A2_1 l2_1.length c2_1) := (blk_cell BK338.out 1).trans rfl; have hfz11_0 := blk_frozen BK338.out 0; have hfz11_1 := blk_frozen BK338.out 1) | ((with_reducible refine gate_callee (f := 16) rfl ?_); refine goesL_ (some 16) rfl rfl Try.func16 (by kernel_rfl) rfl #[.agg #[.slice A2_0 l2_0.length c2_0, .slice A2_1 l2_1.length c2_1]] rfl (by (try simp only [List.map_toArray, List.map_cons, List.map_nil]); first | done | rfl | (simp only [List.length_drop, List.length_take]; rfl)) ?_; (with_reducible refine (arboristlaw12_cut.calls k _ _ l2_0 _ _ l2_1 t340 t343 _ ?side1 ?side2 ?side3 ?side4 A6.out).mono ?_); (case side1 => repeat (first | exact (Kd.C_below HR2_0.out HB.out) | (with_reducible refine Kd.C_alloc ?_ _) | (with_reducible refine Kd.C_drewN ?_ _) | (with_reducible refine Kd.C_drew ?_))); (case side2 => exact HC2_0.out); (case side3 => repeat (first | exact (Kd.C_below HR2_1.out HB.out) | (with_reducible refine Kd.C_alloc ?_ _) | (with_reducible refine Kd.C_drewN ?_ _) | (with_reducible refine Kd.C_drew ?_))); (case side4 => exact HC2_1.out); rintro e w12 ⟨v341, v344, rfl, ho0, ho1, hb⟩; refine ⟨_, rfl, ?_⟩; have n0_ := Aside0.mk (Kd.N_lower (Kd.N_mono (ok' := fun k_ => some k_ ≠ (v344 : Value).ownBlock ∧ k_ ≠ gb338) (Kd.S_N (Kd.S_bound ho0)) (fun k_ hk_ => ⟨hk_.1, (Kd.freshB (g := gb338) (o := .cells #[.slice A2_0 l2_0.length c2_0, .slice A2_1 l2_1.length c2_1] 25 (0, 0)) (by (with_reducible repeat (first | refine blk_drewN ?_ _ | refine blk_drew ?_ | refine blk_alloc ?_ _)); exact BK338.out) k_ hk_.2.1)⟩)) (below_size (by repeat (first | (with_reducible first | exact HB.out | apply below_alloc | apply pw_below_drewN | apply below_drew1 | refine below_set ?_ GE338.out) | exact HB.out)))); have n1_ := Aside0.mk (Kd.R_lower ho1 (below_size (by repeat (first | (with_reducible first | exact HB.out | apply below_alloc | apply pw_below_drewN | apply below_drew1 | refine below_set ?_ GE338.out) | exact HB.out)))); have n2_ := Aside0.mk (blk_below (g := gb338) (o := .cells #[.slice A2_0 l2_0.length c2_0, .slice A2_1 l2_1.length c2_1] 25 (0, 0)) (by (with_reducible repeat (first | refine blk_drewN ?_ _ | refine blk_drew ?_ | refine blk_alloc ?_ _)); exact BK338.out) hb); have n3_ := Aside0.mk (below_step (by repeat (first | (with_reducible first | exact HB.out | apply below_alloc | apply pw_below_drewN | apply below_drew1 | refine below_set ?_ GE338.out) | exact HB.out)) hb); clear BK338; clear HB; have HO342 := n0_; have HO345 := n1_; have BK338 := n2_; have HB := n3_; clear n0_ n1_ n2_ n3_; (try clear hb); (try clear hb2); (try clear hk); (try clear hi); (try clear ho0); (try clear ho1); obtain ⟨Ao13, co13, eo13⟩ := Kd.N_slice HO342.out; subst eo13; have hcz14_0 : w12.cell? ⟨gb338, 0, none⟩ = some (.slice A2_0 l2_0.length c2_0) := (blk_cell BK338.out 0).trans rfl; have hcz14_1 : w12.cell? ⟨gb338, 1, none⟩ = some (.slice A2_1 l2_1.length c2_1) := (blk_cell BK338.out 1).trans rfl; have hfz14_0 := blk_frozen BK338.out 0; have hfz14_1 := blk_frozen BK338.out 1; obtain ⟨Ao15, co15, eo15⟩ := Kd.R_slice HO345.out; subst eo15) | ((with_reducible refine gate_store (t := 25) (p := 5) rfl ?_); refine store_event (t := 25) (p := 5) (v := ?vo_w16) (w1 := ((w12.setCell ⟨gb338, 0, none⟩ (.slice Ao13 t340.length co13)).setCell ⟨gb338, 1, none⟩ (.slice Ao15 t343.length co15))) ?hg ?ho ?hn ?hr ?_; (case ho => rfl); (case hg => rfl); (case hn => rfl); (case hr => first | (go_simp; done) | (go_simp; rfl)); intro w16 hw; have n0_ : Aside0 (Kd.N (Kd.slice 3 (Kd.int .i64)) 23 w16 w.heap.size (fun k_ => some k_ ≠ (.slice Ao15 t343.length co15 : Value).ownBlock ∧ k_ ≠ gb338) (.slice Ao13 t340.length co13) t340) := ⟨(by rw [hw]; exact (by (with_reducible repeat (first | apply Kd.N_alloc | apply Kd.N_drewN | apply Kd.N_drew)); exact Kd.N_mono (Kd.N_far (p := ⟨gb338, 1, none⟩) (Kd.N_far (p := ⟨gb338, 0, none⟩) (Kd.N_mono HO342.out (fun k_ hk => (⟨hk, hk.2⟩ : _ ∧ k_ ≠ gb338))) (fun _ hk => hk.2) (.slice Ao13 t340.length co13)) (fun _ hk => hk.2) (.slice Ao15 t343.length co15)) (fun _ hk => ⟨hk.1.1, hk.1.2⟩)))⟩; have n1_ : Aside0 (Kd.R (Kd.int .i64) 3 w16 w.heap.size (fun _ => True) (.slice Ao15 t343.length co15) t343) := ⟨(by rw [hw]; exact (by (with_reducible repeat (first | apply Kd.R_alloc | apply Kd.R_drewN | apply Kd.R_drew)); exact Kd.R_mono (Kd.R_far (p := ⟨gb338, 1, none⟩) (Kd.R_far (p := ⟨gb338, 0, none⟩) (Kd.R_types HO345.out BK338.out (by decide)) (fun _ hk => hk.2) (.slice Ao13 t340.length co13)) (fun _ hk => hk.2) (.slice Ao15 t343.length co15)) (fun _ hk => trivial)))⟩; have n2_ : Aside0 (w16.heap[gb338]? = some (.cells #[.slice Ao13 t340.length co13, .slice Ao15 t343.length co15] 25 (0, 0))) := ⟨(by rw [hw]; exact (by (with_reducible repeat (first | refine blk_drewN ?_ _ | refine blk_drew ?_ | refine blk_alloc ?_ _)); refine blk_put (cs := #[.slice Ao13 t340.length co13, .slice A2_1 l2_1.length c2_1]) ?_ 1 _ rfl; (with_reducible repeat (first | refine blk_drewN ?_ _ | refine blk_drew ?_ | refine blk_alloc ?_ _)); refine blk_put (cs := #[.slice A2_0 l2_0.length c2_0, .slice A2_1 l2_1.length c2_1]) ?_ 0 _ rfl; (with_reducible repeat (first | refine blk_drewN ?_ _ | refine blk_drew ?_ | refine blk_alloc ?_ _)); exact BK338.out))⟩; have n3_ : Aside0 (Below w.heap.size w w16) := ⟨(by rw [hw]; exact (by repeat (first | (with_reducible first | exact HB.out | apply below_alloc | apply pw_below_drewN | apply below_drew1 | refine below_set ?_ GE338.out) | exact HB.out)))⟩; clear hw; clear HO342; clear HO345; clear BK338; clear HB; have HO342 := n0_; have HO345 := n1_; have BK338 := n2_; have HB := n3_; clear n0_ n1_ n2_ n3_) | ((with_reducible refine gate_callee (f := 17) rfl ?_); refine goesL_ (some 18) rfl rfl Try.func17 (by kernel_rfl) rfl #[.slice A1 l1.length c1] rfl (by (try simp only [List.map_toArray, List.map_cons, List.map_nil]); first | done | rfl | (simp only [List.length_drop, List.length_take]; rfl)) ?_; (with_reducible refine (arboristlaw12_scopes.calls k (fun k_ => k_ < w.heap.size) _ _ l1 t346 _ ?side1 A7.out).mono ?_); (case side1 => exact Kd.V_mk HC1.out (Kd.F_below (Kd.C_F (Kd.heap_slice 3 (Kd.heap_int .i64)) HR1.out) (by repeat (first | (with_reducible first | exact HB.out | apply below_alloc | apply pw_below_drewN | apply below_drew1 | refine below_set ?_ GE338.out) | exact HB.out)))); rintro e w17 ⟨v347, rfl, ho0, hb⟩; refine ⟨_, rfl, ?_⟩; have n0_ := Aside0.mk (Kd.N_elder' (by (with_reducible repeat (first | apply Kd.N_alloc | apply Kd.N_drewN | apply Kd.N_drew)); exact HO342.out) (by first | exact Kd.N_base ho0 | exact Kd.N_base (Kd.S_N ho0)) hb); have n1_ := Aside0.mk (Kd.R_below (by (with_reducible repeat (first | apply Kd.R_alloc | apply Kd.R_drewN | apply Kd.R_drew)); exact HO345.out) hb); have n2_ := Aside0.mk (Kd.N_lower (Kd.N_mono (ok' := fun k_ => some k_ ≠ (.slice Ao13 t340.length co13 : Value).ownBlock ∧ some k_ ≠ (.slice Ao15 t343.length co15 : Value).ownBlock ∧ k_ ≠ gb338) ho0 (fun k_ hk_ => ⟨Or.elim hk_ (fun hs_ => fun e_ => Nat.not_le.2 hs_ (Kd.N_base HO342.out k_ e_.symm)) (fun hn_ => (Kd.fresh' (Kd.N_lt (by (with_reducible repeat (first | apply Kd.N_alloc | apply Kd.N_drewN | apply Kd.N_drew)); exact HO342.out)) k_ hn_)), Or.elim hk_ (fun hs_ => fun e_ => Nat.not_le.2 hs_ (Kd.R_base HO345.out k_ e_.symm)) (fun hn_ => (Kd.fresh' (Kd.R_lt (by (with_reducible repeat (first | apply Kd.R_alloc | apply Kd.R_drewN | apply Kd.R_drew)); exact HO345.out)) k_ hn_)), Or.elim hk_ (fun hs_ => fun e_ => Nat.not_le.2 hs_ (by rw [e_]; exact GW338.out)) (fun hn_ => (Kd.freshB (g := gb338) (o := .cells #[.slice Ao13 t340.length co13, .slice Ao15 t343.length co15] 25 (0, 0)) (by (with_reducible repeat (first | refine blk_drewN ?_ _ | refine blk_drew ?_ | refine blk_alloc ?_ _)); exact BK338.out) k_ hn_))⟩)) (below_size (by repeat (first | (with_reducible first | exact HB.out | apply below_alloc | apply pw_below_drewN | apply below_drew1 | refine below_set ?_ GE338.out) | exact HB.out)))); have n3_ := Aside0.mk (blk_below (g := gb338) (o := .cells #[.slice Ao13 t340.length co13, .slice Ao15 t343.length co15] 25 (0, 0)) (by (with_reducible repeat (first | refine blk_drewN ?_ _ | refine blk_drew ?_ | refine blk_alloc ?_ _)); exact BK338.out) hb); have n4_ := Aside0.mk (below_step (by repeat (first | (with_reducible first | exact HB.out | apply below_alloc | apply pw_below_drewN | apply below_drew1 | refine below_set ?_ GE338.out) | exact HB.out)) hb); clear HO342; clear HO345; clear BK338; clear HB; have HO342 := n0_; have HO345 := n1_; have HO348 := n2_; have BK338 := n3_; have HB := n4_; clear n0_ n1_ n2_ n3_ n4_; (try clear hb); (try clear hb2); (try clear hk); (try clear hi); (try clear ho0); have hcz18_0 : w17.cell? ⟨gb338, 0, none⟩ = some (.slice Ao13 t340.length co13) := (blk_cell BK338.out 0).trans rfl; have hcz18_1 : w17.cell? ⟨gb338, 1, none⟩ = some (.slice Ao15 t343.length co15) := (blk_cell BK338.out 1).trans rfl; have hfz18_0 := blk_frozen BK338.out 0; have hfz18_1 := blk_frozen BK338.out 1) | ((with_reducible refine gate_dst (N := 9) rfl ?_); refine box_event ?hg (N := 9) ?hd (cs := #[.slice none 0 0, .slice none 0 0]) (t := 25) ?hr ?_; (case hd => rfl); (case hg => rfl); (case hr => first | (go_simp; done) | (go_simp; rfl)); intro gb350 hg w19 hbox hb; have n0_ := Aside0.mk (Kd.N_below (Kd.N_elderB (by (with_reducible repeat (first | apply Kd.N_alloc | apply Kd.N_drewN | apply Kd.N_drew)); exact HO342.out) gb350 (Nat.le_of_eq hg.symm)) hb); have n1_ := Aside0.mk (Kd.R_below (by (with_reducible repeat (first | apply Kd.R_alloc | apply Kd.R_drewN | apply Kd.R_drew)); exact HO345.out) hb); have n2_ := Aside0.mk (Kd.N_below (Kd.N_elderB (by (with_reducible repeat (first | apply Kd.N_alloc | apply Kd.N_drewN | apply Kd.N_drew)); exact HO348.out) gb350 (Nat.le_of_eq hg.symm)) hb); have n3_ := Aside0.mk (blk_below (g := gb338) (o := .cells #[.slice Ao13 t340.length co13, .slice Ao15 t343.length co15] 25 (0, 0)) (by (with_reducible repeat (first | refine blk_drewN ?_ _ | refine blk_drew ?_ | refine blk_alloc ?_ _)); exact BK338.out) hb); have n4_ := Aside0.mk (below_step (by repeat (first | (with_reducible first | exact HB.out | apply below_alloc | apply pw_below_drewN | apply below_drew1 | refine below_set ?_ GE338.out) | exact HB.out)) hb); have n5_ := Aside0.mk (hbox); have n6_ := Aside0.mk ((by rw [hg]; exact (below_size (by repeat (first | (with_reducible first | exact HB.out | apply below_alloc | apply pw_below_drewN | apply below_drew1 | refine below_set ?_ GE338.out) | exact HB.out))) : w.heap.size ≤ gb350)); have n7_ := Aside0.mk ((by rw [hg]; exact (below_size (by repeat (first | (with_reducible first | exact HB.out | apply below_alloc | apply pw_below_drewN | apply below_drew1 | refine below_set ?_ GE338.out) | exact HB.out))) : w.heap.size ≤ gb350)); have n8_ := Aside0.mk ((by rw [hg]; exact Nat.ne_of_lt (blk_lt (g := gb338) (o := .cells #[.slice Ao13 t340.length co13, .slice Ao15 t343.length co15] 25 (0, 0)) (by (with_reducible repeat (first | refine blk_drewN ?_ _ | refine blk_drew ?_ | refine blk_alloc ?_ _)); exact BK338.out)) : gb338 ≠ gb350)); have n9_ := Aside0.mk ((by rw [hg]; exact Nat.ne_of_gt (blk_lt (g := gb338) (o := .cells #[.slice Ao13 t340.length co13, .slice Ao15 t343.length co15] 25 (0, 0)) (by (with_reducible repeat (first | refine blk_drewN ?_ _ | refine blk_drew ?_ | refine blk_alloc ?_ _)); exact BK338.out)) : gb350 ≠ gb338)); clear HO342; clear HO345; clear HO348; clear BK338; clear HB; have HO342 := n0_; have HO345 := n1_; have HO348 := n2_; have BK338 := n3_; have HB := n4_; have BK350 := n5_; have GW350 := n6_; have GE350 := n7_; have NB338_350 := n8_; have NB350_338 := n9_; clear n0_ n1_ n2_ n3_ n4_ n5_ n6_ n7_ n8_ n9_; clear hb hbox hg; have hnb20 := NB350_338.out; have hnc20 := NB338_350.out; have hcz21_0 : w19.cell? ⟨gb350, 0, none⟩ = some (.slice none 0 0) := (blk_cell BK350.out 0).trans rfl; have hcz21_1 : w19.cell? ⟨gb350, 1, none⟩ = some (.slice none 0 0) := (blk_cell BK350.out 1).trans rfl; have hfz21_0 := blk_frozen BK350.out 0; have hfz21_1 := blk_frozen BK350.out 1))
    go_loopg [10] k (fun kq v10 w' => ∃ (x10_1 : Int) (x351000_1 : List (List Int)) (x351001_1 : List Int) (u351000 : Value) (u351001 : Value), v10 = .int .i64 x10_1 ∧ Aside0 (arboristlaw12_ValidTurned.l0 kq ji5 t346 t339 (t340.length : Int) x10_1 t340 t343 x351000_1 x351001_1 = some r) ∧ Aside0 (kq ≤ k) ∧ Aside0 (Kd.N (Kd.slice 3 (Kd.int .i64)) 23 w' w.heap.size (fun k_ => some k_ ≠ ((.slice Ao13 t340.length co13) : Value).ownBlock ∧ some k_ ≠ ((.slice Ao15 t343.length co15) : Value).ownBlock ∧ some k_ ≠ (u351000 : Value).ownBlock ∧ some k_ ≠ (u351001 : Value).ownBlock ∧ k_ ≠ gb338 ∧ k_ ≠ gb350) v347 t346) ∧ Aside0 (Kd.N (Kd.slice 3 (Kd.int .i64)) 23 w' w.heap.size (fun k_ => some k_ ≠ (v347 : Value).ownBlock ∧ some k_ ≠ ((.slice Ao15 t343.length co15) : Value).ownBlock ∧ some k_ ≠ (u351000 : Value).ownBlock ∧ some k_ ≠ (u351001 : Value).ownBlock ∧ k_ ≠ gb338 ∧ k_ ≠ gb350) (.slice Ao13 t340.length co13) t340) ∧ Aside0 (Kd.R (Kd.int .i64) 3 w' w.heap.size (fun k_ => some k_ ≠ (u351001 : Value).ownBlock) (.slice Ao15 t343.length co15) t343) ∧ Aside0 (Kd.N (Kd.slice 3 (Kd.int .i64)) 23 w' w.heap.size (fun k_ => some k_ ≠ (v347 : Value).ownBlock ∧ some k_ ≠ ((.slice Ao13 t340.length co13) : Value).ownBlock ∧ some k_ ≠ ((.slice Ao15 t343.length co15) : Value).ownBlock ∧ some k_ ≠ (u351001 : Value).ownBlock ∧ k_ ≠ gb338 ∧ k_ ≠ gb350) u351000 x351000_1) ∧ Aside0 (Kd.R (Kd.int .i64) 3 w' w.heap.size (fun k_ => some k_ ≠ ((.slice Ao15 t343.length co15) : Value).ownBlock) u351001 x351001_1) ∧ Aside0 (w'.heap[gb338]? = some (.cells #[(.slice Ao13 t340.length co13), (.slice Ao15 t343.length co15)] 25 (0, 0))) ∧ Aside0 (w'.heap[gb350]? = some (.cells #[u351000, u351001] 25 (0, 0))) ∧ Aside0 (Below w.heap.size w w'))
    case atStart => exact ⟨((t340.length : Int)), (([] : List (List Int))), (([] : List Int)), (.slice none 0 0), (.slice none 0 0), (by first | rfl | (simp; done) | (simp [*]; done)), H', ⟨Nat.le_refl _⟩, ⟨by (with_reducible repeat (first | apply Kd.N_alloc | apply Kd.N_drewN | apply Kd.N_drew)); exact Kd.N_mono (Kd.N_far (p := ⟨gb350, 1, none⟩) (Kd.N_far (p := ⟨gb350, 0, none⟩) (Kd.N_mono HO348.out (fun k_ hk => (⟨hk, hk.2⟩ : _ ∧ k_ ≠ gb350))) (fun _ hk => hk.2) (.slice none 0 0)) (fun _ hk => hk.2) (.slice none 0 0)) (fun _ hk => ⟨hk.1.1.1, ⟨hk.1.1.2.1, ⟨(by simp [Value.ownBlock]), ⟨(by simp [Value.ownBlock]), ⟨hk.1.1.2.2, hk.1.2⟩⟩⟩⟩⟩)⟩, ⟨by (with_reducible repeat (first | apply Kd.N_alloc | apply Kd.N_drewN | apply Kd.N_drew)); exact Kd.N_mono (Kd.N_far (p := ⟨gb350, 1, none⟩) (Kd.N_far (p := ⟨gb350, 0, none⟩) (Kd.N_mono HO342.out (fun k_ hk => (⟨hk, hk.2⟩ : _ ∧ k_ ≠ gb350))) (fun _ hk => hk.2) (.slice none 0 0)) (fun _ hk => hk.2) (.slice none 0 0)) (fun _ hk => ⟨hk.1.1.2, ⟨hk.1.1.1.1, ⟨(by simp [Value.ownBlock]), ⟨(by simp [Value.ownBlock]), ⟨hk.1.1.1.2, hk.1.2⟩⟩⟩⟩⟩)⟩, ⟨by (with_reducible repeat (first | apply Kd.R_alloc | apply Kd.R_drewN | apply Kd.R_drew)); exact Kd.R_mono (Kd.R_far (p := ⟨gb350, 1, none⟩) (Kd.R_far (p := ⟨gb350, 0, none⟩) (Kd.R_types HO345.out BK350.out (by decide)) (fun _ hk => hk.2) (.slice none 0 0)) (fun _ hk => hk.2) (.slice none 0 0)) (fun _ hk => (by simp [Value.ownBlock]))⟩, ⟨by first | exact Kd.S_nil _ _ _ _ _ | exact Kd.N_nil _ _ _ _ _ | exact Kd.V_nil _ _ _ _ _ | exact Kd.Q_nil _ _ _ _ _ | exact Kd.R_nil _ _ _ _ _⟩, ⟨by first | exact Kd.R_nil _ _ _ _ _ | exact Kd.N_nil _ _ _ _ _ | exact Kd.V_nil _ _ _ _ _ | exact Kd.Q_nil _ _ _ _ _ | exact Kd.S_nil _ _ _ _ _⟩, ⟨by (with_reducible repeat (first | refine blk_drewN ?_ _ | refine blk_drew ?_ | refine blk_alloc ?_ _)); refine blk_far ?_ NB338_350.out _; (with_reducible repeat (first | refine blk_drewN ?_ _ | refine blk_drew ?_ | refine blk_alloc ?_ _)); refine blk_far ?_ NB338_350.out _; (with_reducible repeat (first | refine blk_drewN ?_ _ | refine blk_drew ?_ | refine blk_alloc ?_ _)); exact BK338.out⟩, ⟨by (with_reducible repeat (first | refine blk_drewN ?_ _ | refine blk_drew ?_ | refine blk_alloc ?_ _)); refine blk_put (cs := #[.slice none 0 0, .slice none 0 0]) ?_ 1 _ rfl; (with_reducible repeat (first | refine blk_drewN ?_ _ | refine blk_drew ?_ | refine blk_alloc ?_ _)); refine blk_put (cs := #[.slice none 0 0, .slice none 0 0]) ?_ 0 _ rfl; (with_reducible repeat (first | refine blk_drewN ?_ _ | refine blk_drew ?_ | refine blk_alloc ?_ _)); exact BK350.out⟩, ⟨by repeat (first | (with_reducible first | exact HB.out | apply below_alloc | apply pw_below_drewN | apply below_drew1 | refine below_set ?_ GE338.out | refine below_set ?_ GE350.out) | exact HB.out)⟩⟩
    case round =>
      clear H'
      try clear c1
      try clear c2
      try clear p2
      try clear c7
      try clear c8
      try clear c8b0
      try clear c8b1
      try clear c8b2
      try clear c15
      try clear c16
      try clear c17
      try clear c20
      try clear hcz11_0
      try clear hcz11_1
      try clear hcz14_0
      try clear hcz14_1
      try clear hcz18_0
      try clear hcz18_1
      try clear hcz21_0
      try clear hcz21_1
      try clear hfz11_0
      try clear hfz11_1
      try clear hfz14_0
      try clear hfz14_1
      try clear hfz18_0
      try clear hfz18_1
      try clear hfz21_0
      try clear hfz21_1
      obtain ⟨x10_1, x351000_1, x351001_1, u351000, u351001, rfl, HA, HK1, HO_1, HO_339000, HO_339001, HO_351000, HO_351001, BK338, BK350, HB⟩ := hrel
      cases gk with
      | zero => exact absurd HA.out (by simp [arboristlaw12_ValidTurned.l0])
      | succ k1 =>
        have H := HA.out
        clear HA
        simp only [arboristlaw12_ValidTurned.l0] at H
        by_cases c22 : x10_1 > 0
        · rw [if_pos c22] at H
          have c22b0 : decide (0 < x10_1) = true := decide_eq_true c22
          clear c22
          obtain ⟨ji23, hji23⟩ : ∃ j_ : Int, (wrap64 (x10_1 - 1)) = j_ := ⟨_, rfl⟩
          replace H : (if 0 ≤ (ji23) then (if (ji23) < (t343.length : Int) then (if (rd t343 (ji23)) ≥ 0 then (if (rd t343 (ji23)) < (t340.length : Int) then (if (ji23) < (t340.length : Int) then (if x351000_1.length < 5864062014805 then (if x351001_1.length < 17592186044416 then (arboristlaw12_ValidTurned.l0 k1 ji5 t346 t339 (t340.length : Int) ji23 t340 t343 (x351000_1 ++ [rd_L1 t340 (ji23)]) (x351001_1 ++ [wrap64 ((wrap64 ((t340.length : Int) - 1)) - (rd t343 (ji23)))])) else (none)) else (none)) else (none)) else (if (ji23) < (t340.length : Int) then (if x351000_1.length < 5864062014805 then (if x351001_1.length < 17592186044416 then (arboristlaw12_ValidTurned.l0 k1 ji5 t346 t339 (t340.length : Int) ji23 t340 t343 (x351000_1 ++ [rd_L1 t340 (ji23)]) (x351001_1 ++ [rd t343 (ji23)])) else (none)) else (none)) else (none))) else (if (ji23) < (t340.length : Int) then (if x351000_1.length < 5864062014805 then (if x351001_1.length < 17592186044416 then (arboristlaw12_ValidTurned.l0 k1 ji5 t346 t339 (t340.length : Int) ji23 t340 t343 (x351000_1 ++ [rd_L1 t340 (ji23)]) (x351001_1 ++ [rd t343 (ji23)])) else (none)) else (none)) else (none))) else (none)) else (none)) = some r := by first | (rw [hji23] at H; exact H) | (simp only [hji23] at H ⊢; exact H)
          have hji23w : (IntKind.i64.wrap (x10_1 - 1)) = ji23 := (i64_w _).trans hji23
          by_cases c24 : 0 ≤ (ji23)
          · rw [if_pos c24] at H
            have c24b0 : decide (0 ≤ (ji23)) = true := decide_eq_true c24
            clear c24
            by_cases c25 : (ji23) < (t343.length : Int)
            · rw [if_pos c25] at H
              have c25b0 : decide ((ji23) < (t343.length : Int)) = true := decide_eq_true c25
              clear c25
              by_cases c26 : (rd t343 (ji23)) ≥ 0
              · rw [if_pos c26] at H
                have c26b0 : decide (0 ≤ (rd t343 (ji23))) = true := decide_eq_true c26
                clear c26
                by_cases c27 : (rd t343 (ji23)) < (t340.length : Int)
                · rw [if_pos c27] at H
                  have c27b0 : decide ((rd t343 (ji23)) < (t340.length : Int)) = true := decide_eq_true c27
                  clear c27
                  by_cases c28 : (ji23) < (t340.length : Int)
                  · rw [if_pos c28] at H
                    have c28b0 : decide ((ji23) < (t340.length : Int)) = true := decide_eq_true c28
                    clear c28
                    by_cases c29 : x351000_1.length < 5864062014805
                    · rw [if_pos c29] at H
                      have LMc29 := Aside0.mk c29
                      clear c29
                      obtain ⟨y353, hy353⟩ : ∃ y_ : List (List Int), y_ = (x351000_1 ++ [rd_L1 t340 (ji23)]) := ⟨_, rfl⟩
                      replace H : (if x351001_1.length < 17592186044416 then (arboristlaw12_ValidTurned.l0 k1 ji5 t346 t339 (t340.length : Int) ji23 t340 t343 y353 (x351001_1 ++ [wrap64 ((wrap64 ((t340.length : Int) - 1)) - (rd t343 (ji23)))])) else (none)) = some r := by first | (rw [hy353]; with_reducible exact H) | (have H2_ := (Option.bind_some _ _).symm.trans H; rw [hy353]; with_reducible exact H2_) | (have H2_ := (Option.bind_some _ _).symm.trans H; with_reducible exact H2_) | with_reducible exact H | (rw [hy353]; exact H) | exact H
                      have Ny353 := Aside0.mk hy353
                      clear hy353
                      by_cases c30 : x351001_1.length < 17592186044416
                      · rw [if_pos c30] at H
                        have LMc30 := Aside0.mk c30
                        clear c30
                        obtain ⟨y356, hy356⟩ : ∃ y_ : List Int, y_ = (x351001_1 ++ [wrap64 ((wrap64 ((t340.length : Int) - 1)) - (rd t343 (ji23)))]) := ⟨_, rfl⟩
                        replace H : (arboristlaw12_ValidTurned.l0 k1 ji5 t346 t339 (t340.length : Int) ji23 t340 t343 y353 y356) = some r := by first | (rw [hy356]; with_reducible exact H) | (have H2_ := (Option.bind_some _ _).symm.trans H; rw [hy356]; with_reducible exact H2_) | (have H2_ := (Option.bind_some _ _).symm.trans H; with_reducible exact H2_) | with_reducible exact H | (rw [hy356]; exact H) | exact H
                        have Ny356 := Aside0.mk hy356
                        clear hy356
                        have H' := Aside0.mk H
                        clear H
                        have hnb31 := NB338_350.out
                        have hnc31 := NB350_338.out
                        have hcz32_0 : wr.cell? ⟨gb338, 0, none⟩ = some (.slice Ao13 t340.length co13) := (blk_cell BK338.out 0).trans rfl
                        have hcz32_1 : wr.cell? ⟨gb338, 1, none⟩ = some (.slice Ao15 t343.length co15) := (blk_cell BK338.out 1).trans rfl
                        have hfz32_0 := blk_frozen BK338.out 0
                        have hfz32_1 := blk_frozen BK338.out 1
                        have p351 : 0 ≤ ((ji23) : Int) := of_decide_eq_true (by first | (with_reducible assumption) | assumption)
                        have q351 : (ji23) < (t343.length : Int) := of_decide_eq_true (by first | (with_reducible assumption) | assumption)
                        obtain ⟨ad351, e351, hx351_0⟩ := Kd.at_int (Kd.R_reads' HO_339001.out).2.2 (ji23) p351 q351
                        cases e351
                        replace p351 := eq_true p351
                        replace q351 := eq_true q351
                        try go_wp2
                        have n0_ := Aside0.mk (Kd.N_drew HO_1.out)
                        have n1_ := Aside0.mk (Kd.N_drew HO_339000.out)
                        have n2_ := Aside0.mk (Kd.R_drew HO_339001.out)
                        have n3_ := Aside0.mk (Kd.N_drew HO_351000.out)
                        have n4_ := Aside0.mk (Kd.R_drew HO_351001.out)
                        have n5_ := Aside0.mk (blk_drew BK338.out)
                        have n6_ := Aside0.mk (blk_drew BK350.out)
                        have n7_ := Aside0.mk (below_drew1 HB.out)
                        clear HO_1
                        clear HO_339000
                        clear HO_339001
                        clear HO_351000
                        clear HO_351001
                        clear BK338
                        clear BK350
                        clear HB
                        have HO_1 := n0_
                        have HO_339000 := n1_
                        have HO_339001 := n2_
                        have HO_351000 := n3_
                        have HO_351001 := n4_
                        have BK338 := n5_
                        have BK350 := n6_
                        have HB := n7_
                        clear n0_ n1_ n2_ n3_ n4_ n5_ n6_ n7_
                        have p352 : 0 ≤ ((ji23) : Int) := of_decide_eq_true (by first | (with_reducible assumption) | assumption)
                        have q352 : (ji23) < (t340.length : Int) := of_decide_eq_true (by first | (with_reducible assumption) | assumption)
                        obtain ⟨ad352, A352_0, c352_0, e352, hx352_0, hl352_0, hi352_0⟩ := at_L1 (Kd.N_reads' HO_339000.out).2.2 (ji23) p352 q352
                        cases e352
                        obtain ⟨ce352, hce352, hMe352, hcc352⟩ := Kd.N_get HO_339000.out [] (ji23) p352 (by first | exact q352 | exact of_decide_eq_true (by first | (with_reducible assumption) | assumption) | (have e_ := (Kd.N_reads' HO_339000.out).1; omega))
                        obtain ⟨ua352_0, uc352_0, rfl, ul352_0, ge352_0⟩ := Kd.FK_slice_open hMe352
                        have hv352_0 := hcc352 0 _ rfl
                        rw [Nat.add_zero, show ((Kd.slice 3 (Kd.int .i64))).sz = 1 from rfl, Nat.mul_one] at hv352_0
                        replace hv352_0 := Option.some.inj (hv352_0.symm.trans hx352_0)
                        injection hv352_0 with hva_ hvn_ hvc_
                        rw [hva_] at ge352_0
                        rw [hvc_] at ul352_0
                        have HL352_0 := Aside0.mk (show Kd.V (Kd.int .i64) 3 _ w.heap.size _ _ (rd_L1 t340 (ji23)) from Kd.V_mk ul352_0 ge352_0)
                        clear hva_ hvn_ hvc_ ge352_0 ul352_0
                        clear hcc352 hce352
                        have HR352_0 := Aside0.mk hi352_0
                        have HC352_0 := Aside0.mk hl352_0
                        clear hi352_0 hl352_0
                        replace p352 := eq_true p352
                        replace q352 := eq_true q352
                        refine start_ (n := 12) (S := fun w' => w'.cell? ⟨gb350, 0, none⟩ = some (u351000) ∧ w'.cell? ⟨gb350, 1, none⟩ = some (u351001) ∧ w'.cell? ⟨gb338, 0, none⟩ = some (.slice (some ad352) t340.length co13) ∧ w'.cell? ⟨gb338, 1, none⟩ = some (.slice (some ad351) t343.length co15) ∧ w'.cell? (ad352.add ((ji23)).toNat) = some (.slice A352_0 (rd_L1 t340 (ji23)).length c352_0)) (ds := [9, 11]) (bs 12 0) (by kernel_rfl) rfl rfl ⟨(blk_cell BK350.out 0).trans rfl, (blk_cell BK350.out 1).trans rfl, (blk_cell BK338.out 0).trans rfl, (blk_cell BK338.out 1).trans rfl, hx352_0⟩ (fun hHeld => ?_); refine with_tabW arboristlaw12_ValidTurned.tab15 arboristlaw12_ValidTurned.bits15 (fun HT_ HW_ => ?_)
                        generalize wr.drew = w33 at HO_1 HO_339000 HO_339001 HO_351000 HO_351001 BK338 BK350 HB HL352_0 HR352_0 hx352_0 hHeld ⊢
                        refine pure_ (i := 0) (N := some 56) (v := ?_) (a' := ?_) (bs 12 1) rfl rfl (any_of HT_.out (by kernel_rfl)) (fun _ _ _ h => h) (Or.inl ⟨by rfl, ?_⟩) ?_ ?_
                        rotate_left; (intro w'; go_simp; with_reducible rfl); rotate_left; (simp only [Act.put, List.setIfInBounds_toArray, List.set_cons_zero, List.set_cons_succ, i64_w, i32_w]; rfl)
                        refine pure_ (i := 2) (N := some 58) (v := ?_) (a' := ?_) (bs 12 5) rfl rfl (any_of HT_.out (by kernel_rfl)) (fun _ _ _ h => h) (Or.inl ⟨by rfl, ?_⟩) ?_ ?_
                        rotate_left; (intro w'; go_simp; with_reducible rfl); rotate_left; (simp only [Act.put, List.setIfInBounds_toArray, List.set_cons_zero, List.set_cons_succ, i64_w, i32_w]; rfl)
                        refine pure_ (i := 4) (N := some 60) (v := ?_) (a' := ?_) (bs 12 21) rfl rfl (any_of HT_.out (by kernel_rfl)) (fun _ _ _ h => h) (Or.inl ⟨by rfl, ?_⟩) ?_ ?_
                        rotate_left; (intro w'; go_simp; with_reducible rfl); rotate_left; (simp only [Act.put, List.setIfInBounds_toArray, List.set_cons_zero, List.set_cons_succ, i64_w, i32_w]; rfl)
                        refine pure_ (i := 5) (N := some 61) (v := ?_) (a' := ?_) (bs 12 53) rfl rfl (any_of HT_.out (by kernel_rfl)) (fun _ _ _ h => h) (Or.inl ⟨by rfl, ?_⟩) ?_ ?_
                        rotate_left; (intro w'; go_simp; with_reducible rfl); rotate_left; (simp only [Act.put, List.setIfInBounds_toArray, List.set_cons_zero, List.set_cons_succ, i64_w, i32_w]; rfl)
                        refine take_ (i := 1) (N := some 57) (v := ?_) (a' := ?_) (bs 12 55) rfl rfl (take_ofW HT_.out HW_.out (by kernel_rfl)) (fun _ _ _ h => h) (Or.inl ⟨by rfl, ?_⟩) hHeld ?_ ?_
                        rotate_left
                        · rintro w' ⟨s0, s1, s2, s3, s4⟩
                          go_simp
                          with_reducible rfl
                        rotate_left; (simp only [Act.put, List.setIfInBounds_toArray, List.set_cons_zero, List.set_cons_succ, i64_w, i32_w]; rfl)
                        refine take_ (i := 3) (N := some 59) (v := ?_) (a' := ?_) (bs 12 63) rfl rfl (take_ofW HT_.out HW_.out (by kernel_rfl)) (fun _ _ _ h => h) (Or.inl ⟨by rfl, ?_⟩) hHeld ?_ ?_
                        rotate_left
                        · rintro w' ⟨s0, s1, s2, s3, s4⟩
                          go_simp
                          with_reducible rfl
                        rotate_left; (simp only [Act.put, List.setIfInBounds_toArray, List.set_cons_zero, List.set_cons_succ, i64_w, i32_w]; rfl)
                        refine pure_ (i := 6) (N := some 62) (v := ?_) (a' := ?_) (bs 12 127) rfl rfl (any_of HT_.out (by kernel_rfl)) (fun _ _ _ h => h) (Or.inl ⟨by rfl, ?_⟩) ?_ ?_
                        rotate_left; (intro w'; go_simp; with_reducible rfl); rotate_left; (simp only [Act.put, List.setIfInBounds_toArray, List.set_cons_zero, List.set_cons_succ, i64_w, i32_w]; rfl)
                        refine take_ (i := 7) (N := some 63) (v := ?_) (a' := ?_) (bs 12 255) rfl rfl (take_ofW HT_.out HW_.out (by kernel_rfl)) (fun _ _ _ h => h) (Or.inl ⟨by rfl, ?_⟩) hHeld ?_ ?_
                        rotate_left
                        · rintro w' ⟨s0, s1, s2, s3, s4⟩
                          go_simp
                          with_reducible rfl
                        rotate_left; (simp only [Act.put, List.setIfInBounds_toArray, List.set_cons_zero, List.set_cons_succ, i64_w, i32_w]; rfl)
                        refine one_ (i := 8) (N := some 64) (bs 12 511) rfl rfl (one_of HT_.out (by kernel_rfl)) (by decide) (fun K hK => ?_)
                        refine value_ (w1 := ?_) (v := ?_) (by rfl) rfl ?_ ?_
                        rotate_left 2
                        · go_simp
                          constructor
                          · rfl
                          · rfl
                        refine hK.out _ _ ⟨(blk_cell (blk_alloc BK350.out _) 0).trans rfl, (blk_cell (blk_alloc BK350.out _) 1).trans rfl, (blk_cell (blk_alloc BK338.out _) 0).trans rfl, (blk_cell (blk_alloc BK338.out _) 1).trans rfl, (World.cell?_alloc_lt _ _ _ (World.block_lt_of_cell? _ _ (hHeld.2.2.2.2))).trans (hHeld.2.2.2.2)⟩ (fun hHeld => ?_)
                        clear hK K
                        refine norm_ (a' := ?_) ?_ ?_
                        rotate_left
                        · show Act.put _ (some 64) _ = _
                          simp only [Act.put, List.setIfInBounds_toArray, List.set_cons_zero, List.set_cons_succ, i64_w, i32_w]
                          rfl
                        refine last_ (i := 9) (N := some 65) (bs 12 1023) rfl rfl (one_of HT_.out (by kernel_rfl)) (by decide) (fun K hK => ?_)
                        refine Kd.N_append_step (Kd.slice 3 (Kd.int .i64)) (w0 := w) w.heap.size (by rfl) (.tmp 57) (.tmp 64) 22 23 (.slice none 0 0) 24 rfl Try.underlying22 info23 rfl (by decide) (by omega) u351000 x351000_1 (rd_L1 t340 (ji23)) [.slice A352_0 (rd_L1 t340 (ji23)).length c352_0] (fun k_ => some k_ ≠ (v347 : Value).ownBlock ∧ some k_ ≠ (.slice (some ad352) t340.length co13 : Value).ownBlock ∧ some k_ ≠ (.slice (some ad351) t343.length co15 : Value).ownBlock ∧ some k_ ≠ (u351001 : Value).ownBlock ∧ k_ ≠ gb338 ∧ k_ ≠ gb350) (fun k_ => ((fun k_ => some k_ ≠ (v347 : Value).ownBlock ∧ some k_ ≠ (.slice (some ad352) t340.length co13 : Value).ownBlock ∧ some k_ ≠ (.slice (some ad351) t343.length co15 : Value).ownBlock ∧ some k_ ≠ (u351001 : Value).ownBlock ∧ k_ ≠ gb338 ∧ k_ ≠ gb350)) k_ ∧ some k_ ≠ (u351000 : Value).ownBlock) rfl rfl ?aP (fun _ hk => hk) ?aF ?aO ?aB ?aS ?aL ?_
                        (case aP => exact (Kd.FK_slice_mk (Kd.V_reads' (Kd.V_mono (ok' := (fun k_ => ((fun k_ => some k_ ≠ (v347 : Value).ownBlock ∧ some k_ ≠ (.slice (some ad352) t340.length co13 : Value).ownBlock ∧ some k_ ≠ (.slice (some ad351) t343.length co15 : Value).ownBlock ∧ some k_ ≠ (u351001 : Value).ownBlock ∧ k_ ≠ gb338 ∧ k_ ≠ gb350)) k_ ∧ some k_ ≠ (u351000 : Value).ownBlock)) (HL352_0.out) (fun k_ hk => ⟨⟨hk.1.1, ⟨hk.2, ⟨hk.1.2.1, ⟨hk.1.2.2.2.1, ⟨hk.1.2.2.2.2.1, hk.1.2.2.2.2.2⟩⟩⟩⟩⟩, hk.1.2.2.1⟩))).2.1 (Kd.V_F (Kd.V_mono (ok' := (fun k_ => ((fun k_ => some k_ ≠ (v347 : Value).ownBlock ∧ some k_ ≠ (.slice (some ad352) t340.length co13 : Value).ownBlock ∧ some k_ ≠ (.slice (some ad351) t343.length co15 : Value).ownBlock ∧ some k_ ≠ (u351001 : Value).ownBlock ∧ k_ ≠ gb338 ∧ k_ ≠ gb350)) k_ ∧ some k_ ≠ (u351000 : Value).ownBlock)) (HL352_0.out) (fun k_ hk => ⟨⟨hk.1.1, ⟨hk.2, ⟨hk.1.2.1, ⟨hk.1.2.2.2.1, ⟨hk.1.2.2.2.2.1, hk.1.2.2.2.2.2⟩⟩⟩⟩⟩, hk.1.2.2.1⟩)))))
                        (case aB => exact (by repeat (first | (with_reducible first | exact HB.out | apply below_alloc | apply pw_below_drewN | apply below_drew1 | refine below_set ?_ GE338.out | refine below_set ?_ GE350.out) | exact HB.out)))
                        (case aF => exact (fun k_ hk => ⟨Kd.fresh' (Kd.N_lt (by (with_reducible repeat (first | apply Kd.N_alloc | apply Kd.N_drewN | apply Kd.N_drew)); exact HO_1.out)) k_ hk, Kd.fresh' (Kd.N_lt (by (with_reducible repeat (first | apply Kd.N_alloc | apply Kd.N_drewN | apply Kd.N_drew)); exact HO_339000.out)) k_ hk, Kd.fresh' (Kd.R_lt (by (with_reducible repeat (first | apply Kd.R_alloc | apply Kd.R_drewN | apply Kd.R_drew)); exact HO_339001.out)) k_ hk, Kd.fresh' (Kd.R_lt (by (with_reducible repeat (first | apply Kd.R_alloc | apply Kd.R_drewN | apply Kd.R_drew)); exact HO_351001.out)) k_ hk, Kd.freshB (g := gb338) (o := .cells #[.slice (some ad352) t340.length co13, .slice (some ad351) t343.length co15] 25 (0, 0)) (by (with_reducible repeat (first | refine blk_drewN ?_ _ | refine blk_drew ?_ | refine blk_alloc ?_ _)); exact BK338.out) k_ hk, Kd.freshB (g := gb350) (o := .cells #[u351000, u351001] 25 (0, 0)) (by (with_reducible repeat (first | refine blk_drewN ?_ _ | refine blk_drew ?_ | refine blk_alloc ?_ _)); exact BK350.out) k_ hk⟩))
                        (case aO => exact (by (with_reducible repeat (first | apply Kd.N_alloc | apply Kd.N_drewN | apply Kd.N_drew)); exact HO_351000.out))
                        (case aS => exact (below_size (by repeat (first | (with_reducible first | exact HB.out | apply below_alloc | apply pw_below_drewN | apply below_drew1 | refine below_set ?_ GE338.out | refine below_set ?_ GE350.out) | exact HB.out))))
                        (case aL => have := LMc29.out; omega)
                        intro v354 w34 ho hb hg hat
                        rw [← Ny353.out] at ho
                        have n0_ := Aside0.mk (Kd.N_afterv (ok := (fun k_ => some k_ ≠ (.slice (some ad352) t340.length co13 : Value).ownBlock ∧ some k_ ≠ (.slice (some ad351) t343.length co15 : Value).ownBlock ∧ some k_ ≠ (u351001 : Value).ownBlock ∧ k_ ≠ gb338 ∧ k_ ≠ gb350)) (by (with_reducible repeat (first | apply Kd.N_alloc | apply Kd.N_drewN | apply Kd.N_drew)); exact Kd.N_mono HO_1.out (fun _ hk => ⟨⟨hk.1, ⟨hk.2.1, ⟨hk.2.2.2.1, ⟨hk.2.2.2.2.1, hk.2.2.2.2.2⟩⟩⟩⟩, hk.2.2.1⟩)) hg hat)
                        have n1_ := Aside0.mk (Kd.N_afterv (ok := (fun k_ => some k_ ≠ (v347 : Value).ownBlock ∧ some k_ ≠ (.slice (some ad351) t343.length co15 : Value).ownBlock ∧ some k_ ≠ (u351001 : Value).ownBlock ∧ k_ ≠ gb338 ∧ k_ ≠ gb350)) (by (with_reducible repeat (first | apply Kd.N_alloc | apply Kd.N_drewN | apply Kd.N_drew)); exact Kd.N_mono HO_339000.out (fun _ hk => ⟨⟨hk.1, ⟨hk.2.1, ⟨hk.2.2.2.1, ⟨hk.2.2.2.2.1, hk.2.2.2.2.2⟩⟩⟩⟩, hk.2.2.1⟩)) hg hat)
                        have n2_ := Aside0.mk (Kd.R_over' (by (with_reducible repeat (first | apply Kd.R_alloc | apply Kd.R_drewN | apply Kd.R_drew)); exact HO_339001.out) (Kd.N_typed (by (with_reducible repeat (first | apply Kd.N_alloc | apply Kd.N_drewN | apply Kd.N_drew)); exact HO_351000.out)) (by decide) hg)
                        have n3_ := Aside0.mk (Kd.R_over' (by (with_reducible repeat (first | apply Kd.R_alloc | apply Kd.R_drewN | apply Kd.R_drew)); exact HO_351001.out) (Kd.N_typed (by (with_reducible repeat (first | apply Kd.N_alloc | apply Kd.N_drewN | apply Kd.N_drew)); exact HO_351000.out)) (by decide) hg)
                        have n4_ := Aside0.mk (blk_grown (g := gb338) (o := .cells #[.slice (some ad352) t340.length co13, .slice (some ad351) t343.length co15] 25 (0, 0)) (by (with_reducible repeat (first | refine blk_drewN ?_ _ | refine blk_drew ?_ | refine blk_alloc ?_ _)); exact BK338.out) hg (Kd.N_ne HO_351000.out BK338.out (by decide)))
                        have n5_ := Aside0.mk (blk_grown (g := gb350) (o := .cells #[u351000, u351001] 25 (0, 0)) (by (with_reducible repeat (first | refine blk_drewN ?_ _ | refine blk_drew ?_ | refine blk_alloc ?_ _)); exact BK350.out) hg (Kd.N_ne HO_351000.out BK350.out (by decide)))
                        have n6_ := Aside0.mk (Kd.V_afterv (ok := (fun k_ => some k_ ≠ (v347 : Value).ownBlock ∧ some k_ ≠ (.slice (some ad352) t340.length co13 : Value).ownBlock ∧ some k_ ≠ (.slice (some ad351) t343.length co15 : Value).ownBlock ∧ some k_ ≠ (u351001 : Value).ownBlock ∧ k_ ≠ gb338 ∧ k_ ≠ gb350)) (by (with_reducible repeat (first | apply Kd.V_alloc | apply Kd.V_drewN | apply Kd.V_drew)); exact Kd.V_mono HL352_0.out (fun _ hk => ⟨⟨hk.1.1, ⟨hk.2, ⟨hk.1.2.1, ⟨hk.1.2.2.2.1, ⟨hk.1.2.2.2.2.1, hk.1.2.2.2.2.2⟩⟩⟩⟩⟩, hk.1.2.2.1⟩)) hg hat)
                        have n7_ := Aside0.mk (hb)
                        have n8_ := Aside0.mk (ho)
                        clear HO_1
                        clear HO_339000
                        clear HO_339001
                        clear HO_351001
                        clear BK338
                        clear BK350
                        clear HL352_0
                        clear HB
                        clear HO_351000
                        have HO_1 := n0_
                        have HO_339000 := n1_
                        have HO_339001 := n2_
                        have HO_351001 := n3_
                        have BK338 := n4_
                        have BK350 := n5_
                        have HL352_0 := n6_
                        have HB := n7_
                        have HO355 := n8_
                        clear n0_ n1_ n2_ n3_ n4_ n5_ n6_ n7_ n8_
                        clear ho hb hg hat
                        obtain ⟨Ao35, co35, eo35⟩ := Kd.N_slice HO355.out
                        (first | subst eo35 | (injection eo35 with f1_ f2_ f3_; have f4_ := f1_.symm; have f5_ := f3_.symm; clear f1_ f2_ f3_; subst f4_; subst f5_))
                        refine hK.out _ _ ?_
                        clear hK K
                        refine norm_ (a' := ?_) ?_ ?_
                        rotate_left
                        · show Act.put _ (some 65) _ = _
                          simp only [Act.put, List.setIfInBounds_toArray, List.set_cons_zero, List.set_cons_succ, i64_w, i32_w]
                          rfl
                        refine pure_ (i := 10) (N := some 66) (v := ?_) (a' := ?_) (bs 12 2047) rfl rfl (any_of HT_.out (by kernel_rfl)) (fun _ _ _ h => h) (Or.inl ⟨by rfl, ?_⟩) ?_ ?_
                        rotate_left; (intro w'; go_simp; with_reducible rfl); rotate_left; (simp only [Act.put, List.setIfInBounds_toArray, List.set_cons_zero, List.set_cons_succ, i64_w, i32_w]; rfl)
                        refine last_ (i := 11) (N := none) (bs 12 4095) rfl rfl (one_of HT_.out (by kernel_rfl)) (by decide) (fun K hK => ?_)
                        have hs36 : w34.cell? ⟨gb350, 0, none⟩ = some (u351000) := (blk_cell BK350.out 0).trans rfl
                        have hfs36 := blk_frozen BK350.out 0
                        have hns36_0 := NB338_350.out
                        have hms36_0 := NB350_338.out
                        refine skip_ (w1 := ?_) (by rfl) rfl ?_ ?_
                        rotate_left
                        · go_simp
                          rfl
                        refine hK.out _ _ ?_
                        clear hK K
                        refine done_ (done_of HT_.out (by kernel_rfl)) ?_
                        have hcz37_0 : w34.cell? ⟨gb350, 0, none⟩ = some (u351000) := (blk_cell BK350.out 0).trans rfl
                        have hcz37_1 : w34.cell? ⟨gb350, 1, none⟩ = some (u351001) := (blk_cell BK350.out 1).trans rfl
                        have hfz37_0 := blk_frozen BK350.out 0
                        have hfz37_1 := blk_frozen BK350.out 1
                        try go_wp2_with (first | ((with_reducible refine gate_builtin (b := .append) (xs := #[.tmp 68, .tmp 70]) rfl ?_); at_builtin; refine Kd.R_append (Kd.int .i64) (w0 := w) w.heap.size rfl (.tmp 68) (.tmp 70) 23 3 (.int .i64 0) 8 rfl Try.underlying23 info3 rfl (by decide) (by omega) u351001 x351001_1 (wrap64 ((wrap64 ((t340.length : Int) - 1)) - (rd t343 (ji23)))) [.int .i64 (wrap64 ((wrap64 ((t340.length : Int) - 1)) - (rd t343 (ji23))))] (fun k_ => some k_ ≠ (.slice (some ad351) t343.length co15 : Value).ownBlock) (fun _ => False) rfl (by first | (go_simp; done) | (go_simp; rfl)) ?aP (fun _ hk => hk.elim) ?aF ?aO ?aB ?aS ?aL ?_; (case aP => exact rfl); (case aB => exact (by repeat (first | (with_reducible first | exact HB.out | apply below_alloc | apply pw_below_drewN | apply below_drew1 | refine below_set ?_ GE338.out | refine below_set ?_ GE350.out) | exact HB.out))); (case aF => exact (fun k_ hk => Kd.fresh' (Kd.R_lt (by (with_reducible repeat (first | apply Kd.R_alloc | apply Kd.R_drewN | apply Kd.R_drew)); exact (Kd.R_mono (Kd.R_far (p := ⟨gb350, 0, none⟩) (Kd.R_types HO_339001.out BK350.out (by decide)) (fun _ hk => hk.2) (.slice Ao35 y353.length co35)) (fun _ h_ => h_.1)))) k_ hk)); (case aO => exact (by (with_reducible repeat (first | apply Kd.R_alloc | apply Kd.R_drewN | apply Kd.R_drew)); exact Kd.R_mono (Kd.R_far (p := ⟨gb350, 0, none⟩) (Kd.R_types HO_351001.out BK350.out (by decide)) (fun _ hk => hk.2) (.slice Ao35 y353.length co35)) (fun _ hk => hk.1))); (case aS => exact (below_size (by repeat (first | (with_reducible first | exact HB.out | apply below_alloc | apply pw_below_drewN | apply below_drew1 | refine below_set ?_ GE338.out | refine below_set ?_ GE350.out) | exact HB.out)))); (case aL => have := LMc30.out; omega); intro v357 w38 ho hb hg hat; rw [← Ny356.out] at ho; have n0_ := Aside0.mk (Kd.N_afterv (ok := (fun k_ => some k_ ≠ (.slice (some ad352) t340.length co13 : Value).ownBlock ∧ some k_ ≠ (.slice (some ad351) t343.length co15 : Value).ownBlock ∧ some k_ ≠ (.slice Ao35 y353.length co35 : Value).ownBlock ∧ k_ ≠ gb338 ∧ k_ ≠ gb350)) (by (with_reducible repeat (first | apply Kd.N_alloc | apply Kd.N_drewN | apply Kd.N_drew)); exact Kd.N_mono (Kd.N_far (p := ⟨gb350, 0, none⟩) (Kd.N_mono HO_1.out (fun k_ hk => (⟨hk, hk.1.2.2.2.2⟩ : _ ∧ k_ ≠ gb350))) (fun _ hk => hk.2) (.slice Ao35 y353.length co35)) (fun _ hk => ⟨⟨hk.1.1.1, ⟨hk.1.1.2.1, ⟨hk.1.2, ⟨hk.1.1.2.2.2.1, hk.1.1.2.2.2.2⟩⟩⟩⟩, hk.1.1.2.2.1⟩)) hg hat); have n1_ := Aside0.mk (Kd.N_afterv (ok := (fun k_ => some k_ ≠ (v347 : Value).ownBlock ∧ some k_ ≠ (.slice (some ad351) t343.length co15 : Value).ownBlock ∧ some k_ ≠ (.slice Ao35 y353.length co35 : Value).ownBlock ∧ k_ ≠ gb338 ∧ k_ ≠ gb350)) (by (with_reducible repeat (first | apply Kd.N_alloc | apply Kd.N_drewN | apply Kd.N_drew)); exact Kd.N_mono (Kd.N_far (p := ⟨gb350, 0, none⟩) (Kd.N_mono HO_339000.out (fun k_ hk => (⟨hk, hk.1.2.2.2.2⟩ : _ ∧ k_ ≠ gb350))) (fun _ hk => hk.2) (.slice Ao35 y353.length co35)) (fun _ hk => ⟨⟨hk.1.1.1, ⟨hk.1.1.2.1, ⟨hk.1.2, ⟨hk.1.1.2.2.2.1, hk.1.1.2.2.2.2⟩⟩⟩⟩, hk.1.1.2.2.1⟩)) hg hat); have n2_ := Aside0.mk (Kd.R_after (ok := (fun _ => True)) (by (with_reducible repeat (first | apply Kd.R_alloc | apply Kd.R_drewN | apply Kd.R_drew)); exact Kd.R_mono (Kd.R_far (p := ⟨gb350, 0, none⟩) (Kd.R_types HO_339001.out BK350.out (by decide)) (fun _ hk => hk.2) (.slice Ao35 y353.length co35)) (fun _ hk => ⟨trivial, hk.1⟩)) hg hat); have n3_ := Aside0.mk (blk_grown (g := gb338) (o := .cells #[.slice (some ad352) t340.length co13, .slice (some ad351) t343.length co15] 25 (0, 0)) (by (with_reducible repeat (first | refine blk_drewN ?_ _ | refine blk_drew ?_ | refine blk_alloc ?_ _)); refine blk_far ?_ NB338_350.out _; (with_reducible repeat (first | refine blk_drewN ?_ _ | refine blk_drew ?_ | refine blk_alloc ?_ _)); exact BK338.out) hg (Kd.R_ne HO_351001.out BK338.out (by decide))); have n4_ := Aside0.mk (blk_grown (g := gb350) (o := .cells #[.slice Ao35 y353.length co35, u351001] 25 (0, 0)) (by (with_reducible repeat (first | refine blk_drewN ?_ _ | refine blk_drew ?_ | refine blk_alloc ?_ _)); refine blk_put (cs := #[u351000, u351001]) ?_ 0 _ rfl; (with_reducible repeat (first | refine blk_drewN ?_ _ | refine blk_drew ?_ | refine blk_alloc ?_ _)); exact BK350.out) hg (Kd.R_ne HO_351001.out BK350.out (by decide))); have n5_ := Aside0.mk (Kd.V_afterv (ok := (fun k_ => some k_ ≠ (v347 : Value).ownBlock ∧ some k_ ≠ (.slice (some ad352) t340.length co13 : Value).ownBlock ∧ some k_ ≠ (.slice (some ad351) t343.length co15 : Value).ownBlock ∧ some k_ ≠ (.slice Ao35 y353.length co35 : Value).ownBlock ∧ k_ ≠ gb338 ∧ k_ ≠ gb350)) (by (with_reducible repeat (first | apply Kd.V_alloc | apply Kd.V_drewN | apply Kd.V_drew)); exact Kd.V_mono (Kd.V_far (p := ⟨gb350, 0, none⟩) (Kd.V_mono HL352_0.out (fun k_ hk => (⟨hk, hk.1.2.2.2.2.2⟩ : _ ∧ k_ ≠ gb350))) (fun _ hk => hk.2) (.slice Ao35 y353.length co35)) (fun _ hk => ⟨⟨hk.1.1.1, ⟨hk.1.1.2.1, ⟨hk.1.1.2.2.1, ⟨hk.1.2, ⟨hk.1.1.2.2.2.2.1, hk.1.1.2.2.2.2.2⟩⟩⟩⟩⟩, hk.1.1.2.2.2.1⟩)) hg hat); have n6_ := Aside0.mk (Kd.N_afterv (ok := (fun k_ => some k_ ≠ (v347 : Value).ownBlock ∧ some k_ ≠ (.slice (some ad352) t340.length co13 : Value).ownBlock ∧ some k_ ≠ (.slice (some ad351) t343.length co15 : Value).ownBlock ∧ k_ ≠ gb338 ∧ k_ ≠ gb350)) (by (with_reducible repeat (first | apply Kd.N_alloc | apply Kd.N_drewN | apply Kd.N_drew)); exact Kd.N_mono (Kd.N_far (p := ⟨gb350, 0, none⟩) (Kd.N_mono HO355.out (fun k_ hk => (⟨hk, hk.2.2.2.2.2⟩ : _ ∧ k_ ≠ gb350))) (fun _ hk => hk.2) (.slice Ao35 y353.length co35)) (fun _ hk => ⟨⟨hk.1.1, ⟨hk.1.2.1, ⟨hk.1.2.2.1, ⟨hk.1.2.2.2.2.1, hk.1.2.2.2.2.2⟩⟩⟩⟩, hk.1.2.2.2.1⟩)) hg hat); have n7_ := Aside0.mk (hb); have n8_ := Aside0.mk (ho); clear HO_1; clear HO_339000; clear HO_339001; clear BK338; clear BK350; clear HL352_0; clear HO355; clear HB; clear HO_351001; have HO_1 := n0_; have HO_339000 := n1_; have HO_339001 := n2_; have BK338 := n3_; have BK350 := n4_; have HL352_0 := n5_; have HO355 := n6_; have HB := n7_; have HO358 := n8_; clear n0_ n1_ n2_ n3_ n4_ n5_ n6_ n7_ n8_; clear ho hb hg hat; obtain ⟨Ao39, co39, eo39⟩ := Kd.R_slice HO358.out; subst eo39; have hcz40_0 : w38.cell? ⟨gb350, 0, none⟩ = some (.slice Ao35 y353.length co35) := (blk_cell BK350.out 0).trans rfl; have hcz40_1 : w38.cell? ⟨gb350, 1, none⟩ = some (u351001) := (blk_cell BK350.out 1).trans rfl; have hfz40_0 := blk_frozen BK350.out 0; have hfz40_1 := blk_frozen BK350.out 1))
                        go_roundg k1
                        case measure => have := HK1.out; omega
                        case rel => exact ⟨(ji23), (y353), (y356), (.slice Ao35 y353.length co35), (.slice Ao39 y356.length co39), (by first | rfl | (simp; done) | (simp only [← hji23] <;> (first | rfl | simp)) | (simp [*]; done)), H', ⟨by have := HK1.out; omega⟩, ⟨by (with_reducible repeat (first | apply Kd.N_alloc | apply Kd.N_drewN | apply Kd.N_drew)); exact Kd.N_mono (Kd.N_far (p := ⟨gb350, 1, none⟩) (Kd.N_mono HO_1.out (fun k_ hk => (⟨hk, hk.1.2.2.2.2⟩ : _ ∧ k_ ≠ gb350))) (fun _ hk => hk.2) (.slice Ao39 y356.length co39)) (fun _ hk => ⟨hk.1.1.1, ⟨hk.1.1.2.1, ⟨hk.1.1.2.2.1, ⟨hk.1.2, ⟨hk.1.1.2.2.2.1, hk.1.1.2.2.2.2⟩⟩⟩⟩⟩)⟩, ⟨by (with_reducible repeat (first | apply Kd.N_alloc | apply Kd.N_drewN | apply Kd.N_drew)); exact Kd.N_mono (Kd.N_far (p := ⟨gb350, 1, none⟩) (Kd.N_mono HO_339000.out (fun k_ hk => (⟨hk, hk.1.2.2.2.2⟩ : _ ∧ k_ ≠ gb350))) (fun _ hk => hk.2) (.slice Ao39 y356.length co39)) (fun _ hk => ⟨hk.1.1.1, ⟨hk.1.1.2.1, ⟨hk.1.1.2.2.1, ⟨hk.1.2, ⟨hk.1.1.2.2.2.1, hk.1.1.2.2.2.2⟩⟩⟩⟩⟩)⟩, ⟨by (with_reducible repeat (first | apply Kd.R_alloc | apply Kd.R_drewN | apply Kd.R_drew)); exact Kd.R_mono (Kd.R_far (p := ⟨gb350, 1, none⟩) (Kd.R_types HO_339001.out BK350.out (by decide)) (fun _ hk => hk.2) (.slice Ao39 y356.length co39)) (fun _ hk => hk.1.2)⟩, ⟨by (with_reducible repeat (first | apply Kd.N_alloc | apply Kd.N_drewN | apply Kd.N_drew)); exact Kd.N_mono (Kd.N_far (p := ⟨gb350, 1, none⟩) (Kd.N_mono HO355.out (fun k_ hk => (⟨hk, hk.1.2.2.2.2⟩ : _ ∧ k_ ≠ gb350))) (fun _ hk => hk.2) (.slice Ao39 y356.length co39)) (fun _ hk => ⟨hk.1.1.1, ⟨hk.1.1.2.1, ⟨hk.1.1.2.2.1, ⟨hk.1.2, ⟨hk.1.1.2.2.2.1, hk.1.1.2.2.2.2⟩⟩⟩⟩⟩)⟩, ⟨by (with_reducible repeat (first | apply Kd.R_alloc | apply Kd.R_drewN | apply Kd.R_drew)); exact Kd.R_mono (Kd.R_far (p := ⟨gb350, 1, none⟩) (Kd.R_types HO358.out BK350.out (by decide)) (fun _ hk => hk.2) (.slice Ao39 y356.length co39)) (fun _ hk => hk.1)⟩, ⟨by (with_reducible repeat (first | refine blk_drewN ?_ _ | refine blk_drew ?_ | refine blk_alloc ?_ _)); refine blk_far ?_ NB338_350.out _; (with_reducible repeat (first | refine blk_drewN ?_ _ | refine blk_drew ?_ | refine blk_alloc ?_ _)); exact BK338.out⟩, ⟨by (with_reducible repeat (first | refine blk_drewN ?_ _ | refine blk_drew ?_ | refine blk_alloc ?_ _)); refine blk_put (cs := #[.slice Ao35 y353.length co35, u351001]) ?_ 1 _ rfl; (with_reducible repeat (first | refine blk_drewN ?_ _ | refine blk_drew ?_ | refine blk_alloc ?_ _)); exact BK350.out⟩, ⟨by repeat (first | (with_reducible first | exact HB.out | apply below_alloc | apply pw_below_drewN | apply below_drew1 | refine below_set ?_ GE338.out | refine below_set ?_ GE350.out) | exact HB.out)⟩⟩
                      · rw [if_neg c30] at H
                        exact absurd H (by simp)
                    · rw [if_neg c29] at H
                      exact absurd H (by simp)
                  · rw [if_neg c28] at H
                    exact absurd H (by simp)
                · rw [if_neg c27] at H
                  have c27b0 : decide ((rd t343 (ji23)) < (t340.length : Int)) = false := decide_eq_false c27
                  clear c27
                  by_cases c41 : (ji23) < (t340.length : Int)
                  · rw [if_pos c41] at H
                    have c41b0 : decide ((ji23) < (t340.length : Int)) = true := decide_eq_true c41
                    clear c41
                    by_cases c42 : x351000_1.length < 5864062014805
                    · rw [if_pos c42] at H
                      have LMc42 := Aside0.mk c42
                      clear c42
                      obtain ⟨y360, hy360⟩ : ∃ y_ : List (List Int), y_ = (x351000_1 ++ [rd_L1 t340 (ji23)]) := ⟨_, rfl⟩
                      replace H : (if x351001_1.length < 17592186044416 then (arboristlaw12_ValidTurned.l0 k1 ji5 t346 t339 (t340.length : Int) ji23 t340 t343 y360 (x351001_1 ++ [rd t343 (ji23)])) else (none)) = some r := by first | (rw [hy360]; with_reducible exact H) | (have H2_ := (Option.bind_some _ _).symm.trans H; rw [hy360]; with_reducible exact H2_) | (have H2_ := (Option.bind_some _ _).symm.trans H; with_reducible exact H2_) | with_reducible exact H | (rw [hy360]; exact H) | exact H
                      have Ny360 := Aside0.mk hy360
                      clear hy360
                      by_cases c43 : x351001_1.length < 17592186044416
                      · rw [if_pos c43] at H
                        have LMc43 := Aside0.mk c43
                        clear c43
                        obtain ⟨y363, hy363⟩ : ∃ y_ : List Int, y_ = (x351001_1 ++ [rd t343 (ji23)]) := ⟨_, rfl⟩
                        replace H : (arboristlaw12_ValidTurned.l0 k1 ji5 t346 t339 (t340.length : Int) ji23 t340 t343 y360 y363) = some r := by first | (rw [hy363]; with_reducible exact H) | (have H2_ := (Option.bind_some _ _).symm.trans H; rw [hy363]; with_reducible exact H2_) | (have H2_ := (Option.bind_some _ _).symm.trans H; with_reducible exact H2_) | with_reducible exact H | (rw [hy363]; exact H) | exact H
                        have Ny363 := Aside0.mk hy363
                        clear hy363
                        have H' := Aside0.mk H
                        clear H
                        have hnb44 := NB338_350.out
                        have hnc44 := NB350_338.out
                        have hcz45_0 : wr.cell? ⟨gb338, 0, none⟩ = some (.slice Ao13 t340.length co13) := (blk_cell BK338.out 0).trans rfl
                        have hcz45_1 : wr.cell? ⟨gb338, 1, none⟩ = some (.slice Ao15 t343.length co15) := (blk_cell BK338.out 1).trans rfl
                        have hfz45_0 := blk_frozen BK338.out 0
                        have hfz45_1 := blk_frozen BK338.out 1
                        have p351 : 0 ≤ ((ji23) : Int) := of_decide_eq_true (by first | (with_reducible assumption) | assumption)
                        have q351 : (ji23) < (t343.length : Int) := of_decide_eq_true (by first | (with_reducible assumption) | assumption)
                        obtain ⟨ad351, e351, hx351_0⟩ := Kd.at_int (Kd.R_reads' HO_339001.out).2.2 (ji23) p351 q351
                        cases e351
                        replace p351 := eq_true p351
                        replace q351 := eq_true q351
                        try go_wp2
                        have n0_ := Aside0.mk (Kd.N_drew HO_1.out)
                        have n1_ := Aside0.mk (Kd.N_drew HO_339000.out)
                        have n2_ := Aside0.mk (Kd.R_drew HO_339001.out)
                        have n3_ := Aside0.mk (Kd.N_drew HO_351000.out)
                        have n4_ := Aside0.mk (Kd.R_drew HO_351001.out)
                        have n5_ := Aside0.mk (blk_drew BK338.out)
                        have n6_ := Aside0.mk (blk_drew BK350.out)
                        have n7_ := Aside0.mk (below_drew1 HB.out)
                        clear HO_1
                        clear HO_339000
                        clear HO_339001
                        clear HO_351000
                        clear HO_351001
                        clear BK338
                        clear BK350
                        clear HB
                        have HO_1 := n0_
                        have HO_339000 := n1_
                        have HO_339001 := n2_
                        have HO_351000 := n3_
                        have HO_351001 := n4_
                        have BK338 := n5_
                        have BK350 := n6_
                        have HB := n7_
                        clear n0_ n1_ n2_ n3_ n4_ n5_ n6_ n7_
                        have p359 : 0 ≤ ((ji23) : Int) := of_decide_eq_true (by first | (with_reducible assumption) | assumption)
                        have q359 : (ji23) < (t340.length : Int) := of_decide_eq_true (by first | (with_reducible assumption) | assumption)
                        obtain ⟨ad359, A359_0, c359_0, e359, hx359_0, hl359_0, hi359_0⟩ := at_L1 (Kd.N_reads' HO_339000.out).2.2 (ji23) p359 q359
                        cases e359
                        obtain ⟨ce359, hce359, hMe359, hcc359⟩ := Kd.N_get HO_339000.out [] (ji23) p359 (by first | exact q359 | exact of_decide_eq_true (by first | (with_reducible assumption) | assumption) | (have e_ := (Kd.N_reads' HO_339000.out).1; omega))
                        obtain ⟨ua359_0, uc359_0, rfl, ul359_0, ge359_0⟩ := Kd.FK_slice_open hMe359
                        have hv359_0 := hcc359 0 _ rfl
                        rw [Nat.add_zero, show ((Kd.slice 3 (Kd.int .i64))).sz = 1 from rfl, Nat.mul_one] at hv359_0
                        replace hv359_0 := Option.some.inj (hv359_0.symm.trans hx359_0)
                        injection hv359_0 with hva_ hvn_ hvc_
                        rw [hva_] at ge359_0
                        rw [hvc_] at ul359_0
                        have HL359_0 := Aside0.mk (show Kd.V (Kd.int .i64) 3 _ w.heap.size _ _ (rd_L1 t340 (ji23)) from Kd.V_mk ul359_0 ge359_0)
                        clear hva_ hvn_ hvc_ ge359_0 ul359_0
                        clear hcc359 hce359
                        have HR359_0 := Aside0.mk hi359_0
                        have HC359_0 := Aside0.mk hl359_0
                        clear hi359_0 hl359_0
                        replace p359 := eq_true p359
                        replace q359 := eq_true q359
                        refine start_ (n := 12) (S := fun w' => w'.cell? ⟨gb350, 0, none⟩ = some (u351000) ∧ w'.cell? ⟨gb350, 1, none⟩ = some (u351001) ∧ w'.cell? ⟨gb338, 0, none⟩ = some (.slice (some ad359) t340.length co13) ∧ w'.cell? ⟨gb338, 1, none⟩ = some (.slice (some ad351) t343.length co15) ∧ w'.cell? (ad359.add ((ji23)).toNat) = some (.slice A359_0 (rd_L1 t340 (ji23)).length c359_0)) (ds := [9, 11]) (bs 12 0) (by kernel_rfl) rfl rfl ⟨(blk_cell BK350.out 0).trans rfl, (blk_cell BK350.out 1).trans rfl, (blk_cell BK338.out 0).trans rfl, (blk_cell BK338.out 1).trans rfl, hx359_0⟩ (fun hHeld => ?_); refine with_tabW arboristlaw12_ValidTurned.tab15 arboristlaw12_ValidTurned.bits15 (fun HT_ HW_ => ?_)
                        generalize wr.drew = w46 at HO_1 HO_339000 HO_339001 HO_351000 HO_351001 BK338 BK350 HB HL359_0 HR359_0 hx359_0 hHeld ⊢
                        refine pure_ (i := 0) (N := some 56) (v := ?_) (a' := ?_) (bs 12 1) rfl rfl (any_of HT_.out (by kernel_rfl)) (fun _ _ _ h => h) (Or.inl ⟨by rfl, ?_⟩) ?_ ?_
                        rotate_left; (intro w'; go_simp; with_reducible rfl); rotate_left; (simp only [Act.put, List.setIfInBounds_toArray, List.set_cons_zero, List.set_cons_succ, i64_w, i32_w]; rfl)
                        refine pure_ (i := 2) (N := some 58) (v := ?_) (a' := ?_) (bs 12 5) rfl rfl (any_of HT_.out (by kernel_rfl)) (fun _ _ _ h => h) (Or.inl ⟨by rfl, ?_⟩) ?_ ?_
                        rotate_left; (intro w'; go_simp; with_reducible rfl); rotate_left; (simp only [Act.put, List.setIfInBounds_toArray, List.set_cons_zero, List.set_cons_succ, i64_w, i32_w]; rfl)
                        refine pure_ (i := 4) (N := some 60) (v := ?_) (a' := ?_) (bs 12 21) rfl rfl (any_of HT_.out (by kernel_rfl)) (fun _ _ _ h => h) (Or.inl ⟨by rfl, ?_⟩) ?_ ?_
                        rotate_left; (intro w'; go_simp; with_reducible rfl); rotate_left; (simp only [Act.put, List.setIfInBounds_toArray, List.set_cons_zero, List.set_cons_succ, i64_w, i32_w]; rfl)
                        refine pure_ (i := 5) (N := some 61) (v := ?_) (a' := ?_) (bs 12 53) rfl rfl (any_of HT_.out (by kernel_rfl)) (fun _ _ _ h => h) (Or.inl ⟨by rfl, ?_⟩) ?_ ?_
                        rotate_left; (intro w'; go_simp; with_reducible rfl); rotate_left; (simp only [Act.put, List.setIfInBounds_toArray, List.set_cons_zero, List.set_cons_succ, i64_w, i32_w]; rfl)
                        refine take_ (i := 1) (N := some 57) (v := ?_) (a' := ?_) (bs 12 55) rfl rfl (take_ofW HT_.out HW_.out (by kernel_rfl)) (fun _ _ _ h => h) (Or.inl ⟨by rfl, ?_⟩) hHeld ?_ ?_
                        rotate_left
                        · rintro w' ⟨s0, s1, s2, s3, s4⟩
                          go_simp
                          with_reducible rfl
                        rotate_left; (simp only [Act.put, List.setIfInBounds_toArray, List.set_cons_zero, List.set_cons_succ, i64_w, i32_w]; rfl)
                        refine take_ (i := 3) (N := some 59) (v := ?_) (a' := ?_) (bs 12 63) rfl rfl (take_ofW HT_.out HW_.out (by kernel_rfl)) (fun _ _ _ h => h) (Or.inl ⟨by rfl, ?_⟩) hHeld ?_ ?_
                        rotate_left
                        · rintro w' ⟨s0, s1, s2, s3, s4⟩
                          go_simp
                          with_reducible rfl
                        rotate_left; (simp only [Act.put, List.setIfInBounds_toArray, List.set_cons_zero, List.set_cons_succ, i64_w, i32_w]; rfl)
                        refine pure_ (i := 6) (N := some 62) (v := ?_) (a' := ?_) (bs 12 127) rfl rfl (any_of HT_.out (by kernel_rfl)) (fun _ _ _ h => h) (Or.inl ⟨by rfl, ?_⟩) ?_ ?_
                        rotate_left; (intro w'; go_simp; with_reducible rfl); rotate_left; (simp only [Act.put, List.setIfInBounds_toArray, List.set_cons_zero, List.set_cons_succ, i64_w, i32_w]; rfl)
                        refine take_ (i := 7) (N := some 63) (v := ?_) (a' := ?_) (bs 12 255) rfl rfl (take_ofW HT_.out HW_.out (by kernel_rfl)) (fun _ _ _ h => h) (Or.inl ⟨by rfl, ?_⟩) hHeld ?_ ?_
                        rotate_left
                        · rintro w' ⟨s0, s1, s2, s3, s4⟩
                          go_simp
                          with_reducible rfl
                        rotate_left; (simp only [Act.put, List.setIfInBounds_toArray, List.set_cons_zero, List.set_cons_succ, i64_w, i32_w]; rfl)
                        refine one_ (i := 8) (N := some 64) (bs 12 511) rfl rfl (one_of HT_.out (by kernel_rfl)) (by decide) (fun K hK => ?_)
                        refine value_ (w1 := ?_) (v := ?_) (by rfl) rfl ?_ ?_
                        rotate_left 2
                        · go_simp
                          constructor
                          · rfl
                          · rfl
                        refine hK.out _ _ ⟨(blk_cell (blk_alloc BK350.out _) 0).trans rfl, (blk_cell (blk_alloc BK350.out _) 1).trans rfl, (blk_cell (blk_alloc BK338.out _) 0).trans rfl, (blk_cell (blk_alloc BK338.out _) 1).trans rfl, (World.cell?_alloc_lt _ _ _ (World.block_lt_of_cell? _ _ (hHeld.2.2.2.2))).trans (hHeld.2.2.2.2)⟩ (fun hHeld => ?_)
                        clear hK K
                        refine norm_ (a' := ?_) ?_ ?_
                        rotate_left
                        · show Act.put _ (some 64) _ = _
                          simp only [Act.put, List.setIfInBounds_toArray, List.set_cons_zero, List.set_cons_succ, i64_w, i32_w]
                          rfl
                        refine last_ (i := 9) (N := some 65) (bs 12 1023) rfl rfl (one_of HT_.out (by kernel_rfl)) (by decide) (fun K hK => ?_)
                        refine Kd.N_append_step (Kd.slice 3 (Kd.int .i64)) (w0 := w) w.heap.size (by rfl) (.tmp 57) (.tmp 64) 22 23 (.slice none 0 0) 24 rfl Try.underlying22 info23 rfl (by decide) (by omega) u351000 x351000_1 (rd_L1 t340 (ji23)) [.slice A359_0 (rd_L1 t340 (ji23)).length c359_0] (fun k_ => some k_ ≠ (v347 : Value).ownBlock ∧ some k_ ≠ (.slice (some ad359) t340.length co13 : Value).ownBlock ∧ some k_ ≠ (.slice (some ad351) t343.length co15 : Value).ownBlock ∧ some k_ ≠ (u351001 : Value).ownBlock ∧ k_ ≠ gb338 ∧ k_ ≠ gb350) (fun k_ => ((fun k_ => some k_ ≠ (v347 : Value).ownBlock ∧ some k_ ≠ (.slice (some ad359) t340.length co13 : Value).ownBlock ∧ some k_ ≠ (.slice (some ad351) t343.length co15 : Value).ownBlock ∧ some k_ ≠ (u351001 : Value).ownBlock ∧ k_ ≠ gb338 ∧ k_ ≠ gb350)) k_ ∧ some k_ ≠ (u351000 : Value).ownBlock) rfl rfl ?aP (fun _ hk => hk) ?aF ?aO ?aB ?aS ?aL ?_
                        (case aP => exact (Kd.FK_slice_mk (Kd.V_reads' (Kd.V_mono (ok' := (fun k_ => ((fun k_ => some k_ ≠ (v347 : Value).ownBlock ∧ some k_ ≠ (.slice (some ad359) t340.length co13 : Value).ownBlock ∧ some k_ ≠ (.slice (some ad351) t343.length co15 : Value).ownBlock ∧ some k_ ≠ (u351001 : Value).ownBlock ∧ k_ ≠ gb338 ∧ k_ ≠ gb350)) k_ ∧ some k_ ≠ (u351000 : Value).ownBlock)) (HL359_0.out) (fun k_ hk => ⟨⟨hk.1.1, ⟨hk.2, ⟨hk.1.2.1, ⟨hk.1.2.2.2.1, ⟨hk.1.2.2.2.2.1, hk.1.2.2.2.2.2⟩⟩⟩⟩⟩, hk.1.2.2.1⟩))).2.1 (Kd.V_F (Kd.V_mono (ok' := (fun k_ => ((fun k_ => some k_ ≠ (v347 : Value).ownBlock ∧ some k_ ≠ (.slice (some ad359) t340.length co13 : Value).ownBlock ∧ some k_ ≠ (.slice (some ad351) t343.length co15 : Value).ownBlock ∧ some k_ ≠ (u351001 : Value).ownBlock ∧ k_ ≠ gb338 ∧ k_ ≠ gb350)) k_ ∧ some k_ ≠ (u351000 : Value).ownBlock)) (HL359_0.out) (fun k_ hk => ⟨⟨hk.1.1, ⟨hk.2, ⟨hk.1.2.1, ⟨hk.1.2.2.2.1, ⟨hk.1.2.2.2.2.1, hk.1.2.2.2.2.2⟩⟩⟩⟩⟩, hk.1.2.2.1⟩)))))
                        (case aB => exact (by repeat (first | (with_reducible first | exact HB.out | apply below_alloc | apply pw_below_drewN | apply below_drew1 | refine below_set ?_ GE338.out | refine below_set ?_ GE350.out) | exact HB.out)))
                        (case aF => exact (fun k_ hk => ⟨Kd.fresh' (Kd.N_lt (by (with_reducible repeat (first | apply Kd.N_alloc | apply Kd.N_drewN | apply Kd.N_drew)); exact HO_1.out)) k_ hk, Kd.fresh' (Kd.N_lt (by (with_reducible repeat (first | apply Kd.N_alloc | apply Kd.N_drewN | apply Kd.N_drew)); exact HO_339000.out)) k_ hk, Kd.fresh' (Kd.R_lt (by (with_reducible repeat (first | apply Kd.R_alloc | apply Kd.R_drewN | apply Kd.R_drew)); exact HO_339001.out)) k_ hk, Kd.fresh' (Kd.R_lt (by (with_reducible repeat (first | apply Kd.R_alloc | apply Kd.R_drewN | apply Kd.R_drew)); exact HO_351001.out)) k_ hk, Kd.freshB (g := gb338) (o := .cells #[.slice (some ad359) t340.length co13, .slice (some ad351) t343.length co15] 25 (0, 0)) (by (with_reducible repeat (first | refine blk_drewN ?_ _ | refine blk_drew ?_ | refine blk_alloc ?_ _)); exact BK338.out) k_ hk, Kd.freshB (g := gb350) (o := .cells #[u351000, u351001] 25 (0, 0)) (by (with_reducible repeat (first | refine blk_drewN ?_ _ | refine blk_drew ?_ | refine blk_alloc ?_ _)); exact BK350.out) k_ hk⟩))
                        (case aO => exact (by (with_reducible repeat (first | apply Kd.N_alloc | apply Kd.N_drewN | apply Kd.N_drew)); exact HO_351000.out))
                        (case aS => exact (below_size (by repeat (first | (with_reducible first | exact HB.out | apply below_alloc | apply pw_below_drewN | apply below_drew1 | refine below_set ?_ GE338.out | refine below_set ?_ GE350.out) | exact HB.out))))
                        (case aL => have := LMc42.out; omega)
                        intro v361 w47 ho hb hg hat
                        rw [← Ny360.out] at ho
                        have n0_ := Aside0.mk (Kd.N_afterv (ok := (fun k_ => some k_ ≠ (.slice (some ad359) t340.length co13 : Value).ownBlock ∧ some k_ ≠ (.slice (some ad351) t343.length co15 : Value).ownBlock ∧ some k_ ≠ (u351001 : Value).ownBlock ∧ k_ ≠ gb338 ∧ k_ ≠ gb350)) (by (with_reducible repeat (first | apply Kd.N_alloc | apply Kd.N_drewN | apply Kd.N_drew)); exact Kd.N_mono HO_1.out (fun _ hk => ⟨⟨hk.1, ⟨hk.2.1, ⟨hk.2.2.2.1, ⟨hk.2.2.2.2.1, hk.2.2.2.2.2⟩⟩⟩⟩, hk.2.2.1⟩)) hg hat)
                        have n1_ := Aside0.mk (Kd.N_afterv (ok := (fun k_ => some k_ ≠ (v347 : Value).ownBlock ∧ some k_ ≠ (.slice (some ad351) t343.length co15 : Value).ownBlock ∧ some k_ ≠ (u351001 : Value).ownBlock ∧ k_ ≠ gb338 ∧ k_ ≠ gb350)) (by (with_reducible repeat (first | apply Kd.N_alloc | apply Kd.N_drewN | apply Kd.N_drew)); exact Kd.N_mono HO_339000.out (fun _ hk => ⟨⟨hk.1, ⟨hk.2.1, ⟨hk.2.2.2.1, ⟨hk.2.2.2.2.1, hk.2.2.2.2.2⟩⟩⟩⟩, hk.2.2.1⟩)) hg hat)
                        have n2_ := Aside0.mk (Kd.R_over' (by (with_reducible repeat (first | apply Kd.R_alloc | apply Kd.R_drewN | apply Kd.R_drew)); exact HO_339001.out) (Kd.N_typed (by (with_reducible repeat (first | apply Kd.N_alloc | apply Kd.N_drewN | apply Kd.N_drew)); exact HO_351000.out)) (by decide) hg)
                        have n3_ := Aside0.mk (Kd.R_over' (by (with_reducible repeat (first | apply Kd.R_alloc | apply Kd.R_drewN | apply Kd.R_drew)); exact HO_351001.out) (Kd.N_typed (by (with_reducible repeat (first | apply Kd.N_alloc | apply Kd.N_drewN | apply Kd.N_drew)); exact HO_351000.out)) (by decide) hg)
                        have n4_ := Aside0.mk (blk_grown (g := gb338) (o := .cells #[.slice (some ad359) t340.length co13, .slice (some ad351) t343.length co15] 25 (0, 0)) (by (with_reducible repeat (first | refine blk_drewN ?_ _ | refine blk_drew ?_ | refine blk_alloc ?_ _)); exact BK338.out) hg (Kd.N_ne HO_351000.out BK338.out (by decide)))
                        have n5_ := Aside0.mk (blk_grown (g := gb350) (o := .cells #[u351000, u351001] 25 (0, 0)) (by (with_reducible repeat (first | refine blk_drewN ?_ _ | refine blk_drew ?_ | refine blk_alloc ?_ _)); exact BK350.out) hg (Kd.N_ne HO_351000.out BK350.out (by decide)))
                        have n6_ := Aside0.mk (Kd.V_afterv (ok := (fun k_ => some k_ ≠ (v347 : Value).ownBlock ∧ some k_ ≠ (.slice (some ad359) t340.length co13 : Value).ownBlock ∧ some k_ ≠ (.slice (some ad351) t343.length co15 : Value).ownBlock ∧ some k_ ≠ (u351001 : Value).ownBlock ∧ k_ ≠ gb338 ∧ k_ ≠ gb350)) (by (with_reducible repeat (first | apply Kd.V_alloc | apply Kd.V_drewN | apply Kd.V_drew)); exact Kd.V_mono HL359_0.out (fun _ hk => ⟨⟨hk.1.1, ⟨hk.2, ⟨hk.1.2.1, ⟨hk.1.2.2.2.1, ⟨hk.1.2.2.2.2.1, hk.1.2.2.2.2.2⟩⟩⟩⟩⟩, hk.1.2.2.1⟩)) hg hat)
                        have n7_ := Aside0.mk (hb)
                        have n8_ := Aside0.mk (ho)
                        clear HO_1
                        clear HO_339000
                        clear HO_339001
                        clear HO_351001
                        clear BK338
                        clear BK350
                        clear HL359_0
                        clear HB
                        clear HO_351000
                        have HO_1 := n0_
                        have HO_339000 := n1_
                        have HO_339001 := n2_
                        have HO_351001 := n3_
                        have BK338 := n4_
                        have BK350 := n5_
                        have HL359_0 := n6_
                        have HB := n7_
                        have HO362 := n8_
                        clear n0_ n1_ n2_ n3_ n4_ n5_ n6_ n7_ n8_
                        clear ho hb hg hat
                        obtain ⟨Ao48, co48, eo48⟩ := Kd.N_slice HO362.out
                        (first | subst eo48 | (injection eo48 with f1_ f2_ f3_; have f4_ := f1_.symm; have f5_ := f3_.symm; clear f1_ f2_ f3_; subst f4_; subst f5_))
                        refine hK.out _ _ ?_
                        clear hK K
                        refine norm_ (a' := ?_) ?_ ?_
                        rotate_left
                        · show Act.put _ (some 65) _ = _
                          simp only [Act.put, List.setIfInBounds_toArray, List.set_cons_zero, List.set_cons_succ, i64_w, i32_w]
                          rfl
                        refine pure_ (i := 10) (N := some 66) (v := ?_) (a' := ?_) (bs 12 2047) rfl rfl (any_of HT_.out (by kernel_rfl)) (fun _ _ _ h => h) (Or.inl ⟨by rfl, ?_⟩) ?_ ?_
                        rotate_left; (intro w'; go_simp; with_reducible rfl); rotate_left; (simp only [Act.put, List.setIfInBounds_toArray, List.set_cons_zero, List.set_cons_succ, i64_w, i32_w]; rfl)
                        refine last_ (i := 11) (N := none) (bs 12 4095) rfl rfl (one_of HT_.out (by kernel_rfl)) (by decide) (fun K hK => ?_)
                        have hs49 : w47.cell? ⟨gb350, 0, none⟩ = some (u351000) := (blk_cell BK350.out 0).trans rfl
                        have hfs49 := blk_frozen BK350.out 0
                        have hns49_0 := NB338_350.out
                        have hms49_0 := NB350_338.out
                        refine skip_ (w1 := ?_) (by rfl) rfl ?_ ?_
                        rotate_left
                        · go_simp
                          rfl
                        refine hK.out _ _ ?_
                        clear hK K
                        refine done_ (done_of HT_.out (by kernel_rfl)) ?_
                        have hcz50_0 : w47.cell? ⟨gb350, 0, none⟩ = some (u351000) := (blk_cell BK350.out 0).trans rfl
                        have hcz50_1 : w47.cell? ⟨gb350, 1, none⟩ = some (u351001) := (blk_cell BK350.out 1).trans rfl
                        have hfz50_0 := blk_frozen BK350.out 0
                        have hfz50_1 := blk_frozen BK350.out 1
                        try go_wp2_with (first | ((with_reducible refine gate_builtin (b := .append) (xs := #[.tmp 68, .tmp 70]) rfl ?_); at_builtin; refine Kd.R_append (Kd.int .i64) (w0 := w) w.heap.size rfl (.tmp 68) (.tmp 70) 23 3 (.int .i64 0) 8 rfl Try.underlying23 info3 rfl (by decide) (by omega) u351001 x351001_1 (rd t343 (ji23)) [.int .i64 (rd t343 (ji23))] (fun k_ => some k_ ≠ (.slice (some ad351) t343.length co15 : Value).ownBlock) (fun _ => False) rfl (by first | (go_simp; done) | (go_simp; rfl)) ?aP (fun _ hk => hk.elim) ?aF ?aO ?aB ?aS ?aL ?_; (case aP => exact rfl); (case aB => exact (by repeat (first | (with_reducible first | exact HB.out | apply below_alloc | apply pw_below_drewN | apply below_drew1 | refine below_set ?_ GE338.out | refine below_set ?_ GE350.out) | exact HB.out))); (case aF => exact (fun k_ hk => Kd.fresh' (Kd.R_lt (by (with_reducible repeat (first | apply Kd.R_alloc | apply Kd.R_drewN | apply Kd.R_drew)); exact (Kd.R_mono (Kd.R_far (p := ⟨gb350, 0, none⟩) (Kd.R_types HO_339001.out BK350.out (by decide)) (fun _ hk => hk.2) (.slice Ao48 y360.length co48)) (fun _ h_ => h_.1)))) k_ hk)); (case aO => exact (by (with_reducible repeat (first | apply Kd.R_alloc | apply Kd.R_drewN | apply Kd.R_drew)); exact Kd.R_mono (Kd.R_far (p := ⟨gb350, 0, none⟩) (Kd.R_types HO_351001.out BK350.out (by decide)) (fun _ hk => hk.2) (.slice Ao48 y360.length co48)) (fun _ hk => hk.1))); (case aS => exact (below_size (by repeat (first | (with_reducible first | exact HB.out | apply below_alloc | apply pw_below_drewN | apply below_drew1 | refine below_set ?_ GE338.out | refine below_set ?_ GE350.out) | exact HB.out)))); (case aL => have := LMc43.out; omega); intro v364 w51 ho hb hg hat; rw [← Ny363.out] at ho; have n0_ := Aside0.mk (Kd.N_afterv (ok := (fun k_ => some k_ ≠ (.slice (some ad359) t340.length co13 : Value).ownBlock ∧ some k_ ≠ (.slice (some ad351) t343.length co15 : Value).ownBlock ∧ some k_ ≠ (.slice Ao48 y360.length co48 : Value).ownBlock ∧ k_ ≠ gb338 ∧ k_ ≠ gb350)) (by (with_reducible repeat (first | apply Kd.N_alloc | apply Kd.N_drewN | apply Kd.N_drew)); exact Kd.N_mono (Kd.N_far (p := ⟨gb350, 0, none⟩) (Kd.N_mono HO_1.out (fun k_ hk => (⟨hk, hk.1.2.2.2.2⟩ : _ ∧ k_ ≠ gb350))) (fun _ hk => hk.2) (.slice Ao48 y360.length co48)) (fun _ hk => ⟨⟨hk.1.1.1, ⟨hk.1.1.2.1, ⟨hk.1.2, ⟨hk.1.1.2.2.2.1, hk.1.1.2.2.2.2⟩⟩⟩⟩, hk.1.1.2.2.1⟩)) hg hat); have n1_ := Aside0.mk (Kd.N_afterv (ok := (fun k_ => some k_ ≠ (v347 : Value).ownBlock ∧ some k_ ≠ (.slice (some ad351) t343.length co15 : Value).ownBlock ∧ some k_ ≠ (.slice Ao48 y360.length co48 : Value).ownBlock ∧ k_ ≠ gb338 ∧ k_ ≠ gb350)) (by (with_reducible repeat (first | apply Kd.N_alloc | apply Kd.N_drewN | apply Kd.N_drew)); exact Kd.N_mono (Kd.N_far (p := ⟨gb350, 0, none⟩) (Kd.N_mono HO_339000.out (fun k_ hk => (⟨hk, hk.1.2.2.2.2⟩ : _ ∧ k_ ≠ gb350))) (fun _ hk => hk.2) (.slice Ao48 y360.length co48)) (fun _ hk => ⟨⟨hk.1.1.1, ⟨hk.1.1.2.1, ⟨hk.1.2, ⟨hk.1.1.2.2.2.1, hk.1.1.2.2.2.2⟩⟩⟩⟩, hk.1.1.2.2.1⟩)) hg hat); have n2_ := Aside0.mk (Kd.R_after (ok := (fun _ => True)) (by (with_reducible repeat (first | apply Kd.R_alloc | apply Kd.R_drewN | apply Kd.R_drew)); exact Kd.R_mono (Kd.R_far (p := ⟨gb350, 0, none⟩) (Kd.R_types HO_339001.out BK350.out (by decide)) (fun _ hk => hk.2) (.slice Ao48 y360.length co48)) (fun _ hk => ⟨trivial, hk.1⟩)) hg hat); have n3_ := Aside0.mk (blk_grown (g := gb338) (o := .cells #[.slice (some ad359) t340.length co13, .slice (some ad351) t343.length co15] 25 (0, 0)) (by (with_reducible repeat (first | refine blk_drewN ?_ _ | refine blk_drew ?_ | refine blk_alloc ?_ _)); refine blk_far ?_ NB338_350.out _; (with_reducible repeat (first | refine blk_drewN ?_ _ | refine blk_drew ?_ | refine blk_alloc ?_ _)); exact BK338.out) hg (Kd.R_ne HO_351001.out BK338.out (by decide))); have n4_ := Aside0.mk (blk_grown (g := gb350) (o := .cells #[.slice Ao48 y360.length co48, u351001] 25 (0, 0)) (by (with_reducible repeat (first | refine blk_drewN ?_ _ | refine blk_drew ?_ | refine blk_alloc ?_ _)); refine blk_put (cs := #[u351000, u351001]) ?_ 0 _ rfl; (with_reducible repeat (first | refine blk_drewN ?_ _ | refine blk_drew ?_ | refine blk_alloc ?_ _)); exact BK350.out) hg (Kd.R_ne HO_351001.out BK350.out (by decide))); have n5_ := Aside0.mk (Kd.V_afterv (ok := (fun k_ => some k_ ≠ (v347 : Value).ownBlock ∧ some k_ ≠ (.slice (some ad359) t340.length co13 : Value).ownBlock ∧ some k_ ≠ (.slice (some ad351) t343.length co15 : Value).ownBlock ∧ some k_ ≠ (.slice Ao48 y360.length co48 : Value).ownBlock ∧ k_ ≠ gb338 ∧ k_ ≠ gb350)) (by (with_reducible repeat (first | apply Kd.V_alloc | apply Kd.V_drewN | apply Kd.V_drew)); exact Kd.V_mono (Kd.V_far (p := ⟨gb350, 0, none⟩) (Kd.V_mono HL359_0.out (fun k_ hk => (⟨hk, hk.1.2.2.2.2.2⟩ : _ ∧ k_ ≠ gb350))) (fun _ hk => hk.2) (.slice Ao48 y360.length co48)) (fun _ hk => ⟨⟨hk.1.1.1, ⟨hk.1.1.2.1, ⟨hk.1.1.2.2.1, ⟨hk.1.2, ⟨hk.1.1.2.2.2.2.1, hk.1.1.2.2.2.2.2⟩⟩⟩⟩⟩, hk.1.1.2.2.2.1⟩)) hg hat); have n6_ := Aside0.mk (Kd.N_afterv (ok := (fun k_ => some k_ ≠ (v347 : Value).ownBlock ∧ some k_ ≠ (.slice (some ad359) t340.length co13 : Value).ownBlock ∧ some k_ ≠ (.slice (some ad351) t343.length co15 : Value).ownBlock ∧ k_ ≠ gb338 ∧ k_ ≠ gb350)) (by (with_reducible repeat (first | apply Kd.N_alloc | apply Kd.N_drewN | apply Kd.N_drew)); exact Kd.N_mono (Kd.N_far (p := ⟨gb350, 0, none⟩) (Kd.N_mono HO362.out (fun k_ hk => (⟨hk, hk.2.2.2.2.2⟩ : _ ∧ k_ ≠ gb350))) (fun _ hk => hk.2) (.slice Ao48 y360.length co48)) (fun _ hk => ⟨⟨hk.1.1, ⟨hk.1.2.1, ⟨hk.1.2.2.1, ⟨hk.1.2.2.2.2.1, hk.1.2.2.2.2.2⟩⟩⟩⟩, hk.1.2.2.2.1⟩)) hg hat); have n7_ := Aside0.mk (hb); have n8_ := Aside0.mk (ho); clear HO_1; clear HO_339000; clear HO_339001; clear BK338; clear BK350; clear HL359_0; clear HO362; clear HB; clear HO_351001; have HO_1 := n0_; have HO_339000 := n1_; have HO_339001 := n2_; have BK338 := n3_; have BK350 := n4_; have HL359_0 := n5_; have HO362 := n6_; have HB := n7_; have HO365 := n8_; clear n0_ n1_ n2_ n3_ n4_ n5_ n6_ n7_ n8_; clear ho hb hg hat; obtain ⟨Ao52, co52, eo52⟩ := Kd.R_slice HO365.out; subst eo52; have hcz53_0 : w51.cell? ⟨gb350, 0, none⟩ = some (.slice Ao48 y360.length co48) := (blk_cell BK350.out 0).trans rfl; have hcz53_1 : w51.cell? ⟨gb350, 1, none⟩ = some (u351001) := (blk_cell BK350.out 1).trans rfl; have hfz53_0 := blk_frozen BK350.out 0; have hfz53_1 := blk_frozen BK350.out 1))
                        go_roundg k1
                        case measure => have := HK1.out; omega
                        case rel => exact ⟨(ji23), (y360), (y363), (.slice Ao48 y360.length co48), (.slice Ao52 y363.length co52), (by first | rfl | (simp; done) | (simp only [← hji23] <;> (first | rfl | simp)) | (simp [*]; done)), H', ⟨by have := HK1.out; omega⟩, ⟨by (with_reducible repeat (first | apply Kd.N_alloc | apply Kd.N_drewN | apply Kd.N_drew)); exact Kd.N_mono (Kd.N_far (p := ⟨gb350, 1, none⟩) (Kd.N_mono HO_1.out (fun k_ hk => (⟨hk, hk.1.2.2.2.2⟩ : _ ∧ k_ ≠ gb350))) (fun _ hk => hk.2) (.slice Ao52 y363.length co52)) (fun _ hk => ⟨hk.1.1.1, ⟨hk.1.1.2.1, ⟨hk.1.1.2.2.1, ⟨hk.1.2, ⟨hk.1.1.2.2.2.1, hk.1.1.2.2.2.2⟩⟩⟩⟩⟩)⟩, ⟨by (with_reducible repeat (first | apply Kd.N_alloc | apply Kd.N_drewN | apply Kd.N_drew)); exact Kd.N_mono (Kd.N_far (p := ⟨gb350, 1, none⟩) (Kd.N_mono HO_339000.out (fun k_ hk => (⟨hk, hk.1.2.2.2.2⟩ : _ ∧ k_ ≠ gb350))) (fun _ hk => hk.2) (.slice Ao52 y363.length co52)) (fun _ hk => ⟨hk.1.1.1, ⟨hk.1.1.2.1, ⟨hk.1.1.2.2.1, ⟨hk.1.2, ⟨hk.1.1.2.2.2.1, hk.1.1.2.2.2.2⟩⟩⟩⟩⟩)⟩, ⟨by (with_reducible repeat (first | apply Kd.R_alloc | apply Kd.R_drewN | apply Kd.R_drew)); exact Kd.R_mono (Kd.R_far (p := ⟨gb350, 1, none⟩) (Kd.R_types HO_339001.out BK350.out (by decide)) (fun _ hk => hk.2) (.slice Ao52 y363.length co52)) (fun _ hk => hk.1.2)⟩, ⟨by (with_reducible repeat (first | apply Kd.N_alloc | apply Kd.N_drewN | apply Kd.N_drew)); exact Kd.N_mono (Kd.N_far (p := ⟨gb350, 1, none⟩) (Kd.N_mono HO362.out (fun k_ hk => (⟨hk, hk.1.2.2.2.2⟩ : _ ∧ k_ ≠ gb350))) (fun _ hk => hk.2) (.slice Ao52 y363.length co52)) (fun _ hk => ⟨hk.1.1.1, ⟨hk.1.1.2.1, ⟨hk.1.1.2.2.1, ⟨hk.1.2, ⟨hk.1.1.2.2.2.1, hk.1.1.2.2.2.2⟩⟩⟩⟩⟩)⟩, ⟨by (with_reducible repeat (first | apply Kd.R_alloc | apply Kd.R_drewN | apply Kd.R_drew)); exact Kd.R_mono (Kd.R_far (p := ⟨gb350, 1, none⟩) (Kd.R_types HO365.out BK350.out (by decide)) (fun _ hk => hk.2) (.slice Ao52 y363.length co52)) (fun _ hk => hk.1)⟩, ⟨by (with_reducible repeat (first | refine blk_drewN ?_ _ | refine blk_drew ?_ | refine blk_alloc ?_ _)); refine blk_far ?_ NB338_350.out _; (with_reducible repeat (first | refine blk_drewN ?_ _ | refine blk_drew ?_ | refine blk_alloc ?_ _)); exact BK338.out⟩, ⟨by (with_reducible repeat (first | refine blk_drewN ?_ _ | refine blk_drew ?_ | refine blk_alloc ?_ _)); refine blk_put (cs := #[.slice Ao48 y360.length co48, u351001]) ?_ 1 _ rfl; (with_reducible repeat (first | refine blk_drewN ?_ _ | refine blk_drew ?_ | refine blk_alloc ?_ _)); exact BK350.out⟩, ⟨by repeat (first | (with_reducible first | exact HB.out | apply below_alloc | apply pw_below_drewN | apply below_drew1 | refine below_set ?_ GE338.out | refine below_set ?_ GE350.out) | exact HB.out)⟩⟩
                      · rw [if_neg c43] at H
                        exact absurd H (by simp)
                    · rw [if_neg c42] at H
                      exact absurd H (by simp)
                  · rw [if_neg c41] at H
                    exact absurd H (by simp)
              · rw [if_neg c26] at H
                have c26b0 : decide (0 ≤ (rd t343 (ji23))) = false := decide_eq_false c26
                clear c26
                by_cases c54 : (ji23) < (t340.length : Int)
                · rw [if_pos c54] at H
                  have c54b0 : decide ((ji23) < (t340.length : Int)) = true := decide_eq_true c54
                  clear c54
                  by_cases c55 : x351000_1.length < 5864062014805
                  · rw [if_pos c55] at H
                    have LMc55 := Aside0.mk c55
                    clear c55
                    obtain ⟨y367, hy367⟩ : ∃ y_ : List (List Int), y_ = (x351000_1 ++ [rd_L1 t340 (ji23)]) := ⟨_, rfl⟩
                    replace H : (if x351001_1.length < 17592186044416 then (arboristlaw12_ValidTurned.l0 k1 ji5 t346 t339 (t340.length : Int) ji23 t340 t343 y367 (x351001_1 ++ [rd t343 (ji23)])) else (none)) = some r := by first | (rw [hy367]; with_reducible exact H) | (have H2_ := (Option.bind_some _ _).symm.trans H; rw [hy367]; with_reducible exact H2_) | (have H2_ := (Option.bind_some _ _).symm.trans H; with_reducible exact H2_) | with_reducible exact H | (rw [hy367]; exact H) | exact H
                    have Ny367 := Aside0.mk hy367
                    clear hy367
                    by_cases c56 : x351001_1.length < 17592186044416
                    · rw [if_pos c56] at H
                      have LMc56 := Aside0.mk c56
                      clear c56
                      obtain ⟨y370, hy370⟩ : ∃ y_ : List Int, y_ = (x351001_1 ++ [rd t343 (ji23)]) := ⟨_, rfl⟩
                      replace H : (arboristlaw12_ValidTurned.l0 k1 ji5 t346 t339 (t340.length : Int) ji23 t340 t343 y367 y370) = some r := by first | (rw [hy370]; with_reducible exact H) | (have H2_ := (Option.bind_some _ _).symm.trans H; rw [hy370]; with_reducible exact H2_) | (have H2_ := (Option.bind_some _ _).symm.trans H; with_reducible exact H2_) | with_reducible exact H | (rw [hy370]; exact H) | exact H
                      have Ny370 := Aside0.mk hy370
                      clear hy370
                      have H' := Aside0.mk H
                      clear H
                      have hnb57 := NB338_350.out
                      have hnc57 := NB350_338.out
                      have hcz58_0 : wr.cell? ⟨gb338, 0, none⟩ = some (.slice Ao13 t340.length co13) := (blk_cell BK338.out 0).trans rfl
                      have hcz58_1 : wr.cell? ⟨gb338, 1, none⟩ = some (.slice Ao15 t343.length co15) := (blk_cell BK338.out 1).trans rfl
                      have hfz58_0 := blk_frozen BK338.out 0
                      have hfz58_1 := blk_frozen BK338.out 1
                      have p351 : 0 ≤ ((ji23) : Int) := of_decide_eq_true (by first | (with_reducible assumption) | assumption)
                      have q351 : (ji23) < (t343.length : Int) := of_decide_eq_true (by first | (with_reducible assumption) | assumption)
                      obtain ⟨ad351, e351, hx351_0⟩ := Kd.at_int (Kd.R_reads' HO_339001.out).2.2 (ji23) p351 q351
                      cases e351
                      replace p351 := eq_true p351
                      replace q351 := eq_true q351
                      try go_wp2
                      have n0_ := Aside0.mk (Kd.N_drew HO_1.out)
                      have n1_ := Aside0.mk (Kd.N_drew HO_339000.out)
                      have n2_ := Aside0.mk (Kd.R_drew HO_339001.out)
                      have n3_ := Aside0.mk (Kd.N_drew HO_351000.out)
                      have n4_ := Aside0.mk (Kd.R_drew HO_351001.out)
                      have n5_ := Aside0.mk (blk_drew BK338.out)
                      have n6_ := Aside0.mk (blk_drew BK350.out)
                      have n7_ := Aside0.mk (below_drew1 HB.out)
                      clear HO_1
                      clear HO_339000
                      clear HO_339001
                      clear HO_351000
                      clear HO_351001
                      clear BK338
                      clear BK350
                      clear HB
                      have HO_1 := n0_
                      have HO_339000 := n1_
                      have HO_339001 := n2_
                      have HO_351000 := n3_
                      have HO_351001 := n4_
                      have BK338 := n5_
                      have BK350 := n6_
                      have HB := n7_
                      clear n0_ n1_ n2_ n3_ n4_ n5_ n6_ n7_
                      have p366 : 0 ≤ ((ji23) : Int) := of_decide_eq_true (by first | (with_reducible assumption) | assumption)
                      have q366 : (ji23) < (t340.length : Int) := of_decide_eq_true (by first | (with_reducible assumption) | assumption)
                      obtain ⟨ad366, A366_0, c366_0, e366, hx366_0, hl366_0, hi366_0⟩ := at_L1 (Kd.N_reads' HO_339000.out).2.2 (ji23) p366 q366
                      cases e366
                      obtain ⟨ce366, hce366, hMe366, hcc366⟩ := Kd.N_get HO_339000.out [] (ji23) p366 (by first | exact q366 | exact of_decide_eq_true (by first | (with_reducible assumption) | assumption) | (have e_ := (Kd.N_reads' HO_339000.out).1; omega))
                      obtain ⟨ua366_0, uc366_0, rfl, ul366_0, ge366_0⟩ := Kd.FK_slice_open hMe366
                      have hv366_0 := hcc366 0 _ rfl
                      rw [Nat.add_zero, show ((Kd.slice 3 (Kd.int .i64))).sz = 1 from rfl, Nat.mul_one] at hv366_0
                      replace hv366_0 := Option.some.inj (hv366_0.symm.trans hx366_0)
                      injection hv366_0 with hva_ hvn_ hvc_
                      rw [hva_] at ge366_0
                      rw [hvc_] at ul366_0
                      have HL366_0 := Aside0.mk (show Kd.V (Kd.int .i64) 3 _ w.heap.size _ _ (rd_L1 t340 (ji23)) from Kd.V_mk ul366_0 ge366_0)
                      clear hva_ hvn_ hvc_ ge366_0 ul366_0
                      clear hcc366 hce366
                      have HR366_0 := Aside0.mk hi366_0
                      have HC366_0 := Aside0.mk hl366_0
                      clear hi366_0 hl366_0
                      replace p366 := eq_true p366
                      replace q366 := eq_true q366
                      refine start_ (n := 12) (S := fun w' => w'.cell? ⟨gb350, 0, none⟩ = some (u351000) ∧ w'.cell? ⟨gb350, 1, none⟩ = some (u351001) ∧ w'.cell? ⟨gb338, 0, none⟩ = some (.slice (some ad366) t340.length co13) ∧ w'.cell? ⟨gb338, 1, none⟩ = some (.slice (some ad351) t343.length co15) ∧ w'.cell? (ad366.add ((ji23)).toNat) = some (.slice A366_0 (rd_L1 t340 (ji23)).length c366_0)) (ds := [9, 11]) (bs 12 0) (by kernel_rfl) rfl rfl ⟨(blk_cell BK350.out 0).trans rfl, (blk_cell BK350.out 1).trans rfl, (blk_cell BK338.out 0).trans rfl, (blk_cell BK338.out 1).trans rfl, hx366_0⟩ (fun hHeld => ?_); refine with_tabW arboristlaw12_ValidTurned.tab15 arboristlaw12_ValidTurned.bits15 (fun HT_ HW_ => ?_)
                      generalize wr.drew = w59 at HO_1 HO_339000 HO_339001 HO_351000 HO_351001 BK338 BK350 HB HL366_0 HR366_0 hx366_0 hHeld ⊢
                      refine pure_ (i := 0) (N := some 56) (v := ?_) (a' := ?_) (bs 12 1) rfl rfl (any_of HT_.out (by kernel_rfl)) (fun _ _ _ h => h) (Or.inl ⟨by rfl, ?_⟩) ?_ ?_
                      rotate_left; (intro w'; go_simp; with_reducible rfl); rotate_left; (simp only [Act.put, List.setIfInBounds_toArray, List.set_cons_zero, List.set_cons_succ, i64_w, i32_w]; rfl)
                      refine pure_ (i := 2) (N := some 58) (v := ?_) (a' := ?_) (bs 12 5) rfl rfl (any_of HT_.out (by kernel_rfl)) (fun _ _ _ h => h) (Or.inl ⟨by rfl, ?_⟩) ?_ ?_
                      rotate_left; (intro w'; go_simp; with_reducible rfl); rotate_left; (simp only [Act.put, List.setIfInBounds_toArray, List.set_cons_zero, List.set_cons_succ, i64_w, i32_w]; rfl)
                      refine pure_ (i := 4) (N := some 60) (v := ?_) (a' := ?_) (bs 12 21) rfl rfl (any_of HT_.out (by kernel_rfl)) (fun _ _ _ h => h) (Or.inl ⟨by rfl, ?_⟩) ?_ ?_
                      rotate_left; (intro w'; go_simp; with_reducible rfl); rotate_left; (simp only [Act.put, List.setIfInBounds_toArray, List.set_cons_zero, List.set_cons_succ, i64_w, i32_w]; rfl)
                      refine pure_ (i := 5) (N := some 61) (v := ?_) (a' := ?_) (bs 12 53) rfl rfl (any_of HT_.out (by kernel_rfl)) (fun _ _ _ h => h) (Or.inl ⟨by rfl, ?_⟩) ?_ ?_
                      rotate_left; (intro w'; go_simp; with_reducible rfl); rotate_left; (simp only [Act.put, List.setIfInBounds_toArray, List.set_cons_zero, List.set_cons_succ, i64_w, i32_w]; rfl)
                      refine take_ (i := 1) (N := some 57) (v := ?_) (a' := ?_) (bs 12 55) rfl rfl (take_ofW HT_.out HW_.out (by kernel_rfl)) (fun _ _ _ h => h) (Or.inl ⟨by rfl, ?_⟩) hHeld ?_ ?_
                      rotate_left
                      · rintro w' ⟨s0, s1, s2, s3, s4⟩
                        go_simp
                        with_reducible rfl
                      rotate_left; (simp only [Act.put, List.setIfInBounds_toArray, List.set_cons_zero, List.set_cons_succ, i64_w, i32_w]; rfl)
                      refine take_ (i := 3) (N := some 59) (v := ?_) (a' := ?_) (bs 12 63) rfl rfl (take_ofW HT_.out HW_.out (by kernel_rfl)) (fun _ _ _ h => h) (Or.inl ⟨by rfl, ?_⟩) hHeld ?_ ?_
                      rotate_left
                      · rintro w' ⟨s0, s1, s2, s3, s4⟩
                        go_simp
                        with_reducible rfl
                      rotate_left; (simp only [Act.put, List.setIfInBounds_toArray, List.set_cons_zero, List.set_cons_succ, i64_w, i32_w]; rfl)
                      refine pure_ (i := 6) (N := some 62) (v := ?_) (a' := ?_) (bs 12 127) rfl rfl (any_of HT_.out (by kernel_rfl)) (fun _ _ _ h => h) (Or.inl ⟨by rfl, ?_⟩) ?_ ?_
                      rotate_left; (intro w'; go_simp; with_reducible rfl); rotate_left; (simp only [Act.put, List.setIfInBounds_toArray, List.set_cons_zero, List.set_cons_succ, i64_w, i32_w]; rfl)
                      refine take_ (i := 7) (N := some 63) (v := ?_) (a' := ?_) (bs 12 255) rfl rfl (take_ofW HT_.out HW_.out (by kernel_rfl)) (fun _ _ _ h => h) (Or.inl ⟨by rfl, ?_⟩) hHeld ?_ ?_
                      rotate_left
                      · rintro w' ⟨s0, s1, s2, s3, s4⟩
                        go_simp
                        with_reducible rfl
                      rotate_left; (simp only [Act.put, List.setIfInBounds_toArray, List.set_cons_zero, List.set_cons_succ, i64_w, i32_w]; rfl)
                      refine one_ (i := 8) (N := some 64) (bs 12 511) rfl rfl (one_of HT_.out (by kernel_rfl)) (by decide) (fun K hK => ?_)
                      refine value_ (w1 := ?_) (v := ?_) (by rfl) rfl ?_ ?_
                      rotate_left 2
                      · go_simp
                        constructor
                        · rfl
                        · rfl
                      refine hK.out _ _ ⟨(blk_cell (blk_alloc BK350.out _) 0).trans rfl, (blk_cell (blk_alloc BK350.out _) 1).trans rfl, (blk_cell (blk_alloc BK338.out _) 0).trans rfl, (blk_cell (blk_alloc BK338.out _) 1).trans rfl, (World.cell?_alloc_lt _ _ _ (World.block_lt_of_cell? _ _ (hHeld.2.2.2.2))).trans (hHeld.2.2.2.2)⟩ (fun hHeld => ?_)
                      clear hK K
                      refine norm_ (a' := ?_) ?_ ?_
                      rotate_left
                      · show Act.put _ (some 64) _ = _
                        simp only [Act.put, List.setIfInBounds_toArray, List.set_cons_zero, List.set_cons_succ, i64_w, i32_w]
                        rfl
                      refine last_ (i := 9) (N := some 65) (bs 12 1023) rfl rfl (one_of HT_.out (by kernel_rfl)) (by decide) (fun K hK => ?_)
                      refine Kd.N_append_step (Kd.slice 3 (Kd.int .i64)) (w0 := w) w.heap.size (by rfl) (.tmp 57) (.tmp 64) 22 23 (.slice none 0 0) 24 rfl Try.underlying22 info23 rfl (by decide) (by omega) u351000 x351000_1 (rd_L1 t340 (ji23)) [.slice A366_0 (rd_L1 t340 (ji23)).length c366_0] (fun k_ => some k_ ≠ (v347 : Value).ownBlock ∧ some k_ ≠ (.slice (some ad366) t340.length co13 : Value).ownBlock ∧ some k_ ≠ (.slice (some ad351) t343.length co15 : Value).ownBlock ∧ some k_ ≠ (u351001 : Value).ownBlock ∧ k_ ≠ gb338 ∧ k_ ≠ gb350) (fun k_ => ((fun k_ => some k_ ≠ (v347 : Value).ownBlock ∧ some k_ ≠ (.slice (some ad366) t340.length co13 : Value).ownBlock ∧ some k_ ≠ (.slice (some ad351) t343.length co15 : Value).ownBlock ∧ some k_ ≠ (u351001 : Value).ownBlock ∧ k_ ≠ gb338 ∧ k_ ≠ gb350)) k_ ∧ some k_ ≠ (u351000 : Value).ownBlock) rfl rfl ?aP (fun _ hk => hk) ?aF ?aO ?aB ?aS ?aL ?_
                      (case aP => exact (Kd.FK_slice_mk (Kd.V_reads' (Kd.V_mono (ok' := (fun k_ => ((fun k_ => some k_ ≠ (v347 : Value).ownBlock ∧ some k_ ≠ (.slice (some ad366) t340.length co13 : Value).ownBlock ∧ some k_ ≠ (.slice (some ad351) t343.length co15 : Value).ownBlock ∧ some k_ ≠ (u351001 : Value).ownBlock ∧ k_ ≠ gb338 ∧ k_ ≠ gb350)) k_ ∧ some k_ ≠ (u351000 : Value).ownBlock)) (HL366_0.out) (fun k_ hk => ⟨⟨hk.1.1, ⟨hk.2, ⟨hk.1.2.1, ⟨hk.1.2.2.2.1, ⟨hk.1.2.2.2.2.1, hk.1.2.2.2.2.2⟩⟩⟩⟩⟩, hk.1.2.2.1⟩))).2.1 (Kd.V_F (Kd.V_mono (ok' := (fun k_ => ((fun k_ => some k_ ≠ (v347 : Value).ownBlock ∧ some k_ ≠ (.slice (some ad366) t340.length co13 : Value).ownBlock ∧ some k_ ≠ (.slice (some ad351) t343.length co15 : Value).ownBlock ∧ some k_ ≠ (u351001 : Value).ownBlock ∧ k_ ≠ gb338 ∧ k_ ≠ gb350)) k_ ∧ some k_ ≠ (u351000 : Value).ownBlock)) (HL366_0.out) (fun k_ hk => ⟨⟨hk.1.1, ⟨hk.2, ⟨hk.1.2.1, ⟨hk.1.2.2.2.1, ⟨hk.1.2.2.2.2.1, hk.1.2.2.2.2.2⟩⟩⟩⟩⟩, hk.1.2.2.1⟩)))))
                      (case aB => exact (by repeat (first | (with_reducible first | exact HB.out | apply below_alloc | apply pw_below_drewN | apply below_drew1 | refine below_set ?_ GE338.out | refine below_set ?_ GE350.out) | exact HB.out)))
                      (case aF => exact (fun k_ hk => ⟨Kd.fresh' (Kd.N_lt (by (with_reducible repeat (first | apply Kd.N_alloc | apply Kd.N_drewN | apply Kd.N_drew)); exact HO_1.out)) k_ hk, Kd.fresh' (Kd.N_lt (by (with_reducible repeat (first | apply Kd.N_alloc | apply Kd.N_drewN | apply Kd.N_drew)); exact HO_339000.out)) k_ hk, Kd.fresh' (Kd.R_lt (by (with_reducible repeat (first | apply Kd.R_alloc | apply Kd.R_drewN | apply Kd.R_drew)); exact HO_339001.out)) k_ hk, Kd.fresh' (Kd.R_lt (by (with_reducible repeat (first | apply Kd.R_alloc | apply Kd.R_drewN | apply Kd.R_drew)); exact HO_351001.out)) k_ hk, Kd.freshB (g := gb338) (o := .cells #[.slice (some ad366) t340.length co13, .slice (some ad351) t343.length co15] 25 (0, 0)) (by (with_reducible repeat (first | refine blk_drewN ?_ _ | refine blk_drew ?_ | refine blk_alloc ?_ _)); exact BK338.out) k_ hk, Kd.freshB (g := gb350) (o := .cells #[u351000, u351001] 25 (0, 0)) (by (with_reducible repeat (first | refine blk_drewN ?_ _ | refine blk_drew ?_ | refine blk_alloc ?_ _)); exact BK350.out) k_ hk⟩))
                      (case aO => exact (by (with_reducible repeat (first | apply Kd.N_alloc | apply Kd.N_drewN | apply Kd.N_drew)); exact HO_351000.out))
                      (case aS => exact (below_size (by repeat (first | (with_reducible first | exact HB.out | apply below_alloc | apply pw_below_drewN | apply below_drew1 | refine below_set ?_ GE338.out | refine below_set ?_ GE350.out) | exact HB.out))))
                      (case aL => have := LMc55.out; omega)
                      intro v368 w60 ho hb hg hat
                      rw [← Ny367.out] at ho
                      have n0_ := Aside0.mk (Kd.N_afterv (ok := (fun k_ => some k_ ≠ (.slice (some ad366) t340.length co13 : Value).ownBlock ∧ some k_ ≠ (.slice (some ad351) t343.length co15 : Value).ownBlock ∧ some k_ ≠ (u351001 : Value).ownBlock ∧ k_ ≠ gb338 ∧ k_ ≠ gb350)) (by (with_reducible repeat (first | apply Kd.N_alloc | apply Kd.N_drewN | apply Kd.N_drew)); exact Kd.N_mono HO_1.out (fun _ hk => ⟨⟨hk.1, ⟨hk.2.1, ⟨hk.2.2.2.1, ⟨hk.2.2.2.2.1, hk.2.2.2.2.2⟩⟩⟩⟩, hk.2.2.1⟩)) hg hat)
                      have n1_ := Aside0.mk (Kd.N_afterv (ok := (fun k_ => some k_ ≠ (v347 : Value).ownBlock ∧ some k_ ≠ (.slice (some ad351) t343.length co15 : Value).ownBlock ∧ some k_ ≠ (u351001 : Value).ownBlock ∧ k_ ≠ gb338 ∧ k_ ≠ gb350)) (by (with_reducible repeat (first | apply Kd.N_alloc | apply Kd.N_drewN | apply Kd.N_drew)); exact Kd.N_mono HO_339000.out (fun _ hk => ⟨⟨hk.1, ⟨hk.2.1, ⟨hk.2.2.2.1, ⟨hk.2.2.2.2.1, hk.2.2.2.2.2⟩⟩⟩⟩, hk.2.2.1⟩)) hg hat)
                      have n2_ := Aside0.mk (Kd.R_over' (by (with_reducible repeat (first | apply Kd.R_alloc | apply Kd.R_drewN | apply Kd.R_drew)); exact HO_339001.out) (Kd.N_typed (by (with_reducible repeat (first | apply Kd.N_alloc | apply Kd.N_drewN | apply Kd.N_drew)); exact HO_351000.out)) (by decide) hg)
                      have n3_ := Aside0.mk (Kd.R_over' (by (with_reducible repeat (first | apply Kd.R_alloc | apply Kd.R_drewN | apply Kd.R_drew)); exact HO_351001.out) (Kd.N_typed (by (with_reducible repeat (first | apply Kd.N_alloc | apply Kd.N_drewN | apply Kd.N_drew)); exact HO_351000.out)) (by decide) hg)
                      have n4_ := Aside0.mk (blk_grown (g := gb338) (o := .cells #[.slice (some ad366) t340.length co13, .slice (some ad351) t343.length co15] 25 (0, 0)) (by (with_reducible repeat (first | refine blk_drewN ?_ _ | refine blk_drew ?_ | refine blk_alloc ?_ _)); exact BK338.out) hg (Kd.N_ne HO_351000.out BK338.out (by decide)))
                      have n5_ := Aside0.mk (blk_grown (g := gb350) (o := .cells #[u351000, u351001] 25 (0, 0)) (by (with_reducible repeat (first | refine blk_drewN ?_ _ | refine blk_drew ?_ | refine blk_alloc ?_ _)); exact BK350.out) hg (Kd.N_ne HO_351000.out BK350.out (by decide)))
                      have n6_ := Aside0.mk (Kd.V_afterv (ok := (fun k_ => some k_ ≠ (v347 : Value).ownBlock ∧ some k_ ≠ (.slice (some ad366) t340.length co13 : Value).ownBlock ∧ some k_ ≠ (.slice (some ad351) t343.length co15 : Value).ownBlock ∧ some k_ ≠ (u351001 : Value).ownBlock ∧ k_ ≠ gb338 ∧ k_ ≠ gb350)) (by (with_reducible repeat (first | apply Kd.V_alloc | apply Kd.V_drewN | apply Kd.V_drew)); exact Kd.V_mono HL366_0.out (fun _ hk => ⟨⟨hk.1.1, ⟨hk.2, ⟨hk.1.2.1, ⟨hk.1.2.2.2.1, ⟨hk.1.2.2.2.2.1, hk.1.2.2.2.2.2⟩⟩⟩⟩⟩, hk.1.2.2.1⟩)) hg hat)
                      have n7_ := Aside0.mk (hb)
                      have n8_ := Aside0.mk (ho)
                      clear HO_1
                      clear HO_339000
                      clear HO_339001
                      clear HO_351001
                      clear BK338
                      clear BK350
                      clear HL366_0
                      clear HB
                      clear HO_351000
                      have HO_1 := n0_
                      have HO_339000 := n1_
                      have HO_339001 := n2_
                      have HO_351001 := n3_
                      have BK338 := n4_
                      have BK350 := n5_
                      have HL366_0 := n6_
                      have HB := n7_
                      have HO369 := n8_
                      clear n0_ n1_ n2_ n3_ n4_ n5_ n6_ n7_ n8_
                      clear ho hb hg hat
                      obtain ⟨Ao61, co61, eo61⟩ := Kd.N_slice HO369.out
                      (first | subst eo61 | (injection eo61 with f1_ f2_ f3_; have f4_ := f1_.symm; have f5_ := f3_.symm; clear f1_ f2_ f3_; subst f4_; subst f5_))
                      refine hK.out _ _ ?_
                      clear hK K
                      refine norm_ (a' := ?_) ?_ ?_
                      rotate_left
                      · show Act.put _ (some 65) _ = _
                        simp only [Act.put, List.setIfInBounds_toArray, List.set_cons_zero, List.set_cons_succ, i64_w, i32_w]
                        rfl
                      refine pure_ (i := 10) (N := some 66) (v := ?_) (a' := ?_) (bs 12 2047) rfl rfl (any_of HT_.out (by kernel_rfl)) (fun _ _ _ h => h) (Or.inl ⟨by rfl, ?_⟩) ?_ ?_
                      rotate_left; (intro w'; go_simp; with_reducible rfl); rotate_left; (simp only [Act.put, List.setIfInBounds_toArray, List.set_cons_zero, List.set_cons_succ, i64_w, i32_w]; rfl)
                      refine last_ (i := 11) (N := none) (bs 12 4095) rfl rfl (one_of HT_.out (by kernel_rfl)) (by decide) (fun K hK => ?_)
                      have hs62 : w60.cell? ⟨gb350, 0, none⟩ = some (u351000) := (blk_cell BK350.out 0).trans rfl
                      have hfs62 := blk_frozen BK350.out 0
                      have hns62_0 := NB338_350.out
                      have hms62_0 := NB350_338.out
                      refine skip_ (w1 := ?_) (by rfl) rfl ?_ ?_
                      rotate_left
                      · go_simp
                        rfl
                      refine hK.out _ _ ?_
                      clear hK K
                      refine done_ (done_of HT_.out (by kernel_rfl)) ?_
                      have hcz63_0 : w60.cell? ⟨gb350, 0, none⟩ = some (u351000) := (blk_cell BK350.out 0).trans rfl
                      have hcz63_1 : w60.cell? ⟨gb350, 1, none⟩ = some (u351001) := (blk_cell BK350.out 1).trans rfl
                      have hfz63_0 := blk_frozen BK350.out 0
                      have hfz63_1 := blk_frozen BK350.out 1
                      try go_wp2_with (first | ((with_reducible refine gate_builtin (b := .append) (xs := #[.tmp 68, .tmp 70]) rfl ?_); at_builtin; refine Kd.R_append (Kd.int .i64) (w0 := w) w.heap.size rfl (.tmp 68) (.tmp 70) 23 3 (.int .i64 0) 8 rfl Try.underlying23 info3 rfl (by decide) (by omega) u351001 x351001_1 (rd t343 (ji23)) [.int .i64 (rd t343 (ji23))] (fun k_ => some k_ ≠ (.slice (some ad351) t343.length co15 : Value).ownBlock) (fun _ => False) rfl (by first | (go_simp; done) | (go_simp; rfl)) ?aP (fun _ hk => hk.elim) ?aF ?aO ?aB ?aS ?aL ?_; (case aP => exact rfl); (case aB => exact (by repeat (first | (with_reducible first | exact HB.out | apply below_alloc | apply pw_below_drewN | apply below_drew1 | refine below_set ?_ GE338.out | refine below_set ?_ GE350.out) | exact HB.out))); (case aF => exact (fun k_ hk => Kd.fresh' (Kd.R_lt (by (with_reducible repeat (first | apply Kd.R_alloc | apply Kd.R_drewN | apply Kd.R_drew)); exact (Kd.R_mono (Kd.R_far (p := ⟨gb350, 0, none⟩) (Kd.R_types HO_339001.out BK350.out (by decide)) (fun _ hk => hk.2) (.slice Ao61 y367.length co61)) (fun _ h_ => h_.1)))) k_ hk)); (case aO => exact (by (with_reducible repeat (first | apply Kd.R_alloc | apply Kd.R_drewN | apply Kd.R_drew)); exact Kd.R_mono (Kd.R_far (p := ⟨gb350, 0, none⟩) (Kd.R_types HO_351001.out BK350.out (by decide)) (fun _ hk => hk.2) (.slice Ao61 y367.length co61)) (fun _ hk => hk.1))); (case aS => exact (below_size (by repeat (first | (with_reducible first | exact HB.out | apply below_alloc | apply pw_below_drewN | apply below_drew1 | refine below_set ?_ GE338.out | refine below_set ?_ GE350.out) | exact HB.out)))); (case aL => have := LMc56.out; omega); intro v371 w64 ho hb hg hat; rw [← Ny370.out] at ho; have n0_ := Aside0.mk (Kd.N_afterv (ok := (fun k_ => some k_ ≠ (.slice (some ad366) t340.length co13 : Value).ownBlock ∧ some k_ ≠ (.slice (some ad351) t343.length co15 : Value).ownBlock ∧ some k_ ≠ (.slice Ao61 y367.length co61 : Value).ownBlock ∧ k_ ≠ gb338 ∧ k_ ≠ gb350)) (by (with_reducible repeat (first | apply Kd.N_alloc | apply Kd.N_drewN | apply Kd.N_drew)); exact Kd.N_mono (Kd.N_far (p := ⟨gb350, 0, none⟩) (Kd.N_mono HO_1.out (fun k_ hk => (⟨hk, hk.1.2.2.2.2⟩ : _ ∧ k_ ≠ gb350))) (fun _ hk => hk.2) (.slice Ao61 y367.length co61)) (fun _ hk => ⟨⟨hk.1.1.1, ⟨hk.1.1.2.1, ⟨hk.1.2, ⟨hk.1.1.2.2.2.1, hk.1.1.2.2.2.2⟩⟩⟩⟩, hk.1.1.2.2.1⟩)) hg hat); have n1_ := Aside0.mk (Kd.N_afterv (ok := (fun k_ => some k_ ≠ (v347 : Value).ownBlock ∧ some k_ ≠ (.slice (some ad351) t343.length co15 : Value).ownBlock ∧ some k_ ≠ (.slice Ao61 y367.length co61 : Value).ownBlock ∧ k_ ≠ gb338 ∧ k_ ≠ gb350)) (by (with_reducible repeat (first | apply Kd.N_alloc | apply Kd.N_drewN | apply Kd.N_drew)); exact Kd.N_mono (Kd.N_far (p := ⟨gb350, 0, none⟩) (Kd.N_mono HO_339000.out (fun k_ hk => (⟨hk, hk.1.2.2.2.2⟩ : _ ∧ k_ ≠ gb350))) (fun _ hk => hk.2) (.slice Ao61 y367.length co61)) (fun _ hk => ⟨⟨hk.1.1.1, ⟨hk.1.1.2.1, ⟨hk.1.2, ⟨hk.1.1.2.2.2.1, hk.1.1.2.2.2.2⟩⟩⟩⟩, hk.1.1.2.2.1⟩)) hg hat); have n2_ := Aside0.mk (Kd.R_after (ok := (fun _ => True)) (by (with_reducible repeat (first | apply Kd.R_alloc | apply Kd.R_drewN | apply Kd.R_drew)); exact Kd.R_mono (Kd.R_far (p := ⟨gb350, 0, none⟩) (Kd.R_types HO_339001.out BK350.out (by decide)) (fun _ hk => hk.2) (.slice Ao61 y367.length co61)) (fun _ hk => ⟨trivial, hk.1⟩)) hg hat); have n3_ := Aside0.mk (blk_grown (g := gb338) (o := .cells #[.slice (some ad366) t340.length co13, .slice (some ad351) t343.length co15] 25 (0, 0)) (by (with_reducible repeat (first | refine blk_drewN ?_ _ | refine blk_drew ?_ | refine blk_alloc ?_ _)); refine blk_far ?_ NB338_350.out _; (with_reducible repeat (first | refine blk_drewN ?_ _ | refine blk_drew ?_ | refine blk_alloc ?_ _)); exact BK338.out) hg (Kd.R_ne HO_351001.out BK338.out (by decide))); have n4_ := Aside0.mk (blk_grown (g := gb350) (o := .cells #[.slice Ao61 y367.length co61, u351001] 25 (0, 0)) (by (with_reducible repeat (first | refine blk_drewN ?_ _ | refine blk_drew ?_ | refine blk_alloc ?_ _)); refine blk_put (cs := #[u351000, u351001]) ?_ 0 _ rfl; (with_reducible repeat (first | refine blk_drewN ?_ _ | refine blk_drew ?_ | refine blk_alloc ?_ _)); exact BK350.out) hg (Kd.R_ne HO_351001.out BK350.out (by decide))); have n5_ := Aside0.mk (Kd.V_afterv (ok := (fun k_ => some k_ ≠ (v347 : Value).ownBlock ∧ some k_ ≠ (.slice (some ad366) t340.length co13 : Value).ownBlock ∧ some k_ ≠ (.slice (some ad351) t343.length co15 : Value).ownBlock ∧ some k_ ≠ (.slice Ao61 y367.length co61 : Value).ownBlock ∧ k_ ≠ gb338 ∧ k_ ≠ gb350)) (by (with_reducible repeat (first | apply Kd.V_alloc | apply Kd.V_drewN | apply Kd.V_drew)); exact Kd.V_mono (Kd.V_far (p := ⟨gb350, 0, none⟩) (Kd.V_mono HL366_0.out (fun k_ hk => (⟨hk, hk.1.2.2.2.2.2⟩ : _ ∧ k_ ≠ gb350))) (fun _ hk => hk.2) (.slice Ao61 y367.length co61)) (fun _ hk => ⟨⟨hk.1.1.1, ⟨hk.1.1.2.1, ⟨hk.1.1.2.2.1, ⟨hk.1.2, ⟨hk.1.1.2.2.2.2.1, hk.1.1.2.2.2.2.2⟩⟩⟩⟩⟩, hk.1.1.2.2.2.1⟩)) hg hat); have n6_ := Aside0.mk (Kd.N_afterv (ok := (fun k_ => some k_ ≠ (v347 : Value).ownBlock ∧ some k_ ≠ (.slice (some ad366) t340.length co13 : Value).ownBlock ∧ some k_ ≠ (.slice (some ad351) t343.length co15 : Value).ownBlock ∧ k_ ≠ gb338 ∧ k_ ≠ gb350)) (by (with_reducible repeat (first | apply Kd.N_alloc | apply Kd.N_drewN | apply Kd.N_drew)); exact Kd.N_mono (Kd.N_far (p := ⟨gb350, 0, none⟩) (Kd.N_mono HO369.out (fun k_ hk => (⟨hk, hk.2.2.2.2.2⟩ : _ ∧ k_ ≠ gb350))) (fun _ hk => hk.2) (.slice Ao61 y367.length co61)) (fun _ hk => ⟨⟨hk.1.1, ⟨hk.1.2.1, ⟨hk.1.2.2.1, ⟨hk.1.2.2.2.2.1, hk.1.2.2.2.2.2⟩⟩⟩⟩, hk.1.2.2.2.1⟩)) hg hat); have n7_ := Aside0.mk (hb); have n8_ := Aside0.mk (ho); clear HO_1; clear HO_339000; clear HO_339001; clear BK338; clear BK350; clear HL366_0; clear HO369; clear HB; clear HO_351001; have HO_1 := n0_; have HO_339000 := n1_; have HO_339001 := n2_; have BK338 := n3_; have BK350 := n4_; have HL366_0 := n5_; have HO369 := n6_; have HB := n7_; have HO372 := n8_; clear n0_ n1_ n2_ n3_ n4_ n5_ n6_ n7_ n8_; clear ho hb hg hat; obtain ⟨Ao65, co65, eo65⟩ := Kd.R_slice HO372.out; subst eo65; have hcz66_0 : w64.cell? ⟨gb350, 0, none⟩ = some (.slice Ao61 y367.length co61) := (blk_cell BK350.out 0).trans rfl; have hcz66_1 : w64.cell? ⟨gb350, 1, none⟩ = some (u351001) := (blk_cell BK350.out 1).trans rfl; have hfz66_0 := blk_frozen BK350.out 0; have hfz66_1 := blk_frozen BK350.out 1))
                      go_roundg k1
                      case measure => have := HK1.out; omega
                      case rel => exact ⟨(ji23), (y367), (y370), (.slice Ao61 y367.length co61), (.slice Ao65 y370.length co65), (by first | rfl | (simp; done) | (simp only [← hji23] <;> (first | rfl | simp)) | (simp [*]; done)), H', ⟨by have := HK1.out; omega⟩, ⟨by (with_reducible repeat (first | apply Kd.N_alloc | apply Kd.N_drewN | apply Kd.N_drew)); exact Kd.N_mono (Kd.N_far (p := ⟨gb350, 1, none⟩) (Kd.N_mono HO_1.out (fun k_ hk => (⟨hk, hk.1.2.2.2.2⟩ : _ ∧ k_ ≠ gb350))) (fun _ hk => hk.2) (.slice Ao65 y370.length co65)) (fun _ hk => ⟨hk.1.1.1, ⟨hk.1.1.2.1, ⟨hk.1.1.2.2.1, ⟨hk.1.2, ⟨hk.1.1.2.2.2.1, hk.1.1.2.2.2.2⟩⟩⟩⟩⟩)⟩, ⟨by (with_reducible repeat (first | apply Kd.N_alloc | apply Kd.N_drewN | apply Kd.N_drew)); exact Kd.N_mono (Kd.N_far (p := ⟨gb350, 1, none⟩) (Kd.N_mono HO_339000.out (fun k_ hk => (⟨hk, hk.1.2.2.2.2⟩ : _ ∧ k_ ≠ gb350))) (fun _ hk => hk.2) (.slice Ao65 y370.length co65)) (fun _ hk => ⟨hk.1.1.1, ⟨hk.1.1.2.1, ⟨hk.1.1.2.2.1, ⟨hk.1.2, ⟨hk.1.1.2.2.2.1, hk.1.1.2.2.2.2⟩⟩⟩⟩⟩)⟩, ⟨by (with_reducible repeat (first | apply Kd.R_alloc | apply Kd.R_drewN | apply Kd.R_drew)); exact Kd.R_mono (Kd.R_far (p := ⟨gb350, 1, none⟩) (Kd.R_types HO_339001.out BK350.out (by decide)) (fun _ hk => hk.2) (.slice Ao65 y370.length co65)) (fun _ hk => hk.1.2)⟩, ⟨by (with_reducible repeat (first | apply Kd.N_alloc | apply Kd.N_drewN | apply Kd.N_drew)); exact Kd.N_mono (Kd.N_far (p := ⟨gb350, 1, none⟩) (Kd.N_mono HO369.out (fun k_ hk => (⟨hk, hk.1.2.2.2.2⟩ : _ ∧ k_ ≠ gb350))) (fun _ hk => hk.2) (.slice Ao65 y370.length co65)) (fun _ hk => ⟨hk.1.1.1, ⟨hk.1.1.2.1, ⟨hk.1.1.2.2.1, ⟨hk.1.2, ⟨hk.1.1.2.2.2.1, hk.1.1.2.2.2.2⟩⟩⟩⟩⟩)⟩, ⟨by (with_reducible repeat (first | apply Kd.R_alloc | apply Kd.R_drewN | apply Kd.R_drew)); exact Kd.R_mono (Kd.R_far (p := ⟨gb350, 1, none⟩) (Kd.R_types HO372.out BK350.out (by decide)) (fun _ hk => hk.2) (.slice Ao65 y370.length co65)) (fun _ hk => hk.1)⟩, ⟨by (with_reducible repeat (first | refine blk_drewN ?_ _ | refine blk_drew ?_ | refine blk_alloc ?_ _)); refine blk_far ?_ NB338_350.out _; (with_reducible repeat (first | refine blk_drewN ?_ _ | refine blk_drew ?_ | refine blk_alloc ?_ _)); exact BK338.out⟩, ⟨by (with_reducible repeat (first | refine blk_drewN ?_ _ | refine blk_drew ?_ | refine blk_alloc ?_ _)); refine blk_put (cs := #[.slice Ao61 y367.length co61, u351001]) ?_ 1 _ rfl; (with_reducible repeat (first | refine blk_drewN ?_ _ | refine blk_drew ?_ | refine blk_alloc ?_ _)); exact BK350.out⟩, ⟨by repeat (first | (with_reducible first | exact HB.out | apply below_alloc | apply pw_below_drewN | apply below_drew1 | refine below_set ?_ GE338.out | refine below_set ?_ GE350.out) | exact HB.out)⟩⟩
                    · rw [if_neg c56] at H
                      exact absurd H (by simp)
                  · rw [if_neg c55] at H
                    exact absurd H (by simp)
                · rw [if_neg c54] at H
                  exact absurd H (by simp)
            · rw [if_neg c25] at H
              exact absurd H (by simp)
          · rw [if_neg c24] at H
            exact absurd H (by simp)
        · rw [if_neg c22] at H
          have c22b0 : decide (0 < x10_1) = false := decide_eq_false c22
          clear c22
          by_cases c67 : t339 = true
          · subst c67
            have H1 : ((valid_Tree.f k1 x351000_1 x351001_1).bind fun t373 => ((valid_Tree.f k1 t340 t343).bind fun t374 => (if (t373 == t374) = true then ((valid_Covers.f ji5 t346 x351000_1 x351001_1).bind fun t375 => ((valid_Covers.f ji5 t346 t340 t343).bind fun t376 => (if (t375 == t376) = true then ((valid_Connected.f k1 ji5 x351000_1 x351001_1).bind fun t377 => ((valid_Connected.f k1 ji5 t340 t343).bind fun t378 => (some (t377 == t378)))) else (some false)))) else (some false)))) = some r := by rw [if_pos rfl] at H; exact H
            clear H
            have H := H1
            clear H1
            replace H := Option.bind_eq_some_iff.mp H
            obtain ⟨t373, A680, H⟩ := H
            replace H : ((valid_Tree.f k1 t340 t343).bind fun t374 => (if (t373 == t374) = true then ((valid_Covers.f ji5 t346 x351000_1 x351001_1).bind fun t375 => ((valid_Covers.f ji5 t346 t340 t343).bind fun t376 => (if (t375 == t376) = true then ((valid_Connected.f k1 ji5 x351000_1 x351001_1).bind fun t377 => ((valid_Connected.f k1 ji5 t340 t343).bind fun t378 => (some (t377 == t378)))) else (some false)))) else (some false))) = some r := H
            have A68 := Aside0.mk A680
            clear A680
            replace H := Option.bind_eq_some_iff.mp H
            obtain ⟨t374, A690, H⟩ := H
            replace H : (if (t373 == t374) = true then ((valid_Covers.f ji5 t346 x351000_1 x351001_1).bind fun t375 => ((valid_Covers.f ji5 t346 t340 t343).bind fun t376 => (if (t375 == t376) = true then ((valid_Connected.f k1 ji5 x351000_1 x351001_1).bind fun t377 => ((valid_Connected.f k1 ji5 t340 t343).bind fun t378 => (some (t377 == t378)))) else (some false)))) else (some false)) = some r := H
            have A69 := Aside0.mk A690
            clear A690
            by_cases c70 : (t373 == t374) = true
            · rw [if_pos c70] at H
              have c70b0 : (t373 == t374) = true := c70
              (try (have c70b1 : decide (t373 = t374) = true := by simpa using c70))
              (try (have c70b2 : (t373 == t374) = true := by simpa using c70))
              clear c70
              replace H := Option.bind_eq_some_iff.mp H
              obtain ⟨t375, A710, H⟩ := H
              replace H : ((valid_Covers.f ji5 t346 t340 t343).bind fun t376 => (if (t375 == t376) = true then ((valid_Connected.f k1 ji5 x351000_1 x351001_1).bind fun t377 => ((valid_Connected.f k1 ji5 t340 t343).bind fun t378 => (some (t377 == t378)))) else (some false))) = some r := H
              have A71 := Aside0.mk A710
              clear A710
              replace H := Option.bind_eq_some_iff.mp H
              obtain ⟨t376, A720, H⟩ := H
              replace H : (if (t375 == t376) = true then ((valid_Connected.f k1 ji5 x351000_1 x351001_1).bind fun t377 => ((valid_Connected.f k1 ji5 t340 t343).bind fun t378 => (some (t377 == t378)))) else (some false)) = some r := H
              have A72 := Aside0.mk A720
              clear A720
              by_cases c73 : (t375 == t376) = true
              · rw [if_pos c73] at H
                have c73b0 : (t375 == t376) = true := c73
                (try (have c73b1 : decide (t375 = t376) = true := by simpa using c73))
                (try (have c73b2 : (t375 == t376) = true := by simpa using c73))
                clear c73
                replace H := Option.bind_eq_some_iff.mp H
                obtain ⟨t377, A740, H⟩ := H
                replace H : ((valid_Connected.f k1 ji5 t340 t343).bind fun t378 => (some (t377 == t378))) = some r := H
                have A74 := Aside0.mk A740
                clear A740
                replace H := Option.bind_eq_some_iff.mp H
                obtain ⟨t378, A750, H⟩ := H
                replace H : (some (t377 == t378)) = some r := H
                have A75 := Aside0.mk A750
                clear A750
                obtain rfl := Option.some.inj H
                try go_wp2
                have n0_ := Aside0.mk (Kd.N_drew HO_1.out)
                have n1_ := Aside0.mk (Kd.N_drew HO_339000.out)
                have n2_ := Aside0.mk (Kd.R_drew HO_339001.out)
                have n3_ := Aside0.mk (Kd.N_drew HO_351000.out)
                have n4_ := Aside0.mk (Kd.R_drew HO_351001.out)
                have n5_ := Aside0.mk (blk_drew BK338.out)
                have n6_ := Aside0.mk (blk_drew BK350.out)
                have n7_ := Aside0.mk (below_drew1 HB.out)
                clear HO_1
                clear HO_339000
                clear HO_339001
                clear HO_351000
                clear HO_351001
                clear BK338
                clear BK350
                clear HB
                have HO_1 := n0_
                have HO_339000 := n1_
                have HO_339001 := n2_
                have HO_351000 := n3_
                have HO_351001 := n4_
                have BK338 := n5_
                have BK350 := n6_
                have HB := n7_
                clear n0_ n1_ n2_ n3_ n4_ n5_ n6_ n7_
                obtain ⟨Ao77, co77, eo77⟩ := Kd.N_slice HO_351000.out
                (first | subst eo77 | (injection eo77 with f1_ f2_ f3_; have f4_ := f1_.symm; have f5_ := f3_.symm; clear f1_ f2_ f3_; subst f4_; subst f5_))
                obtain ⟨Ao78, co78, eo78⟩ := Kd.R_slice HO_351001.out
                (first | subst eo78 | (injection eo78 with f1_ f2_ f3_; have f4_ := f1_.symm; have f5_ := f3_.symm; clear f1_ f2_ f3_; subst f4_; subst f5_))
                refine start_ (n := 29) (S := fun w' => w'.cell? ⟨gb350, 0, none⟩ = some (.slice Ao77 x351000_1.length co77) ∧ w'.cell? ⟨gb350, 1, none⟩ = some (.slice Ao78 x351001_1.length co78) ∧ w'.cell? ⟨gb338, 0, none⟩ = some (.slice Ao13 t340.length co13) ∧ w'.cell? ⟨gb338, 1, none⟩ = some (.slice Ao15 t343.length co15)) (ds := []) (bs 29 0) (by kernel_rfl) rfl rfl ⟨(blk_cell BK350.out 0).trans rfl, (blk_cell BK350.out 1).trans rfl, (blk_cell BK338.out 0).trans rfl, (blk_cell BK338.out 1).trans rfl⟩ (fun hHeld => ?_); refine with_tabW arboristlaw12_ValidTurned.tab17 arboristlaw12_ValidTurned.bits17 (fun HT_ HW_ => ?_)
                generalize wr.drew = w76 at HO_1 HO_339000 HO_339001 HO_351000 HO_351001 BK338 BK350 HB hHeld ⊢
                refine pure_ (i := 0) (N := some 73) (v := ?_) (a' := ?_) (bs 29 1) rfl rfl (any_of HT_.out (by kernel_rfl)) (fun _ _ _ h => h) (Or.inl ⟨by rfl, ?_⟩) ?_ ?_
                rotate_left; (intro w'; go_simp; with_reducible rfl); rotate_left; (simp only [Act.put, List.setIfInBounds_toArray, List.set_cons_zero, List.set_cons_succ, i64_w, i32_w]; rfl)
                refine pure_ (i := 1) (N := some 74) (v := ?_) (a' := ?_) (bs 29 3) rfl rfl (any_of HT_.out (by kernel_rfl)) (fun _ _ _ h => h) (Or.inl ⟨by rfl, ?_⟩) ?_ ?_
                rotate_left; (intro w'; go_simp; with_reducible rfl); rotate_left; (simp only [Act.put, List.setIfInBounds_toArray, List.set_cons_zero, List.set_cons_succ, i64_w, i32_w]; rfl)
                refine take_ (i := 2) (N := some 75) (v := ?_) (a' := ?_) (bs 29 7) rfl rfl (take_ofW HT_.out HW_.out (by kernel_rfl)) (fun _ _ _ h => h) (Or.inl ⟨by rfl, ?_⟩) hHeld ?_ ?_
                rotate_left
                · rintro w' ⟨s0, s1, s2, s3⟩
                  go_simp
                  with_reducible rfl
                rotate_left; (simp only [Act.put, List.setIfInBounds_toArray, List.set_cons_zero, List.set_cons_succ, i64_w, i32_w]; rfl)
                refine take_ (i := 4) (N := some 77) (v := ?_) (a' := ?_) (bs 29 23) rfl rfl (take_ofW HT_.out HW_.out (by kernel_rfl)) (fun _ _ _ h => h) (Or.inl ⟨by rfl, ?_⟩) hHeld ?_ ?_
                rotate_left
                · rintro w' ⟨s0, s1, s2, s3⟩
                  go_simp
                  with_reducible rfl
                rotate_left; (simp only [Act.put, List.setIfInBounds_toArray, List.set_cons_zero, List.set_cons_succ, i64_w, i32_w]; rfl)
                refine one_ (i := 3) (N := some 76) (bs 29 31) rfl rfl (one_of HT_.out (by kernel_rfl)) (by decide) (fun K hK => ?_)
                refine goes_ Try.func18 (by kernel_rfl) rfl #[.agg #[.slice Ao77 x351000_1.length co77, .slice Ao78 x351001_1.length co78]] (by rfl) rfl rfl (by (try simp only [List.map_toArray, List.map_cons, List.map_nil]); first | done | rfl | (simp only [List.length_drop, List.length_take]; rfl)) ?_
                with_reducible refine (valid_Tree.calls k1 _ _ x351000_1 _ _ x351001_1 t373 _ ?side1 ?side2 ?side3 ?side4 A68.out).mono ?_
                (case side1 => repeat (first | exact (Kd.N_reads' HO_351000.out).2.2 | (with_reducible refine Kd.C_alloc ?_ _) | (with_reducible refine Kd.C_drewN ?_ _) | (with_reducible refine Kd.C_drew ?_)))
                (case side2 => exact (Kd.N_reads' HO_351000.out).2.1)
                (case side3 => repeat (first | exact (Kd.R_reads' HO_351001.out).2.2 | (with_reducible refine Kd.C_alloc ?_ _) | (with_reducible refine Kd.C_drewN ?_ _) | (with_reducible refine Kd.C_drew ?_)))
                (case side4 => exact (Kd.R_reads' HO_351001.out).2.1)
                rintro e w79 ⟨rfl, hb⟩
                refine ⟨_, rfl, ?_⟩
                have n0_ := Aside0.mk (Kd.N_below (by (with_reducible repeat (first | apply Kd.N_alloc | apply Kd.N_drewN | apply Kd.N_drew)); exact HO_1.out) hb)
                have n1_ := Aside0.mk (Kd.N_below (by (with_reducible repeat (first | apply Kd.N_alloc | apply Kd.N_drewN | apply Kd.N_drew)); exact HO_339000.out) hb)
                have n2_ := Aside0.mk (Kd.R_below (by (with_reducible repeat (first | apply Kd.R_alloc | apply Kd.R_drewN | apply Kd.R_drew)); exact HO_339001.out) hb)
                have n3_ := Aside0.mk (Kd.N_below (by (with_reducible repeat (first | apply Kd.N_alloc | apply Kd.N_drewN | apply Kd.N_drew)); exact HO_351000.out) hb)
                have n4_ := Aside0.mk (Kd.R_below (by (with_reducible repeat (first | apply Kd.R_alloc | apply Kd.R_drewN | apply Kd.R_drew)); exact HO_351001.out) hb)
                have n5_ := Aside0.mk (blk_below (g := gb338) (o := .cells #[.slice Ao13 t340.length co13, .slice Ao15 t343.length co15] 25 (0, 0)) (by (with_reducible repeat (first | refine blk_drewN ?_ _ | refine blk_drew ?_ | refine blk_alloc ?_ _)); exact BK338.out) hb)
                have n6_ := Aside0.mk (blk_below (g := gb350) (o := .cells #[.slice Ao77 x351000_1.length co77, .slice Ao78 x351001_1.length co78] 25 (0, 0)) (by (with_reducible repeat (first | refine blk_drewN ?_ _ | refine blk_drew ?_ | refine blk_alloc ?_ _)); exact BK350.out) hb)
                have n7_ := Aside0.mk (below_step (by repeat (first | (with_reducible first | exact HB.out | apply below_alloc | apply pw_below_drewN | apply below_drew1 | refine below_set ?_ GE338.out | refine below_set ?_ GE350.out) | exact HB.out)) hb)
                clear HO_1
                clear HO_339000
                clear HO_339001
                clear HO_351000
                clear HO_351001
                clear BK338
                clear BK350
                clear HB
                have HO_1 := n0_
                have HO_339000 := n1_
                have HO_339001 := n2_
                have HO_351000 := n3_
                have HO_351001 := n4_
                have BK338 := n5_
                have BK350 := n6_
                have HB := n7_
                clear n0_ n1_ n2_ n3_ n4_ n5_ n6_ n7_
                (try clear hb)
                (try clear hb2)
                (try clear hk)
                (try clear hi)
                refine hK.out _ _ ⟨(blk_cell BK350.out 0).trans rfl, (blk_cell BK350.out 1).trans rfl, (blk_cell BK338.out 0).trans rfl, (blk_cell BK338.out 1).trans rfl⟩ (fun hHeld => ?_)
                clear hK K
                refine norm_ (a' := ?_) ?_ ?_
                rotate_left
                · show Act.put _ (some 76) _ = _
                  simp only [Act.put, List.setIfInBounds_toArray, List.set_cons_zero, List.set_cons_succ, i64_w, i32_w]
                  rfl
                refine one_ (i := 5) (N := some 78) (bs 29 63) rfl rfl (one_of HT_.out (by kernel_rfl)) (by decide) (fun K hK => ?_)
                refine goes_ Try.func18 (by kernel_rfl) rfl #[.agg #[.slice Ao13 t340.length co13, .slice Ao15 t343.length co15]] (by rfl) rfl rfl (by (try simp only [List.map_toArray, List.map_cons, List.map_nil]); first | done | rfl | (simp only [List.length_drop, List.length_take]; rfl)) ?_
                with_reducible refine (valid_Tree.calls k1 _ _ t340 _ _ t343 t374 _ ?side1 ?side2 ?side3 ?side4 A69.out).mono ?_
                (case side1 => repeat (first | exact (Kd.N_reads' HO_339000.out).2.2 | (with_reducible refine Kd.C_alloc ?_ _) | (with_reducible refine Kd.C_drewN ?_ _) | (with_reducible refine Kd.C_drew ?_)))
                (case side2 => exact (Kd.N_reads' HO_339000.out).2.1)
                (case side3 => repeat (first | exact (Kd.R_reads' HO_339001.out).2.2 | (with_reducible refine Kd.C_alloc ?_ _) | (with_reducible refine Kd.C_drewN ?_ _) | (with_reducible refine Kd.C_drew ?_)))
                (case side4 => exact (Kd.R_reads' HO_339001.out).2.1)
                rintro e w80 ⟨rfl, hb⟩
                refine ⟨_, rfl, ?_⟩
                have n0_ := Aside0.mk (Kd.N_below (by (with_reducible repeat (first | apply Kd.N_alloc | apply Kd.N_drewN | apply Kd.N_drew)); exact HO_1.out) hb)
                have n1_ := Aside0.mk (Kd.N_below (by (with_reducible repeat (first | apply Kd.N_alloc | apply Kd.N_drewN | apply Kd.N_drew)); exact HO_339000.out) hb)
                have n2_ := Aside0.mk (Kd.R_below (by (with_reducible repeat (first | apply Kd.R_alloc | apply Kd.R_drewN | apply Kd.R_drew)); exact HO_339001.out) hb)
                have n3_ := Aside0.mk (Kd.N_below (by (with_reducible repeat (first | apply Kd.N_alloc | apply Kd.N_drewN | apply Kd.N_drew)); exact HO_351000.out) hb)
                have n4_ := Aside0.mk (Kd.R_below (by (with_reducible repeat (first | apply Kd.R_alloc | apply Kd.R_drewN | apply Kd.R_drew)); exact HO_351001.out) hb)
                have n5_ := Aside0.mk (blk_below (g := gb338) (o := .cells #[.slice Ao13 t340.length co13, .slice Ao15 t343.length co15] 25 (0, 0)) (by (with_reducible repeat (first | refine blk_drewN ?_ _ | refine blk_drew ?_ | refine blk_alloc ?_ _)); exact BK338.out) hb)
                have n6_ := Aside0.mk (blk_below (g := gb350) (o := .cells #[.slice Ao77 x351000_1.length co77, .slice Ao78 x351001_1.length co78] 25 (0, 0)) (by (with_reducible repeat (first | refine blk_drewN ?_ _ | refine blk_drew ?_ | refine blk_alloc ?_ _)); exact BK350.out) hb)
                have n7_ := Aside0.mk (below_step (by repeat (first | (with_reducible first | exact HB.out | apply below_alloc | apply pw_below_drewN | apply below_drew1 | refine below_set ?_ GE338.out | refine below_set ?_ GE350.out) | exact HB.out)) hb)
                clear HO_1
                clear HO_339000
                clear HO_339001
                clear HO_351000
                clear HO_351001
                clear BK338
                clear BK350
                clear HB
                have HO_1 := n0_
                have HO_339000 := n1_
                have HO_339001 := n2_
                have HO_351000 := n3_
                have HO_351001 := n4_
                have BK338 := n5_
                have BK350 := n6_
                have HB := n7_
                clear n0_ n1_ n2_ n3_ n4_ n5_ n6_ n7_
                (try clear hb)
                (try clear hb2)
                (try clear hk)
                (try clear hi)
                obtain ⟨Ao81, co81, eo81⟩ := Kd.N_slice HO_1.out
                (first | subst eo81 | (injection eo81 with f1_ f2_ f3_; have f4_ := f1_.symm; have f5_ := f3_.symm; clear f1_ f2_ f3_; subst f4_; subst f5_))
                refine hK.out _ _ ⟨(blk_cell BK350.out 0).trans rfl, (blk_cell BK350.out 1).trans rfl, (blk_cell BK338.out 0).trans rfl, (blk_cell BK338.out 1).trans rfl⟩ (fun hHeld => ?_)
                clear hK K
                refine norm_ (a' := ?_) ?_ ?_
                rotate_left
                · show Act.put _ (some 78) _ = _
                  simp only [Act.put, List.setIfInBounds_toArray, List.set_cons_zero, List.set_cons_succ, i64_w, i32_w]
                  rfl
                refine pure_ (i := 6) (N := some 79) (v := ?_) (a' := ?_) (bs 29 127) rfl rfl (any_of HT_.out (by kernel_rfl)) (fun _ _ _ h => h) (Or.inl ⟨by rfl, ?_⟩) ?_ ?_
                rotate_left; (intro w'; go_simp; with_reducible rfl); rotate_left; (simp only [Act.put, List.setIfInBounds_toArray, List.set_cons_zero, List.set_cons_succ, i64_w, i32_w]; rfl)
                refine pure_ (i := 7) (N := some 80) (v := ?_) (a' := ?_) (bs 29 255) rfl rfl (any_of HT_.out (by kernel_rfl)) (fun _ _ _ h => h) (Or.inl ⟨by rfl, ?_⟩) ?_ ?_
                rotate_left; (intro w'; go_simp; with_reducible rfl); rotate_left; (simp only [Act.put, List.setIfInBounds_toArray, List.set_cons_zero, List.set_cons_succ, i64_w, i32_w]; rfl)
                refine pure_ (i := 8) (N := some 81) (v := ?_) (a' := ?_) (bs 29 511) rfl rfl (any_of HT_.out (by kernel_rfl)) (fun _ _ _ h => h) (Or.inl ⟨by rfl, ?_⟩) ?_ ?_
                rotate_left; (intro w'; go_simp; with_reducible rfl); rotate_left; (simp only [Act.put, List.setIfInBounds_toArray, List.set_cons_zero, List.set_cons_succ, i64_w, i32_w]; rfl)
                refine pure_ (i := 9) (N := some 82) (v := ?_) (a' := ?_) (bs 29 1023) rfl rfl (any_of HT_.out (by kernel_rfl)) (fun _ _ _ h => h) (Or.inl ⟨by rfl, ?_⟩) ?_ ?_
                rotate_left; (intro w'; go_simp; with_reducible rfl); rotate_left; (simp only [Act.put, List.setIfInBounds_toArray, List.set_cons_zero, List.set_cons_succ, i64_w, i32_w]; rfl)
                refine pure_ (i := 10) (N := some 83) (v := ?_) (a' := ?_) (bs 29 2047) rfl rfl (any_of HT_.out (by kernel_rfl)) (fun _ _ _ h => h) (Or.inl ⟨by rfl, ?_⟩) ?_ ?_
                rotate_left; (intro w'; go_simp; with_reducible rfl); rotate_left; (simp only [Act.put, List.setIfInBounds_toArray, List.set_cons_zero, List.set_cons_succ, i64_w, i32_w]; rfl)
                refine pure_ (i := 13) (N := some 86) (v := ?_) (a' := ?_) (bs 29 10239) rfl rfl (any_of HT_.out (by kernel_rfl)) (fun _ _ _ h => h) (Or.inl ⟨by rfl, ?_⟩) ?_ ?_
                rotate_left; (intro w'; go_simp; with_reducible rfl); rotate_left; (simp only [Act.put, List.setIfInBounds_toArray, List.set_cons_zero, List.set_cons_succ, i64_w, i32_w]; rfl)
                refine pure_ (i := 14) (N := some 87) (v := ?_) (a' := ?_) (bs 29 26623) rfl rfl (any_of HT_.out (by kernel_rfl)) (fun _ _ _ h => h) (Or.inl ⟨by rfl, ?_⟩) ?_ ?_
                rotate_left; (intro w'; go_simp; with_reducible rfl); rotate_left; (simp only [Act.put, List.setIfInBounds_toArray, List.set_cons_zero, List.set_cons_succ, i64_w, i32_w]; rfl)
                refine take_ (i := 11) (N := some 84) (v := ?_) (a' := ?_) (bs 29 28671) rfl rfl (take_ofW HT_.out HW_.out (by kernel_rfl)) (fun _ _ _ h => h) (Or.inl ⟨by rfl, ?_⟩) hHeld ?_ ?_
                rotate_left
                · rintro w' ⟨s0, s1, s2, s3⟩
                  go_simp
                  with_reducible rfl
                rotate_left; (simp only [Act.put, List.setIfInBounds_toArray, List.set_cons_zero, List.set_cons_succ, i64_w, i32_w]; rfl)
                refine take_ (i := 15) (N := some 88) (v := ?_) (a' := ?_) (bs 29 61439) rfl rfl (take_ofW HT_.out HW_.out (by kernel_rfl)) (fun _ _ _ h => h) (Or.inl ⟨by rfl, ?_⟩) hHeld ?_ ?_
                rotate_left
                · rintro w' ⟨s0, s1, s2, s3⟩
                  go_simp
                  with_reducible rfl
                rotate_left; (simp only [Act.put, List.setIfInBounds_toArray, List.set_cons_zero, List.set_cons_succ, i64_w, i32_w]; rfl)
                refine one_ (i := 12) (N := some 85) (bs 29 65535) rfl rfl (one_of HT_.out (by kernel_rfl)) (by decide) (fun K hK => ?_)
                refine goes_ Try.func20 (by kernel_rfl) rfl #[.int .i64 ji5, .slice Ao81 t346.length co81, .agg #[.slice Ao77 x351000_1.length co77, .slice Ao78 x351001_1.length co78]] (by rfl) rfl rfl (by (try simp only [List.map_toArray, List.map_cons, List.map_nil]); first | done | (simp only [hji5]; rfl) | rfl | (simp only [List.length_drop, List.length_take]; rfl)) ?_
                with_reducible refine (valid_Covers.calls ji5 _ _ t346 _ _ x351000_1 _ _ x351001_1 t375 _ ?side1 ?side2 ?side3 ?side4 ?side5 ?side6 A71.out).mono ?_
                (case side1 => repeat (first | exact (Kd.N_reads' HO_1.out).2.2 | (with_reducible refine Kd.C_alloc ?_ _) | (with_reducible refine Kd.C_drewN ?_ _) | (with_reducible refine Kd.C_drew ?_)))
                (case side2 => exact (Kd.N_reads' HO_1.out).2.1)
                (case side3 => repeat (first | exact (Kd.N_reads' HO_351000.out).2.2 | (with_reducible refine Kd.C_alloc ?_ _) | (with_reducible refine Kd.C_drewN ?_ _) | (with_reducible refine Kd.C_drew ?_)))
                (case side4 => exact (Kd.N_reads' HO_351000.out).2.1)
                (case side5 => repeat (first | exact (Kd.R_reads' HO_351001.out).2.2 | (with_reducible refine Kd.C_alloc ?_ _) | (with_reducible refine Kd.C_drewN ?_ _) | (with_reducible refine Kd.C_drew ?_)))
                (case side6 => exact (Kd.R_reads' HO_351001.out).2.1)
                rintro e w82 ⟨rfl, hb⟩
                refine ⟨_, rfl, ?_⟩
                have n0_ := Aside0.mk (Kd.N_below (by (with_reducible repeat (first | apply Kd.N_alloc | apply Kd.N_drewN | apply Kd.N_drew)); exact HO_1.out) hb)
                have n1_ := Aside0.mk (Kd.N_below (by (with_reducible repeat (first | apply Kd.N_alloc | apply Kd.N_drewN | apply Kd.N_drew)); exact HO_339000.out) hb)
                have n2_ := Aside0.mk (Kd.R_below (by (with_reducible repeat (first | apply Kd.R_alloc | apply Kd.R_drewN | apply Kd.R_drew)); exact HO_339001.out) hb)
                have n3_ := Aside0.mk (Kd.N_below (by (with_reducible repeat (first | apply Kd.N_alloc | apply Kd.N_drewN | apply Kd.N_drew)); exact HO_351000.out) hb)
                have n4_ := Aside0.mk (Kd.R_below (by (with_reducible repeat (first | apply Kd.R_alloc | apply Kd.R_drewN | apply Kd.R_drew)); exact HO_351001.out) hb)
                have n5_ := Aside0.mk (blk_below (g := gb338) (o := .cells #[.slice Ao13 t340.length co13, .slice Ao15 t343.length co15] 25 (0, 0)) (by (with_reducible repeat (first | refine blk_drewN ?_ _ | refine blk_drew ?_ | refine blk_alloc ?_ _)); exact BK338.out) hb)
                have n6_ := Aside0.mk (blk_below (g := gb350) (o := .cells #[.slice Ao77 x351000_1.length co77, .slice Ao78 x351001_1.length co78] 25 (0, 0)) (by (with_reducible repeat (first | refine blk_drewN ?_ _ | refine blk_drew ?_ | refine blk_alloc ?_ _)); exact BK350.out) hb)
                have n7_ := Aside0.mk (below_step (by repeat (first | (with_reducible first | exact HB.out | apply below_alloc | apply pw_below_drewN | apply below_drew1 | refine below_set ?_ GE338.out | refine below_set ?_ GE350.out) | exact HB.out)) hb)
                clear HO_1
                clear HO_339000
                clear HO_339001
                clear HO_351000
                clear HO_351001
                clear BK338
                clear BK350
                clear HB
                have HO_1 := n0_
                have HO_339000 := n1_
                have HO_339001 := n2_
                have HO_351000 := n3_
                have HO_351001 := n4_
                have BK338 := n5_
                have BK350 := n6_
                have HB := n7_
                clear n0_ n1_ n2_ n3_ n4_ n5_ n6_ n7_
                (try clear hb)
                (try clear hb2)
                (try clear hk)
                (try clear hi)
                refine hK.out _ _ ⟨(blk_cell BK350.out 0).trans rfl, (blk_cell BK350.out 1).trans rfl, (blk_cell BK338.out 0).trans rfl, (blk_cell BK338.out 1).trans rfl⟩ (fun hHeld => ?_)
                clear hK K
                refine norm_ (a' := ?_) ?_ ?_
                rotate_left
                · show Act.put _ (some 85) _ = _
                  simp only [Act.put, List.setIfInBounds_toArray, List.set_cons_zero, List.set_cons_succ, i64_w, i32_w]
                  rfl
                refine one_ (i := 16) (N := some 89) (bs 29 131071) rfl rfl (one_of HT_.out (by kernel_rfl)) (by decide) (fun K hK => ?_)
                refine goes_ Try.func20 (by kernel_rfl) rfl #[.int .i64 ji5, .slice Ao81 t346.length co81, .agg #[.slice Ao13 t340.length co13, .slice Ao15 t343.length co15]] (by rfl) rfl rfl (by (try simp only [List.map_toArray, List.map_cons, List.map_nil]); first | done | (simp only [hji5]; rfl) | rfl | (simp only [List.length_drop, List.length_take]; rfl)) ?_
                with_reducible refine (valid_Covers.calls ji5 _ _ t346 _ _ t340 _ _ t343 t376 _ ?side1 ?side2 ?side3 ?side4 ?side5 ?side6 A72.out).mono ?_
                (case side1 => repeat (first | exact (Kd.N_reads' HO_1.out).2.2 | (with_reducible refine Kd.C_alloc ?_ _) | (with_reducible refine Kd.C_drewN ?_ _) | (with_reducible refine Kd.C_drew ?_)))
                (case side2 => exact (Kd.N_reads' HO_1.out).2.1)
                (case side3 => repeat (first | exact (Kd.N_reads' HO_339000.out).2.2 | (with_reducible refine Kd.C_alloc ?_ _) | (with_reducible refine Kd.C_drewN ?_ _) | (with_reducible refine Kd.C_drew ?_)))
                (case side4 => exact (Kd.N_reads' HO_339000.out).2.1)
                (case side5 => repeat (first | exact (Kd.R_reads' HO_339001.out).2.2 | (with_reducible refine Kd.C_alloc ?_ _) | (with_reducible refine Kd.C_drewN ?_ _) | (with_reducible refine Kd.C_drew ?_)))
                (case side6 => exact (Kd.R_reads' HO_339001.out).2.1)
                rintro e w83 ⟨rfl, hb⟩
                refine ⟨_, rfl, ?_⟩
                have n0_ := Aside0.mk (Kd.N_below (by (with_reducible repeat (first | apply Kd.N_alloc | apply Kd.N_drewN | apply Kd.N_drew)); exact HO_1.out) hb)
                have n1_ := Aside0.mk (Kd.N_below (by (with_reducible repeat (first | apply Kd.N_alloc | apply Kd.N_drewN | apply Kd.N_drew)); exact HO_339000.out) hb)
                have n2_ := Aside0.mk (Kd.R_below (by (with_reducible repeat (first | apply Kd.R_alloc | apply Kd.R_drewN | apply Kd.R_drew)); exact HO_339001.out) hb)
                have n3_ := Aside0.mk (Kd.N_below (by (with_reducible repeat (first | apply Kd.N_alloc | apply Kd.N_drewN | apply Kd.N_drew)); exact HO_351000.out) hb)
                have n4_ := Aside0.mk (Kd.R_below (by (with_reducible repeat (first | apply Kd.R_alloc | apply Kd.R_drewN | apply Kd.R_drew)); exact HO_351001.out) hb)
                have n5_ := Aside0.mk (blk_below (g := gb338) (o := .cells #[.slice Ao13 t340.length co13, .slice Ao15 t343.length co15] 25 (0, 0)) (by (with_reducible repeat (first | refine blk_drewN ?_ _ | refine blk_drew ?_ | refine blk_alloc ?_ _)); exact BK338.out) hb)
                have n6_ := Aside0.mk (blk_below (g := gb350) (o := .cells #[.slice Ao77 x351000_1.length co77, .slice Ao78 x351001_1.length co78] 25 (0, 0)) (by (with_reducible repeat (first | refine blk_drewN ?_ _ | refine blk_drew ?_ | refine blk_alloc ?_ _)); exact BK350.out) hb)
                have n7_ := Aside0.mk (below_step (by repeat (first | (with_reducible first | exact HB.out | apply below_alloc | apply pw_below_drewN | apply below_drew1 | refine below_set ?_ GE338.out | refine below_set ?_ GE350.out) | exact HB.out)) hb)
                clear HO_1
                clear HO_339000
                clear HO_339001
                clear HO_351000
                clear HO_351001
                clear BK338
                clear BK350
                clear HB
                have HO_1 := n0_
                have HO_339000 := n1_
                have HO_339001 := n2_
                have HO_351000 := n3_
                have HO_351001 := n4_
                have BK338 := n5_
                have BK350 := n6_
                have HB := n7_
                clear n0_ n1_ n2_ n3_ n4_ n5_ n6_ n7_
                (try clear hb)
                (try clear hb2)
                (try clear hk)
                (try clear hi)
                refine hK.out _ _ ⟨(blk_cell BK350.out 0).trans rfl, (blk_cell BK350.out 1).trans rfl, (blk_cell BK338.out 0).trans rfl, (blk_cell BK338.out 1).trans rfl⟩ (fun hHeld => ?_)
                clear hK K
                refine norm_ (a' := ?_) ?_ ?_
                rotate_left
                · show Act.put _ (some 89) _ = _
                  simp only [Act.put, List.setIfInBounds_toArray, List.set_cons_zero, List.set_cons_succ, i64_w, i32_w]
                  rfl
                refine pure_ (i := 17) (N := some 90) (v := ?_) (a' := ?_) (bs 29 262143) rfl rfl (any_of HT_.out (by kernel_rfl)) (fun _ _ _ h => h) (Or.inl ⟨by rfl, ?_⟩) ?_ ?_
                rotate_left; (intro w'; go_simp; with_reducible rfl); rotate_left; (simp only [Act.put, List.setIfInBounds_toArray, List.set_cons_zero, List.set_cons_succ, i64_w, i32_w]; rfl)
                refine pure_ (i := 18) (N := some 91) (v := ?_) (a' := ?_) (bs 29 524287) rfl rfl (any_of HT_.out (by kernel_rfl)) (fun _ _ _ h => h) (Or.inl ⟨by rfl, ?_⟩) ?_ ?_
                rotate_left; (intro w'; go_simp; with_reducible rfl); rotate_left; (simp only [Act.put, List.setIfInBounds_toArray, List.set_cons_zero, List.set_cons_succ, i64_w, i32_w]; rfl)
                refine pure_ (i := 19) (N := some 92) (v := ?_) (a' := ?_) (bs 29 1048575) rfl rfl (any_of HT_.out (by kernel_rfl)) (fun _ _ _ h => h) (Or.inl ⟨by rfl, ?_⟩) ?_ ?_
                rotate_left; (intro w'; go_simp; with_reducible rfl); rotate_left; (simp only [Act.put, List.setIfInBounds_toArray, List.set_cons_zero, List.set_cons_succ, i64_w, i32_w]; rfl)
                refine pure_ (i := 20) (N := some 93) (v := ?_) (a' := ?_) (bs 29 2097151) rfl rfl (any_of HT_.out (by kernel_rfl)) (fun _ _ _ h => h) (Or.inl ⟨by rfl, ?_⟩) ?_ ?_
                rotate_left; (intro w'; go_simp; with_reducible rfl); rotate_left; (simp only [Act.put, List.setIfInBounds_toArray, List.set_cons_zero, List.set_cons_succ, i64_w, i32_w]; rfl)
                refine pure_ (i := 23) (N := some 96) (v := ?_) (a' := ?_) (bs 29 10485759) rfl rfl (any_of HT_.out (by kernel_rfl)) (fun _ _ _ h => h) (Or.inl ⟨by rfl, ?_⟩) ?_ ?_
                rotate_left; (intro w'; go_simp; with_reducible rfl); rotate_left; (simp only [Act.put, List.setIfInBounds_toArray, List.set_cons_zero, List.set_cons_succ, i64_w, i32_w]; rfl)
                refine take_ (i := 21) (N := some 94) (v := ?_) (a' := ?_) (bs 29 12582911) rfl rfl (take_ofW HT_.out HW_.out (by kernel_rfl)) (fun _ _ _ h => h) (Or.inl ⟨by rfl, ?_⟩) hHeld ?_ ?_
                rotate_left
                · rintro w' ⟨s0, s1, s2, s3⟩
                  go_simp
                  with_reducible rfl
                rotate_left; (simp only [Act.put, List.setIfInBounds_toArray, List.set_cons_zero, List.set_cons_succ, i64_w, i32_w]; rfl)
                refine take_ (i := 24) (N := some 97) (v := ?_) (a' := ?_) (bs 29 29360127) rfl rfl (take_ofW HT_.out HW_.out (by kernel_rfl)) (fun _ _ _ h => h) (Or.inl ⟨by rfl, ?_⟩) hHeld ?_ ?_
                rotate_left
                · rintro w' ⟨s0, s1, s2, s3⟩
                  go_simp
                  with_reducible rfl
                rotate_left; (simp only [Act.put, List.setIfInBounds_toArray, List.set_cons_zero, List.set_cons_succ, i64_w, i32_w]; rfl)
                refine one_ (i := 22) (N := some 95) (bs 29 33554431) rfl rfl (one_of HT_.out (by kernel_rfl)) (by decide) (fun K hK => ?_)
                refine goes_ Try.func22 (by kernel_rfl) rfl #[.int .i64 ji5, .agg #[.slice Ao77 x351000_1.length co77, .slice Ao78 x351001_1.length co78]] (by rfl) rfl rfl (by (try simp only [List.map_toArray, List.map_cons, List.map_nil]); first | done | (simp only [hji5]; rfl) | rfl | (simp only [List.length_drop, List.length_take]; rfl)) ?_
                with_reducible refine (valid_Connected.calls k1 ji5 _ _ x351000_1 _ _ x351001_1 t377 _ ?side1 ?side2 ?side3 ?side4 A74.out).mono ?_
                (case side1 => repeat (first | exact (Kd.N_reads' HO_351000.out).2.2 | (with_reducible refine Kd.C_alloc ?_ _) | (with_reducible refine Kd.C_drewN ?_ _) | (with_reducible refine Kd.C_drew ?_)))
                (case side2 => exact (Kd.N_reads' HO_351000.out).2.1)
                (case side3 => repeat (first | exact (Kd.R_reads' HO_351001.out).2.2 | (with_reducible refine Kd.C_alloc ?_ _) | (with_reducible refine Kd.C_drewN ?_ _) | (with_reducible refine Kd.C_drew ?_)))
                (case side4 => exact (Kd.R_reads' HO_351001.out).2.1)
                rintro e w84 ⟨rfl, hb⟩
                refine ⟨_, rfl, ?_⟩
                have n0_ := Aside0.mk (Kd.N_below (by (with_reducible repeat (first | apply Kd.N_alloc | apply Kd.N_drewN | apply Kd.N_drew)); exact HO_1.out) hb)
                have n1_ := Aside0.mk (Kd.N_below (by (with_reducible repeat (first | apply Kd.N_alloc | apply Kd.N_drewN | apply Kd.N_drew)); exact HO_339000.out) hb)
                have n2_ := Aside0.mk (Kd.R_below (by (with_reducible repeat (first | apply Kd.R_alloc | apply Kd.R_drewN | apply Kd.R_drew)); exact HO_339001.out) hb)
                have n3_ := Aside0.mk (Kd.N_below (by (with_reducible repeat (first | apply Kd.N_alloc | apply Kd.N_drewN | apply Kd.N_drew)); exact HO_351000.out) hb)
                have n4_ := Aside0.mk (Kd.R_below (by (with_reducible repeat (first | apply Kd.R_alloc | apply Kd.R_drewN | apply Kd.R_drew)); exact HO_351001.out) hb)
                have n5_ := Aside0.mk (blk_below (g := gb338) (o := .cells #[.slice Ao13 t340.length co13, .slice Ao15 t343.length co15] 25 (0, 0)) (by (with_reducible repeat (first | refine blk_drewN ?_ _ | refine blk_drew ?_ | refine blk_alloc ?_ _)); exact BK338.out) hb)
                have n6_ := Aside0.mk (blk_below (g := gb350) (o := .cells #[.slice Ao77 x351000_1.length co77, .slice Ao78 x351001_1.length co78] 25 (0, 0)) (by (with_reducible repeat (first | refine blk_drewN ?_ _ | refine blk_drew ?_ | refine blk_alloc ?_ _)); exact BK350.out) hb)
                have n7_ := Aside0.mk (below_step (by repeat (first | (with_reducible first | exact HB.out | apply below_alloc | apply pw_below_drewN | apply below_drew1 | refine below_set ?_ GE338.out | refine below_set ?_ GE350.out) | exact HB.out)) hb)
                clear HO_1
                clear HO_339000
                clear HO_339001
                clear HO_351000
                clear HO_351001
                clear BK338
                clear BK350
                clear HB
                have HO_1 := n0_
                have HO_339000 := n1_
                have HO_339001 := n2_
                have HO_351000 := n3_
                have HO_351001 := n4_
                have BK338 := n5_
                have BK350 := n6_
                have HB := n7_
                clear n0_ n1_ n2_ n3_ n4_ n5_ n6_ n7_
                (try clear hb)
                (try clear hb2)
                (try clear hk)
                (try clear hi)
                refine hK.out _ _ ⟨(blk_cell BK350.out 0).trans rfl, (blk_cell BK350.out 1).trans rfl, (blk_cell BK338.out 0).trans rfl, (blk_cell BK338.out 1).trans rfl⟩ (fun hHeld => ?_)
                clear hK K
                refine norm_ (a' := ?_) ?_ ?_
                rotate_left
                · show Act.put _ (some 95) _ = _
                  simp only [Act.put, List.setIfInBounds_toArray, List.set_cons_zero, List.set_cons_succ, i64_w, i32_w]
                  rfl
                refine one_ (i := 25) (N := some 98) (bs 29 67108863) rfl rfl (one_of HT_.out (by kernel_rfl)) (by decide) (fun K hK => ?_)
                refine goes_ Try.func22 (by kernel_rfl) rfl #[.int .i64 ji5, .agg #[.slice Ao13 t340.length co13, .slice Ao15 t343.length co15]] (by rfl) rfl rfl (by (try simp only [List.map_toArray, List.map_cons, List.map_nil]); first | done | (simp only [hji5]; rfl) | rfl | (simp only [List.length_drop, List.length_take]; rfl)) ?_
                with_reducible refine (valid_Connected.calls k1 ji5 _ _ t340 _ _ t343 t378 _ ?side1 ?side2 ?side3 ?side4 A75.out).mono ?_
                (case side1 => repeat (first | exact (Kd.N_reads' HO_339000.out).2.2 | (with_reducible refine Kd.C_alloc ?_ _) | (with_reducible refine Kd.C_drewN ?_ _) | (with_reducible refine Kd.C_drew ?_)))
                (case side2 => exact (Kd.N_reads' HO_339000.out).2.1)
                (case side3 => repeat (first | exact (Kd.R_reads' HO_339001.out).2.2 | (with_reducible refine Kd.C_alloc ?_ _) | (with_reducible refine Kd.C_drewN ?_ _) | (with_reducible refine Kd.C_drew ?_)))
                (case side4 => exact (Kd.R_reads' HO_339001.out).2.1)
                rintro e w85 ⟨rfl, hb⟩
                refine ⟨_, rfl, ?_⟩
                have n0_ := Aside0.mk (Kd.N_below (by (with_reducible repeat (first | apply Kd.N_alloc | apply Kd.N_drewN | apply Kd.N_drew)); exact HO_1.out) hb)
                have n1_ := Aside0.mk (Kd.N_below (by (with_reducible repeat (first | apply Kd.N_alloc | apply Kd.N_drewN | apply Kd.N_drew)); exact HO_339000.out) hb)
                have n2_ := Aside0.mk (Kd.R_below (by (with_reducible repeat (first | apply Kd.R_alloc | apply Kd.R_drewN | apply Kd.R_drew)); exact HO_339001.out) hb)
                have n3_ := Aside0.mk (Kd.N_below (by (with_reducible repeat (first | apply Kd.N_alloc | apply Kd.N_drewN | apply Kd.N_drew)); exact HO_351000.out) hb)
                have n4_ := Aside0.mk (Kd.R_below (by (with_reducible repeat (first | apply Kd.R_alloc | apply Kd.R_drewN | apply Kd.R_drew)); exact HO_351001.out) hb)
                have n5_ := Aside0.mk (blk_below (g := gb338) (o := .cells #[.slice Ao13 t340.length co13, .slice Ao15 t343.length co15] 25 (0, 0)) (by (with_reducible repeat (first | refine blk_drewN ?_ _ | refine blk_drew ?_ | refine blk_alloc ?_ _)); exact BK338.out) hb)
                have n6_ := Aside0.mk (blk_below (g := gb350) (o := .cells #[.slice Ao77 x351000_1.length co77, .slice Ao78 x351001_1.length co78] 25 (0, 0)) (by (with_reducible repeat (first | refine blk_drewN ?_ _ | refine blk_drew ?_ | refine blk_alloc ?_ _)); exact BK350.out) hb)
                have n7_ := Aside0.mk (below_step (by repeat (first | (with_reducible first | exact HB.out | apply below_alloc | apply pw_below_drewN | apply below_drew1 | refine below_set ?_ GE338.out | refine below_set ?_ GE350.out) | exact HB.out)) hb)
                clear HO_1
                clear HO_339000
                clear HO_339001
                clear HO_351000
                clear HO_351001
                clear BK338
                clear BK350
                clear HB
                have HO_1 := n0_
                have HO_339000 := n1_
                have HO_339001 := n2_
                have HO_351000 := n3_
                have HO_351001 := n4_
                have BK338 := n5_
                have BK350 := n6_
                have HB := n7_
                clear n0_ n1_ n2_ n3_ n4_ n5_ n6_ n7_
                (try clear hb)
                (try clear hb2)
                (try clear hk)
                (try clear hi)
                refine hK.out _ _ ⟨(blk_cell BK350.out 0).trans rfl, (blk_cell BK350.out 1).trans rfl, (blk_cell BK338.out 0).trans rfl, (blk_cell BK338.out 1).trans rfl⟩ (fun hHeld => ?_)
                clear hK K
                refine norm_ (a' := ?_) ?_ ?_
                rotate_left
                · show Act.put _ (some 98) _ = _
                  simp only [Act.put, List.setIfInBounds_toArray, List.set_cons_zero, List.set_cons_succ, i64_w, i32_w]
                  rfl
                refine pure_ (i := 26) (N := some 99) (v := ?_) (a' := ?_) (bs 29 134217727) rfl rfl (any_of HT_.out (by kernel_rfl)) (fun _ _ _ h => h) (Or.inl ⟨by rfl, ?_⟩) ?_ ?_
                rotate_left; (intro w'; go_simp; with_reducible rfl); rotate_left; (simp only [Act.put, List.setIfInBounds_toArray, List.set_cons_zero, List.set_cons_succ, i64_w, i32_w]; rfl)
                refine pure_ (i := 27) (N := some 100) (v := ?_) (a' := ?_) (bs 29 268435455) rfl rfl (any_of HT_.out (by kernel_rfl)) (fun _ _ _ h => h) (Or.inl ⟨by rfl, ?_⟩) ?_ ?_
                rotate_left; (intro w'; go_simp; with_reducible rfl); rotate_left; (simp only [Act.put, List.setIfInBounds_toArray, List.set_cons_zero, List.set_cons_succ, i64_w, i32_w]; rfl)
                refine pure_ (i := 28) (N := some 6) (v := ?_) (a' := ?_) (bs 29 536870911) rfl rfl (any_of HT_.out (by kernel_rfl)) (fun _ _ _ h => h) (Or.inl ⟨by rfl, ?_⟩) ?_ ?_
                rotate_left; (intro w'; go_simp; with_reducible rfl); rotate_left; (simp only [Act.put, List.setIfInBounds_toArray, List.set_cons_zero, List.set_cons_succ, i64_w, i32_w]; rfl)
                refine done_ (done_of HT_.out (by kernel_rfl)) ?_
                try go_wp2
                go_ret
                exact ⟨by first | rfl | (simp [errW_none, errW_some] <;> rfl) | (simp only [← hji5]; first | rfl | (simp [errW_none, errW_some] <;> rfl)) | (simp [*, errW_none, errW_some] <;> rfl), by repeat (first | (with_reducible first | exact HB.out | apply below_alloc | apply pw_below_drewN | apply below_drew1 | refine below_set ?_ GE338.out | refine below_set ?_ GE350.out) | exact HB.out)⟩
              · rw [if_neg c73] at H
                have c73b0 : (t375 == t376) = false := by simpa using c73
                (try (have c73b1 : decide (t375 = t376) = false := by simpa using c73))
                (try (have c73b2 : (t375 == t376) = false := by simpa using c73))
                (try (have c73b3 : ¬ (t375 = t376) := by simpa using c73))
                clear c73
                exact absurd ((Option.some.inj H).trans HT_.out) (by decide)
            · rw [if_neg c70] at H
              have c70b0 : (t373 == t374) = false := by simpa using c70
              (try (have c70b1 : decide (t373 = t374) = false := by simpa using c70))
              (try (have c70b2 : (t373 == t374) = false := by simpa using c70))
              (try (have c70b3 : ¬ (t373 = t374) := by simpa using c70))
              clear c70
              exact absurd ((Option.some.inj H).trans HT_.out) (by decide)
          · replace c67 := Bool.eq_false_iff.mpr c67
            subst c67
            have H1 : (some false) = some r := by rw [if_neg (show ¬ (false = true) by decide)] at H; exact H
            clear H
            have H := H1
            clear H1
            exact absurd ((Option.some.inj H).trans HT_.out) (by decide)
  · rw [if_neg c8] at H
    have c8b0 : ((t343.length : Int) == (t340.length : Int)) = false := beq_eq_false_iff_ne.mpr c8
    have c8b1 : ((t343.length : Int) != (t340.length : Int)) = true := bne_iff_ne.mpr c8
    have c8b2 : (t343.length == t340.length) = false := by first | simpa using c8 | (simp at c8 ⊢; omega)
    by_cases c86 : t339 = true
    · subst c86
      have H1 : ((valid_Tree.f k t340 t343).bind fun t349 => (some (!t349))) = some r := by rw [if_pos rfl] at H; exact H
      clear H
      have H := H1
      clear H1
      replace H := Option.bind_eq_some_iff.mp H
      obtain ⟨t349, A870, H⟩ := H
      replace H : (some (!t349)) = some r := H
      have A87 := Aside0.mk A870
      clear A870
      obtain rfl := Option.some.inj H
      go_enter Try.func7, Try.ntmps7
      go_wp2_with (first | ((with_reducible refine gate_dst (N := 5) rfl ?_); refine box_event ?hg (N := 5) ?hd (cs := #[.slice A2_0 l2_0.length c2_0, .slice A2_1 l2_1.length c2_1]) (t := 25) ?hr ?_; (case hd => rfl); (case hg => rfl); (case hr => first | (go_simp; done) | (go_simp; rfl)); intro gb338 hg w88 hbox hb; have n0_ := Aside0.mk (below_step (by repeat (first | (with_reducible first | exact HB.out | apply below_alloc | apply pw_below_drewN | apply below_drew1) | exact HB.out)) hb); have n1_ := Aside0.mk (hbox); have n2_ := Aside0.mk ((by rw [hg]; exact (below_size (by repeat (first | (with_reducible first | exact HB.out | apply below_alloc | apply pw_below_drewN | apply below_drew1) | exact HB.out))) : w.heap.size ≤ gb338)); have n3_ := Aside0.mk ((by rw [hg]; exact (below_size (by repeat (first | (with_reducible first | exact HB.out | apply below_alloc | apply pw_below_drewN | apply below_drew1) | exact HB.out))) : w.heap.size ≤ gb338)); clear HB; have HB := n0_; have BK338 := n1_; have GW338 := n2_; have GE338 := n3_; clear n0_ n1_ n2_ n3_; clear hb hbox hg) | ((with_reducible refine gate_callee (f := 15) rfl ?_); refine goesL_ (some 12) rfl rfl Try.func15 (by kernel_rfl) rfl #[] rfl (by (try simp only [List.map_toArray, List.map_cons, List.map_nil]); first | done | rfl | (simp only [List.length_drop, List.length_take]; rfl)) ?_; (with_reducible refine (arboristlaw12_shown.calls k  true _ A4.out).mono ?_); rintro e w89 ⟨rfl, hb⟩; refine ⟨_, rfl, ?_⟩; have n0_ := Aside0.mk (blk_below (g := gb338) (o := .cells #[.slice A2_0 l2_0.length c2_0, .slice A2_1 l2_1.length c2_1] 25 (0, 0)) (by (with_reducible repeat (first | refine blk_drewN ?_ _ | refine blk_drew ?_ | refine blk_alloc ?_ _)); exact BK338.out) hb); have n1_ := Aside0.mk (below_step (by repeat (first | (with_reducible first | exact HB.out | apply below_alloc | apply pw_below_drewN | apply below_drew1 | refine below_set ?_ GE338.out) | exact HB.out)) hb); clear BK338; clear HB; have BK338 := n0_; have HB := n1_; clear n0_ n1_; (try clear hb); (try clear hb2); (try clear hk); (try clear hi); have hcz90_0 : w89.cell? ⟨gb338, 0, none⟩ = some (.slice A2_0 l2_0.length c2_0) := (blk_cell BK338.out 0).trans rfl; have hcz90_1 : w89.cell? ⟨gb338, 1, none⟩ = some (.slice A2_1 l2_1.length c2_1) := (blk_cell BK338.out 1).trans rfl; have hfz90_0 := blk_frozen BK338.out 0; have hfz90_1 := blk_frozen BK338.out 1) | ((with_reducible refine gate_callee (f := 16) rfl ?_); refine goesL_ (some 16) rfl rfl Try.func16 (by kernel_rfl) rfl #[.agg #[.slice A2_0 l2_0.length c2_0, .slice A2_1 l2_1.length c2_1]] rfl (by (try simp only [List.map_toArray, List.map_cons, List.map_nil]); first | done | rfl | (simp only [List.length_drop, List.length_take]; rfl)) ?_; (with_reducible refine (arboristlaw12_cut.calls k _ _ l2_0 _ _ l2_1 t340 t343 _ ?side1 ?side2 ?side3 ?side4 A6.out).mono ?_); (case side1 => repeat (first | exact (Kd.C_below HR2_0.out HB.out) | (with_reducible refine Kd.C_alloc ?_ _) | (with_reducible refine Kd.C_drewN ?_ _) | (with_reducible refine Kd.C_drew ?_))); (case side2 => exact HC2_0.out); (case side3 => repeat (first | exact (Kd.C_below HR2_1.out HB.out) | (with_reducible refine Kd.C_alloc ?_ _) | (with_reducible refine Kd.C_drewN ?_ _) | (with_reducible refine Kd.C_drew ?_))); (case side4 => exact HC2_1.out); rintro e w91 ⟨v341, v344, rfl, ho0, ho1, hb⟩; refine ⟨_, rfl, ?_⟩; have n0_ := Aside0.mk (Kd.N_lower (Kd.N_mono (ok' := fun k_ => some k_ ≠ (v344 : Value).ownBlock ∧ k_ ≠ gb338) (Kd.S_N (Kd.S_bound ho0)) (fun k_ hk_ => ⟨hk_.1, (Kd.freshB (g := gb338) (o := .cells #[.slice A2_0 l2_0.length c2_0, .slice A2_1 l2_1.length c2_1] 25 (0, 0)) (by (with_reducible repeat (first | refine blk_drewN ?_ _ | refine blk_drew ?_ | refine blk_alloc ?_ _)); exact BK338.out) k_ hk_.2.1)⟩)) (below_size (by repeat (first | (with_reducible first | exact HB.out | apply below_alloc | apply pw_below_drewN | apply below_drew1 | refine below_set ?_ GE338.out) | exact HB.out)))); have n1_ := Aside0.mk (Kd.R_lower ho1 (below_size (by repeat (first | (with_reducible first | exact HB.out | apply below_alloc | apply pw_below_drewN | apply below_drew1 | refine below_set ?_ GE338.out) | exact HB.out)))); have n2_ := Aside0.mk (blk_below (g := gb338) (o := .cells #[.slice A2_0 l2_0.length c2_0, .slice A2_1 l2_1.length c2_1] 25 (0, 0)) (by (with_reducible repeat (first | refine blk_drewN ?_ _ | refine blk_drew ?_ | refine blk_alloc ?_ _)); exact BK338.out) hb); have n3_ := Aside0.mk (below_step (by repeat (first | (with_reducible first | exact HB.out | apply below_alloc | apply pw_below_drewN | apply below_drew1 | refine below_set ?_ GE338.out) | exact HB.out)) hb); clear BK338; clear HB; have HO342 := n0_; have HO345 := n1_; have BK338 := n2_; have HB := n3_; clear n0_ n1_ n2_ n3_; (try clear hb); (try clear hb2); (try clear hk); (try clear hi); (try clear ho0); (try clear ho1); obtain ⟨Ao92, co92, eo92⟩ := Kd.N_slice HO342.out; subst eo92; have hcz93_0 : w91.cell? ⟨gb338, 0, none⟩ = some (.slice A2_0 l2_0.length c2_0) := (blk_cell BK338.out 0).trans rfl; have hcz93_1 : w91.cell? ⟨gb338, 1, none⟩ = some (.slice A2_1 l2_1.length c2_1) := (blk_cell BK338.out 1).trans rfl; have hfz93_0 := blk_frozen BK338.out 0; have hfz93_1 := blk_frozen BK338.out 1; obtain ⟨Ao94, co94, eo94⟩ := Kd.R_slice HO345.out; subst eo94) | ((with_reducible refine gate_store (t := 25) (p := 5) rfl ?_); refine store_event (t := 25) (p := 5) (v := ?vo_w95) (w1 := ((w91.setCell ⟨gb338, 0, none⟩ (.slice Ao92 t340.length co92)).setCell ⟨gb338, 1, none⟩ (.slice Ao94 t343.length co94))) ?hg ?ho ?hn ?hr ?_; (case ho => rfl); (case hg => rfl); (case hn => rfl); (case hr => first | (go_simp; done) | (go_simp; rfl)); intro w95 hw; have n0_ : Aside0 (Kd.N (Kd.slice 3 (Kd.int .i64)) 23 w95 w.heap.size (fun k_ => some k_ ≠ (.slice Ao94 t343.length co94 : Value).ownBlock ∧ k_ ≠ gb338) (.slice Ao92 t340.length co92) t340) := ⟨(by rw [hw]; exact (by (with_reducible repeat (first | apply Kd.N_alloc | apply Kd.N_drewN | apply Kd.N_drew)); exact Kd.N_mono (Kd.N_far (p := ⟨gb338, 1, none⟩) (Kd.N_far (p := ⟨gb338, 0, none⟩) (Kd.N_mono HO342.out (fun k_ hk => (⟨hk, hk.2⟩ : _ ∧ k_ ≠ gb338))) (fun _ hk => hk.2) (.slice Ao92 t340.length co92)) (fun _ hk => hk.2) (.slice Ao94 t343.length co94)) (fun _ hk => ⟨hk.1.1, hk.1.2⟩)))⟩; have n1_ : Aside0 (Kd.R (Kd.int .i64) 3 w95 w.heap.size (fun _ => True) (.slice Ao94 t343.length co94) t343) := ⟨(by rw [hw]; exact (by (with_reducible repeat (first | apply Kd.R_alloc | apply Kd.R_drewN | apply Kd.R_drew)); exact Kd.R_mono (Kd.R_far (p := ⟨gb338, 1, none⟩) (Kd.R_far (p := ⟨gb338, 0, none⟩) (Kd.R_types HO345.out BK338.out (by decide)) (fun _ hk => hk.2) (.slice Ao92 t340.length co92)) (fun _ hk => hk.2) (.slice Ao94 t343.length co94)) (fun _ hk => trivial)))⟩; have n2_ : Aside0 (w95.heap[gb338]? = some (.cells #[.slice Ao92 t340.length co92, .slice Ao94 t343.length co94] 25 (0, 0))) := ⟨(by rw [hw]; exact (by (with_reducible repeat (first | refine blk_drewN ?_ _ | refine blk_drew ?_ | refine blk_alloc ?_ _)); refine blk_put (cs := #[.slice Ao92 t340.length co92, .slice A2_1 l2_1.length c2_1]) ?_ 1 _ rfl; (with_reducible repeat (first | refine blk_drewN ?_ _ | refine blk_drew ?_ | refine blk_alloc ?_ _)); refine blk_put (cs := #[.slice A2_0 l2_0.length c2_0, .slice A2_1 l2_1.length c2_1]) ?_ 0 _ rfl; (with_reducible repeat (first | refine blk_drewN ?_ _ | refine blk_drew ?_ | refine blk_alloc ?_ _)); exact BK338.out))⟩; have n3_ : Aside0 (Below w.heap.size w w95) := ⟨(by rw [hw]; exact (by repeat (first | (with_reducible first | exact HB.out | apply below_alloc | apply pw_below_drewN | apply below_drew1 | refine below_set ?_ GE338.out) | exact HB.out)))⟩; clear hw; clear HO342; clear HO345; clear BK338; clear HB; have HO342 := n0_; have HO345 := n1_; have BK338 := n2_; have HB := n3_; clear n0_ n1_ n2_ n3_) | ((with_reducible refine gate_callee (f := 17) rfl ?_); refine goesL_ (some 18) rfl rfl Try.func17 (by kernel_rfl) rfl #[.slice A1 l1.length c1] rfl (by (try simp only [List.map_toArray, List.map_cons, List.map_nil]); first | done | rfl | (simp only [List.length_drop, List.length_take]; rfl)) ?_; (with_reducible refine (arboristlaw12_scopes.calls k (fun k_ => k_ < w.heap.size) _ _ l1 t346 _ ?side1 A7.out).mono ?_); (case side1 => exact Kd.V_mk HC1.out (Kd.F_below (Kd.C_F (Kd.heap_slice 3 (Kd.heap_int .i64)) HR1.out) (by repeat (first | (with_reducible first | exact HB.out | apply below_alloc | apply pw_below_drewN | apply below_drew1 | refine below_set ?_ GE338.out) | exact HB.out)))); rintro e w96 ⟨v347, rfl, ho0, hb⟩; refine ⟨_, rfl, ?_⟩; have n0_ := Aside0.mk (Kd.N_elder' (by (with_reducible repeat (first | apply Kd.N_alloc | apply Kd.N_drewN | apply Kd.N_drew)); exact HO342.out) (by first | exact Kd.N_base ho0 | exact Kd.N_base (Kd.S_N ho0)) hb); have n1_ := Aside0.mk (Kd.R_below (by (with_reducible repeat (first | apply Kd.R_alloc | apply Kd.R_drewN | apply Kd.R_drew)); exact HO345.out) hb); have n2_ := Aside0.mk (Kd.N_lower (Kd.N_mono (ok' := fun k_ => some k_ ≠ (.slice Ao92 t340.length co92 : Value).ownBlock ∧ some k_ ≠ (.slice Ao94 t343.length co94 : Value).ownBlock ∧ k_ ≠ gb338) ho0 (fun k_ hk_ => ⟨Or.elim hk_ (fun hs_ => fun e_ => Nat.not_le.2 hs_ (Kd.N_base HO342.out k_ e_.symm)) (fun hn_ => (Kd.fresh' (Kd.N_lt (by (with_reducible repeat (first | apply Kd.N_alloc | apply Kd.N_drewN | apply Kd.N_drew)); exact HO342.out)) k_ hn_)), Or.elim hk_ (fun hs_ => fun e_ => Nat.not_le.2 hs_ (Kd.R_base HO345.out k_ e_.symm)) (fun hn_ => (Kd.fresh' (Kd.R_lt (by (with_reducible repeat (first | apply Kd.R_alloc | apply Kd.R_drewN | apply Kd.R_drew)); exact HO345.out)) k_ hn_)), Or.elim hk_ (fun hs_ => fun e_ => Nat.not_le.2 hs_ (by rw [e_]; exact GW338.out)) (fun hn_ => (Kd.freshB (g := gb338) (o := .cells #[.slice Ao92 t340.length co92, .slice Ao94 t343.length co94] 25 (0, 0)) (by (with_reducible repeat (first | refine blk_drewN ?_ _ | refine blk_drew ?_ | refine blk_alloc ?_ _)); exact BK338.out) k_ hn_))⟩)) (below_size (by repeat (first | (with_reducible first | exact HB.out | apply below_alloc | apply pw_below_drewN | apply below_drew1 | refine below_set ?_ GE338.out) | exact HB.out)))); have n3_ := Aside0.mk (blk_below (g := gb338) (o := .cells #[.slice Ao92 t340.length co92, .slice Ao94 t343.length co94] 25 (0, 0)) (by (with_reducible repeat (first | refine blk_drewN ?_ _ | refine blk_drew ?_ | refine blk_alloc ?_ _)); exact BK338.out) hb); have n4_ := Aside0.mk (below_step (by repeat (first | (with_reducible first | exact HB.out | apply below_alloc | apply pw_below_drewN | apply below_drew1 | refine below_set ?_ GE338.out) | exact HB.out)) hb); clear HO342; clear HO345; clear BK338; clear HB; have HO342 := n0_; have HO345 := n1_; have HO348 := n2_; have BK338 := n3_; have HB := n4_; clear n0_ n1_ n2_ n3_ n4_; (try clear hb); (try clear hb2); (try clear hk); (try clear hi); (try clear ho0); have hcz97_0 : w96.cell? ⟨gb338, 0, none⟩ = some (.slice Ao92 t340.length co92) := (blk_cell BK338.out 0).trans rfl; have hcz97_1 : w96.cell? ⟨gb338, 1, none⟩ = some (.slice Ao94 t343.length co94) := (blk_cell BK338.out 1).trans rfl; have hfz97_0 := blk_frozen BK338.out 0; have hfz97_1 := blk_frozen BK338.out 1) | (go_at_call 18; (with_reducible refine (valid_Tree.calls k _ _ t340 _ _ t343 t349 _ ?side1 ?side2 ?side3 ?side4 A87.out).mono ?_); (case side1 => repeat (first | exact (Kd.N_reads' HO342.out).2.2 | (with_reducible refine Kd.C_alloc ?_ _) | (with_reducible refine Kd.C_drewN ?_ _) | (with_reducible refine Kd.C_drew ?_))); (case side2 => exact (Kd.N_reads' HO342.out).2.1); (case side3 => repeat (first | exact (Kd.R_reads' HO345.out).2.2 | (with_reducible refine Kd.C_alloc ?_ _) | (with_reducible refine Kd.C_drewN ?_ _) | (with_reducible refine Kd.C_drew ?_))); (case side4 => exact (Kd.R_reads' HO345.out).2.1); rintro e w98 ⟨rfl, hb⟩; have n0_ := Aside0.mk (Kd.N_below (by (with_reducible repeat (first | apply Kd.N_alloc | apply Kd.N_drewN | apply Kd.N_drew)); exact HO342.out) hb); have n1_ := Aside0.mk (Kd.R_below (by (with_reducible repeat (first | apply Kd.R_alloc | apply Kd.R_drewN | apply Kd.R_drew)); exact HO345.out) hb); have n2_ := Aside0.mk (Kd.N_below (by (with_reducible repeat (first | apply Kd.N_alloc | apply Kd.N_drewN | apply Kd.N_drew)); exact HO348.out) hb); have n3_ := Aside0.mk (blk_below (g := gb338) (o := .cells #[.slice Ao92 t340.length co92, .slice Ao94 t343.length co94] 25 (0, 0)) (by (with_reducible repeat (first | refine blk_drewN ?_ _ | refine blk_drew ?_ | refine blk_alloc ?_ _)); exact BK338.out) hb); have n4_ := Aside0.mk (below_step (by repeat (first | (with_reducible first | exact HB.out | apply below_alloc | apply pw_below_drewN | apply below_drew1 | refine below_set ?_ GE338.out) | exact HB.out)) hb); clear HO342; clear HO345; clear HO348; clear BK338; clear HB; have HO342 := n0_; have HO345 := n1_; have HO348 := n2_; have BK338 := n3_; have HB := n4_; clear n0_ n1_ n2_ n3_ n4_; (try clear hb); (try clear hb2); (try clear hk); (try clear hi)))
      go_ret
      exact ⟨by first | rfl | (simp [errW_none, errW_some] <;> rfl) | (simp only [← hji5]; first | rfl | (simp [errW_none, errW_some] <;> rfl)) | (simp [*, errW_none, errW_some] <;> rfl), by repeat (first | (with_reducible first | exact HB.out | apply below_alloc | apply pw_below_drewN | apply below_drew1 | refine below_set ?_ GE338.out) | exact HB.out)⟩
    · replace c86 := Bool.eq_false_iff.mpr c86
      subst c86
      have H1 : (some false) = some r := by rw [if_neg (show ¬ (false = true) by decide)] at H; exact H
      clear H
      have H := H1
      clear H1
      exact absurd ((Option.some.inj H).trans HT_.out) (by decide)

/-- THE ONE PURE STATEMENT of arboristlaw12_ValidTurned. -/
def arboristlaw12_ValidTurned.Pure : Prop := ∀ (a0 : Int) (l1 : List (List Int)) (l2_0 : List (List Int)) (l2_1 : List Int), (Lit.int .i64 a0).wf = true → (l1.length ≤ maxLen ∧ ∀ z0 ∈ l1, (z0.length ≤ maxLen ∧ ∀ z1 ∈ z0, (Lit.int .i64 z1).wf = true)) → (l2_0.length ≤ maxLen ∧ ∀ z0 ∈ l2_0, (z0.length ≤ maxLen ∧ ∀ z1 ∈ z0, (Lit.int .i64 z1).wf = true)) → (l2_1.length ≤ maxLen ∧ ∀ z0 ∈ l2_1, (Lit.int .i64 z0).wf = true) → ∃ k, arboristlaw12_ValidTurned.f k a0 l1 l2_0 l2_1 = some true

end Go.Proofs.Ytpmfdggbccbfaaa.Pr
