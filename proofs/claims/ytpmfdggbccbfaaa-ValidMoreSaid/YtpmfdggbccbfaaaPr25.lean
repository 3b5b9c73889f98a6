-- Printed by a program of this session's own (wip/tools/pp.py) over the kit's print.py; Lean checks it.
import Derived.Test.YtpmfdggbccbfaaaPr1
import Derived.Test.YtpmfdggbccbfaaaPr0
import Derived.Test.YtpmfdggbccbfaaaPr13
import Derived.Test.YtpmfdggbccbfaaaPr14
import Derived.Test.YtpmfdggbccbfaaaPr15
namespace Go.Proofs.Ytpmfdggbccbfaaa.Pr
open Go.RowKit Go.Proofs.YtpmfdggbccbfaaaW.PrintWords Go.Proofs.YtpmfdggbccbfaaaW.PrintLast Go.Proofs.YtpmfdggbccbfaaaW.PrintMore
attribute [local go_sem] max2_int min2_int max_two min_two max_three min_three max_four min_four   -- for this text's walks alone
set_option linter.unusedVariables false
set_option linter.unusedSimpArgs false

/-! ### arboristlaw12_ValidMore: function 6 -/
mutual
def arboristlaw12_ValidMore.j0 : Nat → Int → List (List Int) → Int → Bool → Bool → Bool → List (List Int) → List Int → Option (Bool)
  | 0, _, _, _, _, _, _, _, _ => none
  | k + 1, x0, x1, x3, x9, x10, x37, x305000, x305001 => if x37 = true then (some false) else (if (x305000.length : Int) = 0 then (arboristlaw12_ValidMore.j1 k x0 x1 x3 x9 x10 true x305000 x305001) else (arboristlaw12_ValidMore.j1 k x0 x1 x3 x9 x10 ((x305001.length : Int) != (x305000.length : Int)) x305000 x305001))
def arboristlaw12_ValidMore.j1 : Nat → Int → List (List Int) → Int → Bool → Bool → Bool → List (List Int) → List Int → Option (Bool)
  | 0, _, _, _, _, _, _, _, _ => none
  | k + 1, x0, x1, x3, x9, x10, x50, x305000, x305001 => if x50 = true then (some x9) else (arboristlaw12_ValidMore.l0 k x0 x1 x3 x9 x10 0 x305000 x305001)
def arboristlaw12_ValidMore.l0 : Nat → Int → List (List Int) → Int → Bool → Bool → Int → List (List Int) → List Int → Option (Bool)
  | 0, _, _, _, _, _, _, _, _ => none
  | k + 1, x0, x1, x3, x9, x10, x11, x305000, x305001 => if x11 < (x305001.length : Int) then (if 0 ≤ x11 then (if (rd x305001 x11) ≥ (x305000.length : Int) then (some x9) else (arboristlaw12_ValidMore.l0 k x0 x1 x3 x9 x10 (wrap64 (x11 + 1)) x305000 x305001)) else (none)) else (if (x305000.length : Int) = 0 then (none) else ((arboristlaw12_cut.f k x305000 x305001).bind fun bt323 => (if 0 ≤ (Int.tmod (Go.bits .and .i64 x3 65535) (x305000.length : Int)) then (if (Int.tmod (Go.bits .and .i64 x3 65535) (x305000.length : Int)) < (x305000.length : Int) then (if bt323.1.length < 5864062014805 then (if bt323.2.length < 17592186044416 then (if x9 = true then ((valid_Check.f k x0 x1 (bt323.1 ++ [rd_L1 x305000 (Int.tmod (Go.bits .and .i64 x3 65535) (x305000.length : Int))]) (bt323.2 ++ [Int.tmod (Go.bits .and .i64 x3 65535) (x305000.length : Int)])).bind fun t337 => (some (t337 == x10))) else (some false)) else (none)) else (none)) else (none)) else (none))))
end
def arboristlaw12_ValidMore.f (k : Nat) (a0 : Int) (l1 : List (List Int)) (l2_0 : List (List Int)) (l2_1 : List Int) (a3 : Int) : Option (Bool) := (arboristlaw12_shown.f k).bind fun t305 => ((arboristlaw12_cut.f k l2_0 l2_1).bind fun bt306 => ((arboristlaw12_scopes.f k l1).bind fun t312 => ((valid_Check.f k (mn a0 30) t312 bt306.1 bt306.2).bind fun t315 => (if t315 = true then (if (t312.length : Int) > 0 then (if 1 ≤ (t312.length : Int) then ((valid_Check.f k (mn a0 30) (t312.drop 1) bt306.1 bt306.2).bind fun t321 => (arboristlaw12_ValidMore.j0 k (mn a0 30) t312 a3 t305 t315 (!t321) bt306.1 bt306.2)) else (none)) else (arboristlaw12_ValidMore.j0 k (mn a0 30) t312 a3 t305 t315 false bt306.1 bt306.2)) else (arboristlaw12_ValidMore.j0 k (mn a0 30) t312 a3 t305 t315 false bt306.1 bt306.2)))))
theorem arboristlaw12_ValidMore.mono_l : ∀ k, (∀ y0 y1 y2 y3 y4 y5 y6 y7, LeO (arboristlaw12_ValidMore.j0 k y0 y1 y2 y3 y4 y5 y6 y7) (arboristlaw12_ValidMore.j0 (k + 1) y0 y1 y2 y3 y4 y5 y6 y7)) ∧ (∀ y0 y1 y2 y3 y4 y5 y6 y7, LeO (arboristlaw12_ValidMore.j1 k y0 y1 y2 y3 y4 y5 y6 y7) (arboristlaw12_ValidMore.j1 (k + 1) y0 y1 y2 y3 y4 y5 y6 y7)) ∧ (∀ y0 y1 y2 y3 y4 y5 y6 y7, LeO (arboristlaw12_ValidMore.l0 k y0 y1 y2 y3 y4 y5 y6 y7) (arboristlaw12_ValidMore.l0 (k + 1) y0 y1 y2 y3 y4 y5 y6 y7))
  | 0 => ⟨fun _ _ _ _ _ _ _ _ r h => by simp [arboristlaw12_ValidMore.j0] at h, fun _ _ _ _ _ _ _ _ r h => by simp [arboristlaw12_ValidMore.j1] at h, fun _ _ _ _ _ _ _ _ r h => by simp [arboristlaw12_ValidMore.l0] at h⟩
  | k + 1 => by
    obtain ⟨ih0, ih1, ih2⟩ := arboristlaw12_ValidMore.mono_l k
    refine ⟨?_, ?_, ?_⟩
    all_goals intros
    all_goals (first | unfold arboristlaw12_ValidMore.j0 | unfold arboristlaw12_ValidMore.j1 | unfold arboristlaw12_ValidMore.l0)
    all_goals repeat' first
    | (with_reducible exact ih0 _ _ _ _ _ _ _ _)
    | (with_reducible exact ih1 _ _ _ _ _ _ _ _)
    | (with_reducible exact ih2 _ _ _ _ _ _ _ _)
    | (with_reducible exact arboristlaw12_cut.mono _ _ _)
    | (with_reducible exact arboristlaw12_scopes.mono _ _)
    | (with_reducible exact arboristlaw12_shown.mono _)
    | (with_reducible exact valid_Check.mono _ _ _ _ _)
    | (with_reducible exact LeO.refl _)
    | (with_reducible exact LeO.none _)
    | (with_reducible refine LeO.ite ?_ ?_)
    | (with_reducible refine LeO.bind ?_ (fun _ => ?_))
    | exact ih0 _ _ _ _ _ _ _ _
    | exact ih1 _ _ _ _ _ _ _ _
    | exact ih2 _ _ _ _ _ _ _ _
    | exact arboristlaw12_cut.mono _ _ _
    | exact arboristlaw12_scopes.mono _ _
    | exact arboristlaw12_shown.mono _
    | exact valid_Check.mono _ _ _ _ _
    | exact LeO.none _
    | refine LeO.ite ?_ ?_
    | refine LeO.bind ?_ (fun _ => ?_)
theorem arboristlaw12_ValidMore.mono : ∀ a0 a1 a2 a3 a4 k, LeO (arboristlaw12_ValidMore.f k a0 a1 a2 a3 a4) (arboristlaw12_ValidMore.f (k + 1) a0 a1 a2 a3 a4) := by
  intro a0 a1 a2 a3 a4 k
  obtain ⟨ih0, ih1, ih2⟩ := arboristlaw12_ValidMore.mono_l k
  unfold arboristlaw12_ValidMore.f
  repeat' first
      | (with_reducible exact ih0 _ _ _ _ _ _ _ _)
      | (with_reducible exact ih1 _ _ _ _ _ _ _ _)
      | (with_reducible exact ih2 _ _ _ _ _ _ _ _)
      | (with_reducible exact arboristlaw12_cut.mono _ _ _)
      | (with_reducible exact arboristlaw12_scopes.mono _ _)
      | (with_reducible exact arboristlaw12_shown.mono _)
      | (with_reducible exact valid_Check.mono _ _ _ _ _)
      | (with_reducible exact LeO.refl _)
      | (with_reducible exact LeO.none _)
      | (with_reducible refine LeO.ite ?_ ?_)
      | (with_reducible refine LeO.bind ?_ (fun _ => ?_))
      | exact ih0 _ _ _ _ _ _ _ _
      | exact ih1 _ _ _ _ _ _ _ _
      | exact ih2 _ _ _ _ _ _ _ _
      | exact arboristlaw12_cut.mono _ _ _
      | exact arboristlaw12_scopes.mono _ _
      | exact arboristlaw12_shown.mono _
      | exact valid_Check.mono _ _ _ _ _
      | exact LeO.none _
      | refine LeO.ite ?_ ?_
      | refine LeO.bind ?_ (fun _ => ?_)
def arboristlaw12_ValidMore.T6 : Bool × List (List Nat × List Nat) := (true, [([], []), ([0], [0]), ([1], [1]), ([2, 1], [1, 2]), ([3, 1], [1, 3]), ([1, 4], [1, 4]), ([5, 1], [5]), ([6], [6]), ([6], [6]), ([8, 6], [6, 8]), ([6], [6]), ([7, 9, 10, 6, 6], [6, 7, 9, 10]), ([11, 6], [6, 11]), ([6, 12], [6, 12])])
def arboristlaw12_ValidMore.B6 : List Nat := [0, 1, 3, 7, 15, 31, 63, 127, 127, 383, 127, 2047, 4095, 8191]
theorem arboristlaw12_ValidMore.tab6 : rtab .any (opsOf Try.f6 6) = arboristlaw12_ValidMore.T6 := by kernel_rfl
theorem arboristlaw12_ValidMore.bits6 : waitsOk arboristlaw12_ValidMore.T6.2 arboristlaw12_ValidMore.B6 = true := by kernel_rfl
def arboristlaw12_ValidMore.T13 : Bool × List (List Nat × List Nat) := (true, [([], []), ([0], [0]), ([], []), ([1, 2], [1, 2]), ([3], [3]), ([], []), ([5], [5]), ([6], [6]), ([4, 7], [4, 7])])
def arboristlaw12_ValidMore.B13 : List Nat := [0, 1, 0, 7, 15, 0, 32, 96, 255]
theorem arboristlaw12_ValidMore.tab13 : rtab .any (opsOf Try.f6 13) = arboristlaw12_ValidMore.T13 := by kernel_rfl
theorem arboristlaw12_ValidMore.bits13 : waitsOk arboristlaw12_ValidMore.T13.2 arboristlaw12_ValidMore.B13 = true := by kernel_rfl
def arboristlaw12_ValidMore.T17 : Bool × List (List Nat × List Nat) := (true, [([], []), ([0], [0]), ([], []), ([2], [2]), ([], []), ([3, 4], [3, 4]), ([5], [5]), ([6], [6]), ([1, 7], [1, 7]), ([0, 1, 2, 3, 4, 5, 6, 7, 8], []), ([9, 8, 8, 0, 1, 2, 3, 4, 5, 6, 7, 8], [8, 9])])
def arboristlaw12_ValidMore.B17 : List Nat := [0, 1, 0, 4, 0, 28, 60, 124, 255, 511, 1023]
theorem arboristlaw12_ValidMore.tab17 : rtab .any (opsOf Try.f6 17) = arboristlaw12_ValidMore.T17 := by kernel_rfl
theorem arboristlaw12_ValidMore.bits17 : waitsOk arboristlaw12_ValidMore.T17.2 arboristlaw12_ValidMore.B17 = true := by kernel_rfl
set_option maxHeartbeats 8000000 in
set_option maxRecDepth 100000 in
theorem arboristlaw12_ValidMore.calls (k : Nat) (a0 : Int) (A1 : Option Addr) (c1 : Nat) (l1 : List (List Int)) (A2_0 : Option Addr) (c2_0 : Nat) (l2_0 : List (List Int)) (A2_1 : Option Addr) (c2_1 : Nat) (l2_1 : List Int) (a3 : Int) (r : Bool) (w : World) (hr1 : Kd.C (Kd.slice 3 (Kd.int .i64)) w A1 l1.length l1) (hc1 : l1.length ≤ c1) (hr2_0 : Kd.C (Kd.slice 3 (Kd.int .i64)) w A2_0 l2_0.length l2_0) (hc2_0 : l2_0.length ≤ c2_0) (hr2_1 : Kd.C (Kd.int .i64) w A2_1 l2_1.length l2_1) (hc2_1 : l2_1.length ≤ c2_1) (hT : r = true) (h : arboristlaw12_ValidMore.f k a0 l1 l2_0 l2_1 a3 = some r) :
    Calls Try.prog 6 #[.int .i64 a0, .slice A1 l1.length c1, .agg #[.slice A2_0 l2_0.length c2_0, .slice A2_1 l2_1.length c2_1], .int .i64 a3] w fun e w' => e = .returned (.bool r) ∧ Below w.heap.size w w' := by
  have HT_ := Aside0.mk (show r = true from hT)
  clear hT
  have hu25 := Try.underlying25
  have HR1 := Aside0.mk hr1
  have HC1 := Aside0.mk hc1
  clear hr1 hc1
  have HR2_0 := Aside0.mk hr2_0
  have HC2_0 := Aside0.mk hc2_0
  clear hr2_0 hc2_0
  have HR2_1 := Aside0.mk hr2_1
  have HC2_1 := Aside0.mk hc2_1
  clear hr2_1 hc2_1
  have HB := Aside0.mk (Below.refl w.heap.size w)
  have H : ((arboristlaw12_shown.f k).bind fun t305 => ((arboristlaw12_cut.f k l2_0 l2_1).bind fun bt306 => ((arboristlaw12_scopes.f k l1).bind fun t312 => ((valid_Check.f k (mn a0 30) t312 bt306.1 bt306.2).bind fun t315 => (if t315 = true then (if (t312.length : Int) > 0 then (if 1 ≤ (t312.length : Int) then ((valid_Check.f k (mn a0 30) (t312.drop 1) bt306.1 bt306.2).bind fun t321 => (arboristlaw12_ValidMore.j0 k (mn a0 30) t312 a3 t305 t315 (!t321) bt306.1 bt306.2)) else (none)) else (arboristlaw12_ValidMore.j0 k (mn a0 30) t312 a3 t305 t315 false bt306.1 bt306.2)) else (arboristlaw12_ValidMore.j0 k (mn a0 30) t312 a3 t305 t315 false bt306.1 bt306.2)))))) = some r := h
  clear h
  replace H := Option.bind_eq_some_iff.mp H
  obtain ⟨t305, A50, H⟩ := H
  replace H : ((arboristlaw12_cut.f k l2_0 l2_1).bind fun bt306 => ((arboristlaw12_scopes.f k l1).bind fun t312 => ((valid_Check.f k (mn a0 30) t312 bt306.1 bt306.2).bind fun t315 => (if t315 = true then (if (t312.length : Int) > 0 then (if 1 ≤ (t312.length : Int) then ((valid_Check.f k (mn a0 30) (t312.drop 1) bt306.1 bt306.2).bind fun t321 => (arboristlaw12_ValidMore.j0 k (mn a0 30) t312 a3 t305 t315 (!t321) bt306.1 bt306.2)) else (none)) else (arboristlaw12_ValidMore.j0 k (mn a0 30) t312 a3 t305 t315 false bt306.1 bt306.2)) else (arboristlaw12_ValidMore.j0 k (mn a0 30) t312 a3 t305 t315 false bt306.1 bt306.2))))) = some r := H
  have A5 := Aside0.mk A50
  clear A50
  obtain ⟨ji6, hji6⟩ : ∃ j_ : Int, (mn a0 30) = j_ := ⟨_, rfl⟩
  replace H : ((arboristlaw12_cut.f k l2_0 l2_1).bind fun bt306 => ((arboristlaw12_scopes.f k l1).bind fun t312 => ((valid_Check.f k (ji6) t312 bt306.1 bt306.2).bind fun t315 => (if t315 = true then (if (t312.length : Int) > 0 then (if 1 ≤ (t312.length : Int) then ((valid_Check.f k (ji6) (t312.drop 1) bt306.1 bt306.2).bind fun t321 => (arboristlaw12_ValidMore.j0 k ji6 t312 a3 t305 t315 (!t321) bt306.1 bt306.2)) else (none)) else (arboristlaw12_ValidMore.j0 k ji6 t312 a3 t305 t315 false bt306.1 bt306.2)) else (arboristlaw12_ValidMore.j0 k ji6 t312 a3 t305 t315 false bt306.1 bt306.2))))) = some r := by first | (rw [hji6] at H; exact H) | (simp only [hji6] at H ⊢; exact H)
  (try rw [hji6] at A5)
  (try (have hji6h : ji6 ≤ 30 := by (rw [← hji6]; unfold mn; (repeat' split) <;> omega)))
  (try (have hji6g : ji6 ≤ 64 := by omega))
  have hji6_ : (if 30 < a0 then 30 else a0) = ji6 := hji6
  replace H := Option.bind_eq_some_iff.mp H
  obtain ⟨⟨t306, t309⟩, A70, H⟩ := H
  replace H : ((arboristlaw12_scopes.f k l1).bind fun t312 => ((valid_Check.f k (ji6) t312 t306 t309).bind fun t315 => (if t315 = true then (if (t312.length : Int) > 0 then (if 1 ≤ (t312.length : Int) then ((valid_Check.f k (ji6) (t312.drop 1) t306 t309).bind fun t321 => (arboristlaw12_ValidMore.j0 k ji6 t312 a3 t305 t315 (!t321) t306 t309)) else (none)) else (arboristlaw12_ValidMore.j0 k ji6 t312 a3 t305 t315 false t306 t309)) else (arboristlaw12_ValidMore.j0 k ji6 t312 a3 t305 t315 false t306 t309)))) = some r := H
  have A7 := Aside0.mk A70
  clear A70
  replace H := Option.bind_eq_some_iff.mp H
  obtain ⟨t312, A80, H⟩ := H
  replace H : ((valid_Check.f k (ji6) t312 t306 t309).bind fun t315 => (if t315 = true then (if (t312.length : Int) > 0 then (if 1 ≤ (t312.length : Int) then ((valid_Check.f k (ji6) (t312.drop 1) t306 t309).bind fun t321 => (arboristlaw12_ValidMore.j0 k ji6 t312 a3 t305 t315 (!t321) t306 t309)) else (none)) else (arboristlaw12_ValidMore.j0 k ji6 t312 a3 t305 t315 false t306 t309)) else (arboristlaw12_ValidMore.j0 k ji6 t312 a3 t305 t315 false t306 t309))) = some r := H
  have A8 := Aside0.mk A80
  clear A80
  replace H := Option.bind_eq_some_iff.mp H
  obtain ⟨t315, A90, H⟩ := H
  replace H : (if t315 = true then (if (t312.length : Int) > 0 then (if 1 ≤ (t312.length : Int) then ((valid_Check.f k (ji6) (t312.drop 1) t306 t309).bind fun t321 => (arboristlaw12_ValidMore.j0 k ji6 t312 a3 t305 t315 (!t321) t306 t309)) else (none)) else (arboristlaw12_ValidMore.j0 k ji6 t312 a3 t305 t315 false t306 t309)) else (arboristlaw12_ValidMore.j0 k ji6 t312 a3 t305 t315 false t306 t309)) = some r := H
  have A9 := Aside0.mk A90
  clear A90
  have HC10 := Aside0.mk H
  clear H
  go_enter Try.func6, Try.ntmps6
  go_upto_region 6 with (first | ((with_reducible refine gate_dst (N := 6) rfl ?_); (try (refine gate_guard (by rfl) ?_; dsimp only)); refine box_event ?hg (N := 6) ?hd (cs := #[.slice A2_0 l2_0.length c2_0, .slice A2_1 l2_1.length c2_1]) (t := 25) ?hr ?_; (case hd => rfl); (case hg => rfl); (case hr => first | (go_simp; done) | (go_simp; rfl)); intro gb304 hg w11 hbox hb; have n0_ := Aside0.mk (below_step (by repeat (first | (with_reducible first | exact HB.out | apply below_alloc | apply pw_below_drewN | apply below_drew1) | exact HB.out)) hb); have n1_ := Aside0.mk (hbox); have n2_ := Aside0.mk ((by rw [hg]; exact (below_size (by repeat (first | (with_reducible first | exact HB.out | apply below_alloc | apply pw_below_drewN | apply below_drew1) | exact HB.out))) : w.heap.size ≤ gb304)); have n3_ := Aside0.mk ((by rw [hg]; exact (below_size (by repeat (first | (with_reducible first | exact HB.out | apply below_alloc | apply pw_below_drewN | apply below_drew1) | exact HB.out))) : w.heap.size ≤ gb304)); clear HB; have HB := n0_; have BK304 := n1_; have GW304 := n2_; have GE304 := n3_; clear n0_ n1_ n2_ n3_; clear hb hbox hg) | ((with_reducible refine gate_callee (f := 15) rfl ?_); refine goesL_ (some 13) rfl rfl Try.func15 (by kernel_rfl) rfl #[] rfl (by (try simp only [List.map_toArray, List.map_cons, List.map_nil]); first | done | rfl | (simp only [List.length_drop, List.length_take]; rfl)) ?_; (with_reducible refine (arboristlaw12_shown.calls k  t305 _ A5.out).mono ?_); rintro e w12 ⟨rfl, hb⟩; refine ⟨_, rfl, ?_⟩; have n0_ := Aside0.mk (blk_below (g := gb304) (o := .cells #[.slice A2_0 l2_0.length c2_0, .slice A2_1 l2_1.length c2_1] 25 (0, 0)) (by (with_reducible repeat (first | refine blk_drewN ?_ _ | refine blk_drew ?_ | refine blk_alloc ?_ _)); exact BK304.out) hb); have n1_ := Aside0.mk (below_step (by repeat (first | (with_reducible first | exact HB.out | apply below_alloc | apply pw_below_drewN | apply below_drew1 | refine below_set ?_ GE304.out) | exact HB.out)) hb); clear BK304; clear HB; have BK304 := n0_; have HB := n1_; clear n0_ n1_; (try clear hb); (try clear hb2); (try clear hk); (try clear hi); have hcz13_0 : w12.cell? ⟨gb304, 0, none⟩ = some (.slice A2_0 l2_0.length c2_0) := (blk_cell BK304.out 0).trans rfl; have hcz13_1 : w12.cell? ⟨gb304, 1, none⟩ = some (.slice A2_1 l2_1.length c2_1) := (blk_cell BK304.out 1).trans rfl; have hfz13_0 := blk_frozen BK304.out 0; have hfz13_1 := blk_frozen BK304.out 1) | ((with_reducible refine gate_callee (f := 16) rfl ?_); refine goesL_ (some 17) rfl rfl Try.func16 (by kernel_rfl) rfl #[.agg #[.slice A2_0 l2_0.length c2_0, .slice A2_1 l2_1.length c2_1]] rfl (by (try simp only [List.map_toArray, List.map_cons, List.map_nil]); first | done | rfl | (simp only [List.length_drop, List.length_take]; rfl)) ?_; (with_reducible refine (arboristlaw12_cut.calls k _ _ l2_0 _ _ l2_1 t306 t309 _ ?side1 ?side2 ?side3 ?side4 A7.out).mono ?_); (case side1 => repeat (first | exact (Kd.C_below HR2_0.out HB.out) | (with_reducible refine Kd.C_alloc ?_ _) | (with_reducible refine Kd.C_drewN ?_ _) | (with_reducible refine Kd.C_drew ?_))); (case side2 => exact HC2_0.out); (case side3 => repeat (first | exact (Kd.C_below HR2_1.out HB.out) | (with_reducible refine Kd.C_alloc ?_ _) | (with_reducible refine Kd.C_drewN ?_ _) | (with_reducible refine Kd.C_drew ?_))); (case side4 => exact HC2_1.out); rintro e w14 ⟨v307, v310, rfl, ho0, ho1, hb⟩; refine ⟨_, rfl, ?_⟩; have n0_ := Aside0.mk (Kd.N_lower (Kd.N_mono (ok' := fun k_ => some k_ ≠ (v310 : Value).ownBlock ∧ k_ ≠ gb304) (Kd.S_N (Kd.S_bound ho0)) (fun k_ hk_ => ⟨hk_.1, (Kd.freshB (g := gb304) (o := .cells #[.slice A2_0 l2_0.length c2_0, .slice A2_1 l2_1.length c2_1] 25 (0, 0)) (by (with_reducible repeat (first | refine blk_drewN ?_ _ | refine blk_drew ?_ | refine blk_alloc ?_ _)); exact BK304.out) k_ hk_.2.1)⟩)) (below_size (by repeat (first | (with_reducible first | exact HB.out | apply below_alloc | apply pw_below_drewN | apply below_drew1 | refine below_set ?_ GE304.out) | exact HB.out)))); have n1_ := Aside0.mk (Kd.R_lower ho1 (below_size (by repeat (first | (with_reducible first | exact HB.out | apply below_alloc | apply pw_below_drewN | apply below_drew1 | refine below_set ?_ GE304.out) | exact HB.out)))); have n2_ := Aside0.mk (blk_below (g := gb304) (o := .cells #[.slice A2_0 l2_0.length c2_0, .slice A2_1 l2_1.length c2_1] 25 (0, 0)) (by (with_reducible repeat (first | refine blk_drewN ?_ _ | refine blk_drew ?_ | refine blk_alloc ?_ _)); exact BK304.out) hb); have n3_ := Aside0.mk (below_step (by repeat (first | (with_reducible first | exact HB.out | apply below_alloc | apply pw_below_drewN | apply below_drew1 | refine below_set ?_ GE304.out) | exact HB.out)) hb); clear BK304; clear HB; have HO308 := n0_; have HO311 := n1_; have BK304 := n2_; have HB := n3_; clear n0_ n1_ n2_ n3_; (try clear hb); (try clear hb2); (try clear hk); (try clear hi); (try clear ho0); (try clear ho1); obtain ⟨Ao15, co15, eo15⟩ := Kd.N_slice HO308.out; subst eo15; have hcz16_0 : w14.cell? ⟨gb304, 0, none⟩ = some (.slice A2_0 l2_0.length c2_0) := (blk_cell BK304.out 0).trans rfl; have hcz16_1 : w14.cell? ⟨gb304, 1, none⟩ = some (.slice A2_1 l2_1.length c2_1) := (blk_cell BK304.out 1).trans rfl; have hfz16_0 := blk_frozen BK304.out 0; have hfz16_1 := blk_frozen BK304.out 1; obtain ⟨Ao17, co17, eo17⟩ := Kd.R_slice HO311.out; subst eo17) | ((with_reducible refine gate_store (t := 25) (p := 6) rfl ?_); refine store_event (t := 25) (p := 6) (v := ?vo_w18) (w1 := ((w14.setCell ⟨gb304, 0, none⟩ (.slice Ao15 t306.length co15)).setCell ⟨gb304, 1, none⟩ (.slice Ao17 t309.length co17))) ?hg ?ho ?hn ?hr ?_; (case ho => rfl); (case hg => rfl); (case hn => rfl); (case hr => first | (go_simp; done) | (go_simp; rfl)); intro w18 hw; have n0_ : Aside0 (Kd.N (Kd.slice 3 (Kd.int .i64)) 23 w18 w.heap.size (fun k_ => some k_ ≠ (.slice Ao17 t309.length co17 : Value).ownBlock ∧ k_ ≠ gb304) (.slice Ao15 t306.length co15) t306) := ⟨(by rw [hw]; exact (by (with_reducible repeat (first | apply Kd.N_alloc | apply Kd.N_drewN | apply Kd.N_drew)); exact Kd.N_mono (Kd.N_far (p := ⟨gb304, 1, none⟩) (Kd.N_far (p := ⟨gb304, 0, none⟩) (Kd.N_mono HO308.out (fun k_ hk => (⟨hk, hk.2⟩ : _ ∧ k_ ≠ gb304))) (fun _ hk => hk.2) (.slice Ao15 t306.length co15)) (fun _ hk => hk.2) (.slice Ao17 t309.length co17)) (fun _ hk => ⟨hk.1.1, hk.1.2⟩)))⟩; have n1_ : Aside0 (Kd.R (Kd.int .i64) 3 w18 w.heap.size (fun _ => True) (.slice Ao17 t309.length co17) t309) := ⟨(by rw [hw]; exact (by (with_reducible repeat (first | apply Kd.R_alloc | apply Kd.R_drewN | apply Kd.R_drew)); exact Kd.R_mono (Kd.R_far (p := ⟨gb304, 1, none⟩) (Kd.R_far (p := ⟨gb304, 0, none⟩) (Kd.R_types HO311.out BK304.out (by decide)) (fun _ hk => hk.2) (.slice Ao15 t306.length co15)) (fun _ hk => hk.2) (.slice Ao17 t309.length co17)) (fun _ hk => trivial)))⟩; have n2_ : Aside0 (w18.heap[gb304]? = some (.cells #[.slice Ao15 t306.length co15, .slice Ao17 t309.length co17] 25 (0, 0))) := ⟨(by rw [hw]; exact (by (with_reducible repeat (first | refine blk_drewN ?_ _ | refine blk_drew ?_ | refine blk_alloc ?_ _)); refine blk_put (cs := #[.slice Ao15 t306.length co15, .slice A2_1 l2_1.length c2_1]) ?_ 1 _ rfl; (with_reducible repeat (first | refine blk_drewN ?_ _ | refine blk_drew ?_ | refine blk_alloc ?_ _)); refine blk_put (cs := #[.slice A2_0 l2_0.length c2_0, .slice A2_1 l2_1.length c2_1]) ?_ 0 _ rfl; (with_reducible repeat (first | refine blk_drewN ?_ _ | refine blk_drew ?_ | refine blk_alloc ?_ _)); exact BK304.out))⟩; have n3_ : Aside0 (Below w.heap.size w w18) := ⟨(by rw [hw]; exact (by repeat (first | (with_reducible first | exact HB.out | apply below_alloc | apply pw_below_drewN | apply below_drew1 | refine below_set ?_ GE304.out) | exact HB.out)))⟩; clear hw; clear HO308; clear HO311; clear BK304; clear HB; have HO308 := n0_; have HO311 := n1_; have BK304 := n2_; have HB := n3_; clear n0_ n1_ n2_ n3_) | ((with_reducible refine gate_callee (f := 17) rfl ?_); refine goesL_ (some 19) rfl rfl Try.func17 (by kernel_rfl) rfl #[.slice A1 l1.length c1] rfl (by (try simp only [List.map_toArray, List.map_cons, List.map_nil]); first | done | rfl | (simp only [List.length_drop, List.length_take]; rfl)) ?_; (with_reducible refine (arboristlaw12_scopes.calls k (fun k_ => k_ < w.heap.size) _ _ l1 t312 _ ?side1 A8.out).mono ?_); (case side1 => exact Kd.V_mk HC1.out (Kd.F_below (Kd.C_F (Kd.heap_slice 3 (Kd.heap_int .i64)) HR1.out) (by repeat (first | (with_reducible first | exact HB.out | apply below_alloc | apply pw_below_drewN | apply below_drew1 | refine below_set ?_ GE304.out) | exact HB.out)))); rintro e w19 ⟨v313, rfl, ho0, hb⟩; refine ⟨_, rfl, ?_⟩; have n0_ := Aside0.mk (Kd.N_elder' (by (with_reducible repeat (first | apply Kd.N_alloc | apply Kd.N_drewN | apply Kd.N_drew)); exact HO308.out) (by first | exact Kd.N_base ho0 | exact Kd.N_base (Kd.S_N ho0)) hb); have n1_ := Aside0.mk (Kd.R_below (by (with_reducible repeat (first | apply Kd.R_alloc | apply Kd.R_drewN | apply Kd.R_drew)); exact HO311.out) hb); have n2_ := Aside0.mk (Kd.N_lower (Kd.N_mono (ok' := fun k_ => some k_ ≠ (.slice Ao15 t306.length co15 : Value).ownBlock ∧ some k_ ≠ (.slice Ao17 t309.length co17 : Value).ownBlock ∧ k_ ≠ gb304) ho0 (fun k_ hk_ => ⟨Or.elim hk_ (fun hs_ => fun e_ => Nat.not_le.2 hs_ (Kd.N_base HO308.out k_ e_.symm)) (fun hn_ => (Kd.fresh' (Kd.N_lt (by (with_reducible repeat (first | apply Kd.N_alloc | apply Kd.N_drewN | apply Kd.N_drew)); exact HO308.out)) k_ hn_)), Or.elim hk_ (fun hs_ => fun e_ => Nat.not_le.2 hs_ (Kd.R_base HO311.out k_ e_.symm)) (fun hn_ => (Kd.fresh' (Kd.R_lt (by (with_reducible repeat (first | apply Kd.R_alloc | apply Kd.R_drewN | apply Kd.R_drew)); exact HO311.out)) k_ hn_)), Or.elim hk_ (fun hs_ => fun e_ => Nat.not_le.2 hs_ (by rw [e_]; exact GW304.out)) (fun hn_ => (Kd.freshB (g := gb304) (o := .cells #[.slice Ao15 t306.length co15, .slice Ao17 t309.length co17] 25 (0, 0)) (by (with_reducible repeat (first | refine blk_drewN ?_ _ | refine blk_drew ?_ | refine blk_alloc ?_ _)); exact BK304.out) k_ hn_))⟩)) (below_size (by repeat (first | (with_reducible first | exact HB.out | apply below_alloc | apply pw_below_drewN | apply below_drew1 | refine below_set ?_ GE304.out) | exact HB.out)))); have n3_ := Aside0.mk (blk_below (g := gb304) (o := .cells #[.slice Ao15 t306.length co15, .slice Ao17 t309.length co17] 25 (0, 0)) (by (with_reducible repeat (first | refine blk_drewN ?_ _ | refine blk_drew ?_ | refine blk_alloc ?_ _)); exact BK304.out) hb); have n4_ := Aside0.mk (below_step (by repeat (first | (with_reducible first | exact HB.out | apply below_alloc | apply pw_below_drewN | apply below_drew1 | refine below_set ?_ GE304.out) | exact HB.out)) hb); clear HO308; clear HO311; clear BK304; clear HB; have HO308 := n0_; have HO311 := n1_; have HO314 := n2_; have BK304 := n3_; have HB := n4_; clear n0_ n1_ n2_ n3_ n4_; (try clear hb); (try clear hb2); (try clear hk); (try clear hi); (try clear ho0); have hcz20_0 : w19.cell? ⟨gb304, 0, none⟩ = some (.slice Ao15 t306.length co15) := (blk_cell BK304.out 0).trans rfl; have hcz20_1 : w19.cell? ⟨gb304, 1, none⟩ = some (.slice Ao17 t309.length co17) := (blk_cell BK304.out 1).trans rfl; have hfz20_0 := blk_frozen BK304.out 0; have hfz20_1 := blk_frozen BK304.out 1; obtain ⟨Ao21, co21, eo21⟩ := Kd.N_slice HO314.out; subst eo21) | ((with_reducible refine gate_callee (f := 24) rfl ?_); refine goesL_ (some 23) rfl rfl Try.func24 (by kernel_rfl) rfl #[.int .i64 ji6, .slice Ao21 t312.length co21, .agg #[.slice Ao15 t306.length co15, .slice Ao17 t309.length co17]] rfl (by (try simp only [List.map_toArray, List.map_cons, List.map_nil]); first | done | (simp only [hji6]; rfl) | rfl | (simp only [List.length_drop, List.length_take]; rfl)) ?_; (with_reducible refine (valid_Check.calls k ji6 _ _ t312 _ _ t306 _ _ t309 t315 _ ?side1 ?side2 ?side3 ?side4 ?side5 ?side6 A9.out).mono ?_); (case side1 => repeat (first | exact (Kd.N_reads' HO314.out).2.2 | (with_reducible refine Kd.C_alloc ?_ _) | (with_reducible refine Kd.C_drewN ?_ _) | (with_reducible refine Kd.C_drew ?_))); (case side2 => exact (Kd.N_reads' HO314.out).2.1); (case side3 => repeat (first | exact (Kd.N_reads' HO308.out).2.2 | (with_reducible refine Kd.C_alloc ?_ _) | (with_reducible refine Kd.C_drewN ?_ _) | (with_reducible refine Kd.C_drew ?_))); (case side4 => exact (Kd.N_reads' HO308.out).2.1); (case side5 => repeat (first | exact (Kd.R_reads' HO311.out).2.2 | (with_reducible refine Kd.C_alloc ?_ _) | (with_reducible refine Kd.C_drewN ?_ _) | (with_reducible refine Kd.C_drew ?_))); (case side6 => exact (Kd.R_reads' HO311.out).2.1); rintro e w22 ⟨rfl, hb⟩; refine ⟨_, rfl, ?_⟩; have n0_ := Aside0.mk (Kd.N_below (by (with_reducible repeat (first | apply Kd.N_alloc | apply Kd.N_drewN | apply Kd.N_drew)); exact HO308.out) hb); have n1_ := Aside0.mk (Kd.R_below (by (with_reducible repeat (first | apply Kd.R_alloc | apply Kd.R_drewN | apply Kd.R_drew)); exact HO311.out) hb); have n2_ := Aside0.mk (Kd.N_below (by (with_reducible repeat (first | apply Kd.N_alloc | apply Kd.N_drewN | apply Kd.N_drew)); exact HO314.out) hb); have n3_ := Aside0.mk (blk_below (g := gb304) (o := .cells #[.slice Ao15 t306.length co15, .slice Ao17 t309.length co17] 25 (0, 0)) (by (with_reducible repeat (first | refine blk_drewN ?_ _ | refine blk_drew ?_ | refine blk_alloc ?_ _)); exact BK304.out) hb); have n4_ := Aside0.mk (below_step (by repeat (first | (with_reducible first | exact HB.out | apply below_alloc | apply pw_below_drewN | apply below_drew1 | refine below_set ?_ GE304.out) | exact HB.out)) hb); clear HO308; clear HO311; clear HO314; clear BK304; clear HB; have HO308 := n0_; have HO311 := n1_; have HO314 := n2_; have BK304 := n3_; have HB := n4_; clear n0_ n1_ n2_ n3_ n4_; (try clear hb); (try clear hb2); (try clear hk); (try clear hi)))
  (try simp only [Act.put, List.setIfInBounds_toArray, List.set_cons_zero, List.set_cons_succ])
  go_cut [37] (fun v37 wc => ∃ (kq : Nat) (x37_9 : Bool), v37 = .bool x37_9 ∧ Aside0 (arboristlaw12_ValidMore.j0 kq ji6 t312 a3 t305 t315 x37_9 t306 t309 = some r) ∧ Aside0 (kq ≤ k) ∧ Aside0 (Kd.N (Kd.slice 3 (Kd.int .i64)) 23 wc w.heap.size (fun k_ => some k_ ≠ ((.slice Ao15 t306.length co15) : Value).ownBlock ∧ some k_ ≠ ((.slice Ao17 t309.length co17) : Value).ownBlock ∧ k_ ≠ gb304) (.slice Ao21 t312.length co21) t312) ∧ Aside0 (Kd.N (Kd.slice 3 (Kd.int .i64)) 23 wc w.heap.size (fun k_ => some k_ ≠ ((.slice Ao21 t312.length co21) : Value).ownBlock ∧ some k_ ≠ ((.slice Ao17 t309.length co17) : Value).ownBlock ∧ k_ ≠ gb304) (.slice Ao15 t306.length co15) t306) ∧ Aside0 (Kd.R (Kd.int .i64) 3 wc w.heap.size (fun _ => True) (.slice Ao17 t309.length co17) t309) ∧ Aside0 (wc.heap[gb304]? = some (.cells #[(.slice Ao15 t306.length co15), (.slice Ao17 t309.length co17)] 25 (0, 0))) ∧ Aside0 (Below w.heap.size w wc))
  case first =>
    have H := HC10.out
    clear HC10
    by_cases c23 : t315 = true
    · subst c23
      have H1 : (if (t312.length : Int) > 0 then (if 1 ≤ (t312.length : Int) then ((valid_Check.f k (ji6) (t312.drop 1) t306 t309).bind fun t321 => (arboristlaw12_ValidMore.j0 k ji6 t312 a3 t305 true (!t321) t306 t309)) else (none)) else (arboristlaw12_ValidMore.j0 k ji6 t312 a3 t305 true false t306 t309)) = some r := by rw [if_pos rfl] at H; exact H
      clear H
      have H := H1
      clear H1
      by_cases c24 : (t312.length : Int) > 0
      · rw [if_pos c24] at H
        have c24b0 : decide (0 < (t312.length : Int)) = true := decide_eq_true c24
        have c24b1 : decide (0 < t312.length) = true := decide_eq_true (by omega)
        clear c24
        (first | rw [c24b0] | (simp only [i64_w, i32_w]; rw [c24b0]) | skip)
        by_cases c25 : 1 ≤ (t312.length : Int)
        · rw [if_pos c25] at H
          have c25b0 := eq_true c25
          have c25b1 : decide (1 ≤ (t312.length : Int)) = true := decide_eq_true c25
          clear c25
          obtain ⟨y316, hy316⟩ : ∃ y_ : List (List Int), y_ = (t312.drop 1) := ⟨_, rfl⟩
          replace H : ((valid_Check.f k (ji6) y316 t306 t309).bind fun t321 => (arboristlaw12_ValidMore.j0 k ji6 t312 a3 t305 true (!t321) t306 t309)) = some r := by first | (rw [hy316]; with_reducible exact H) | (have H2_ := (Option.bind_some _ _).symm.trans H; rw [hy316]; with_reducible exact H2_) | (have H2_ := (Option.bind_some _ _).symm.trans H; with_reducible exact H2_) | with_reducible exact H | (rw [hy316]; exact H) | exact H
          have Ny316 := Aside0.mk hy316
          clear hy316
          replace H := Option.bind_eq_some_iff.mp H
          obtain ⟨t321, A260, H⟩ := H
          replace H : (arboristlaw12_ValidMore.j0 k ji6 t312 a3 t305 true (!t321) t306 t309) = some r := H
          have A26 := Aside0.mk A260
          clear A260
          have H' := Aside0.mk H
          clear H
          try go_wp2
          have n0_ := Aside0.mk (Kd.N_drew HO308.out)
          have n1_ := Aside0.mk (Kd.R_drew HO311.out)
          have n2_ := Aside0.mk (Kd.N_drew HO314.out)
          have n3_ := Aside0.mk (blk_drew BK304.out)
          have n4_ := Aside0.mk (below_drew1 HB.out)
          clear HO308
          clear HO311
          clear HO314
          clear BK304
          clear HB
          have HO308 := n0_
          have HO311 := n1_
          have HO314 := n2_
          have BK304 := n3_
          have HB := n4_
          clear n0_ n1_ n2_ n3_ n4_
          have q28 : (1 : Int) ≤ ((t312.length : Int) : Int) := of_decide_eq_true (by first | (with_reducible assumption) | assumption)
          obtain ⟨i028, hi028, _, hsz28, _⟩ := info_parts info23
          have hroom28 : t312.length ≤ co21 := (Kd.N_reads' HO314.out).2.1
          have hC28 : Kd.F (Kd.slice 3 (Kd.int .i64)) _ _ Ao21 t312.length t312 := (Kd.V_at (base := w.heap.size) (Kd.N_V HO314.out)).2.2
          have hcut28 := cut_from (P := Try.prog) 22 23 .i64 Try.underlying22 hi028 1 hsz28 Ao21 t312.length co21 1 (by omega) q28
          have hr28 := Kd.F_cut (m := (1 : Int).toNat) (c := co21) hC28 (by omega) hroom28
          obtain ⟨A28, hA28⟩ : ∃ A1, A1 = (if co21 = (1 : Int).toNat then Ao21 else (Ao21 : Option Addr).map (·.add ((1 : Int).toNat * 1))) := ⟨_, rfl⟩
          obtain ⟨c28, hc28⟩ : ∃ c1, c1 = co21 - (1 : Int).toNat := ⟨_, rfl⟩
          have hy28 : y316.length = t312.length - (1 : Int).toNat := (by rw [Ny316.out, List.length_drop] <;> omega)
          rw [show (t312).drop (1 : Int).toNat = y316 from Ny316.out.symm] at hr28
          replace hr28 : Kd.F (Kd.slice 3 (Kd.int .i64)) _ _ A28 y316.length y316 := (by rw [hA28]; exact hr28)
          rw [← hy28, ← hA28, ← hc28] at hcut28
          have HO320 := Aside0.mk (show Kd.V (Kd.slice 3 (Kd.int .i64)) 23 _ w.heap.size _ (.slice A28 y316.length c28) y316 from Kd.V_mk (by rw [hy28, hc28]; exact Nat.sub_le_sub_right hroom28 _) hr28)
          have HC320 := Aside0.mk (show y316.length ≤ c28 from by rw [hy28, hc28]; exact Nat.sub_le_sub_right hroom28 _)
          clear hr28 hC28 hroom28 hi028 hsz28 hc28
          have KY28 := Aside0.mk hy28
          have KA28 := Aside0.mk hA28
          clear hy28 hA28
          replace q28 := eq_true q28
          refine start_ (n := 14) (S := fun w' => w'.cell? ⟨gb304, 0, none⟩ = some (.slice Ao15 t306.length co15) ∧ w'.cell? ⟨gb304, 1, none⟩ = some (.slice Ao17 t309.length co17)) (ds := []) (bs 14 0) (by kernel_rfl) rfl rfl ⟨(blk_cell BK304.out 0).trans rfl, (blk_cell BK304.out 1).trans rfl⟩ (fun hHeld => ?_); refine with_tabW arboristlaw12_ValidMore.tab6 arboristlaw12_ValidMore.bits6 (fun HT_ HW_ => ?_)
          generalize w22.drew = w27 at HO308 HO311 HO314 BK304 HB HO320 hHeld ⊢
          refine pure_ (i := 0) (N := some 24) (v := ?_) (a' := ?_) (bs 14 1) rfl rfl (any_of HT_.out (by kernel_rfl)) (fun _ _ _ h => h) (Or.inl ⟨by rfl, ?_⟩) ?_ ?_
          rotate_left; (intro w'; go_simp; with_reducible rfl); rotate_left; (simp only [Act.put, List.setIfInBounds_toArray, List.set_cons_zero, List.set_cons_succ, i64_w, i32_w]; rfl)
          refine pure_ (i := 1) (N := some 25) (v := ?_) (a' := ?_) (bs 14 3) rfl rfl (any_of HT_.out (by kernel_rfl)) (fun _ _ _ h => h) (Or.inl ⟨by rfl, ?_⟩) ?_ ?_
          rotate_left; (intro w'; go_simp; with_reducible rfl); rotate_left; (simp only [Act.put, List.setIfInBounds_toArray, List.set_cons_zero, List.set_cons_succ, i64_w, i32_w]; rfl)
          refine pure_ (i := 2) (N := some 26) (v := ?_) (a' := ?_) (bs 14 7) rfl rfl (any_of HT_.out (by kernel_rfl)) (fun _ _ _ h => h) (Or.inl ⟨by rfl, ?_⟩) ?_ ?_
          rotate_left; (intro w'; go_simp; with_reducible rfl); rotate_left; (simp only [Act.put, List.setIfInBounds_toArray, List.set_cons_zero, List.set_cons_succ, i64_w, i32_w]; rfl)
          refine pure_ (i := 3) (N := some 27) (v := ?_) (a' := ?_) (bs 14 15) rfl rfl (any_of HT_.out (by kernel_rfl)) (fun _ _ _ h => h) (Or.inl ⟨by rfl, ?_⟩) ?_ ?_
          rotate_left; (intro w'; go_simp; with_reducible rfl); rotate_left; (simp only [Act.put, List.setIfInBounds_toArray, List.set_cons_zero, List.set_cons_succ, i64_w, i32_w]; rfl)
          refine pure_ (i := 4) (N := some 28) (v := ?_) (a' := ?_) (bs 14 31) rfl rfl (any_of HT_.out (by kernel_rfl)) (fun _ _ _ h => h) (Or.inl ⟨by rfl, ?_⟩) ?_ ?_
          rotate_left; (intro w'; go_simp; with_reducible rfl); rotate_left; (simp only [Act.put, List.setIfInBounds_toArray, List.set_cons_zero, List.set_cons_succ, i64_w, i32_w]; rfl)
          refine pure_ (i := 5) (N := some 29) (v := ?_) (a' := ?_) (bs 14 63) rfl rfl (any_of HT_.out (by kernel_rfl)) (fun _ _ _ h => h) (Or.inl ⟨by rfl, ?_⟩) ?_ ?_
          rotate_left; (intro w'; go_simp; with_reducible rfl); rotate_left; (simp only [Act.put, List.setIfInBounds_toArray, List.set_cons_zero, List.set_cons_succ, i64_w, i32_w]; rfl)
          refine pure_ (i := 6) (N := some 30) (v := ?_) (a' := ?_) (bs 14 127) rfl rfl (any_of HT_.out (by kernel_rfl)) (fun _ _ _ h => h) (Or.inl ⟨by rfl, ?_⟩) ?_ ?_
          rotate_left; (intro w'; go_simp; with_reducible rfl); rotate_left; (simp only [Act.put, List.setIfInBounds_toArray, List.set_cons_zero, List.set_cons_succ, i64_w, i32_w]; rfl)
          refine pure_ (i := 7) (N := some 31) (v := ?_) (a' := ?_) (bs 14 255) rfl rfl (any_of HT_.out (by kernel_rfl)) (fun _ _ _ h => h) (Or.inl ⟨by rfl, ?_⟩) ?_ ?_
          rotate_left; (intro w'; go_simp; with_reducible rfl); rotate_left; (simp only [Act.put, List.setIfInBounds_toArray, List.set_cons_zero, List.set_cons_succ, i64_w, i32_w]; rfl)
          refine pure_ (i := 8) (N := some 32) (v := ?_) (a' := ?_) (bs 14 511) rfl rfl (any_of HT_.out (by kernel_rfl)) (fun _ _ _ h => h) (Or.inl ⟨by rfl, ?_⟩) ?_ ?_
          rotate_left; (intro w'; go_simp; with_reducible rfl); rotate_left; (simp only [Act.put, List.setIfInBounds_toArray, List.set_cons_zero, List.set_cons_succ, i64_w, i32_w]; rfl)
          refine pure_ (i := 9) (N := some 33) (v := ?_) (a' := ?_) (bs 14 1023) rfl rfl (any_of HT_.out (by kernel_rfl)) (fun _ _ _ h => h) (Or.inl ⟨by rfl, ?_⟩) ?_ ?_
          rotate_left; (intro w'; go_simp; with_reducible rfl); rotate_left; (simp only [Act.put, List.setIfInBounds_toArray, List.set_cons_zero, List.set_cons_succ, i64_w, i32_w]; rfl)
          refine take_ (i := 10) (N := some 34) (v := ?_) (a' := ?_) (bs 14 2047) rfl rfl (take_ofW HT_.out HW_.out (by kernel_rfl)) (fun _ _ _ h => h) (Or.inl ⟨by rfl, ?_⟩) hHeld ?_ ?_
          rotate_left
          · rintro w' ⟨s0, s1⟩
            go_simp
            with_reducible rfl
          rotate_left; (simp only [Act.put, List.setIfInBounds_toArray, List.set_cons_zero, List.set_cons_succ, i64_w, i32_w]; rfl)
          refine one_ (i := 11) (N := some 35) (bs 14 4095) rfl rfl (one_of HT_.out (by kernel_rfl)) (by decide) (fun K hK => ?_)
          refine goes_ Try.func24 (by kernel_rfl) rfl #[.int .i64 ji6, .slice A28 y316.length c28, .agg #[.slice Ao15 t306.length co15, .slice Ao17 t309.length co17]] (by rfl) rfl rfl (by (try simp only [List.map_toArray, List.map_cons, List.map_nil]); first | done | (simp only [hji6]; rfl) | rfl | (simp only [List.length_drop, List.length_take]; rfl)) ?_
          with_reducible refine (valid_Check.calls k ji6 _ _ y316 _ _ t306 _ _ t309 t321 _ ?side1 ?side2 ?side3 ?side4 ?side5 ?side6 A26.out).mono ?_
          (case side1 => repeat (first | exact (Kd.V_reads' HO320.out).2.2 | (with_reducible refine Kd.C_alloc ?_ _) | (with_reducible refine Kd.C_drewN ?_ _) | (with_reducible refine Kd.C_drew ?_)))
          (case side2 => exact (Kd.V_reads' HO320.out).2.1)
          (case side3 => repeat (first | exact (Kd.N_reads' HO308.out).2.2 | (with_reducible refine Kd.C_alloc ?_ _) | (with_reducible refine Kd.C_drewN ?_ _) | (with_reducible refine Kd.C_drew ?_)))
          (case side4 => exact (Kd.N_reads' HO308.out).2.1)
          (case side5 => repeat (first | exact (Kd.R_reads' HO311.out).2.2 | (with_reducible refine Kd.C_alloc ?_ _) | (with_reducible refine Kd.C_drewN ?_ _) | (with_reducible refine Kd.C_drew ?_)))
          (case side6 => exact (Kd.R_reads' HO311.out).2.1)
          rintro e w29 ⟨rfl, hb⟩
          refine ⟨_, rfl, ?_⟩
          have n0_ := Aside0.mk (Kd.N_below (by (with_reducible repeat (first | apply Kd.N_alloc | apply Kd.N_drewN | apply Kd.N_drew)); exact HO308.out) hb)
          have n1_ := Aside0.mk (Kd.R_below (by (with_reducible repeat (first | apply Kd.R_alloc | apply Kd.R_drewN | apply Kd.R_drew)); exact HO311.out) hb)
          have n2_ := Aside0.mk (Kd.N_below (by (with_reducible repeat (first | apply Kd.N_alloc | apply Kd.N_drewN | apply Kd.N_drew)); exact HO314.out) hb)
          have n3_ := Aside0.mk (Kd.V_below (by (with_reducible repeat (first | apply Kd.V_alloc | apply Kd.V_drewN | apply Kd.V_drew)); exact HO320.out) hb)
          have n4_ := Aside0.mk (blk_below (g := gb304) (o := .cells #[.slice Ao15 t306.length co15, .slice Ao17 t309.length co17] 25 (0, 0)) (by (with_reducible repeat (first | refine blk_drewN ?_ _ | refine blk_drew ?_ | refine blk_alloc ?_ _)); exact BK304.out) hb)
          have n5_ := Aside0.mk (below_step (by repeat (first | (with_reducible first | exact HB.out | apply below_alloc | apply pw_below_drewN | apply below_drew1 | refine below_set ?_ GE304.out) | exact HB.out)) hb)
          clear HO308
          clear HO311
          clear HO314
          clear HO320
          clear BK304
          clear HB
          have HO308 := n0_
          have HO311 := n1_
          have HO314 := n2_
          have HO320 := n3_
          have BK304 := n4_
          have HB := n5_
          clear n0_ n1_ n2_ n3_ n4_ n5_
          (try clear hb)
          (try clear hb2)
          (try clear hk)
          (try clear hi)
          refine hK.out _ _ ⟨(blk_cell BK304.out 0).trans rfl, (blk_cell BK304.out 1).trans rfl⟩ (fun hHeld => ?_)
          clear hK K
          refine norm_ (a' := ?_) ?_ ?_
          rotate_left
          · show Act.put _ (some 35) _ = _
            simp only [Act.put, List.setIfInBounds_toArray, List.set_cons_zero, List.set_cons_succ, i64_w, i32_w]
            rfl
          refine pure_ (i := 12) (N := some 36) (v := ?_) (a' := ?_) (bs 14 8191) rfl rfl (any_of HT_.out (by kernel_rfl)) (fun _ _ _ h => h) (Or.inl ⟨by rfl, ?_⟩) ?_ ?_
          rotate_left; (intro w'; go_simp; with_reducible rfl); rotate_left; (simp only [Act.put, List.setIfInBounds_toArray, List.set_cons_zero, List.set_cons_succ, i64_w, i32_w]; rfl)
          refine pure_ (i := 13) (N := some 37) (v := ?_) (a' := ?_) (bs 14 16383) rfl rfl (any_of HT_.out (by kernel_rfl)) (fun _ _ _ h => h) (Or.inl ⟨by rfl, ?_⟩) ?_ ?_
          rotate_left; (intro w'; go_simp; with_reducible rfl); rotate_left; (simp only [Act.put, List.setIfInBounds_toArray, List.set_cons_zero, List.set_cons_succ, i64_w, i32_w]; rfl)
          refine done_ (done_of HT_.out (by kernel_rfl)) ?_
          try go_wp2
          go_meet
          case rel => exact ⟨_, (!t321), (by first | rfl | (simp; done) | (simp [*]; done)), H', ⟨by first | omega | exact Nat.le_refl _⟩, ⟨by (with_reducible repeat (first | apply Kd.N_alloc | apply Kd.N_drewN | apply Kd.N_drew)); exact HO314.out⟩, ⟨by (with_reducible repeat (first | apply Kd.N_alloc | apply Kd.N_drewN | apply Kd.N_drew)); exact Kd.N_mono HO308.out (fun _ hk => ⟨hk.2, ⟨hk.1.1, hk.1.2⟩⟩)⟩, ⟨by (with_reducible repeat (first | apply Kd.R_alloc | apply Kd.R_drewN | apply Kd.R_drew)); exact HO311.out⟩, ⟨by (with_reducible repeat (first | refine blk_drewN ?_ _ | refine blk_drew ?_ | refine blk_alloc ?_ _)); exact BK304.out⟩, ⟨by repeat (first | (with_reducible first | exact HB.out | apply below_alloc | apply pw_below_drewN | apply below_drew1 | refine below_set ?_ GE304.out) | exact HB.out)⟩⟩
        · rw [if_neg c25] at H
          exact absurd H (by simp)
      · rw [if_neg c24] at H
        have c24b0 : decide (0 < (t312.length : Int)) = false := decide_eq_false c24
        have c24b1 : decide (0 < t312.length) = false := decide_eq_false (by omega)
        clear c24
        (first | rw [c24b0] | (simp only [i64_w, i32_w]; rw [c24b0]) | skip)
        have H' := Aside0.mk H
        clear H
        try go_wp2
        have n0_ := Aside0.mk (Kd.N_drew HO308.out)
        have n1_ := Aside0.mk (Kd.R_drew HO311.out)
        have n2_ := Aside0.mk (Kd.N_drew HO314.out)
        have n3_ := Aside0.mk (blk_drew BK304.out)
        have n4_ := Aside0.mk (below_drew1 HB.out)
        clear HO308
        clear HO311
        clear HO314
        clear BK304
        clear HB
        have HO308 := n0_
        have HO311 := n1_
        have HO314 := n2_
        have BK304 := n3_
        have HB := n4_
        clear n0_ n1_ n2_ n3_ n4_
        refine start_ (n := 14) (S := fun w' => True) (ds := []) (bs 14 0) (by kernel_rfl) rfl rfl trivial (fun hHeld => ?_); refine with_tabW arboristlaw12_ValidMore.tab6 arboristlaw12_ValidMore.bits6 (fun HT_ HW_ => ?_)
        generalize w22.drew = w30 at HO308 HO311 HO314 BK304 HB hHeld ⊢
        refine pure_ (i := 0) (N := some 24) (v := ?_) (a' := ?_) (bs 14 1) rfl rfl (any_of HT_.out (by kernel_rfl)) (fun _ _ _ h => h) (Or.inl ⟨by rfl, ?_⟩) ?_ ?_
        rotate_left; (intro w'; go_simp; with_reducible rfl); rotate_left; (simp only [Act.put, List.setIfInBounds_toArray, List.set_cons_zero, List.set_cons_succ, i64_w, i32_w]; rfl)
        refine pure_ (i := 1) (N := some 25) (v := ?_) (a' := ?_) (bs 14 3) rfl rfl (any_of HT_.out (by kernel_rfl)) (fun _ _ _ h => h) (Or.inl ⟨by rfl, ?_⟩) ?_ ?_
        rotate_left; (intro w'; go_simp; with_reducible rfl); rotate_left; (simp only [Act.put, List.setIfInBounds_toArray, List.set_cons_zero, List.set_cons_succ, i64_w, i32_w]; rfl)
        refine pure_ (i := 2) (N := some 26) (v := ?_) (a' := ?_) (bs 14 7) rfl rfl (any_of HT_.out (by kernel_rfl)) (fun _ _ _ h => h) (Or.inl ⟨by rfl, ?_⟩) ?_ ?_
        rotate_left; (intro w'; go_simp; with_reducible rfl); rotate_left; (simp only [Act.put, List.setIfInBounds_toArray, List.set_cons_zero, List.set_cons_succ, i64_w, i32_w]; rfl)
        refine pure_ (i := 3) (N := some 27) (v := ?_) (a' := ?_) (bs 14 15) rfl rfl (any_of HT_.out (by kernel_rfl)) (fun _ _ _ h => h) (Or.inl ⟨by rfl, ?_⟩) ?_ ?_
        rotate_left; (intro w'; go_simp; with_reducible rfl); rotate_left; (simp only [Act.put, List.setIfInBounds_toArray, List.set_cons_zero, List.set_cons_succ, i64_w, i32_w]; rfl)
        refine pure_ (i := 4) (N := some 28) (v := ?_) (a' := ?_) (bs 14 31) rfl rfl (any_of HT_.out (by kernel_rfl)) (fun _ _ _ h => h) (Or.inl ⟨by rfl, ?_⟩) ?_ ?_
        rotate_left; (intro w'; go_simp; with_reducible rfl); rotate_left; (simp only [Act.put, List.setIfInBounds_toArray, List.set_cons_zero, List.set_cons_succ, i64_w, i32_w]; rfl)
        refine pure_ (i := 5) (N := some 29) (v := ?_) (a' := ?_) (bs 14 63) rfl rfl (any_of HT_.out (by kernel_rfl)) (fun _ _ _ h => h) (Or.inl ⟨by rfl, ?_⟩) ?_ ?_
        rotate_left; (intro w'; go_simp; with_reducible rfl); rotate_left; (simp only [Act.put, List.setIfInBounds_toArray, List.set_cons_zero, List.set_cons_succ, i64_w, i32_w]; rfl)
        refine pure_ (i := 6) (N := some 30) (v := ?_) (a' := ?_) (bs 14 127) rfl rfl (any_of HT_.out (by kernel_rfl)) (fun _ _ _ h => h) (Or.inl ⟨by rfl, ?_⟩) ?_ ?_
        rotate_left; (intro w'; go_simp; with_reducible rfl); rotate_left; (simp only [Act.put, List.setIfInBounds_toArray, List.set_cons_zero, List.set_cons_succ, i64_w, i32_w]; rfl)
        refine pure_ (i := 7) (N := some 31) (v := undef) (a' := ?_) (bs 14 255) rfl rfl (any_of HT_.out (by kernel_rfl)) (fun _ _ _ h => h) (Or.inr ⟨by rfl, rfl⟩) ?_ ?_
        rotate_left; (simp only [Act.put, List.setIfInBounds_toArray, List.set_cons_zero, List.set_cons_succ, i64_w, i32_w]; rfl)
        refine pure_ (i := 8) (N := some 32) (v := undef) (a' := ?_) (bs 14 511) rfl rfl (any_of HT_.out (by kernel_rfl)) (fun _ _ _ h => h) (Or.inr ⟨by rfl, rfl⟩) ?_ ?_
        rotate_left; (simp only [Act.put, List.setIfInBounds_toArray, List.set_cons_zero, List.set_cons_succ, i64_w, i32_w]; rfl)
        refine pure_ (i := 9) (N := some 33) (v := undef) (a' := ?_) (bs 14 1023) rfl rfl (any_of HT_.out (by kernel_rfl)) (fun _ _ _ h => h) (Or.inr ⟨by rfl, rfl⟩) ?_ ?_
        rotate_left; (simp only [Act.put, List.setIfInBounds_toArray, List.set_cons_zero, List.set_cons_succ, i64_w, i32_w]; rfl)
        refine pure_ (i := 10) (N := some 34) (v := undef) (a' := ?_) (bs 14 2047) rfl rfl (any_of HT_.out (by kernel_rfl)) (fun _ _ _ h => h) (Or.inr ⟨by rfl, rfl⟩) ?_ ?_
        rotate_left; (simp only [Act.put, List.setIfInBounds_toArray, List.set_cons_zero, List.set_cons_succ, i64_w, i32_w]; rfl)
        refine pure_ (i := 11) (N := some 35) (v := undef) (a' := ?_) (bs 14 4095) rfl rfl (any_of HT_.out (by kernel_rfl)) (fun _ _ _ h => h) (Or.inr ⟨by rfl, rfl⟩) ?_ ?_
        rotate_left; (simp only [Act.put, List.setIfInBounds_toArray, List.set_cons_zero, List.set_cons_succ, i64_w, i32_w]; rfl)
        refine pure_ (i := 12) (N := some 36) (v := undef) (a' := ?_) (bs 14 8191) rfl rfl (any_of HT_.out (by kernel_rfl)) (fun _ _ _ h => h) (Or.inr ⟨by rfl, rfl⟩) ?_ ?_
        rotate_left; (simp only [Act.put, List.setIfInBounds_toArray, List.set_cons_zero, List.set_cons_succ, i64_w, i32_w]; rfl)
        refine pure_ (i := 13) (N := some 37) (v := ?_) (a' := ?_) (bs 14 16383) rfl rfl (any_of HT_.out (by kernel_rfl)) (fun _ _ _ h => h) (Or.inl ⟨by rfl, ?_⟩) ?_ ?_
        rotate_left; (intro w'; go_simp; with_reducible rfl); rotate_left; (simp only [Act.put, List.setIfInBounds_toArray, List.set_cons_zero, List.set_cons_succ, i64_w, i32_w]; rfl)
        refine done_ (done_of HT_.out (by kernel_rfl)) ?_
        try go_wp2
        go_meet
        case rel => exact ⟨_, (false), (by first | rfl | (simp; done) | (simp [*]; done)), H', ⟨by first | omega | exact Nat.le_refl _⟩, ⟨by (with_reducible repeat (first | apply Kd.N_alloc | apply Kd.N_drewN | apply Kd.N_drew)); exact HO314.out⟩, ⟨by (with_reducible repeat (first | apply Kd.N_alloc | apply Kd.N_drewN | apply Kd.N_drew)); exact Kd.N_mono HO308.out (fun _ hk => ⟨hk.2, ⟨hk.1.1, hk.1.2⟩⟩)⟩, ⟨by (with_reducible repeat (first | apply Kd.R_alloc | apply Kd.R_drewN | apply Kd.R_drew)); exact HO311.out⟩, ⟨by (with_reducible repeat (first | refine blk_drewN ?_ _ | refine blk_drew ?_ | refine blk_alloc ?_ _)); exact BK304.out⟩, ⟨by repeat (first | (with_reducible first | exact HB.out | apply below_alloc | apply pw_below_drewN | apply below_drew1 | refine below_set ?_ GE304.out) | exact HB.out)⟩⟩
    · replace c23 := Bool.eq_false_iff.mpr c23
      subst c23
      have H1 : (arboristlaw12_ValidMore.j0 k ji6 t312 a3 t305 false false t306 t309) = some r := by rw [if_neg (show ¬ (false = true) by decide)] at H; exact H
      clear H
      have H := H1
      clear H1
      have H' := Aside0.mk H
      clear H
      try go_wp2
      have n0_ := Aside0.mk (Kd.N_drew HO308.out)
      have n1_ := Aside0.mk (Kd.R_drew HO311.out)
      have n2_ := Aside0.mk (Kd.N_drew HO314.out)
      have n3_ := Aside0.mk (blk_drew BK304.out)
      have n4_ := Aside0.mk (below_drew1 HB.out)
      clear HO308
      clear HO311
      clear HO314
      clear BK304
      clear HB
      have HO308 := n0_
      have HO311 := n1_
      have HO314 := n2_
      have BK304 := n3_
      have HB := n4_
      clear n0_ n1_ n2_ n3_ n4_
      refine start_ (n := 14) (S := fun w' => True) (ds := []) (bs 14 0) (by kernel_rfl) rfl rfl trivial (fun hHeld => ?_); refine with_tabW arboristlaw12_ValidMore.tab6 arboristlaw12_ValidMore.bits6 (fun HT_ HW_ => ?_)
      generalize w22.drew = w31 at HO308 HO311 HO314 BK304 HB hHeld ⊢
      refine pure_ (i := 0) (N := some 24) (v := ?_) (a' := ?_) (bs 14 1) rfl rfl (any_of HT_.out (by kernel_rfl)) (fun _ _ _ h => h) (Or.inl ⟨by rfl, ?_⟩) ?_ ?_
      rotate_left; (intro w'; go_simp; with_reducible rfl); rotate_left; (simp only [Act.put, List.setIfInBounds_toArray, List.set_cons_zero, List.set_cons_succ, i64_w, i32_w]; rfl)
      refine pure_ (i := 1) (N := some 25) (v := ?_) (a' := ?_) (bs 14 3) rfl rfl (any_of HT_.out (by kernel_rfl)) (fun _ _ _ h => h) (Or.inl ⟨by rfl, ?_⟩) ?_ ?_
      rotate_left; (intro w'; go_simp; with_reducible rfl); rotate_left; (simp only [Act.put, List.setIfInBounds_toArray, List.set_cons_zero, List.set_cons_succ, i64_w, i32_w]; rfl)
      refine pure_ (i := 2) (N := some 26) (v := undef) (a' := ?_) (bs 14 7) rfl rfl (any_of HT_.out (by kernel_rfl)) (fun _ _ _ h => h) (Or.inr ⟨by rfl, rfl⟩) ?_ ?_
      rotate_left; (simp only [Act.put, List.setIfInBounds_toArray, List.set_cons_zero, List.set_cons_succ, i64_w, i32_w]; rfl)
      refine pure_ (i := 3) (N := some 27) (v := undef) (a' := ?_) (bs 14 15) rfl rfl (any_of HT_.out (by kernel_rfl)) (fun _ _ _ h => h) (Or.inr ⟨by rfl, rfl⟩) ?_ ?_
      rotate_left; (simp only [Act.put, List.setIfInBounds_toArray, List.set_cons_zero, List.set_cons_succ, i64_w, i32_w]; rfl)
      refine pure_ (i := 4) (N := some 28) (v := undef) (a' := ?_) (bs 14 31) rfl rfl (any_of HT_.out (by kernel_rfl)) (fun _ _ _ h => h) (Or.inr ⟨by rfl, rfl⟩) ?_ ?_
      rotate_left; (simp only [Act.put, List.setIfInBounds_toArray, List.set_cons_zero, List.set_cons_succ, i64_w, i32_w]; rfl)
      refine pure_ (i := 5) (N := some 29) (v := ?_) (a' := ?_) (bs 14 63) rfl rfl (any_of HT_.out (by kernel_rfl)) (fun _ _ _ h => h) (Or.inl ⟨by rfl, ?_⟩) ?_ ?_
      rotate_left; (intro w'; go_simp; with_reducible rfl); rotate_left; (simp only [Act.put, List.setIfInBounds_toArray, List.set_cons_zero, List.set_cons_succ, i64_w, i32_w]; rfl)
      refine pure_ (i := 6) (N := some 30) (v := ?_) (a' := ?_) (bs 14 127) rfl rfl (any_of HT_.out (by kernel_rfl)) (fun _ _ _ h => h) (Or.inl ⟨by rfl, ?_⟩) ?_ ?_
      rotate_left; (intro w'; go_simp; with_reducible rfl); rotate_left; (simp only [Act.put, List.setIfInBounds_toArray, List.set_cons_zero, List.set_cons_succ, i64_w, i32_w]; rfl)
      refine pure_ (i := 7) (N := some 31) (v := undef) (a' := ?_) (bs 14 255) rfl rfl (any_of HT_.out (by kernel_rfl)) (fun _ _ _ h => h) (Or.inr ⟨by rfl, rfl⟩) ?_ ?_
      rotate_left; (simp only [Act.put, List.setIfInBounds_toArray, List.set_cons_zero, List.set_cons_succ, i64_w, i32_w]; rfl)
      refine pure_ (i := 8) (N := some 32) (v := undef) (a' := ?_) (bs 14 511) rfl rfl (any_of HT_.out (by kernel_rfl)) (fun _ _ _ h => h) (Or.inr ⟨by rfl, rfl⟩) ?_ ?_
      rotate_left; (simp only [Act.put, List.setIfInBounds_toArray, List.set_cons_zero, List.set_cons_succ, i64_w, i32_w]; rfl)
      refine pure_ (i := 9) (N := some 33) (v := undef) (a' := ?_) (bs 14 1023) rfl rfl (any_of HT_.out (by kernel_rfl)) (fun _ _ _ h => h) (Or.inr ⟨by rfl, rfl⟩) ?_ ?_
      rotate_left; (simp only [Act.put, List.setIfInBounds_toArray, List.set_cons_zero, List.set_cons_succ, i64_w, i32_w]; rfl)
      refine pure_ (i := 10) (N := some 34) (v := undef) (a' := ?_) (bs 14 2047) rfl rfl (any_of HT_.out (by kernel_rfl)) (fun _ _ _ h => h) (Or.inr ⟨by rfl, rfl⟩) ?_ ?_
      rotate_left; (simp only [Act.put, List.setIfInBounds_toArray, List.set_cons_zero, List.set_cons_succ, i64_w, i32_w]; rfl)
      refine pure_ (i := 11) (N := some 35) (v := undef) (a' := ?_) (bs 14 4095) rfl rfl (any_of HT_.out (by kernel_rfl)) (fun _ _ _ h => h) (Or.inr ⟨by rfl, rfl⟩) ?_ ?_
      rotate_left; (simp only [Act.put, List.setIfInBounds_toArray, List.set_cons_zero, List.set_cons_succ, i64_w, i32_w]; rfl)
      refine pure_ (i := 12) (N := some 36) (v := undef) (a' := ?_) (bs 14 8191) rfl rfl (any_of HT_.out (by kernel_rfl)) (fun _ _ _ h => h) (Or.inr ⟨by rfl, rfl⟩) ?_ ?_
      rotate_left; (simp only [Act.put, List.setIfInBounds_toArray, List.set_cons_zero, List.set_cons_succ, i64_w, i32_w]; rfl)
      refine pure_ (i := 13) (N := some 37) (v := ?_) (a' := ?_) (bs 14 16383) rfl rfl (any_of HT_.out (by kernel_rfl)) (fun _ _ _ h => h) (Or.inl ⟨by rfl, ?_⟩) ?_ ?_
      rotate_left; (intro w'; go_simp; with_reducible rfl); rotate_left; (simp only [Act.put, List.setIfInBounds_toArray, List.set_cons_zero, List.set_cons_succ, i64_w, i32_w]; rfl)
      refine done_ (done_of HT_.out (by kernel_rfl)) ?_
      try go_wp2
      go_meet
      case rel => exact ⟨_, (false), (by first | rfl | (simp; done) | (simp [*]; done)), H', ⟨by first | omega | exact Nat.le_refl _⟩, ⟨by (with_reducible repeat (first | apply Kd.N_alloc | apply Kd.N_drewN | apply Kd.N_drew)); exact HO314.out⟩, ⟨by (with_reducible repeat (first | apply Kd.N_alloc | apply Kd.N_drewN | apply Kd.N_drew)); exact Kd.N_mono HO308.out (fun _ hk => ⟨hk.2, ⟨hk.1.1, hk.1.2⟩⟩)⟩, ⟨by (with_reducible repeat (first | apply Kd.R_alloc | apply Kd.R_drewN | apply Kd.R_drew)); exact HO311.out⟩, ⟨by (with_reducible repeat (first | refine blk_drewN ?_ _ | refine blk_drew ?_ | refine blk_alloc ?_ _)); exact BK304.out⟩, ⟨by repeat (first | (with_reducible first | exact HB.out | apply below_alloc | apply pw_below_drewN | apply below_drew1 | refine below_set ?_ GE304.out) | exact HB.out)⟩⟩
  case rest =>
    clear HC10
    try clear c1
    try clear c2
    try clear p2
    try clear q2
    try clear c6
    try clear c15
    try clear c16
    try clear c17
    try clear c23
    try clear c24
    try clear c24b0
    try clear c24b1
    try clear c25
    try clear c25b0
    try clear c25b1
    try clear c28
    try clear q28
    try clear hcz13_0
    try clear hcz13_1
    try clear hcz16_0
    try clear hcz16_1
    try clear hcz20_0
    try clear hcz20_1
    try clear hfz13_0
    try clear hfz13_1
    try clear hfz16_0
    try clear hfz16_1
    try clear hfz20_0
    try clear hfz20_1
    try clear q28
    obtain ⟨kq, x37_9, rfl, HA, HJ9, HO_1, HO_305000, HO_305001, BK304, HB⟩ := hcut
    cases kq with
    | zero => exact absurd HA.out (by simp [arboristlaw12_ValidMore.j0])
    | succ kj9 =>
      have H := HA.out
      clear HA
      simp only [arboristlaw12_ValidMore.j0] at H
      by_cases c32 : x37_9 = true
      · subst c32
        have H1 : (some false) = some r := by rw [if_pos rfl] at H; exact H
        clear H
        have H := H1
        clear H1
        exact absurd ((Option.some.inj H).trans HT_.out) (by decide)
      · replace c32 := Bool.eq_false_iff.mpr c32
        subst c32
        have H1 : (if (t306.length : Int) = 0 then (arboristlaw12_ValidMore.j1 kj9 ji6 t312 a3 t305 t315 true t306 t309) else (arboristlaw12_ValidMore.j1 kj9 ji6 t312 a3 t305 t315 ((t309.length : Int) != (t306.length : Int)) t306 t309)) = some r := by rw [if_neg (show ¬ (false = true) by decide)] at H; exact H
        clear H
        have H := H1
        clear H1
        have HC33 := Aside0.mk H
        clear H
        go_upto_region 8 with (fail)
        go_cut [50] (fun v50 wc => ∃ (kq : Nat) (x50_32 : Bool), v50 = .bool x50_32 ∧ Aside0 (arboristlaw12_ValidMore.j1 kq ji6 t312 a3 t305 t315 x50_32 t306 t309 = some r) ∧ Aside0 (kq ≤ kj9) ∧ Aside0 (Kd.N (Kd.slice 3 (Kd.int .i64)) 23 wc w.heap.size (fun k_ => some k_ ≠ ((.slice Ao15 t306.length co15) : Value).ownBlock ∧ some k_ ≠ ((.slice Ao17 t309.length co17) : Value).ownBlock ∧ k_ ≠ gb304) (.slice Ao21 t312.length co21) t312) ∧ Aside0 (Kd.N (Kd.slice 3 (Kd.int .i64)) 23 wc w.heap.size (fun k_ => some k_ ≠ ((.slice Ao21 t312.length co21) : Value).ownBlock ∧ some k_ ≠ ((.slice Ao17 t309.length co17) : Value).ownBlock ∧ k_ ≠ gb304) (.slice Ao15 t306.length co15) t306) ∧ Aside0 (Kd.R (Kd.int .i64) 3 wc w.heap.size (fun _ => True) (.slice Ao17 t309.length co17) t309) ∧ Aside0 (wc.heap[gb304]? = some (.cells #[(.slice Ao15 t306.length co15), (.slice Ao17 t309.length co17)] 25 (0, 0))) ∧ Aside0 (Below w.heap.size w wc))
        case first =>
          have H := HC33.out
          clear HC33
          by_cases c34 : (t306.length : Int) = 0
          · rw [if_pos c34] at H
            have c34b0 : ((t306.length : Int) == 0) = true := beq_iff_eq.mpr c34
            have c34b1 : ((t306.length : Int) != 0) = false := bne_eq_false_iff_eq.mpr c34
            clear c34
            (first | rw [c34b0] | (simp only [i64_w, i32_w]; rw [c34b0]) | skip)
            have H' := Aside0.mk H
            clear H
            have hcz35_0 : wc.cell? ⟨gb304, 0, none⟩ = some (.slice Ao15 t306.length co15) := (blk_cell BK304.out 0).trans rfl
            have hcz35_1 : wc.cell? ⟨gb304, 1, none⟩ = some (.slice Ao17 t309.length co17) := (blk_cell BK304.out 1).trans rfl
            have hfz35_0 := blk_frozen BK304.out 0
            have hfz35_1 := blk_frozen BK304.out 1
            go_wp2
            go_meet
            case rel => exact ⟨_, (true), (by first | rfl | (simp; done) | (simp [*]; done)), H', ⟨by have := HJ9.out; first | omega | exact Nat.le_refl _⟩, ⟨by (with_reducible repeat (first | apply Kd.N_alloc | apply Kd.N_drewN | apply Kd.N_drew)); exact HO_1.out⟩, ⟨by (with_reducible repeat (first | apply Kd.N_alloc | apply Kd.N_drewN | apply Kd.N_drew)); exact HO_305000.out⟩, ⟨by (with_reducible repeat (first | apply Kd.R_alloc | apply Kd.R_drewN | apply Kd.R_drew)); exact HO_305001.out⟩, ⟨by (with_reducible repeat (first | refine blk_drewN ?_ _ | refine blk_drew ?_ | refine blk_alloc ?_ _)); exact BK304.out⟩, ⟨by repeat (first | (with_reducible first | exact HB.out | apply below_alloc | apply pw_below_drewN | apply below_drew1 | refine below_set ?_ GE304.out) | exact HB.out)⟩⟩
          · rw [if_neg c34] at H
            have c34b0 : ((t306.length : Int) == 0) = false := beq_eq_false_iff_ne.mpr c34
            have c34b1 : ((t306.length : Int) != 0) = true := bne_iff_ne.mpr c34
            have c34b2 : ¬ (t306 = []) := fun h_ => c34 (by rw [h_]; rfl)
            (first | rw [c34b0] | (simp only [i64_w, i32_w]; rw [c34b0]) | skip)
            have H' := Aside0.mk H
            clear H
            have hcz36_0 : wc.cell? ⟨gb304, 0, none⟩ = some (.slice Ao15 t306.length co15) := (blk_cell BK304.out 0).trans rfl
            have hcz36_1 : wc.cell? ⟨gb304, 1, none⟩ = some (.slice Ao17 t309.length co17) := (blk_cell BK304.out 1).trans rfl
            have hfz36_0 := blk_frozen BK304.out 0
            have hfz36_1 := blk_frozen BK304.out 1
            go_wp2
            go_meet
            case rel => exact ⟨_, (((t309.length : Int) != (t306.length : Int))), (by first | rfl | (simp; done) | (simp [*]; done)), H', ⟨by have := HJ9.out; first | omega | exact Nat.le_refl _⟩, ⟨by (with_reducible repeat (first | apply Kd.N_alloc | apply Kd.N_drewN | apply Kd.N_drew)); exact HO_1.out⟩, ⟨by (with_reducible repeat (first | apply Kd.N_alloc | apply Kd.N_drewN | apply Kd.N_drew)); exact HO_305000.out⟩, ⟨by (with_reducible repeat (first | apply Kd.R_alloc | apply Kd.R_drewN | apply Kd.R_drew)); exact HO_305001.out⟩, ⟨by (with_reducible repeat (first | refine blk_drewN ?_ _ | refine blk_drew ?_ | refine blk_alloc ?_ _)); exact BK304.out⟩, ⟨by repeat (first | (with_reducible first | exact HB.out | apply below_alloc | apply pw_below_drewN | apply below_drew1 | refine below_set ?_ GE304.out) | exact HB.out)⟩⟩
        case rest =>
          clear HC33
          try clear c1
          try clear c2
          try clear p2
          try clear q2
          try clear c3
          try clear c6
          try clear c15
          try clear c16
          try clear c17
          try clear c23
          try clear c24
          try clear c24b0
          try clear c24b1
          try clear c25
          try clear c25b0
          try clear c25b1
          try clear c28
          try clear q28
          try clear c32
          try clear c34
          try clear c34b0
          try clear c34b1
          try clear c34b2
          try clear hcz13_0
          try clear hcz13_1
          try clear hcz16_0
          try clear hcz16_1
          try clear hcz20_0
          try clear hcz20_1
          try clear hcz35_0
          try clear hcz35_1
          try clear hcz36_0
          try clear hcz36_1
          try clear hfz13_0
          try clear hfz13_1
          try clear hfz16_0
          try clear hfz16_1
          try clear hfz20_0
          try clear hfz20_1
          try clear hfz35_0
          try clear hfz35_1
          try clear hfz36_0
          try clear hfz36_1
          try clear p2
          try clear q2
          try clear q28
          obtain ⟨kq, x50_32, rfl, HA, HJ32, HO_1, HO_305000, HO_305001, BK304, HB⟩ := hcut
          cases kq with
          | zero => exact absurd HA.out (by simp [arboristlaw12_ValidMore.j1])
          | succ kj32 =>
            have H := HA.out
            clear HA
            simp only [arboristlaw12_ValidMore.j1] at H
            by_cases c37 : x50_32 = true
            · subst c37
              have H1 : (some t305) = some r := by rw [if_pos rfl] at H; exact H
              clear H
              have H := H1
              clear H1
              obtain rfl := Option.some.inj H
              go_wp2
              go_ret
              exact ⟨by first | rfl | (simp [errW_none, errW_some] <;> rfl) | (simp only [← hji6]; first | rfl | (simp [errW_none, errW_some] <;> rfl)) | (simp [*, errW_none, errW_some] <;> rfl), by repeat (first | (with_reducible first | exact HB.out | apply below_alloc | apply pw_below_drewN | apply below_drew1 | refine below_set ?_ GE304.out) | exact HB.out)⟩
            · replace c37 := Bool.eq_false_iff.mpr c37
              subst c37
              have H1 : (arboristlaw12_ValidMore.l0 kj32 ji6 t312 a3 t305 t315 0 t306 t309) = some r := by rw [if_neg (show ¬ (false = true) by decide)] at H; exact H
              clear H
              have H := H1
              clear H1
              have H' := Aside0.mk H
              clear H
              go_wp2
              go_loopg [11] kj32 (fun kq v11 w' => ∃ (x11_3 : Int), v11 = .int .i64 x11_3 ∧ Aside0 (arboristlaw12_ValidMore.l0 kq ji6 t312 a3 t305 t315 x11_3 t306 t309 = some r) ∧ Aside0 (kq ≤ kj32) ∧ Aside0 (Kd.N (Kd.slice 3 (Kd.int .i64)) 23 w' w.heap.size (fun k_ => some k_ ≠ ((.slice Ao15 t306.length co15) : Value).ownBlock ∧ some k_ ≠ ((.slice Ao17 t309.length co17) : Value).ownBlock ∧ k_ ≠ gb304) (.slice Ao21 t312.length co21) t312) ∧ Aside0 (Kd.N (Kd.slice 3 (Kd.int .i64)) 23 w' w.heap.size (fun k_ => some k_ ≠ ((.slice Ao21 t312.length co21) : Value).ownBlock ∧ some k_ ≠ ((.slice Ao17 t309.length co17) : Value).ownBlock ∧ k_ ≠ gb304) (.slice Ao15 t306.length co15) t306) ∧ Aside0 (Kd.R (Kd.int .i64) 3 w' w.heap.size (fun _ => True) (.slice Ao17 t309.length co17) t309) ∧ Aside0 (w'.heap[gb304]? = some (.cells #[(.slice Ao15 t306.length co15), (.slice Ao17 t309.length co17)] 25 (0, 0))) ∧ Aside0 (Below w.heap.size w w'))
              case atStart => exact ⟨(0), (by first | rfl | (simp; done) | (simp [*]; done)), H', ⟨Nat.le_refl _⟩, ⟨by (with_reducible repeat (first | apply Kd.N_alloc | apply Kd.N_drewN | apply Kd.N_drew)); exact HO_1.out⟩, ⟨by (with_reducible repeat (first | apply Kd.N_alloc | apply Kd.N_drewN | apply Kd.N_drew)); exact HO_305000.out⟩, ⟨by (with_reducible repeat (first | apply Kd.R_alloc | apply Kd.R_drewN | apply Kd.R_drew)); exact HO_305001.out⟩, ⟨by (with_reducible repeat (first | refine blk_drewN ?_ _ | refine blk_drew ?_ | refine blk_alloc ?_ _)); exact BK304.out⟩, ⟨by repeat (first | (with_reducible first | exact HB.out | apply below_alloc | apply pw_below_drewN | apply below_drew1 | refine below_set ?_ GE304.out) | exact HB.out)⟩⟩
              case round =>
                clear H'
                try clear c1
                try clear c2
                try clear p2
                try clear q2
                try clear c3
                try clear c6
                try clear c15
                try clear c16
                try clear c17
                try clear c23
                try clear c24
                try clear c24b0
                try clear c24b1
                try clear c25
                try clear c25b0
                try clear c25b1
                try clear c28
                try clear q28
                try clear c32
                try clear c34
                try clear c34b0
                try clear c34b1
                try clear c34b2
                try clear c37
                try clear hcz13_0
                try clear hcz13_1
                try clear hcz16_0
                try clear hcz16_1
                try clear hcz20_0
                try clear hcz20_1
                try clear hcz35_0
                try clear hcz35_1
                try clear hcz36_0
                try clear hcz36_1
                try clear hfz13_0
                try clear hfz13_1
                try clear hfz16_0
                try clear hfz16_1
                try clear hfz20_0
                try clear hfz20_1
                try clear hfz35_0
                try clear hfz35_1
                try clear hfz36_0
                try clear hfz36_1
                try clear p2
                try clear q2
                try clear q28
                obtain ⟨x11_3, rfl, HA, HK3, HO_1, HO_305000, HO_305001, BK304, HB⟩ := hrel
                cases gk with
                | zero => exact absurd HA.out (by simp [arboristlaw12_ValidMore.l0])
                | succ k3 =>
                  have H := HA.out
                  clear HA
                  simp only [arboristlaw12_ValidMore.l0] at H
                  by_cases c38 : x11_3 < (t309.length : Int)
                  · rw [if_pos c38] at H
                    have c38b0 : decide (x11_3 < (t309.length : Int)) = true := decide_eq_true c38
                    clear c38
                    by_cases c39 : 0 ≤ x11_3
                    · rw [if_pos c39] at H
                      have c39b0 : decide (0 ≤ x11_3) = true := decide_eq_true c39
                      clear c39
                      by_cases c40 : (rd t309 x11_3) ≥ (t306.length : Int)
                      · rw [if_pos c40] at H
                        have c40b0 : decide ((t306.length : Int) ≤ (rd t309 x11_3)) = true := decide_eq_true c40
                        clear c40
                        obtain rfl := Option.some.inj H
                        have hcz41_0 : wr.cell? ⟨gb304, 0, none⟩ = some (.slice Ao15 t306.length co15) := (blk_cell BK304.out 0).trans rfl
                        have hcz41_1 : wr.cell? ⟨gb304, 1, none⟩ = some (.slice Ao17 t309.length co17) := (blk_cell BK304.out 1).trans rfl
                        have hfz41_0 := blk_frozen BK304.out 0
                        have hfz41_1 := blk_frozen BK304.out 1
                        try go_wp2
                        have n0_ := Aside0.mk (Kd.N_drew HO_1.out)
                        have n1_ := Aside0.mk (Kd.N_drew HO_305000.out)
                        have n2_ := Aside0.mk (Kd.R_drew HO_305001.out)
                        have n3_ := Aside0.mk (blk_drew BK304.out)
                        have n4_ := Aside0.mk (below_drew1 HB.out)
                        clear HO_1
                        clear HO_305000
                        clear HO_305001
                        clear BK304
                        clear HB
                        have HO_1 := n0_
                        have HO_305000 := n1_
                        have HO_305001 := n2_
                        have BK304 := n3_
                        have HB := n4_
                        clear n0_ n1_ n2_ n3_ n4_
                        have p322 : 0 ≤ (x11_3 : Int) := of_decide_eq_true (by first | (with_reducible assumption) | assumption)
                        have q322 : x11_3 < (t309.length : Int) := of_decide_eq_true (by first | (with_reducible assumption) | assumption)
                        obtain ⟨ad322, e322, hx322_0⟩ := Kd.at_int (Kd.R_reads' HO_305001.out).2.2 x11_3 p322 q322
                        cases e322
                        replace p322 := eq_true p322
                        replace q322 := eq_true q322
                        refine start_ (n := 9) (S := fun w' => w'.cell? ⟨gb304, 0, none⟩ = some (.slice Ao15 t306.length co15) ∧ w'.cell? ⟨gb304, 1, none⟩ = some (.slice (some ad322) t309.length co17) ∧ w'.cell? (ad322.add (x11_3).toNat) = some (.int .i64 (rd t309 x11_3))) (ds := []) (bs 9 0) (by kernel_rfl) rfl rfl ⟨(blk_cell BK304.out 0).trans rfl, (blk_cell BK304.out 1).trans rfl, hx322_0⟩ (fun hHeld => ?_); refine with_tabW arboristlaw12_ValidMore.tab13 arboristlaw12_ValidMore.bits13 (fun HT_ HW_ => ?_)
                        generalize wr.drew = w42 at HO_1 HO_305000 HO_305001 BK304 HB hx322_0 hHeld ⊢
                        refine pure_ (i := 0) (N := some 59) (v := ?_) (a' := ?_) (bs 9 1) rfl rfl (any_of HT_.out (by kernel_rfl)) (fun _ _ _ h => h) (Or.inl ⟨by rfl, ?_⟩) ?_ ?_
                        rotate_left; (intro w'; go_simp; with_reducible rfl); rotate_left; (simp only [Act.put, List.setIfInBounds_toArray, List.set_cons_zero, List.set_cons_succ, i64_w, i32_w]; rfl)
                        refine pure_ (i := 2) (N := some 61) (v := ?_) (a' := ?_) (bs 9 5) rfl rfl (any_of HT_.out (by kernel_rfl)) (fun _ _ _ h => h) (Or.inl ⟨by rfl, ?_⟩) ?_ ?_
                        rotate_left; (intro w'; go_simp; with_reducible rfl); rotate_left; (simp only [Act.put, List.setIfInBounds_toArray, List.set_cons_zero, List.set_cons_succ, i64_w, i32_w]; rfl)
                        refine pure_ (i := 5) (N := some 64) (v := ?_) (a' := ?_) (bs 9 37) rfl rfl (any_of HT_.out (by kernel_rfl)) (fun _ _ _ h => h) (Or.inl ⟨by rfl, ?_⟩) ?_ ?_
                        rotate_left; (intro w'; go_simp; with_reducible rfl); rotate_left; (simp only [Act.put, List.setIfInBounds_toArray, List.set_cons_zero, List.set_cons_succ, i64_w, i32_w]; rfl)
                        refine take_ (i := 1) (N := some 60) (v := ?_) (a' := ?_) (bs 9 39) rfl rfl (take_ofW HT_.out HW_.out (by kernel_rfl)) (fun _ _ _ h => h) (Or.inl ⟨by rfl, ?_⟩) hHeld ?_ ?_
                        rotate_left
                        · rintro w' ⟨s0, s1, s2⟩
                          go_simp
                          with_reducible rfl
                        rotate_left; (simp only [Act.put, List.setIfInBounds_toArray, List.set_cons_zero, List.set_cons_succ, i64_w, i32_w]; rfl)
                        refine pure_ (i := 3) (N := some 62) (v := ?_) (a' := ?_) (bs 9 47) rfl rfl (any_of HT_.out (by kernel_rfl)) (fun _ _ _ h => h) (Or.inl ⟨by rfl, ?_⟩) ?_ ?_
                        rotate_left; (intro w'; go_simp; with_reducible rfl); rotate_left; (simp only [Act.put, List.setIfInBounds_toArray, List.set_cons_zero, List.set_cons_succ, i64_w, i32_w]; rfl)
                        refine take_ (i := 4) (N := some 63) (v := ?_) (a' := ?_) (bs 9 63) rfl rfl (take_ofW HT_.out HW_.out (by kernel_rfl)) (fun _ _ _ h => h) (Or.inl ⟨by rfl, ?_⟩) hHeld ?_ ?_
                        rotate_left
                        · rintro w' ⟨s0, s1, s2⟩
                          go_simp
                          with_reducible rfl
                        rotate_left; (simp only [Act.put, List.setIfInBounds_toArray, List.set_cons_zero, List.set_cons_succ, i64_w, i32_w]; rfl)
                        refine take_ (i := 6) (N := some 65) (v := ?_) (a' := ?_) (bs 9 127) rfl rfl (take_ofW HT_.out HW_.out (by kernel_rfl)) (fun _ _ _ h => h) (Or.inl ⟨by rfl, ?_⟩) hHeld ?_ ?_
                        rotate_left
                        · rintro w' ⟨s0, s1, s2⟩
                          go_simp
                          with_reducible rfl
                        rotate_left; (simp only [Act.put, List.setIfInBounds_toArray, List.set_cons_zero, List.set_cons_succ, i64_w, i32_w]; rfl)
                        refine pure_ (i := 7) (N := some 66) (v := ?_) (a' := ?_) (bs 9 255) rfl rfl (any_of HT_.out (by kernel_rfl)) (fun _ _ _ h => h) (Or.inl ⟨by rfl, ?_⟩) ?_ ?_
                        rotate_left; (intro w'; go_simp; with_reducible rfl); rotate_left; (simp only [Act.put, List.setIfInBounds_toArray, List.set_cons_zero, List.set_cons_succ, i64_w, i32_w]; rfl)
                        refine pure_ (i := 8) (N := some 67) (v := ?_) (a' := ?_) (bs 9 511) rfl rfl (any_of HT_.out (by kernel_rfl)) (fun _ _ _ h => h) (Or.inl ⟨by rfl, ?_⟩) ?_ ?_
                        rotate_left; (intro w'; go_simp; with_reducible rfl); rotate_left; (simp only [Act.put, List.setIfInBounds_toArray, List.set_cons_zero, List.set_cons_succ, i64_w, i32_w]; rfl)
                        refine done_ (done_of HT_.out (by kernel_rfl)) ?_
                        try go_wp2
                        go_ret
                        exact ⟨by first | rfl | (simp [errW_none, errW_some] <;> rfl) | (simp only [← hji6]; first | rfl | (simp [errW_none, errW_some] <;> rfl)) | (simp [*, errW_none, errW_some] <;> rfl), by repeat (first | (with_reducible first | exact HB.out | apply below_alloc | apply pw_below_drewN | apply below_drew1 | refine below_set ?_ GE304.out) | exact HB.out)⟩
                      · rw [if_neg c40] at H
                        have c40b0 : decide ((t306.length : Int) ≤ (rd t309 x11_3)) = false := decide_eq_false c40
                        clear c40
                        have H' := Aside0.mk H
                        clear H
                        have hcz43_0 : wr.cell? ⟨gb304, 0, none⟩ = some (.slice Ao15 t306.length co15) := (blk_cell BK304.out 0).trans rfl
                        have hcz43_1 : wr.cell? ⟨gb304, 1, none⟩ = some (.slice Ao17 t309.length co17) := (blk_cell BK304.out 1).trans rfl
                        have hfz43_0 := blk_frozen BK304.out 0
                        have hfz43_1 := blk_frozen BK304.out 1
                        try go_wp2
                        have n0_ := Aside0.mk (Kd.N_drew HO_1.out)
                        have n1_ := Aside0.mk (Kd.N_drew HO_305000.out)
                        have n2_ := Aside0.mk (Kd.R_drew HO_305001.out)
                        have n3_ := Aside0.mk (blk_drew BK304.out)
                        have n4_ := Aside0.mk (below_drew1 HB.out)
                        clear HO_1
                        clear HO_305000
                        clear HO_305001
                        clear BK304
                        clear HB
                        have HO_1 := n0_
                        have HO_305000 := n1_
                        have HO_305001 := n2_
                        have BK304 := n3_
                        have HB := n4_
                        clear n0_ n1_ n2_ n3_ n4_
                        have p322 : 0 ≤ (x11_3 : Int) := of_decide_eq_true (by first | (with_reducible assumption) | assumption)
                        have q322 : x11_3 < (t309.length : Int) := of_decide_eq_true (by first | (with_reducible assumption) | assumption)
                        obtain ⟨ad322, e322, hx322_0⟩ := Kd.at_int (Kd.R_reads' HO_305001.out).2.2 x11_3 p322 q322
                        cases e322
                        replace p322 := eq_true p322
                        replace q322 := eq_true q322
                        refine start_ (n := 9) (S := fun w' => w'.cell? ⟨gb304, 0, none⟩ = some (.slice Ao15 t306.length co15) ∧ w'.cell? ⟨gb304, 1, none⟩ = some (.slice (some ad322) t309.length co17) ∧ w'.cell? (ad322.add (x11_3).toNat) = some (.int .i64 (rd t309 x11_3))) (ds := []) (bs 9 0) (by kernel_rfl) rfl rfl ⟨(blk_cell BK304.out 0).trans rfl, (blk_cell BK304.out 1).trans rfl, hx322_0⟩ (fun hHeld => ?_); refine with_tabW arboristlaw12_ValidMore.tab13 arboristlaw12_ValidMore.bits13 (fun HT_ HW_ => ?_)
                        generalize wr.drew = w44 at HO_1 HO_305000 HO_305001 BK304 HB hx322_0 hHeld ⊢
                        refine pure_ (i := 0) (N := some 59) (v := ?_) (a' := ?_) (bs 9 1) rfl rfl (any_of HT_.out (by kernel_rfl)) (fun _ _ _ h => h) (Or.inl ⟨by rfl, ?_⟩) ?_ ?_
                        rotate_left; (intro w'; go_simp; with_reducible rfl); rotate_left; (simp only [Act.put, List.setIfInBounds_toArray, List.set_cons_zero, List.set_cons_succ, i64_w, i32_w]; rfl)
                        refine pure_ (i := 2) (N := some 61) (v := ?_) (a' := ?_) (bs 9 5) rfl rfl (any_of HT_.out (by kernel_rfl)) (fun _ _ _ h => h) (Or.inl ⟨by rfl, ?_⟩) ?_ ?_
                        rotate_left; (intro w'; go_simp; with_reducible rfl); rotate_left; (simp only [Act.put, List.setIfInBounds_toArray, List.set_cons_zero, List.set_cons_succ, i64_w, i32_w]; rfl)
                        refine pure_ (i := 5) (N := some 64) (v := ?_) (a' := ?_) (bs 9 37) rfl rfl (any_of HT_.out (by kernel_rfl)) (fun _ _ _ h => h) (Or.inl ⟨by rfl, ?_⟩) ?_ ?_
                        rotate_left; (intro w'; go_simp; with_reducible rfl); rotate_left; (simp only [Act.put, List.setIfInBounds_toArray, List.set_cons_zero, List.set_cons_succ, i64_w, i32_w]; rfl)
                        refine take_ (i := 1) (N := some 60) (v := ?_) (a' := ?_) (bs 9 39) rfl rfl (take_ofW HT_.out HW_.out (by kernel_rfl)) (fun _ _ _ h => h) (Or.inl ⟨by rfl, ?_⟩) hHeld ?_ ?_
                        rotate_left
                        · rintro w' ⟨s0, s1, s2⟩
                          go_simp
                          with_reducible rfl
                        rotate_left; (simp only [Act.put, List.setIfInBounds_toArray, List.set_cons_zero, List.set_cons_succ, i64_w, i32_w]; rfl)
                        refine pure_ (i := 3) (N := some 62) (v := ?_) (a' := ?_) (bs 9 47) rfl rfl (any_of HT_.out (by kernel_rfl)) (fun _ _ _ h => h) (Or.inl ⟨by rfl, ?_⟩) ?_ ?_
                        rotate_left; (intro w'; go_simp; with_reducible rfl); rotate_left; (simp only [Act.put, List.setIfInBounds_toArray, List.set_cons_zero, List.set_cons_succ, i64_w, i32_w]; rfl)
                        refine take_ (i := 4) (N := some 63) (v := ?_) (a' := ?_) (bs 9 63) rfl rfl (take_ofW HT_.out HW_.out (by kernel_rfl)) (fun _ _ _ h => h) (Or.inl ⟨by rfl, ?_⟩) hHeld ?_ ?_
                        rotate_left
                        · rintro w' ⟨s0, s1, s2⟩
                          go_simp
                          with_reducible rfl
                        rotate_left; (simp only [Act.put, List.setIfInBounds_toArray, List.set_cons_zero, List.set_cons_succ, i64_w, i32_w]; rfl)
                        refine take_ (i := 6) (N := some 65) (v := ?_) (a' := ?_) (bs 9 127) rfl rfl (take_ofW HT_.out HW_.out (by kernel_rfl)) (fun _ _ _ h => h) (Or.inl ⟨by rfl, ?_⟩) hHeld ?_ ?_
                        rotate_left
                        · rintro w' ⟨s0, s1, s2⟩
                          go_simp
                          with_reducible rfl
                        rotate_left; (simp only [Act.put, List.setIfInBounds_toArray, List.set_cons_zero, List.set_cons_succ, i64_w, i32_w]; rfl)
                        refine pure_ (i := 7) (N := some 66) (v := ?_) (a' := ?_) (bs 9 255) rfl rfl (any_of HT_.out (by kernel_rfl)) (fun _ _ _ h => h) (Or.inl ⟨by rfl, ?_⟩) ?_ ?_
                        rotate_left; (intro w'; go_simp; with_reducible rfl); rotate_left; (simp only [Act.put, List.setIfInBounds_toArray, List.set_cons_zero, List.set_cons_succ, i64_w, i32_w]; rfl)
                        refine pure_ (i := 8) (N := some 67) (v := ?_) (a' := ?_) (bs 9 511) rfl rfl (any_of HT_.out (by kernel_rfl)) (fun _ _ _ h => h) (Or.inl ⟨by rfl, ?_⟩) ?_ ?_
                        rotate_left; (intro w'; go_simp; with_reducible rfl); rotate_left; (simp only [Act.put, List.setIfInBounds_toArray, List.set_cons_zero, List.set_cons_succ, i64_w, i32_w]; rfl)
                        refine done_ (done_of HT_.out (by kernel_rfl)) ?_
                        try go_wp2
                        go_roundg k3
                        case measure => have := HJ9.out; have := HJ32.out; have := HK3.out; omega
                        case rel => exact ⟨(wrap64 (x11_3 + 1)), (by first | rfl | (simp; done) | (simp [*]; done)), H', ⟨by have := HJ9.out; have := HJ32.out; have := HK3.out; omega⟩, ⟨by (with_reducible repeat (first | apply Kd.N_alloc | apply Kd.N_drewN | apply Kd.N_drew)); exact HO_1.out⟩, ⟨by (with_reducible repeat (first | apply Kd.N_alloc | apply Kd.N_drewN | apply Kd.N_drew)); exact HO_305000.out⟩, ⟨by (with_reducible repeat (first | apply Kd.R_alloc | apply Kd.R_drewN | apply Kd.R_drew)); exact HO_305001.out⟩, ⟨by (with_reducible repeat (first | refine blk_drewN ?_ _ | refine blk_drew ?_ | refine blk_alloc ?_ _)); exact BK304.out⟩, ⟨by repeat (first | (with_reducible first | exact HB.out | apply below_alloc | apply pw_below_drewN | apply below_drew1 | refine below_set ?_ GE304.out) | exact HB.out)⟩⟩
                    · rw [if_neg c39] at H
                      exact absurd H (by simp)
                  · rw [if_neg c38] at H
                    have c38b0 : decide (x11_3 < (t309.length : Int)) = false := decide_eq_false c38
                    clear c38
                    by_cases c45 : (t306.length : Int) = 0
                    · rw [if_pos c45] at H
                      exact absurd H (by simp)
                    · rw [if_neg c45] at H
                      have c45b0 : ((t306.length : Int) == 0) = false := beq_eq_false_iff_ne.mpr c45
                      have c45b1 : ((t306.length : Int) != 0) = true := bne_iff_ne.mpr c45
                      have c45b2 : ¬ (t306 = []) := fun h_ => c45 (by rw [h_]; rfl)
                      replace H := Option.bind_eq_some_iff.mp H
                      obtain ⟨⟨t323, t326⟩, A460, H⟩ := H
                      replace H : (if 0 ≤ (Int.tmod (Go.bits .and .i64 a3 65535) (t306.length : Int)) then (if (Int.tmod (Go.bits .and .i64 a3 65535) (t306.length : Int)) < (t306.length : Int) then (if t323.length < 5864062014805 then (if t326.length < 17592186044416 then (if t305 = true then ((valid_Check.f k3 ji6 t312 (t323 ++ [rd_L1 t306 (Int.tmod (Go.bits .and .i64 a3 65535) (t306.length : Int))]) (t326 ++ [Int.tmod (Go.bits .and .i64 a3 65535) (t306.length : Int)])).bind fun t337 => (some (t337 == t315))) else (some false)) else (none)) else (none)) else (none)) else (none)) = some r := H
                      have A46 := Aside0.mk A460
                      clear A460
                      obtain ⟨ji47, hji47⟩ : ∃ j_ : Int, (Int.tmod (Go.bits .and .i64 a3 65535) (t306.length : Int)) = j_ := ⟨_, rfl⟩
                      replace H : (if 0 ≤ (ji47) then (if (ji47) < (t306.length : Int) then (if t323.length < 5864062014805 then (if t326.length < 17592186044416 then (if t305 = true then ((valid_Check.f k3 ji6 t312 (t323 ++ [rd_L1 t306 (ji47)]) (t326 ++ [ji47])).bind fun t337 => (some (t337 == t315))) else (some false)) else (none)) else (none)) else (none)) else (none)) = some r := by first | (rw [hji47] at H; exact H) | (simp only [hji47] at H ⊢; exact H)
                      (try rw [hji47] at A46)
                      by_cases c48 : 0 ≤ (ji47)
                      · rw [if_pos c48] at H
                        have c48b0 : decide (0 ≤ (ji47)) = true := decide_eq_true c48
                        clear c48
                        by_cases c49 : (ji47) < (t306.length : Int)
                        · rw [if_pos c49] at H
                          have c49b0 : decide ((ji47) < (t306.length : Int)) = true := decide_eq_true c49
                          clear c49
                          by_cases c50 : t323.length < 5864062014805
                          · rw [if_pos c50] at H
                            have LMc50 := Aside0.mk c50
                            clear c50
                            obtain ⟨y331, hy331⟩ : ∃ y_ : List (List Int), y_ = (t323 ++ [rd_L1 t306 (ji47)]) := ⟨_, rfl⟩
                            replace H : (if t326.length < 17592186044416 then (if t305 = true then ((valid_Check.f k3 ji6 t312 y331 (t326 ++ [ji47])).bind fun t337 => (some (t337 == t315))) else (some false)) else (none)) = some r := by first | (rw [hy331]; with_reducible exact H) | (have H2_ := (Option.bind_some _ _).symm.trans H; rw [hy331]; with_reducible exact H2_) | (have H2_ := (Option.bind_some _ _).symm.trans H; with_reducible exact H2_) | with_reducible exact H | (rw [hy331]; exact H) | exact H
                            have Ny331 := Aside0.mk hy331
                            clear hy331
                            by_cases c51 : t326.length < 17592186044416
                            · rw [if_pos c51] at H
                              have LMc51 := Aside0.mk c51
                              clear c51
                              obtain ⟨y334, hy334⟩ : ∃ y_ : List Int, y_ = (t326 ++ [ji47]) := ⟨_, rfl⟩
                              replace H : (if t305 = true then ((valid_Check.f k3 ji6 t312 y331 y334).bind fun t337 => (some (t337 == t315))) else (some false)) = some r := by first | (rw [hy334]; with_reducible exact H) | (have H2_ := (Option.bind_some _ _).symm.trans H; rw [hy334]; with_reducible exact H2_) | (have H2_ := (Option.bind_some _ _).symm.trans H; with_reducible exact H2_) | with_reducible exact H | (rw [hy334]; exact H) | exact H
                              have Ny334 := Aside0.mk hy334
                              clear hy334
                              by_cases c52 : t305 = true
                              · subst c52
                                have H1 : ((valid_Check.f k3 ji6 t312 y331 y334).bind fun t337 => (some (t337 == t315))) = some r := by rw [if_pos rfl] at H; exact H
                                clear H
                                have H := H1
                                clear H1
                                replace H := Option.bind_eq_some_iff.mp H
                                obtain ⟨t337, A530, H⟩ := H
                                replace H : (some (t337 == t315)) = some r := H
                                have A53 := Aside0.mk A530
                                clear A530
                                obtain rfl := Option.some.inj H
                                have hcz54_0 : wr.cell? ⟨gb304, 0, none⟩ = some (.slice Ao15 t306.length co15) := (blk_cell BK304.out 0).trans rfl
                                have hcz54_1 : wr.cell? ⟨gb304, 1, none⟩ = some (.slice Ao17 t309.length co17) := (blk_cell BK304.out 1).trans rfl
                                have hfz54_0 := blk_frozen BK304.out 0
                                have hfz54_1 := blk_frozen BK304.out 1
                                try go_wp2_with (first | ((with_reducible refine gate_callee (f := 16) rfl ?_); refine goesL_ (some 76) rfl rfl Try.func16 (by kernel_rfl) rfl #[.agg #[.slice Ao15 t306.length co15, .slice Ao17 t309.length co17]] rfl (by (try simp only [List.map_toArray, List.map_cons, List.map_nil]); first | done | rfl | (simp only [List.length_drop, List.length_take]; rfl)) ?_; (with_reducible refine (arboristlaw12_cut.calls k3 _ _ t306 _ _ t309 t323 t326 _ ?side1 ?side2 ?side3 ?side4 A46.out).mono ?_); (case side1 => repeat (first | exact (Kd.N_reads' HO_305000.out).2.2 | (with_reducible refine Kd.C_alloc ?_ _) | (with_reducible refine Kd.C_drewN ?_ _) | (with_reducible refine Kd.C_drew ?_))); (case side2 => exact (Kd.N_reads' HO_305000.out).2.1); (case side3 => repeat (first | exact (Kd.R_reads' HO_305001.out).2.2 | (with_reducible refine Kd.C_alloc ?_ _) | (with_reducible refine Kd.C_drewN ?_ _) | (with_reducible refine Kd.C_drew ?_))); (case side4 => exact (Kd.R_reads' HO_305001.out).2.1); rintro e w55 ⟨v324, v327, rfl, ho0, ho1, hb⟩; refine ⟨_, rfl, ?_⟩; have n0_ := Aside0.mk (Kd.N_mono (Kd.N_told (Kd.N_told (Kd.N_old (by (with_reducible repeat (first | apply Kd.N_alloc | apply Kd.N_drewN | apply Kd.N_drew)); exact HO_1.out) hb) (by first | exact Kd.N_base ho0 | exact Kd.N_base (Kd.S_N ho0))) (Kd.R_base ho1)) (fun _ h_ => h_.1)); have n1_ := Aside0.mk (Kd.N_mono (Kd.N_told (Kd.N_told (Kd.N_old (by (with_reducible repeat (first | apply Kd.N_alloc | apply Kd.N_drewN | apply Kd.N_drew)); exact HO_305000.out) hb) (by first | exact Kd.N_base ho0 | exact Kd.N_base (Kd.S_N ho0))) (Kd.R_base ho1)) (fun _ h_ => h_.1)); have n2_ := Aside0.mk (Kd.R_elder' (by (with_reducible repeat (first | apply Kd.R_alloc | apply Kd.R_drewN | apply Kd.R_drew)); exact HO_305001.out) (Kd.R_base ho1) hb); have n3_ := Aside0.mk (Kd.N_lower (Kd.N_mono (ok' := fun k_ => some k_ ≠ (v327 : Value).ownBlock ∧ some k_ ≠ (.slice Ao21 t312.length co21 : Value).ownBlock ∧ some k_ ≠ (.slice Ao15 t306.length co15 : Value).ownBlock ∧ some k_ ≠ (.slice Ao17 t309.length co17 : Value).ownBlock ∧ k_ ≠ gb304) (Kd.S_N (Kd.S_bound ho0)) (fun k_ hk_ => ⟨hk_.1, (Kd.fresh' (Kd.N_lt (by (with_reducible repeat (first | apply Kd.N_alloc | apply Kd.N_drewN | apply Kd.N_drew)); exact HO_1.out)) k_ hk_.2.1), (Kd.fresh' (Kd.N_lt (by (with_reducible repeat (first | apply Kd.N_alloc | apply Kd.N_drewN | apply Kd.N_drew)); exact HO_305000.out)) k_ hk_.2.1), (Kd.fresh' (Kd.R_lt (by (with_reducible repeat (first | apply Kd.R_alloc | apply Kd.R_drewN | apply Kd.R_drew)); exact HO_305001.out)) k_ hk_.2.1), (Kd.freshB (g := gb304) (o := .cells #[.slice Ao15 t306.length co15, .slice Ao17 t309.length co17] 25 (0, 0)) (by (with_reducible repeat (first | refine blk_drewN ?_ _ | refine blk_drew ?_ | refine blk_alloc ?_ _)); exact BK304.out) k_ hk_.2.1)⟩)) (below_size (by repeat (first | (with_reducible first | exact HB.out | apply below_alloc | apply pw_below_drewN | apply below_drew1 | refine below_set ?_ GE304.out) | exact HB.out)))); have n4_ := Aside0.mk (Kd.R_lower (Kd.R_new' ho1 (Kd.R_lt (by (with_reducible repeat (first | apply Kd.R_alloc | apply Kd.R_drewN | apply Kd.R_drew)); exact HO_305001.out))) (below_size (by repeat (first | (with_reducible first | exact HB.out | apply below_alloc | apply pw_below_drewN | apply below_drew1 | refine below_set ?_ GE304.out) | exact HB.out)))); have n5_ := Aside0.mk (blk_below (g := gb304) (o := .cells #[.slice Ao15 t306.length co15, .slice Ao17 t309.length co17] 25 (0, 0)) (by (with_reducible repeat (first | refine blk_drewN ?_ _ | refine blk_drew ?_ | refine blk_alloc ?_ _)); exact BK304.out) hb); have n6_ := Aside0.mk (below_step (by repeat (first | (with_reducible first | exact HB.out | apply below_alloc | apply pw_below_drewN | apply below_drew1 | refine below_set ?_ GE304.out) | exact HB.out)) hb); clear HO_1; clear HO_305000; clear HO_305001; clear BK304; clear HB; have HO_1 := n0_; have HO_305000 := n1_; have HO_305001 := n2_; have HO325 := n3_; have HO328 := n4_; have BK304 := n5_; have HB := n6_; clear n0_ n1_ n2_ n3_ n4_ n5_ n6_; (try clear hb); (try clear hb2); (try clear hk); (try clear hi); (try clear ho0); (try clear ho1)) | ((with_reducible refine gate_dst (N := 12) rfl ?_); (try (refine gate_guard (by rfl) ?_; dsimp only)); refine box_event ?hg (N := 12) ?hd (cs := #[.slice none 0 0, .slice none 0 0]) (t := 25) ?hr ?_; (case hd => rfl); (case hg => rfl); (case hr => first | (go_simp; done) | (go_simp; rfl)); intro gb329 hg w56 hbox hb; have n0_ := Aside0.mk (Kd.N_below (Kd.N_elderB (by (with_reducible repeat (first | apply Kd.N_alloc | apply Kd.N_drewN | apply Kd.N_drew)); exact HO_1.out) gb329 (Nat.le_of_eq hg.symm)) hb); have n1_ := Aside0.mk (Kd.N_below (Kd.N_elderB (by (with_reducible repeat (first | apply Kd.N_alloc | apply Kd.N_drewN | apply Kd.N_drew)); exact HO_305000.out) gb329 (Nat.le_of_eq hg.symm)) hb); have n2_ := Aside0.mk (Kd.R_below (by (with_reducible repeat (first | apply Kd.R_alloc | apply Kd.R_drewN | apply Kd.R_drew)); exact HO_305001.out) hb); have n3_ := Aside0.mk (Kd.N_below (Kd.N_elderB (by (with_reducible repeat (first | apply Kd.N_alloc | apply Kd.N_drewN | apply Kd.N_drew)); exact HO325.out) gb329 (Nat.le_of_eq hg.symm)) hb); have n4_ := Aside0.mk (Kd.R_below (by (with_reducible repeat (first | apply Kd.R_alloc | apply Kd.R_drewN | apply Kd.R_drew)); exact HO328.out) hb); have n5_ := Aside0.mk (blk_below (g := gb304) (o := .cells #[.slice Ao15 t306.length co15, .slice Ao17 t309.length co17] 25 (0, 0)) (by (with_reducible repeat (first | refine blk_drewN ?_ _ | refine blk_drew ?_ | refine blk_alloc ?_ _)); exact BK304.out) hb); have n6_ := Aside0.mk (below_step (by repeat (first | (with_reducible first | exact HB.out | apply below_alloc | apply pw_below_drewN | apply below_drew1 | refine below_set ?_ GE304.out) | exact HB.out)) hb); have n7_ := Aside0.mk (hbox); have n8_ := Aside0.mk ((by rw [hg]; exact (below_size (by repeat (first | (with_reducible first | exact HB.out | apply below_alloc | apply pw_below_drewN | apply below_drew1 | refine below_set ?_ GE304.out) | exact HB.out))) : w.heap.size ≤ gb329)); have n9_ := Aside0.mk ((by rw [hg]; exact (below_size (by repeat (first | (with_reducible first | exact HB.out | apply below_alloc | apply pw_below_drewN | apply below_drew1 | refine below_set ?_ GE304.out) | exact HB.out))) : w.heap.size ≤ gb329)); have n10_ := Aside0.mk ((by rw [hg]; exact Nat.ne_of_lt (blk_lt (g := gb304) (o := .cells #[.slice Ao15 t306.length co15, .slice Ao17 t309.length co17] 25 (0, 0)) (by (with_reducible repeat (first | refine blk_drewN ?_ _ | refine blk_drew ?_ | refine blk_alloc ?_ _)); exact BK304.out)) : gb304 ≠ gb329)); have n11_ := Aside0.mk ((by rw [hg]; exact Nat.ne_of_gt (blk_lt (g := gb304) (o := .cells #[.slice Ao15 t306.length co15, .slice Ao17 t309.length co17] 25 (0, 0)) (by (with_reducible repeat (first | refine blk_drewN ?_ _ | refine blk_drew ?_ | refine blk_alloc ?_ _)); exact BK304.out)) : gb329 ≠ gb304)); clear HO_1; clear HO_305000; clear HO_305001; clear HO325; clear HO328; clear BK304; clear HB; have HO_1 := n0_; have HO_305000 := n1_; have HO_305001 := n2_; have HO325 := n3_; have HO328 := n4_; have BK304 := n5_; have HB := n6_; have BK329 := n7_; have GW329 := n8_; have GE329 := n9_; have NB304_329 := n10_; have NB329_304 := n11_; clear n0_ n1_ n2_ n3_ n4_ n5_ n6_ n7_ n8_ n9_ n10_ n11_; clear hb hbox hg; obtain ⟨Ao57, co57, eo57⟩ := Kd.N_slice HO325.out; subst eo57; have hnb58 := NB329_304.out; have hnc58 := NB304_329.out; have hcz59_0 : w56.cell? ⟨gb329, 0, none⟩ = some (.slice none 0 0) := (blk_cell BK329.out 0).trans rfl; have hcz59_1 : w56.cell? ⟨gb329, 1, none⟩ = some (.slice none 0 0) := (blk_cell BK329.out 1).trans rfl; have hfz59_0 := blk_frozen BK329.out 0; have hfz59_1 := blk_frozen BK329.out 1; obtain ⟨Ao60, co60, eo60⟩ := Kd.R_slice HO328.out; subst eo60))
                                have n0_ : Aside0 (Kd.N (Kd.slice 3 (Kd.int .i64)) 23 ((w56.setCell ⟨gb329, 0, none⟩ (.slice Ao57 t323.length co57)).setCell ⟨gb329, 1, none⟩ (.slice Ao60 t326.length co60)) w.heap.size (fun k_ => some k_ ≠ (.slice Ao15 t306.length co15 : Value).ownBlock ∧ some k_ ≠ (.slice Ao17 t309.length co17 : Value).ownBlock ∧ some k_ ≠ (.slice Ao57 t323.length co57 : Value).ownBlock ∧ some k_ ≠ (.slice Ao60 t326.length co60 : Value).ownBlock ∧ k_ ≠ gb304 ∧ k_ ≠ gb329) (.slice Ao21 t312.length co21) t312) := ⟨by (with_reducible repeat (first | apply Kd.N_alloc | apply Kd.N_drewN | apply Kd.N_drew)); exact Kd.N_mono (Kd.N_far (p := ⟨gb329, 1, none⟩) (Kd.N_far (p := ⟨gb329, 0, none⟩) (Kd.N_mono HO_1.out (fun k_ hk => (⟨hk, hk.2⟩ : _ ∧ k_ ≠ gb329))) (fun _ hk => hk.2) (.slice Ao57 t323.length co57)) (fun _ hk => hk.2) (.slice Ao60 t326.length co60)) (fun _ hk => ⟨hk.1.1.1.1.1, ⟨hk.1.1.1.1.2.1, ⟨hk.1.1.1.2, ⟨hk.1.1.2, ⟨hk.1.1.1.1.2.2, hk.1.2⟩⟩⟩⟩⟩)⟩
                                have n1_ : Aside0 (Kd.N (Kd.slice 3 (Kd.int .i64)) 23 ((w56.setCell ⟨gb329, 0, none⟩ (.slice Ao57 t323.length co57)).setCell ⟨gb329, 1, none⟩ (.slice Ao60 t326.length co60)) w.heap.size (fun k_ => some k_ ≠ (.slice Ao21 t312.length co21 : Value).ownBlock ∧ some k_ ≠ (.slice Ao17 t309.length co17 : Value).ownBlock ∧ some k_ ≠ (.slice Ao57 t323.length co57 : Value).ownBlock ∧ some k_ ≠ (.slice Ao60 t326.length co60 : Value).ownBlock ∧ k_ ≠ gb304 ∧ k_ ≠ gb329) (.slice Ao15 t306.length co15) t306) := ⟨by (with_reducible repeat (first | apply Kd.N_alloc | apply Kd.N_drewN | apply Kd.N_drew)); exact Kd.N_mono (Kd.N_far (p := ⟨gb329, 1, none⟩) (Kd.N_far (p := ⟨gb329, 0, none⟩) (Kd.N_mono HO_305000.out (fun k_ hk => (⟨hk, hk.2⟩ : _ ∧ k_ ≠ gb329))) (fun _ hk => hk.2) (.slice Ao57 t323.length co57)) (fun _ hk => hk.2) (.slice Ao60 t326.length co60)) (fun _ hk => ⟨hk.1.1.1.1.1, ⟨hk.1.1.1.1.2.1, ⟨hk.1.1.1.2, ⟨hk.1.1.2, ⟨hk.1.1.1.1.2.2, hk.1.2⟩⟩⟩⟩⟩)⟩
                                have n2_ : Aside0 (Kd.R (Kd.int .i64) 3 ((w56.setCell ⟨gb329, 0, none⟩ (.slice Ao57 t323.length co57)).setCell ⟨gb329, 1, none⟩ (.slice Ao60 t326.length co60)) w.heap.size (fun k_ => some k_ ≠ (.slice Ao60 t326.length co60 : Value).ownBlock) (.slice Ao17 t309.length co17) t309) := ⟨by (with_reducible repeat (first | apply Kd.R_alloc | apply Kd.R_drewN | apply Kd.R_drew)); exact Kd.R_mono (Kd.R_far (p := ⟨gb329, 1, none⟩) (Kd.R_far (p := ⟨gb329, 0, none⟩) (Kd.R_types HO_305001.out BK329.out (by decide)) (fun _ hk => hk.2) (.slice Ao57 t323.length co57)) (fun _ hk => hk.2) (.slice Ao60 t326.length co60)) (fun _ hk => hk.1.2)⟩
                                have n3_ : Aside0 (Kd.N (Kd.slice 3 (Kd.int .i64)) 23 ((w56.setCell ⟨gb329, 0, none⟩ (.slice Ao57 t323.length co57)).setCell ⟨gb329, 1, none⟩ (.slice Ao60 t326.length co60)) w.heap.size (fun k_ => some k_ ≠ (.slice Ao21 t312.length co21 : Value).ownBlock ∧ some k_ ≠ (.slice Ao15 t306.length co15 : Value).ownBlock ∧ some k_ ≠ (.slice Ao17 t309.length co17 : Value).ownBlock ∧ some k_ ≠ (.slice Ao60 t326.length co60 : Value).ownBlock ∧ k_ ≠ gb304 ∧ k_ ≠ gb329) (.slice Ao57 t323.length co57) t323) := ⟨by (with_reducible repeat (first | apply Kd.N_alloc | apply Kd.N_drewN | apply Kd.N_drew)); exact Kd.N_mono (Kd.N_far (p := ⟨gb329, 1, none⟩) (Kd.N_far (p := ⟨gb329, 0, none⟩) (Kd.N_mono HO325.out (fun k_ hk => (⟨hk, hk.2⟩ : _ ∧ k_ ≠ gb329))) (fun _ hk => hk.2) (.slice Ao57 t323.length co57)) (fun _ hk => hk.2) (.slice Ao60 t326.length co60)) (fun _ hk => ⟨hk.1.1.2.1, ⟨hk.1.1.2.2.1, ⟨hk.1.1.2.2.2.1, ⟨hk.1.1.1, ⟨hk.1.1.2.2.2.2, hk.1.2⟩⟩⟩⟩⟩)⟩
                                have n4_ : Aside0 (Kd.R (Kd.int .i64) 3 ((w56.setCell ⟨gb329, 0, none⟩ (.slice Ao57 t323.length co57)).setCell ⟨gb329, 1, none⟩ (.slice Ao60 t326.length co60)) w.heap.size (fun k_ => some k_ ≠ (.slice Ao17 t309.length co17 : Value).ownBlock) (.slice Ao60 t326.length co60) t326) := ⟨by (with_reducible repeat (first | apply Kd.R_alloc | apply Kd.R_drewN | apply Kd.R_drew)); exact Kd.R_mono (Kd.R_far (p := ⟨gb329, 1, none⟩) (Kd.R_far (p := ⟨gb329, 0, none⟩) (Kd.R_types HO328.out BK329.out (by decide)) (fun _ hk => hk.2) (.slice Ao57 t323.length co57)) (fun _ hk => hk.2) (.slice Ao60 t326.length co60)) (fun _ hk => hk.1.2)⟩
                                have n5_ : Aside0 (((w56.setCell ⟨gb329, 0, none⟩ (.slice Ao57 t323.length co57)).setCell ⟨gb329, 1, none⟩ (.slice Ao60 t326.length co60)).heap[gb304]? = some (.cells #[.slice Ao15 t306.length co15, .slice Ao17 t309.length co17] 25 (0, 0))) := ⟨by (with_reducible repeat (first | refine blk_drewN ?_ _ | refine blk_drew ?_ | refine blk_alloc ?_ _)); refine blk_far ?_ NB304_329.out _; (with_reducible repeat (first | refine blk_drewN ?_ _ | refine blk_drew ?_ | refine blk_alloc ?_ _)); refine blk_far ?_ NB304_329.out _; (with_reducible repeat (first | refine blk_drewN ?_ _ | refine blk_drew ?_ | refine blk_alloc ?_ _)); exact BK304.out⟩
                                have n6_ : Aside0 (((w56.setCell ⟨gb329, 0, none⟩ (.slice Ao57 t323.length co57)).setCell ⟨gb329, 1, none⟩ (.slice Ao60 t326.length co60)).heap[gb329]? = some (.cells #[.slice Ao57 t323.length co57, .slice Ao60 t326.length co60] 25 (0, 0))) := ⟨by (with_reducible repeat (first | refine blk_drewN ?_ _ | refine blk_drew ?_ | refine blk_alloc ?_ _)); refine blk_put (cs := #[.slice Ao57 t323.length co57, .slice none 0 0]) ?_ 1 _ rfl; (with_reducible repeat (first | refine blk_drewN ?_ _ | refine blk_drew ?_ | refine blk_alloc ?_ _)); refine blk_put (cs := #[.slice none 0 0, .slice none 0 0]) ?_ 0 _ rfl; (with_reducible repeat (first | refine blk_drewN ?_ _ | refine blk_drew ?_ | refine blk_alloc ?_ _)); exact BK329.out⟩
                                have n7_ : Aside0 (Below w.heap.size w ((w56.setCell ⟨gb329, 0, none⟩ (.slice Ao57 t323.length co57)).setCell ⟨gb329, 1, none⟩ (.slice Ao60 t326.length co60))) := ⟨by repeat (first | (with_reducible first | exact HB.out | apply below_alloc | apply pw_below_drewN | apply below_drew1 | refine below_set ?_ GE304.out | refine below_set ?_ GE329.out) | exact HB.out)⟩
                                (try clear HO_1)
                                (try clear HO_305000)
                                (try clear HO_305001)
                                (try clear HO325)
                                (try clear HO328)
                                (try clear BK304)
                                (try clear BK329)
                                (try clear HB)
                                generalize ((w56.setCell ⟨gb329, 0, none⟩ (.slice Ao57 t323.length co57)).setCell ⟨gb329, 1, none⟩ (.slice Ao60 t326.length co60)) = w61 at n0_ n1_ n2_ n3_ n4_ n5_ n6_ n7_ ⊢
                                have HO_1 := n0_
                                have HO_305000 := n1_
                                have HO_305001 := n2_
                                have HO325 := n3_
                                have HO328 := n4_
                                have BK304 := n5_
                                have BK329 := n6_
                                have HB := n7_
                                clear n0_ n1_ n2_ n3_ n4_ n5_ n6_ n7_
                                have n0_ := Aside0.mk (Kd.N_drew HO_1.out)
                                have n1_ := Aside0.mk (Kd.N_drew HO_305000.out)
                                have n2_ := Aside0.mk (Kd.R_drew HO_305001.out)
                                have n3_ := Aside0.mk (Kd.N_drew HO325.out)
                                have n4_ := Aside0.mk (Kd.R_drew HO328.out)
                                have n5_ := Aside0.mk (blk_drew BK304.out)
                                have n6_ := Aside0.mk (blk_drew BK329.out)
                                have n7_ := Aside0.mk (below_drew1 HB.out)
                                clear HO_1
                                clear HO_305000
                                clear HO_305001
                                clear HO325
                                clear HO328
                                clear BK304
                                clear BK329
                                clear HB
                                have HO_1 := n0_
                                have HO_305000 := n1_
                                have HO_305001 := n2_
                                have HO325 := n3_
                                have HO328 := n4_
                                have BK304 := n5_
                                have BK329 := n6_
                                have HB := n7_
                                clear n0_ n1_ n2_ n3_ n4_ n5_ n6_ n7_
                                have p330 : 0 ≤ ((ji47) : Int) := of_decide_eq_true (by first | (with_reducible assumption) | assumption)
                                have q330 : (ji47) < (t306.length : Int) := of_decide_eq_true (by first | (with_reducible assumption) | assumption)
                                obtain ⟨ad330, A330_0, c330_0, e330, hx330_0, hl330_0, hi330_0⟩ := at_L1 (Kd.N_reads' HO_305000.out).2.2 (ji47) p330 q330
                                cases e330
                                obtain ⟨ce330, hce330, hMe330, hcc330⟩ := Kd.N_get HO_305000.out [] (ji47) p330 (by first | exact q330 | exact of_decide_eq_true (by first | (with_reducible assumption) | assumption) | (have e_ := (Kd.N_reads' HO_305000.out).1; omega))
                                obtain ⟨ua330_0, uc330_0, rfl, ul330_0, ge330_0⟩ := Kd.FK_slice_open hMe330
                                have hv330_0 := hcc330 0 _ rfl
                                rw [Nat.add_zero, show ((Kd.slice 3 (Kd.int .i64))).sz = 1 from rfl, Nat.mul_one] at hv330_0
                                replace hv330_0 := Option.some.inj (hv330_0.symm.trans hx330_0)
                                injection hv330_0 with hva_ hvn_ hvc_
                                rw [hva_] at ge330_0
                                rw [hvc_] at ul330_0
                                have HL330_0 := Aside0.mk (show Kd.V (Kd.int .i64) 3 _ w.heap.size _ _ (rd_L1 t306 (ji47)) from Kd.V_mk ul330_0 ge330_0)
                                clear hva_ hvn_ hvc_ ge330_0 ul330_0
                                clear hcc330 hce330
                                have HR330_0 := Aside0.mk hi330_0
                                have HC330_0 := Aside0.mk hl330_0
                                clear hi330_0 hl330_0
                                replace p330 := eq_true p330
                                replace q330 := eq_true q330
                                refine start_ (n := 11) (S := fun w' => w'.cell? ⟨gb329, 0, none⟩ = some (.slice Ao57 t323.length co57) ∧ w'.cell? ⟨gb329, 1, none⟩ = some (.slice Ao60 t326.length co60) ∧ w'.cell? ⟨gb304, 0, none⟩ = some (.slice (some ad330) t306.length co15) ∧ w'.cell? ⟨gb304, 1, none⟩ = some (.slice Ao17 t309.length co17) ∧ w'.cell? (ad330.add ((ji47)).toNat) = some (.slice A330_0 (rd_L1 t306 (ji47)).length c330_0)) (ds := [8, 10]) (bs 11 0) (by kernel_rfl) rfl rfl ⟨(blk_cell BK329.out 0).trans rfl, (blk_cell BK329.out 1).trans rfl, (blk_cell BK304.out 0).trans rfl, (blk_cell BK304.out 1).trans rfl, hx330_0⟩ (fun hHeld => ?_); refine with_tabW arboristlaw12_ValidMore.tab17 arboristlaw12_ValidMore.bits17 (fun HT_ HW_ => ?_)
                                generalize w61.drew = w62 at HO_1 HO_305000 HO_305001 HO325 HO328 BK304 BK329 HB HL330_0 HR330_0 hx330_0 hHeld ⊢
                                refine pure_ (i := 0) (N := some 77) (v := ?_) (a' := ?_) (bs 11 1) rfl rfl (any_of HT_.out (by kernel_rfl)) (fun _ _ _ h => h) (Or.inl ⟨by rfl, ?_⟩) ?_ ?_
                                rotate_left; (intro w'; go_simp; with_reducible rfl); rotate_left; (simp only [Act.put, List.setIfInBounds_toArray, List.set_cons_zero, List.set_cons_succ, i64_w, i32_w]; rfl)
                                refine pure_ (i := 2) (N := some 79) (v := ?_) (a' := ?_) (bs 11 5) rfl rfl (any_of HT_.out (by kernel_rfl)) (fun _ _ _ h => h) (Or.inl ⟨by rfl, ?_⟩) ?_ ?_
                                rotate_left; (intro w'; go_simp; with_reducible rfl); rotate_left; (simp only [Act.put, List.setIfInBounds_toArray, List.set_cons_zero, List.set_cons_succ, i64_w, i32_w]; rfl)
                                refine pure_ (i := 4) (N := some 81) (v := ?_) (a' := ?_) (bs 11 21) rfl rfl (any_of HT_.out (by kernel_rfl)) (fun _ _ _ h => h) (Or.inl ⟨by rfl, ?_⟩) ?_ ?_
                                rotate_left; (intro w'; go_simp; with_reducible rfl); rotate_left; (simp only [Act.put, List.setIfInBounds_toArray, List.set_cons_zero, List.set_cons_succ, i64_w, i32_w]; rfl)
                                refine take_ (i := 1) (N := some 78) (v := ?_) (a' := ?_) (bs 11 23) rfl rfl (take_ofW HT_.out HW_.out (by kernel_rfl)) (fun _ _ _ h => h) (Or.inl ⟨by rfl, ?_⟩) hHeld ?_ ?_
                                rotate_left
                                · rintro w' ⟨s0, s1, s2, s3, s4⟩
                                  go_simp
                                  with_reducible rfl
                                rotate_left; (simp only [Act.put, List.setIfInBounds_toArray, List.set_cons_zero, List.set_cons_succ, i64_w, i32_w]; rfl)
                                refine take_ (i := 3) (N := some 80) (v := ?_) (a' := ?_) (bs 11 31) rfl rfl (take_ofW HT_.out HW_.out (by kernel_rfl)) (fun _ _ _ h => h) (Or.inl ⟨by rfl, ?_⟩) hHeld ?_ ?_
                                rotate_left
                                · rintro w' ⟨s0, s1, s2, s3, s4⟩
                                  go_simp
                                  with_reducible rfl
                                rotate_left; (simp only [Act.put, List.setIfInBounds_toArray, List.set_cons_zero, List.set_cons_succ, i64_w, i32_w]; rfl)
                                refine pure_ (i := 5) (N := some 82) (v := ?_) (a' := ?_) (bs 11 63) rfl rfl (any_of HT_.out (by kernel_rfl)) (fun _ _ _ h => h) (Or.inl ⟨by rfl, ?_⟩) ?_ ?_
                                rotate_left; (intro w'; go_simp; with_reducible rfl); rotate_left; (simp only [Act.put, List.setIfInBounds_toArray, List.set_cons_zero, List.set_cons_succ, i64_w, i32_w]; rfl)
                                refine take_ (i := 6) (N := some 83) (v := ?_) (a' := ?_) (bs 11 127) rfl rfl (take_ofW HT_.out HW_.out (by kernel_rfl)) (fun _ _ _ h => h) (Or.inl ⟨by rfl, ?_⟩) hHeld ?_ ?_
                                rotate_left
                                · rintro w' ⟨s0, s1, s2, s3, s4⟩
                                  go_simp
                                  with_reducible rfl
                                rotate_left; (simp only [Act.put, List.setIfInBounds_toArray, List.set_cons_zero, List.set_cons_succ, i64_w, i32_w]; rfl)
                                refine one_ (i := 7) (N := some 84) (bs 11 255) rfl rfl (one_of HT_.out (by kernel_rfl)) (by decide) (fun K hK => ?_)
                                refine value_ (w1 := ?_) (v := ?_) (by rfl) rfl ?_ ?_
                                rotate_left 2
                                · go_simp
                                  constructor
                                  · rfl
                                  · rfl
                                refine hK.out _ _ ⟨(blk_cell (blk_alloc BK329.out _) 0).trans rfl, (blk_cell (blk_alloc BK329.out _) 1).trans rfl, (blk_cell (blk_alloc BK304.out _) 0).trans rfl, (blk_cell (blk_alloc BK304.out _) 1).trans rfl, (World.cell?_alloc_lt _ _ _ (World.block_lt_of_cell? _ _ (hHeld.2.2.2.2))).trans (hHeld.2.2.2.2)⟩ (fun hHeld => ?_)
                                clear hK K
                                refine norm_ (a' := ?_) ?_ ?_
                                rotate_left
                                · show Act.put _ (some 84) _ = _
                                  simp only [Act.put, List.setIfInBounds_toArray, List.set_cons_zero, List.set_cons_succ, i64_w, i32_w]
                                  rfl
                                refine last_ (i := 8) (N := some 85) (bs 11 511) rfl rfl (one_of HT_.out (by kernel_rfl)) (by decide) (fun K hK => ?_)
                                refine Kd.N_append_step (Kd.slice 3 (Kd.int .i64)) (w0 := w) w.heap.size (by rfl) (.tmp 78) (.tmp 84) 22 23 (.slice none 0 0) 24 rfl Try.underlying22 info23 rfl (by decide) (by omega) (.slice Ao57 t323.length co57) t323 (rd_L1 t306 (ji47)) [.slice A330_0 (rd_L1 t306 (ji47)).length c330_0] (fun k_ => some k_ ≠ (.slice Ao21 t312.length co21 : Value).ownBlock ∧ some k_ ≠ (.slice (some ad330) t306.length co15 : Value).ownBlock ∧ some k_ ≠ (.slice Ao17 t309.length co17 : Value).ownBlock ∧ some k_ ≠ (.slice Ao60 t326.length co60 : Value).ownBlock ∧ k_ ≠ gb304 ∧ k_ ≠ gb329) (fun k_ => ((fun k_ => some k_ ≠ (.slice Ao21 t312.length co21 : Value).ownBlock ∧ some k_ ≠ (.slice (some ad330) t306.length co15 : Value).ownBlock ∧ some k_ ≠ (.slice Ao17 t309.length co17 : Value).ownBlock ∧ some k_ ≠ (.slice Ao60 t326.length co60 : Value).ownBlock ∧ k_ ≠ gb304 ∧ k_ ≠ gb329)) k_ ∧ some k_ ≠ (.slice Ao57 t323.length co57 : Value).ownBlock) rfl rfl ?aP (fun _ hk => hk) ?aF ?aO ?aB ?aS ?aL ?_
                                (case aP => exact (Kd.FK_slice_mk (Kd.V_reads' (Kd.V_mono (ok' := (fun k_ => ((fun k_ => some k_ ≠ (.slice Ao21 t312.length co21 : Value).ownBlock ∧ some k_ ≠ (.slice (some ad330) t306.length co15 : Value).ownBlock ∧ some k_ ≠ (.slice Ao17 t309.length co17 : Value).ownBlock ∧ some k_ ≠ (.slice Ao60 t326.length co60 : Value).ownBlock ∧ k_ ≠ gb304 ∧ k_ ≠ gb329)) k_ ∧ some k_ ≠ (.slice Ao57 t323.length co57 : Value).ownBlock)) (HL330_0.out) (fun k_ hk => ⟨⟨hk.1.1, ⟨hk.2, ⟨hk.1.2.1, ⟨hk.1.2.2.2.1, ⟨hk.1.2.2.2.2.1, hk.1.2.2.2.2.2⟩⟩⟩⟩⟩, hk.1.2.2.1⟩))).2.1 (Kd.V_F (Kd.V_mono (ok' := (fun k_ => ((fun k_ => some k_ ≠ (.slice Ao21 t312.length co21 : Value).ownBlock ∧ some k_ ≠ (.slice (some ad330) t306.length co15 : Value).ownBlock ∧ some k_ ≠ (.slice Ao17 t309.length co17 : Value).ownBlock ∧ some k_ ≠ (.slice Ao60 t326.length co60 : Value).ownBlock ∧ k_ ≠ gb304 ∧ k_ ≠ gb329)) k_ ∧ some k_ ≠ (.slice Ao57 t323.length co57 : Value).ownBlock)) (HL330_0.out) (fun k_ hk => ⟨⟨hk.1.1, ⟨hk.2, ⟨hk.1.2.1, ⟨hk.1.2.2.2.1, ⟨hk.1.2.2.2.2.1, hk.1.2.2.2.2.2⟩⟩⟩⟩⟩, hk.1.2.2.1⟩)))))
                                (case aB => exact (by repeat (first | (with_reducible first | exact HB.out | apply below_alloc | apply pw_below_drewN | apply below_drew1 | refine below_set ?_ GE304.out | refine below_set ?_ GE329.out) | exact HB.out)))
                                (case aF => exact (fun k_ hk => ⟨Kd.fresh' (Kd.N_lt (by (with_reducible repeat (first | apply Kd.N_alloc | apply Kd.N_drewN | apply Kd.N_drew)); exact HO_1.out)) k_ hk, Kd.fresh' (Kd.N_lt (by (with_reducible repeat (first | apply Kd.N_alloc | apply Kd.N_drewN | apply Kd.N_drew)); exact HO_305000.out)) k_ hk, Kd.fresh' (Kd.R_lt (by (with_reducible repeat (first | apply Kd.R_alloc | apply Kd.R_drewN | apply Kd.R_drew)); exact HO_305001.out)) k_ hk, Kd.fresh' (Kd.R_lt (by (with_reducible repeat (first | apply Kd.R_alloc | apply Kd.R_drewN | apply Kd.R_drew)); exact HO328.out)) k_ hk, Kd.freshB (g := gb304) (o := .cells #[.slice (some ad330) t306.length co15, .slice Ao17 t309.length co17] 25 (0, 0)) (by (with_reducible repeat (first | refine blk_drewN ?_ _ | refine blk_drew ?_ | refine blk_alloc ?_ _)); exact BK304.out) k_ hk, Kd.freshB (g := gb329) (o := .cells #[.slice Ao57 t323.length co57, .slice Ao60 t326.length co60] 25 (0, 0)) (by (with_reducible repeat (first | refine blk_drewN ?_ _ | refine blk_drew ?_ | refine blk_alloc ?_ _)); exact BK329.out) k_ hk⟩))
                                (case aO => exact (by (with_reducible repeat (first | apply Kd.N_alloc | apply Kd.N_drewN | apply Kd.N_drew)); exact HO325.out))
                                (case aS => exact (below_size (by repeat (first | (with_reducible first | exact HB.out | apply below_alloc | apply pw_below_drewN | apply below_drew1 | refine below_set ?_ GE304.out | refine below_set ?_ GE329.out) | exact HB.out))))
                                (case aL => have := LMc50.out; omega)
                                intro v332 w63 ho hb hg hat
                                rw [← Ny331.out] at ho
                                have n0_ := Aside0.mk (Kd.N_afterv (ok := (fun k_ => some k_ ≠ (.slice (some ad330) t306.length co15 : Value).ownBlock ∧ some k_ ≠ (.slice Ao17 t309.length co17 : Value).ownBlock ∧ some k_ ≠ (.slice Ao60 t326.length co60 : Value).ownBlock ∧ k_ ≠ gb304 ∧ k_ ≠ gb329)) (by (with_reducible repeat (first | apply Kd.N_alloc | apply Kd.N_drewN | apply Kd.N_drew)); exact Kd.N_mono HO_1.out (fun _ hk => ⟨⟨hk.1, ⟨hk.2.1, ⟨hk.2.2.2.1, ⟨hk.2.2.2.2.1, hk.2.2.2.2.2⟩⟩⟩⟩, hk.2.2.1⟩)) hg hat)
                                have n1_ := Aside0.mk (Kd.N_afterv (ok := (fun k_ => some k_ ≠ (.slice Ao21 t312.length co21 : Value).ownBlock ∧ some k_ ≠ (.slice Ao17 t309.length co17 : Value).ownBlock ∧ some k_ ≠ (.slice Ao60 t326.length co60 : Value).ownBlock ∧ k_ ≠ gb304 ∧ k_ ≠ gb329)) (by (with_reducible repeat (first | apply Kd.N_alloc | apply Kd.N_drewN | apply Kd.N_drew)); exact Kd.N_mono HO_305000.out (fun _ hk => ⟨⟨hk.1, ⟨hk.2.1, ⟨hk.2.2.2.1, ⟨hk.2.2.2.2.1, hk.2.2.2.2.2⟩⟩⟩⟩, hk.2.2.1⟩)) hg hat)
                                have n2_ := Aside0.mk (Kd.R_over' (by (with_reducible repeat (first | apply Kd.R_alloc | apply Kd.R_drewN | apply Kd.R_drew)); exact HO_305001.out) (Kd.N_typed (by (with_reducible repeat (first | apply Kd.N_alloc | apply Kd.N_drewN | apply Kd.N_drew)); exact HO325.out)) (by decide) hg)
                                have n3_ := Aside0.mk (blk_grown (g := gb304) (o := .cells #[.slice (some ad330) t306.length co15, .slice Ao17 t309.length co17] 25 (0, 0)) (by (with_reducible repeat (first | refine blk_drewN ?_ _ | refine blk_drew ?_ | refine blk_alloc ?_ _)); exact BK304.out) hg (Kd.N_ne HO325.out BK304.out (by decide)))
                                have n4_ := Aside0.mk (Kd.R_over' (by (with_reducible repeat (first | apply Kd.R_alloc | apply Kd.R_drewN | apply Kd.R_drew)); exact HO328.out) (Kd.N_typed (by (with_reducible repeat (first | apply Kd.N_alloc | apply Kd.N_drewN | apply Kd.N_drew)); exact HO325.out)) (by decide) hg)
                                have n5_ := Aside0.mk (blk_grown (g := gb329) (o := .cells #[.slice Ao57 t323.length co57, .slice Ao60 t326.length co60] 25 (0, 0)) (by (with_reducible repeat (first | refine blk_drewN ?_ _ | refine blk_drew ?_ | refine blk_alloc ?_ _)); exact BK329.out) hg (Kd.N_ne HO325.out BK329.out (by decide)))
                                have n6_ := Aside0.mk (Kd.V_afterv (ok := (fun k_ => some k_ ≠ (.slice Ao21 t312.length co21 : Value).ownBlock ∧ some k_ ≠ (.slice (some ad330) t306.length co15 : Value).ownBlock ∧ some k_ ≠ (.slice Ao17 t309.length co17 : Value).ownBlock ∧ some k_ ≠ (.slice Ao60 t326.length co60 : Value).ownBlock ∧ k_ ≠ gb304 ∧ k_ ≠ gb329)) (by (with_reducible repeat (first | apply Kd.V_alloc | apply Kd.V_drewN | apply Kd.V_drew)); exact Kd.V_mono HL330_0.out (fun _ hk => ⟨⟨hk.1.1, ⟨hk.2, ⟨hk.1.2.1, ⟨hk.1.2.2.2.1, ⟨hk.1.2.2.2.2.1, hk.1.2.2.2.2.2⟩⟩⟩⟩⟩, hk.1.2.2.1⟩)) hg hat)
                                have n7_ := Aside0.mk (hb)
                                have n8_ := Aside0.mk (ho)
                                clear HO_1
                                clear HO_305000
                                clear HO_305001
                                clear BK304
                                clear HO328
                                clear BK329
                                clear HL330_0
                                clear HB
                                clear HO325
                                have HO_1 := n0_
                                have HO_305000 := n1_
                                have HO_305001 := n2_
                                have BK304 := n3_
                                have HO328 := n4_
                                have BK329 := n5_
                                have HL330_0 := n6_
                                have HB := n7_
                                have HO333 := n8_
                                clear n0_ n1_ n2_ n3_ n4_ n5_ n6_ n7_ n8_
                                clear ho hb hg hat
                                obtain ⟨Ao64, co64, eo64⟩ := Kd.N_slice HO333.out
                                (first | subst eo64 | (injection eo64 with f1_ f2_ f3_; have f4_ := f1_.symm; have f5_ := f3_.symm; clear f1_ f2_ f3_; subst f4_; subst f5_))
                                refine hK.out _ _ ?_
                                clear hK K
                                refine norm_ (a' := ?_) ?_ ?_
                                rotate_left
                                · show Act.put _ (some 85) _ = _
                                  simp only [Act.put, List.setIfInBounds_toArray, List.set_cons_zero, List.set_cons_succ, i64_w, i32_w]
                                  rfl
                                refine pure_ (i := 9) (N := some 86) (v := ?_) (a' := ?_) (bs 11 1023) rfl rfl (any_of HT_.out (by kernel_rfl)) (fun _ _ _ h => h) (Or.inl ⟨by rfl, ?_⟩) ?_ ?_
                                rotate_left; (intro w'; go_simp; with_reducible rfl); rotate_left; (simp only [Act.put, List.setIfInBounds_toArray, List.set_cons_zero, List.set_cons_succ, i64_w, i32_w]; rfl)
                                refine last_ (i := 10) (N := none) (bs 11 2047) rfl rfl (one_of HT_.out (by kernel_rfl)) (by decide) (fun K hK => ?_)
                                have hs65 : w63.cell? ⟨gb329, 0, none⟩ = some (.slice Ao57 t323.length co57) := (blk_cell BK329.out 0).trans rfl
                                have hfs65 := blk_frozen BK329.out 0
                                have hns65_0 := NB304_329.out
                                have hms65_0 := NB329_304.out
                                refine skip_ (w1 := ?_) (by rfl) rfl ?_ ?_
                                rotate_left
                                · go_simp
                                  rfl
                                refine hK.out _ _ ?_
                                clear hK K
                                refine done_ (done_of HT_.out (by kernel_rfl)) ?_
                                have hcz66_0 : w63.cell? ⟨gb329, 0, none⟩ = some (.slice Ao57 t323.length co57) := (blk_cell BK329.out 0).trans rfl
                                have hcz66_1 : w63.cell? ⟨gb329, 1, none⟩ = some (.slice Ao60 t326.length co60) := (blk_cell BK329.out 1).trans rfl
                                have hfz66_0 := blk_frozen BK329.out 0
                                have hfz66_1 := blk_frozen BK329.out 1
                                try go_wp2_with (first | ((with_reducible refine gate_builtin (b := .append) (xs := #[.tmp 88, .tmp 90]) rfl ?_); (try (refine gate_guard (by rfl) ?_; dsimp only)); at_builtin; refine Kd.R_append (Kd.int .i64) (w0 := w) w.heap.size rfl (.tmp 88) (.tmp 90) 23 3 (.int .i64 0) 8 rfl Try.underlying23 info3 rfl (by decide) (by omega) (.slice Ao60 t326.length co60) t326 ji47 [.int .i64 ji47] (fun k_ => some k_ ≠ (.slice Ao17 t309.length co17 : Value).ownBlock) (fun _ => False) rfl (by first | (go_simp; done) | (go_simp; rfl)) ?aP (fun _ hk => hk.elim) ?aF ?aO ?aB ?aS ?aL ?_; (case aP => exact rfl); (case aB => exact (by repeat (first | (with_reducible first | exact HB.out | apply below_alloc | apply pw_below_drewN | apply below_drew1 | refine below_set ?_ GE304.out | refine below_set ?_ GE329.out) | exact HB.out))); (case aF => exact (fun k_ hk => Kd.fresh' (Kd.R_lt (by (with_reducible repeat (first | apply Kd.R_alloc | apply Kd.R_drewN | apply Kd.R_drew)); exact (Kd.R_mono (Kd.R_far (p := ⟨gb329, 0, none⟩) (Kd.R_types HO_305001.out BK329.out (by decide)) (fun _ hk => hk.2) (.slice Ao64 y331.length co64)) (fun _ h_ => h_.1)))) k_ hk)); (case aO => exact (by (with_reducible repeat (first | apply Kd.R_alloc | apply Kd.R_drewN | apply Kd.R_drew)); exact Kd.R_mono (Kd.R_far (p := ⟨gb329, 0, none⟩) (Kd.R_types HO328.out BK329.out (by decide)) (fun _ hk => hk.2) (.slice Ao64 y331.length co64)) (fun _ hk => hk.1))); (case aS => exact (below_size (by repeat (first | (with_reducible first | exact HB.out | apply below_alloc | apply pw_below_drewN | apply below_drew1 | refine below_set ?_ GE304.out | refine below_set ?_ GE329.out) | exact HB.out)))); (case aL => have := LMc51.out; omega); intro v335 w67 ho hb hg hat; rw [← Ny334.out] at ho; have n0_ := Aside0.mk (Kd.N_afterv (ok := (fun k_ => some k_ ≠ (.slice (some ad330) t306.length co15 : Value).ownBlock ∧ some k_ ≠ (.slice Ao17 t309.length co17 : Value).ownBlock ∧ some k_ ≠ (.slice Ao64 y331.length co64 : Value).ownBlock ∧ k_ ≠ gb304 ∧ k_ ≠ gb329)) (by (with_reducible repeat (first | apply Kd.N_alloc | apply Kd.N_drewN | apply Kd.N_drew)); exact Kd.N_mono (Kd.N_far (p := ⟨gb329, 0, none⟩) (Kd.N_mono HO_1.out (fun k_ hk => (⟨hk, hk.1.2.2.2.2⟩ : _ ∧ k_ ≠ gb329))) (fun _ hk => hk.2) (.slice Ao64 y331.length co64)) (fun _ hk => ⟨⟨hk.1.1.1, ⟨hk.1.1.2.1, ⟨hk.1.2, ⟨hk.1.1.2.2.2.1, hk.1.1.2.2.2.2⟩⟩⟩⟩, hk.1.1.2.2.1⟩)) hg hat); have n1_ := Aside0.mk (Kd.N_afterv (ok := (fun k_ => some k_ ≠ (.slice Ao21 t312.length co21 : Value).ownBlock ∧ some k_ ≠ (.slice Ao17 t309.length co17 : Value).ownBlock ∧ some k_ ≠ (.slice Ao64 y331.length co64 : Value).ownBlock ∧ k_ ≠ gb304 ∧ k_ ≠ gb329)) (by (with_reducible repeat (first | apply Kd.N_alloc | apply Kd.N_drewN | apply Kd.N_drew)); exact Kd.N_mono (Kd.N_far (p := ⟨gb329, 0, none⟩) (Kd.N_mono HO_305000.out (fun k_ hk => (⟨hk, hk.1.2.2.2.2⟩ : _ ∧ k_ ≠ gb329))) (fun _ hk => hk.2) (.slice Ao64 y331.length co64)) (fun _ hk => ⟨⟨hk.1.1.1, ⟨hk.1.1.2.1, ⟨hk.1.2, ⟨hk.1.1.2.2.2.1, hk.1.1.2.2.2.2⟩⟩⟩⟩, hk.1.1.2.2.1⟩)) hg hat); have n2_ := Aside0.mk (Kd.R_after (ok := (fun _ => True)) (by (with_reducible repeat (first | apply Kd.R_alloc | apply Kd.R_drewN | apply Kd.R_drew)); exact Kd.R_mono (Kd.R_far (p := ⟨gb329, 0, none⟩) (Kd.R_types HO_305001.out BK329.out (by decide)) (fun _ hk => hk.2) (.slice Ao64 y331.length co64)) (fun _ hk => ⟨trivial, hk.1⟩)) hg hat); have n3_ := Aside0.mk (blk_grown (g := gb304) (o := .cells #[.slice (some ad330) t306.length co15, .slice Ao17 t309.length co17] 25 (0, 0)) (by (with_reducible repeat (first | refine blk_drewN ?_ _ | refine blk_drew ?_ | refine blk_alloc ?_ _)); refine blk_far ?_ NB304_329.out _; (with_reducible repeat (first | refine blk_drewN ?_ _ | refine blk_drew ?_ | refine blk_alloc ?_ _)); exact BK304.out) hg (Kd.R_ne HO328.out BK304.out (by decide))); have n4_ := Aside0.mk (blk_grown (g := gb329) (o := .cells #[.slice Ao64 y331.length co64, .slice Ao60 t326.length co60] 25 (0, 0)) (by (with_reducible repeat (first | refine blk_drewN ?_ _ | refine blk_drew ?_ | refine blk_alloc ?_ _)); refine blk_put (cs := #[.slice Ao57 t323.length co57, .slice Ao60 t326.length co60]) ?_ 0 _ rfl; (with_reducible repeat (first | refine blk_drewN ?_ _ | refine blk_drew ?_ | refine blk_alloc ?_ _)); exact BK329.out) hg (Kd.R_ne HO328.out BK329.out (by decide))); have n5_ := Aside0.mk (Kd.V_afterv (ok := (fun k_ => some k_ ≠ (.slice Ao21 t312.length co21 : Value).ownBlock ∧ some k_ ≠ (.slice (some ad330) t306.length co15 : Value).ownBlock ∧ some k_ ≠ (.slice Ao17 t309.length co17 : Value).ownBlock ∧ some k_ ≠ (.slice Ao64 y331.length co64 : Value).ownBlock ∧ k_ ≠ gb304 ∧ k_ ≠ gb329)) (by (with_reducible repeat (first | apply Kd.V_alloc | apply Kd.V_drewN | apply Kd.V_drew)); exact Kd.V_mono (Kd.V_far (p := ⟨gb329, 0, none⟩) (Kd.V_mono HL330_0.out (fun k_ hk => (⟨hk, hk.1.2.2.2.2.2⟩ : _ ∧ k_ ≠ gb329))) (fun _ hk => hk.2) (.slice Ao64 y331.length co64)) (fun _ hk => ⟨⟨hk.1.1.1, ⟨hk.1.1.2.1, ⟨hk.1.1.2.2.1, ⟨hk.1.2, ⟨hk.1.1.2.2.2.2.1, hk.1.1.2.2.2.2.2⟩⟩⟩⟩⟩, hk.1.1.2.2.2.1⟩)) hg hat); have n6_ := Aside0.mk (Kd.N_afterv (ok := (fun k_ => some k_ ≠ (.slice Ao21 t312.length co21 : Value).ownBlock ∧ some k_ ≠ (.slice (some ad330) t306.length co15 : Value).ownBlock ∧ some k_ ≠ (.slice Ao17 t309.length co17 : Value).ownBlock ∧ k_ ≠ gb304 ∧ k_ ≠ gb329)) (by (with_reducible repeat (first | apply Kd.N_alloc | apply Kd.N_drewN | apply Kd.N_drew)); exact Kd.N_mono (Kd.N_far (p := ⟨gb329, 0, none⟩) (Kd.N_mono HO333.out (fun k_ hk => (⟨hk, hk.2.2.2.2.2⟩ : _ ∧ k_ ≠ gb329))) (fun _ hk => hk.2) (.slice Ao64 y331.length co64)) (fun _ hk => ⟨⟨hk.1.1, ⟨hk.1.2.1, ⟨hk.1.2.2.1, ⟨hk.1.2.2.2.2.1, hk.1.2.2.2.2.2⟩⟩⟩⟩, hk.1.2.2.2.1⟩)) hg hat); have n7_ := Aside0.mk (hb); have n8_ := Aside0.mk (ho); clear HO_1; clear HO_305000; clear HO_305001; clear BK304; clear BK329; clear HL330_0; clear HO333; clear HB; clear HO328; have HO_1 := n0_; have HO_305000 := n1_; have HO_305001 := n2_; have BK304 := n3_; have BK329 := n4_; have HL330_0 := n5_; have HO333 := n6_; have HB := n7_; have HO336 := n8_; clear n0_ n1_ n2_ n3_ n4_ n5_ n6_ n7_ n8_; clear ho hb hg hat; obtain ⟨Ao68, co68, eo68⟩ := Kd.R_slice HO336.out; subst eo68; have hcz69_0 : w67.cell? ⟨gb329, 0, none⟩ = some (.slice Ao64 y331.length co64) := (blk_cell BK329.out 0).trans rfl; have hcz69_1 : w67.cell? ⟨gb329, 1, none⟩ = some (.slice Ao60 t326.length co60) := (blk_cell BK329.out 1).trans rfl; have hfz69_0 := blk_frozen BK329.out 0; have hfz69_1 := blk_frozen BK329.out 1) | (go_at_call 24; (with_reducible refine (valid_Check.calls k3 ji6 _ _ t312 _ _ y331 _ _ y334 t337 _ ?side1 ?side2 ?side3 ?side4 ?side5 ?side6 A53.out).mono ?_); (case side1 => refine (Kd.N_reads' (e := 23) (base := w.heap.size) (ok := fun k_ => ((some k_ ≠ (.slice (some ad330) t306.length co15 : Value).ownBlock ∧ (some k_ ≠ (.slice Ao17 t309.length co17 : Value).ownBlock ∧ (some k_ ≠ (.slice Ao64 y331.length co64 : Value).ownBlock ∧ (k_ ≠ gb304 ∧ k_ ≠ gb329)))) ∧ some k_ ≠ (.slice Ao68 y334.length co68 : Value).ownBlock)) (n := t312.length) (c := co21) ?_).2.2; exact (by (with_reducible repeat (first | apply Kd.N_alloc | apply Kd.N_drewN | apply Kd.N_drew)); exact (Kd.N_mono (Kd.N_far (p := ⟨gb329, 1, none⟩) (Kd.N_mono HO_1.out (fun k_ hk => (⟨hk, hk.1.2.2.2.2⟩ : _ ∧ k_ ≠ gb329))) (fun _ hk => hk.2) (.slice Ao68 y334.length co68)) (fun _ h_ => h_.1)))); (case side2 => exact (Kd.N_reads' HO_1.out).2.1); (case side3 => refine (Kd.N_reads' (e := 23) (base := w.heap.size) (ok := fun k_ => ((some k_ ≠ (.slice Ao21 t312.length co21 : Value).ownBlock ∧ (some k_ ≠ (.slice (some ad330) t306.length co15 : Value).ownBlock ∧ (some k_ ≠ (.slice Ao17 t309.length co17 : Value).ownBlock ∧ (k_ ≠ gb304 ∧ k_ ≠ gb329)))) ∧ some k_ ≠ (.slice Ao68 y334.length co68 : Value).ownBlock)) (n := y331.length) (c := co64) ?_).2.2; exact (by (with_reducible repeat (first | apply Kd.N_alloc | apply Kd.N_drewN | apply Kd.N_drew)); exact (Kd.N_mono (Kd.N_far (p := ⟨gb329, 1, none⟩) (Kd.N_mono HO333.out (fun k_ hk => (⟨hk, hk.1.2.2.2.2⟩ : _ ∧ k_ ≠ gb329))) (fun _ hk => hk.2) (.slice Ao68 y334.length co68)) (fun _ h_ => h_.1)))); (case side4 => exact (Kd.N_reads' HO333.out).2.1); (case side5 => refine (Kd.R_reads' (e := 3) (base := w.heap.size) (ok := fun k_ => some k_ ≠ (.slice Ao17 t309.length co17 : Value).ownBlock) (n := y334.length) (c := co68) ?_).2.2; exact (by (with_reducible repeat (first | apply Kd.R_alloc | apply Kd.R_drewN | apply Kd.R_drew)); exact (Kd.R_mono (Kd.R_far (p := ⟨gb329, 1, none⟩) (Kd.R_types HO336.out BK329.out (by decide)) (fun _ hk => hk.2) (.slice Ao68 y334.length co68)) (fun _ h_ => h_.1)))); (case side6 => exact (Kd.R_reads' HO336.out).2.1); rintro e w70 ⟨rfl, hb⟩; have n0_ := Aside0.mk (Kd.N_below (by (with_reducible repeat (first | apply Kd.N_alloc | apply Kd.N_drewN | apply Kd.N_drew)); exact (Kd.N_mono (Kd.N_far (p := ⟨gb329, 1, none⟩) (Kd.N_mono HO_1.out (fun k_ hk => (⟨hk, hk.1.2.2.2.2⟩ : _ ∧ k_ ≠ gb329))) (fun _ hk => hk.2) (.slice Ao68 y334.length co68)) (fun _ h_ => h_.1))) hb); have n1_ := Aside0.mk (Kd.N_below (by (with_reducible repeat (first | apply Kd.N_alloc | apply Kd.N_drewN | apply Kd.N_drew)); exact (Kd.N_mono (Kd.N_far (p := ⟨gb329, 1, none⟩) (Kd.N_mono HO_305000.out (fun k_ hk => (⟨hk, hk.1.2.2.2.2⟩ : _ ∧ k_ ≠ gb329))) (fun _ hk => hk.2) (.slice Ao68 y334.length co68)) (fun _ h_ => h_.1))) hb); have n2_ := Aside0.mk (Kd.R_below (by (with_reducible repeat (first | apply Kd.R_alloc | apply Kd.R_drewN | apply Kd.R_drew)); exact (Kd.R_mono (Kd.R_far (p := ⟨gb329, 1, none⟩) (Kd.R_types HO_305001.out BK329.out (by decide)) (fun _ hk => hk.2) (.slice Ao68 y334.length co68)) (fun _ h_ => h_.1))) hb); have n3_ := Aside0.mk (Kd.V_below (by (with_reducible repeat (first | apply Kd.V_alloc | apply Kd.V_drewN | apply Kd.V_drew)); exact (Kd.V_mono (Kd.V_far (p := ⟨gb329, 1, none⟩) (Kd.V_mono HL330_0.out (fun k_ hk => (⟨hk, hk.1.2.2.2.2.2⟩ : _ ∧ k_ ≠ gb329))) (fun _ hk => hk.2) (.slice Ao68 y334.length co68)) (fun _ h_ => h_.1))) hb); have n4_ := Aside0.mk (Kd.N_below (by (with_reducible repeat (first | apply Kd.N_alloc | apply Kd.N_drewN | apply Kd.N_drew)); exact (Kd.N_mono (Kd.N_far (p := ⟨gb329, 1, none⟩) (Kd.N_mono HO333.out (fun k_ hk => (⟨hk, hk.1.2.2.2.2⟩ : _ ∧ k_ ≠ gb329))) (fun _ hk => hk.2) (.slice Ao68 y334.length co68)) (fun _ h_ => h_.1))) hb); have n5_ := Aside0.mk (Kd.R_below (by (with_reducible repeat (first | apply Kd.R_alloc | apply Kd.R_drewN | apply Kd.R_drew)); exact (Kd.R_mono (Kd.R_far (p := ⟨gb329, 1, none⟩) (Kd.R_types HO336.out BK329.out (by decide)) (fun _ hk => hk.2) (.slice Ao68 y334.length co68)) (fun _ h_ => h_.1))) hb); have n6_ := Aside0.mk (blk_below (g := gb304) (o := .cells #[.slice (some ad330) t306.length co15, .slice Ao17 t309.length co17] 25 (0, 0)) (by (with_reducible repeat (first | refine blk_drewN ?_ _ | refine blk_drew ?_ | refine blk_alloc ?_ _)); refine blk_far ?_ NB304_329.out _; (with_reducible repeat (first | refine blk_drewN ?_ _ | refine blk_drew ?_ | refine blk_alloc ?_ _)); exact BK304.out) hb); have n7_ := Aside0.mk (blk_below (g := gb329) (o := .cells #[.slice Ao64 y331.length co64, .slice Ao68 y334.length co68] 25 (0, 0)) (by (with_reducible repeat (first | refine blk_drewN ?_ _ | refine blk_drew ?_ | refine blk_alloc ?_ _)); refine blk_put (cs := #[.slice Ao64 y331.length co64, .slice Ao60 t326.length co60]) ?_ 1 _ rfl; (with_reducible repeat (first | refine blk_drewN ?_ _ | refine blk_drew ?_ | refine blk_alloc ?_ _)); exact BK329.out) hb); have n8_ := Aside0.mk (below_step (by repeat (first | (with_reducible first | exact HB.out | apply below_alloc | apply pw_below_drewN | apply below_drew1 | refine below_set ?_ GE304.out | refine below_set ?_ GE329.out) | exact HB.out)) hb); clear HO_1; clear HO_305000; clear HO_305001; clear HL330_0; clear HO333; clear HO336; clear BK304; clear BK329; clear HB; have HO_1 := n0_; have HO_305000 := n1_; have HO_305001 := n2_; have HL330_0 := n3_; have HO333 := n4_; have HO336 := n5_; have BK304 := n6_; have BK329 := n7_; have HB := n8_; clear n0_ n1_ n2_ n3_ n4_ n5_ n6_ n7_ n8_; (try clear hb); (try clear hb2); (try clear hk); (try clear hi)))
                                go_ret
                                exact ⟨by first | rfl | (simp [errW_none, errW_some] <;> rfl) | (simp only [← hji6, ← hji47]; first | rfl | (simp [errW_none, errW_some] <;> rfl)) | (simp [*, errW_none, errW_some] <;> rfl), by repeat (first | (with_reducible first | exact HB.out | apply below_alloc | apply pw_below_drewN | apply below_drew1 | refine below_set ?_ GE304.out | refine below_set ?_ GE329.out) | exact HB.out)⟩
                              · replace c52 := Bool.eq_false_iff.mpr c52
                                subst c52
                                have H1 : (some false) = some r := by rw [if_neg (show ¬ (false = true) by decide)] at H; exact H
                                clear H
                                have H := H1
                                clear H1
                                exact absurd ((Option.some.inj H).trans HT_.out) (by decide)
                            · rw [if_neg c51] at H
                              exact absurd H (by simp)
                          · rw [if_neg c50] at H
                            exact absurd H (by simp)
                        · rw [if_neg c49] at H
                          exact absurd H (by simp)
                      · rw [if_neg c48] at H
                        exact absurd H (by simp)

/-- THE ONE PURE STATEMENT of arboristlaw12_ValidMore. -/
def arboristlaw12_ValidMore.Pure : Prop := ∀ (a0 : Int) (l1 : List (List Int)) (l2_0 : List (List Int)) (l2_1 : List Int) (a3 : Int), (Lit.int .i64 a0).wf = true → (l1.length ≤ maxLen ∧ ∀ z0 ∈ l1, (z0.length ≤ maxLen ∧ ∀ z1 ∈ z0, (Lit.int .i64 z1).wf = true)) → (l2_0.length ≤ maxLen ∧ ∀ z0 ∈ l2_0, (z0.length ≤ maxLen ∧ ∀ z1 ∈ z0, (Lit.int .i64 z1).wf = true)) → (l2_1.length ≤ maxLen ∧ ∀ z0 ∈ l2_1, (Lit.int .i64 z0).wf = true) → (Lit.int .i64 a3).wf = true → ∃ k, arboristlaw12_ValidMore.f k a0 l1 l2_0 l2_1 a3 = some true

end Go.Proofs.Ytpmfdggbccbfaaa.Pr
