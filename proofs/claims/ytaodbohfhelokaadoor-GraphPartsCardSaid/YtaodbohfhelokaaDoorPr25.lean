-- Printed by a program of this session's own (wip/tools/pp.py) over the kit's print.py; Lean checks it.
import Derived.Test.YtaodbohfhelokaaDoorPr1
import Derived.Test.YtaodbohfhelokaaDoorPr0
import Derived.Test.YtaodbohfhelokaaDoorPr9
import Derived.Test.YtaodbohfhelokaaDoorPr11
import Derived.Test.YtaodbohfhelokaaDoorPr12
import Derived.Test.YtaodbohfhelokaaDoorPr16
import Derived.Test.YtaodbohfhelokaaDoorPr17
import Derived.Test.YtaodbohfhelokaaDoorPr24
namespace Go.Proofs.YtaodbohfhelokaaDoor.Pr
open Go.RowKit Go.Proofs.YtaodbohfhelokaaDoorW.PrintWords Go.Proofs.YtaodbohfhelokaaDoorW.PrintLast Go.Proofs.YtaodbohfhelokaaDoorW.PrintMore
attribute [local go_sem] max2_int min2_int max_two min_two max_three min_three max_four min_four   -- for this text's walks alone
set_option linter.unusedVariables false
set_option linter.unusedSimpArgs false

/-! ### arboristlaw08_GraphParts: function 5 -/
mutual
def arboristlaw08_GraphParts.l0 : Nat → Bool → List (List Bool) → List (List Int) → List Int → Int → List Int → Option (Bool)
  | 0, _, _, _, _, _, _ => none
  | k + 1, x5, x6, x8, x9, x10, x364000 => if x10 < (x6.length : Int) then (if 0 ≤ x10 then (if x10 < (x9.length : Int) then (arboristlaw08_GraphParts.l0 k x5 x6 x8 (x9.set (x10 : Int).toNat (-1)) (wrap64 (x10 + 1)) x364000) else (none)) else (none)) else (arboristlaw08_GraphParts.l1 k x5 x6 x8 x9 (-1) 0 x364000)
def arboristlaw08_GraphParts.l1 : Nat → Bool → List (List Bool) → List (List Int) → List Int → Int → Int → List Int → Option (Bool)
  | 0, _, _, _, _, _, _, _ => none
  | k + 1, x5, x6, x8, x9, x11, x12, x364000 => if x12 < (x8.length : Int) then (if 0 ≤ x12 then (if ((rd_L2 x8 x12).length : Int) = 0 then (arboristlaw08_GraphParts.j2 k x5 x6 x8 x9 x12 true x364000) else (if 0 < ((rd_L2 x8 x12).length : Int) then (if (rd (rd_L2 x8 x12) 0) ≤ x11 then (arboristlaw08_GraphParts.j2 k x5 x6 x8 x9 x12 true x364000) else ((arboristref01_Rising.f k (rd_L2 x8 x12)).bind fun t375 => (if t375 = true then (if 0 ≤ (wrap64 (((rd_L2 x8 x12).length : Int) - 1)) then (if (wrap64 (((rd_L2 x8 x12).length : Int) - 1)) < ((rd_L2 x8 x12).length : Int) then (if (rd (rd_L2 x8 x12) (wrap64 (((rd_L2 x8 x12).length : Int) - 1))) ≥ (x6.length : Int) then (arboristlaw08_GraphParts.j2 k x5 x6 x8 x9 x12 true x364000) else (arboristlaw08_GraphParts.j2 k x5 x6 x8 x9 x12 (decide ((rd (rd_L2 x8 x12) 0) < 0)) x364000)) else (none)) else (none)) else (arboristlaw08_GraphParts.j2 k x5 x6 x8 x9 x12 true x364000)))) else (none))) else (none)) else (arboristlaw08_GraphParts.l3 k x5 x6 x9 0 x364000)
def arboristlaw08_GraphParts.j2 : Nat → Bool → List (List Bool) → List (List Int) → List Int → Int → Bool → List Int → Option (Bool)
  | 0, _, _, _, _, _, _, _ => none
  | k + 1, x5, x6, x8, x9, x12, x91, x364000 => if x91 = true then (some false) else (if 0 ≤ x12 then (if x12 < (x8.length : Int) then (if 0 < ((rd_L2 x8 x12).length : Int) then (arboristlaw08_GraphParts.l2 k x5 x6 x8 x9 (rd (rd_L2 x8 x12) 0) x12 0 x364000) else (none)) else (none)) else (none))
def arboristlaw08_GraphParts.l2 : Nat → Bool → List (List Bool) → List (List Int) → List Int → Int → Int → Int → List Int → Option (Bool)
  | 0, _, _, _, _, _, _, _, _ => none
  | k + 1, x5, x6, x8, x9, x11, x12, x13, x364000 => if 0 ≤ x12 then (if x12 < (x8.length : Int) then (if x13 < ((rd_L2 x8 x12).length : Int) then (if 0 ≤ x13 then (if 0 ≤ (rd (rd_L2 x8 x12) x13) then (if (rd (rd_L2 x8 x12) x13) < (x9.length : Int) then (if (rd x9 (rd (rd_L2 x8 x12) x13)) ≥ 0 then (some false) else (arboristlaw08_GraphParts.l2 k x5 x6 x8 (x9.set ((rd (rd_L2 x8 x12) x13) : Int).toNat x12) x11 x12 (wrap64 (x13 + 1)) x364000)) else (none)) else (none)) else (none)) else (arboristlaw08_GraphParts.l1 k x5 x6 x8 x9 x11 (wrap64 (x12 + 1)) x364000)) else (none)) else (none)
def arboristlaw08_GraphParts.l3 : Nat → Bool → List (List Bool) → List Int → Int → List Int → Option (Bool)
  | 0, _, _, _, _, _ => none
  | k + 1, x5, x6, x9, x14, x364000 => if x14 < (x6.length : Int) then (if 0 ≤ x14 then (if x14 < (x9.length : Int) then (if (rd x9 x14) < 0 then (some false) else (arboristlaw08_GraphParts.l4 k x5 x6 x9 x14 0 x364000)) else (none)) else (none)) else (some x5)
def arboristlaw08_GraphParts.l4 : Nat → Bool → List (List Bool) → List Int → Int → Int → List Int → Option (Bool)
  | 0, _, _, _, _, _, _ => none
  | k + 1, x5, x6, x9, x14, x15, x364000 => if x15 < (x6.length : Int) then ((graph_Beside.f x364000 x14 x15).bind fun t391 => (if t391 = true then (if 0 ≤ x14 then (if x14 < (x9.length : Int) then (if 0 ≤ x15 then (if x15 < (x9.length : Int) then (if (rd x9 x14) = (rd x9 x15) then (arboristlaw08_GraphParts.l4 k x5 x6 x9 x14 (wrap64 (x15 + 1)) x364000) else (some false)) else (none)) else (none)) else (none)) else (none)) else (arboristlaw08_GraphParts.l4 k x5 x6 x9 x14 (wrap64 (x15 + 1)) x364000))) else (arboristlaw08_GraphParts.l3 k x5 x6 x9 (wrap64 (x14 + 1)) x364000)
end
def arboristlaw08_GraphParts.f (k : Nat) (a0 : Int) (l1 : List (List Int)) : Option (Bool) := (arboristlaw08_shown.f k).bind fun t356 => ((arboristlaw08_made.f k a0 l1).bind fun t357 => ((arboristref08_Graph.f k t357).bind fun t360 => ((graph_Parts.f k t360).bind fun t364 => (if 0 ≤ (t357.length : Int) then (if ((t357.length : Int) : Int).toNat ≤ 35184372088832 then (arboristlaw08_GraphParts.l0 k t356 t357 t364 (List.replicate ((t357.length : Int) : Int).toNat 0) 0 t360) else (none)) else (none)))))
theorem arboristlaw08_GraphParts.mono_l : ∀ k, (∀ y0 y1 y2 y3 y4 y5, LeO (arboristlaw08_GraphParts.l0 k y0 y1 y2 y3 y4 y5) (arboristlaw08_GraphParts.l0 (k + 1) y0 y1 y2 y3 y4 y5)) ∧ (∀ y0 y1 y2 y3 y4 y5 y6, LeO (arboristlaw08_GraphParts.l1 k y0 y1 y2 y3 y4 y5 y6) (arboristlaw08_GraphParts.l1 (k + 1) y0 y1 y2 y3 y4 y5 y6)) ∧ (∀ y0 y1 y2 y3 y4 y5 y6, LeO (arboristlaw08_GraphParts.j2 k y0 y1 y2 y3 y4 y5 y6) (arboristlaw08_GraphParts.j2 (k + 1) y0 y1 y2 y3 y4 y5 y6)) ∧ (∀ y0 y1 y2 y3 y4 y5 y6 y7, LeO (arboristlaw08_GraphParts.l2 k y0 y1 y2 y3 y4 y5 y6 y7) (arboristlaw08_GraphParts.l2 (k + 1) y0 y1 y2 y3 y4 y5 y6 y7)) ∧ (∀ y0 y1 y2 y3 y4, LeO (arboristlaw08_GraphParts.l3 k y0 y1 y2 y3 y4) (arboristlaw08_GraphParts.l3 (k + 1) y0 y1 y2 y3 y4)) ∧ (∀ y0 y1 y2 y3 y4 y5, LeO (arboristlaw08_GraphParts.l4 k y0 y1 y2 y3 y4 y5) (arboristlaw08_GraphParts.l4 (k + 1) y0 y1 y2 y3 y4 y5))
  | 0 => ⟨fun _ _ _ _ _ _ r h => by simp [arboristlaw08_GraphParts.l0] at h, fun _ _ _ _ _ _ _ r h => by simp [arboristlaw08_GraphParts.l1] at h, fun _ _ _ _ _ _ _ r h => by simp [arboristlaw08_GraphParts.j2] at h, fun _ _ _ _ _ _ _ _ r h => by simp [arboristlaw08_GraphParts.l2] at h, fun _ _ _ _ _ r h => by simp [arboristlaw08_GraphParts.l3] at h, fun _ _ _ _ _ _ r h => by simp [arboristlaw08_GraphParts.l4] at h⟩
  | k + 1 => by
    obtain ⟨ih0, ih1, ih2, ih3, ih4, ih5⟩ := arboristlaw08_GraphParts.mono_l k
    refine ⟨?_, ?_, ?_, ?_, ?_, ?_⟩
    all_goals intros
    all_goals (first | unfold arboristlaw08_GraphParts.l0 | unfold arboristlaw08_GraphParts.l1 | unfold arboristlaw08_GraphParts.j2 | unfold arboristlaw08_GraphParts.l2 | unfold arboristlaw08_GraphParts.l3 | unfold arboristlaw08_GraphParts.l4)
    all_goals repeat' first
    | (with_reducible exact ih0 _ _ _ _ _ _)
    | (with_reducible exact ih1 _ _ _ _ _ _ _)
    | (with_reducible exact ih2 _ _ _ _ _ _ _)
    | (with_reducible exact ih3 _ _ _ _ _ _ _ _)
    | (with_reducible exact ih4 _ _ _ _ _)
    | (with_reducible exact ih5 _ _ _ _ _ _)
    | (with_reducible exact arboristlaw08_made.mono _ _ _)
    | (with_reducible exact arboristlaw08_shown.mono _)
    | (with_reducible exact arboristref01_Rising.mono _ _)
    | (with_reducible exact arboristref08_Graph.mono _ _)
    | (with_reducible exact graph_Parts.mono _ _)
    | (with_reducible exact LeO.refl _)
    | (with_reducible exact LeO.none _)
    | (with_reducible refine LeO.ite ?_ ?_)
    | (with_reducible refine LeO.bind ?_ (fun _ => ?_))
    | exact ih0 _ _ _ _ _ _
    | exact ih1 _ _ _ _ _ _ _
    | exact ih2 _ _ _ _ _ _ _
    | exact ih3 _ _ _ _ _ _ _ _
    | exact ih4 _ _ _ _ _
    | exact ih5 _ _ _ _ _ _
    | exact arboristlaw08_made.mono _ _ _
    | exact arboristlaw08_shown.mono _
    | exact arboristref01_Rising.mono _ _
    | exact arboristref08_Graph.mono _ _
    | exact graph_Parts.mono _ _
    | exact LeO.none _
    | refine LeO.ite ?_ ?_
    | refine LeO.bind ?_ (fun _ => ?_)
theorem arboristlaw08_GraphParts.mono : ∀ a0 a1 k, LeO (arboristlaw08_GraphParts.f k a0 a1) (arboristlaw08_GraphParts.f (k + 1) a0 a1) := by
  intro a0 a1 k
  obtain ⟨ih0, ih1, ih2, ih3, ih4, ih5⟩ := arboristlaw08_GraphParts.mono_l k
  unfold arboristlaw08_GraphParts.f
  repeat' first
      | (with_reducible exact ih0 _ _ _ _ _ _)
      | (with_reducible exact ih1 _ _ _ _ _ _ _)
      | (with_reducible exact ih2 _ _ _ _ _ _ _)
      | (with_reducible exact ih3 _ _ _ _ _ _ _ _)
      | (with_reducible exact ih4 _ _ _ _ _)
      | (with_reducible exact ih5 _ _ _ _ _ _)
      | (with_reducible exact arboristlaw08_made.mono _ _ _)
      | (with_reducible exact arboristlaw08_shown.mono _)
      | (with_reducible exact arboristref01_Rising.mono _ _)
      | (with_reducible exact arboristref08_Graph.mono _ _)
      | (with_reducible exact graph_Parts.mono _ _)
      | (with_reducible exact LeO.refl _)
      | (with_reducible exact LeO.none _)
      | (with_reducible refine LeO.ite ?_ ?_)
      | (with_reducible refine LeO.bind ?_ (fun _ => ?_))
      | exact ih0 _ _ _ _ _ _
      | exact ih1 _ _ _ _ _ _ _
      | exact ih2 _ _ _ _ _ _ _
      | exact ih3 _ _ _ _ _ _ _ _
      | exact ih4 _ _ _ _ _
      | exact ih5 _ _ _ _ _ _
      | exact arboristlaw08_made.mono _ _ _
      | exact arboristlaw08_shown.mono _
      | exact arboristref01_Rising.mono _ _
      | exact arboristref08_Graph.mono _ _
      | exact graph_Parts.mono _ _
      | exact LeO.none _
      | refine LeO.ite ?_ ?_
      | refine LeO.bind ?_ (fun _ => ?_)
def arboristlaw08_GraphParts.T14 : Bool × List (List Nat × List Nat) := (true, [([], []), ([], []), ([0, 1], [0, 1]), ([2], [2]), ([3], [3]), ([4], [4]), ([5], [5]), ([6], [6]), ([6], [6]), ([7, 8, 6], [6, 7, 8]), ([9, 6], [6, 9]), ([10, 6], [6, 10]), ([11, 6], [6, 11]), ([6], [6]), ([12, 13, 6], [6, 12, 13]), ([6, 14], [6, 14]), ([15, 6], [15]), ([16], [16]), ([16], [16]), ([17, 18, 16], [16, 17, 18]), ([19, 16], [16, 19]), ([20, 16, 16], [16, 20]), ([21, 16], [16, 21]), ([16, 22], [16, 22]), ([23, 21], [23]), ([24], [24]), ([24], [24]), ([25, 26, 24], [24, 25, 26]), ([27, 24], [24, 27]), ([24], [24]), ([24], [24]), ([29, 30, 24], [24, 29, 30]), ([31, 24], [24, 31]), ([32, 24], [24, 32]), ([33, 24], [24, 33]), ([28, 34, 24], [24, 28, 34]), ([35, 24], [24, 35]), ([24], [24]), ([37, 24], [24, 37]), ([36, 38, 24], [24, 36, 38]), ([24, 39], [24, 39]), ([40, 24], [40]), ([41], [41]), ([41], [41]), ([42, 43, 41], [41, 42, 43]), ([44, 41], [41, 44]), ([45, 41], [41, 45]), ([46, 41], [41, 46]), ([47, 41], [41, 47]), ([41, 48], [41, 48])])
def arboristlaw08_GraphParts.B14 : List Nat := [0, 0, 3, 7, 15, 31, 63, 127, 127, 511, 1023, 2047, 4095, 127, 16383, 32767, 65535, 131071, 131071, 524287, 1048575, 2097151, 4194303, 8388607, 16777215, 33554431, 33554431, 134217727, 268435455, 33554431, 33554431, 1644167167, 3791650815, 8086618111, 16676552703, 34359738367, 68719476735, 33554431, 137472507903, 549755813887, 1099511627775, 2199023255551, 4398046511103, 4398046511103, 17592186044415, 35184372088831, 70368744177663, 140737488355327, 281474976710655, 562949953421311]
theorem arboristlaw08_GraphParts.tab14 : rtab .any (opsOf Tryd.f5 14) = arboristlaw08_GraphParts.T14 := by kernel_rfl
theorem arboristlaw08_GraphParts.bits14 : waitsOk arboristlaw08_GraphParts.T14.2 arboristlaw08_GraphParts.B14 = true := by kernel_rfl
def arboristlaw08_GraphParts.T31 : Bool × List (List Nat × List Nat) := (true, [([], []), ([], []), ([], []), ([0, 1, 2], [0, 1, 2]), ([3, 3], [3]), ([4], [4]), ([4], [4]), ([5, 6, 4], [4, 5, 6]), ([7, 4], [4, 7]), ([4], [4]), ([4], [4]), ([9, 10, 4], [4, 9, 10]), ([11, 4], [4, 11]), ([8, 12, 4], [4, 8, 12]), ([4, 13], [4, 13])])
def arboristlaw08_GraphParts.B31 : List Nat := [0, 0, 0, 7, 15, 31, 31, 127, 255, 31, 31, 1567, 3615, 8191, 16383]
theorem arboristlaw08_GraphParts.tab31 : rtab .any (opsOf Tryd.f5 31) = arboristlaw08_GraphParts.T31 := by kernel_rfl
theorem arboristlaw08_GraphParts.bits31 : waitsOk arboristlaw08_GraphParts.T31.2 arboristlaw08_GraphParts.B31 = true := by kernel_rfl
set_option maxHeartbeats 8000000 in
set_option maxRecDepth 100000 in
theorem arboristlaw08_GraphParts.calls (k : Nat) (a0 : Int) (A1 : Option Addr) (c1 : Nat) (l1 : List (List Int)) (r : Bool) (w : World) (hTb : Tab64 w) (hr1 : Kd.C (Kd.slice 3 (Kd.int .i64)) w A1 l1.length l1) (hc1 : l1.length ≤ c1) (hT : r = true) (h : arboristlaw08_GraphParts.f k a0 l1 = some r) :
    Calls Tryd.prog 5 #[.int .i64 a0, .slice A1 l1.length c1] w fun e w' => e = .returned (.bool r) ∧ Below w.heap.size w w' := by
  have HTAB := Aside0.mk hTb
  clear hTb
  have HT_ := Aside0.mk (show r = true from hT)
  clear hT
  have hu25 := Tryd.underlying25
  have HR1 := Aside0.mk hr1
  have HC1 := Aside0.mk hc1
  clear hr1 hc1
  have HB := Aside0.mk (Below.refl w.heap.size w)
  have H : ((arboristlaw08_shown.f k).bind fun t356 => ((arboristlaw08_made.f k a0 l1).bind fun t357 => ((arboristref08_Graph.f k t357).bind fun t360 => ((graph_Parts.f k t360).bind fun t364 => (if 0 ≤ (t357.length : Int) then (if ((t357.length : Int) : Int).toNat ≤ 35184372088832 then (arboristlaw08_GraphParts.l0 k t356 t357 t364 (List.replicate ((t357.length : Int) : Int).toNat 0) 0 t360) else (none)) else (none)))))) = some r := h
  clear h
  replace H := Option.bind_eq_some_iff.mp H
  obtain ⟨t356, A30, H⟩ := H
  replace H : ((arboristlaw08_made.f k a0 l1).bind fun t357 => ((arboristref08_Graph.f k t357).bind fun t360 => ((graph_Parts.f k t360).bind fun t364 => (if 0 ≤ (t357.length : Int) then (if ((t357.length : Int) : Int).toNat ≤ 35184372088832 then (arboristlaw08_GraphParts.l0 k t356 t357 t364 (List.replicate ((t357.length : Int) : Int).toNat 0) 0 t360) else (none)) else (none))))) = some r := H
  have A3 := Aside0.mk A30
  clear A30
  replace H := Option.bind_eq_some_iff.mp H
  obtain ⟨t357, A40, H⟩ := H
  replace H : ((arboristref08_Graph.f k t357).bind fun t360 => ((graph_Parts.f k t360).bind fun t364 => (if 0 ≤ (t357.length : Int) then (if ((t357.length : Int) : Int).toNat ≤ 35184372088832 then (arboristlaw08_GraphParts.l0 k t356 t357 t364 (List.replicate ((t357.length : Int) : Int).toNat 0) 0 t360) else (none)) else (none)))) = some r := H
  have A4 := Aside0.mk A40
  clear A40
  replace H := Option.bind_eq_some_iff.mp H
  obtain ⟨t360, A50, H⟩ := H
  replace H : ((graph_Parts.f k t360).bind fun t364 => (if 0 ≤ (t357.length : Int) then (if ((t357.length : Int) : Int).toNat ≤ 35184372088832 then (arboristlaw08_GraphParts.l0 k t356 t357 t364 (List.replicate ((t357.length : Int) : Int).toNat 0) 0 t360) else (none)) else (none))) = some r := H
  have A5 := Aside0.mk A50
  clear A50
  replace H := Option.bind_eq_some_iff.mp H
  obtain ⟨t364, A60, H⟩ := H
  replace H : (if 0 ≤ (t357.length : Int) then (if ((t357.length : Int) : Int).toNat ≤ 35184372088832 then (arboristlaw08_GraphParts.l0 k t356 t357 t364 (List.replicate ((t357.length : Int) : Int).toNat 0) 0 t360) else (none)) else (none)) = some r := H
  have A6 := Aside0.mk A60
  clear A60
  by_cases c7 : 0 ≤ (t357.length : Int)
  · rw [if_pos c7] at H
    have c7b0 := eq_true c7
    have c7b1 : decide (0 ≤ (t357.length : Int)) = true := decide_eq_true c7
    clear c7
    by_cases c8 : ((t357.length : Int) : Int).toNat ≤ 35184372088832
    · rw [if_pos c8] at H
      have c8b0 := eq_true c8
      have c8b1 : decide (((t357.length : Int) : Int).toNat ≤ 35184372088832) = true := decide_eq_true c8
      clear c8
      obtain ⟨y367, hy367⟩ : ∃ y_ : List Int, y_ = (List.replicate ((t357.length : Int) : Int).toNat 0) := ⟨_, rfl⟩
      replace H : (arboristlaw08_GraphParts.l0 k t356 t357 t364 y367 0 t360) = some r := by first | (rw [hy367]; with_reducible exact H) | (have H2_ := (Option.bind_some _ _).symm.trans H; rw [hy367]; with_reducible exact H2_) | (have H2_ := (Option.bind_some _ _).symm.trans H; with_reducible exact H2_) | with_reducible exact H | (rw [hy367]; exact H) | exact H
      have Ny367 := Aside0.mk hy367
      clear hy367
      have H' := Aside0.mk H
      clear H
      go_enter Tryd.func5, Tryd.ntmps5
      go_wp2_with (first | ((with_reducible refine gate_callee (f := 11) rfl ?_); refine goesL_ (some 16) rfl rfl Tryd.func11 (by kernel_rfl) rfl #[] rfl (by (try simp only [List.map_toArray, List.map_cons, List.map_nil]); first | done | rfl | (simp only [List.length_drop, List.length_take]; rfl)) ?_; (with_reducible refine (arboristlaw08_shown.calls (hTb := (by first | exact HTAB.out | exact tab_drewN HTAB.out _ | exact tab_below HTAB.out (by repeat (first | (with_reducible first | exact HB.out | apply below_alloc | apply pw_below_drewN | apply below_drew1 | refine below_set ?_ GE363.out) | exact HB.out)))) k  t356 _ A3.out).mono ?_); rintro e w9 ⟨rfl, hb⟩; refine ⟨_, rfl, ?_⟩; have n0_ := Aside0.mk (below_step (by repeat (first | (with_reducible first | exact HB.out | apply below_alloc | apply pw_below_drewN | apply below_drew1) | exact HB.out)) hb); clear HB; have HB := n0_; clear n0_; (try clear hb); (try clear hb2); (try clear hk); (try clear hi)) | ((with_reducible refine gate_callee (f := 15) rfl ?_); refine goesL_ (some 19) rfl rfl Tryd.func15 (by kernel_rfl) rfl #[.int .i64 a0, .slice A1 l1.length c1] rfl (by (try simp only [List.map_toArray, List.map_cons, List.map_nil]); first | done | rfl | (simp only [List.length_drop, List.length_take]; rfl)) ?_; (with_reducible refine (arboristlaw08_made.calls k a0 _ _ l1 t357 _ ?side1 ?side2 A4.out).mono ?_); (case side1 => repeat (first | exact (Kd.C_below HR1.out HB.out) | (with_reducible refine Kd.C_alloc ?_ _) | (with_reducible refine Kd.C_drewN ?_ _) | (with_reducible refine Kd.C_drew ?_))); (case side2 => exact HC1.out); rintro e w10 ⟨v358, rfl, ho0, hb⟩; refine ⟨_, rfl, ?_⟩; have n0_ := Aside0.mk (Kd.S_lower ho0 (below_size (by repeat (first | (with_reducible first | exact HB.out | apply below_alloc | apply pw_below_drewN | apply below_drew1) | exact HB.out)))); have n1_ := Aside0.mk (below_step (by repeat (first | (with_reducible first | exact HB.out | apply below_alloc | apply pw_below_drewN | apply below_drew1) | exact HB.out)) hb); clear HB; have HO359 := n0_; have HB := n1_; clear n0_ n1_; (try clear hb); (try clear hb2); (try clear hk); (try clear hi); (try clear ho0); obtain ⟨Ao11, co11, eo11⟩ := Kd.S_slice HO359.out; subst eo11) | ((with_reducible refine gate_callee (f := 16) rfl ?_); refine goesL_ (some 21) rfl rfl Tryd.func16 (by kernel_rfl) rfl #[.slice Ao11 t357.length co11] rfl (by (try simp only [List.map_toArray, List.map_cons, List.map_nil]); first | done | rfl | (simp only [List.length_drop, List.length_take]; rfl)) ?_; (with_reducible refine (arboristref08_Graph.calls k _ _ t357 t360 _ ?side1 ?side2 A5.out).mono ?_); (case side1 => repeat (first | exact (Kd.S_reads' HO359.out).2.2 | (with_reducible refine Kd.C_alloc ?_ _) | (with_reducible refine Kd.C_drewN ?_ _) | (with_reducible refine Kd.C_drew ?_))); (case side2 => exact (Kd.S_reads' HO359.out).2.1); rintro e w12 ⟨v361, rfl, ho0, hb⟩; refine ⟨_, rfl, ?_⟩; have n0_ := Aside0.mk (Kd.S_below (by (with_reducible repeat (first | apply Kd.S_alloc | apply Kd.S_drewN | apply Kd.S_drew)); exact HO359.out) hb); have n1_ := Aside0.mk (Kd.R_lower ho0 (below_size (by repeat (first | (with_reducible first | exact HB.out | apply below_alloc | apply pw_below_drewN | apply below_drew1) | exact HB.out)))); have n2_ := Aside0.mk (below_step (by repeat (first | (with_reducible first | exact HB.out | apply below_alloc | apply pw_below_drewN | apply below_drew1) | exact HB.out)) hb); clear HO359; clear HB; have HO359 := n0_; have HO362 := n1_; have HB := n2_; clear n0_ n1_ n2_; (try clear hb); (try clear hb2); (try clear hk); (try clear hi); (try clear ho0)) | ((with_reducible refine gate_dst (N := 7) rfl ?_); (try (refine gate_guard (by rfl) ?_; dsimp only)); refine box_event ?hg (N := 7) ?hd (cs := #[.slice none 0 0]) (t := 25) ?hr ?_; (case hd => rfl); (case hg => rfl); (case hr => first | (go_simp; done) | (go_simp; rfl)); intro gb363 hg w13 hbox hb; have n0_ := Aside0.mk (Kd.S_below (by (with_reducible repeat (first | apply Kd.S_alloc | apply Kd.S_drewN | apply Kd.S_drew)); exact HO359.out) hb); have n1_ := Aside0.mk (Kd.R_below (by (with_reducible repeat (first | apply Kd.R_alloc | apply Kd.R_drewN | apply Kd.R_drew)); exact HO362.out) hb); have n2_ := Aside0.mk (below_step (by repeat (first | (with_reducible first | exact HB.out | apply below_alloc | apply pw_below_drewN | apply below_drew1) | exact HB.out)) hb); have n3_ := Aside0.mk (hbox); have n4_ := Aside0.mk ((by rw [hg]; exact (below_size (by repeat (first | (with_reducible first | exact HB.out | apply below_alloc | apply pw_below_drewN | apply below_drew1) | exact HB.out))) : w.heap.size ≤ gb363)); have n5_ := Aside0.mk ((by rw [hg]; exact (below_size (by repeat (first | (with_reducible first | exact HB.out | apply below_alloc | apply pw_below_drewN | apply below_drew1) | exact HB.out))) : w.heap.size ≤ gb363)); clear HO359; clear HO362; clear HB; have HO359 := n0_; have HO362 := n1_; have HB := n2_; have BK363 := n3_; have GW363 := n4_; have GE363 := n5_; clear n0_ n1_ n2_ n3_ n4_ n5_; clear hb hbox hg; obtain ⟨Ao14, co14, eo14⟩ := Kd.R_slice HO362.out; subst eo14; have hcz15_0 : w13.cell? ⟨gb363, 0, none⟩ = some (.slice none 0 0) := (blk_cell BK363.out 0).trans rfl; have hfz15_0 := blk_frozen BK363.out 0) | ((with_reducible refine gate_callee (f := 25) rfl ?_); refine goesL_ (some 23) rfl rfl Tryd.func25 (by kernel_rfl) rfl #[.agg #[.slice Ao14 t360.length co14]] rfl (by (try simp only [List.map_toArray, List.map_cons, List.map_nil]); first | done | rfl | (simp only [List.length_drop, List.length_take]; rfl)) ?_; (with_reducible refine (graph_Parts.calls (hTb := (by first | exact HTAB.out | exact tab_drewN HTAB.out _ | exact tab_below HTAB.out (by repeat (first | (with_reducible first | exact HB.out | apply below_alloc | apply pw_below_drewN | apply below_drew1 | refine below_set ?_ GE363.out) | exact HB.out)))) k _ _ t360 t364 _ ?side1 ?side2 A6.out).mono ?_); (case side1 => refine (Kd.R_reads' (e := 30) (base := w.heap.size) (ok := fun k_ => True) (n := t360.length) (c := co14) ?_).2.2; exact (by (with_reducible repeat (first | apply Kd.R_alloc | apply Kd.R_drewN | apply Kd.R_drew)); exact (Kd.R_mono (Kd.R_far (p := ⟨gb363, 0, none⟩) (Kd.R_types HO362.out BK363.out (by decide)) (fun _ hk => hk.2) (.slice Ao14 t360.length co14)) (fun _ h_ => h_.1)))); (case side2 => exact (Kd.R_reads' HO362.out).2.1); rintro e w16 ⟨v365, rfl, ho0, hb⟩; refine ⟨_, rfl, ?_⟩; have n0_ := Aside0.mk (Kd.S_below (by (with_reducible repeat (first | apply Kd.S_alloc | apply Kd.S_drewN | apply Kd.S_drew)); exact (Kd.S_mono (Kd.S_far (p := ⟨gb363, 0, none⟩) (Kd.S_types HO359.out BK363.out (by decide)) (fun _ hk => hk.2) (.slice Ao14 t360.length co14)) (fun _ h_ => h_.1))) hb); have n1_ := Aside0.mk (Kd.R_below (by (with_reducible repeat (first | apply Kd.R_alloc | apply Kd.R_drewN | apply Kd.R_drew)); exact (Kd.R_mono (Kd.R_far (p := ⟨gb363, 0, none⟩) (Kd.R_types HO362.out BK363.out (by decide)) (fun _ hk => hk.2) (.slice Ao14 t360.length co14)) (fun _ h_ => h_.1))) hb); have n2_ := Aside0.mk (Kd.S_lower ho0 (below_size (by repeat (first | (with_reducible first | exact HB.out | apply below_alloc | apply pw_below_drewN | apply below_drew1 | refine below_set ?_ GE363.out) | exact HB.out)))); have n3_ := Aside0.mk (blk_below (g := gb363) (o := .cells #[.slice Ao14 t360.length co14] 25 (0, 0)) (by (with_reducible repeat (first | refine blk_drewN ?_ _ | refine blk_drew ?_ | refine blk_alloc ?_ _)); refine blk_put (cs := #[.slice none 0 0]) ?_ 0 _ rfl; (with_reducible repeat (first | refine blk_drewN ?_ _ | refine blk_drew ?_ | refine blk_alloc ?_ _)); exact BK363.out) hb); have n4_ := Aside0.mk (below_step (by repeat (first | (with_reducible first | exact HB.out | apply below_alloc | apply pw_below_drewN | apply below_drew1 | refine below_set ?_ GE363.out) | exact HB.out)) hb); clear HO359; clear HO362; clear BK363; clear HB; have HO359 := n0_; have HO362 := n1_; have HO366 := n2_; have BK363 := n3_; have HB := n4_; clear n0_ n1_ n2_ n3_ n4_; (try clear hb); (try clear hb2); (try clear hk); (try clear hi); (try clear ho0)) | ((with_reducible refine gate_dst (N := 26) rfl ?_); (try (refine gate_guard (by rfl) ?_; dsimp only)); refine Kd.R_make (Kd.int .i64) _ 3 rfl (N := 26) rfl 34 _ _ rfl (t357.length : Int) rfl rfl Tryd.underlying34 (.int .i64 0) 8 info3 rfl (by decide) (by omega) 0 (ok := fun _ => True) (okp := fun _ => True) rfl (fun _ hk => hk) trivial (of_decide_eq_true (by first | (with_reducible assumption) | assumption)) (Nat.le_trans (Nat.mul_le_mul_right _ (of_decide_eq_true (by first | (with_reducible assumption) | assumption) : (t357.length : Int).toNat ≤ 35184372088832)) (by omega)) (Below.refl _ _) (Nat.le_refl _) ?_; intro v368 w17 ho18 hb hg_ hnew_; clear hg_ hnew_; (first | rw [← Ny367.out] at ho18 | (simp only [Int.reduceToNat] at ho18; rw [← Ny367.out] at ho18)); have n0_ := Aside0.mk (Kd.S_below (by (with_reducible repeat (first | apply Kd.S_alloc | apply Kd.S_drewN | apply Kd.S_drew)); exact HO359.out) hb); have n1_ := Aside0.mk (Kd.R_below (by (with_reducible repeat (first | apply Kd.R_alloc | apply Kd.R_drewN | apply Kd.R_drew)); exact HO362.out) hb); have n2_ := Aside0.mk (Kd.S_elder' (by (with_reducible repeat (first | apply Kd.S_alloc | apply Kd.S_drewN | apply Kd.S_drew)); exact HO366.out) (Kd.R_base ho18) hb); have n3_ := Aside0.mk (Kd.R_lower ho18 (below_size (by repeat (first | (with_reducible first | exact HB.out | apply below_alloc | apply pw_below_drewN | apply below_drew1 | refine below_set ?_ GE363.out) | exact HB.out)))); have n4_ := Aside0.mk (blk_below (g := gb363) (o := .cells #[.slice Ao14 t360.length co14] 25 (0, 0)) (by (with_reducible repeat (first | refine blk_drewN ?_ _ | refine blk_drew ?_ | refine blk_alloc ?_ _)); exact BK363.out) hb); have n5_ := Aside0.mk (below_step (by repeat (first | (with_reducible first | exact HB.out | apply below_alloc | apply pw_below_drewN | apply below_drew1 | refine below_set ?_ GE363.out) | exact HB.out)) hb); clear HO359; clear HO362; clear HO366; clear BK363; clear HB; have HO359 := n0_; have HO362 := n1_; have HO366 := n2_; have HO369 := n3_; have BK363 := n4_; have HB := n5_; clear n0_ n1_ n2_ n3_ n4_ n5_; clear hb ho18))
      go_loopg [10] k (fun kq v10 w' => ∃ (x9_1 : List Int) (x10_1 : Int), v10 = .int .i64 x10_1 ∧ Aside0 (arboristlaw08_GraphParts.l0 kq t356 t357 t364 x9_1 x10_1 t360 = some r) ∧ Aside0 (kq ≤ k) ∧ Aside0 (Kd.S (Kd.slice 4 Kd.bool) 37 w' w.heap.size (fun _ => True) (.slice Ao11 t357.length co11) t357) ∧ Aside0 (Kd.S (Kd.slice 3 (Kd.int .i64)) 34 w' w.heap.size (fun k_ => some k_ ≠ (v368 : Value).ownBlock) v365 t364) ∧ Aside0 (Kd.R (Kd.int .i64) 3 w' w.heap.size (fun _ => True) v368 x9_1) ∧ Aside0 (Kd.R (Kd.int .u64) 30 w' w.heap.size (fun _ => True) (.slice Ao14 t360.length co14) t360) ∧ Aside0 (w'.heap[gb363]? = some (.cells #[(.slice Ao14 t360.length co14)] 25 (0, 0))) ∧ Aside0 (Below w.heap.size w w'))
      case atStart => exact ⟨(y367), (0), (by first | rfl | (simp; done) | (simp [*]; done)), H', ⟨Nat.le_refl _⟩, ⟨by (with_reducible repeat (first | apply Kd.S_alloc | apply Kd.S_drewN | apply Kd.S_drew)); exact HO359.out⟩, ⟨by (with_reducible repeat (first | apply Kd.S_alloc | apply Kd.S_drewN | apply Kd.S_drew)); exact Kd.S_mono HO366.out (fun _ hk => hk.2)⟩, ⟨by (with_reducible repeat (first | apply Kd.R_alloc | apply Kd.R_drewN | apply Kd.R_drew)); exact HO369.out⟩, ⟨by (with_reducible repeat (first | apply Kd.R_alloc | apply Kd.R_drewN | apply Kd.R_drew)); exact HO362.out⟩, ⟨by (with_reducible repeat (first | refine blk_drewN ?_ _ | refine blk_drew ?_ | refine blk_alloc ?_ _)); exact BK363.out⟩, ⟨by repeat (first | (with_reducible first | exact HB.out | apply below_alloc | apply pw_below_drewN | apply below_drew1 | refine below_set ?_ GE363.out) | exact HB.out)⟩⟩
      case round =>
        clear H'
        try clear c1
        try clear c2
        try clear p2
        try clear c5
        try clear c7
        try clear c7b0
        try clear c7b1
        try clear c8
        try clear c8b0
        try clear c8b1
        try clear c11
        try clear c15
        try clear c16
        try clear hcz15_0
        try clear hfz15_0
        obtain ⟨x9_1, x10_1, rfl, HA, HK1, HO_6, HO_8, HO_9, HO_364000, BK363, HB⟩ := hrel
        cases gk with
        | zero => exact absurd HA.out (by simp [arboristlaw08_GraphParts.l0])
        | succ k1 =>
          have H := HA.out
          clear HA
          simp only [arboristlaw08_GraphParts.l0] at H
          by_cases c19 : x10_1 < (t357.length : Int)
          · rw [if_pos c19] at H
            have c19b0 : decide (x10_1 < (t357.length : Int)) = true := decide_eq_true c19
            clear c19
            by_cases c20 : 0 ≤ x10_1
            · rw [if_pos c20] at H
              have c20b0 : decide (0 ≤ x10_1) = true := decide_eq_true c20
              clear c20
              by_cases c21 : x10_1 < (x9_1.length : Int)
              · rw [if_pos c21] at H
                have c21b0 : decide (x10_1 < (x9_1.length : Int)) = true := decide_eq_true c21
                clear c21
                obtain ⟨y370, hy370⟩ : ∃ y_ : List Int, y_ = (x9_1.set (x10_1 : Int).toNat (-1)) := ⟨_, rfl⟩
                replace H : (arboristlaw08_GraphParts.l0 k1 t356 t357 t364 y370 (wrap64 (x10_1 + 1)) t360) = some r := by first | (rw [hy370]; with_reducible exact H) | (have H2_ := (Option.bind_some _ _).symm.trans H; rw [hy370]; with_reducible exact H2_) | (have H2_ := (Option.bind_some _ _).symm.trans H; with_reducible exact H2_) | with_reducible exact H | (rw [hy370]; exact H) | exact H
                have Ny370 := Aside0.mk hy370
                clear hy370
                have H' := Aside0.mk H
                clear H
                have p22 : 0 ≤ (x10_1 : Int) := of_decide_eq_true (by first | (with_reducible assumption) | assumption)
                have q22 : (x10_1 : Int) < ((x9_1.length : Int) : Int) := of_decide_eq_true (by first | (with_reducible assumption) | assumption)
                obtain ⟨go22, co22, eo22, gb22, gl22, cl22, HG22⟩ := Kd.R_form HO_9.out (by omega)
                (first | cases eo22 | (injection eo22 with ea_ en_ ec_; (first | subst ea_ | (injection ea_ with ea_; subst ea_)); subst ec_; clear en_))
                have GB22 := Aside0.mk gb22
                have GG22 := Aside0.mk HG22
                clear gb22 gl22 HG22
                obtain ⟨hx22_0, hf22_0⟩ := Kd.R_celln 0 HO_9.out (x10_1 : Int) p22 q22
                replace p22 := eq_true p22
                replace q22 := eq_true q22
                have HP23 := Kd.R_putg HO_9.out (x10_1 : Int) (-1)
                go_wp2_with (first | ((with_reducible refine gate_store (t := 3) (p := 35) rfl ?_); refine store_event (t := 3) (p := 35) (v := ?vo_w24) (w1 := (wr.setCell ⟨go22, (x10_1 : Int).toNat, none⟩ (.int .i64 (-1)))) ?hg ?ho ?hn ?hr ?_; (case ho => rfl); (case hg => rfl); (case hn => rfl); (case hr => first | (go_simp; done) | (go_simp; rfl)); intro w24 hw; have hg : wr.grownBy w24 (some go22) := (by rw [hw]; exact HP23.2); have hp_ : Kd.R (Kd.int .i64) 3 w24 w.heap.size (fun _ => True) (.slice (some ⟨go22, 0, none⟩) x9_1.length co22) y370 := (by rw [hw, Ny370.out]; exact HP23.1); clear HP23; have n0_ := Aside0.mk (Kd.S_over' (v := (.slice (some ⟨go22, 0, none⟩) x9_1.length co22)) (by (with_reducible repeat (first | apply Kd.S_alloc | apply Kd.S_drewN | apply Kd.S_drew)); exact HO_6.out) (Kd.R_typed HO_9.out) (by decide) hg); have n1_ := Aside0.mk (Kd.S_after (v := (.slice (some ⟨go22, 0, none⟩) x9_1.length co22)) (v1 := (.slice (some ⟨go22, 0, none⟩) x9_1.length co22)) (ok := (fun _ => True)) (by (with_reducible repeat (first | apply Kd.S_alloc | apply Kd.S_drewN | apply Kd.S_drew)); exact Kd.S_mono HO_8.out (fun _ hk => ⟨trivial, hk⟩)) hg (.inl rfl)); have n2_ := Aside0.mk (hp_); have n3_ := Aside0.mk (Kd.R_over' (v := (.slice (some ⟨go22, 0, none⟩) x9_1.length co22)) (by (with_reducible repeat (first | apply Kd.R_alloc | apply Kd.R_drewN | apply Kd.R_drew)); exact HO_364000.out) (Kd.R_typed HO_9.out) (by decide) hg); have n4_ := Aside0.mk (blk_grown (g := gb363) (o := .cells #[.slice Ao14 t360.length co14] 25 (0, 0)) (by (with_reducible repeat (first | refine blk_drewN ?_ _ | refine blk_drew ?_ | refine blk_alloc ?_ _)); exact BK363.out) hg (Kd.R_ne HO_9.out BK363.out (by decide))); have n5_ := Aside0.mk ((by rw [hw]; exact below_set (HB.out) GB22.out : Below w.heap.size w w24)); clear HO_6; clear HO_8; clear HO_9; clear HO_364000; clear BK363; clear HB; have HO_6 := n0_; have HO_8 := n1_; have HO_9 := n2_; have HO_364000 := n3_; have BK363 := n4_; have HB := n5_; clear n0_ n1_ n2_ n3_ n4_ n5_; clear hg hw hp_))
                go_roundg k1
                case measure => have := HK1.out; omega
                case rel => exact ⟨(y370), (wrap64 (x10_1 + 1)), (by first | rfl | (simp; done) | (simp [*]; done)), H', ⟨by have := HK1.out; omega⟩, ⟨by (with_reducible repeat (first | apply Kd.S_alloc | apply Kd.S_drewN | apply Kd.S_drew)); exact HO_6.out⟩, ⟨by (with_reducible repeat (first | apply Kd.S_alloc | apply Kd.S_drewN | apply Kd.S_drew)); exact Kd.S_mono HO_8.out (fun _ hk => hk.2)⟩, ⟨by (with_reducible repeat (first | apply Kd.R_alloc | apply Kd.R_drewN | apply Kd.R_drew)); exact HO_9.out⟩, ⟨by (with_reducible repeat (first | apply Kd.R_alloc | apply Kd.R_drewN | apply Kd.R_drew)); exact HO_364000.out⟩, ⟨by (with_reducible repeat (first | refine blk_drewN ?_ _ | refine blk_drew ?_ | refine blk_alloc ?_ _)); exact BK363.out⟩, ⟨by repeat (first | (with_reducible first | exact HB.out | apply below_alloc | apply pw_below_drewN | apply below_drew1 | refine below_set ?_ GE363.out) | exact HB.out)⟩⟩
              · rw [if_neg c21] at H
                exact absurd H (by simp)
            · rw [if_neg c20] at H
              exact absurd H (by simp)
          · rw [if_neg c19] at H
            have c19b0 : decide (x10_1 < (t357.length : Int)) = false := decide_eq_false c19
            clear c19
            have H' := Aside0.mk H
            clear H
            go_wp2
            go_loopg [11, 12] k1 (fun kq v11 v12 w' => ∃ (x9_2 : List Int) (x11_2 : Int) (x12_2 : Int), v11 = .int .i64 x11_2 ∧ v12 = .int .i64 x12_2 ∧ Aside0 (arboristlaw08_GraphParts.l1 kq t356 t357 t364 x9_2 x11_2 x12_2 t360 = some r) ∧ Aside0 (kq ≤ k1) ∧ Aside0 (Kd.S (Kd.slice 4 Kd.bool) 37 w' w.heap.size (fun _ => True) (.slice Ao11 t357.length co11) t357) ∧ Aside0 (Kd.S (Kd.slice 3 (Kd.int .i64)) 34 w' w.heap.size (fun k_ => some k_ ≠ (v368 : Value).ownBlock) v365 t364) ∧ Aside0 (Kd.R (Kd.int .i64) 3 w' w.heap.size (fun _ => True) v368 x9_2) ∧ Aside0 (Kd.R (Kd.int .u64) 30 w' w.heap.size (fun _ => True) (.slice Ao14 t360.length co14) t360) ∧ Aside0 (w'.heap[gb363]? = some (.cells #[(.slice Ao14 t360.length co14)] 25 (0, 0))) ∧ Aside0 (Below w.heap.size w w'))
            case atStart => exact ⟨(x9_1), ((-1)), (0), (by first | rfl | (simp; done) | (simp [*]; done)), (by first | rfl | (simp; done) | (simp [*]; done)), H', ⟨Nat.le_refl _⟩, ⟨by (with_reducible repeat (first | apply Kd.S_alloc | apply Kd.S_drewN | apply Kd.S_drew)); exact HO_6.out⟩, ⟨by (with_reducible repeat (first | apply Kd.S_alloc | apply Kd.S_drewN | apply Kd.S_drew)); exact HO_8.out⟩, ⟨by (with_reducible repeat (first | apply Kd.R_alloc | apply Kd.R_drewN | apply Kd.R_drew)); exact HO_9.out⟩, ⟨by (with_reducible repeat (first | apply Kd.R_alloc | apply Kd.R_drewN | apply Kd.R_drew)); exact HO_364000.out⟩, ⟨by (with_reducible repeat (first | refine blk_drewN ?_ _ | refine blk_drew ?_ | refine blk_alloc ?_ _)); exact BK363.out⟩, ⟨by repeat (first | (with_reducible first | exact HB.out | apply below_alloc | apply pw_below_drewN | apply below_drew1 | refine below_set ?_ GE363.out) | exact HB.out)⟩⟩
            case round =>
              clear H'
              try clear c1
              try clear c2
              try clear p2
              try clear q2
              try clear hx2
              try clear hf2
              try clear c5
              try clear p6
              try clear c7
              try clear c7b0
              try clear c7b1
              try clear c8
              try clear c8b0
              try clear c8b1
              try clear c11
              try clear c15
              try clear c16
              try clear c19
              try clear c19b0
              try clear c20
              try clear c20b0
              try clear c21
              try clear c21b0
              try clear p22
              try clear q22
              try clear hx22
              try clear hf22
              try clear hcz15_0
              try clear hfz15_0
              try clear hx22_0
              try clear p2
              try clear p22
              try clear q22
              obtain ⟨x9_2, x11_2, x12_2, rfl, rfl, HA, HK2, HO_6, HO_8, HO_9, HO_364000, BK363, HB⟩ := hrel
              cases gk with
              | zero => exact absurd HA.out (by simp [arboristlaw08_GraphParts.l1])
              | succ k2 =>
                have H := HA.out
                clear HA
                simp only [arboristlaw08_GraphParts.l1] at H
                by_cases c25 : x12_2 < (t364.length : Int)
                · rw [if_pos c25] at H
                  have c25b0 : decide (x12_2 < (t364.length : Int)) = true := decide_eq_true c25
                  clear c25
                  have HC26 := Aside0.mk H
                  clear H
                  obtain ⟨Ao27, co27, eo27⟩ := Kd.S_slice HO_8.out
                  subst eo27
                  go_upto_region 14 with (fail)
                  go_cut [91] (fun v91 wc => ∃ (kq : Nat) (x91_25 : Bool), v91 = .bool x91_25 ∧ Aside0 (arboristlaw08_GraphParts.j2 kq t356 t357 t364 x9_2 x12_2 x91_25 t360 = some r) ∧ Aside0 (kq ≤ k2) ∧ Aside0 (Kd.S (Kd.slice 4 Kd.bool) 37 wc w.heap.size (fun _ => True) (.slice Ao11 t357.length co11) t357) ∧ Aside0 (Kd.S (Kd.slice 3 (Kd.int .i64)) 34 wc w.heap.size (fun k_ => some k_ ≠ (v368 : Value).ownBlock) (.slice Ao27 t364.length co27) t364) ∧ Aside0 (Kd.R (Kd.int .i64) 3 wc w.heap.size (fun _ => True) v368 x9_2) ∧ Aside0 (Kd.R (Kd.int .u64) 30 wc w.heap.size (fun _ => True) (.slice Ao14 t360.length co14) t360) ∧ Aside0 (wc.heap[gb363]? = some (.cells #[(.slice Ao14 t360.length co14)] 25 (0, 0))) ∧ Aside0 (Below w.heap.size w wc))
                  case first =>
                    have H := HC26.out
                    clear HC26
                    by_cases c28 : 0 ≤ x12_2
                    · rw [if_pos c28] at H
                      have c28b0 : decide (0 ≤ x12_2) = true := decide_eq_true c28
                      clear c28
                      (first | rw [c28b0] | (simp only [i64_w, i32_w]; rw [c28b0]) | skip)
                      by_cases c29 : ((rd_L2 t364 x12_2).length : Int) = 0
                      · rw [if_pos c29] at H
                        have c29b0 : (((rd_L2 t364 x12_2).length : Int) == 0) = true := beq_iff_eq.mpr c29
                        have c29b1 : (((rd_L2 t364 x12_2).length : Int) != 0) = false := bne_eq_false_iff_eq.mpr c29
                        clear c29
                        have H' := Aside0.mk H
                        clear H
                        try go_wp2
                        have n0_ := Aside0.mk (Kd.S_drew HO_6.out)
                        have n1_ := Aside0.mk (Kd.S_drew HO_8.out)
                        have n2_ := Aside0.mk (Kd.R_drew HO_9.out)
                        have n3_ := Aside0.mk (Kd.R_drew HO_364000.out)
                        have n4_ := Aside0.mk (blk_drew BK363.out)
                        have n5_ := Aside0.mk (below_drew1 HB.out)
                        clear HO_6
                        clear HO_8
                        clear HO_9
                        clear HO_364000
                        clear BK363
                        clear HB
                        have HO_6 := n0_
                        have HO_8 := n1_
                        have HO_9 := n2_
                        have HO_364000 := n3_
                        have BK363 := n4_
                        have HB := n5_
                        clear n0_ n1_ n2_ n3_ n4_ n5_
                        have p371 : 0 ≤ (x12_2 : Int) := of_decide_eq_true (by first | (with_reducible assumption) | assumption)
                        have q371 : x12_2 < (t364.length : Int) := of_decide_eq_true (by first | (with_reducible assumption) | assumption)
                        obtain ⟨ad371, A371_0, c371_0, e371, hx371_0, hl371_0, hi371_0⟩ := at_L2 (Kd.S_reads' HO_8.out).2.2 x12_2 p371 q371
                        cases e371
                        obtain ⟨ce371, hce371, hMe371, hcc371⟩ := Kd.S_get HO_8.out [] x12_2 p371 (by first | exact q371 | exact of_decide_eq_true (by first | (with_reducible assumption) | assumption) | (have e_ := (Kd.S_reads' HO_8.out).1; omega))
                        obtain ⟨ve371_0, rfl, ge371_0⟩ := hMe371
                        have hv371_0 := hcc371 0 _ rfl
                        rw [Nat.add_zero, show ((Kd.slice 3 (Kd.int .i64))).sz = 1 from rfl, Nat.mul_one] at hv371_0
                        replace hv371_0 := Option.some.inj (hv371_0.symm.trans hx371_0)
                        rw [hv371_0] at ge371_0
                        have HL371_0 := Aside0.mk (show Kd.R (Kd.int .i64) 3 _ _ _ _ (rd_L2 t364 x12_2) from ge371_0)
                        clear hv371_0 ge371_0
                        clear hcc371 hce371
                        have HR371_0 := Aside0.mk hi371_0
                        have HC371_0 := Aside0.mk hl371_0
                        clear hi371_0 hl371_0
                        replace p371 := eq_true p371
                        replace q371 := eq_true q371
                        refine start_ (n := 50) (S := fun w' => w'.cell? (ad371.add (x12_2).toNat) = some (.slice A371_0 (rd_L2 t364 x12_2).length c371_0)) (ds := []) (bs 50 0) (by kernel_rfl) rfl rfl (hx371_0) (fun hHeld => ?_); refine with_tabW arboristlaw08_GraphParts.tab14 arboristlaw08_GraphParts.bits14 (fun HT_ HW_ => ?_)
                        generalize wr.drew = w30 at HO_6 HO_8 HO_9 HO_364000 BK363 HB HL371_0 HR371_0 hx371_0 hHeld ⊢
                        refine pure_ (i := 0) (N := some 42) (v := ?_) (a' := ?_) (bs 50 1) rfl rfl (any_of HT_.out (by kernel_rfl)) (fun _ _ _ h => h) (Or.inl ⟨by rfl, ?_⟩) ?_ ?_
                        rotate_left; (intro w'; go_simp; with_reducible rfl); rotate_left; (simp only [Act.put, List.setIfInBounds_toArray, List.set_cons_zero, List.set_cons_succ, i64_w, i32_w]; rfl)
                        refine pure_ (i := 1) (N := some 43) (v := ?_) (a' := ?_) (bs 50 3) rfl rfl (any_of HT_.out (by kernel_rfl)) (fun _ _ _ h => h) (Or.inl ⟨by rfl, ?_⟩) ?_ ?_
                        rotate_left; (intro w'; go_simp; with_reducible rfl); rotate_left; (simp only [Act.put, List.setIfInBounds_toArray, List.set_cons_zero, List.set_cons_succ, i64_w, i32_w]; rfl)
                        refine pure_ (i := 2) (N := some 44) (v := ?_) (a' := ?_) (bs 50 7) rfl rfl (any_of HT_.out (by kernel_rfl)) (fun _ _ _ h => h) (Or.inl ⟨by rfl, ?_⟩) ?_ ?_
                        rotate_left; (intro w'; go_simp; with_reducible rfl); rotate_left; (simp only [Act.put, List.setIfInBounds_toArray, List.set_cons_zero, List.set_cons_succ, i64_w, i32_w]; rfl)
                        refine take_ (i := 3) (N := some 45) (v := ?_) (a' := ?_) (bs 50 15) rfl rfl (take_ofW HT_.out HW_.out (by kernel_rfl)) (fun _ _ _ h => h) (Or.inl ⟨by rfl, ?_⟩) hHeld ?_ ?_
                        rotate_left
                        · intro w' s0
                          go_simp
                          with_reducible rfl
                        rotate_left; (simp only [Act.put, List.setIfInBounds_toArray, List.set_cons_zero, List.set_cons_succ, i64_w, i32_w]; rfl)
                        refine pure_ (i := 4) (N := some 46) (v := ?_) (a' := ?_) (bs 50 31) rfl rfl (any_of HT_.out (by kernel_rfl)) (fun _ _ _ h => h) (Or.inl ⟨by rfl, ?_⟩) ?_ ?_
                        rotate_left; (intro w'; go_simp; with_reducible rfl); rotate_left; (simp only [Act.put, List.setIfInBounds_toArray, List.set_cons_zero, List.set_cons_succ, i64_w, i32_w]; rfl)
                        refine pure_ (i := 5) (N := some 47) (v := ?_) (a' := ?_) (bs 50 63) rfl rfl (any_of HT_.out (by kernel_rfl)) (fun _ _ _ h => h) (Or.inl ⟨by rfl, ?_⟩) ?_ ?_
                        rotate_left; (intro w'; go_simp; with_reducible rfl); rotate_left; (simp only [Act.put, List.setIfInBounds_toArray, List.set_cons_zero, List.set_cons_succ, i64_w, i32_w]; rfl)
                        refine pure_ (i := 6) (N := some 48) (v := ?_) (a' := ?_) (bs 50 127) rfl rfl (any_of HT_.out (by kernel_rfl)) (fun _ _ _ h => h) (Or.inl ⟨by rfl, ?_⟩) ?_ ?_
                        rotate_left; (intro w'; go_simp; with_reducible rfl); rotate_left; (simp only [Act.put, List.setIfInBounds_toArray, List.set_cons_zero, List.set_cons_succ, i64_w, i32_w]; rfl)
                        refine pure_ (i := 7) (N := some 49) (v := undef) (a' := ?_) (bs 50 255) rfl rfl (any_of HT_.out (by kernel_rfl)) (fun _ _ _ h => h) (Or.inr ⟨by rfl, rfl⟩) ?_ ?_
                        rotate_left; (simp only [Act.put, List.setIfInBounds_toArray, List.set_cons_zero, List.set_cons_succ, i64_w, i32_w]; rfl)
                        refine pure_ (i := 8) (N := some 50) (v := undef) (a' := ?_) (bs 50 511) rfl rfl (any_of HT_.out (by kernel_rfl)) (fun _ _ _ h => h) (Or.inr ⟨by rfl, rfl⟩) ?_ ?_
                        rotate_left; (simp only [Act.put, List.setIfInBounds_toArray, List.set_cons_zero, List.set_cons_succ, i64_w, i32_w]; rfl)
                        refine pure_ (i := 9) (N := some 51) (v := undef) (a' := ?_) (bs 50 1023) rfl rfl (any_of HT_.out (by kernel_rfl)) (fun _ _ _ h => h) (Or.inr ⟨by rfl, rfl⟩) ?_ ?_
                        rotate_left; (simp only [Act.put, List.setIfInBounds_toArray, List.set_cons_zero, List.set_cons_succ, i64_w, i32_w]; rfl)
                        refine pure_ (i := 10) (N := some 52) (v := undef) (a' := ?_) (bs 50 2047) rfl rfl (any_of HT_.out (by kernel_rfl)) (fun _ _ _ h => h) (Or.inr ⟨by rfl, rfl⟩) ?_ ?_
                        rotate_left; (simp only [Act.put, List.setIfInBounds_toArray, List.set_cons_zero, List.set_cons_succ, i64_w, i32_w]; rfl)
                        refine pure_ (i := 11) (N := some 53) (v := undef) (a' := ?_) (bs 50 4095) rfl rfl (any_of HT_.out (by kernel_rfl)) (fun _ _ _ h => h) (Or.inr ⟨by rfl, rfl⟩) ?_ ?_
                        rotate_left; (simp only [Act.put, List.setIfInBounds_toArray, List.set_cons_zero, List.set_cons_succ, i64_w, i32_w]; rfl)
                        refine pure_ (i := 12) (N := some 54) (v := undef) (a' := ?_) (bs 50 8191) rfl rfl (any_of HT_.out (by kernel_rfl)) (fun _ _ _ h => h) (Or.inr ⟨by rfl, rfl⟩) ?_ ?_
                        rotate_left; (simp only [Act.put, List.setIfInBounds_toArray, List.set_cons_zero, List.set_cons_succ, i64_w, i32_w]; rfl)
                        refine pure_ (i := 13) (N := some 55) (v := undef) (a' := ?_) (bs 50 16383) rfl rfl (any_of HT_.out (by kernel_rfl)) (fun _ _ _ h => h) (Or.inr ⟨by rfl, rfl⟩) ?_ ?_
                        rotate_left; (simp only [Act.put, List.setIfInBounds_toArray, List.set_cons_zero, List.set_cons_succ, i64_w, i32_w]; rfl)
                        refine pure_ (i := 14) (N := some 56) (v := undef) (a' := ?_) (bs 50 32767) rfl rfl (any_of HT_.out (by kernel_rfl)) (fun _ _ _ h => h) (Or.inr ⟨by rfl, rfl⟩) ?_ ?_
                        rotate_left; (simp only [Act.put, List.setIfInBounds_toArray, List.set_cons_zero, List.set_cons_succ, i64_w, i32_w]; rfl)
                        refine pure_ (i := 15) (N := some 57) (v := ?_) (a' := ?_) (bs 50 65535) rfl rfl (any_of HT_.out (by kernel_rfl)) (fun _ _ _ h => h) (Or.inl ⟨by rfl, ?_⟩) ?_ ?_
                        rotate_left; (intro w'; go_simp; with_reducible rfl); rotate_left; (simp only [Act.put, List.setIfInBounds_toArray, List.set_cons_zero, List.set_cons_succ, i64_w, i32_w]; rfl)
                        refine pure_ (i := 16) (N := some 58) (v := ?_) (a' := ?_) (bs 50 131071) rfl rfl (any_of HT_.out (by kernel_rfl)) (fun _ _ _ h => h) (Or.inl ⟨by rfl, ?_⟩) ?_ ?_
                        rotate_left; (intro w'; go_simp; with_reducible rfl); rotate_left; (simp only [Act.put, List.setIfInBounds_toArray, List.set_cons_zero, List.set_cons_succ, i64_w, i32_w]; rfl)
                        refine pure_ (i := 17) (N := some 59) (v := undef) (a' := ?_) (bs 50 262143) rfl rfl (any_of HT_.out (by kernel_rfl)) (fun _ _ _ h => h) (Or.inr ⟨by rfl, rfl⟩) ?_ ?_
                        rotate_left; (simp only [Act.put, List.setIfInBounds_toArray, List.set_cons_zero, List.set_cons_succ, i64_w, i32_w]; rfl)
                        refine pure_ (i := 18) (N := some 60) (v := undef) (a' := ?_) (bs 50 524287) rfl rfl (any_of HT_.out (by kernel_rfl)) (fun _ _ _ h => h) (Or.inr ⟨by rfl, rfl⟩) ?_ ?_
                        rotate_left; (simp only [Act.put, List.setIfInBounds_toArray, List.set_cons_zero, List.set_cons_succ, i64_w, i32_w]; rfl)
                        refine pure_ (i := 19) (N := some 61) (v := undef) (a' := ?_) (bs 50 1048575) rfl rfl (any_of HT_.out (by kernel_rfl)) (fun _ _ _ h => h) (Or.inr ⟨by rfl, rfl⟩) ?_ ?_
                        rotate_left; (simp only [Act.put, List.setIfInBounds_toArray, List.set_cons_zero, List.set_cons_succ, i64_w, i32_w]; rfl)
                        refine pure_ (i := 20) (N := some 62) (v := undef) (a' := ?_) (bs 50 2097151) rfl rfl (any_of HT_.out (by kernel_rfl)) (fun _ _ _ h => h) (Or.inr ⟨by rfl, rfl⟩) ?_ ?_
                        rotate_left; (simp only [Act.put, List.setIfInBounds_toArray, List.set_cons_zero, List.set_cons_succ, i64_w, i32_w]; rfl)
                        refine pure_ (i := 21) (N := some 63) (v := undef) (a' := ?_) (bs 50 4194303) rfl rfl (any_of HT_.out (by kernel_rfl)) (fun _ _ _ h => h) (Or.inr ⟨by rfl, rfl⟩) ?_ ?_
                        rotate_left; (simp only [Act.put, List.setIfInBounds_toArray, List.set_cons_zero, List.set_cons_succ, i64_w, i32_w]; rfl)
                        refine pure_ (i := 22) (N := some 64) (v := undef) (a' := ?_) (bs 50 8388607) rfl rfl (any_of HT_.out (by kernel_rfl)) (fun _ _ _ h => h) (Or.inr ⟨by rfl, rfl⟩) ?_ ?_
                        rotate_left; (simp only [Act.put, List.setIfInBounds_toArray, List.set_cons_zero, List.set_cons_succ, i64_w, i32_w]; rfl)
                        refine pure_ (i := 23) (N := some 65) (v := ?_) (a' := ?_) (bs 50 16777215) rfl rfl (any_of HT_.out (by kernel_rfl)) (fun _ _ _ h => h) (Or.inl ⟨by rfl, ?_⟩) ?_ ?_
                        rotate_left; (intro w'; go_simp; with_reducible rfl); rotate_left; (simp only [Act.put, List.setIfInBounds_toArray, List.set_cons_zero, List.set_cons_succ, i64_w, i32_w]; rfl)
                        refine pure_ (i := 24) (N := some 66) (v := ?_) (a' := ?_) (bs 50 33554431) rfl rfl (any_of HT_.out (by kernel_rfl)) (fun _ _ _ h => h) (Or.inl ⟨by rfl, ?_⟩) ?_ ?_
                        rotate_left; (intro w'; go_simp; with_reducible rfl); rotate_left; (simp only [Act.put, List.setIfInBounds_toArray, List.set_cons_zero, List.set_cons_succ, i64_w, i32_w]; rfl)
                        refine pure_ (i := 25) (N := some 67) (v := undef) (a' := ?_) (bs 50 67108863) rfl rfl (any_of HT_.out (by kernel_rfl)) (fun _ _ _ h => h) (Or.inr ⟨by rfl, rfl⟩) ?_ ?_
                        rotate_left; (simp only [Act.put, List.setIfInBounds_toArray, List.set_cons_zero, List.set_cons_succ, i64_w, i32_w]; rfl)
                        refine pure_ (i := 26) (N := some 68) (v := undef) (a' := ?_) (bs 50 134217727) rfl rfl (any_of HT_.out (by kernel_rfl)) (fun _ _ _ h => h) (Or.inr ⟨by rfl, rfl⟩) ?_ ?_
                        rotate_left; (simp only [Act.put, List.setIfInBounds_toArray, List.set_cons_zero, List.set_cons_succ, i64_w, i32_w]; rfl)
                        refine pure_ (i := 27) (N := some 69) (v := undef) (a' := ?_) (bs 50 268435455) rfl rfl (any_of HT_.out (by kernel_rfl)) (fun _ _ _ h => h) (Or.inr ⟨by rfl, rfl⟩) ?_ ?_
                        rotate_left; (simp only [Act.put, List.setIfInBounds_toArray, List.set_cons_zero, List.set_cons_succ, i64_w, i32_w]; rfl)
                        refine pure_ (i := 28) (N := some 70) (v := undef) (a' := ?_) (bs 50 536870911) rfl rfl (any_of HT_.out (by kernel_rfl)) (fun _ _ _ h => h) (Or.inr ⟨by rfl, rfl⟩) ?_ ?_
                        rotate_left; (simp only [Act.put, List.setIfInBounds_toArray, List.set_cons_zero, List.set_cons_succ, i64_w, i32_w]; rfl)
                        refine pure_ (i := 29) (N := some 71) (v := undef) (a' := ?_) (bs 50 1073741823) rfl rfl (any_of HT_.out (by kernel_rfl)) (fun _ _ _ h => h) (Or.inr ⟨by rfl, rfl⟩) ?_ ?_
                        rotate_left; (simp only [Act.put, List.setIfInBounds_toArray, List.set_cons_zero, List.set_cons_succ, i64_w, i32_w]; rfl)
                        refine pure_ (i := 30) (N := some 72) (v := undef) (a' := ?_) (bs 50 2147483647) rfl rfl (any_of HT_.out (by kernel_rfl)) (fun _ _ _ h => h) (Or.inr ⟨by rfl, rfl⟩) ?_ ?_
                        rotate_left; (simp only [Act.put, List.setIfInBounds_toArray, List.set_cons_zero, List.set_cons_succ, i64_w, i32_w]; rfl)
                        refine pure_ (i := 31) (N := some 73) (v := undef) (a' := ?_) (bs 50 4294967295) rfl rfl (any_of HT_.out (by kernel_rfl)) (fun _ _ _ h => h) (Or.inr ⟨by rfl, rfl⟩) ?_ ?_
                        rotate_left; (simp only [Act.put, List.setIfInBounds_toArray, List.set_cons_zero, List.set_cons_succ, i64_w, i32_w]; rfl)
                        refine pure_ (i := 32) (N := some 74) (v := undef) (a' := ?_) (bs 50 8589934591) rfl rfl (any_of HT_.out (by kernel_rfl)) (fun _ _ _ h => h) (Or.inr ⟨by rfl, rfl⟩) ?_ ?_
                        rotate_left; (simp only [Act.put, List.setIfInBounds_toArray, List.set_cons_zero, List.set_cons_succ, i64_w, i32_w]; rfl)
                        refine pure_ (i := 33) (N := some 75) (v := undef) (a' := ?_) (bs 50 17179869183) rfl rfl (any_of HT_.out (by kernel_rfl)) (fun _ _ _ h => h) (Or.inr ⟨by rfl, rfl⟩) ?_ ?_
                        rotate_left; (simp only [Act.put, List.setIfInBounds_toArray, List.set_cons_zero, List.set_cons_succ, i64_w, i32_w]; rfl)
                        refine pure_ (i := 34) (N := some 76) (v := undef) (a' := ?_) (bs 50 34359738367) rfl rfl (any_of HT_.out (by kernel_rfl)) (fun _ _ _ h => h) (Or.inr ⟨by rfl, rfl⟩) ?_ ?_
                        rotate_left; (simp only [Act.put, List.setIfInBounds_toArray, List.set_cons_zero, List.set_cons_succ, i64_w, i32_w]; rfl)
                        refine pure_ (i := 35) (N := some 77) (v := undef) (a' := ?_) (bs 50 68719476735) rfl rfl (any_of HT_.out (by kernel_rfl)) (fun _ _ _ h => h) (Or.inr ⟨by rfl, rfl⟩) ?_ ?_
                        rotate_left; (simp only [Act.put, List.setIfInBounds_toArray, List.set_cons_zero, List.set_cons_succ, i64_w, i32_w]; rfl)
                        refine pure_ (i := 36) (N := some 78) (v := undef) (a' := ?_) (bs 50 137438953471) rfl rfl (any_of HT_.out (by kernel_rfl)) (fun _ _ _ h => h) (Or.inr ⟨by rfl, rfl⟩) ?_ ?_
                        rotate_left; (simp only [Act.put, List.setIfInBounds_toArray, List.set_cons_zero, List.set_cons_succ, i64_w, i32_w]; rfl)
                        refine pure_ (i := 37) (N := some 79) (v := undef) (a' := ?_) (bs 50 274877906943) rfl rfl (any_of HT_.out (by kernel_rfl)) (fun _ _ _ h => h) (Or.inr ⟨by rfl, rfl⟩) ?_ ?_
                        rotate_left; (simp only [Act.put, List.setIfInBounds_toArray, List.set_cons_zero, List.set_cons_succ, i64_w, i32_w]; rfl)
                        refine pure_ (i := 38) (N := some 80) (v := undef) (a' := ?_) (bs 50 549755813887) rfl rfl (any_of HT_.out (by kernel_rfl)) (fun _ _ _ h => h) (Or.inr ⟨by rfl, rfl⟩) ?_ ?_
                        rotate_left; (simp only [Act.put, List.setIfInBounds_toArray, List.set_cons_zero, List.set_cons_succ, i64_w, i32_w]; rfl)
                        refine pure_ (i := 39) (N := some 81) (v := undef) (a' := ?_) (bs 50 1099511627775) rfl rfl (any_of HT_.out (by kernel_rfl)) (fun _ _ _ h => h) (Or.inr ⟨by rfl, rfl⟩) ?_ ?_
                        rotate_left; (simp only [Act.put, List.setIfInBounds_toArray, List.set_cons_zero, List.set_cons_succ, i64_w, i32_w]; rfl)
                        refine pure_ (i := 40) (N := some 82) (v := ?_) (a' := ?_) (bs 50 2199023255551) rfl rfl (any_of HT_.out (by kernel_rfl)) (fun _ _ _ h => h) (Or.inl ⟨by rfl, ?_⟩) ?_ ?_
                        rotate_left; (intro w'; go_simp; with_reducible rfl); rotate_left; (simp only [Act.put, List.setIfInBounds_toArray, List.set_cons_zero, List.set_cons_succ, i64_w, i32_w]; rfl)
                        refine pure_ (i := 41) (N := some 83) (v := ?_) (a' := ?_) (bs 50 4398046511103) rfl rfl (any_of HT_.out (by kernel_rfl)) (fun _ _ _ h => h) (Or.inl ⟨by rfl, ?_⟩) ?_ ?_
                        rotate_left; (intro w'; go_simp; with_reducible rfl); rotate_left; (simp only [Act.put, List.setIfInBounds_toArray, List.set_cons_zero, List.set_cons_succ, i64_w, i32_w]; rfl)
                        refine pure_ (i := 42) (N := some 84) (v := undef) (a' := ?_) (bs 50 8796093022207) rfl rfl (any_of HT_.out (by kernel_rfl)) (fun _ _ _ h => h) (Or.inr ⟨by rfl, rfl⟩) ?_ ?_
                        rotate_left; (simp only [Act.put, List.setIfInBounds_toArray, List.set_cons_zero, List.set_cons_succ, i64_w, i32_w]; rfl)
                        refine pure_ (i := 43) (N := some 85) (v := undef) (a' := ?_) (bs 50 17592186044415) rfl rfl (any_of HT_.out (by kernel_rfl)) (fun _ _ _ h => h) (Or.inr ⟨by rfl, rfl⟩) ?_ ?_
                        rotate_left; (simp only [Act.put, List.setIfInBounds_toArray, List.set_cons_zero, List.set_cons_succ, i64_w, i32_w]; rfl)
                        refine pure_ (i := 44) (N := some 86) (v := undef) (a' := ?_) (bs 50 35184372088831) rfl rfl (any_of HT_.out (by kernel_rfl)) (fun _ _ _ h => h) (Or.inr ⟨by rfl, rfl⟩) ?_ ?_
                        rotate_left; (simp only [Act.put, List.setIfInBounds_toArray, List.set_cons_zero, List.set_cons_succ, i64_w, i32_w]; rfl)
                        refine pure_ (i := 45) (N := some 87) (v := undef) (a' := ?_) (bs 50 70368744177663) rfl rfl (any_of HT_.out (by kernel_rfl)) (fun _ _ _ h => h) (Or.inr ⟨by rfl, rfl⟩) ?_ ?_
                        rotate_left; (simp only [Act.put, List.setIfInBounds_toArray, List.set_cons_zero, List.set_cons_succ, i64_w, i32_w]; rfl)
                        refine pure_ (i := 46) (N := some 88) (v := undef) (a' := ?_) (bs 50 140737488355327) rfl rfl (any_of HT_.out (by kernel_rfl)) (fun _ _ _ h => h) (Or.inr ⟨by rfl, rfl⟩) ?_ ?_
                        rotate_left; (simp only [Act.put, List.setIfInBounds_toArray, List.set_cons_zero, List.set_cons_succ, i64_w, i32_w]; rfl)
                        refine pure_ (i := 47) (N := some 89) (v := undef) (a' := ?_) (bs 50 281474976710655) rfl rfl (any_of HT_.out (by kernel_rfl)) (fun _ _ _ h => h) (Or.inr ⟨by rfl, rfl⟩) ?_ ?_
                        rotate_left; (simp only [Act.put, List.setIfInBounds_toArray, List.set_cons_zero, List.set_cons_succ, i64_w, i32_w]; rfl)
                        refine pure_ (i := 48) (N := some 90) (v := undef) (a' := ?_) (bs 50 562949953421311) rfl rfl (any_of HT_.out (by kernel_rfl)) (fun _ _ _ h => h) (Or.inr ⟨by rfl, rfl⟩) ?_ ?_
                        rotate_left; (simp only [Act.put, List.setIfInBounds_toArray, List.set_cons_zero, List.set_cons_succ, i64_w, i32_w]; rfl)
                        refine pure_ (i := 49) (N := some 91) (v := ?_) (a' := ?_) (bs 50 1125899906842623) rfl rfl (any_of HT_.out (by kernel_rfl)) (fun _ _ _ h => h) (Or.inl ⟨by rfl, ?_⟩) ?_ ?_
                        rotate_left; (intro w'; go_simp; with_reducible rfl); rotate_left; (simp only [Act.put, List.setIfInBounds_toArray, List.set_cons_zero, List.set_cons_succ, i64_w, i32_w]; rfl)
                        refine done_ (done_of HT_.out (by kernel_rfl)) ?_
                        try go_wp2
                        go_meet
                        case rel => exact ⟨_, (true), (by first | rfl | (simp; done) | (simp [*]; done)), H', ⟨by have := HK1.out; have := HK2.out; first | omega | exact Nat.le_refl _⟩, ⟨by (with_reducible repeat (first | apply Kd.S_alloc | apply Kd.S_drewN | apply Kd.S_drew)); exact HO_6.out⟩, ⟨by (with_reducible repeat (first | apply Kd.S_alloc | apply Kd.S_drewN | apply Kd.S_drew)); exact HO_8.out⟩, ⟨by (with_reducible repeat (first | apply Kd.R_alloc | apply Kd.R_drewN | apply Kd.R_drew)); exact HO_9.out⟩, ⟨by (with_reducible repeat (first | apply Kd.R_alloc | apply Kd.R_drewN | apply Kd.R_drew)); exact HO_364000.out⟩, ⟨by (with_reducible repeat (first | refine blk_drewN ?_ _ | refine blk_drew ?_ | refine blk_alloc ?_ _)); exact BK363.out⟩, ⟨by repeat (first | (with_reducible first | exact HB.out | apply below_alloc | apply pw_below_drewN | apply below_drew1 | refine below_set ?_ GE363.out) | exact HB.out)⟩⟩
                      · rw [if_neg c29] at H
                        have c29b0 : (((rd_L2 t364 x12_2).length : Int) == 0) = false := beq_eq_false_iff_ne.mpr c29
                        have c29b1 : (((rd_L2 t364 x12_2).length : Int) != 0) = true := bne_iff_ne.mpr c29
                        have c29b2 : ¬ ((rd_L2 t364 x12_2) = []) := fun h_ => c29 (by rw [h_]; rfl)
                        by_cases c31 : 0 < ((rd_L2 t364 x12_2).length : Int)
                        · rw [if_pos c31] at H
                          have c31b0 : decide (0 < ((rd_L2 t364 x12_2).length : Int)) = true := decide_eq_true c31
                          have c31b1 : decide (0 < (rd_L2 t364 x12_2).length) = true := decide_eq_true (by omega)
                          clear c31
                          by_cases c32 : (rd (rd_L2 t364 x12_2) 0) ≤ x11_2
                          · rw [if_pos c32] at H
                            have c32b0 : decide ((rd (rd_L2 t364 x12_2) 0) ≤ x11_2) = true := decide_eq_true c32
                            clear c32
                            have H' := Aside0.mk H
                            clear H
                            try go_wp2
                            have n0_ := Aside0.mk (Kd.S_drew HO_6.out)
                            have n1_ := Aside0.mk (Kd.S_drew HO_8.out)
                            have n2_ := Aside0.mk (Kd.R_drew HO_9.out)
                            have n3_ := Aside0.mk (Kd.R_drew HO_364000.out)
                            have n4_ := Aside0.mk (blk_drew BK363.out)
                            have n5_ := Aside0.mk (below_drew1 HB.out)
                            clear HO_6
                            clear HO_8
                            clear HO_9
                            clear HO_364000
                            clear BK363
                            clear HB
                            have HO_6 := n0_
                            have HO_8 := n1_
                            have HO_9 := n2_
                            have HO_364000 := n3_
                            have BK363 := n4_
                            have HB := n5_
                            clear n0_ n1_ n2_ n3_ n4_ n5_
                            have p371 : 0 ≤ (x12_2 : Int) := of_decide_eq_true (by first | (with_reducible assumption) | assumption)
                            have q371 : x12_2 < (t364.length : Int) := of_decide_eq_true (by first | (with_reducible assumption) | assumption)
                            obtain ⟨ad371, A371_0, c371_0, e371, hx371_0, hl371_0, hi371_0⟩ := at_L2 (Kd.S_reads' HO_8.out).2.2 x12_2 p371 q371
                            cases e371
                            obtain ⟨ce371, hce371, hMe371, hcc371⟩ := Kd.S_get HO_8.out [] x12_2 p371 (by first | exact q371 | exact of_decide_eq_true (by first | (with_reducible assumption) | assumption) | (have e_ := (Kd.S_reads' HO_8.out).1; omega))
                            obtain ⟨ve371_0, rfl, ge371_0⟩ := hMe371
                            have hv371_0 := hcc371 0 _ rfl
                            rw [Nat.add_zero, show ((Kd.slice 3 (Kd.int .i64))).sz = 1 from rfl, Nat.mul_one] at hv371_0
                            replace hv371_0 := Option.some.inj (hv371_0.symm.trans hx371_0)
                            rw [hv371_0] at ge371_0
                            have HL371_0 := Aside0.mk (show Kd.R (Kd.int .i64) 3 _ _ _ _ (rd_L2 t364 x12_2) from ge371_0)
                            clear hv371_0 ge371_0
                            clear hcc371 hce371
                            have HR371_0 := Aside0.mk hi371_0
                            have HC371_0 := Aside0.mk hl371_0
                            clear hi371_0 hl371_0
                            replace p371 := eq_true p371
                            replace q371 := eq_true q371
                            have p372 : 0 ≤ (x12_2 : Int) := of_decide_eq_true (by first | (with_reducible assumption) | assumption)
                            have q372 : x12_2 < (t364.length : Int) := of_decide_eq_true (by first | (with_reducible assumption) | assumption)
                            obtain ⟨ad372, A372_0, c372_0, e372, hx372_0, hl372_0, hi372_0⟩ := at_L2 (Kd.S_reads' HO_8.out).2.2 x12_2 p372 q372
                            obtain rfl : ad371 = ad372 := (by injection e372)
                            obtain ⟨ce372, hce372, hMe372, hcc372⟩ := Kd.S_get HO_8.out [] x12_2 p372 (by first | exact q372 | exact of_decide_eq_true (by first | (with_reducible assumption) | assumption) | (have e_ := (Kd.S_reads' HO_8.out).1; omega))
                            obtain ⟨ve372_0, rfl, ge372_0⟩ := hMe372
                            have hv372_0 := hcc372 0 _ rfl
                            rw [Nat.add_zero, show ((Kd.slice 3 (Kd.int .i64))).sz = 1 from rfl, Nat.mul_one] at hv372_0
                            replace hv372_0 := Option.some.inj (hv372_0.symm.trans hx372_0)
                            rw [hv372_0] at ge372_0
                            have HL372_0 := Aside0.mk (show Kd.R (Kd.int .i64) 3 _ _ _ _ (rd_L2 t364 x12_2) from ge372_0)
                            clear hv372_0 ge372_0
                            clear hcc372 hce372
                            have HR372_0 := Aside0.mk hi372_0
                            have HC372_0 := Aside0.mk hl372_0
                            clear hi372_0 hl372_0
                            replace p372 := eq_true p372
                            replace q372 := eq_true q372
                            have ea_ := Option.some.inj (hx371_0.symm.trans hx372_0)
                            injection ea_ with ea_ en_ ec_
                            subst ea_
                            subst ec_
                            clear en_
                            have p373 : 0 ≤ (0 : Int) := (by omega)
                            have q373 : 0 < ((rd_L2 t364 x12_2).length : Int) := of_decide_eq_true (by first | (with_reducible assumption) | assumption)
                            obtain ⟨ad373, e373, hx373_0⟩ := Kd.at_int (by repeat (first | (with_reducible exact HR372_0.out) | (with_reducible refine Kd.C_alloc ?_ _) | (with_reducible refine Kd.C_drewN ?_ _) | (with_reducible refine Kd.C_drew ?_) | exact HR372_0.out)) 0 p373 q373
                            cases e373
                            have qi373 : (0 < (rd_L2 t364 x12_2).length) = True := eq_true (by omega)
                            (try rw [show ((0 : Int)).toNat = 0 from rfl] at hx373_0)
                            (try rw [Addr.add_zero'] at hx373_0)
                            replace p373 := eq_true p373
                            replace q373 := eq_true q373
                            refine start_ (n := 50) (S := fun w' => w'.cell? (ad371.add (x12_2).toNat) = some (.slice (some ad373) (rd_L2 t364 x12_2).length c371_0) ∧ w'.cell? (ad371.add (x12_2).toNat) = some (.slice (some ad373) (rd_L2 t364 x12_2).length c371_0) ∧ w'.cell? ad373 = some (.int .i64 (rd (rd_L2 t364 x12_2) 0))) (ds := []) (bs 50 0) (by kernel_rfl) rfl rfl ⟨hx371_0, hx372_0, hx373_0⟩ (fun hHeld => ?_); refine with_tabW arboristlaw08_GraphParts.tab14 arboristlaw08_GraphParts.bits14 (fun HT_ HW_ => ?_)
                            generalize wr.drew = w33 at HO_6 HO_8 HO_9 HO_364000 BK363 HB HL371_0 HL372_0 HR371_0 HR372_0 hx371_0 hx372_0 hx373_0 hHeld ⊢
                            refine pure_ (i := 0) (N := some 42) (v := ?_) (a' := ?_) (bs 50 1) rfl rfl (any_of HT_.out (by kernel_rfl)) (fun _ _ _ h => h) (Or.inl ⟨by rfl, ?_⟩) ?_ ?_
                            rotate_left; (intro w'; go_simp; with_reducible rfl); rotate_left; (simp only [Act.put, List.setIfInBounds_toArray, List.set_cons_zero, List.set_cons_succ, i64_w, i32_w]; rfl)
                            refine pure_ (i := 1) (N := some 43) (v := ?_) (a' := ?_) (bs 50 3) rfl rfl (any_of HT_.out (by kernel_rfl)) (fun _ _ _ h => h) (Or.inl ⟨by rfl, ?_⟩) ?_ ?_
                            rotate_left; (intro w'; go_simp; with_reducible rfl); rotate_left; (simp only [Act.put, List.setIfInBounds_toArray, List.set_cons_zero, List.set_cons_succ, i64_w, i32_w]; rfl)
                            refine pure_ (i := 2) (N := some 44) (v := ?_) (a' := ?_) (bs 50 7) rfl rfl (any_of HT_.out (by kernel_rfl)) (fun _ _ _ h => h) (Or.inl ⟨by rfl, ?_⟩) ?_ ?_
                            rotate_left; (intro w'; go_simp; with_reducible rfl); rotate_left; (simp only [Act.put, List.setIfInBounds_toArray, List.set_cons_zero, List.set_cons_succ, i64_w, i32_w]; rfl)
                            refine take_ (i := 3) (N := some 45) (v := ?_) (a' := ?_) (bs 50 15) rfl rfl (take_ofW HT_.out HW_.out (by kernel_rfl)) (fun _ _ _ h => h) (Or.inl ⟨by rfl, ?_⟩) hHeld ?_ ?_
                            rotate_left
                            · rintro w' ⟨s0, s1, s2⟩
                              go_simp
                              with_reducible rfl
                            rotate_left; (simp only [Act.put, List.setIfInBounds_toArray, List.set_cons_zero, List.set_cons_succ, i64_w, i32_w]; rfl)
                            refine pure_ (i := 4) (N := some 46) (v := ?_) (a' := ?_) (bs 50 31) rfl rfl (any_of HT_.out (by kernel_rfl)) (fun _ _ _ h => h) (Or.inl ⟨by rfl, ?_⟩) ?_ ?_
                            rotate_left; (intro w'; go_simp; with_reducible rfl); rotate_left; (simp only [Act.put, List.setIfInBounds_toArray, List.set_cons_zero, List.set_cons_succ, i64_w, i32_w]; rfl)
                            refine pure_ (i := 5) (N := some 47) (v := ?_) (a' := ?_) (bs 50 63) rfl rfl (any_of HT_.out (by kernel_rfl)) (fun _ _ _ h => h) (Or.inl ⟨by rfl, ?_⟩) ?_ ?_
                            rotate_left; (intro w'; go_simp; with_reducible rfl); rotate_left; (simp only [Act.put, List.setIfInBounds_toArray, List.set_cons_zero, List.set_cons_succ, i64_w, i32_w]; rfl)
                            refine pure_ (i := 6) (N := some 48) (v := ?_) (a' := ?_) (bs 50 127) rfl rfl (any_of HT_.out (by kernel_rfl)) (fun _ _ _ h => h) (Or.inl ⟨by rfl, ?_⟩) ?_ ?_
                            rotate_left; (intro w'; go_simp; with_reducible rfl); rotate_left; (simp only [Act.put, List.setIfInBounds_toArray, List.set_cons_zero, List.set_cons_succ, i64_w, i32_w]; rfl)
                            refine pure_ (i := 7) (N := some 49) (v := ?_) (a' := ?_) (bs 50 255) rfl rfl (any_of HT_.out (by kernel_rfl)) (fun _ _ _ h => h) (Or.inl ⟨by rfl, ?_⟩) ?_ ?_
                            rotate_left; (intro w'; go_simp; with_reducible rfl); rotate_left; (simp only [Act.put, List.setIfInBounds_toArray, List.set_cons_zero, List.set_cons_succ, i64_w, i32_w]; rfl)
                            refine pure_ (i := 8) (N := some 50) (v := ?_) (a' := ?_) (bs 50 511) rfl rfl (any_of HT_.out (by kernel_rfl)) (fun _ _ _ h => h) (Or.inl ⟨by rfl, ?_⟩) ?_ ?_
                            rotate_left; (intro w'; go_simp; with_reducible rfl); rotate_left; (simp only [Act.put, List.setIfInBounds_toArray, List.set_cons_zero, List.set_cons_succ, i64_w, i32_w]; rfl)
                            refine pure_ (i := 9) (N := some 51) (v := ?_) (a' := ?_) (bs 50 1023) rfl rfl (any_of HT_.out (by kernel_rfl)) (fun _ _ _ h => h) (Or.inl ⟨by rfl, ?_⟩) ?_ ?_
                            rotate_left; (intro w'; go_simp; with_reducible rfl); rotate_left; (simp only [Act.put, List.setIfInBounds_toArray, List.set_cons_zero, List.set_cons_succ, i64_w, i32_w]; rfl)
                            refine pure_ (i := 13) (N := some 55) (v := ?_) (a' := ?_) (bs 50 9215) rfl rfl (any_of HT_.out (by kernel_rfl)) (fun _ _ _ h => h) (Or.inl ⟨by rfl, ?_⟩) ?_ ?_
                            rotate_left; (intro w'; go_simp; with_reducible rfl); rotate_left; (simp only [Act.put, List.setIfInBounds_toArray, List.set_cons_zero, List.set_cons_succ, i64_w, i32_w]; rfl)
                            refine take_ (i := 10) (N := some 52) (v := ?_) (a' := ?_) (bs 50 10239) rfl rfl (take_ofW HT_.out HW_.out (by kernel_rfl)) (fun _ _ _ h => h) (Or.inl ⟨by rfl, ?_⟩) hHeld ?_ ?_
                            rotate_left
                            · rintro w' ⟨s0, s1, s2⟩
                              go_simp
                              with_reducible rfl
                            rotate_left; (simp only [Act.put, List.setIfInBounds_toArray, List.set_cons_zero, List.set_cons_succ, i64_w, i32_w]; rfl)
                            refine pure_ (i := 11) (N := some 53) (v := ?_) (a' := ?_) (bs 50 12287) rfl rfl (any_of HT_.out (by kernel_rfl)) (fun _ _ _ h => h) (Or.inl ⟨by rfl, ?_⟩) ?_ ?_
                            rotate_left; (intro w'; go_simp; with_reducible rfl); rotate_left; (simp only [Act.put, List.setIfInBounds_toArray, List.set_cons_zero, List.set_cons_succ, i64_w, i32_w]; rfl)
                            refine take_ (i := 12) (N := some 54) (v := ?_) (a' := ?_) (bs 50 16383) rfl rfl (take_ofW HT_.out HW_.out (by kernel_rfl)) (fun _ _ _ h => h) (Or.inl ⟨by rfl, ?_⟩) hHeld ?_ ?_
                            rotate_left
                            · rintro w' ⟨s0, s1, s2⟩
                              go_simp
                              with_reducible rfl
                            rotate_left; (simp only [Act.put, List.setIfInBounds_toArray, List.set_cons_zero, List.set_cons_succ, i64_w, i32_w]; rfl)
                            refine pure_ (i := 14) (N := some 56) (v := ?_) (a' := ?_) (bs 50 32767) rfl rfl (any_of HT_.out (by kernel_rfl)) (fun _ _ _ h => h) (Or.inl ⟨by rfl, ?_⟩) ?_ ?_
                            rotate_left; (intro w'; go_simp; with_reducible rfl); rotate_left; (simp only [Act.put, List.setIfInBounds_toArray, List.set_cons_zero, List.set_cons_succ, i64_w, i32_w]; rfl)
                            refine pure_ (i := 15) (N := some 57) (v := ?_) (a' := ?_) (bs 50 65535) rfl rfl (any_of HT_.out (by kernel_rfl)) (fun _ _ _ h => h) (Or.inl ⟨by rfl, ?_⟩) ?_ ?_
                            rotate_left; (intro w'; go_simp; with_reducible rfl); rotate_left; (simp only [Act.put, List.setIfInBounds_toArray, List.set_cons_zero, List.set_cons_succ, i64_w, i32_w]; rfl)
                            refine pure_ (i := 16) (N := some 58) (v := ?_) (a' := ?_) (bs 50 131071) rfl rfl (any_of HT_.out (by kernel_rfl)) (fun _ _ _ h => h) (Or.inl ⟨by rfl, ?_⟩) ?_ ?_
                            rotate_left; (intro w'; go_simp; with_reducible rfl); rotate_left; (simp only [Act.put, List.setIfInBounds_toArray, List.set_cons_zero, List.set_cons_succ, i64_w, i32_w]; rfl)
                            refine pure_ (i := 17) (N := some 59) (v := undef) (a' := ?_) (bs 50 262143) rfl rfl (any_of HT_.out (by kernel_rfl)) (fun _ _ _ h => h) (Or.inr ⟨by rfl, rfl⟩) ?_ ?_
                            rotate_left; (simp only [Act.put, List.setIfInBounds_toArray, List.set_cons_zero, List.set_cons_succ, i64_w, i32_w]; rfl)
                            refine pure_ (i := 18) (N := some 60) (v := undef) (a' := ?_) (bs 50 524287) rfl rfl (any_of HT_.out (by kernel_rfl)) (fun _ _ _ h => h) (Or.inr ⟨by rfl, rfl⟩) ?_ ?_
                            rotate_left; (simp only [Act.put, List.setIfInBounds_toArray, List.set_cons_zero, List.set_cons_succ, i64_w, i32_w]; rfl)
                            refine pure_ (i := 19) (N := some 61) (v := undef) (a' := ?_) (bs 50 1048575) rfl rfl (any_of HT_.out (by kernel_rfl)) (fun _ _ _ h => h) (Or.inr ⟨by rfl, rfl⟩) ?_ ?_
                            rotate_left; (simp only [Act.put, List.setIfInBounds_toArray, List.set_cons_zero, List.set_cons_succ, i64_w, i32_w]; rfl)
                            refine pure_ (i := 20) (N := some 62) (v := undef) (a' := ?_) (bs 50 2097151) rfl rfl (any_of HT_.out (by kernel_rfl)) (fun _ _ _ h => h) (Or.inr ⟨by rfl, rfl⟩) ?_ ?_
                            rotate_left; (simp only [Act.put, List.setIfInBounds_toArray, List.set_cons_zero, List.set_cons_succ, i64_w, i32_w]; rfl)
                            refine pure_ (i := 21) (N := some 63) (v := undef) (a' := ?_) (bs 50 4194303) rfl rfl (any_of HT_.out (by kernel_rfl)) (fun _ _ _ h => h) (Or.inr ⟨by rfl, rfl⟩) ?_ ?_
                            rotate_left; (simp only [Act.put, List.setIfInBounds_toArray, List.set_cons_zero, List.set_cons_succ, i64_w, i32_w]; rfl)
                            refine pure_ (i := 22) (N := some 64) (v := undef) (a' := ?_) (bs 50 8388607) rfl rfl (any_of HT_.out (by kernel_rfl)) (fun _ _ _ h => h) (Or.inr ⟨by rfl, rfl⟩) ?_ ?_
                            rotate_left; (simp only [Act.put, List.setIfInBounds_toArray, List.set_cons_zero, List.set_cons_succ, i64_w, i32_w]; rfl)
                            refine pure_ (i := 23) (N := some 65) (v := ?_) (a' := ?_) (bs 50 16777215) rfl rfl (any_of HT_.out (by kernel_rfl)) (fun _ _ _ h => h) (Or.inl ⟨by rfl, ?_⟩) ?_ ?_
                            rotate_left; (intro w'; go_simp; with_reducible rfl); rotate_left; (simp only [Act.put, List.setIfInBounds_toArray, List.set_cons_zero, List.set_cons_succ, i64_w, i32_w]; rfl)
                            refine pure_ (i := 24) (N := some 66) (v := ?_) (a' := ?_) (bs 50 33554431) rfl rfl (any_of HT_.out (by kernel_rfl)) (fun _ _ _ h => h) (Or.inl ⟨by rfl, ?_⟩) ?_ ?_
                            rotate_left; (intro w'; go_simp; with_reducible rfl); rotate_left; (simp only [Act.put, List.setIfInBounds_toArray, List.set_cons_zero, List.set_cons_succ, i64_w, i32_w]; rfl)
                            refine pure_ (i := 25) (N := some 67) (v := undef) (a' := ?_) (bs 50 67108863) rfl rfl (any_of HT_.out (by kernel_rfl)) (fun _ _ _ h => h) (Or.inr ⟨by rfl, rfl⟩) ?_ ?_
                            rotate_left; (simp only [Act.put, List.setIfInBounds_toArray, List.set_cons_zero, List.set_cons_succ, i64_w, i32_w]; rfl)
                            refine pure_ (i := 26) (N := some 68) (v := undef) (a' := ?_) (bs 50 134217727) rfl rfl (any_of HT_.out (by kernel_rfl)) (fun _ _ _ h => h) (Or.inr ⟨by rfl, rfl⟩) ?_ ?_
                            rotate_left; (simp only [Act.put, List.setIfInBounds_toArray, List.set_cons_zero, List.set_cons_succ, i64_w, i32_w]; rfl)
                            refine pure_ (i := 27) (N := some 69) (v := undef) (a' := ?_) (bs 50 268435455) rfl rfl (any_of HT_.out (by kernel_rfl)) (fun _ _ _ h => h) (Or.inr ⟨by rfl, rfl⟩) ?_ ?_
                            rotate_left; (simp only [Act.put, List.setIfInBounds_toArray, List.set_cons_zero, List.set_cons_succ, i64_w, i32_w]; rfl)
                            refine pure_ (i := 28) (N := some 70) (v := undef) (a' := ?_) (bs 50 536870911) rfl rfl (any_of HT_.out (by kernel_rfl)) (fun _ _ _ h => h) (Or.inr ⟨by rfl, rfl⟩) ?_ ?_
                            rotate_left; (simp only [Act.put, List.setIfInBounds_toArray, List.set_cons_zero, List.set_cons_succ, i64_w, i32_w]; rfl)
                            refine pure_ (i := 29) (N := some 71) (v := undef) (a' := ?_) (bs 50 1073741823) rfl rfl (any_of HT_.out (by kernel_rfl)) (fun _ _ _ h => h) (Or.inr ⟨by rfl, rfl⟩) ?_ ?_
                            rotate_left; (simp only [Act.put, List.setIfInBounds_toArray, List.set_cons_zero, List.set_cons_succ, i64_w, i32_w]; rfl)
                            refine pure_ (i := 30) (N := some 72) (v := undef) (a' := ?_) (bs 50 2147483647) rfl rfl (any_of HT_.out (by kernel_rfl)) (fun _ _ _ h => h) (Or.inr ⟨by rfl, rfl⟩) ?_ ?_
                            rotate_left; (simp only [Act.put, List.setIfInBounds_toArray, List.set_cons_zero, List.set_cons_succ, i64_w, i32_w]; rfl)
                            refine pure_ (i := 31) (N := some 73) (v := undef) (a' := ?_) (bs 50 4294967295) rfl rfl (any_of HT_.out (by kernel_rfl)) (fun _ _ _ h => h) (Or.inr ⟨by rfl, rfl⟩) ?_ ?_
                            rotate_left; (simp only [Act.put, List.setIfInBounds_toArray, List.set_cons_zero, List.set_cons_succ, i64_w, i32_w]; rfl)
                            refine pure_ (i := 32) (N := some 74) (v := undef) (a' := ?_) (bs 50 8589934591) rfl rfl (any_of HT_.out (by kernel_rfl)) (fun _ _ _ h => h) (Or.inr ⟨by rfl, rfl⟩) ?_ ?_
                            rotate_left; (simp only [Act.put, List.setIfInBounds_toArray, List.set_cons_zero, List.set_cons_succ, i64_w, i32_w]; rfl)
                            refine pure_ (i := 33) (N := some 75) (v := undef) (a' := ?_) (bs 50 17179869183) rfl rfl (any_of HT_.out (by kernel_rfl)) (fun _ _ _ h => h) (Or.inr ⟨by rfl, rfl⟩) ?_ ?_
                            rotate_left; (simp only [Act.put, List.setIfInBounds_toArray, List.set_cons_zero, List.set_cons_succ, i64_w, i32_w]; rfl)
                            refine pure_ (i := 34) (N := some 76) (v := undef) (a' := ?_) (bs 50 34359738367) rfl rfl (any_of HT_.out (by kernel_rfl)) (fun _ _ _ h => h) (Or.inr ⟨by rfl, rfl⟩) ?_ ?_
                            rotate_left; (simp only [Act.put, List.setIfInBounds_toArray, List.set_cons_zero, List.set_cons_succ, i64_w, i32_w]; rfl)
                            refine pure_ (i := 35) (N := some 77) (v := undef) (a' := ?_) (bs 50 68719476735) rfl rfl (any_of HT_.out (by kernel_rfl)) (fun _ _ _ h => h) (Or.inr ⟨by rfl, rfl⟩) ?_ ?_
                            rotate_left; (simp only [Act.put, List.setIfInBounds_toArray, List.set_cons_zero, List.set_cons_succ, i64_w, i32_w]; rfl)
                            refine pure_ (i := 36) (N := some 78) (v := undef) (a' := ?_) (bs 50 137438953471) rfl rfl (any_of HT_.out (by kernel_rfl)) (fun _ _ _ h => h) (Or.inr ⟨by rfl, rfl⟩) ?_ ?_
                            rotate_left; (simp only [Act.put, List.setIfInBounds_toArray, List.set_cons_zero, List.set_cons_succ, i64_w, i32_w]; rfl)
                            refine pure_ (i := 37) (N := some 79) (v := undef) (a' := ?_) (bs 50 274877906943) rfl rfl (any_of HT_.out (by kernel_rfl)) (fun _ _ _ h => h) (Or.inr ⟨by rfl, rfl⟩) ?_ ?_
                            rotate_left; (simp only [Act.put, List.setIfInBounds_toArray, List.set_cons_zero, List.set_cons_succ, i64_w, i32_w]; rfl)
                            refine pure_ (i := 38) (N := some 80) (v := undef) (a' := ?_) (bs 50 549755813887) rfl rfl (any_of HT_.out (by kernel_rfl)) (fun _ _ _ h => h) (Or.inr ⟨by rfl, rfl⟩) ?_ ?_
                            rotate_left; (simp only [Act.put, List.setIfInBounds_toArray, List.set_cons_zero, List.set_cons_succ, i64_w, i32_w]; rfl)
                            refine pure_ (i := 39) (N := some 81) (v := undef) (a' := ?_) (bs 50 1099511627775) rfl rfl (any_of HT_.out (by kernel_rfl)) (fun _ _ _ h => h) (Or.inr ⟨by rfl, rfl⟩) ?_ ?_
                            rotate_left; (simp only [Act.put, List.setIfInBounds_toArray, List.set_cons_zero, List.set_cons_succ, i64_w, i32_w]; rfl)
                            refine pure_ (i := 40) (N := some 82) (v := ?_) (a' := ?_) (bs 50 2199023255551) rfl rfl (any_of HT_.out (by kernel_rfl)) (fun _ _ _ h => h) (Or.inl ⟨by rfl, ?_⟩) ?_ ?_
                            rotate_left; (intro w'; go_simp; with_reducible rfl); rotate_left; (simp only [Act.put, List.setIfInBounds_toArray, List.set_cons_zero, List.set_cons_succ, i64_w, i32_w]; rfl)
                            refine pure_ (i := 41) (N := some 83) (v := ?_) (a' := ?_) (bs 50 4398046511103) rfl rfl (any_of HT_.out (by kernel_rfl)) (fun _ _ _ h => h) (Or.inl ⟨by rfl, ?_⟩) ?_ ?_
                            rotate_left; (intro w'; go_simp; with_reducible rfl); rotate_left; (simp only [Act.put, List.setIfInBounds_toArray, List.set_cons_zero, List.set_cons_succ, i64_w, i32_w]; rfl)
                            refine pure_ (i := 42) (N := some 84) (v := undef) (a' := ?_) (bs 50 8796093022207) rfl rfl (any_of HT_.out (by kernel_rfl)) (fun _ _ _ h => h) (Or.inr ⟨by rfl, rfl⟩) ?_ ?_
                            rotate_left; (simp only [Act.put, List.setIfInBounds_toArray, List.set_cons_zero, List.set_cons_succ, i64_w, i32_w]; rfl)
                            refine pure_ (i := 43) (N := some 85) (v := undef) (a' := ?_) (bs 50 17592186044415) rfl rfl (any_of HT_.out (by kernel_rfl)) (fun _ _ _ h => h) (Or.inr ⟨by rfl, rfl⟩) ?_ ?_
                            rotate_left; (simp only [Act.put, List.setIfInBounds_toArray, List.set_cons_zero, List.set_cons_succ, i64_w, i32_w]; rfl)
                            refine pure_ (i := 44) (N := some 86) (v := undef) (a' := ?_) (bs 50 35184372088831) rfl rfl (any_of HT_.out (by kernel_rfl)) (fun _ _ _ h => h) (Or.inr ⟨by rfl, rfl⟩) ?_ ?_
                            rotate_left; (simp only [Act.put, List.setIfInBounds_toArray, List.set_cons_zero, List.set_cons_succ, i64_w, i32_w]; rfl)
                            refine pure_ (i := 45) (N := some 87) (v := undef) (a' := ?_) (bs 50 70368744177663) rfl rfl (any_of HT_.out (by kernel_rfl)) (fun _ _ _ h => h) (Or.inr ⟨by rfl, rfl⟩) ?_ ?_
                            rotate_left; (simp only [Act.put, List.setIfInBounds_toArray, List.set_cons_zero, List.set_cons_succ, i64_w, i32_w]; rfl)
                            refine pure_ (i := 46) (N := some 88) (v := undef) (a' := ?_) (bs 50 140737488355327) rfl rfl (any_of HT_.out (by kernel_rfl)) (fun _ _ _ h => h) (Or.inr ⟨by rfl, rfl⟩) ?_ ?_
                            rotate_left; (simp only [Act.put, List.setIfInBounds_toArray, List.set_cons_zero, List.set_cons_succ, i64_w, i32_w]; rfl)
                            refine pure_ (i := 47) (N := some 89) (v := undef) (a' := ?_) (bs 50 281474976710655) rfl rfl (any_of HT_.out (by kernel_rfl)) (fun _ _ _ h => h) (Or.inr ⟨by rfl, rfl⟩) ?_ ?_
                            rotate_left; (simp only [Act.put, List.setIfInBounds_toArray, List.set_cons_zero, List.set_cons_succ, i64_w, i32_w]; rfl)
                            refine pure_ (i := 48) (N := some 90) (v := undef) (a' := ?_) (bs 50 562949953421311) rfl rfl (any_of HT_.out (by kernel_rfl)) (fun _ _ _ h => h) (Or.inr ⟨by rfl, rfl⟩) ?_ ?_
                            rotate_left; (simp only [Act.put, List.setIfInBounds_toArray, List.set_cons_zero, List.set_cons_succ, i64_w, i32_w]; rfl)
                            refine pure_ (i := 49) (N := some 91) (v := ?_) (a' := ?_) (bs 50 1125899906842623) rfl rfl (any_of HT_.out (by kernel_rfl)) (fun _ _ _ h => h) (Or.inl ⟨by rfl, ?_⟩) ?_ ?_
                            rotate_left; (intro w'; go_simp; with_reducible rfl); rotate_left; (simp only [Act.put, List.setIfInBounds_toArray, List.set_cons_zero, List.set_cons_succ, i64_w, i32_w]; rfl)
                            refine done_ (done_of HT_.out (by kernel_rfl)) ?_
                            try go_wp2
                            go_meet
                            case rel => exact ⟨_, (true), (by first | rfl | (simp; done) | (simp [*]; done)), H', ⟨by have := HK1.out; have := HK2.out; first | omega | exact Nat.le_refl _⟩, ⟨by (with_reducible repeat (first | apply Kd.S_alloc | apply Kd.S_drewN | apply Kd.S_drew)); exact HO_6.out⟩, ⟨by (with_reducible repeat (first | apply Kd.S_alloc | apply Kd.S_drewN | apply Kd.S_drew)); exact HO_8.out⟩, ⟨by (with_reducible repeat (first | apply Kd.R_alloc | apply Kd.R_drewN | apply Kd.R_drew)); exact HO_9.out⟩, ⟨by (with_reducible repeat (first | apply Kd.R_alloc | apply Kd.R_drewN | apply Kd.R_drew)); exact HO_364000.out⟩, ⟨by (with_reducible repeat (first | refine blk_drewN ?_ _ | refine blk_drew ?_ | refine blk_alloc ?_ _)); exact BK363.out⟩, ⟨by repeat (first | (with_reducible first | exact HB.out | apply below_alloc | apply pw_below_drewN | apply below_drew1 | refine below_set ?_ GE363.out) | exact HB.out)⟩⟩
                          · rw [if_neg c32] at H
                            have c32b0 : decide ((rd (rd_L2 t364 x12_2) 0) ≤ x11_2) = false := decide_eq_false c32
                            clear c32
                            replace H := Option.bind_eq_some_iff.mp H
                            obtain ⟨t375, A340, H⟩ := H
                            replace H : (if t375 = true then (if 0 ≤ (wrap64 (((rd_L2 t364 x12_2).length : Int) - 1)) then (if (wrap64 (((rd_L2 t364 x12_2).length : Int) - 1)) < ((rd_L2 t364 x12_2).length : Int) then (if (rd (rd_L2 t364 x12_2) (wrap64 (((rd_L2 t364 x12_2).length : Int) - 1))) ≥ (t357.length : Int) then (arboristlaw08_GraphParts.j2 k2 t356 t357 t364 x9_2 x12_2 true t360) else (arboristlaw08_GraphParts.j2 k2 t356 t357 t364 x9_2 x12_2 (decide ((rd (rd_L2 t364 x12_2) 0) < 0)) t360)) else (none)) else (none)) else (arboristlaw08_GraphParts.j2 k2 t356 t357 t364 x9_2 x12_2 true t360)) = some r := H
                            have A34 := Aside0.mk A340
                            clear A340
                            by_cases c35 : t375 = true
                            · subst c35
                              have H1 : (if 0 ≤ (wrap64 (((rd_L2 t364 x12_2).length : Int) - 1)) then (if (wrap64 (((rd_L2 t364 x12_2).length : Int) - 1)) < ((rd_L2 t364 x12_2).length : Int) then (if (rd (rd_L2 t364 x12_2) (wrap64 (((rd_L2 t364 x12_2).length : Int) - 1))) ≥ (t357.length : Int) then (arboristlaw08_GraphParts.j2 k2 t356 t357 t364 x9_2 x12_2 true t360) else (arboristlaw08_GraphParts.j2 k2 t356 t357 t364 x9_2 x12_2 (decide ((rd (rd_L2 t364 x12_2) 0) < 0)) t360)) else (none)) else (none)) = some r := by rw [if_pos rfl] at H; exact H
                              clear H
                              have H := H1
                              clear H1
                              obtain ⟨ji36, hji36⟩ : ∃ j_ : Int, (wrap64 (((rd_L2 t364 x12_2).length : Int) - 1)) = j_ := ⟨_, rfl⟩
                              replace H : (if 0 ≤ (ji36) then (if (ji36) < ((rd_L2 t364 x12_2).length : Int) then (if (rd (rd_L2 t364 x12_2) (ji36)) ≥ (t357.length : Int) then (arboristlaw08_GraphParts.j2 k2 t356 t357 t364 x9_2 x12_2 true t360) else (arboristlaw08_GraphParts.j2 k2 t356 t357 t364 x9_2 x12_2 (decide ((rd (rd_L2 t364 x12_2) 0) < 0)) t360)) else (none)) else (none)) = some r := by first | (rw [hji36] at H; exact H) | (simp only [hji36] at H ⊢; exact H)
                              (try rw [hji36] at A34)
                              have hji36w : (IntKind.i64.wrap (((rd_L2 t364 x12_2).length : Int) - 1)) = ji36 := (i64_w _).trans hji36
                              by_cases c37 : 0 ≤ (ji36)
                              · rw [if_pos c37] at H
                                have c37b0 : decide (0 ≤ (ji36)) = true := decide_eq_true c37
                                clear c37
                                by_cases c38 : (ji36) < ((rd_L2 t364 x12_2).length : Int)
                                · rw [if_pos c38] at H
                                  have c38b0 : decide ((ji36) < ((rd_L2 t364 x12_2).length : Int)) = true := decide_eq_true c38
                                  clear c38
                                  by_cases c39 : (rd (rd_L2 t364 x12_2) (ji36)) ≥ (t357.length : Int)
                                  · rw [if_pos c39] at H
                                    have c39b0 : decide ((t357.length : Int) ≤ (rd (rd_L2 t364 x12_2) (ji36))) = true := decide_eq_true c39
                                    clear c39
                                    have H' := Aside0.mk H
                                    clear H
                                    try go_wp2
                                    have n0_ := Aside0.mk (Kd.S_drew HO_6.out)
                                    have n1_ := Aside0.mk (Kd.S_drew HO_8.out)
                                    have n2_ := Aside0.mk (Kd.R_drew HO_9.out)
                                    have n3_ := Aside0.mk (Kd.R_drew HO_364000.out)
                                    have n4_ := Aside0.mk (blk_drew BK363.out)
                                    have n5_ := Aside0.mk (below_drew1 HB.out)
                                    clear HO_6
                                    clear HO_8
                                    clear HO_9
                                    clear HO_364000
                                    clear BK363
                                    clear HB
                                    have HO_6 := n0_
                                    have HO_8 := n1_
                                    have HO_9 := n2_
                                    have HO_364000 := n3_
                                    have BK363 := n4_
                                    have HB := n5_
                                    clear n0_ n1_ n2_ n3_ n4_ n5_
                                    have p371 : 0 ≤ (x12_2 : Int) := of_decide_eq_true (by first | (with_reducible assumption) | assumption)
                                    have q371 : x12_2 < (t364.length : Int) := of_decide_eq_true (by first | (with_reducible assumption) | assumption)
                                    obtain ⟨ad371, A371_0, c371_0, e371, hx371_0, hl371_0, hi371_0⟩ := at_L2 (Kd.S_reads' HO_8.out).2.2 x12_2 p371 q371
                                    cases e371
                                    obtain ⟨ce371, hce371, hMe371, hcc371⟩ := Kd.S_get HO_8.out [] x12_2 p371 (by first | exact q371 | exact of_decide_eq_true (by first | (with_reducible assumption) | assumption) | (have e_ := (Kd.S_reads' HO_8.out).1; omega))
                                    obtain ⟨ve371_0, rfl, ge371_0⟩ := hMe371
                                    have hv371_0 := hcc371 0 _ rfl
                                    rw [Nat.add_zero, show ((Kd.slice 3 (Kd.int .i64))).sz = 1 from rfl, Nat.mul_one] at hv371_0
                                    replace hv371_0 := Option.some.inj (hv371_0.symm.trans hx371_0)
                                    rw [hv371_0] at ge371_0
                                    have HL371_0 := Aside0.mk (show Kd.R (Kd.int .i64) 3 _ _ _ _ (rd_L2 t364 x12_2) from ge371_0)
                                    clear hv371_0 ge371_0
                                    clear hcc371 hce371
                                    have HR371_0 := Aside0.mk hi371_0
                                    have HC371_0 := Aside0.mk hl371_0
                                    clear hi371_0 hl371_0
                                    replace p371 := eq_true p371
                                    replace q371 := eq_true q371
                                    have p372 : 0 ≤ (x12_2 : Int) := of_decide_eq_true (by first | (with_reducible assumption) | assumption)
                                    have q372 : x12_2 < (t364.length : Int) := of_decide_eq_true (by first | (with_reducible assumption) | assumption)
                                    obtain ⟨ad372, A372_0, c372_0, e372, hx372_0, hl372_0, hi372_0⟩ := at_L2 (Kd.S_reads' HO_8.out).2.2 x12_2 p372 q372
                                    obtain rfl : ad371 = ad372 := (by injection e372)
                                    obtain ⟨ce372, hce372, hMe372, hcc372⟩ := Kd.S_get HO_8.out [] x12_2 p372 (by first | exact q372 | exact of_decide_eq_true (by first | (with_reducible assumption) | assumption) | (have e_ := (Kd.S_reads' HO_8.out).1; omega))
                                    obtain ⟨ve372_0, rfl, ge372_0⟩ := hMe372
                                    have hv372_0 := hcc372 0 _ rfl
                                    rw [Nat.add_zero, show ((Kd.slice 3 (Kd.int .i64))).sz = 1 from rfl, Nat.mul_one] at hv372_0
                                    replace hv372_0 := Option.some.inj (hv372_0.symm.trans hx372_0)
                                    rw [hv372_0] at ge372_0
                                    have HL372_0 := Aside0.mk (show Kd.R (Kd.int .i64) 3 _ _ _ _ (rd_L2 t364 x12_2) from ge372_0)
                                    clear hv372_0 ge372_0
                                    clear hcc372 hce372
                                    have HR372_0 := Aside0.mk hi372_0
                                    have HC372_0 := Aside0.mk hl372_0
                                    clear hi372_0 hl372_0
                                    replace p372 := eq_true p372
                                    replace q372 := eq_true q372
                                    have ea_ := Option.some.inj (hx371_0.symm.trans hx372_0)
                                    injection ea_ with ea_ en_ ec_
                                    subst ea_
                                    subst ec_
                                    clear en_
                                    have p373 : 0 ≤ (0 : Int) := (by omega)
                                    have q373 : 0 < ((rd_L2 t364 x12_2).length : Int) := of_decide_eq_true (by first | (with_reducible assumption) | assumption)
                                    obtain ⟨ad373, e373, hx373_0⟩ := Kd.at_int (by repeat (first | (with_reducible exact HR372_0.out) | (with_reducible refine Kd.C_alloc ?_ _) | (with_reducible refine Kd.C_drewN ?_ _) | (with_reducible refine Kd.C_drew ?_) | exact HR372_0.out)) 0 p373 q373
                                    cases e373
                                    have qi373 : (0 < (rd_L2 t364 x12_2).length) = True := eq_true (by omega)
                                    (try rw [show ((0 : Int)).toNat = 0 from rfl] at hx373_0)
                                    (try rw [Addr.add_zero'] at hx373_0)
                                    replace p373 := eq_true p373
                                    replace q373 := eq_true q373
                                    have p374 : 0 ≤ (x12_2 : Int) := of_decide_eq_true (by first | (with_reducible assumption) | assumption)
                                    have q374 : x12_2 < (t364.length : Int) := of_decide_eq_true (by first | (with_reducible assumption) | assumption)
                                    obtain ⟨ad374, A374_0, c374_0, e374, hx374_0, hl374_0, hi374_0⟩ := at_L2 (Kd.S_reads' HO_8.out).2.2 x12_2 p374 q374
                                    obtain rfl : ad371 = ad374 := (by injection e374)
                                    obtain ⟨ce374, hce374, hMe374, hcc374⟩ := Kd.S_get HO_8.out [] x12_2 p374 (by first | exact q374 | exact of_decide_eq_true (by first | (with_reducible assumption) | assumption) | (have e_ := (Kd.S_reads' HO_8.out).1; omega))
                                    obtain ⟨ve374_0, rfl, ge374_0⟩ := hMe374
                                    have hv374_0 := hcc374 0 _ rfl
                                    rw [Nat.add_zero, show ((Kd.slice 3 (Kd.int .i64))).sz = 1 from rfl, Nat.mul_one] at hv374_0
                                    replace hv374_0 := Option.some.inj (hv374_0.symm.trans hx374_0)
                                    rw [hv374_0] at ge374_0
                                    have HL374_0 := Aside0.mk (show Kd.R (Kd.int .i64) 3 _ _ _ _ (rd_L2 t364 x12_2) from ge374_0)
                                    clear hv374_0 ge374_0
                                    clear hcc374 hce374
                                    have HR374_0 := Aside0.mk hi374_0
                                    have HC374_0 := Aside0.mk hl374_0
                                    clear hi374_0 hl374_0
                                    replace p374 := eq_true p374
                                    replace q374 := eq_true q374
                                    have ea_ := Option.some.inj (hx371_0.symm.trans hx374_0)
                                    injection ea_ with ea_ en_ ec_
                                    subst ea_
                                    subst ec_
                                    clear en_
                                    have p376 : 0 ≤ (x12_2 : Int) := of_decide_eq_true (by first | (with_reducible assumption) | assumption)
                                    have q376 : x12_2 < (t364.length : Int) := of_decide_eq_true (by first | (with_reducible assumption) | assumption)
                                    obtain ⟨ad376, A376_0, c376_0, e376, hx376_0, hl376_0, hi376_0⟩ := at_L2 (Kd.S_reads' HO_8.out).2.2 x12_2 p376 q376
                                    obtain rfl : ad371 = ad376 := (by injection e376)
                                    obtain ⟨ce376, hce376, hMe376, hcc376⟩ := Kd.S_get HO_8.out [] x12_2 p376 (by first | exact q376 | exact of_decide_eq_true (by first | (with_reducible assumption) | assumption) | (have e_ := (Kd.S_reads' HO_8.out).1; omega))
                                    obtain ⟨ve376_0, rfl, ge376_0⟩ := hMe376
                                    have hv376_0 := hcc376 0 _ rfl
                                    rw [Nat.add_zero, show ((Kd.slice 3 (Kd.int .i64))).sz = 1 from rfl, Nat.mul_one] at hv376_0
                                    replace hv376_0 := Option.some.inj (hv376_0.symm.trans hx376_0)
                                    rw [hv376_0] at ge376_0
                                    have HL376_0 := Aside0.mk (show Kd.R (Kd.int .i64) 3 _ _ _ _ (rd_L2 t364 x12_2) from ge376_0)
                                    clear hv376_0 ge376_0
                                    clear hcc376 hce376
                                    have HR376_0 := Aside0.mk hi376_0
                                    have HC376_0 := Aside0.mk hl376_0
                                    clear hi376_0 hl376_0
                                    replace p376 := eq_true p376
                                    replace q376 := eq_true q376
                                    have ea_ := Option.some.inj (hx371_0.symm.trans hx376_0)
                                    injection ea_ with ea_ en_ ec_
                                    subst ea_
                                    subst ec_
                                    clear en_
                                    have p377 : 0 ≤ (x12_2 : Int) := of_decide_eq_true (by first | (with_reducible assumption) | assumption)
                                    have q377 : x12_2 < (t364.length : Int) := of_decide_eq_true (by first | (with_reducible assumption) | assumption)
                                    obtain ⟨ad377, A377_0, c377_0, e377, hx377_0, hl377_0, hi377_0⟩ := at_L2 (Kd.S_reads' HO_8.out).2.2 x12_2 p377 q377
                                    obtain rfl : ad371 = ad377 := (by injection e377)
                                    obtain ⟨ce377, hce377, hMe377, hcc377⟩ := Kd.S_get HO_8.out [] x12_2 p377 (by first | exact q377 | exact of_decide_eq_true (by first | (with_reducible assumption) | assumption) | (have e_ := (Kd.S_reads' HO_8.out).1; omega))
                                    obtain ⟨ve377_0, rfl, ge377_0⟩ := hMe377
                                    have hv377_0 := hcc377 0 _ rfl
                                    rw [Nat.add_zero, show ((Kd.slice 3 (Kd.int .i64))).sz = 1 from rfl, Nat.mul_one] at hv377_0
                                    replace hv377_0 := Option.some.inj (hv377_0.symm.trans hx377_0)
                                    rw [hv377_0] at ge377_0
                                    have HL377_0 := Aside0.mk (show Kd.R (Kd.int .i64) 3 _ _ _ _ (rd_L2 t364 x12_2) from ge377_0)
                                    clear hv377_0 ge377_0
                                    clear hcc377 hce377
                                    have HR377_0 := Aside0.mk hi377_0
                                    have HC377_0 := Aside0.mk hl377_0
                                    clear hi377_0 hl377_0
                                    replace p377 := eq_true p377
                                    replace q377 := eq_true q377
                                    have ea_ := Option.some.inj (hx371_0.symm.trans hx377_0)
                                    injection ea_ with ea_ en_ ec_
                                    subst ea_
                                    subst ec_
                                    clear en_
                                    have p378 : 0 ≤ ((ji36) : Int) := of_decide_eq_true (by first | (with_reducible assumption) | assumption)
                                    have q378 : (ji36) < ((rd_L2 t364 x12_2).length : Int) := of_decide_eq_true (by first | (with_reducible assumption) | assumption)
                                    obtain ⟨ad378, e378, hx378_0⟩ := Kd.at_int (by repeat (first | (with_reducible exact HR376_0.out) | (with_reducible refine Kd.C_alloc ?_ _) | (with_reducible refine Kd.C_drewN ?_ _) | (with_reducible refine Kd.C_drew ?_) | exact HR376_0.out)) (ji36) p378 q378
                                    cases e378
                                    replace p378 := eq_true p378
                                    replace q378 := eq_true q378
                                    refine start_ (n := 50) (S := fun w' => w'.cell? (ad371.add (x12_2).toNat) = some (.slice (some ad373) (rd_L2 t364 x12_2).length c371_0) ∧ w'.cell? (ad371.add (x12_2).toNat) = some (.slice (some ad373) (rd_L2 t364 x12_2).length c371_0) ∧ w'.cell? ad373 = some (.int .i64 (rd (rd_L2 t364 x12_2) 0)) ∧ w'.cell? (ad371.add (x12_2).toNat) = some (.slice (some ad373) (rd_L2 t364 x12_2).length c371_0) ∧ w'.cell? (ad371.add (x12_2).toNat) = some (.slice (some ad373) (rd_L2 t364 x12_2).length c371_0) ∧ w'.cell? (ad371.add (x12_2).toNat) = some (.slice (some ad373) (rd_L2 t364 x12_2).length c371_0) ∧ w'.cell? (ad373.add ((ji36)).toNat) = some (.int .i64 (rd (rd_L2 t364 x12_2) (ji36)))) (ds := []) (bs 50 0) (by kernel_rfl) rfl rfl ⟨hx371_0, hx372_0, hx373_0, hx374_0, hx376_0, hx377_0, hx378_0⟩ (fun hHeld => ?_); refine with_tabW arboristlaw08_GraphParts.tab14 arboristlaw08_GraphParts.bits14 (fun HT_ HW_ => ?_)
                                    generalize wr.drew = w40 at HO_6 HO_8 HO_9 HO_364000 BK363 HB HL371_0 HL372_0 HL374_0 HL376_0 HL377_0 HR371_0 HR372_0 HR374_0 HR376_0 HR377_0 hx371_0 hx372_0 hx373_0 hx374_0 hx376_0 hx377_0 hHeld ⊢
                                    refine pure_ (i := 0) (N := some 42) (v := ?_) (a' := ?_) (bs 50 1) rfl rfl (any_of HT_.out (by kernel_rfl)) (fun _ _ _ h => h) (Or.inl ⟨by rfl, ?_⟩) ?_ ?_
                                    rotate_left; (intro w'; go_simp; with_reducible rfl); rotate_left; (simp only [Act.put, List.setIfInBounds_toArray, List.set_cons_zero, List.set_cons_succ, i64_w, i32_w]; rfl)
                                    refine pure_ (i := 1) (N := some 43) (v := ?_) (a' := ?_) (bs 50 3) rfl rfl (any_of HT_.out (by kernel_rfl)) (fun _ _ _ h => h) (Or.inl ⟨by rfl, ?_⟩) ?_ ?_
                                    rotate_left; (intro w'; go_simp; with_reducible rfl); rotate_left; (simp only [Act.put, List.setIfInBounds_toArray, List.set_cons_zero, List.set_cons_succ, i64_w, i32_w]; rfl)
                                    refine pure_ (i := 2) (N := some 44) (v := ?_) (a' := ?_) (bs 50 7) rfl rfl (any_of HT_.out (by kernel_rfl)) (fun _ _ _ h => h) (Or.inl ⟨by rfl, ?_⟩) ?_ ?_
                                    rotate_left; (intro w'; go_simp; with_reducible rfl); rotate_left; (simp only [Act.put, List.setIfInBounds_toArray, List.set_cons_zero, List.set_cons_succ, i64_w, i32_w]; rfl)
                                    refine take_ (i := 3) (N := some 45) (v := ?_) (a' := ?_) (bs 50 15) rfl rfl (take_ofW HT_.out HW_.out (by kernel_rfl)) (fun _ _ _ h => h) (Or.inl ⟨by rfl, ?_⟩) hHeld ?_ ?_
                                    rotate_left
                                    · rintro w' ⟨s0, s1, s2, s3, s4, s5, s6⟩
                                      go_simp
                                      with_reducible rfl
                                    rotate_left; (simp only [Act.put, List.setIfInBounds_toArray, List.set_cons_zero, List.set_cons_succ, i64_w, i32_w]; rfl)
                                    refine pure_ (i := 4) (N := some 46) (v := ?_) (a' := ?_) (bs 50 31) rfl rfl (any_of HT_.out (by kernel_rfl)) (fun _ _ _ h => h) (Or.inl ⟨by rfl, ?_⟩) ?_ ?_
                                    rotate_left; (intro w'; go_simp; with_reducible rfl); rotate_left; (simp only [Act.put, List.setIfInBounds_toArray, List.set_cons_zero, List.set_cons_succ, i64_w, i32_w]; rfl)
                                    refine pure_ (i := 5) (N := some 47) (v := ?_) (a' := ?_) (bs 50 63) rfl rfl (any_of HT_.out (by kernel_rfl)) (fun _ _ _ h => h) (Or.inl ⟨by rfl, ?_⟩) ?_ ?_
                                    rotate_left; (intro w'; go_simp; with_reducible rfl); rotate_left; (simp only [Act.put, List.setIfInBounds_toArray, List.set_cons_zero, List.set_cons_succ, i64_w, i32_w]; rfl)
                                    refine pure_ (i := 6) (N := some 48) (v := ?_) (a' := ?_) (bs 50 127) rfl rfl (any_of HT_.out (by kernel_rfl)) (fun _ _ _ h => h) (Or.inl ⟨by rfl, ?_⟩) ?_ ?_
                                    rotate_left; (intro w'; go_simp; with_reducible rfl); rotate_left; (simp only [Act.put, List.setIfInBounds_toArray, List.set_cons_zero, List.set_cons_succ, i64_w, i32_w]; rfl)
                                    refine pure_ (i := 7) (N := some 49) (v := ?_) (a' := ?_) (bs 50 255) rfl rfl (any_of HT_.out (by kernel_rfl)) (fun _ _ _ h => h) (Or.inl ⟨by rfl, ?_⟩) ?_ ?_
                                    rotate_left; (intro w'; go_simp; with_reducible rfl); rotate_left; (simp only [Act.put, List.setIfInBounds_toArray, List.set_cons_zero, List.set_cons_succ, i64_w, i32_w]; rfl)
                                    refine pure_ (i := 8) (N := some 50) (v := ?_) (a' := ?_) (bs 50 511) rfl rfl (any_of HT_.out (by kernel_rfl)) (fun _ _ _ h => h) (Or.inl ⟨by rfl, ?_⟩) ?_ ?_
                                    rotate_left; (intro w'; go_simp; with_reducible rfl); rotate_left; (simp only [Act.put, List.setIfInBounds_toArray, List.set_cons_zero, List.set_cons_succ, i64_w, i32_w]; rfl)
                                    refine pure_ (i := 9) (N := some 51) (v := ?_) (a' := ?_) (bs 50 1023) rfl rfl (any_of HT_.out (by kernel_rfl)) (fun _ _ _ h => h) (Or.inl ⟨by rfl, ?_⟩) ?_ ?_
                                    rotate_left; (intro w'; go_simp; with_reducible rfl); rotate_left; (simp only [Act.put, List.setIfInBounds_toArray, List.set_cons_zero, List.set_cons_succ, i64_w, i32_w]; rfl)
                                    refine pure_ (i := 13) (N := some 55) (v := ?_) (a' := ?_) (bs 50 9215) rfl rfl (any_of HT_.out (by kernel_rfl)) (fun _ _ _ h => h) (Or.inl ⟨by rfl, ?_⟩) ?_ ?_
                                    rotate_left; (intro w'; go_simp; with_reducible rfl); rotate_left; (simp only [Act.put, List.setIfInBounds_toArray, List.set_cons_zero, List.set_cons_succ, i64_w, i32_w]; rfl)
                                    refine take_ (i := 10) (N := some 52) (v := ?_) (a' := ?_) (bs 50 10239) rfl rfl (take_ofW HT_.out HW_.out (by kernel_rfl)) (fun _ _ _ h => h) (Or.inl ⟨by rfl, ?_⟩) hHeld ?_ ?_
                                    rotate_left
                                    · rintro w' ⟨s0, s1, s2, s3, s4, s5, s6⟩
                                      go_simp
                                      with_reducible rfl
                                    rotate_left; (simp only [Act.put, List.setIfInBounds_toArray, List.set_cons_zero, List.set_cons_succ, i64_w, i32_w]; rfl)
                                    refine pure_ (i := 11) (N := some 53) (v := ?_) (a' := ?_) (bs 50 12287) rfl rfl (any_of HT_.out (by kernel_rfl)) (fun _ _ _ h => h) (Or.inl ⟨by rfl, ?_⟩) ?_ ?_
                                    rotate_left; (intro w'; go_simp; with_reducible rfl); rotate_left; (simp only [Act.put, List.setIfInBounds_toArray, List.set_cons_zero, List.set_cons_succ, i64_w, i32_w]; rfl)
                                    refine take_ (i := 12) (N := some 54) (v := ?_) (a' := ?_) (bs 50 16383) rfl rfl (take_ofW HT_.out HW_.out (by kernel_rfl)) (fun _ _ _ h => h) (Or.inl ⟨by rfl, ?_⟩) hHeld ?_ ?_
                                    rotate_left
                                    · rintro w' ⟨s0, s1, s2, s3, s4, s5, s6⟩
                                      go_simp
                                      with_reducible rfl
                                    rotate_left; (simp only [Act.put, List.setIfInBounds_toArray, List.set_cons_zero, List.set_cons_succ, i64_w, i32_w]; rfl)
                                    refine pure_ (i := 14) (N := some 56) (v := ?_) (a' := ?_) (bs 50 32767) rfl rfl (any_of HT_.out (by kernel_rfl)) (fun _ _ _ h => h) (Or.inl ⟨by rfl, ?_⟩) ?_ ?_
                                    rotate_left; (intro w'; go_simp; with_reducible rfl); rotate_left; (simp only [Act.put, List.setIfInBounds_toArray, List.set_cons_zero, List.set_cons_succ, i64_w, i32_w]; rfl)
                                    refine pure_ (i := 15) (N := some 57) (v := ?_) (a' := ?_) (bs 50 65535) rfl rfl (any_of HT_.out (by kernel_rfl)) (fun _ _ _ h => h) (Or.inl ⟨by rfl, ?_⟩) ?_ ?_
                                    rotate_left; (intro w'; go_simp; with_reducible rfl); rotate_left; (simp only [Act.put, List.setIfInBounds_toArray, List.set_cons_zero, List.set_cons_succ, i64_w, i32_w]; rfl)
                                    refine pure_ (i := 16) (N := some 58) (v := ?_) (a' := ?_) (bs 50 131071) rfl rfl (any_of HT_.out (by kernel_rfl)) (fun _ _ _ h => h) (Or.inl ⟨by rfl, ?_⟩) ?_ ?_
                                    rotate_left; (intro w'; go_simp; with_reducible rfl); rotate_left; (simp only [Act.put, List.setIfInBounds_toArray, List.set_cons_zero, List.set_cons_succ, i64_w, i32_w]; rfl)
                                    refine pure_ (i := 17) (N := some 59) (v := ?_) (a' := ?_) (bs 50 262143) rfl rfl (any_of HT_.out (by kernel_rfl)) (fun _ _ _ h => h) (Or.inl ⟨by rfl, ?_⟩) ?_ ?_
                                    rotate_left; (intro w'; go_simp; with_reducible rfl); rotate_left; (simp only [Act.put, List.setIfInBounds_toArray, List.set_cons_zero, List.set_cons_succ, i64_w, i32_w]; rfl)
                                    refine pure_ (i := 18) (N := some 60) (v := ?_) (a' := ?_) (bs 50 524287) rfl rfl (any_of HT_.out (by kernel_rfl)) (fun _ _ _ h => h) (Or.inl ⟨by rfl, ?_⟩) ?_ ?_
                                    rotate_left; (intro w'; go_simp; with_reducible rfl); rotate_left; (simp only [Act.put, List.setIfInBounds_toArray, List.set_cons_zero, List.set_cons_succ, i64_w, i32_w]; rfl)
                                    refine pure_ (i := 19) (N := some 61) (v := ?_) (a' := ?_) (bs 50 1048575) rfl rfl (any_of HT_.out (by kernel_rfl)) (fun _ _ _ h => h) (Or.inl ⟨by rfl, ?_⟩) ?_ ?_
                                    rotate_left; (intro w'; go_simp; with_reducible rfl); rotate_left; (simp only [Act.put, List.setIfInBounds_toArray, List.set_cons_zero, List.set_cons_succ, i64_w, i32_w]; rfl)
                                    refine take_ (i := 20) (N := some 62) (v := ?_) (a' := ?_) (bs 50 2097151) rfl rfl (take_ofW HT_.out HW_.out (by kernel_rfl)) (fun _ _ _ h => h) (Or.inl ⟨by rfl, ?_⟩) hHeld ?_ ?_
                                    rotate_left
                                    · rintro w' ⟨s0, s1, s2, s3, s4, s5, s6⟩
                                      go_simp
                                      with_reducible rfl
                                    rotate_left; (simp only [Act.put, List.setIfInBounds_toArray, List.set_cons_zero, List.set_cons_succ, i64_w, i32_w]; rfl)
                                    refine one_ (i := 21) (N := some 63) (bs 50 4194303) rfl rfl (one_of HT_.out (by kernel_rfl)) (by decide) (fun K hK => ?_)
                                    refine goes_ Tryd.func27 (by kernel_rfl) rfl #[.slice (some ad373) (rd_L2 t364 x12_2).length c371_0] (by rfl) rfl rfl (by (try simp only [List.map_toArray, List.map_cons, List.map_nil]); first | done | rfl | (simp only [List.length_drop, List.length_take]; rfl)) ?_
                                    with_reducible refine (arboristref01_Rising.calls k2 _ _ (rd_L2 t364 x12_2) true _ ?side1 ?side2 A34.out).mono ?_
                                    (case side1 => repeat (first | exact (by repeat (first | (with_reducible exact HR374_0.out) | (with_reducible refine Kd.C_alloc ?_ _) | (with_reducible refine Kd.C_drewN ?_ _) | (with_reducible refine Kd.C_drew ?_) | exact HR374_0.out)) | (with_reducible refine Kd.C_alloc ?_ _) | (with_reducible refine Kd.C_drewN ?_ _) | (with_reducible refine Kd.C_drew ?_)))
                                    (case side2 => exact HC374_0.out)
                                    rintro e w' ⟨rfl, ⟨nd, rfl⟩⟩
                                    refine ⟨_, rfl, ?_⟩
                                    have p378 : 0 ≤ ((ji36) : Int) := of_decide_eq_true (by first | (with_reducible assumption) | assumption)
                                    have q378 : (ji36) < ((rd_L2 t364 x12_2).length : Int) := of_decide_eq_true (by first | (with_reducible assumption) | assumption)
                                    obtain ⟨ad378, e378, hx378_0⟩ := Kd.at_int (by repeat (first | (with_reducible exact HR376_0.out) | (with_reducible refine Kd.C_alloc ?_ _) | (with_reducible refine Kd.C_drewN ?_ _) | (with_reducible refine Kd.C_drew ?_) | exact HR376_0.out)) (ji36) p378 q378
                                    cases e378
                                    replace p378 := eq_true p378
                                    replace q378 := eq_true q378
                                    refine hK.out _ _ ⟨hHeld.1, hHeld.2.1, hHeld.2.2.1, hHeld.2.2.2.1, hHeld.2.2.2.2.1, hHeld.2.2.2.2.2.1, hHeld.2.2.2.2.2.2⟩ (fun hHeld => ?_)
                                    clear hK K
                                    refine norm_ (a' := ?_) ?_ ?_
                                    rotate_left
                                    · show Act.put _ (some 63) _ = _
                                      simp only [Act.put, List.setIfInBounds_toArray, List.set_cons_zero, List.set_cons_succ, i64_w, i32_w]
                                      rfl
                                    refine pure_ (i := 22) (N := some 64) (v := ?_) (a' := ?_) (bs 50 8388607) rfl rfl (any_of HT_.out (by kernel_rfl)) (fun _ _ _ h => h) (Or.inl ⟨by rfl, ?_⟩) ?_ ?_
                                    rotate_left; (intro w'; go_simp; with_reducible rfl); rotate_left; (simp only [Act.put, List.setIfInBounds_toArray, List.set_cons_zero, List.set_cons_succ, i64_w, i32_w]; rfl)
                                    refine pure_ (i := 23) (N := some 65) (v := ?_) (a' := ?_) (bs 50 16777215) rfl rfl (any_of HT_.out (by kernel_rfl)) (fun _ _ _ h => h) (Or.inl ⟨by rfl, ?_⟩) ?_ ?_
                                    rotate_left; (intro w'; go_simp; with_reducible rfl); rotate_left; (simp only [Act.put, List.setIfInBounds_toArray, List.set_cons_zero, List.set_cons_succ, i64_w, i32_w]; rfl)
                                    refine pure_ (i := 24) (N := some 66) (v := ?_) (a' := ?_) (bs 50 33554431) rfl rfl (any_of HT_.out (by kernel_rfl)) (fun _ _ _ h => h) (Or.inl ⟨by rfl, ?_⟩) ?_ ?_
                                    rotate_left; (intro w'; go_simp; with_reducible rfl); rotate_left; (simp only [Act.put, List.setIfInBounds_toArray, List.set_cons_zero, List.set_cons_succ, i64_w, i32_w]; rfl)
                                    refine pure_ (i := 25) (N := some 67) (v := ?_) (a' := ?_) (bs 50 67108863) rfl rfl (any_of HT_.out (by kernel_rfl)) (fun _ _ _ h => h) (Or.inl ⟨by rfl, ?_⟩) ?_ ?_
                                    rotate_left; (intro w'; go_simp; with_reducible rfl); rotate_left; (simp only [Act.put, List.setIfInBounds_toArray, List.set_cons_zero, List.set_cons_succ, i64_w, i32_w]; rfl)
                                    refine pure_ (i := 26) (N := some 68) (v := ?_) (a' := ?_) (bs 50 134217727) rfl rfl (any_of HT_.out (by kernel_rfl)) (fun _ _ _ h => h) (Or.inl ⟨by rfl, ?_⟩) ?_ ?_
                                    rotate_left; (intro w'; go_simp; with_reducible rfl); rotate_left; (simp only [Act.put, List.setIfInBounds_toArray, List.set_cons_zero, List.set_cons_succ, i64_w, i32_w]; rfl)
                                    refine pure_ (i := 27) (N := some 69) (v := ?_) (a' := ?_) (bs 50 268435455) rfl rfl (any_of HT_.out (by kernel_rfl)) (fun _ _ _ h => h) (Or.inl ⟨by rfl, ?_⟩) ?_ ?_
                                    rotate_left; (intro w'; go_simp; with_reducible rfl); rotate_left; (simp only [Act.put, List.setIfInBounds_toArray, List.set_cons_zero, List.set_cons_succ, i64_w, i32_w]; rfl)
                                    refine pure_ (i := 29) (N := some 71) (v := ?_) (a' := ?_) (bs 50 805306367) rfl rfl (any_of HT_.out (by kernel_rfl)) (fun _ _ _ h => h) (Or.inl ⟨by rfl, ?_⟩) ?_ ?_
                                    rotate_left; (intro w'; go_simp; with_reducible rfl); rotate_left; (simp only [Act.put, List.setIfInBounds_toArray, List.set_cons_zero, List.set_cons_succ, i64_w, i32_w]; rfl)
                                    refine pure_ (i := 30) (N := some 72) (v := ?_) (a' := ?_) (bs 50 1879048191) rfl rfl (any_of HT_.out (by kernel_rfl)) (fun _ _ _ h => h) (Or.inl ⟨by rfl, ?_⟩) ?_ ?_
                                    rotate_left; (intro w'; go_simp; with_reducible rfl); rotate_left; (simp only [Act.put, List.setIfInBounds_toArray, List.set_cons_zero, List.set_cons_succ, i64_w, i32_w]; rfl)
                                    refine pure_ (i := 31) (N := some 73) (v := ?_) (a' := ?_) (bs 50 4026531839) rfl rfl (any_of HT_.out (by kernel_rfl)) (fun _ _ _ h => h) (Or.inl ⟨by rfl, ?_⟩) ?_ ?_
                                    rotate_left; (intro w'; go_simp; with_reducible rfl); rotate_left; (simp only [Act.put, List.setIfInBounds_toArray, List.set_cons_zero, List.set_cons_succ, i64_w, i32_w]; rfl)
                                    refine pure_ (i := 37) (N := some 79) (v := ?_) (a' := ?_) (bs 50 141465485311) rfl rfl (any_of HT_.out (by kernel_rfl)) (fun _ _ _ h => h) (Or.inl ⟨by rfl, ?_⟩) ?_ ?_
                                    rotate_left; (intro w'; go_simp; with_reducible rfl); rotate_left; (simp only [Act.put, List.setIfInBounds_toArray, List.set_cons_zero, List.set_cons_succ, i64_w, i32_w]; rfl)
                                    refine pure_ (i := 38) (N := some 80) (v := ?_) (a' := ?_) (bs 50 416343392255) rfl rfl (any_of HT_.out (by kernel_rfl)) (fun _ _ _ h => h) (Or.inl ⟨by rfl, ?_⟩) ?_ ?_
                                    rotate_left; (intro w'; go_simp; with_reducible rfl); rotate_left; (simp only [Act.put, List.setIfInBounds_toArray, List.set_cons_zero, List.set_cons_succ, i64_w, i32_w]; rfl)
                                    refine take_ (i := 28) (N := some 70) (v := ?_) (a' := ?_) (bs 50 416611827711) rfl rfl (take_ofW HT_.out HW_.out (by kernel_rfl)) (fun _ _ _ h => h) (Or.inl ⟨by rfl, ?_⟩) hHeld ?_ ?_
                                    rotate_left
                                    · rintro w' ⟨s0, s1, s2, s3, s4, s5, s6⟩
                                      go_simp
                                      with_reducible rfl
                                    rotate_left; (simp only [Act.put, List.setIfInBounds_toArray, List.set_cons_zero, List.set_cons_succ, i64_w, i32_w]; rfl)
                                    refine take_ (i := 32) (N := some 74) (v := ?_) (a' := ?_) (bs 50 420906795007) rfl rfl (take_ofW HT_.out HW_.out (by kernel_rfl)) (fun _ _ _ h => h) (Or.inl ⟨by rfl, ?_⟩) hHeld ?_ ?_
                                    rotate_left
                                    · rintro w' ⟨s0, s1, s2, s3, s4, s5, s6⟩
                                      go_simp
                                      with_reducible rfl
                                    rotate_left; (simp only [Act.put, List.setIfInBounds_toArray, List.set_cons_zero, List.set_cons_succ, i64_w, i32_w]; rfl)
                                    refine pure_ (i := 33) (N := some 75) (v := ?_) (a' := ?_) (bs 50 429496729599) rfl rfl (any_of HT_.out (by kernel_rfl)) (fun _ _ _ h => h) (Or.inl ⟨by rfl, ?_⟩) ?_ ?_
                                    rotate_left; (intro w'; go_simp; with_reducible rfl); rotate_left; (simp only [Act.put, List.setIfInBounds_toArray, List.set_cons_zero, List.set_cons_succ, i64_w, i32_w]; rfl)
                                    refine pure_ (i := 34) (N := some 76) (v := ?_) (a' := ?_) (bs 50 446676598783) rfl rfl (any_of HT_.out (by kernel_rfl)) (fun _ _ _ h => h) (Or.inl ⟨by rfl, ?_⟩) ?_ ?_
                                    rotate_left; (intro w'; go_simp; with_reducible rfl); rotate_left; (simp only [Act.put, List.setIfInBounds_toArray, List.set_cons_zero, List.set_cons_succ, i64_w, i32_w]; rfl)
                                    refine pure_ (i := 35) (N := some 77) (v := ?_) (a' := ?_) (bs 50 481036337151) rfl rfl (any_of HT_.out (by kernel_rfl)) (fun _ _ _ h => h) (Or.inl ⟨by rfl, ?_⟩) ?_ ?_
                                    rotate_left; (intro w'; go_simp; with_reducible rfl); rotate_left; (simp only [Act.put, List.setIfInBounds_toArray, List.set_cons_zero, List.set_cons_succ, i64_w, i32_w]; rfl)
                                    refine take_ (i := 36) (N := some 78) (v := ?_) (a' := ?_) (bs 50 549755813887) rfl rfl (take_ofW HT_.out HW_.out (by kernel_rfl)) (fun _ _ _ h => h) (Or.inl ⟨by rfl, ?_⟩) hHeld ?_ ?_
                                    rotate_left
                                    · rintro w' ⟨s0, s1, s2, s3, s4, s5, s6⟩
                                      go_simp
                                      with_reducible rfl
                                    rotate_left; (simp only [Act.put, List.setIfInBounds_toArray, List.set_cons_zero, List.set_cons_succ, i64_w, i32_w]; rfl)
                                    refine pure_ (i := 39) (N := some 81) (v := ?_) (a' := ?_) (bs 50 1099511627775) rfl rfl (any_of HT_.out (by kernel_rfl)) (fun _ _ _ h => h) (Or.inl ⟨by rfl, ?_⟩) ?_ ?_
                                    rotate_left; (intro w'; go_simp; with_reducible rfl); rotate_left; (simp only [Act.put, List.setIfInBounds_toArray, List.set_cons_zero, List.set_cons_succ, i64_w, i32_w]; rfl)
                                    refine pure_ (i := 40) (N := some 82) (v := ?_) (a' := ?_) (bs 50 2199023255551) rfl rfl (any_of HT_.out (by kernel_rfl)) (fun _ _ _ h => h) (Or.inl ⟨by rfl, ?_⟩) ?_ ?_
                                    rotate_left; (intro w'; go_simp; with_reducible rfl); rotate_left; (simp only [Act.put, List.setIfInBounds_toArray, List.set_cons_zero, List.set_cons_succ, i64_w, i32_w]; rfl)
                                    refine pure_ (i := 41) (N := some 83) (v := ?_) (a' := ?_) (bs 50 4398046511103) rfl rfl (any_of HT_.out (by kernel_rfl)) (fun _ _ _ h => h) (Or.inl ⟨by rfl, ?_⟩) ?_ ?_
                                    rotate_left; (intro w'; go_simp; with_reducible rfl); rotate_left; (simp only [Act.put, List.setIfInBounds_toArray, List.set_cons_zero, List.set_cons_succ, i64_w, i32_w]; rfl)
                                    refine pure_ (i := 42) (N := some 84) (v := undef) (a' := ?_) (bs 50 8796093022207) rfl rfl (any_of HT_.out (by kernel_rfl)) (fun _ _ _ h => h) (Or.inr ⟨by rfl, rfl⟩) ?_ ?_
                                    rotate_left; (simp only [Act.put, List.setIfInBounds_toArray, List.set_cons_zero, List.set_cons_succ, i64_w, i32_w]; rfl)
                                    refine pure_ (i := 43) (N := some 85) (v := undef) (a' := ?_) (bs 50 17592186044415) rfl rfl (any_of HT_.out (by kernel_rfl)) (fun _ _ _ h => h) (Or.inr ⟨by rfl, rfl⟩) ?_ ?_
                                    rotate_left; (simp only [Act.put, List.setIfInBounds_toArray, List.set_cons_zero, List.set_cons_succ, i64_w, i32_w]; rfl)
                                    refine pure_ (i := 44) (N := some 86) (v := undef) (a' := ?_) (bs 50 35184372088831) rfl rfl (any_of HT_.out (by kernel_rfl)) (fun _ _ _ h => h) (Or.inr ⟨by rfl, rfl⟩) ?_ ?_
                                    rotate_left; (simp only [Act.put, List.setIfInBounds_toArray, List.set_cons_zero, List.set_cons_succ, i64_w, i32_w]; rfl)
                                    refine pure_ (i := 45) (N := some 87) (v := undef) (a' := ?_) (bs 50 70368744177663) rfl rfl (any_of HT_.out (by kernel_rfl)) (fun _ _ _ h => h) (Or.inr ⟨by rfl, rfl⟩) ?_ ?_
                                    rotate_left; (simp only [Act.put, List.setIfInBounds_toArray, List.set_cons_zero, List.set_cons_succ, i64_w, i32_w]; rfl)
                                    refine pure_ (i := 46) (N := some 88) (v := undef) (a' := ?_) (bs 50 140737488355327) rfl rfl (any_of HT_.out (by kernel_rfl)) (fun _ _ _ h => h) (Or.inr ⟨by rfl, rfl⟩) ?_ ?_
                                    rotate_left; (simp only [Act.put, List.setIfInBounds_toArray, List.set_cons_zero, List.set_cons_succ, i64_w, i32_w]; rfl)
                                    refine pure_ (i := 47) (N := some 89) (v := undef) (a' := ?_) (bs 50 281474976710655) rfl rfl (any_of HT_.out (by kernel_rfl)) (fun _ _ _ h => h) (Or.inr ⟨by rfl, rfl⟩) ?_ ?_
                                    rotate_left; (simp only [Act.put, List.setIfInBounds_toArray, List.set_cons_zero, List.set_cons_succ, i64_w, i32_w]; rfl)
                                    refine pure_ (i := 48) (N := some 90) (v := undef) (a' := ?_) (bs 50 562949953421311) rfl rfl (any_of HT_.out (by kernel_rfl)) (fun _ _ _ h => h) (Or.inr ⟨by rfl, rfl⟩) ?_ ?_
                                    rotate_left; (simp only [Act.put, List.setIfInBounds_toArray, List.set_cons_zero, List.set_cons_succ, i64_w, i32_w]; rfl)
                                    refine pure_ (i := 49) (N := some 91) (v := ?_) (a' := ?_) (bs 50 1125899906842623) rfl rfl (any_of HT_.out (by kernel_rfl)) (fun _ _ _ h => h) (Or.inl ⟨by rfl, ?_⟩) ?_ ?_
                                    rotate_left; (intro w'; go_simp; with_reducible rfl); rotate_left; (simp only [Act.put, List.setIfInBounds_toArray, List.set_cons_zero, List.set_cons_succ, i64_w, i32_w]; rfl)
                                    refine done_ (done_of HT_.out (by kernel_rfl)) ?_
                                    try go_wp2
                                    go_meet
                                    case rel => exact ⟨_, (true), (by first | rfl | (simp; done) | (simp [*]; done)), H', ⟨by have := HK1.out; have := HK2.out; first | omega | exact Nat.le_refl _⟩, ⟨by (with_reducible repeat (first | apply Kd.S_alloc | apply Kd.S_drewN | apply Kd.S_drew)); exact HO_6.out⟩, ⟨by (with_reducible repeat (first | apply Kd.S_alloc | apply Kd.S_drewN | apply Kd.S_drew)); exact HO_8.out⟩, ⟨by (with_reducible repeat (first | apply Kd.R_alloc | apply Kd.R_drewN | apply Kd.R_drew)); exact HO_9.out⟩, ⟨by (with_reducible repeat (first | apply Kd.R_alloc | apply Kd.R_drewN | apply Kd.R_drew)); exact HO_364000.out⟩, ⟨by (with_reducible repeat (first | refine blk_drewN ?_ _ | refine blk_drew ?_ | refine blk_alloc ?_ _)); exact BK363.out⟩, ⟨by repeat (first | (with_reducible first | exact HB.out | apply below_alloc | apply pw_below_drewN | apply below_drew1 | refine below_set ?_ GE363.out) | exact HB.out)⟩⟩
                                  · rw [if_neg c39] at H
                                    have c39b0 : decide ((t357.length : Int) ≤ (rd (rd_L2 t364 x12_2) (ji36))) = false := decide_eq_false c39
                                    clear c39
                                    have H' := Aside0.mk H
                                    clear H
                                    try go_wp2
                                    have n0_ := Aside0.mk (Kd.S_drew HO_6.out)
                                    have n1_ := Aside0.mk (Kd.S_drew HO_8.out)
                                    have n2_ := Aside0.mk (Kd.R_drew HO_9.out)
                                    have n3_ := Aside0.mk (Kd.R_drew HO_364000.out)
                                    have n4_ := Aside0.mk (blk_drew BK363.out)
                                    have n5_ := Aside0.mk (below_drew1 HB.out)
                                    clear HO_6
                                    clear HO_8
                                    clear HO_9
                                    clear HO_364000
                                    clear BK363
                                    clear HB
                                    have HO_6 := n0_
                                    have HO_8 := n1_
                                    have HO_9 := n2_
                                    have HO_364000 := n3_
                                    have BK363 := n4_
                                    have HB := n5_
                                    clear n0_ n1_ n2_ n3_ n4_ n5_
                                    have p371 : 0 ≤ (x12_2 : Int) := of_decide_eq_true (by first | (with_reducible assumption) | assumption)
                                    have q371 : x12_2 < (t364.length : Int) := of_decide_eq_true (by first | (with_reducible assumption) | assumption)
                                    obtain ⟨ad371, A371_0, c371_0, e371, hx371_0, hl371_0, hi371_0⟩ := at_L2 (Kd.S_reads' HO_8.out).2.2 x12_2 p371 q371
                                    cases e371
                                    obtain ⟨ce371, hce371, hMe371, hcc371⟩ := Kd.S_get HO_8.out [] x12_2 p371 (by first | exact q371 | exact of_decide_eq_true (by first | (with_reducible assumption) | assumption) | (have e_ := (Kd.S_reads' HO_8.out).1; omega))
                                    obtain ⟨ve371_0, rfl, ge371_0⟩ := hMe371
                                    have hv371_0 := hcc371 0 _ rfl
                                    rw [Nat.add_zero, show ((Kd.slice 3 (Kd.int .i64))).sz = 1 from rfl, Nat.mul_one] at hv371_0
                                    replace hv371_0 := Option.some.inj (hv371_0.symm.trans hx371_0)
                                    rw [hv371_0] at ge371_0
                                    have HL371_0 := Aside0.mk (show Kd.R (Kd.int .i64) 3 _ _ _ _ (rd_L2 t364 x12_2) from ge371_0)
                                    clear hv371_0 ge371_0
                                    clear hcc371 hce371
                                    have HR371_0 := Aside0.mk hi371_0
                                    have HC371_0 := Aside0.mk hl371_0
                                    clear hi371_0 hl371_0
                                    replace p371 := eq_true p371
                                    replace q371 := eq_true q371
                                    have p372 : 0 ≤ (x12_2 : Int) := of_decide_eq_true (by first | (with_reducible assumption) | assumption)
                                    have q372 : x12_2 < (t364.length : Int) := of_decide_eq_true (by first | (with_reducible assumption) | assumption)
                                    obtain ⟨ad372, A372_0, c372_0, e372, hx372_0, hl372_0, hi372_0⟩ := at_L2 (Kd.S_reads' HO_8.out).2.2 x12_2 p372 q372
                                    obtain rfl : ad371 = ad372 := (by injection e372)
                                    obtain ⟨ce372, hce372, hMe372, hcc372⟩ := Kd.S_get HO_8.out [] x12_2 p372 (by first | exact q372 | exact of_decide_eq_true (by first | (with_reducible assumption) | assumption) | (have e_ := (Kd.S_reads' HO_8.out).1; omega))
                                    obtain ⟨ve372_0, rfl, ge372_0⟩ := hMe372
                                    have hv372_0 := hcc372 0 _ rfl
                                    rw [Nat.add_zero, show ((Kd.slice 3 (Kd.int .i64))).sz = 1 from rfl, Nat.mul_one] at hv372_0
                                    replace hv372_0 := Option.some.inj (hv372_0.symm.trans hx372_0)
                                    rw [hv372_0] at ge372_0
                                    have HL372_0 := Aside0.mk (show Kd.R (Kd.int .i64) 3 _ _ _ _ (rd_L2 t364 x12_2) from ge372_0)
                                    clear hv372_0 ge372_0
                                    clear hcc372 hce372
                                    have HR372_0 := Aside0.mk hi372_0
                                    have HC372_0 := Aside0.mk hl372_0
                                    clear hi372_0 hl372_0
                                    replace p372 := eq_true p372
                                    replace q372 := eq_true q372
                                    have ea_ := Option.some.inj (hx371_0.symm.trans hx372_0)
                                    injection ea_ with ea_ en_ ec_
                                    subst ea_
                                    subst ec_
                                    clear en_
                                    have p373 : 0 ≤ (0 : Int) := (by omega)
                                    have q373 : 0 < ((rd_L2 t364 x12_2).length : Int) := of_decide_eq_true (by first | (with_reducible assumption) | assumption)
                                    obtain ⟨ad373, e373, hx373_0⟩ := Kd.at_int (by repeat (first | (with_reducible exact HR372_0.out) | (with_reducible refine Kd.C_alloc ?_ _) | (with_reducible refine Kd.C_drewN ?_ _) | (with_reducible refine Kd.C_drew ?_) | exact HR372_0.out)) 0 p373 q373
                                    cases e373
                                    have qi373 : (0 < (rd_L2 t364 x12_2).length) = True := eq_true (by omega)
                                    (try rw [show ((0 : Int)).toNat = 0 from rfl] at hx373_0)
                                    (try rw [Addr.add_zero'] at hx373_0)
                                    replace p373 := eq_true p373
                                    replace q373 := eq_true q373
                                    have p374 : 0 ≤ (x12_2 : Int) := of_decide_eq_true (by first | (with_reducible assumption) | assumption)
                                    have q374 : x12_2 < (t364.length : Int) := of_decide_eq_true (by first | (with_reducible assumption) | assumption)
                                    obtain ⟨ad374, A374_0, c374_0, e374, hx374_0, hl374_0, hi374_0⟩ := at_L2 (Kd.S_reads' HO_8.out).2.2 x12_2 p374 q374
                                    obtain rfl : ad371 = ad374 := (by injection e374)
                                    obtain ⟨ce374, hce374, hMe374, hcc374⟩ := Kd.S_get HO_8.out [] x12_2 p374 (by first | exact q374 | exact of_decide_eq_true (by first | (with_reducible assumption) | assumption) | (have e_ := (Kd.S_reads' HO_8.out).1; omega))
                                    obtain ⟨ve374_0, rfl, ge374_0⟩ := hMe374
                                    have hv374_0 := hcc374 0 _ rfl
                                    rw [Nat.add_zero, show ((Kd.slice 3 (Kd.int .i64))).sz = 1 from rfl, Nat.mul_one] at hv374_0
                                    replace hv374_0 := Option.some.inj (hv374_0.symm.trans hx374_0)
                                    rw [hv374_0] at ge374_0
                                    have HL374_0 := Aside0.mk (show Kd.R (Kd.int .i64) 3 _ _ _ _ (rd_L2 t364 x12_2) from ge374_0)
                                    clear hv374_0 ge374_0
                                    clear hcc374 hce374
                                    have HR374_0 := Aside0.mk hi374_0
                                    have HC374_0 := Aside0.mk hl374_0
                                    clear hi374_0 hl374_0
                                    replace p374 := eq_true p374
                                    replace q374 := eq_true q374
                                    have ea_ := Option.some.inj (hx371_0.symm.trans hx374_0)
                                    injection ea_ with ea_ en_ ec_
                                    subst ea_
                                    subst ec_
                                    clear en_
                                    have p376 : 0 ≤ (x12_2 : Int) := of_decide_eq_true (by first | (with_reducible assumption) | assumption)
                                    have q376 : x12_2 < (t364.length : Int) := of_decide_eq_true (by first | (with_reducible assumption) | assumption)
                                    obtain ⟨ad376, A376_0, c376_0, e376, hx376_0, hl376_0, hi376_0⟩ := at_L2 (Kd.S_reads' HO_8.out).2.2 x12_2 p376 q376
                                    obtain rfl : ad371 = ad376 := (by injection e376)
                                    obtain ⟨ce376, hce376, hMe376, hcc376⟩ := Kd.S_get HO_8.out [] x12_2 p376 (by first | exact q376 | exact of_decide_eq_true (by first | (with_reducible assumption) | assumption) | (have e_ := (Kd.S_reads' HO_8.out).1; omega))
                                    obtain ⟨ve376_0, rfl, ge376_0⟩ := hMe376
                                    have hv376_0 := hcc376 0 _ rfl
                                    rw [Nat.add_zero, show ((Kd.slice 3 (Kd.int .i64))).sz = 1 from rfl, Nat.mul_one] at hv376_0
                                    replace hv376_0 := Option.some.inj (hv376_0.symm.trans hx376_0)
                                    rw [hv376_0] at ge376_0
                                    have HL376_0 := Aside0.mk (show Kd.R (Kd.int .i64) 3 _ _ _ _ (rd_L2 t364 x12_2) from ge376_0)
                                    clear hv376_0 ge376_0
                                    clear hcc376 hce376
                                    have HR376_0 := Aside0.mk hi376_0
                                    have HC376_0 := Aside0.mk hl376_0
                                    clear hi376_0 hl376_0
                                    replace p376 := eq_true p376
                                    replace q376 := eq_true q376
                                    have ea_ := Option.some.inj (hx371_0.symm.trans hx376_0)
                                    injection ea_ with ea_ en_ ec_
                                    subst ea_
                                    subst ec_
                                    clear en_
                                    have p377 : 0 ≤ (x12_2 : Int) := of_decide_eq_true (by first | (with_reducible assumption) | assumption)
                                    have q377 : x12_2 < (t364.length : Int) := of_decide_eq_true (by first | (with_reducible assumption) | assumption)
                                    obtain ⟨ad377, A377_0, c377_0, e377, hx377_0, hl377_0, hi377_0⟩ := at_L2 (Kd.S_reads' HO_8.out).2.2 x12_2 p377 q377
                                    obtain rfl : ad371 = ad377 := (by injection e377)
                                    obtain ⟨ce377, hce377, hMe377, hcc377⟩ := Kd.S_get HO_8.out [] x12_2 p377 (by first | exact q377 | exact of_decide_eq_true (by first | (with_reducible assumption) | assumption) | (have e_ := (Kd.S_reads' HO_8.out).1; omega))
                                    obtain ⟨ve377_0, rfl, ge377_0⟩ := hMe377
                                    have hv377_0 := hcc377 0 _ rfl
                                    rw [Nat.add_zero, show ((Kd.slice 3 (Kd.int .i64))).sz = 1 from rfl, Nat.mul_one] at hv377_0
                                    replace hv377_0 := Option.some.inj (hv377_0.symm.trans hx377_0)
                                    rw [hv377_0] at ge377_0
                                    have HL377_0 := Aside0.mk (show Kd.R (Kd.int .i64) 3 _ _ _ _ (rd_L2 t364 x12_2) from ge377_0)
                                    clear hv377_0 ge377_0
                                    clear hcc377 hce377
                                    have HR377_0 := Aside0.mk hi377_0
                                    have HC377_0 := Aside0.mk hl377_0
                                    clear hi377_0 hl377_0
                                    replace p377 := eq_true p377
                                    replace q377 := eq_true q377
                                    have ea_ := Option.some.inj (hx371_0.symm.trans hx377_0)
                                    injection ea_ with ea_ en_ ec_
                                    subst ea_
                                    subst ec_
                                    clear en_
                                    have p379 : 0 ≤ (x12_2 : Int) := of_decide_eq_true (by first | (with_reducible assumption) | assumption)
                                    have q379 : x12_2 < (t364.length : Int) := of_decide_eq_true (by first | (with_reducible assumption) | assumption)
                                    obtain ⟨ad379, A379_0, c379_0, e379, hx379_0, hl379_0, hi379_0⟩ := at_L2 (Kd.S_reads' HO_8.out).2.2 x12_2 p379 q379
                                    obtain rfl : ad371 = ad379 := (by injection e379)
                                    obtain ⟨ce379, hce379, hMe379, hcc379⟩ := Kd.S_get HO_8.out [] x12_2 p379 (by first | exact q379 | exact of_decide_eq_true (by first | (with_reducible assumption) | assumption) | (have e_ := (Kd.S_reads' HO_8.out).1; omega))
                                    obtain ⟨ve379_0, rfl, ge379_0⟩ := hMe379
                                    have hv379_0 := hcc379 0 _ rfl
                                    rw [Nat.add_zero, show ((Kd.slice 3 (Kd.int .i64))).sz = 1 from rfl, Nat.mul_one] at hv379_0
                                    replace hv379_0 := Option.some.inj (hv379_0.symm.trans hx379_0)
                                    rw [hv379_0] at ge379_0
                                    have HL379_0 := Aside0.mk (show Kd.R (Kd.int .i64) 3 _ _ _ _ (rd_L2 t364 x12_2) from ge379_0)
                                    clear hv379_0 ge379_0
                                    clear hcc379 hce379
                                    have HR379_0 := Aside0.mk hi379_0
                                    have HC379_0 := Aside0.mk hl379_0
                                    clear hi379_0 hl379_0
                                    replace p379 := eq_true p379
                                    replace q379 := eq_true q379
                                    have ea_ := Option.some.inj (hx371_0.symm.trans hx379_0)
                                    injection ea_ with ea_ en_ ec_
                                    subst ea_
                                    subst ec_
                                    clear en_
                                    have p378 : 0 ≤ ((ji36) : Int) := of_decide_eq_true (by first | (with_reducible assumption) | assumption)
                                    have q378 : (ji36) < ((rd_L2 t364 x12_2).length : Int) := of_decide_eq_true (by first | (with_reducible assumption) | assumption)
                                    obtain ⟨ad378, e378, hx378_0⟩ := Kd.at_int (by repeat (first | (with_reducible exact HR376_0.out) | (with_reducible refine Kd.C_alloc ?_ _) | (with_reducible refine Kd.C_drewN ?_ _) | (with_reducible refine Kd.C_drew ?_) | exact HR376_0.out)) (ji36) p378 q378
                                    cases e378
                                    replace p378 := eq_true p378
                                    replace q378 := eq_true q378
                                    have p380 : 0 ≤ (0 : Int) := (by omega)
                                    have q380 : 0 < ((rd_L2 t364 x12_2).length : Int) := of_decide_eq_true (by first | (with_reducible assumption) | assumption)
                                    obtain ⟨ad380, e380, hx380_0⟩ := Kd.at_int (by repeat (first | (with_reducible exact HR379_0.out) | (with_reducible refine Kd.C_alloc ?_ _) | (with_reducible refine Kd.C_drewN ?_ _) | (with_reducible refine Kd.C_drew ?_) | exact HR379_0.out)) 0 p380 q380
                                    cases e380
                                    have qi380 : (0 < (rd_L2 t364 x12_2).length) = True := eq_true (by omega)
                                    (try rw [show ((0 : Int)).toNat = 0 from rfl] at hx380_0)
                                    (try rw [Addr.add_zero'] at hx380_0)
                                    replace p380 := eq_true p380
                                    replace q380 := eq_true q380
                                    refine start_ (n := 50) (S := fun w' => w'.cell? (ad371.add (x12_2).toNat) = some (.slice (some ad373) (rd_L2 t364 x12_2).length c371_0) ∧ w'.cell? (ad371.add (x12_2).toNat) = some (.slice (some ad373) (rd_L2 t364 x12_2).length c371_0) ∧ w'.cell? ad373 = some (.int .i64 (rd (rd_L2 t364 x12_2) 0)) ∧ w'.cell? (ad371.add (x12_2).toNat) = some (.slice (some ad373) (rd_L2 t364 x12_2).length c371_0) ∧ w'.cell? (ad371.add (x12_2).toNat) = some (.slice (some ad373) (rd_L2 t364 x12_2).length c371_0) ∧ w'.cell? (ad371.add (x12_2).toNat) = some (.slice (some ad373) (rd_L2 t364 x12_2).length c371_0) ∧ w'.cell? (ad373.add ((ji36)).toNat) = some (.int .i64 (rd (rd_L2 t364 x12_2) (ji36))) ∧ w'.cell? (ad371.add (x12_2).toNat) = some (.slice (some ad373) (rd_L2 t364 x12_2).length c371_0) ∧ w'.cell? ad373 = some (.int .i64 (rd (rd_L2 t364 x12_2) 0))) (ds := []) (bs 50 0) (by kernel_rfl) rfl rfl ⟨hx371_0, hx372_0, hx373_0, hx374_0, hx376_0, hx377_0, hx378_0, hx379_0, hx380_0⟩ (fun hHeld => ?_); refine with_tabW arboristlaw08_GraphParts.tab14 arboristlaw08_GraphParts.bits14 (fun HT_ HW_ => ?_)
                                    generalize wr.drew = w41 at HO_6 HO_8 HO_9 HO_364000 BK363 HB HL371_0 HL372_0 HL374_0 HL376_0 HL377_0 HL379_0 HR371_0 HR372_0 HR374_0 HR376_0 HR377_0 HR379_0 hx371_0 hx372_0 hx373_0 hx374_0 hx376_0 hx377_0 hx379_0 hHeld ⊢
                                    refine pure_ (i := 0) (N := some 42) (v := ?_) (a' := ?_) (bs 50 1) rfl rfl (any_of HT_.out (by kernel_rfl)) (fun _ _ _ h => h) (Or.inl ⟨by rfl, ?_⟩) ?_ ?_
                                    rotate_left; (intro w'; go_simp; with_reducible rfl); rotate_left; (simp only [Act.put, List.setIfInBounds_toArray, List.set_cons_zero, List.set_cons_succ, i64_w, i32_w]; rfl)
                                    refine pure_ (i := 1) (N := some 43) (v := ?_) (a' := ?_) (bs 50 3) rfl rfl (any_of HT_.out (by kernel_rfl)) (fun _ _ _ h => h) (Or.inl ⟨by rfl, ?_⟩) ?_ ?_
                                    rotate_left; (intro w'; go_simp; with_reducible rfl); rotate_left; (simp only [Act.put, List.setIfInBounds_toArray, List.set_cons_zero, List.set_cons_succ, i64_w, i32_w]; rfl)
                                    refine pure_ (i := 2) (N := some 44) (v := ?_) (a' := ?_) (bs 50 7) rfl rfl (any_of HT_.out (by kernel_rfl)) (fun _ _ _ h => h) (Or.inl ⟨by rfl, ?_⟩) ?_ ?_
                                    rotate_left; (intro w'; go_simp; with_reducible rfl); rotate_left; (simp only [Act.put, List.setIfInBounds_toArray, List.set_cons_zero, List.set_cons_succ, i64_w, i32_w]; rfl)
                                    refine take_ (i := 3) (N := some 45) (v := ?_) (a' := ?_) (bs 50 15) rfl rfl (take_ofW HT_.out HW_.out (by kernel_rfl)) (fun _ _ _ h => h) (Or.inl ⟨by rfl, ?_⟩) hHeld ?_ ?_
                                    rotate_left
                                    · rintro w' ⟨s0, s1, s2, s3, s4, s5, s6, s7, s8⟩
                                      go_simp
                                      with_reducible rfl
                                    rotate_left; (simp only [Act.put, List.setIfInBounds_toArray, List.set_cons_zero, List.set_cons_succ, i64_w, i32_w]; rfl)
                                    refine pure_ (i := 4) (N := some 46) (v := ?_) (a' := ?_) (bs 50 31) rfl rfl (any_of HT_.out (by kernel_rfl)) (fun _ _ _ h => h) (Or.inl ⟨by rfl, ?_⟩) ?_ ?_
                                    rotate_left; (intro w'; go_simp; with_reducible rfl); rotate_left; (simp only [Act.put, List.setIfInBounds_toArray, List.set_cons_zero, List.set_cons_succ, i64_w, i32_w]; rfl)
                                    refine pure_ (i := 5) (N := some 47) (v := ?_) (a' := ?_) (bs 50 63) rfl rfl (any_of HT_.out (by kernel_rfl)) (fun _ _ _ h => h) (Or.inl ⟨by rfl, ?_⟩) ?_ ?_
                                    rotate_left; (intro w'; go_simp; with_reducible rfl); rotate_left; (simp only [Act.put, List.setIfInBounds_toArray, List.set_cons_zero, List.set_cons_succ, i64_w, i32_w]; rfl)
                                    refine pure_ (i := 6) (N := some 48) (v := ?_) (a' := ?_) (bs 50 127) rfl rfl (any_of HT_.out (by kernel_rfl)) (fun _ _ _ h => h) (Or.inl ⟨by rfl, ?_⟩) ?_ ?_
                                    rotate_left; (intro w'; go_simp; with_reducible rfl); rotate_left; (simp only [Act.put, List.setIfInBounds_toArray, List.set_cons_zero, List.set_cons_succ, i64_w, i32_w]; rfl)
                                    refine pure_ (i := 7) (N := some 49) (v := ?_) (a' := ?_) (bs 50 255) rfl rfl (any_of HT_.out (by kernel_rfl)) (fun _ _ _ h => h) (Or.inl ⟨by rfl, ?_⟩) ?_ ?_
                                    rotate_left; (intro w'; go_simp; with_reducible rfl); rotate_left; (simp only [Act.put, List.setIfInBounds_toArray, List.set_cons_zero, List.set_cons_succ, i64_w, i32_w]; rfl)
                                    refine pure_ (i := 8) (N := some 50) (v := ?_) (a' := ?_) (bs 50 511) rfl rfl (any_of HT_.out (by kernel_rfl)) (fun _ _ _ h => h) (Or.inl ⟨by rfl, ?_⟩) ?_ ?_
                                    rotate_left; (intro w'; go_simp; with_reducible rfl); rotate_left; (simp only [Act.put, List.setIfInBounds_toArray, List.set_cons_zero, List.set_cons_succ, i64_w, i32_w]; rfl)
                                    refine pure_ (i := 9) (N := some 51) (v := ?_) (a' := ?_) (bs 50 1023) rfl rfl (any_of HT_.out (by kernel_rfl)) (fun _ _ _ h => h) (Or.inl ⟨by rfl, ?_⟩) ?_ ?_
                                    rotate_left; (intro w'; go_simp; with_reducible rfl); rotate_left; (simp only [Act.put, List.setIfInBounds_toArray, List.set_cons_zero, List.set_cons_succ, i64_w, i32_w]; rfl)
                                    refine pure_ (i := 13) (N := some 55) (v := ?_) (a' := ?_) (bs 50 9215) rfl rfl (any_of HT_.out (by kernel_rfl)) (fun _ _ _ h => h) (Or.inl ⟨by rfl, ?_⟩) ?_ ?_
                                    rotate_left; (intro w'; go_simp; with_reducible rfl); rotate_left; (simp only [Act.put, List.setIfInBounds_toArray, List.set_cons_zero, List.set_cons_succ, i64_w, i32_w]; rfl)
                                    refine take_ (i := 10) (N := some 52) (v := ?_) (a' := ?_) (bs 50 10239) rfl rfl (take_ofW HT_.out HW_.out (by kernel_rfl)) (fun _ _ _ h => h) (Or.inl ⟨by rfl, ?_⟩) hHeld ?_ ?_
                                    rotate_left
                                    · rintro w' ⟨s0, s1, s2, s3, s4, s5, s6, s7, s8⟩
                                      go_simp
                                      with_reducible rfl
                                    rotate_left; (simp only [Act.put, List.setIfInBounds_toArray, List.set_cons_zero, List.set_cons_succ, i64_w, i32_w]; rfl)
                                    refine pure_ (i := 11) (N := some 53) (v := ?_) (a' := ?_) (bs 50 12287) rfl rfl (any_of HT_.out (by kernel_rfl)) (fun _ _ _ h => h) (Or.inl ⟨by rfl, ?_⟩) ?_ ?_
                                    rotate_left; (intro w'; go_simp; with_reducible rfl); rotate_left; (simp only [Act.put, List.setIfInBounds_toArray, List.set_cons_zero, List.set_cons_succ, i64_w, i32_w]; rfl)
                                    refine take_ (i := 12) (N := some 54) (v := ?_) (a' := ?_) (bs 50 16383) rfl rfl (take_ofW HT_.out HW_.out (by kernel_rfl)) (fun _ _ _ h => h) (Or.inl ⟨by rfl, ?_⟩) hHeld ?_ ?_
                                    rotate_left
                                    · rintro w' ⟨s0, s1, s2, s3, s4, s5, s6, s7, s8⟩
                                      go_simp
                                      with_reducible rfl
                                    rotate_left; (simp only [Act.put, List.setIfInBounds_toArray, List.set_cons_zero, List.set_cons_succ, i64_w, i32_w]; rfl)
                                    refine pure_ (i := 14) (N := some 56) (v := ?_) (a' := ?_) (bs 50 32767) rfl rfl (any_of HT_.out (by kernel_rfl)) (fun _ _ _ h => h) (Or.inl ⟨by rfl, ?_⟩) ?_ ?_
                                    rotate_left; (intro w'; go_simp; with_reducible rfl); rotate_left; (simp only [Act.put, List.setIfInBounds_toArray, List.set_cons_zero, List.set_cons_succ, i64_w, i32_w]; rfl)
                                    refine pure_ (i := 15) (N := some 57) (v := ?_) (a' := ?_) (bs 50 65535) rfl rfl (any_of HT_.out (by kernel_rfl)) (fun _ _ _ h => h) (Or.inl ⟨by rfl, ?_⟩) ?_ ?_
                                    rotate_left; (intro w'; go_simp; with_reducible rfl); rotate_left; (simp only [Act.put, List.setIfInBounds_toArray, List.set_cons_zero, List.set_cons_succ, i64_w, i32_w]; rfl)
                                    refine pure_ (i := 16) (N := some 58) (v := ?_) (a' := ?_) (bs 50 131071) rfl rfl (any_of HT_.out (by kernel_rfl)) (fun _ _ _ h => h) (Or.inl ⟨by rfl, ?_⟩) ?_ ?_
                                    rotate_left; (intro w'; go_simp; with_reducible rfl); rotate_left; (simp only [Act.put, List.setIfInBounds_toArray, List.set_cons_zero, List.set_cons_succ, i64_w, i32_w]; rfl)
                                    refine pure_ (i := 17) (N := some 59) (v := ?_) (a' := ?_) (bs 50 262143) rfl rfl (any_of HT_.out (by kernel_rfl)) (fun _ _ _ h => h) (Or.inl ⟨by rfl, ?_⟩) ?_ ?_
                                    rotate_left; (intro w'; go_simp; with_reducible rfl); rotate_left; (simp only [Act.put, List.setIfInBounds_toArray, List.set_cons_zero, List.set_cons_succ, i64_w, i32_w]; rfl)
                                    refine pure_ (i := 18) (N := some 60) (v := ?_) (a' := ?_) (bs 50 524287) rfl rfl (any_of HT_.out (by kernel_rfl)) (fun _ _ _ h => h) (Or.inl ⟨by rfl, ?_⟩) ?_ ?_
                                    rotate_left; (intro w'; go_simp; with_reducible rfl); rotate_left; (simp only [Act.put, List.setIfInBounds_toArray, List.set_cons_zero, List.set_cons_succ, i64_w, i32_w]; rfl)
                                    refine pure_ (i := 19) (N := some 61) (v := ?_) (a' := ?_) (bs 50 1048575) rfl rfl (any_of HT_.out (by kernel_rfl)) (fun _ _ _ h => h) (Or.inl ⟨by rfl, ?_⟩) ?_ ?_
                                    rotate_left; (intro w'; go_simp; with_reducible rfl); rotate_left; (simp only [Act.put, List.setIfInBounds_toArray, List.set_cons_zero, List.set_cons_succ, i64_w, i32_w]; rfl)
                                    refine take_ (i := 20) (N := some 62) (v := ?_) (a' := ?_) (bs 50 2097151) rfl rfl (take_ofW HT_.out HW_.out (by kernel_rfl)) (fun _ _ _ h => h) (Or.inl ⟨by rfl, ?_⟩) hHeld ?_ ?_
                                    rotate_left
                                    · rintro w' ⟨s0, s1, s2, s3, s4, s5, s6, s7, s8⟩
                                      go_simp
                                      with_reducible rfl
                                    rotate_left; (simp only [Act.put, List.setIfInBounds_toArray, List.set_cons_zero, List.set_cons_succ, i64_w, i32_w]; rfl)
                                    refine one_ (i := 21) (N := some 63) (bs 50 4194303) rfl rfl (one_of HT_.out (by kernel_rfl)) (by decide) (fun K hK => ?_)
                                    refine goes_ Tryd.func27 (by kernel_rfl) rfl #[.slice (some ad373) (rd_L2 t364 x12_2).length c371_0] (by rfl) rfl rfl (by (try simp only [List.map_toArray, List.map_cons, List.map_nil]); first | done | rfl | (simp only [List.length_drop, List.length_take]; rfl)) ?_
                                    with_reducible refine (arboristref01_Rising.calls k2 _ _ (rd_L2 t364 x12_2) true _ ?side1 ?side2 A34.out).mono ?_
                                    (case side1 => repeat (first | exact (by repeat (first | (with_reducible exact HR374_0.out) | (with_reducible refine Kd.C_alloc ?_ _) | (with_reducible refine Kd.C_drewN ?_ _) | (with_reducible refine Kd.C_drew ?_) | exact HR374_0.out)) | (with_reducible refine Kd.C_alloc ?_ _) | (with_reducible refine Kd.C_drewN ?_ _) | (with_reducible refine Kd.C_drew ?_)))
                                    (case side2 => exact HC374_0.out)
                                    rintro e w' ⟨rfl, ⟨nd, rfl⟩⟩
                                    refine ⟨_, rfl, ?_⟩
                                    have p378 : 0 ≤ ((ji36) : Int) := of_decide_eq_true (by first | (with_reducible assumption) | assumption)
                                    have q378 : (ji36) < ((rd_L2 t364 x12_2).length : Int) := of_decide_eq_true (by first | (with_reducible assumption) | assumption)
                                    obtain ⟨ad378, e378, hx378_0⟩ := Kd.at_int (by repeat (first | (with_reducible exact HR376_0.out) | (with_reducible refine Kd.C_alloc ?_ _) | (with_reducible refine Kd.C_drewN ?_ _) | (with_reducible refine Kd.C_drew ?_) | exact HR376_0.out)) (ji36) p378 q378
                                    cases e378
                                    replace p378 := eq_true p378
                                    replace q378 := eq_true q378
                                    have p380 : 0 ≤ (0 : Int) := (by omega)
                                    have q380 : 0 < ((rd_L2 t364 x12_2).length : Int) := of_decide_eq_true (by first | (with_reducible assumption) | assumption)
                                    obtain ⟨ad380, e380, hx380_0⟩ := Kd.at_int (by repeat (first | (with_reducible exact HR379_0.out) | (with_reducible refine Kd.C_alloc ?_ _) | (with_reducible refine Kd.C_drewN ?_ _) | (with_reducible refine Kd.C_drew ?_) | exact HR379_0.out)) 0 p380 q380
                                    cases e380
                                    have qi380 : (0 < (rd_L2 t364 x12_2).length) = True := eq_true (by omega)
                                    (try rw [show ((0 : Int)).toNat = 0 from rfl] at hx380_0)
                                    (try rw [Addr.add_zero'] at hx380_0)
                                    replace p380 := eq_true p380
                                    replace q380 := eq_true q380
                                    refine hK.out _ _ ⟨hHeld.1, hHeld.2.1, hHeld.2.2.1, hHeld.2.2.2.1, hHeld.2.2.2.2.1, hHeld.2.2.2.2.2.1, hHeld.2.2.2.2.2.2.1, hHeld.2.2.2.2.2.2.2.1, hHeld.2.2.2.2.2.2.2.2⟩ (fun hHeld => ?_)
                                    clear hK K
                                    refine norm_ (a' := ?_) ?_ ?_
                                    rotate_left
                                    · show Act.put _ (some 63) _ = _
                                      simp only [Act.put, List.setIfInBounds_toArray, List.set_cons_zero, List.set_cons_succ, i64_w, i32_w]
                                      rfl
                                    refine pure_ (i := 22) (N := some 64) (v := ?_) (a' := ?_) (bs 50 8388607) rfl rfl (any_of HT_.out (by kernel_rfl)) (fun _ _ _ h => h) (Or.inl ⟨by rfl, ?_⟩) ?_ ?_
                                    rotate_left; (intro w'; go_simp; with_reducible rfl); rotate_left; (simp only [Act.put, List.setIfInBounds_toArray, List.set_cons_zero, List.set_cons_succ, i64_w, i32_w]; rfl)
                                    refine pure_ (i := 23) (N := some 65) (v := ?_) (a' := ?_) (bs 50 16777215) rfl rfl (any_of HT_.out (by kernel_rfl)) (fun _ _ _ h => h) (Or.inl ⟨by rfl, ?_⟩) ?_ ?_
                                    rotate_left; (intro w'; go_simp; with_reducible rfl); rotate_left; (simp only [Act.put, List.setIfInBounds_toArray, List.set_cons_zero, List.set_cons_succ, i64_w, i32_w]; rfl)
                                    refine pure_ (i := 24) (N := some 66) (v := ?_) (a' := ?_) (bs 50 33554431) rfl rfl (any_of HT_.out (by kernel_rfl)) (fun _ _ _ h => h) (Or.inl ⟨by rfl, ?_⟩) ?_ ?_
                                    rotate_left; (intro w'; go_simp; with_reducible rfl); rotate_left; (simp only [Act.put, List.setIfInBounds_toArray, List.set_cons_zero, List.set_cons_succ, i64_w, i32_w]; rfl)
                                    refine pure_ (i := 25) (N := some 67) (v := ?_) (a' := ?_) (bs 50 67108863) rfl rfl (any_of HT_.out (by kernel_rfl)) (fun _ _ _ h => h) (Or.inl ⟨by rfl, ?_⟩) ?_ ?_
                                    rotate_left; (intro w'; go_simp; with_reducible rfl); rotate_left; (simp only [Act.put, List.setIfInBounds_toArray, List.set_cons_zero, List.set_cons_succ, i64_w, i32_w]; rfl)
                                    refine pure_ (i := 26) (N := some 68) (v := ?_) (a' := ?_) (bs 50 134217727) rfl rfl (any_of HT_.out (by kernel_rfl)) (fun _ _ _ h => h) (Or.inl ⟨by rfl, ?_⟩) ?_ ?_
                                    rotate_left; (intro w'; go_simp; with_reducible rfl); rotate_left; (simp only [Act.put, List.setIfInBounds_toArray, List.set_cons_zero, List.set_cons_succ, i64_w, i32_w]; rfl)
                                    refine pure_ (i := 27) (N := some 69) (v := ?_) (a' := ?_) (bs 50 268435455) rfl rfl (any_of HT_.out (by kernel_rfl)) (fun _ _ _ h => h) (Or.inl ⟨by rfl, ?_⟩) ?_ ?_
                                    rotate_left; (intro w'; go_simp; with_reducible rfl); rotate_left; (simp only [Act.put, List.setIfInBounds_toArray, List.set_cons_zero, List.set_cons_succ, i64_w, i32_w]; rfl)
                                    refine pure_ (i := 29) (N := some 71) (v := ?_) (a' := ?_) (bs 50 805306367) rfl rfl (any_of HT_.out (by kernel_rfl)) (fun _ _ _ h => h) (Or.inl ⟨by rfl, ?_⟩) ?_ ?_
                                    rotate_left; (intro w'; go_simp; with_reducible rfl); rotate_left; (simp only [Act.put, List.setIfInBounds_toArray, List.set_cons_zero, List.set_cons_succ, i64_w, i32_w]; rfl)
                                    refine pure_ (i := 30) (N := some 72) (v := ?_) (a' := ?_) (bs 50 1879048191) rfl rfl (any_of HT_.out (by kernel_rfl)) (fun _ _ _ h => h) (Or.inl ⟨by rfl, ?_⟩) ?_ ?_
                                    rotate_left; (intro w'; go_simp; with_reducible rfl); rotate_left; (simp only [Act.put, List.setIfInBounds_toArray, List.set_cons_zero, List.set_cons_succ, i64_w, i32_w]; rfl)
                                    refine pure_ (i := 31) (N := some 73) (v := ?_) (a' := ?_) (bs 50 4026531839) rfl rfl (any_of HT_.out (by kernel_rfl)) (fun _ _ _ h => h) (Or.inl ⟨by rfl, ?_⟩) ?_ ?_
                                    rotate_left; (intro w'; go_simp; with_reducible rfl); rotate_left; (simp only [Act.put, List.setIfInBounds_toArray, List.set_cons_zero, List.set_cons_succ, i64_w, i32_w]; rfl)
                                    refine pure_ (i := 37) (N := some 79) (v := ?_) (a' := ?_) (bs 50 141465485311) rfl rfl (any_of HT_.out (by kernel_rfl)) (fun _ _ _ h => h) (Or.inl ⟨by rfl, ?_⟩) ?_ ?_
                                    rotate_left; (intro w'; go_simp; with_reducible rfl); rotate_left; (simp only [Act.put, List.setIfInBounds_toArray, List.set_cons_zero, List.set_cons_succ, i64_w, i32_w]; rfl)
                                    refine pure_ (i := 38) (N := some 80) (v := ?_) (a' := ?_) (bs 50 416343392255) rfl rfl (any_of HT_.out (by kernel_rfl)) (fun _ _ _ h => h) (Or.inl ⟨by rfl, ?_⟩) ?_ ?_
                                    rotate_left; (intro w'; go_simp; with_reducible rfl); rotate_left; (simp only [Act.put, List.setIfInBounds_toArray, List.set_cons_zero, List.set_cons_succ, i64_w, i32_w]; rfl)
                                    refine take_ (i := 28) (N := some 70) (v := ?_) (a' := ?_) (bs 50 416611827711) rfl rfl (take_ofW HT_.out HW_.out (by kernel_rfl)) (fun _ _ _ h => h) (Or.inl ⟨by rfl, ?_⟩) hHeld ?_ ?_
                                    rotate_left
                                    · rintro w' ⟨s0, s1, s2, s3, s4, s5, s6, s7, s8⟩
                                      go_simp
                                      with_reducible rfl
                                    rotate_left; (simp only [Act.put, List.setIfInBounds_toArray, List.set_cons_zero, List.set_cons_succ, i64_w, i32_w]; rfl)
                                    refine take_ (i := 32) (N := some 74) (v := ?_) (a' := ?_) (bs 50 420906795007) rfl rfl (take_ofW HT_.out HW_.out (by kernel_rfl)) (fun _ _ _ h => h) (Or.inl ⟨by rfl, ?_⟩) hHeld ?_ ?_
                                    rotate_left
                                    · rintro w' ⟨s0, s1, s2, s3, s4, s5, s6, s7, s8⟩
                                      go_simp
                                      with_reducible rfl
                                    rotate_left; (simp only [Act.put, List.setIfInBounds_toArray, List.set_cons_zero, List.set_cons_succ, i64_w, i32_w]; rfl)
                                    refine pure_ (i := 33) (N := some 75) (v := ?_) (a' := ?_) (bs 50 429496729599) rfl rfl (any_of HT_.out (by kernel_rfl)) (fun _ _ _ h => h) (Or.inl ⟨by rfl, ?_⟩) ?_ ?_
                                    rotate_left; (intro w'; go_simp; with_reducible rfl); rotate_left; (simp only [Act.put, List.setIfInBounds_toArray, List.set_cons_zero, List.set_cons_succ, i64_w, i32_w]; rfl)
                                    refine pure_ (i := 34) (N := some 76) (v := ?_) (a' := ?_) (bs 50 446676598783) rfl rfl (any_of HT_.out (by kernel_rfl)) (fun _ _ _ h => h) (Or.inl ⟨by rfl, ?_⟩) ?_ ?_
                                    rotate_left; (intro w'; go_simp; with_reducible rfl); rotate_left; (simp only [Act.put, List.setIfInBounds_toArray, List.set_cons_zero, List.set_cons_succ, i64_w, i32_w]; rfl)
                                    refine pure_ (i := 35) (N := some 77) (v := ?_) (a' := ?_) (bs 50 481036337151) rfl rfl (any_of HT_.out (by kernel_rfl)) (fun _ _ _ h => h) (Or.inl ⟨by rfl, ?_⟩) ?_ ?_
                                    rotate_left; (intro w'; go_simp; with_reducible rfl); rotate_left; (simp only [Act.put, List.setIfInBounds_toArray, List.set_cons_zero, List.set_cons_succ, i64_w, i32_w]; rfl)
                                    refine take_ (i := 36) (N := some 78) (v := ?_) (a' := ?_) (bs 50 549755813887) rfl rfl (take_ofW HT_.out HW_.out (by kernel_rfl)) (fun _ _ _ h => h) (Or.inl ⟨by rfl, ?_⟩) hHeld ?_ ?_
                                    rotate_left
                                    · rintro w' ⟨s0, s1, s2, s3, s4, s5, s6, s7, s8⟩
                                      go_simp
                                      with_reducible rfl
                                    rotate_left; (simp only [Act.put, List.setIfInBounds_toArray, List.set_cons_zero, List.set_cons_succ, i64_w, i32_w]; rfl)
                                    refine pure_ (i := 39) (N := some 81) (v := ?_) (a' := ?_) (bs 50 1099511627775) rfl rfl (any_of HT_.out (by kernel_rfl)) (fun _ _ _ h => h) (Or.inl ⟨by rfl, ?_⟩) ?_ ?_
                                    rotate_left; (intro w'; go_simp; with_reducible rfl); rotate_left; (simp only [Act.put, List.setIfInBounds_toArray, List.set_cons_zero, List.set_cons_succ, i64_w, i32_w]; rfl)
                                    refine pure_ (i := 40) (N := some 82) (v := ?_) (a' := ?_) (bs 50 2199023255551) rfl rfl (any_of HT_.out (by kernel_rfl)) (fun _ _ _ h => h) (Or.inl ⟨by rfl, ?_⟩) ?_ ?_
                                    rotate_left; (intro w'; go_simp; with_reducible rfl); rotate_left; (simp only [Act.put, List.setIfInBounds_toArray, List.set_cons_zero, List.set_cons_succ, i64_w, i32_w]; rfl)
                                    refine pure_ (i := 41) (N := some 83) (v := ?_) (a' := ?_) (bs 50 4398046511103) rfl rfl (any_of HT_.out (by kernel_rfl)) (fun _ _ _ h => h) (Or.inl ⟨by rfl, ?_⟩) ?_ ?_
                                    rotate_left; (intro w'; go_simp; with_reducible rfl); rotate_left; (simp only [Act.put, List.setIfInBounds_toArray, List.set_cons_zero, List.set_cons_succ, i64_w, i32_w]; rfl)
                                    refine pure_ (i := 42) (N := some 84) (v := ?_) (a' := ?_) (bs 50 8796093022207) rfl rfl (any_of HT_.out (by kernel_rfl)) (fun _ _ _ h => h) (Or.inl ⟨by rfl, ?_⟩) ?_ ?_
                                    rotate_left; (intro w'; go_simp; with_reducible rfl); rotate_left; (simp only [Act.put, List.setIfInBounds_toArray, List.set_cons_zero, List.set_cons_succ, i64_w, i32_w]; rfl)
                                    refine pure_ (i := 43) (N := some 85) (v := ?_) (a' := ?_) (bs 50 17592186044415) rfl rfl (any_of HT_.out (by kernel_rfl)) (fun _ _ _ h => h) (Or.inl ⟨by rfl, ?_⟩) ?_ ?_
                                    rotate_left; (intro w'; go_simp; with_reducible rfl); rotate_left; (simp only [Act.put, List.setIfInBounds_toArray, List.set_cons_zero, List.set_cons_succ, i64_w, i32_w]; rfl)
                                    refine pure_ (i := 44) (N := some 86) (v := ?_) (a' := ?_) (bs 50 35184372088831) rfl rfl (any_of HT_.out (by kernel_rfl)) (fun _ _ _ h => h) (Or.inl ⟨by rfl, ?_⟩) ?_ ?_
                                    rotate_left; (intro w'; go_simp; with_reducible rfl); rotate_left; (simp only [Act.put, List.setIfInBounds_toArray, List.set_cons_zero, List.set_cons_succ, i64_w, i32_w]; rfl)
                                    refine take_ (i := 45) (N := some 87) (v := ?_) (a' := ?_) (bs 50 70368744177663) rfl rfl (take_ofW HT_.out HW_.out (by kernel_rfl)) (fun _ _ _ h => h) (Or.inl ⟨by rfl, ?_⟩) hHeld ?_ ?_
                                    rotate_left
                                    · rintro w' ⟨s0, s1, s2, s3, s4, s5, s6, s7, s8⟩
                                      go_simp
                                      with_reducible rfl
                                    rotate_left; (simp only [Act.put, List.setIfInBounds_toArray, List.set_cons_zero, List.set_cons_succ, i64_w, i32_w]; rfl)
                                    refine pure_ (i := 46) (N := some 88) (v := ?_) (a' := ?_) (bs 50 140737488355327) rfl rfl (any_of HT_.out (by kernel_rfl)) (fun _ _ _ h => h) (Or.inl ⟨by rfl, ?_⟩) ?_ ?_
                                    rotate_left; (intro w'; go_simp; with_reducible rfl); rotate_left; (simp only [Act.put, List.setIfInBounds_toArray, List.set_cons_zero, List.set_cons_succ, i64_w, i32_w]; rfl)
                                    refine take_ (i := 47) (N := some 89) (v := ?_) (a' := ?_) (bs 50 281474976710655) rfl rfl (take_ofW HT_.out HW_.out (by kernel_rfl)) (fun _ _ _ h => h) (Or.inl ⟨by rfl, ?_⟩) hHeld ?_ ?_
                                    rotate_left
                                    · rintro w' ⟨s0, s1, s2, s3, s4, s5, s6, s7, s8⟩
                                      go_simp
                                      with_reducible rfl
                                    rotate_left; (simp only [Act.put, List.setIfInBounds_toArray, List.set_cons_zero, List.set_cons_succ, i64_w, i32_w]; rfl)
                                    refine pure_ (i := 48) (N := some 90) (v := ?_) (a' := ?_) (bs 50 562949953421311) rfl rfl (any_of HT_.out (by kernel_rfl)) (fun _ _ _ h => h) (Or.inl ⟨by rfl, ?_⟩) ?_ ?_
                                    rotate_left; (intro w'; go_simp; with_reducible rfl); rotate_left; (simp only [Act.put, List.setIfInBounds_toArray, List.set_cons_zero, List.set_cons_succ, i64_w, i32_w]; rfl)
                                    refine pure_ (i := 49) (N := some 91) (v := ?_) (a' := ?_) (bs 50 1125899906842623) rfl rfl (any_of HT_.out (by kernel_rfl)) (fun _ _ _ h => h) (Or.inl ⟨by rfl, ?_⟩) ?_ ?_
                                    rotate_left; (intro w'; go_simp; with_reducible rfl); rotate_left; (simp only [Act.put, List.setIfInBounds_toArray, List.set_cons_zero, List.set_cons_succ, i64_w, i32_w]; rfl)
                                    refine done_ (done_of HT_.out (by kernel_rfl)) ?_
                                    try go_wp2
                                    go_meet
                                    case rel => exact ⟨_, (decide ((rd (rd_L2 t364 x12_2) 0) < 0)), (by first | rfl | (simp; done) | (simp [*]; done)), H', ⟨by have := HK1.out; have := HK2.out; first | omega | exact Nat.le_refl _⟩, ⟨by (with_reducible repeat (first | apply Kd.S_alloc | apply Kd.S_drewN | apply Kd.S_drew)); exact HO_6.out⟩, ⟨by (with_reducible repeat (first | apply Kd.S_alloc | apply Kd.S_drewN | apply Kd.S_drew)); exact HO_8.out⟩, ⟨by (with_reducible repeat (first | apply Kd.R_alloc | apply Kd.R_drewN | apply Kd.R_drew)); exact HO_9.out⟩, ⟨by (with_reducible repeat (first | apply Kd.R_alloc | apply Kd.R_drewN | apply Kd.R_drew)); exact HO_364000.out⟩, ⟨by (with_reducible repeat (first | refine blk_drewN ?_ _ | refine blk_drew ?_ | refine blk_alloc ?_ _)); exact BK363.out⟩, ⟨by repeat (first | (with_reducible first | exact HB.out | apply below_alloc | apply pw_below_drewN | apply below_drew1 | refine below_set ?_ GE363.out) | exact HB.out)⟩⟩
                                · rw [if_neg c38] at H
                                  exact absurd H (by simp)
                              · rw [if_neg c37] at H
                                exact absurd H (by simp)
                            · replace c35 := Bool.eq_false_iff.mpr c35
                              subst c35
                              have H1 : (arboristlaw08_GraphParts.j2 k2 t356 t357 t364 x9_2 x12_2 true t360) = some r := by rw [if_neg (show ¬ (false = true) by decide)] at H; exact H
                              clear H
                              have H := H1
                              clear H1
                              have H' := Aside0.mk H
                              clear H
                              try go_wp2
                              have n0_ := Aside0.mk (Kd.S_drew HO_6.out)
                              have n1_ := Aside0.mk (Kd.S_drew HO_8.out)
                              have n2_ := Aside0.mk (Kd.R_drew HO_9.out)
                              have n3_ := Aside0.mk (Kd.R_drew HO_364000.out)
                              have n4_ := Aside0.mk (blk_drew BK363.out)
                              have n5_ := Aside0.mk (below_drew1 HB.out)
                              clear HO_6
                              clear HO_8
                              clear HO_9
                              clear HO_364000
                              clear BK363
                              clear HB
                              have HO_6 := n0_
                              have HO_8 := n1_
                              have HO_9 := n2_
                              have HO_364000 := n3_
                              have BK363 := n4_
                              have HB := n5_
                              clear n0_ n1_ n2_ n3_ n4_ n5_
                              have p371 : 0 ≤ (x12_2 : Int) := of_decide_eq_true (by first | (with_reducible assumption) | assumption)
                              have q371 : x12_2 < (t364.length : Int) := of_decide_eq_true (by first | (with_reducible assumption) | assumption)
                              obtain ⟨ad371, A371_0, c371_0, e371, hx371_0, hl371_0, hi371_0⟩ := at_L2 (Kd.S_reads' HO_8.out).2.2 x12_2 p371 q371
                              cases e371
                              obtain ⟨ce371, hce371, hMe371, hcc371⟩ := Kd.S_get HO_8.out [] x12_2 p371 (by first | exact q371 | exact of_decide_eq_true (by first | (with_reducible assumption) | assumption) | (have e_ := (Kd.S_reads' HO_8.out).1; omega))
                              obtain ⟨ve371_0, rfl, ge371_0⟩ := hMe371
                              have hv371_0 := hcc371 0 _ rfl
                              rw [Nat.add_zero, show ((Kd.slice 3 (Kd.int .i64))).sz = 1 from rfl, Nat.mul_one] at hv371_0
                              replace hv371_0 := Option.some.inj (hv371_0.symm.trans hx371_0)
                              rw [hv371_0] at ge371_0
                              have HL371_0 := Aside0.mk (show Kd.R (Kd.int .i64) 3 _ _ _ _ (rd_L2 t364 x12_2) from ge371_0)
                              clear hv371_0 ge371_0
                              clear hcc371 hce371
                              have HR371_0 := Aside0.mk hi371_0
                              have HC371_0 := Aside0.mk hl371_0
                              clear hi371_0 hl371_0
                              replace p371 := eq_true p371
                              replace q371 := eq_true q371
                              have p372 : 0 ≤ (x12_2 : Int) := of_decide_eq_true (by first | (with_reducible assumption) | assumption)
                              have q372 : x12_2 < (t364.length : Int) := of_decide_eq_true (by first | (with_reducible assumption) | assumption)
                              obtain ⟨ad372, A372_0, c372_0, e372, hx372_0, hl372_0, hi372_0⟩ := at_L2 (Kd.S_reads' HO_8.out).2.2 x12_2 p372 q372
                              obtain rfl : ad371 = ad372 := (by injection e372)
                              obtain ⟨ce372, hce372, hMe372, hcc372⟩ := Kd.S_get HO_8.out [] x12_2 p372 (by first | exact q372 | exact of_decide_eq_true (by first | (with_reducible assumption) | assumption) | (have e_ := (Kd.S_reads' HO_8.out).1; omega))
                              obtain ⟨ve372_0, rfl, ge372_0⟩ := hMe372
                              have hv372_0 := hcc372 0 _ rfl
                              rw [Nat.add_zero, show ((Kd.slice 3 (Kd.int .i64))).sz = 1 from rfl, Nat.mul_one] at hv372_0
                              replace hv372_0 := Option.some.inj (hv372_0.symm.trans hx372_0)
                              rw [hv372_0] at ge372_0
                              have HL372_0 := Aside0.mk (show Kd.R (Kd.int .i64) 3 _ _ _ _ (rd_L2 t364 x12_2) from ge372_0)
                              clear hv372_0 ge372_0
                              clear hcc372 hce372
                              have HR372_0 := Aside0.mk hi372_0
                              have HC372_0 := Aside0.mk hl372_0
                              clear hi372_0 hl372_0
                              replace p372 := eq_true p372
                              replace q372 := eq_true q372
                              have ea_ := Option.some.inj (hx371_0.symm.trans hx372_0)
                              injection ea_ with ea_ en_ ec_
                              subst ea_
                              subst ec_
                              clear en_
                              have p373 : 0 ≤ (0 : Int) := (by omega)
                              have q373 : 0 < ((rd_L2 t364 x12_2).length : Int) := of_decide_eq_true (by first | (with_reducible assumption) | assumption)
                              obtain ⟨ad373, e373, hx373_0⟩ := Kd.at_int (by repeat (first | (with_reducible exact HR372_0.out) | (with_reducible refine Kd.C_alloc ?_ _) | (with_reducible refine Kd.C_drewN ?_ _) | (with_reducible refine Kd.C_drew ?_) | exact HR372_0.out)) 0 p373 q373
                              cases e373
                              have qi373 : (0 < (rd_L2 t364 x12_2).length) = True := eq_true (by omega)
                              (try rw [show ((0 : Int)).toNat = 0 from rfl] at hx373_0)
                              (try rw [Addr.add_zero'] at hx373_0)
                              replace p373 := eq_true p373
                              replace q373 := eq_true q373
                              have p374 : 0 ≤ (x12_2 : Int) := of_decide_eq_true (by first | (with_reducible assumption) | assumption)
                              have q374 : x12_2 < (t364.length : Int) := of_decide_eq_true (by first | (with_reducible assumption) | assumption)
                              obtain ⟨ad374, A374_0, c374_0, e374, hx374_0, hl374_0, hi374_0⟩ := at_L2 (Kd.S_reads' HO_8.out).2.2 x12_2 p374 q374
                              obtain rfl : ad371 = ad374 := (by injection e374)
                              obtain ⟨ce374, hce374, hMe374, hcc374⟩ := Kd.S_get HO_8.out [] x12_2 p374 (by first | exact q374 | exact of_decide_eq_true (by first | (with_reducible assumption) | assumption) | (have e_ := (Kd.S_reads' HO_8.out).1; omega))
                              obtain ⟨ve374_0, rfl, ge374_0⟩ := hMe374
                              have hv374_0 := hcc374 0 _ rfl
                              rw [Nat.add_zero, show ((Kd.slice 3 (Kd.int .i64))).sz = 1 from rfl, Nat.mul_one] at hv374_0
                              replace hv374_0 := Option.some.inj (hv374_0.symm.trans hx374_0)
                              rw [hv374_0] at ge374_0
                              have HL374_0 := Aside0.mk (show Kd.R (Kd.int .i64) 3 _ _ _ _ (rd_L2 t364 x12_2) from ge374_0)
                              clear hv374_0 ge374_0
                              clear hcc374 hce374
                              have HR374_0 := Aside0.mk hi374_0
                              have HC374_0 := Aside0.mk hl374_0
                              clear hi374_0 hl374_0
                              replace p374 := eq_true p374
                              replace q374 := eq_true q374
                              have ea_ := Option.some.inj (hx371_0.symm.trans hx374_0)
                              injection ea_ with ea_ en_ ec_
                              subst ea_
                              subst ec_
                              clear en_
                              refine start_ (n := 50) (S := fun w' => w'.cell? (ad371.add (x12_2).toNat) = some (.slice (some ad373) (rd_L2 t364 x12_2).length c371_0) ∧ w'.cell? (ad371.add (x12_2).toNat) = some (.slice (some ad373) (rd_L2 t364 x12_2).length c371_0) ∧ w'.cell? ad373 = some (.int .i64 (rd (rd_L2 t364 x12_2) 0)) ∧ w'.cell? (ad371.add (x12_2).toNat) = some (.slice (some ad373) (rd_L2 t364 x12_2).length c371_0)) (ds := []) (bs 50 0) (by kernel_rfl) rfl rfl ⟨hx371_0, hx372_0, hx373_0, hx374_0⟩ (fun hHeld => ?_); refine with_tabW arboristlaw08_GraphParts.tab14 arboristlaw08_GraphParts.bits14 (fun HT_ HW_ => ?_)
                              generalize wr.drew = w42 at HO_6 HO_8 HO_9 HO_364000 BK363 HB HL371_0 HL372_0 HL374_0 HR371_0 HR372_0 HR374_0 hx371_0 hx372_0 hx373_0 hx374_0 hHeld ⊢
                              refine pure_ (i := 0) (N := some 42) (v := ?_) (a' := ?_) (bs 50 1) rfl rfl (any_of HT_.out (by kernel_rfl)) (fun _ _ _ h => h) (Or.inl ⟨by rfl, ?_⟩) ?_ ?_
                              rotate_left; (intro w'; go_simp; with_reducible rfl); rotate_left; (simp only [Act.put, List.setIfInBounds_toArray, List.set_cons_zero, List.set_cons_succ, i64_w, i32_w]; rfl)
                              refine pure_ (i := 1) (N := some 43) (v := ?_) (a' := ?_) (bs 50 3) rfl rfl (any_of HT_.out (by kernel_rfl)) (fun _ _ _ h => h) (Or.inl ⟨by rfl, ?_⟩) ?_ ?_
                              rotate_left; (intro w'; go_simp; with_reducible rfl); rotate_left; (simp only [Act.put, List.setIfInBounds_toArray, List.set_cons_zero, List.set_cons_succ, i64_w, i32_w]; rfl)
                              refine pure_ (i := 2) (N := some 44) (v := ?_) (a' := ?_) (bs 50 7) rfl rfl (any_of HT_.out (by kernel_rfl)) (fun _ _ _ h => h) (Or.inl ⟨by rfl, ?_⟩) ?_ ?_
                              rotate_left; (intro w'; go_simp; with_reducible rfl); rotate_left; (simp only [Act.put, List.setIfInBounds_toArray, List.set_cons_zero, List.set_cons_succ, i64_w, i32_w]; rfl)
                              refine take_ (i := 3) (N := some 45) (v := ?_) (a' := ?_) (bs 50 15) rfl rfl (take_ofW HT_.out HW_.out (by kernel_rfl)) (fun _ _ _ h => h) (Or.inl ⟨by rfl, ?_⟩) hHeld ?_ ?_
                              rotate_left
                              · rintro w' ⟨s0, s1, s2, s3⟩
                                go_simp
                                with_reducible rfl
                              rotate_left; (simp only [Act.put, List.setIfInBounds_toArray, List.set_cons_zero, List.set_cons_succ, i64_w, i32_w]; rfl)
                              refine pure_ (i := 4) (N := some 46) (v := ?_) (a' := ?_) (bs 50 31) rfl rfl (any_of HT_.out (by kernel_rfl)) (fun _ _ _ h => h) (Or.inl ⟨by rfl, ?_⟩) ?_ ?_
                              rotate_left; (intro w'; go_simp; with_reducible rfl); rotate_left; (simp only [Act.put, List.setIfInBounds_toArray, List.set_cons_zero, List.set_cons_succ, i64_w, i32_w]; rfl)
                              refine pure_ (i := 5) (N := some 47) (v := ?_) (a' := ?_) (bs 50 63) rfl rfl (any_of HT_.out (by kernel_rfl)) (fun _ _ _ h => h) (Or.inl ⟨by rfl, ?_⟩) ?_ ?_
                              rotate_left; (intro w'; go_simp; with_reducible rfl); rotate_left; (simp only [Act.put, List.setIfInBounds_toArray, List.set_cons_zero, List.set_cons_succ, i64_w, i32_w]; rfl)
                              refine pure_ (i := 6) (N := some 48) (v := ?_) (a' := ?_) (bs 50 127) rfl rfl (any_of HT_.out (by kernel_rfl)) (fun _ _ _ h => h) (Or.inl ⟨by rfl, ?_⟩) ?_ ?_
                              rotate_left; (intro w'; go_simp; with_reducible rfl); rotate_left; (simp only [Act.put, List.setIfInBounds_toArray, List.set_cons_zero, List.set_cons_succ, i64_w, i32_w]; rfl)
                              refine pure_ (i := 7) (N := some 49) (v := ?_) (a' := ?_) (bs 50 255) rfl rfl (any_of HT_.out (by kernel_rfl)) (fun _ _ _ h => h) (Or.inl ⟨by rfl, ?_⟩) ?_ ?_
                              rotate_left; (intro w'; go_simp; with_reducible rfl); rotate_left; (simp only [Act.put, List.setIfInBounds_toArray, List.set_cons_zero, List.set_cons_succ, i64_w, i32_w]; rfl)
                              refine pure_ (i := 8) (N := some 50) (v := ?_) (a' := ?_) (bs 50 511) rfl rfl (any_of HT_.out (by kernel_rfl)) (fun _ _ _ h => h) (Or.inl ⟨by rfl, ?_⟩) ?_ ?_
                              rotate_left; (intro w'; go_simp; with_reducible rfl); rotate_left; (simp only [Act.put, List.setIfInBounds_toArray, List.set_cons_zero, List.set_cons_succ, i64_w, i32_w]; rfl)
                              refine pure_ (i := 9) (N := some 51) (v := ?_) (a' := ?_) (bs 50 1023) rfl rfl (any_of HT_.out (by kernel_rfl)) (fun _ _ _ h => h) (Or.inl ⟨by rfl, ?_⟩) ?_ ?_
                              rotate_left; (intro w'; go_simp; with_reducible rfl); rotate_left; (simp only [Act.put, List.setIfInBounds_toArray, List.set_cons_zero, List.set_cons_succ, i64_w, i32_w]; rfl)
                              refine pure_ (i := 13) (N := some 55) (v := ?_) (a' := ?_) (bs 50 9215) rfl rfl (any_of HT_.out (by kernel_rfl)) (fun _ _ _ h => h) (Or.inl ⟨by rfl, ?_⟩) ?_ ?_
                              rotate_left; (intro w'; go_simp; with_reducible rfl); rotate_left; (simp only [Act.put, List.setIfInBounds_toArray, List.set_cons_zero, List.set_cons_succ, i64_w, i32_w]; rfl)
                              refine take_ (i := 10) (N := some 52) (v := ?_) (a' := ?_) (bs 50 10239) rfl rfl (take_ofW HT_.out HW_.out (by kernel_rfl)) (fun _ _ _ h => h) (Or.inl ⟨by rfl, ?_⟩) hHeld ?_ ?_
                              rotate_left
                              · rintro w' ⟨s0, s1, s2, s3⟩
                                go_simp
                                with_reducible rfl
                              rotate_left; (simp only [Act.put, List.setIfInBounds_toArray, List.set_cons_zero, List.set_cons_succ, i64_w, i32_w]; rfl)
                              refine pure_ (i := 11) (N := some 53) (v := ?_) (a' := ?_) (bs 50 12287) rfl rfl (any_of HT_.out (by kernel_rfl)) (fun _ _ _ h => h) (Or.inl ⟨by rfl, ?_⟩) ?_ ?_
                              rotate_left; (intro w'; go_simp; with_reducible rfl); rotate_left; (simp only [Act.put, List.setIfInBounds_toArray, List.set_cons_zero, List.set_cons_succ, i64_w, i32_w]; rfl)
                              refine take_ (i := 12) (N := some 54) (v := ?_) (a' := ?_) (bs 50 16383) rfl rfl (take_ofW HT_.out HW_.out (by kernel_rfl)) (fun _ _ _ h => h) (Or.inl ⟨by rfl, ?_⟩) hHeld ?_ ?_
                              rotate_left
                              · rintro w' ⟨s0, s1, s2, s3⟩
                                go_simp
                                with_reducible rfl
                              rotate_left; (simp only [Act.put, List.setIfInBounds_toArray, List.set_cons_zero, List.set_cons_succ, i64_w, i32_w]; rfl)
                              refine pure_ (i := 14) (N := some 56) (v := ?_) (a' := ?_) (bs 50 32767) rfl rfl (any_of HT_.out (by kernel_rfl)) (fun _ _ _ h => h) (Or.inl ⟨by rfl, ?_⟩) ?_ ?_
                              rotate_left; (intro w'; go_simp; with_reducible rfl); rotate_left; (simp only [Act.put, List.setIfInBounds_toArray, List.set_cons_zero, List.set_cons_succ, i64_w, i32_w]; rfl)
                              refine pure_ (i := 15) (N := some 57) (v := ?_) (a' := ?_) (bs 50 65535) rfl rfl (any_of HT_.out (by kernel_rfl)) (fun _ _ _ h => h) (Or.inl ⟨by rfl, ?_⟩) ?_ ?_
                              rotate_left; (intro w'; go_simp; with_reducible rfl); rotate_left; (simp only [Act.put, List.setIfInBounds_toArray, List.set_cons_zero, List.set_cons_succ, i64_w, i32_w]; rfl)
                              refine pure_ (i := 16) (N := some 58) (v := ?_) (a' := ?_) (bs 50 131071) rfl rfl (any_of HT_.out (by kernel_rfl)) (fun _ _ _ h => h) (Or.inl ⟨by rfl, ?_⟩) ?_ ?_
                              rotate_left; (intro w'; go_simp; with_reducible rfl); rotate_left; (simp only [Act.put, List.setIfInBounds_toArray, List.set_cons_zero, List.set_cons_succ, i64_w, i32_w]; rfl)
                              refine pure_ (i := 17) (N := some 59) (v := ?_) (a' := ?_) (bs 50 262143) rfl rfl (any_of HT_.out (by kernel_rfl)) (fun _ _ _ h => h) (Or.inl ⟨by rfl, ?_⟩) ?_ ?_
                              rotate_left; (intro w'; go_simp; with_reducible rfl); rotate_left; (simp only [Act.put, List.setIfInBounds_toArray, List.set_cons_zero, List.set_cons_succ, i64_w, i32_w]; rfl)
                              refine pure_ (i := 18) (N := some 60) (v := ?_) (a' := ?_) (bs 50 524287) rfl rfl (any_of HT_.out (by kernel_rfl)) (fun _ _ _ h => h) (Or.inl ⟨by rfl, ?_⟩) ?_ ?_
                              rotate_left; (intro w'; go_simp; with_reducible rfl); rotate_left; (simp only [Act.put, List.setIfInBounds_toArray, List.set_cons_zero, List.set_cons_succ, i64_w, i32_w]; rfl)
                              refine pure_ (i := 19) (N := some 61) (v := ?_) (a' := ?_) (bs 50 1048575) rfl rfl (any_of HT_.out (by kernel_rfl)) (fun _ _ _ h => h) (Or.inl ⟨by rfl, ?_⟩) ?_ ?_
                              rotate_left; (intro w'; go_simp; with_reducible rfl); rotate_left; (simp only [Act.put, List.setIfInBounds_toArray, List.set_cons_zero, List.set_cons_succ, i64_w, i32_w]; rfl)
                              refine take_ (i := 20) (N := some 62) (v := ?_) (a' := ?_) (bs 50 2097151) rfl rfl (take_ofW HT_.out HW_.out (by kernel_rfl)) (fun _ _ _ h => h) (Or.inl ⟨by rfl, ?_⟩) hHeld ?_ ?_
                              rotate_left
                              · rintro w' ⟨s0, s1, s2, s3⟩
                                go_simp
                                with_reducible rfl
                              rotate_left; (simp only [Act.put, List.setIfInBounds_toArray, List.set_cons_zero, List.set_cons_succ, i64_w, i32_w]; rfl)
                              refine one_ (i := 21) (N := some 63) (bs 50 4194303) rfl rfl (one_of HT_.out (by kernel_rfl)) (by decide) (fun K hK => ?_)
                              refine goes_ Tryd.func27 (by kernel_rfl) rfl #[.slice (some ad373) (rd_L2 t364 x12_2).length c371_0] (by rfl) rfl rfl (by (try simp only [List.map_toArray, List.map_cons, List.map_nil]); first | done | rfl | (simp only [List.length_drop, List.length_take]; rfl)) ?_
                              with_reducible refine (arboristref01_Rising.calls k2 _ _ (rd_L2 t364 x12_2) false _ ?side1 ?side2 A34.out).mono ?_
                              (case side1 => repeat (first | exact (by repeat (first | (with_reducible exact HR374_0.out) | (with_reducible refine Kd.C_alloc ?_ _) | (with_reducible refine Kd.C_drewN ?_ _) | (with_reducible refine Kd.C_drew ?_) | exact HR374_0.out)) | (with_reducible refine Kd.C_alloc ?_ _) | (with_reducible refine Kd.C_drewN ?_ _) | (with_reducible refine Kd.C_drew ?_)))
                              (case side2 => exact HC374_0.out)
                              rintro e w' ⟨rfl, ⟨nd, rfl⟩⟩
                              refine ⟨_, rfl, ?_⟩
                              refine hK.out _ _ ⟨hHeld.1, hHeld.2.1, hHeld.2.2.1, hHeld.2.2.2⟩ (fun hHeld => ?_)
                              clear hK K
                              refine norm_ (a' := ?_) ?_ ?_
                              rotate_left
                              · show Act.put _ (some 63) _ = _
                                simp only [Act.put, List.setIfInBounds_toArray, List.set_cons_zero, List.set_cons_succ, i64_w, i32_w]
                                rfl
                              refine pure_ (i := 22) (N := some 64) (v := ?_) (a' := ?_) (bs 50 8388607) rfl rfl (any_of HT_.out (by kernel_rfl)) (fun _ _ _ h => h) (Or.inl ⟨by rfl, ?_⟩) ?_ ?_
                              rotate_left; (intro w'; go_simp; with_reducible rfl); rotate_left; (simp only [Act.put, List.setIfInBounds_toArray, List.set_cons_zero, List.set_cons_succ, i64_w, i32_w]; rfl)
                              refine pure_ (i := 23) (N := some 65) (v := ?_) (a' := ?_) (bs 50 16777215) rfl rfl (any_of HT_.out (by kernel_rfl)) (fun _ _ _ h => h) (Or.inl ⟨by rfl, ?_⟩) ?_ ?_
                              rotate_left; (intro w'; go_simp; with_reducible rfl); rotate_left; (simp only [Act.put, List.setIfInBounds_toArray, List.set_cons_zero, List.set_cons_succ, i64_w, i32_w]; rfl)
                              refine pure_ (i := 24) (N := some 66) (v := ?_) (a' := ?_) (bs 50 33554431) rfl rfl (any_of HT_.out (by kernel_rfl)) (fun _ _ _ h => h) (Or.inl ⟨by rfl, ?_⟩) ?_ ?_
                              rotate_left; (intro w'; go_simp; with_reducible rfl); rotate_left; (simp only [Act.put, List.setIfInBounds_toArray, List.set_cons_zero, List.set_cons_succ, i64_w, i32_w]; rfl)
                              refine pure_ (i := 25) (N := some 67) (v := undef) (a' := ?_) (bs 50 67108863) rfl rfl (any_of HT_.out (by kernel_rfl)) (fun _ _ _ h => h) (Or.inr ⟨by rfl, rfl⟩) ?_ ?_
                              rotate_left; (simp only [Act.put, List.setIfInBounds_toArray, List.set_cons_zero, List.set_cons_succ, i64_w, i32_w]; rfl)
                              refine pure_ (i := 26) (N := some 68) (v := undef) (a' := ?_) (bs 50 134217727) rfl rfl (any_of HT_.out (by kernel_rfl)) (fun _ _ _ h => h) (Or.inr ⟨by rfl, rfl⟩) ?_ ?_
                              rotate_left; (simp only [Act.put, List.setIfInBounds_toArray, List.set_cons_zero, List.set_cons_succ, i64_w, i32_w]; rfl)
                              refine pure_ (i := 27) (N := some 69) (v := undef) (a' := ?_) (bs 50 268435455) rfl rfl (any_of HT_.out (by kernel_rfl)) (fun _ _ _ h => h) (Or.inr ⟨by rfl, rfl⟩) ?_ ?_
                              rotate_left; (simp only [Act.put, List.setIfInBounds_toArray, List.set_cons_zero, List.set_cons_succ, i64_w, i32_w]; rfl)
                              refine pure_ (i := 28) (N := some 70) (v := undef) (a' := ?_) (bs 50 536870911) rfl rfl (any_of HT_.out (by kernel_rfl)) (fun _ _ _ h => h) (Or.inr ⟨by rfl, rfl⟩) ?_ ?_
                              rotate_left; (simp only [Act.put, List.setIfInBounds_toArray, List.set_cons_zero, List.set_cons_succ, i64_w, i32_w]; rfl)
                              refine pure_ (i := 29) (N := some 71) (v := undef) (a' := ?_) (bs 50 1073741823) rfl rfl (any_of HT_.out (by kernel_rfl)) (fun _ _ _ h => h) (Or.inr ⟨by rfl, rfl⟩) ?_ ?_
                              rotate_left; (simp only [Act.put, List.setIfInBounds_toArray, List.set_cons_zero, List.set_cons_succ, i64_w, i32_w]; rfl)
                              refine pure_ (i := 30) (N := some 72) (v := undef) (a' := ?_) (bs 50 2147483647) rfl rfl (any_of HT_.out (by kernel_rfl)) (fun _ _ _ h => h) (Or.inr ⟨by rfl, rfl⟩) ?_ ?_
                              rotate_left; (simp only [Act.put, List.setIfInBounds_toArray, List.set_cons_zero, List.set_cons_succ, i64_w, i32_w]; rfl)
                              refine pure_ (i := 31) (N := some 73) (v := undef) (a' := ?_) (bs 50 4294967295) rfl rfl (any_of HT_.out (by kernel_rfl)) (fun _ _ _ h => h) (Or.inr ⟨by rfl, rfl⟩) ?_ ?_
                              rotate_left; (simp only [Act.put, List.setIfInBounds_toArray, List.set_cons_zero, List.set_cons_succ, i64_w, i32_w]; rfl)
                              refine pure_ (i := 32) (N := some 74) (v := undef) (a' := ?_) (bs 50 8589934591) rfl rfl (any_of HT_.out (by kernel_rfl)) (fun _ _ _ h => h) (Or.inr ⟨by rfl, rfl⟩) ?_ ?_
                              rotate_left; (simp only [Act.put, List.setIfInBounds_toArray, List.set_cons_zero, List.set_cons_succ, i64_w, i32_w]; rfl)
                              refine pure_ (i := 33) (N := some 75) (v := undef) (a' := ?_) (bs 50 17179869183) rfl rfl (any_of HT_.out (by kernel_rfl)) (fun _ _ _ h => h) (Or.inr ⟨by rfl, rfl⟩) ?_ ?_
                              rotate_left; (simp only [Act.put, List.setIfInBounds_toArray, List.set_cons_zero, List.set_cons_succ, i64_w, i32_w]; rfl)
                              refine pure_ (i := 34) (N := some 76) (v := undef) (a' := ?_) (bs 50 34359738367) rfl rfl (any_of HT_.out (by kernel_rfl)) (fun _ _ _ h => h) (Or.inr ⟨by rfl, rfl⟩) ?_ ?_
                              rotate_left; (simp only [Act.put, List.setIfInBounds_toArray, List.set_cons_zero, List.set_cons_succ, i64_w, i32_w]; rfl)
                              refine pure_ (i := 35) (N := some 77) (v := undef) (a' := ?_) (bs 50 68719476735) rfl rfl (any_of HT_.out (by kernel_rfl)) (fun _ _ _ h => h) (Or.inr ⟨by rfl, rfl⟩) ?_ ?_
                              rotate_left; (simp only [Act.put, List.setIfInBounds_toArray, List.set_cons_zero, List.set_cons_succ, i64_w, i32_w]; rfl)
                              refine pure_ (i := 36) (N := some 78) (v := undef) (a' := ?_) (bs 50 137438953471) rfl rfl (any_of HT_.out (by kernel_rfl)) (fun _ _ _ h => h) (Or.inr ⟨by rfl, rfl⟩) ?_ ?_
                              rotate_left; (simp only [Act.put, List.setIfInBounds_toArray, List.set_cons_zero, List.set_cons_succ, i64_w, i32_w]; rfl)
                              refine pure_ (i := 37) (N := some 79) (v := undef) (a' := ?_) (bs 50 274877906943) rfl rfl (any_of HT_.out (by kernel_rfl)) (fun _ _ _ h => h) (Or.inr ⟨by rfl, rfl⟩) ?_ ?_
                              rotate_left; (simp only [Act.put, List.setIfInBounds_toArray, List.set_cons_zero, List.set_cons_succ, i64_w, i32_w]; rfl)
                              refine pure_ (i := 38) (N := some 80) (v := undef) (a' := ?_) (bs 50 549755813887) rfl rfl (any_of HT_.out (by kernel_rfl)) (fun _ _ _ h => h) (Or.inr ⟨by rfl, rfl⟩) ?_ ?_
                              rotate_left; (simp only [Act.put, List.setIfInBounds_toArray, List.set_cons_zero, List.set_cons_succ, i64_w, i32_w]; rfl)
                              refine pure_ (i := 39) (N := some 81) (v := undef) (a' := ?_) (bs 50 1099511627775) rfl rfl (any_of HT_.out (by kernel_rfl)) (fun _ _ _ h => h) (Or.inr ⟨by rfl, rfl⟩) ?_ ?_
                              rotate_left; (simp only [Act.put, List.setIfInBounds_toArray, List.set_cons_zero, List.set_cons_succ, i64_w, i32_w]; rfl)
                              refine pure_ (i := 40) (N := some 82) (v := ?_) (a' := ?_) (bs 50 2199023255551) rfl rfl (any_of HT_.out (by kernel_rfl)) (fun _ _ _ h => h) (Or.inl ⟨by rfl, ?_⟩) ?_ ?_
                              rotate_left; (intro w'; go_simp; with_reducible rfl); rotate_left; (simp only [Act.put, List.setIfInBounds_toArray, List.set_cons_zero, List.set_cons_succ, i64_w, i32_w]; rfl)
                              refine pure_ (i := 41) (N := some 83) (v := ?_) (a' := ?_) (bs 50 4398046511103) rfl rfl (any_of HT_.out (by kernel_rfl)) (fun _ _ _ h => h) (Or.inl ⟨by rfl, ?_⟩) ?_ ?_
                              rotate_left; (intro w'; go_simp; with_reducible rfl); rotate_left; (simp only [Act.put, List.setIfInBounds_toArray, List.set_cons_zero, List.set_cons_succ, i64_w, i32_w]; rfl)
                              refine pure_ (i := 42) (N := some 84) (v := undef) (a' := ?_) (bs 50 8796093022207) rfl rfl (any_of HT_.out (by kernel_rfl)) (fun _ _ _ h => h) (Or.inr ⟨by rfl, rfl⟩) ?_ ?_
                              rotate_left; (simp only [Act.put, List.setIfInBounds_toArray, List.set_cons_zero, List.set_cons_succ, i64_w, i32_w]; rfl)
                              refine pure_ (i := 43) (N := some 85) (v := undef) (a' := ?_) (bs 50 17592186044415) rfl rfl (any_of HT_.out (by kernel_rfl)) (fun _ _ _ h => h) (Or.inr ⟨by rfl, rfl⟩) ?_ ?_
                              rotate_left; (simp only [Act.put, List.setIfInBounds_toArray, List.set_cons_zero, List.set_cons_succ, i64_w, i32_w]; rfl)
                              refine pure_ (i := 44) (N := some 86) (v := undef) (a' := ?_) (bs 50 35184372088831) rfl rfl (any_of HT_.out (by kernel_rfl)) (fun _ _ _ h => h) (Or.inr ⟨by rfl, rfl⟩) ?_ ?_
                              rotate_left; (simp only [Act.put, List.setIfInBounds_toArray, List.set_cons_zero, List.set_cons_succ, i64_w, i32_w]; rfl)
                              refine pure_ (i := 45) (N := some 87) (v := undef) (a' := ?_) (bs 50 70368744177663) rfl rfl (any_of HT_.out (by kernel_rfl)) (fun _ _ _ h => h) (Or.inr ⟨by rfl, rfl⟩) ?_ ?_
                              rotate_left; (simp only [Act.put, List.setIfInBounds_toArray, List.set_cons_zero, List.set_cons_succ, i64_w, i32_w]; rfl)
                              refine pure_ (i := 46) (N := some 88) (v := undef) (a' := ?_) (bs 50 140737488355327) rfl rfl (any_of HT_.out (by kernel_rfl)) (fun _ _ _ h => h) (Or.inr ⟨by rfl, rfl⟩) ?_ ?_
                              rotate_left; (simp only [Act.put, List.setIfInBounds_toArray, List.set_cons_zero, List.set_cons_succ, i64_w, i32_w]; rfl)
                              refine pure_ (i := 47) (N := some 89) (v := undef) (a' := ?_) (bs 50 281474976710655) rfl rfl (any_of HT_.out (by kernel_rfl)) (fun _ _ _ h => h) (Or.inr ⟨by rfl, rfl⟩) ?_ ?_
                              rotate_left; (simp only [Act.put, List.setIfInBounds_toArray, List.set_cons_zero, List.set_cons_succ, i64_w, i32_w]; rfl)
                              refine pure_ (i := 48) (N := some 90) (v := undef) (a' := ?_) (bs 50 562949953421311) rfl rfl (any_of HT_.out (by kernel_rfl)) (fun _ _ _ h => h) (Or.inr ⟨by rfl, rfl⟩) ?_ ?_
                              rotate_left; (simp only [Act.put, List.setIfInBounds_toArray, List.set_cons_zero, List.set_cons_succ, i64_w, i32_w]; rfl)
                              refine pure_ (i := 49) (N := some 91) (v := ?_) (a' := ?_) (bs 50 1125899906842623) rfl rfl (any_of HT_.out (by kernel_rfl)) (fun _ _ _ h => h) (Or.inl ⟨by rfl, ?_⟩) ?_ ?_
                              rotate_left; (intro w'; go_simp; with_reducible rfl); rotate_left; (simp only [Act.put, List.setIfInBounds_toArray, List.set_cons_zero, List.set_cons_succ, i64_w, i32_w]; rfl)
                              refine done_ (done_of HT_.out (by kernel_rfl)) ?_
                              try go_wp2
                              go_meet
                              case rel => exact ⟨_, (true), (by first | rfl | (simp; done) | (simp [*]; done)), H', ⟨by have := HK1.out; have := HK2.out; first | omega | exact Nat.le_refl _⟩, ⟨by (with_reducible repeat (first | apply Kd.S_alloc | apply Kd.S_drewN | apply Kd.S_drew)); exact HO_6.out⟩, ⟨by (with_reducible repeat (first | apply Kd.S_alloc | apply Kd.S_drewN | apply Kd.S_drew)); exact HO_8.out⟩, ⟨by (with_reducible repeat (first | apply Kd.R_alloc | apply Kd.R_drewN | apply Kd.R_drew)); exact HO_9.out⟩, ⟨by (with_reducible repeat (first | apply Kd.R_alloc | apply Kd.R_drewN | apply Kd.R_drew)); exact HO_364000.out⟩, ⟨by (with_reducible repeat (first | refine blk_drewN ?_ _ | refine blk_drew ?_ | refine blk_alloc ?_ _)); exact BK363.out⟩, ⟨by repeat (first | (with_reducible first | exact HB.out | apply below_alloc | apply pw_below_drewN | apply below_drew1 | refine below_set ?_ GE363.out) | exact HB.out)⟩⟩
                        · rw [if_neg c31] at H
                          exact absurd H (by simp)
                    · rw [if_neg c28] at H
                      exact absurd H (by simp)
                  case rest =>
                    clear HC26
                    try clear c2
                    try clear p2
                    try clear c3
                    try clear p3
                    try clear q3
                    try clear hx3
                    try clear qi3
                    try clear c27
                    try clear c28
                    try clear c31
                    try clear c35
                    try clear c37
                    try clear p37
                    try clear q37
                    try clear hx37
                    try clear qi37
                    try clear c38
                    try clear hx371_0
                    try clear hx372_0
                    try clear hx373_0
                    try clear hx374_0
                    try clear p371
                    try clear p372
                    try clear p373
                    try clear p374
                    try clear q371
                    try clear q372
                    try clear q373
                    try clear q374
                    obtain ⟨kq, x91_25, rfl, HA, HJ25, HO_6, HO_8, HO_9, HO_364000, BK363, HB⟩ := hcut
                    cases kq with
                    | zero => exact absurd HA.out (by simp [arboristlaw08_GraphParts.j2])
                    | succ kj25 =>
                      have H := HA.out
                      clear HA
                      simp only [arboristlaw08_GraphParts.j2] at H
                      by_cases c43 : x91_25 = true
                      · subst c43
                        have H1 : (some false) = some r := by rw [if_pos rfl] at H; exact H
                        clear H
                        have H := H1
                        clear H1
                        exact absurd ((Option.some.inj H).trans HT_.out) (by decide)
                      · replace c43 := Bool.eq_false_iff.mpr c43
                        subst c43
                        have H1 : (if 0 ≤ x12_2 then (if x12_2 < (t364.length : Int) then (if 0 < ((rd_L2 t364 x12_2).length : Int) then (arboristlaw08_GraphParts.l2 kj25 t356 t357 t364 x9_2 (rd (rd_L2 t364 x12_2) 0) x12_2 0 t360) else (none)) else (none)) else (none)) = some r := by rw [if_neg (show ¬ (false = true) by decide)] at H; exact H
                        clear H
                        have H := H1
                        clear H1
                        by_cases c44 : 0 ≤ x12_2
                        · rw [if_pos c44] at H
                          have c44b0 : decide (0 ≤ x12_2) = true := decide_eq_true c44
                          clear c44
                          by_cases c45 : x12_2 < (t364.length : Int)
                          · rw [if_pos c45] at H
                            have c45b0 : decide (x12_2 < (t364.length : Int)) = true := decide_eq_true c45
                            clear c45
                            by_cases c46 : 0 < ((rd_L2 t364 x12_2).length : Int)
                            · rw [if_pos c46] at H
                              have c46b0 : decide (0 < ((rd_L2 t364 x12_2).length : Int)) = true := decide_eq_true c46
                              have c46b1 : decide (0 < (rd_L2 t364 x12_2).length) = true := decide_eq_true (by omega)
                              clear c46
                              have H' := Aside0.mk H
                              clear H
                              have p381 : 0 ≤ (x12_2 : Int) := of_decide_eq_true (by first | (with_reducible assumption) | assumption)
                              have q381 : x12_2 < (t364.length : Int) := of_decide_eq_true (by first | (with_reducible assumption) | assumption)
                              obtain ⟨ad381, A381_0, c381_0, e381, hx381_0, hl381_0, hi381_0⟩ := at_L2 (Kd.S_reads' HO_8.out).2.2 x12_2 p381 q381
                              cases e381
                              obtain ⟨ce381, hce381, hMe381, hcc381⟩ := Kd.S_get HO_8.out [] x12_2 p381 (by first | exact q381 | exact of_decide_eq_true (by first | (with_reducible assumption) | assumption) | (have e_ := (Kd.S_reads' HO_8.out).1; omega))
                              obtain ⟨ve381_0, rfl, ge381_0⟩ := hMe381
                              have hv381_0 := hcc381 0 _ rfl
                              rw [Nat.add_zero, show ((Kd.slice 3 (Kd.int .i64))).sz = 1 from rfl, Nat.mul_one] at hv381_0
                              replace hv381_0 := Option.some.inj (hv381_0.symm.trans hx381_0)
                              rw [hv381_0] at ge381_0
                              have HL381_0 := Aside0.mk (show Kd.R (Kd.int .i64) 3 _ _ _ _ (rd_L2 t364 x12_2) from ge381_0)
                              clear hv381_0 ge381_0
                              clear hcc381 hce381
                              have HR381_0 := Aside0.mk hi381_0
                              have HC381_0 := Aside0.mk hl381_0
                              clear hi381_0 hl381_0
                              replace p381 := eq_true p381
                              replace q381 := eq_true q381
                              have p382 : 0 ≤ (0 : Int) := (by omega)
                              have q382 : 0 < ((rd_L2 t364 x12_2).length : Int) := of_decide_eq_true (by first | (with_reducible assumption) | assumption)
                              obtain ⟨ad382, e382, hx382_0⟩ := Kd.at_int (by repeat (first | (with_reducible exact HR381_0.out) | (with_reducible refine Kd.C_alloc ?_ _) | (with_reducible refine Kd.C_drewN ?_ _) | (with_reducible refine Kd.C_drew ?_) | exact HR381_0.out)) 0 p382 q382
                              cases e382
                              have qi382 : (0 < (rd_L2 t364 x12_2).length) = True := eq_true (by omega)
                              (try rw [show ((0 : Int)).toNat = 0 from rfl] at hx382_0)
                              (try rw [Addr.add_zero'] at hx382_0)
                              replace p382 := eq_true p382
                              replace q382 := eq_true q382
                              go_wp2
                              go_loopg [13] kj25 (fun kq v13 w' => ∃ (x9_4 : List Int) (x13_4 : Int), v13 = .int .i64 x13_4 ∧ Aside0 (arboristlaw08_GraphParts.l2 kq t356 t357 t364 x9_4 (rd (rd_L2 t364 x12_2) 0) x12_2 x13_4 t360 = some r) ∧ Aside0 (kq ≤ kj25) ∧ Aside0 (Kd.S (Kd.slice 4 Kd.bool) 37 w' w.heap.size (fun _ => True) (.slice Ao11 t357.length co11) t357) ∧ Aside0 (Kd.S (Kd.slice 3 (Kd.int .i64)) 34 w' w.heap.size (fun k_ => some k_ ≠ (v368 : Value).ownBlock) (.slice (some ad381) t364.length co27) t364) ∧ Aside0 (Kd.R (Kd.int .i64) 3 w' w.heap.size (fun _ => True) v368 x9_4) ∧ Aside0 (Kd.R (Kd.int .u64) 30 w' w.heap.size (fun _ => True) (.slice Ao14 t360.length co14) t360) ∧ Aside0 (w'.heap[gb363]? = some (.cells #[(.slice Ao14 t360.length co14)] 25 (0, 0))) ∧ Aside0 (Below w.heap.size w w'))
                              case atStart => exact ⟨(x9_2), (0), (by first | rfl | (simp; done) | (simp [*]; done)), H', ⟨Nat.le_refl _⟩, ⟨by (with_reducible repeat (first | apply Kd.S_alloc | apply Kd.S_drewN | apply Kd.S_drew)); exact HO_6.out⟩, ⟨by (with_reducible repeat (first | apply Kd.S_alloc | apply Kd.S_drewN | apply Kd.S_drew)); exact HO_8.out⟩, ⟨by (with_reducible repeat (first | apply Kd.R_alloc | apply Kd.R_drewN | apply Kd.R_drew)); exact HO_9.out⟩, ⟨by (with_reducible repeat (first | apply Kd.R_alloc | apply Kd.R_drewN | apply Kd.R_drew)); exact HO_364000.out⟩, ⟨by (with_reducible repeat (first | refine blk_drewN ?_ _ | refine blk_drew ?_ | refine blk_alloc ?_ _)); exact BK363.out⟩, ⟨by repeat (first | (with_reducible first | exact HB.out | apply below_alloc | apply pw_below_drewN | apply below_drew1 | refine below_set ?_ GE363.out) | exact HB.out)⟩⟩
                              case round =>
                                clear H'
                                try clear c2
                                try clear p2
                                try clear c3
                                try clear p3
                                try clear q3
                                try clear hx3
                                try clear qi3
                                try clear c4
                                try clear c27
                                try clear c28
                                try clear c31
                                try clear c35
                                try clear c37
                                try clear p37
                                try clear q37
                                try clear hx37
                                try clear qi37
                                try clear c38
                                try clear p38
                                try clear q38
                                try clear hx38
                                try clear qi38
                                try clear c43
                                try clear c44
                                try clear c44b0
                                try clear c45
                                try clear c45b0
                                try clear c46
                                try clear c46b0
                                try clear c46b1
                                try clear hx371_0
                                try clear hx372_0
                                try clear hx373_0
                                try clear hx374_0
                                try clear hx381_0
                                try clear hx382_0
                                try clear p2
                                try clear p3
                                try clear p37
                                try clear p371
                                try clear p372
                                try clear p373
                                try clear p374
                                try clear p381
                                try clear p382
                                try clear q3
                                try clear q37
                                try clear q371
                                try clear q372
                                try clear q373
                                try clear q374
                                try clear q381
                                try clear q382
                                obtain ⟨x9_4, x13_4, rfl, HA, HK4, HO_6, HO_8, HO_9, HO_364000, BK363, HB⟩ := hrel
                                cases gk with
                                | zero => exact absurd HA.out (by simp [arboristlaw08_GraphParts.l2])
                                | succ k4 =>
                                  have H := HA.out
                                  clear HA
                                  simp only [arboristlaw08_GraphParts.l2] at H
                                  by_cases c47 : 0 ≤ x12_2
                                  · rw [if_pos c47] at H
                                    have c47b0 : decide (0 ≤ x12_2) = true := decide_eq_true c47
                                    clear c47
                                    by_cases c48 : x12_2 < (t364.length : Int)
                                    · rw [if_pos c48] at H
                                      have c48b0 : decide (x12_2 < (t364.length : Int)) = true := decide_eq_true c48
                                      clear c48
                                      by_cases c49 : x13_4 < ((rd_L2 t364 x12_2).length : Int)
                                      · rw [if_pos c49] at H
                                        have c49b0 : decide (x13_4 < ((rd_L2 t364 x12_2).length : Int)) = true := decide_eq_true c49
                                        clear c49
                                        by_cases c50 : 0 ≤ x13_4
                                        · rw [if_pos c50] at H
                                          have c50b0 : decide (0 ≤ x13_4) = true := decide_eq_true c50
                                          clear c50
                                          by_cases c51 : 0 ≤ (rd (rd_L2 t364 x12_2) x13_4)
                                          · rw [if_pos c51] at H
                                            have c51b0 : decide (0 ≤ (rd (rd_L2 t364 x12_2) x13_4)) = true := decide_eq_true c51
                                            clear c51
                                            by_cases c52 : (rd (rd_L2 t364 x12_2) x13_4) < (x9_4.length : Int)
                                            · rw [if_pos c52] at H
                                              have c52b0 : decide ((rd (rd_L2 t364 x12_2) x13_4) < (x9_4.length : Int)) = true := decide_eq_true c52
                                              clear c52
                                              by_cases c53 : (rd x9_4 (rd (rd_L2 t364 x12_2) x13_4)) ≥ 0
                                              · rw [if_pos c53] at H
                                                have c53b0 : decide (0 ≤ (rd x9_4 (rd (rd_L2 t364 x12_2) x13_4))) = true := decide_eq_true c53
                                                clear c53
                                                exact absurd ((Option.some.inj H).trans HT_.out) (by decide)
                                              · rw [if_neg c53] at H
                                                have c53b0 : decide (0 ≤ (rd x9_4 (rd (rd_L2 t364 x12_2) x13_4))) = false := decide_eq_false c53
                                                clear c53
                                                obtain ⟨y389, hy389⟩ : ∃ y_ : List Int, y_ = (x9_4.set ((rd (rd_L2 t364 x12_2) x13_4) : Int).toNat x12_2) := ⟨_, rfl⟩
                                                replace H : (arboristlaw08_GraphParts.l2 k4 t356 t357 t364 y389 (rd (rd_L2 t364 x12_2) 0) x12_2 (wrap64 (x13_4 + 1)) t360) = some r := by first | (rw [hy389]; with_reducible exact H) | (have H2_ := (Option.bind_some _ _).symm.trans H; rw [hy389]; with_reducible exact H2_) | (have H2_ := (Option.bind_some _ _).symm.trans H; with_reducible exact H2_) | with_reducible exact H | (rw [hy389]; exact H) | exact H
                                                have Ny389 := Aside0.mk hy389
                                                clear hy389
                                                have H' := Aside0.mk H
                                                clear H
                                                have p383 : 0 ≤ (x12_2 : Int) := of_decide_eq_true (by first | (with_reducible assumption) | assumption)
                                                have q383 : x12_2 < (t364.length : Int) := of_decide_eq_true (by first | (with_reducible assumption) | assumption)
                                                obtain ⟨ad383, A383_0, c383_0, e383, hx383_0, hl383_0, hi383_0⟩ := at_L2 (Kd.S_reads' HO_8.out).2.2 x12_2 p383 q383
                                                obtain rfl : ad381 = ad383 := (by injection e383)
                                                obtain ⟨ce383, hce383, hMe383, hcc383⟩ := Kd.S_get HO_8.out [] x12_2 p383 (by first | exact q383 | exact of_decide_eq_true (by first | (with_reducible assumption) | assumption) | (have e_ := (Kd.S_reads' HO_8.out).1; omega))
                                                obtain ⟨ve383_0, rfl, ge383_0⟩ := hMe383
                                                have hv383_0 := hcc383 0 _ rfl
                                                rw [Nat.add_zero, show ((Kd.slice 3 (Kd.int .i64))).sz = 1 from rfl, Nat.mul_one] at hv383_0
                                                replace hv383_0 := Option.some.inj (hv383_0.symm.trans hx383_0)
                                                rw [hv383_0] at ge383_0
                                                have HL383_0 := Aside0.mk (show Kd.R (Kd.int .i64) 3 _ _ _ _ (rd_L2 t364 x12_2) from ge383_0)
                                                clear hv383_0 ge383_0
                                                clear hcc383 hce383
                                                have HR383_0 := Aside0.mk hi383_0
                                                have HC383_0 := Aside0.mk hl383_0
                                                clear hi383_0 hl383_0
                                                replace p383 := eq_true p383
                                                replace q383 := eq_true q383
                                                have p384 : 0 ≤ (x12_2 : Int) := of_decide_eq_true (by first | (with_reducible assumption) | assumption)
                                                have q384 : x12_2 < (t364.length : Int) := of_decide_eq_true (by first | (with_reducible assumption) | assumption)
                                                obtain ⟨ad384, A384_0, c384_0, e384, hx384_0, hl384_0, hi384_0⟩ := at_L2 (Kd.S_reads' HO_8.out).2.2 x12_2 p384 q384
                                                obtain rfl : ad381 = ad384 := (by injection e384)
                                                obtain ⟨ce384, hce384, hMe384, hcc384⟩ := Kd.S_get HO_8.out [] x12_2 p384 (by first | exact q384 | exact of_decide_eq_true (by first | (with_reducible assumption) | assumption) | (have e_ := (Kd.S_reads' HO_8.out).1; omega))
                                                obtain ⟨ve384_0, rfl, ge384_0⟩ := hMe384
                                                have hv384_0 := hcc384 0 _ rfl
                                                rw [Nat.add_zero, show ((Kd.slice 3 (Kd.int .i64))).sz = 1 from rfl, Nat.mul_one] at hv384_0
                                                replace hv384_0 := Option.some.inj (hv384_0.symm.trans hx384_0)
                                                rw [hv384_0] at ge384_0
                                                have HL384_0 := Aside0.mk (show Kd.R (Kd.int .i64) 3 _ _ _ _ (rd_L2 t364 x12_2) from ge384_0)
                                                clear hv384_0 ge384_0
                                                clear hcc384 hce384
                                                have HR384_0 := Aside0.mk hi384_0
                                                have HC384_0 := Aside0.mk hl384_0
                                                clear hi384_0 hl384_0
                                                replace p384 := eq_true p384
                                                replace q384 := eq_true q384
                                                have ea_ := Option.some.inj (hx383_0.symm.trans hx384_0)
                                                injection ea_ with ea_ en_ ec_
                                                subst ea_
                                                subst ec_
                                                clear en_
                                                have p385 : 0 ≤ (x13_4 : Int) := of_decide_eq_true (by first | (with_reducible assumption) | assumption)
                                                have q385 : x13_4 < ((rd_L2 t364 x12_2).length : Int) := of_decide_eq_true (by first | (with_reducible assumption) | assumption)
                                                obtain ⟨ad385, e385, hx385_0⟩ := Kd.at_int (by repeat (first | (with_reducible exact HR384_0.out) | (with_reducible refine Kd.C_alloc ?_ _) | (with_reducible refine Kd.C_drewN ?_ _) | (with_reducible refine Kd.C_drew ?_) | exact HR384_0.out)) x13_4 p385 q385
                                                cases e385
                                                replace p385 := eq_true p385
                                                replace q385 := eq_true q385
                                                obtain ⟨Ao55, co55, eo55⟩ := Kd.R_slice HO_9.out
                                                subst eo55
                                                have p386 : 0 ≤ ((rd (rd_L2 t364 x12_2) x13_4) : Int) := of_decide_eq_true (by first | (with_reducible assumption) | assumption)
                                                have q386 : (rd (rd_L2 t364 x12_2) x13_4) < (x9_4.length : Int) := of_decide_eq_true (by first | (with_reducible assumption) | assumption)
                                                obtain ⟨ad386, e386, hx386_0⟩ := Kd.at_int (Kd.R_reads' HO_9.out).2.2 (rd (rd_L2 t364 x12_2) x13_4) p386 q386
                                                cases e386
                                                replace p386 := eq_true p386
                                                replace q386 := eq_true q386
                                                have p387 : 0 ≤ (x12_2 : Int) := of_decide_eq_true (by first | (with_reducible assumption) | assumption)
                                                have q387 : x12_2 < (t364.length : Int) := of_decide_eq_true (by first | (with_reducible assumption) | assumption)
                                                obtain ⟨ad387, A387_0, c387_0, e387, hx387_0, hl387_0, hi387_0⟩ := at_L2 (Kd.S_reads' HO_8.out).2.2 x12_2 p387 q387
                                                obtain rfl : ad381 = ad387 := (by injection e387)
                                                obtain ⟨ce387, hce387, hMe387, hcc387⟩ := Kd.S_get HO_8.out [] x12_2 p387 (by first | exact q387 | exact of_decide_eq_true (by first | (with_reducible assumption) | assumption) | (have e_ := (Kd.S_reads' HO_8.out).1; omega))
                                                obtain ⟨ve387_0, rfl, ge387_0⟩ := hMe387
                                                have hv387_0 := hcc387 0 _ rfl
                                                rw [Nat.add_zero, show ((Kd.slice 3 (Kd.int .i64))).sz = 1 from rfl, Nat.mul_one] at hv387_0
                                                replace hv387_0 := Option.some.inj (hv387_0.symm.trans hx387_0)
                                                rw [hv387_0] at ge387_0
                                                have HL387_0 := Aside0.mk (show Kd.R (Kd.int .i64) 3 _ _ _ _ (rd_L2 t364 x12_2) from ge387_0)
                                                clear hv387_0 ge387_0
                                                clear hcc387 hce387
                                                have HR387_0 := Aside0.mk hi387_0
                                                have HC387_0 := Aside0.mk hl387_0
                                                clear hi387_0 hl387_0
                                                replace p387 := eq_true p387
                                                replace q387 := eq_true q387
                                                have ea_ := Option.some.inj (hx383_0.symm.trans hx387_0)
                                                injection ea_ with ea_ en_ ec_
                                                subst ea_
                                                subst ec_
                                                clear en_
                                                have p388 : 0 ≤ (x13_4 : Int) := of_decide_eq_true (by first | (with_reducible assumption) | assumption)
                                                have q388 : x13_4 < ((rd_L2 t364 x12_2).length : Int) := of_decide_eq_true (by first | (with_reducible assumption) | assumption)
                                                obtain ⟨ad388, e388, hx388_0⟩ := Kd.at_int (by repeat (first | (with_reducible exact HR387_0.out) | (with_reducible refine Kd.C_alloc ?_ _) | (with_reducible refine Kd.C_drewN ?_ _) | (with_reducible refine Kd.C_drew ?_) | exact HR387_0.out)) x13_4 p388 q388
                                                cases e388
                                                replace p388 := eq_true p388
                                                replace q388 := eq_true q388
                                                have p54 : 0 ≤ ((rd (rd_L2 t364 x12_2) x13_4) : Int) := of_decide_eq_true (by first | (with_reducible assumption) | assumption)
                                                have q54 : ((rd (rd_L2 t364 x12_2) x13_4) : Int) < ((x9_4.length : Int) : Int) := of_decide_eq_true (by first | (with_reducible assumption) | assumption)
                                                obtain ⟨go54, co54, eo54, gb54, gl54, cl54, HG54⟩ := Kd.R_form HO_9.out (by omega)
                                                (first | cases eo54 | (injection eo54 with ea_ en_ ec_; (first | subst ea_ | (injection ea_ with ea_; subst ea_)); subst ec_; clear en_))
                                                have GB54 := Aside0.mk gb54
                                                have GG54 := Aside0.mk HG54
                                                clear gb54 gl54 HG54
                                                (first | simp only [add_plain] at hx386_0 | skip)
                                                obtain ⟨hx54_0, hf54_0⟩ := Kd.R_celln 0 HO_9.out ((rd (rd_L2 t364 x12_2) x13_4) : Int) p54 q54
                                                replace p54 := eq_true p54
                                                replace q54 := eq_true q54
                                                have HP56 := Kd.R_putg HO_9.out ((rd (rd_L2 t364 x12_2) x13_4) : Int) x12_2
                                                go_wp2_with (first | ((with_reducible refine gate_store (t := 3) (p := 127) rfl ?_); refine store_event (t := 3) (p := 127) (v := ?vo_w57) (w1 := (wr.setCell ⟨go54, ((rd (rd_L2 t364 x12_2) x13_4) : Int).toNat, none⟩ (.int .i64 x12_2))) ?hg ?ho ?hn ?hr ?_; (case ho => rfl); (case hg => rfl); (case hn => rfl); (case hr => first | (go_simp; done) | (go_simp; rfl)); intro w57 hw; have hg : wr.grownBy w57 (some go54) := (by rw [hw]; exact HP56.2); have hp_ : Kd.R (Kd.int .i64) 3 w57 w.heap.size (fun _ => True) (.slice (some ⟨go54, 0, none⟩) x9_4.length co55) y389 := (by rw [hw, Ny389.out]; exact HP56.1); clear HP56; have n0_ := Aside0.mk (Kd.S_over' (v := (.slice (some ⟨go54, 0, none⟩) x9_4.length co55)) (by (with_reducible repeat (first | apply Kd.S_alloc | apply Kd.S_drewN | apply Kd.S_drew)); exact HO_6.out) (Kd.R_typed HO_9.out) (by decide) hg); have n1_ := Aside0.mk (Kd.S_after (v := (.slice (some ⟨go54, 0, none⟩) x9_4.length co55)) (v1 := (.slice (some ⟨go54, 0, none⟩) x9_4.length co55)) (ok := (fun _ => True)) (by (with_reducible repeat (first | apply Kd.S_alloc | apply Kd.S_drewN | apply Kd.S_drew)); exact Kd.S_mono HO_8.out (fun _ hk => ⟨trivial, hk⟩)) hg (.inl rfl)); have n2_ := Aside0.mk (hp_); have n3_ := Aside0.mk (Kd.R_over' (v := (.slice (some ⟨go54, 0, none⟩) x9_4.length co55)) (by (with_reducible repeat (first | apply Kd.R_alloc | apply Kd.R_drewN | apply Kd.R_drew)); exact HO_364000.out) (Kd.R_typed HO_9.out) (by decide) hg); have n4_ := Aside0.mk (blk_grown (g := gb363) (o := .cells #[.slice Ao14 t360.length co14] 25 (0, 0)) (by (with_reducible repeat (first | refine blk_drewN ?_ _ | refine blk_drew ?_ | refine blk_alloc ?_ _)); exact BK363.out) hg (Kd.R_ne HO_9.out BK363.out (by decide))); have n5_ := Aside0.mk (Kd.R_after (v := (.slice (some ⟨go54, 0, none⟩) x9_4.length co55)) (v1 := (.slice (some ⟨go54, 0, none⟩) x9_4.length co55)) (ok := (fun k_ => some k_ ≠ (.slice (some ad381) t364.length co27 : Value).ownBlock)) (by (with_reducible repeat (first | apply Kd.R_alloc | apply Kd.R_drewN | apply Kd.R_drew)); exact Kd.R_mono HL383_0.out (fun _ hk => ⟨hk.2, hk.1⟩)) hg (.inl rfl)); have n6_ := Aside0.mk (Kd.R_after (v := (.slice (some ⟨go54, 0, none⟩) x9_4.length co55)) (v1 := (.slice (some ⟨go54, 0, none⟩) x9_4.length co55)) (ok := (fun k_ => some k_ ≠ (.slice (some ad381) t364.length co27 : Value).ownBlock)) (by (with_reducible repeat (first | apply Kd.R_alloc | apply Kd.R_drewN | apply Kd.R_drew)); exact Kd.R_mono HL384_0.out (fun _ hk => ⟨hk.2, hk.1⟩)) hg (.inl rfl)); have n7_ := Aside0.mk (Kd.R_after (v := (.slice (some ⟨go54, 0, none⟩) x9_4.length co55)) (v1 := (.slice (some ⟨go54, 0, none⟩) x9_4.length co55)) (ok := (fun k_ => some k_ ≠ (.slice (some ad381) t364.length co27 : Value).ownBlock)) (by (with_reducible repeat (first | apply Kd.R_alloc | apply Kd.R_drewN | apply Kd.R_drew)); exact Kd.R_mono HL387_0.out (fun _ hk => ⟨hk.2, hk.1⟩)) hg (.inl rfl)); have n8_ := Aside0.mk ((by rw [hw]; exact below_set (HB.out) GB54.out : Below w.heap.size w w57)); clear HO_6; clear HO_8; clear HO_9; clear HO_364000; clear BK363; clear HL383_0; clear HL384_0; clear HL387_0; clear HB; have HO_6 := n0_; have HO_8 := n1_; have HO_9 := n2_; have HO_364000 := n3_; have BK363 := n4_; have HL383_0 := n5_; have HL384_0 := n6_; have HL387_0 := n7_; have HB := n8_; clear n0_ n1_ n2_ n3_ n4_ n5_ n6_ n7_ n8_; clear hg hw hp_))
                                                go_roundg k4
                                                case measure => have := HK1.out; have := HK2.out; have := HJ25.out; have := HK4.out; omega
                                                case rel => exact ⟨(y389), (wrap64 (x13_4 + 1)), (by first | rfl | (simp; done) | (simp [*]; done)), H', ⟨by have := HK1.out; have := HK2.out; have := HJ25.out; have := HK4.out; omega⟩, ⟨by (with_reducible repeat (first | apply Kd.S_alloc | apply Kd.S_drewN | apply Kd.S_drew)); exact HO_6.out⟩, ⟨by (with_reducible repeat (first | apply Kd.S_alloc | apply Kd.S_drewN | apply Kd.S_drew)); exact Kd.S_mono HO_8.out (fun _ hk => hk.2)⟩, ⟨by (with_reducible repeat (first | apply Kd.R_alloc | apply Kd.R_drewN | apply Kd.R_drew)); exact HO_9.out⟩, ⟨by (with_reducible repeat (first | apply Kd.R_alloc | apply Kd.R_drewN | apply Kd.R_drew)); exact HO_364000.out⟩, ⟨by (with_reducible repeat (first | refine blk_drewN ?_ _ | refine blk_drew ?_ | refine blk_alloc ?_ _)); exact BK363.out⟩, ⟨by repeat (first | (with_reducible first | exact HB.out | apply below_alloc | apply pw_below_drewN | apply below_drew1 | refine below_set ?_ GE363.out) | exact HB.out)⟩⟩
                                            · rw [if_neg c52] at H
                                              exact absurd H (by simp)
                                          · rw [if_neg c51] at H
                                            exact absurd H (by simp)
                                        · rw [if_neg c50] at H
                                          exact absurd H (by simp)
                                      · rw [if_neg c49] at H
                                        have c49b0 : decide (x13_4 < ((rd_L2 t364 x12_2).length : Int)) = false := decide_eq_false c49
                                        clear c49
                                        have H' := Aside0.mk H
                                        clear H
                                        have p383 : 0 ≤ (x12_2 : Int) := of_decide_eq_true (by first | (with_reducible assumption) | assumption)
                                        have q383 : x12_2 < (t364.length : Int) := of_decide_eq_true (by first | (with_reducible assumption) | assumption)
                                        obtain ⟨ad383, A383_0, c383_0, e383, hx383_0, hl383_0, hi383_0⟩ := at_L2 (Kd.S_reads' HO_8.out).2.2 x12_2 p383 q383
                                        obtain rfl : ad381 = ad383 := (by injection e383)
                                        obtain ⟨ce383, hce383, hMe383, hcc383⟩ := Kd.S_get HO_8.out [] x12_2 p383 (by first | exact q383 | exact of_decide_eq_true (by first | (with_reducible assumption) | assumption) | (have e_ := (Kd.S_reads' HO_8.out).1; omega))
                                        obtain ⟨ve383_0, rfl, ge383_0⟩ := hMe383
                                        have hv383_0 := hcc383 0 _ rfl
                                        rw [Nat.add_zero, show ((Kd.slice 3 (Kd.int .i64))).sz = 1 from rfl, Nat.mul_one] at hv383_0
                                        replace hv383_0 := Option.some.inj (hv383_0.symm.trans hx383_0)
                                        rw [hv383_0] at ge383_0
                                        have HL383_0 := Aside0.mk (show Kd.R (Kd.int .i64) 3 _ _ _ _ (rd_L2 t364 x12_2) from ge383_0)
                                        clear hv383_0 ge383_0
                                        clear hcc383 hce383
                                        have HR383_0 := Aside0.mk hi383_0
                                        have HC383_0 := Aside0.mk hl383_0
                                        clear hi383_0 hl383_0
                                        replace p383 := eq_true p383
                                        replace q383 := eq_true q383
                                        go_wp2
                                        go_roundg k4
                                        case measure => have := HK1.out; have := HK2.out; have := HJ25.out; have := HK4.out; omega
                                        case rel => exact ⟨(x9_4), ((rd (rd_L2 t364 x12_2) 0)), (wrap64 (x12_2 + 1)), (by first | rfl | (simp; done) | (simp [*]; done)), (by first | rfl | (simp; done) | (simp [*]; done)), H', ⟨by have := HK1.out; have := HK2.out; have := HJ25.out; have := HK4.out; omega⟩, ⟨by (with_reducible repeat (first | apply Kd.S_alloc | apply Kd.S_drewN | apply Kd.S_drew)); exact HO_6.out⟩, ⟨by (with_reducible repeat (first | apply Kd.S_alloc | apply Kd.S_drewN | apply Kd.S_drew)); exact HO_8.out⟩, ⟨by (with_reducible repeat (first | apply Kd.R_alloc | apply Kd.R_drewN | apply Kd.R_drew)); exact HO_9.out⟩, ⟨by (with_reducible repeat (first | apply Kd.R_alloc | apply Kd.R_drewN | apply Kd.R_drew)); exact HO_364000.out⟩, ⟨by (with_reducible repeat (first | refine blk_drewN ?_ _ | refine blk_drew ?_ | refine blk_alloc ?_ _)); exact BK363.out⟩, ⟨by repeat (first | (with_reducible first | exact HB.out | apply below_alloc | apply pw_below_drewN | apply below_drew1 | refine below_set ?_ GE363.out) | exact HB.out)⟩⟩
                                    · rw [if_neg c48] at H
                                      exact absurd H (by simp)
                                  · rw [if_neg c47] at H
                                    exact absurd H (by simp)
                            · rw [if_neg c46] at H
                              exact absurd H (by simp)
                          · rw [if_neg c45] at H
                            exact absurd H (by simp)
                        · rw [if_neg c44] at H
                          exact absurd H (by simp)
                · rw [if_neg c25] at H
                  have c25b0 : decide (x12_2 < (t364.length : Int)) = false := decide_eq_false c25
                  clear c25
                  have H' := Aside0.mk H
                  clear H
                  obtain ⟨Ao58, co58, eo58⟩ := Kd.S_slice HO_8.out
                  subst eo58
                  go_wp2
                  go_loopg [14] k2 (fun kq v14 w' => ∃ (x14_3 : Int), v14 = .int .i64 x14_3 ∧ Aside0 (arboristlaw08_GraphParts.l3 kq t356 t357 x9_2 x14_3 t360 = some r) ∧ Aside0 (kq ≤ k2) ∧ Aside0 (Kd.S (Kd.slice 4 Kd.bool) 37 w' w.heap.size (fun _ => True) (.slice Ao11 t357.length co11) t357) ∧ Aside0 (Kd.R (Kd.int .i64) 3 w' w.heap.size (fun _ => True) v368 x9_2) ∧ Aside0 (Kd.R (Kd.int .u64) 30 w' w.heap.size (fun _ => True) (.slice Ao14 t360.length co14) t360) ∧ Aside0 (w'.heap[gb363]? = some (.cells #[(.slice Ao14 t360.length co14)] 25 (0, 0))) ∧ Aside0 (Below w.heap.size w w'))
                  case atStart => exact ⟨(0), (by first | rfl | (simp; done) | (simp [*]; done)), H', ⟨Nat.le_refl _⟩, ⟨by (with_reducible repeat (first | apply Kd.S_alloc | apply Kd.S_drewN | apply Kd.S_drew)); exact HO_6.out⟩, ⟨by (with_reducible repeat (first | apply Kd.R_alloc | apply Kd.R_drewN | apply Kd.R_drew)); exact HO_9.out⟩, ⟨by (with_reducible repeat (first | apply Kd.R_alloc | apply Kd.R_drewN | apply Kd.R_drew)); exact HO_364000.out⟩, ⟨by (with_reducible repeat (first | refine blk_drewN ?_ _ | refine blk_drew ?_ | refine blk_alloc ?_ _)); exact BK363.out⟩, ⟨by repeat (first | (with_reducible first | exact HB.out | apply below_alloc | apply pw_below_drewN | apply below_drew1 | refine below_set ?_ GE363.out) | exact HB.out)⟩⟩
                  case round =>
                    clear H'
                    try clear c2
                    try clear p2
                    try clear c3
                    try clear p3
                    try clear q3
                    try clear hx3
                    try clear qi3
                    try clear c4
                    try clear c5
                    try clear p5
                    try clear q5
                    try clear hx5
                    try clear hf5
                    try clear p6
                    try clear c25
                    try clear c25b0
                    try clear c27
                    try clear c28
                    try clear c31
                    try clear c35
                    try clear c37
                    try clear p37
                    try clear q37
                    try clear hx37
                    try clear qi37
                    try clear c38
                    try clear p38
                    try clear q38
                    try clear hx38
                    try clear qi38
                    try clear c43
                    try clear c44
                    try clear c44b0
                    try clear c45
                    try clear c45b0
                    try clear c46
                    try clear c46b0
                    try clear c46b1
                    try clear c47
                    try clear c47b0
                    try clear c48
                    try clear c48b0
                    try clear c49
                    try clear c49b0
                    try clear c50
                    try clear c50b0
                    try clear c51
                    try clear c51b0
                    try clear c52
                    try clear c52b0
                    try clear c53
                    try clear c53b0
                    try clear p54
                    try clear q54
                    try clear hx54
                    try clear hf54
                    try clear hx371_0
                    try clear hx372_0
                    try clear hx373_0
                    try clear hx374_0
                    try clear hx381_0
                    try clear hx382_0
                    try clear hx383_0
                    try clear hx384_0
                    try clear hx385_0
                    try clear hx386_0
                    try clear hx387_0
                    try clear hx388_0
                    try clear hx54_0
                    try clear p2
                    try clear p3
                    try clear p37
                    try clear p371
                    try clear p372
                    try clear p373
                    try clear p374
                    try clear p38
                    try clear p381
                    try clear p382
                    try clear p383
                    try clear p384
                    try clear p385
                    try clear p386
                    try clear p387
                    try clear p388
                    try clear p54
                    try clear q3
                    try clear q37
                    try clear q371
                    try clear q372
                    try clear q373
                    try clear q374
                    try clear q38
                    try clear q381
                    try clear q382
                    try clear q383
                    try clear q384
                    try clear q385
                    try clear q386
                    try clear q387
                    try clear q388
                    try clear q54
                    obtain ⟨x14_3, rfl, HA, HK3, HO_6, HO_9, HO_364000, BK363, HB⟩ := hrel
                    cases gk with
                    | zero => exact absurd HA.out (by simp [arboristlaw08_GraphParts.l3])
                    | succ k3 =>
                      have H := HA.out
                      clear HA
                      simp only [arboristlaw08_GraphParts.l3] at H
                      by_cases c59 : x14_3 < (t357.length : Int)
                      · rw [if_pos c59] at H
                        have c59b0 : decide (x14_3 < (t357.length : Int)) = true := decide_eq_true c59
                        clear c59
                        by_cases c60 : 0 ≤ x14_3
                        · rw [if_pos c60] at H
                          have c60b0 : decide (0 ≤ x14_3) = true := decide_eq_true c60
                          clear c60
                          by_cases c61 : x14_3 < (x9_2.length : Int)
                          · rw [if_pos c61] at H
                            have c61b0 : decide (x14_3 < (x9_2.length : Int)) = true := decide_eq_true c61
                            clear c61
                            by_cases c62 : (rd x9_2 x14_3) < 0
                            · rw [if_pos c62] at H
                              have c62b0 : decide ((rd x9_2 x14_3) < 0) = true := decide_eq_true c62
                              clear c62
                              exact absurd ((Option.some.inj H).trans HT_.out) (by decide)
                            · rw [if_neg c62] at H
                              have c62b0 : decide ((rd x9_2 x14_3) < 0) = false := decide_eq_false c62
                              clear c62
                              have H' := Aside0.mk H
                              clear H
                              obtain ⟨Ao63, co63, eo63⟩ := Kd.R_slice HO_9.out
                              subst eo63
                              have p390 : 0 ≤ (x14_3 : Int) := of_decide_eq_true (by first | (with_reducible assumption) | assumption)
                              have q390 : x14_3 < (x9_2.length : Int) := of_decide_eq_true (by first | (with_reducible assumption) | assumption)
                              obtain ⟨ad390, e390, hx390_0⟩ := Kd.at_int (Kd.R_reads' HO_9.out).2.2 x14_3 p390 q390
                              cases e390
                              replace p390 := eq_true p390
                              replace q390 := eq_true q390
                              go_wp2
                              go_loopg [15] k3 (fun kq v15 w' => ∃ (x15_4 : Int), v15 = .int .i64 x15_4 ∧ Aside0 (arboristlaw08_GraphParts.l4 kq t356 t357 x9_2 x14_3 x15_4 t360 = some r) ∧ Aside0 (kq ≤ k3) ∧ Aside0 (Kd.S (Kd.slice 4 Kd.bool) 37 w' w.heap.size (fun _ => True) (.slice Ao11 t357.length co11) t357) ∧ Aside0 (Kd.R (Kd.int .i64) 3 w' w.heap.size (fun _ => True) (.slice (some ad390) x9_2.length co63) x9_2) ∧ Aside0 (Kd.R (Kd.int .u64) 30 w' w.heap.size (fun _ => True) (.slice Ao14 t360.length co14) t360) ∧ Aside0 (w'.heap[gb363]? = some (.cells #[(.slice Ao14 t360.length co14)] 25 (0, 0))) ∧ Aside0 (Below w.heap.size w w'))
                              case atStart => exact ⟨(0), (by first | rfl | (simp; done) | (simp [*]; done)), H', ⟨Nat.le_refl _⟩, ⟨by (with_reducible repeat (first | apply Kd.S_alloc | apply Kd.S_drewN | apply Kd.S_drew)); exact HO_6.out⟩, ⟨by (with_reducible repeat (first | apply Kd.R_alloc | apply Kd.R_drewN | apply Kd.R_drew)); exact HO_9.out⟩, ⟨by (with_reducible repeat (first | apply Kd.R_alloc | apply Kd.R_drewN | apply Kd.R_drew)); exact HO_364000.out⟩, ⟨by (with_reducible repeat (first | refine blk_drewN ?_ _ | refine blk_drew ?_ | refine blk_alloc ?_ _)); exact BK363.out⟩, ⟨by repeat (first | (with_reducible first | exact HB.out | apply below_alloc | apply pw_below_drewN | apply below_drew1 | refine below_set ?_ GE363.out) | exact HB.out)⟩⟩
                              case round =>
                                clear H'
                                try clear c2
                                try clear p2
                                try clear c3
                                try clear p3
                                try clear q3
                                try clear hx3
                                try clear qi3
                                try clear c4
                                try clear c5
                                try clear p5
                                try clear q5
                                try clear hx5
                                try clear hf5
                                try clear c6
                                try clear p6
                                try clear c25
                                try clear c25b0
                                try clear c27
                                try clear c28
                                try clear c31
                                try clear c35
                                try clear c37
                                try clear p37
                                try clear q37
                                try clear hx37
                                try clear qi37
                                try clear c38
                                try clear p38
                                try clear q38
                                try clear hx38
                                try clear qi38
                                try clear p39
                                try clear q39
                                try clear hx39
                                try clear c43
                                try clear c44
                                try clear c44b0
                                try clear c45
                                try clear c45b0
                                try clear c46
                                try clear c46b0
                                try clear c46b1
                                try clear c47
                                try clear c47b0
                                try clear c48
                                try clear c48b0
                                try clear c49
                                try clear c49b0
                                try clear c50
                                try clear c50b0
                                try clear c51
                                try clear c51b0
                                try clear c52
                                try clear c52b0
                                try clear c53
                                try clear c53b0
                                try clear p54
                                try clear q54
                                try clear hx54
                                try clear hf54
                                try clear c59
                                try clear c59b0
                                try clear c60
                                try clear c60b0
                                try clear c61
                                try clear c61b0
                                try clear c62
                                try clear c62b0
                                try clear hx371_0
                                try clear hx372_0
                                try clear hx373_0
                                try clear hx374_0
                                try clear hx381_0
                                try clear hx382_0
                                try clear hx383_0
                                try clear hx384_0
                                try clear hx385_0
                                try clear hx386_0
                                try clear hx387_0
                                try clear hx388_0
                                try clear hx390_0
                                try clear hx54_0
                                try clear p2
                                try clear p3
                                try clear p37
                                try clear p371
                                try clear p372
                                try clear p373
                                try clear p374
                                try clear p38
                                try clear p381
                                try clear p382
                                try clear p383
                                try clear p384
                                try clear p385
                                try clear p386
                                try clear p387
                                try clear p388
                                try clear p390
                                try clear p5
                                try clear p54
                                try clear p6
                                try clear q3
                                try clear q37
                                try clear q371
                                try clear q372
                                try clear q373
                                try clear q374
                                try clear q38
                                try clear q381
                                try clear q382
                                try clear q383
                                try clear q384
                                try clear q385
                                try clear q386
                                try clear q387
                                try clear q388
                                try clear q390
                                try clear q5
                                try clear q54
                                obtain ⟨x15_4, rfl, HA, HK4, HO_6, HO_9, HO_364000, BK363, HB⟩ := hrel
                                cases gk with
                                | zero => exact absurd HA.out (by simp [arboristlaw08_GraphParts.l4])
                                | succ k4 =>
                                  have H := HA.out
                                  clear HA
                                  simp only [arboristlaw08_GraphParts.l4] at H
                                  by_cases c64 : x15_4 < (t357.length : Int)
                                  · rw [if_pos c64] at H
                                    have c64b0 : decide (x15_4 < (t357.length : Int)) = true := decide_eq_true c64
                                    clear c64
                                    replace H := Option.bind_eq_some_iff.mp H
                                    obtain ⟨t391, A650, H⟩ := H
                                    replace H : (if t391 = true then (if 0 ≤ x14_3 then (if x14_3 < (x9_2.length : Int) then (if 0 ≤ x15_4 then (if x15_4 < (x9_2.length : Int) then (if (rd x9_2 x14_3) = (rd x9_2 x15_4) then (arboristlaw08_GraphParts.l4 k4 t356 t357 x9_2 x14_3 (wrap64 (x15_4 + 1)) t360) else (some false)) else (none)) else (none)) else (none)) else (none)) else (arboristlaw08_GraphParts.l4 k4 t356 t357 x9_2 x14_3 (wrap64 (x15_4 + 1)) t360)) = some r := H
                                    have A65 := Aside0.mk A650
                                    clear A650
                                    by_cases c66 : t391 = true
                                    · subst c66
                                      have H1 : (if 0 ≤ x14_3 then (if x14_3 < (x9_2.length : Int) then (if 0 ≤ x15_4 then (if x15_4 < (x9_2.length : Int) then (if (rd x9_2 x14_3) = (rd x9_2 x15_4) then (arboristlaw08_GraphParts.l4 k4 t356 t357 x9_2 x14_3 (wrap64 (x15_4 + 1)) t360) else (some false)) else (none)) else (none)) else (none)) else (none)) = some r := by rw [if_pos rfl] at H; exact H
                                      clear H
                                      have H := H1
                                      clear H1
                                      by_cases c67 : 0 ≤ x14_3
                                      · rw [if_pos c67] at H
                                        have c67b0 : decide (0 ≤ x14_3) = true := decide_eq_true c67
                                        clear c67
                                        by_cases c68 : x14_3 < (x9_2.length : Int)
                                        · rw [if_pos c68] at H
                                          have c68b0 : decide (x14_3 < (x9_2.length : Int)) = true := decide_eq_true c68
                                          clear c68
                                          by_cases c69 : 0 ≤ x15_4
                                          · rw [if_pos c69] at H
                                            have c69b0 : decide (0 ≤ x15_4) = true := decide_eq_true c69
                                            clear c69
                                            by_cases c70 : x15_4 < (x9_2.length : Int)
                                            · rw [if_pos c70] at H
                                              have c70b0 : decide (x15_4 < (x9_2.length : Int)) = true := decide_eq_true c70
                                              clear c70
                                              by_cases c71 : (rd x9_2 x14_3) = (rd x9_2 x15_4)
                                              · rw [if_pos c71] at H
                                                have c71b0 : ((rd x9_2 x14_3) == (rd x9_2 x15_4)) = true := beq_iff_eq.mpr c71
                                                have c71b1 : ((rd x9_2 x14_3) != (rd x9_2 x15_4)) = false := bne_eq_false_iff_eq.mpr c71
                                                clear c71
                                                have H' := Aside0.mk H
                                                clear H
                                                try go_wp2
                                                have n0_ := Aside0.mk (Kd.S_drew HO_6.out)
                                                have n1_ := Aside0.mk (Kd.R_drew HO_9.out)
                                                have n2_ := Aside0.mk (Kd.R_drew HO_364000.out)
                                                have n3_ := Aside0.mk (blk_drew BK363.out)
                                                have n4_ := Aside0.mk (below_drew1 HB.out)
                                                clear HO_6
                                                clear HO_9
                                                clear HO_364000
                                                clear BK363
                                                clear HB
                                                have HO_6 := n0_
                                                have HO_9 := n1_
                                                have HO_364000 := n2_
                                                have BK363 := n3_
                                                have HB := n4_
                                                clear n0_ n1_ n2_ n3_ n4_
                                                have p392 : 0 ≤ (x14_3 : Int) := of_decide_eq_true (by first | (with_reducible assumption) | assumption)
                                                have q392 : x14_3 < (x9_2.length : Int) := of_decide_eq_true (by first | (with_reducible assumption) | assumption)
                                                obtain ⟨ad392, e392, hx392_0⟩ := Kd.at_int (Kd.R_reads' HO_9.out).2.2 x14_3 p392 q392
                                                obtain rfl : ad390 = ad392 := (by injection e392)
                                                replace p392 := eq_true p392
                                                replace q392 := eq_true q392
                                                have p393 : 0 ≤ (x15_4 : Int) := of_decide_eq_true (by first | (with_reducible assumption) | assumption)
                                                have q393 : x15_4 < (x9_2.length : Int) := of_decide_eq_true (by first | (with_reducible assumption) | assumption)
                                                obtain ⟨ad393, e393, hx393_0⟩ := Kd.at_int (Kd.R_reads' HO_9.out).2.2 x15_4 p393 q393
                                                obtain rfl : ad390 = ad393 := (by injection e393)
                                                replace p393 := eq_true p393
                                                replace q393 := eq_true q393
                                                refine start_ (n := 15) (S := fun w' => w'.cell? ⟨gb363, 0, none⟩ = some (.slice Ao14 t360.length co14) ∧ w'.cell? (ad390.add (x14_3).toNat) = some (.int .i64 (rd x9_2 x14_3)) ∧ w'.cell? (ad390.add (x15_4).toNat) = some (.int .i64 (rd x9_2 x15_4))) (ds := []) (bs 15 0) (by kernel_rfl) rfl rfl ⟨(blk_cell BK363.out 0).trans rfl, hx392_0, hx393_0⟩ (fun hHeld => ?_); refine with_tabW arboristlaw08_GraphParts.tab31 arboristlaw08_GraphParts.bits31 (fun HT_ HW_ => ?_)
                                                generalize wr.drew = w72 at HO_6 HO_9 HO_364000 BK363 HB hx392_0 hx393_0 hHeld ⊢
                                                refine pure_ (i := 1) (N := some 146) (v := ?_) (a' := ?_) (bs 15 2) rfl rfl (any_of HT_.out (by kernel_rfl)) (fun _ _ _ h => h) (Or.inl ⟨by rfl, ?_⟩) ?_ ?_
                                                rotate_left; (intro w'; go_simp; with_reducible rfl); rotate_left; (simp only [Act.put, List.setIfInBounds_toArray, List.set_cons_zero, List.set_cons_succ, i64_w, i32_w]; rfl)
                                                refine pure_ (i := 2) (N := some 147) (v := ?_) (a' := ?_) (bs 15 6) rfl rfl (any_of HT_.out (by kernel_rfl)) (fun _ _ _ h => h) (Or.inl ⟨by rfl, ?_⟩) ?_ ?_
                                                rotate_left; (intro w'; go_simp; with_reducible rfl); rotate_left; (simp only [Act.put, List.setIfInBounds_toArray, List.set_cons_zero, List.set_cons_succ, i64_w, i32_w]; rfl)
                                                refine take_ (i := 0) (N := some 145) (v := ?_) (a' := ?_) (bs 15 7) rfl rfl (take_ofW HT_.out HW_.out (by kernel_rfl)) (fun _ _ _ h => h) (Or.inl ⟨by rfl, ?_⟩) hHeld ?_ ?_
                                                rotate_left
                                                · rintro w' ⟨s0, s1, s2⟩
                                                  go_simp
                                                  with_reducible rfl
                                                rotate_left; (simp only [Act.put, List.setIfInBounds_toArray, List.set_cons_zero, List.set_cons_succ, i64_w, i32_w]; rfl)
                                                refine one_ (i := 3) (N := some 148) (bs 15 15) rfl rfl (one_of HT_.out (by kernel_rfl)) (by decide) (fun K hK => ?_)
                                                refine goes_ Tryd.func18 (by kernel_rfl) rfl #[.agg #[.slice Ao14 t360.length co14], .int .i64 x14_3, .int .i64 x15_4] (by rfl) rfl rfl (by (try simp only [List.map_toArray, List.map_cons, List.map_nil]); first | done | rfl | (simp only [List.length_drop, List.length_take]; rfl)) ?_
                                                with_reducible refine (graph_Beside.calls _ _ t360 x14_3 x15_4 true _ ?side1 ?side2 A65.out).mono ?_
                                                (case side1 => repeat (first | exact (Kd.R_reads' HO_364000.out).2.2 | (with_reducible refine Kd.C_alloc ?_ _) | (with_reducible refine Kd.C_drewN ?_ _) | (with_reducible refine Kd.C_drew ?_)))
                                                (case side2 => exact (Kd.R_reads' HO_364000.out).2.1)
                                                rintro e w73 ⟨rfl, hb⟩
                                                have HS1_ := (hb.cell (World.block_lt_of_cell? _ _ (hHeld.2.1))).trans (hHeld.2.1)
                                                have HS2_ := (hb.cell (World.block_lt_of_cell? _ _ (hHeld.2.2))).trans (hHeld.2.2)
                                                refine ⟨_, rfl, ?_⟩
                                                have n0_ := Aside0.mk (Kd.S_below (by (with_reducible repeat (first | apply Kd.S_alloc | apply Kd.S_drewN | apply Kd.S_drew)); exact HO_6.out) hb)
                                                have n1_ := Aside0.mk (Kd.R_below (by (with_reducible repeat (first | apply Kd.R_alloc | apply Kd.R_drewN | apply Kd.R_drew)); exact HO_9.out) hb)
                                                have n2_ := Aside0.mk (Kd.R_below (by (with_reducible repeat (first | apply Kd.R_alloc | apply Kd.R_drewN | apply Kd.R_drew)); exact HO_364000.out) hb)
                                                have n3_ := Aside0.mk (blk_below (g := gb363) (o := .cells #[.slice Ao14 t360.length co14] 25 (0, 0)) (by (with_reducible repeat (first | refine blk_drewN ?_ _ | refine blk_drew ?_ | refine blk_alloc ?_ _)); exact BK363.out) hb)
                                                have n4_ := Aside0.mk (below_step (by repeat (first | (with_reducible first | exact HB.out | apply below_alloc | apply pw_below_drewN | apply below_drew1 | refine below_set ?_ GE363.out) | exact HB.out)) hb)
                                                clear HO_6
                                                clear HO_9
                                                clear HO_364000
                                                clear BK363
                                                clear HB
                                                have HO_6 := n0_
                                                have HO_9 := n1_
                                                have HO_364000 := n2_
                                                have BK363 := n3_
                                                have HB := n4_
                                                clear n0_ n1_ n2_ n3_ n4_
                                                (try clear hb)
                                                (try clear hb2)
                                                (try clear hk)
                                                (try clear hi)
                                                refine hK.out _ _ ⟨(blk_cell BK363.out 0).trans rfl, HS1_, HS2_⟩ (fun hHeld => ?_)
                                                clear hK K
                                                refine norm_ (a' := ?_) ?_ ?_
                                                rotate_left
                                                · show Act.put _ (some 148) _ = _
                                                  simp only [Act.put, List.setIfInBounds_toArray, List.set_cons_zero, List.set_cons_succ, i64_w, i32_w]
                                                  rfl
                                                refine pure_ (i := 4) (N := some 149) (v := ?_) (a' := ?_) (bs 15 31) rfl rfl (any_of HT_.out (by kernel_rfl)) (fun _ _ _ h => h) (Or.inl ⟨by rfl, ?_⟩) ?_ ?_
                                                rotate_left; (intro w'; go_simp; with_reducible rfl); rotate_left; (simp only [Act.put, List.setIfInBounds_toArray, List.set_cons_zero, List.set_cons_succ, i64_w, i32_w]; rfl)
                                                refine pure_ (i := 5) (N := some 150) (v := ?_) (a' := ?_) (bs 15 63) rfl rfl (any_of HT_.out (by kernel_rfl)) (fun _ _ _ h => h) (Or.inl ⟨by rfl, ?_⟩) ?_ ?_
                                                rotate_left; (intro w'; go_simp; with_reducible rfl); rotate_left; (simp only [Act.put, List.setIfInBounds_toArray, List.set_cons_zero, List.set_cons_succ, i64_w, i32_w]; rfl)
                                                refine pure_ (i := 6) (N := some 151) (v := ?_) (a' := ?_) (bs 15 127) rfl rfl (any_of HT_.out (by kernel_rfl)) (fun _ _ _ h => h) (Or.inl ⟨by rfl, ?_⟩) ?_ ?_
                                                rotate_left; (intro w'; go_simp; with_reducible rfl); rotate_left; (simp only [Act.put, List.setIfInBounds_toArray, List.set_cons_zero, List.set_cons_succ, i64_w, i32_w]; rfl)
                                                refine pure_ (i := 7) (N := some 152) (v := ?_) (a' := ?_) (bs 15 255) rfl rfl (any_of HT_.out (by kernel_rfl)) (fun _ _ _ h => h) (Or.inl ⟨by rfl, ?_⟩) ?_ ?_
                                                rotate_left; (intro w'; go_simp; with_reducible rfl); rotate_left; (simp only [Act.put, List.setIfInBounds_toArray, List.set_cons_zero, List.set_cons_succ, i64_w, i32_w]; rfl)
                                                refine pure_ (i := 9) (N := some 154) (v := ?_) (a' := ?_) (bs 15 767) rfl rfl (any_of HT_.out (by kernel_rfl)) (fun _ _ _ h => h) (Or.inl ⟨by rfl, ?_⟩) ?_ ?_
                                                rotate_left; (intro w'; go_simp; with_reducible rfl); rotate_left; (simp only [Act.put, List.setIfInBounds_toArray, List.set_cons_zero, List.set_cons_succ, i64_w, i32_w]; rfl)
                                                refine pure_ (i := 10) (N := some 155) (v := ?_) (a' := ?_) (bs 15 1791) rfl rfl (any_of HT_.out (by kernel_rfl)) (fun _ _ _ h => h) (Or.inl ⟨by rfl, ?_⟩) ?_ ?_
                                                rotate_left; (intro w'; go_simp; with_reducible rfl); rotate_left; (simp only [Act.put, List.setIfInBounds_toArray, List.set_cons_zero, List.set_cons_succ, i64_w, i32_w]; rfl)
                                                refine pure_ (i := 11) (N := some 156) (v := ?_) (a' := ?_) (bs 15 3839) rfl rfl (any_of HT_.out (by kernel_rfl)) (fun _ _ _ h => h) (Or.inl ⟨by rfl, ?_⟩) ?_ ?_
                                                rotate_left; (intro w'; go_simp; with_reducible rfl); rotate_left; (simp only [Act.put, List.setIfInBounds_toArray, List.set_cons_zero, List.set_cons_succ, i64_w, i32_w]; rfl)
                                                refine take_ (i := 8) (N := some 153) (v := ?_) (a' := ?_) (bs 15 4095) rfl rfl (take_ofW HT_.out HW_.out (by kernel_rfl)) (fun _ _ _ h => h) (Or.inl ⟨by rfl, ?_⟩) hHeld ?_ ?_
                                                rotate_left
                                                · rintro w' ⟨s0, s1, s2⟩
                                                  go_simp
                                                  with_reducible rfl
                                                rotate_left; (simp only [Act.put, List.setIfInBounds_toArray, List.set_cons_zero, List.set_cons_succ, i64_w, i32_w]; rfl)
                                                refine take_ (i := 12) (N := some 157) (v := ?_) (a' := ?_) (bs 15 8191) rfl rfl (take_ofW HT_.out HW_.out (by kernel_rfl)) (fun _ _ _ h => h) (Or.inl ⟨by rfl, ?_⟩) hHeld ?_ ?_
                                                rotate_left
                                                · rintro w' ⟨s0, s1, s2⟩
                                                  go_simp
                                                  with_reducible rfl
                                                rotate_left; (simp only [Act.put, List.setIfInBounds_toArray, List.set_cons_zero, List.set_cons_succ, i64_w, i32_w]; rfl)
                                                refine pure_ (i := 13) (N := some 158) (v := ?_) (a' := ?_) (bs 15 16383) rfl rfl (any_of HT_.out (by kernel_rfl)) (fun _ _ _ h => h) (Or.inl ⟨by rfl, ?_⟩) ?_ ?_
                                                rotate_left; (intro w'; go_simp; with_reducible rfl); rotate_left; (simp only [Act.put, List.setIfInBounds_toArray, List.set_cons_zero, List.set_cons_succ, i64_w, i32_w]; rfl)
                                                refine pure_ (i := 14) (N := some 159) (v := ?_) (a' := ?_) (bs 15 32767) rfl rfl (any_of HT_.out (by kernel_rfl)) (fun _ _ _ h => h) (Or.inl ⟨by rfl, ?_⟩) ?_ ?_
                                                rotate_left; (intro w'; go_simp; with_reducible rfl); rotate_left; (simp only [Act.put, List.setIfInBounds_toArray, List.set_cons_zero, List.set_cons_succ, i64_w, i32_w]; rfl)
                                                refine done_ (done_of HT_.out (by kernel_rfl)) ?_
                                                try go_wp2
                                                go_roundg k4
                                                case measure => have := HK1.out; have := HK2.out; have := HK3.out; have := HK4.out; omega
                                                case rel => exact ⟨(wrap64 (x15_4 + 1)), (by first | rfl | (simp; done) | (simp [*]; done)), H', ⟨by have := HK1.out; have := HK2.out; have := HK3.out; have := HK4.out; omega⟩, ⟨by (with_reducible repeat (first | apply Kd.S_alloc | apply Kd.S_drewN | apply Kd.S_drew)); exact HO_6.out⟩, ⟨by (with_reducible repeat (first | apply Kd.R_alloc | apply Kd.R_drewN | apply Kd.R_drew)); exact HO_9.out⟩, ⟨by (with_reducible repeat (first | apply Kd.R_alloc | apply Kd.R_drewN | apply Kd.R_drew)); exact HO_364000.out⟩, ⟨by (with_reducible repeat (first | refine blk_drewN ?_ _ | refine blk_drew ?_ | refine blk_alloc ?_ _)); exact BK363.out⟩, ⟨by repeat (first | (with_reducible first | exact HB.out | apply below_alloc | apply pw_below_drewN | apply below_drew1 | refine below_set ?_ GE363.out) | exact HB.out)⟩⟩
                                              · rw [if_neg c71] at H
                                                have c71b0 : ((rd x9_2 x14_3) == (rd x9_2 x15_4)) = false := beq_eq_false_iff_ne.mpr c71
                                                have c71b1 : ((rd x9_2 x14_3) != (rd x9_2 x15_4)) = true := bne_iff_ne.mpr c71
                                                exact absurd ((Option.some.inj H).trans HT_.out) (by decide)
                                            · rw [if_neg c70] at H
                                              exact absurd H (by simp)
                                          · rw [if_neg c69] at H
                                            exact absurd H (by simp)
                                        · rw [if_neg c68] at H
                                          exact absurd H (by simp)
                                      · rw [if_neg c67] at H
                                        exact absurd H (by simp)
                                    · replace c66 := Bool.eq_false_iff.mpr c66
                                      subst c66
                                      have H1 : (arboristlaw08_GraphParts.l4 k4 t356 t357 x9_2 x14_3 (wrap64 (x15_4 + 1)) t360) = some r := by rw [if_neg (show ¬ (false = true) by decide)] at H; exact H
                                      clear H
                                      have H := H1
                                      clear H1
                                      have H' := Aside0.mk H
                                      clear H
                                      try go_wp2
                                      have n0_ := Aside0.mk (Kd.S_drew HO_6.out)
                                      have n1_ := Aside0.mk (Kd.R_drew HO_9.out)
                                      have n2_ := Aside0.mk (Kd.R_drew HO_364000.out)
                                      have n3_ := Aside0.mk (blk_drew BK363.out)
                                      have n4_ := Aside0.mk (below_drew1 HB.out)
                                      clear HO_6
                                      clear HO_9
                                      clear HO_364000
                                      clear BK363
                                      clear HB
                                      have HO_6 := n0_
                                      have HO_9 := n1_
                                      have HO_364000 := n2_
                                      have BK363 := n3_
                                      have HB := n4_
                                      clear n0_ n1_ n2_ n3_ n4_
                                      refine start_ (n := 15) (S := fun w' => w'.cell? ⟨gb363, 0, none⟩ = some (.slice Ao14 t360.length co14)) (ds := []) (bs 15 0) (by kernel_rfl) rfl rfl ((blk_cell BK363.out 0).trans rfl) (fun hHeld => ?_); refine with_tabW arboristlaw08_GraphParts.tab31 arboristlaw08_GraphParts.bits31 (fun HT_ HW_ => ?_)
                                      generalize wr.drew = w74 at HO_6 HO_9 HO_364000 BK363 HB hHeld ⊢
                                      refine pure_ (i := 1) (N := some 146) (v := ?_) (a' := ?_) (bs 15 2) rfl rfl (any_of HT_.out (by kernel_rfl)) (fun _ _ _ h => h) (Or.inl ⟨by rfl, ?_⟩) ?_ ?_
                                      rotate_left; (intro w'; go_simp; with_reducible rfl); rotate_left; (simp only [Act.put, List.setIfInBounds_toArray, List.set_cons_zero, List.set_cons_succ, i64_w, i32_w]; rfl)
                                      refine pure_ (i := 2) (N := some 147) (v := ?_) (a' := ?_) (bs 15 6) rfl rfl (any_of HT_.out (by kernel_rfl)) (fun _ _ _ h => h) (Or.inl ⟨by rfl, ?_⟩) ?_ ?_
                                      rotate_left; (intro w'; go_simp; with_reducible rfl); rotate_left; (simp only [Act.put, List.setIfInBounds_toArray, List.set_cons_zero, List.set_cons_succ, i64_w, i32_w]; rfl)
                                      refine take_ (i := 0) (N := some 145) (v := ?_) (a' := ?_) (bs 15 7) rfl rfl (take_ofW HT_.out HW_.out (by kernel_rfl)) (fun _ _ _ h => h) (Or.inl ⟨by rfl, ?_⟩) hHeld ?_ ?_
                                      rotate_left
                                      · intro w' s0
                                        go_simp
                                        with_reducible rfl
                                      rotate_left; (simp only [Act.put, List.setIfInBounds_toArray, List.set_cons_zero, List.set_cons_succ, i64_w, i32_w]; rfl)
                                      refine one_ (i := 3) (N := some 148) (bs 15 15) rfl rfl (one_of HT_.out (by kernel_rfl)) (by decide) (fun K hK => ?_)
                                      refine goes_ Tryd.func18 (by kernel_rfl) rfl #[.agg #[.slice Ao14 t360.length co14], .int .i64 x14_3, .int .i64 x15_4] (by rfl) rfl rfl (by (try simp only [List.map_toArray, List.map_cons, List.map_nil]); first | done | rfl | (simp only [List.length_drop, List.length_take]; rfl)) ?_
                                      with_reducible refine (graph_Beside.calls _ _ t360 x14_3 x15_4 false _ ?side1 ?side2 A65.out).mono ?_
                                      (case side1 => repeat (first | exact (Kd.R_reads' HO_364000.out).2.2 | (with_reducible refine Kd.C_alloc ?_ _) | (with_reducible refine Kd.C_drewN ?_ _) | (with_reducible refine Kd.C_drew ?_)))
                                      (case side2 => exact (Kd.R_reads' HO_364000.out).2.1)
                                      rintro e w75 ⟨rfl, hb⟩
                                      refine ⟨_, rfl, ?_⟩
                                      have n0_ := Aside0.mk (Kd.S_below (by (with_reducible repeat (first | apply Kd.S_alloc | apply Kd.S_drewN | apply Kd.S_drew)); exact HO_6.out) hb)
                                      have n1_ := Aside0.mk (Kd.R_below (by (with_reducible repeat (first | apply Kd.R_alloc | apply Kd.R_drewN | apply Kd.R_drew)); exact HO_9.out) hb)
                                      have n2_ := Aside0.mk (Kd.R_below (by (with_reducible repeat (first | apply Kd.R_alloc | apply Kd.R_drewN | apply Kd.R_drew)); exact HO_364000.out) hb)
                                      have n3_ := Aside0.mk (blk_below (g := gb363) (o := .cells #[.slice Ao14 t360.length co14] 25 (0, 0)) (by (with_reducible repeat (first | refine blk_drewN ?_ _ | refine blk_drew ?_ | refine blk_alloc ?_ _)); exact BK363.out) hb)
                                      have n4_ := Aside0.mk (below_step (by repeat (first | (with_reducible first | exact HB.out | apply below_alloc | apply pw_below_drewN | apply below_drew1 | refine below_set ?_ GE363.out) | exact HB.out)) hb)
                                      clear HO_6
                                      clear HO_9
                                      clear HO_364000
                                      clear BK363
                                      clear HB
                                      have HO_6 := n0_
                                      have HO_9 := n1_
                                      have HO_364000 := n2_
                                      have BK363 := n3_
                                      have HB := n4_
                                      clear n0_ n1_ n2_ n3_ n4_
                                      (try clear hb)
                                      (try clear hb2)
                                      (try clear hk)
                                      (try clear hi)
                                      refine hK.out _ _ ((blk_cell BK363.out 0).trans rfl) (fun hHeld => ?_)
                                      clear hK K
                                      refine norm_ (a' := ?_) ?_ ?_
                                      rotate_left
                                      · show Act.put _ (some 148) _ = _
                                        simp only [Act.put, List.setIfInBounds_toArray, List.set_cons_zero, List.set_cons_succ, i64_w, i32_w]
                                        rfl
                                      refine pure_ (i := 4) (N := some 149) (v := ?_) (a' := ?_) (bs 15 31) rfl rfl (any_of HT_.out (by kernel_rfl)) (fun _ _ _ h => h) (Or.inl ⟨by rfl, ?_⟩) ?_ ?_
                                      rotate_left; (intro w'; go_simp; with_reducible rfl); rotate_left; (simp only [Act.put, List.setIfInBounds_toArray, List.set_cons_zero, List.set_cons_succ, i64_w, i32_w]; rfl)
                                      refine pure_ (i := 5) (N := some 150) (v := undef) (a' := ?_) (bs 15 63) rfl rfl (any_of HT_.out (by kernel_rfl)) (fun _ _ _ h => h) (Or.inr ⟨by rfl, rfl⟩) ?_ ?_
                                      rotate_left; (simp only [Act.put, List.setIfInBounds_toArray, List.set_cons_zero, List.set_cons_succ, i64_w, i32_w]; rfl)
                                      refine pure_ (i := 6) (N := some 151) (v := undef) (a' := ?_) (bs 15 127) rfl rfl (any_of HT_.out (by kernel_rfl)) (fun _ _ _ h => h) (Or.inr ⟨by rfl, rfl⟩) ?_ ?_
                                      rotate_left; (simp only [Act.put, List.setIfInBounds_toArray, List.set_cons_zero, List.set_cons_succ, i64_w, i32_w]; rfl)
                                      refine pure_ (i := 7) (N := some 152) (v := undef) (a' := ?_) (bs 15 255) rfl rfl (any_of HT_.out (by kernel_rfl)) (fun _ _ _ h => h) (Or.inr ⟨by rfl, rfl⟩) ?_ ?_
                                      rotate_left; (simp only [Act.put, List.setIfInBounds_toArray, List.set_cons_zero, List.set_cons_succ, i64_w, i32_w]; rfl)
                                      refine pure_ (i := 8) (N := some 153) (v := undef) (a' := ?_) (bs 15 511) rfl rfl (any_of HT_.out (by kernel_rfl)) (fun _ _ _ h => h) (Or.inr ⟨by rfl, rfl⟩) ?_ ?_
                                      rotate_left; (simp only [Act.put, List.setIfInBounds_toArray, List.set_cons_zero, List.set_cons_succ, i64_w, i32_w]; rfl)
                                      refine pure_ (i := 9) (N := some 154) (v := undef) (a' := ?_) (bs 15 1023) rfl rfl (any_of HT_.out (by kernel_rfl)) (fun _ _ _ h => h) (Or.inr ⟨by rfl, rfl⟩) ?_ ?_
                                      rotate_left; (simp only [Act.put, List.setIfInBounds_toArray, List.set_cons_zero, List.set_cons_succ, i64_w, i32_w]; rfl)
                                      refine pure_ (i := 10) (N := some 155) (v := undef) (a' := ?_) (bs 15 2047) rfl rfl (any_of HT_.out (by kernel_rfl)) (fun _ _ _ h => h) (Or.inr ⟨by rfl, rfl⟩) ?_ ?_
                                      rotate_left; (simp only [Act.put, List.setIfInBounds_toArray, List.set_cons_zero, List.set_cons_succ, i64_w, i32_w]; rfl)
                                      refine pure_ (i := 11) (N := some 156) (v := undef) (a' := ?_) (bs 15 4095) rfl rfl (any_of HT_.out (by kernel_rfl)) (fun _ _ _ h => h) (Or.inr ⟨by rfl, rfl⟩) ?_ ?_
                                      rotate_left; (simp only [Act.put, List.setIfInBounds_toArray, List.set_cons_zero, List.set_cons_succ, i64_w, i32_w]; rfl)
                                      refine pure_ (i := 12) (N := some 157) (v := undef) (a' := ?_) (bs 15 8191) rfl rfl (any_of HT_.out (by kernel_rfl)) (fun _ _ _ h => h) (Or.inr ⟨by rfl, rfl⟩) ?_ ?_
                                      rotate_left; (simp only [Act.put, List.setIfInBounds_toArray, List.set_cons_zero, List.set_cons_succ, i64_w, i32_w]; rfl)
                                      refine pure_ (i := 13) (N := some 158) (v := undef) (a' := ?_) (bs 15 16383) rfl rfl (any_of HT_.out (by kernel_rfl)) (fun _ _ _ h => h) (Or.inr ⟨by rfl, rfl⟩) ?_ ?_
                                      rotate_left; (simp only [Act.put, List.setIfInBounds_toArray, List.set_cons_zero, List.set_cons_succ, i64_w, i32_w]; rfl)
                                      refine pure_ (i := 14) (N := some 159) (v := ?_) (a' := ?_) (bs 15 32767) rfl rfl (any_of HT_.out (by kernel_rfl)) (fun _ _ _ h => h) (Or.inl ⟨by rfl, ?_⟩) ?_ ?_
                                      rotate_left; (intro w'; go_simp; with_reducible rfl); rotate_left; (simp only [Act.put, List.setIfInBounds_toArray, List.set_cons_zero, List.set_cons_succ, i64_w, i32_w]; rfl)
                                      refine done_ (done_of HT_.out (by kernel_rfl)) ?_
                                      try go_wp2
                                      go_roundg k4
                                      case measure => have := HK1.out; have := HK2.out; have := HK3.out; have := HK4.out; omega
                                      case rel => exact ⟨(wrap64 (x15_4 + 1)), (by first | rfl | (simp; done) | (simp [*]; done)), H', ⟨by have := HK1.out; have := HK2.out; have := HK3.out; have := HK4.out; omega⟩, ⟨by (with_reducible repeat (first | apply Kd.S_alloc | apply Kd.S_drewN | apply Kd.S_drew)); exact HO_6.out⟩, ⟨by (with_reducible repeat (first | apply Kd.R_alloc | apply Kd.R_drewN | apply Kd.R_drew)); exact HO_9.out⟩, ⟨by (with_reducible repeat (first | apply Kd.R_alloc | apply Kd.R_drewN | apply Kd.R_drew)); exact HO_364000.out⟩, ⟨by (with_reducible repeat (first | refine blk_drewN ?_ _ | refine blk_drew ?_ | refine blk_alloc ?_ _)); exact BK363.out⟩, ⟨by repeat (first | (with_reducible first | exact HB.out | apply below_alloc | apply pw_below_drewN | apply below_drew1 | refine below_set ?_ GE363.out) | exact HB.out)⟩⟩
                                  · rw [if_neg c64] at H
                                    have c64b0 : decide (x15_4 < (t357.length : Int)) = false := decide_eq_false c64
                                    clear c64
                                    have H' := Aside0.mk H
                                    clear H
                                    go_wp2
                                    go_roundg k4
                                    case measure => have := HK1.out; have := HK2.out; have := HK3.out; have := HK4.out; omega
                                    case rel => exact ⟨(wrap64 (x14_3 + 1)), (by first | rfl | (simp; done) | (simp [*]; done)), H', ⟨by have := HK1.out; have := HK2.out; have := HK3.out; have := HK4.out; omega⟩, ⟨by (with_reducible repeat (first | apply Kd.S_alloc | apply Kd.S_drewN | apply Kd.S_drew)); exact HO_6.out⟩, ⟨by (with_reducible repeat (first | apply Kd.R_alloc | apply Kd.R_drewN | apply Kd.R_drew)); exact HO_9.out⟩, ⟨by (with_reducible repeat (first | apply Kd.R_alloc | apply Kd.R_drewN | apply Kd.R_drew)); exact HO_364000.out⟩, ⟨by (with_reducible repeat (first | refine blk_drewN ?_ _ | refine blk_drew ?_ | refine blk_alloc ?_ _)); exact BK363.out⟩, ⟨by repeat (first | (with_reducible first | exact HB.out | apply below_alloc | apply pw_below_drewN | apply below_drew1 | refine below_set ?_ GE363.out) | exact HB.out)⟩⟩
                          · rw [if_neg c61] at H
                            exact absurd H (by simp)
                        · rw [if_neg c60] at H
                          exact absurd H (by simp)
                      · rw [if_neg c59] at H
                        have c59b0 : decide (x14_3 < (t357.length : Int)) = false := decide_eq_false c59
                        clear c59
                        obtain rfl := Option.some.inj H
                        go_wp2
                        go_ret
                        exact ⟨by first | rfl | (simp [errW_none, errW_some] <;> rfl) | (simp [*, errW_none, errW_some] <;> rfl), by repeat (first | (with_reducible first | exact HB.out | apply below_alloc | apply pw_below_drewN | apply below_drew1 | refine below_set ?_ GE363.out) | exact HB.out)⟩
    · rw [if_neg c8] at H
      exact absurd H (by simp)
  · rw [if_neg c7] at H
    exact absurd H (by simp)

/-- THE ONE PURE STATEMENT of arboristlaw08_GraphParts. -/
def arboristlaw08_GraphParts.Pure : Prop := ∀ (a0 : Int) (l1 : List (List Int)), (Lit.int .i64 a0).wf = true → (l1.length ≤ maxLen ∧ ∀ z0 ∈ l1, (z0.length ≤ maxLen ∧ ∀ z1 ∈ z0, (Lit.int .i64 z1).wf = true)) → ∃ k, arboristlaw08_GraphParts.f k a0 l1 = some true

end Go.Proofs.YtaodbohfhelokaaDoor.Pr
