-- Printed by a program of this session's own (wip/tools/pp.py) over the kit's print.py; Lean checks it.
import Derived.Test.YtopjffgmpphdbaaDoorPr1
import Derived.Test.YtopjffgmpphdbaaDoorPr0
import Derived.Test.YtopjffgmpphdbaaDoorPr22
import Derived.Test.YtopjffgmpphdbaaDoorPr29
import Derived.Test.YtopjffgmpphdbaaDoorPr30
import Derived.Test.YtopjffgmpphdbaaDoorPr33
import Derived.Test.YtopjffgmpphdbaaDoorPr39
import Derived.Test.YtopjffgmpphdbaaDoorPr50
namespace Go.Proofs.YtopjffgmpphdbaaDoor.Pr
open Go.RowKit Go.Proofs.YtopjffgmpphdbaaDoorW.PrintWords Go.Proofs.YtopjffgmpphdbaaDoorW.PrintLast Go.Proofs.YtopjffgmpphdbaaDoorW.PrintMore
attribute [local go_sem] max2_int min2_int max_two min_two max_three min_three max_four min_four   -- for this text's walks alone
set_option linter.unusedVariables false
set_option linter.unusedSimpArgs false

/-! ### arboristlaw10_FillEdges: function 5 -/
mutual
def arboristlaw10_FillEdges.j0 : Nat → Bool → List (List Bool) → List Int → List (List Int) → Bool → Option (Bool)
  | 0, _, _, _, _, _ => none
  | k + 1, x7, x8, x9, x10, x39 => if x39 = true then (some false) else (arboristlaw10_FillEdges.l0 k x7 x8 x9 x10 0)
def arboristlaw10_FillEdges.l0 : Nat → Bool → List (List Bool) → List Int → List (List Int) → Int → Option (Bool)
  | 0, _, _, _, _, _ => none
  | k + 1, x7, x8, x9, x10, x12 => if x12 < (x9.length : Int) then (if 0 ≤ x12 then (if x12 < (x10.length : Int) then ((arboristref01_In.f k (rd_L1 x10 x12) (rd x9 x12)).bind fun t680 => (if t680 = true then (if x12 ≤ (x9.length : Int) then ((arboristref01_Meet.f k (rd_L1 x10 x12) (x9.take (x12 : Int).toNat)).bind fun t686 => (if (t686.length : Int) > 0 then (arboristlaw10_FillEdges.j2 k x7 x8 x9 x10 x12 true) else ((arboristref01_Rising.f k (rd_L1 x10 x12)).bind fun t690 => (arboristlaw10_FillEdges.j2 k x7 x8 x9 x10 x12 (!t690))))) else (none)) else (arboristlaw10_FillEdges.j2 k x7 x8 x9 x10 x12 true))) else (none)) else (none)) else (some x7)
def arboristlaw10_FillEdges.j2 : Nat → Bool → List (List Bool) → List Int → List (List Int) → Int → Bool → Option (Bool)
  | 0, _, _, _, _, _, _ => none
  | k + 1, x7, x8, x9, x10, x12, x76 => if x76 = true then (some false) else (arboristlaw10_FillEdges.l1 k x7 x8 x9 x10 x12 (wrap64 (x12 + 1)))
def arboristlaw10_FillEdges.l1 : Nat → Bool → List (List Bool) → List Int → List (List Int) → Int → Int → Option (Bool)
  | 0, _, _, _, _, _, _ => none
  | k + 1, x7, x8, x9, x10, x12, x14 => if x14 < (x9.length : Int) then (if 0 ≤ x12 then (if x12 < (x10.length : Int) then (if 0 ≤ x14 then ((arboristref01_In.f k (rd_L1 x10 x12) (rd x9 x14)).bind fun t693 => (if x12 < (x9.length : Int) then (if 0 ≤ (rd x9 x12) then (if (rd x9 x12) < (x8.length : Int) then (if 0 ≤ (rd x9 x14) then (if (rd x9 x14) < ((rd_L7 x8 (rd x9 x12)).length : Int) then (if rdOf false (rd_L7 x8 (rd x9 x12)) (rd x9 x14) = true then (if t693 = true then (arboristlaw10_FillEdges.l1 k x7 x8 x9 x10 x12 (wrap64 (x14 + 1))) else (some false)) else (arboristlaw10_FillEdges.l1 k x7 x8 x9 x10 x12 (wrap64 (x14 + 1)))) else (none)) else (none)) else (none)) else (none)) else (none))) else (none)) else (none)) else (none)) else (arboristlaw10_FillEdges.l0 k x7 x8 x9 x10 (wrap64 (x12 + 1)))
end
def arboristlaw10_FillEdges.f (k : Nat) (a0 : Int) (l1 : List (List Int)) (l2 : List Int) : Option (Bool) := (arboristlaw10_shown.f k).bind fun t664 => ((arboristlaw10_made.f k a0 l1).bind fun t665 => ((arboristlaw10_given.f k (t665.length : Int) l2).bind fun t668 => ((arboristref08_Graph.f k t665).bind fun t671 => ((fill_Bags.f t671 t668).bind fun bt674 => (if bt674.2 = 0 then (arboristlaw10_FillEdges.j0 k t664 t665 t668 bt674.1 ((bt674.1.length : Int) != (t668.length : Int))) else (arboristlaw10_FillEdges.j0 k t664 t665 t668 bt674.1 true))))))
theorem arboristlaw10_FillEdges.mono_l : ∀ k, (∀ y0 y1 y2 y3 y4, LeO (arboristlaw10_FillEdges.j0 k y0 y1 y2 y3 y4) (arboristlaw10_FillEdges.j0 (k + 1) y0 y1 y2 y3 y4)) ∧ (∀ y0 y1 y2 y3 y4, LeO (arboristlaw10_FillEdges.l0 k y0 y1 y2 y3 y4) (arboristlaw10_FillEdges.l0 (k + 1) y0 y1 y2 y3 y4)) ∧ (∀ y0 y1 y2 y3 y4 y5, LeO (arboristlaw10_FillEdges.j2 k y0 y1 y2 y3 y4 y5) (arboristlaw10_FillEdges.j2 (k + 1) y0 y1 y2 y3 y4 y5)) ∧ (∀ y0 y1 y2 y3 y4 y5, LeO (arboristlaw10_FillEdges.l1 k y0 y1 y2 y3 y4 y5) (arboristlaw10_FillEdges.l1 (k + 1) y0 y1 y2 y3 y4 y5))
  | 0 => ⟨fun _ _ _ _ _ r h => by simp [arboristlaw10_FillEdges.j0] at h, fun _ _ _ _ _ r h => by simp [arboristlaw10_FillEdges.l0] at h, fun _ _ _ _ _ _ r h => by simp [arboristlaw10_FillEdges.j2] at h, fun _ _ _ _ _ _ r h => by simp [arboristlaw10_FillEdges.l1] at h⟩
  | k + 1 => by
    obtain ⟨ih0, ih1, ih2, ih3⟩ := arboristlaw10_FillEdges.mono_l k
    refine ⟨?_, ?_, ?_, ?_⟩
    all_goals intros
    all_goals (first | unfold arboristlaw10_FillEdges.j0 | unfold arboristlaw10_FillEdges.l0 | unfold arboristlaw10_FillEdges.j2 | unfold arboristlaw10_FillEdges.l1)
    all_goals repeat' first
    | (with_reducible exact ih0 _ _ _ _ _)
    | (with_reducible exact ih1 _ _ _ _ _)
    | (with_reducible exact ih2 _ _ _ _ _ _)
    | (with_reducible exact ih3 _ _ _ _ _ _)
    | (with_reducible exact arboristlaw10_given.mono _ _ _)
    | (with_reducible exact arboristlaw10_made.mono _ _ _)
    | (with_reducible exact arboristlaw10_shown.mono _)
    | (with_reducible exact arboristref01_In.mono _ _ _)
    | (with_reducible exact arboristref01_Meet.mono _ _ _)
    | (with_reducible exact arboristref01_Rising.mono _ _)
    | (with_reducible exact arboristref08_Graph.mono _ _)
    | (with_reducible exact LeO.refl _)
    | (with_reducible exact LeO.none _)
    | (with_reducible refine LeO.ite ?_ ?_)
    | (with_reducible refine LeO.bind ?_ (fun _ => ?_))
    | exact ih0 _ _ _ _ _
    | exact ih1 _ _ _ _ _
    | exact ih2 _ _ _ _ _ _
    | exact ih3 _ _ _ _ _ _
    | exact arboristlaw10_given.mono _ _ _
    | exact arboristlaw10_made.mono _ _ _
    | exact arboristlaw10_shown.mono _
    | exact arboristref01_In.mono _ _ _
    | exact arboristref01_Meet.mono _ _ _
    | exact arboristref01_Rising.mono _ _
    | exact arboristref08_Graph.mono _ _
    | exact LeO.none _
    | refine LeO.ite ?_ ?_
    | refine LeO.bind ?_ (fun _ => ?_)
theorem arboristlaw10_FillEdges.mono : ∀ a0 a1 a2 k, LeO (arboristlaw10_FillEdges.f k a0 a1 a2) (arboristlaw10_FillEdges.f (k + 1) a0 a1 a2) := by
  intro a0 a1 a2 k
  obtain ⟨ih0, ih1, ih2, ih3⟩ := arboristlaw10_FillEdges.mono_l k
  unfold arboristlaw10_FillEdges.f
  repeat' first
      | (with_reducible exact ih0 _ _ _ _ _)
      | (with_reducible exact ih1 _ _ _ _ _)
      | (with_reducible exact ih2 _ _ _ _ _ _)
      | (with_reducible exact ih3 _ _ _ _ _ _)
      | (with_reducible exact arboristlaw10_given.mono _ _ _)
      | (with_reducible exact arboristlaw10_made.mono _ _ _)
      | (with_reducible exact arboristlaw10_shown.mono _)
      | (with_reducible exact arboristref01_In.mono _ _ _)
      | (with_reducible exact arboristref01_Meet.mono _ _ _)
      | (with_reducible exact arboristref01_Rising.mono _ _)
      | (with_reducible exact arboristref08_Graph.mono _ _)
      | (with_reducible exact LeO.refl _)
      | (with_reducible exact LeO.none _)
      | (with_reducible refine LeO.ite ?_ ?_)
      | (with_reducible refine LeO.bind ?_ (fun _ => ?_))
      | exact ih0 _ _ _ _ _
      | exact ih1 _ _ _ _ _
      | exact ih2 _ _ _ _ _ _
      | exact ih3 _ _ _ _ _ _
      | exact arboristlaw10_given.mono _ _ _
      | exact arboristlaw10_made.mono _ _ _
      | exact arboristlaw10_shown.mono _
      | exact arboristref01_In.mono _ _ _
      | exact arboristref01_Meet.mono _ _ _
      | exact arboristref01_Rising.mono _ _
      | exact arboristref08_Graph.mono _ _
      | exact LeO.none _
      | refine LeO.ite ?_ ?_
      | refine LeO.bind ?_ (fun _ => ?_)
def arboristlaw10_FillEdges.T10 : Bool × List (List Nat × List Nat) := (true, [([], []), ([], []), ([0, 1], [0, 1]), ([2], [2]), ([], []), ([], []), ([4, 5], [4, 5]), ([6], [6]), ([3, 7], [3, 7]), ([8, 8, 0, 1, 2, 3, 4, 5, 6, 7, 8], [8])])
def arboristlaw10_FillEdges.B10 : List Nat := [0, 0, 3, 7, 0, 0, 48, 112, 255, 511]
theorem arboristlaw10_FillEdges.tab10 : rtab .any (opsOf Tryd.f5 10) = arboristlaw10_FillEdges.T10 := by kernel_rfl
theorem arboristlaw10_FillEdges.bits10 : waitsOk arboristlaw10_FillEdges.T10.2 arboristlaw10_FillEdges.B10 = true := by kernel_rfl
def arboristlaw10_FillEdges.T11 : Bool × List (List Nat × List Nat) := (true, [([], []), ([0], [0]), ([1], [1]), ([2], [2]), ([2], [2]), ([3, 4, 2], [2, 3, 4]), ([5, 2], [2, 5]), ([2], [2]), ([2], [2]), ([7, 8, 2], [2, 7, 8]), ([6, 9, 2, 2], [2, 6, 9]), ([10, 2], [2, 10]), ([11, 2], [2, 11]), ([2, 12], [2, 12]), ([13, 10], [13]), ([14], [14]), ([14], [14]), ([15, 16, 14], [14, 15, 16]), ([17, 14], [14, 17]), ([18, 14, 14], [14, 18]), ([19, 14], [14, 19]), ([14, 20], [14, 20])])
def arboristlaw10_FillEdges.B11 : List Nat := [0, 1, 3, 7, 7, 31, 63, 7, 7, 391, 1023, 2047, 4095, 8191, 16383, 32767, 32767, 131071, 262143, 524287, 1048575, 2097151]
theorem arboristlaw10_FillEdges.tab11 : rtab .any (opsOf Tryd.f5 11) = arboristlaw10_FillEdges.T11 := by kernel_rfl
theorem arboristlaw10_FillEdges.bits11 : waitsOk arboristlaw10_FillEdges.T11.2 arboristlaw10_FillEdges.B11 = true := by kernel_rfl
def arboristlaw10_FillEdges.T16 : Bool × List (List Nat × List Nat) := (true, [([], []), ([], []), ([0, 1], [0, 1]), ([2], [2]), ([], []), ([], []), ([4, 5], [4, 5]), ([6], [6]), ([3, 7], [3, 7]), ([8, 8, 0, 1, 2, 3, 4, 5, 6, 7, 8], [8])])
def arboristlaw10_FillEdges.B16 : List Nat := [0, 0, 3, 7, 0, 0, 48, 112, 255, 511]
theorem arboristlaw10_FillEdges.tab16 : rtab .any (opsOf Tryd.f5 16) = arboristlaw10_FillEdges.T16 := by kernel_rfl
theorem arboristlaw10_FillEdges.bits16 : waitsOk arboristlaw10_FillEdges.T16.2 arboristlaw10_FillEdges.B16 = true := by kernel_rfl
def arboristlaw10_FillEdges.T17 : Bool × List (List Nat × List Nat) := (true, [([], []), ([], []), ([], []), ([1, 2], [1, 2]), ([3], [3]), ([0, 4], [0, 4]), ([5], [5]), ([], []), ([], []), ([7, 8], [7, 8]), ([9], [9]), ([6, 10], [6, 10]), ([11], [11]), ([12], [12]), ([13], [13]), ([14, 13], [13, 14]), ([13, 15], [13, 15])])
def arboristlaw10_FillEdges.B17 : List Nat := [0, 0, 0, 6, 14, 31, 63, 0, 0, 384, 896, 2047, 4095, 8191, 16383, 32767, 65535]
theorem arboristlaw10_FillEdges.tab17 : rtab .any (opsOf Tryd.f5 17) = arboristlaw10_FillEdges.T17 := by kernel_rfl
theorem arboristlaw10_FillEdges.bits17 : waitsOk arboristlaw10_FillEdges.T17.2 arboristlaw10_FillEdges.B17 = true := by kernel_rfl
set_option maxHeartbeats 8000000 in
set_option maxRecDepth 100000 in
theorem arboristlaw10_FillEdges.calls (k : Nat) (a0 : Int) (A1 : Option Addr) (c1 : Nat) (l1 : List (List Int)) (A2 : Option Addr) (c2 : Nat) (l2 : List Int) (r : Bool) (w : World) (hTb : Tab64 w) (hr1 : Kd.C (Kd.slice 3 (Kd.int .i64)) w A1 l1.length l1) (hc1 : l1.length ≤ c1) (hr2 : Kd.C (Kd.int .i64) w A2 l2.length l2) (hc2 : l2.length ≤ c2) (hT : r = true) (h : arboristlaw10_FillEdges.f k a0 l1 l2 = some r) :
    Calls Tryd.prog 5 #[.int .i64 a0, .slice A1 l1.length c1, .slice A2 l2.length c2] w fun e w' => e = .returned (.bool r) ∧ Below w.heap.size w w' := by
  have HTAB := Aside0.mk hTb
  clear hTb
  have HTR_ := Aside0.mk (show r = true from hT)
  clear hT
  have HR1 := Aside0.mk hr1
  have HC1 := Aside0.mk hc1
  clear hr1 hc1
  have HR2 := Aside0.mk hr2
  have HC2 := Aside0.mk hc2
  clear hr2 hc2
  have HB := Aside0.mk (Below.refl w.heap.size w)
  have H : ((arboristlaw10_shown.f k).bind fun t664 => ((arboristlaw10_made.f k a0 l1).bind fun t665 => ((arboristlaw10_given.f k (t665.length : Int) l2).bind fun t668 => ((arboristref08_Graph.f k t665).bind fun t671 => ((fill_Bags.f t671 t668).bind fun bt674 => (if bt674.2 = 0 then (arboristlaw10_FillEdges.j0 k t664 t665 t668 bt674.1 ((bt674.1.length : Int) != (t668.length : Int))) else (arboristlaw10_FillEdges.j0 k t664 t665 t668 bt674.1 true))))))) = some r := h
  clear h
  replace H := Option.bind_eq_some_iff.mp H
  obtain ⟨t664, A40, H⟩ := H
  replace H : ((arboristlaw10_made.f k a0 l1).bind fun t665 => ((arboristlaw10_given.f k (t665.length : Int) l2).bind fun t668 => ((arboristref08_Graph.f k t665).bind fun t671 => ((fill_Bags.f t671 t668).bind fun bt674 => (if bt674.2 = 0 then (arboristlaw10_FillEdges.j0 k t664 t665 t668 bt674.1 ((bt674.1.length : Int) != (t668.length : Int))) else (arboristlaw10_FillEdges.j0 k t664 t665 t668 bt674.1 true)))))) = some r := H
  have A4 := Aside0.mk A40
  clear A40
  replace H := Option.bind_eq_some_iff.mp H
  obtain ⟨t665, A50, H⟩ := H
  replace H : ((arboristlaw10_given.f k (t665.length : Int) l2).bind fun t668 => ((arboristref08_Graph.f k t665).bind fun t671 => ((fill_Bags.f t671 t668).bind fun bt674 => (if bt674.2 = 0 then (arboristlaw10_FillEdges.j0 k t664 t665 t668 bt674.1 ((bt674.1.length : Int) != (t668.length : Int))) else (arboristlaw10_FillEdges.j0 k t664 t665 t668 bt674.1 true))))) = some r := H
  have A5 := Aside0.mk A50
  clear A50
  replace H := Option.bind_eq_some_iff.mp H
  obtain ⟨t668, A60, H⟩ := H
  replace H : ((arboristref08_Graph.f k t665).bind fun t671 => ((fill_Bags.f t671 t668).bind fun bt674 => (if bt674.2 = 0 then (arboristlaw10_FillEdges.j0 k t664 t665 t668 bt674.1 ((bt674.1.length : Int) != (t668.length : Int))) else (arboristlaw10_FillEdges.j0 k t664 t665 t668 bt674.1 true)))) = some r := H
  have A6 := Aside0.mk A60
  clear A60
  replace H := Option.bind_eq_some_iff.mp H
  obtain ⟨t671, A70, H⟩ := H
  replace H : ((fill_Bags.f t671 t668).bind fun bt674 => (if bt674.2 = 0 then (arboristlaw10_FillEdges.j0 k t664 t665 t668 bt674.1 ((bt674.1.length : Int) != (t668.length : Int))) else (arboristlaw10_FillEdges.j0 k t664 t665 t668 bt674.1 true))) = some r := H
  have A7 := Aside0.mk A70
  clear A70
  replace H := Option.bind_eq_some_iff.mp H
  obtain ⟨⟨t674, t677⟩, A80, H⟩ := H
  replace H : (if t677 = 0 then (arboristlaw10_FillEdges.j0 k t664 t665 t668 t674 ((t674.length : Int) != (t668.length : Int))) else (arboristlaw10_FillEdges.j0 k t664 t665 t668 t674 true)) = some r := H
  have A8 := Aside0.mk A80
  clear A80
  have HC9 := Aside0.mk H
  clear H
  go_enter Tryd.func5, Tryd.ntmps5
  go_upto_region 5 with (first | ((with_reducible refine gate_callee (f := 10) rfl ?_); refine goesL_ (some 16) rfl rfl Tryd.func10 (by kernel_rfl) rfl #[] rfl (by (try simp only [List.map_toArray, List.map_cons, List.map_nil]); first | done | rfl | (simp only [List.length_drop, List.length_take]; rfl)) ?_; (with_reducible refine (arboristlaw10_shown.calls (hTb := (by first | exact HTAB.out | exact tab_drewN HTAB.out _ | exact tab_below HTAB.out (by repeat (first | (with_reducible first | exact HB.out | apply below_alloc | apply pw_below_drewN | apply below_drew1) | exact HB.out)))) k  t664 _ A4.out).mono ?_); rintro e w10 ⟨rfl, hb⟩; refine ⟨_, rfl, ?_⟩; have n0_ := Aside0.mk (below_step (by repeat (first | (with_reducible first | exact HB.out | apply below_alloc | apply pw_below_drewN | apply below_drew1) | exact HB.out)) hb); clear HB; have HB := n0_; clear n0_; (try clear hb); (try clear hb2); (try clear hk); (try clear hi)) | ((with_reducible refine gate_callee (f := 11) rfl ?_); refine goesL_ (some 19) rfl rfl Tryd.func11 (by kernel_rfl) rfl #[.int .i64 a0, .slice A1 l1.length c1] rfl (by (try simp only [List.map_toArray, List.map_cons, List.map_nil]); first | done | rfl | (simp only [List.length_drop, List.length_take]; rfl)) ?_; (with_reducible refine (arboristlaw10_made.calls k a0 _ _ l1 t665 _ ?side1 ?side2 A5.out).mono ?_); (case side1 => repeat (first | exact (Kd.C_below HR1.out HB.out) | (with_reducible refine Kd.C_alloc ?_ _) | (with_reducible refine Kd.C_drewN ?_ _) | (with_reducible refine Kd.C_drew ?_))); (case side2 => exact HC1.out); rintro e w11 ⟨v666, rfl, ho0, hb⟩; refine ⟨_, rfl, ?_⟩; have n0_ := Aside0.mk (Kd.S_lower ho0 (below_size (by repeat (first | (with_reducible first | exact HB.out | apply below_alloc | apply pw_below_drewN | apply below_drew1) | exact HB.out)))); have n1_ := Aside0.mk (below_step (by repeat (first | (with_reducible first | exact HB.out | apply below_alloc | apply pw_below_drewN | apply below_drew1) | exact HB.out)) hb); clear HB; have HO667 := n0_; have HB := n1_; clear n0_ n1_; (try clear hb); (try clear hb2); (try clear hk); (try clear hi); (try clear ho0); obtain ⟨Ao12, co12, eo12⟩ := Kd.S_slice HO667.out; subst eo12) | ((with_reducible refine gate_callee (f := 13) rfl ?_); refine goesL_ (some 23) rfl rfl Tryd.func13 (by kernel_rfl) rfl #[.int .i64 (t665.length : Int), .slice A2 l2.length c2] rfl (by (try simp only [List.map_toArray, List.map_cons, List.map_nil]); first | done | rfl | (simp only [List.length_drop, List.length_take]; rfl)) ?_; (with_reducible refine (arboristlaw10_given.calls k (t665.length : Int) _ _ l2 t668 _ ?side1 ?side2 A6.out).mono ?_); (case side1 => repeat (first | exact (Kd.C_below HR2.out HB.out) | (with_reducible refine Kd.C_alloc ?_ _) | (with_reducible refine Kd.C_drewN ?_ _) | (with_reducible refine Kd.C_drew ?_))); (case side2 => exact HC2.out); rintro e w13 ⟨v669, rfl, ho0, hb⟩; refine ⟨_, rfl, ?_⟩; have n0_ := Aside0.mk (Kd.S_below (by (with_reducible repeat (first | apply Kd.S_alloc | apply Kd.S_drewN | apply Kd.S_drew)); exact HO667.out) hb); have n1_ := Aside0.mk (Kd.R_lower ho0 (below_size (by repeat (first | (with_reducible first | exact HB.out | apply below_alloc | apply pw_below_drewN | apply below_drew1) | exact HB.out)))); have n2_ := Aside0.mk (below_step (by repeat (first | (with_reducible first | exact HB.out | apply below_alloc | apply pw_below_drewN | apply below_drew1) | exact HB.out)) hb); clear HO667; clear HB; have HO667 := n0_; have HO670 := n1_; have HB := n2_; clear n0_ n1_ n2_; (try clear hb); (try clear hb2); (try clear hk); (try clear hi); (try clear ho0)) | ((with_reducible refine gate_callee (f := 12) rfl ?_); refine goesL_ (some 26) rfl rfl Tryd.func12 (by kernel_rfl) rfl #[.slice Ao12 t665.length co12] rfl (by (try simp only [List.map_toArray, List.map_cons, List.map_nil]); first | done | rfl | (simp only [List.length_drop, List.length_take]; rfl)) ?_; (with_reducible refine (arboristref08_Graph.calls k _ _ t665 t671 _ ?side1 ?side2 A7.out).mono ?_); (case side1 => repeat (first | exact (Kd.S_reads' HO667.out).2.2 | (with_reducible refine Kd.C_alloc ?_ _) | (with_reducible refine Kd.C_drewN ?_ _) | (with_reducible refine Kd.C_drew ?_))); (case side2 => exact (Kd.S_reads' HO667.out).2.1); rintro e w14 ⟨v672, rfl, ho0, hb⟩; refine ⟨_, rfl, ?_⟩; have n0_ := Aside0.mk (Kd.S_below (by (with_reducible repeat (first | apply Kd.S_alloc | apply Kd.S_drewN | apply Kd.S_drew)); exact HO667.out) hb); have n1_ := Aside0.mk (Kd.R_below (by (with_reducible repeat (first | apply Kd.R_alloc | apply Kd.R_drewN | apply Kd.R_drew)); exact HO670.out) hb); have n2_ := Aside0.mk (Kd.R_lower ho0 (below_size (by repeat (first | (with_reducible first | exact HB.out | apply below_alloc | apply pw_below_drewN | apply below_drew1) | exact HB.out)))); have n3_ := Aside0.mk (below_step (by repeat (first | (with_reducible first | exact HB.out | apply below_alloc | apply pw_below_drewN | apply below_drew1) | exact HB.out)) hb); clear HO667; clear HO670; clear HB; have HO667 := n0_; have HO670 := n1_; have HO673 := n2_; have HB := n3_; clear n0_ n1_ n2_ n3_; (try clear hb); (try clear hb2); (try clear hk); (try clear hi); (try clear ho0); obtain ⟨Ao15, co15, eo15⟩ := Kd.R_slice HO673.out; subst eo15; obtain ⟨Ao16, co16, eo16⟩ := Kd.R_slice HO670.out; subst eo16) | ((with_reducible refine gate_callee (f := 15) rfl ?_); refine goesL_ (some 28) rfl rfl Tryd.func15 (by kernel_rfl) rfl #[.agg #[.slice Ao15 t671.length co15], .slice Ao16 t668.length co16] rfl (by (try simp only [List.map_toArray, List.map_cons, List.map_nil]); first | done | rfl | (simp only [List.length_drop, List.length_take]; rfl)) ?_; (with_reducible refine (fill_Bags.calls (hTb := (by first | exact HTAB.out | exact tab_drewN HTAB.out _ | exact tab_below HTAB.out (by repeat (first | (with_reducible first | exact HB.out | apply below_alloc | apply pw_below_drewN | apply below_drew1) | exact HB.out)))) _ _ t671 _ _ t668 t674 t677 _ ?side1 ?side2 ?side3 ?side4 A8.out).mono ?_); (case side1 => repeat (first | exact (Kd.R_reads' HO673.out).2.2 | (with_reducible refine Kd.C_alloc ?_ _) | (with_reducible refine Kd.C_drewN ?_ _) | (with_reducible refine Kd.C_drew ?_))); (case side2 => exact (Kd.R_reads' HO673.out).2.1); (case side3 => repeat (first | exact (Kd.R_reads' HO670.out).2.2 | (with_reducible refine Kd.C_alloc ?_ _) | (with_reducible refine Kd.C_drewN ?_ _) | (with_reducible refine Kd.C_drew ?_))); (case side4 => exact (Kd.R_reads' HO670.out).2.1); rintro e w17 ⟨v675, rfl, ho0, hb⟩; refine ⟨_, rfl, ?_⟩; have n0_ := Aside0.mk (Kd.S_below (by (with_reducible repeat (first | apply Kd.S_alloc | apply Kd.S_drewN | apply Kd.S_drew)); exact HO667.out) hb); have n1_ := Aside0.mk (Kd.R_below (by (with_reducible repeat (first | apply Kd.R_alloc | apply Kd.R_drewN | apply Kd.R_drew)); exact HO670.out) hb); have n2_ := Aside0.mk (Kd.R_below (by (with_reducible repeat (first | apply Kd.R_alloc | apply Kd.R_drewN | apply Kd.R_drew)); exact HO673.out) hb); have n3_ := Aside0.mk (Kd.S_lower (Kd.S_new' ho0 (Kd.R_lt (by (with_reducible repeat (first | apply Kd.R_alloc | apply Kd.R_drewN | apply Kd.R_drew)); exact HO670.out))) (below_size (by repeat (first | (with_reducible first | exact HB.out | apply below_alloc | apply pw_below_drewN | apply below_drew1) | exact HB.out)))); have n4_ := Aside0.mk (below_step (by repeat (first | (with_reducible first | exact HB.out | apply below_alloc | apply pw_below_drewN | apply below_drew1) | exact HB.out)) hb); clear HO667; clear HO670; clear HO673; clear HB; have HO667 := n0_; have HO670 := n1_; have HO673 := n2_; have HO676 := n3_; have HB := n4_; clear n0_ n1_ n2_ n3_ n4_; (try clear hb); (try clear hb2); (try clear hk); (try clear hi); (try clear ho0)))
  (try simp only [Act.put, List.setIfInBounds_toArray, List.set_cons_zero, List.set_cons_succ])
  go_cut [39] (fun v39 wc => ∃ (kq : Nat) (x39_8 : Bool), v39 = .bool x39_8 ∧ Aside0 (arboristlaw10_FillEdges.j0 kq t664 t665 t668 t674 x39_8 = some r) ∧ Aside0 (kq ≤ k) ∧ Aside0 (Kd.S (Kd.slice 4 Kd.bool) 55 wc w.heap.size (fun _ => True) (.slice Ao12 t665.length co12) t665) ∧ Aside0 (Kd.R (Kd.int .i64) 3 wc w.heap.size (fun _ => True) (.slice Ao16 t668.length co16) t668) ∧ Aside0 (Kd.S (Kd.slice 3 (Kd.int .i64)) 23 wc w.heap.size (fun k_ => some k_ ≠ ((.slice Ao16 t668.length co16) : Value).ownBlock) v675 t674) ∧ Aside0 (Below w.heap.size w wc))
  case first =>
    have H := HC9.out
    clear HC9
    by_cases c18 : t677 = 0
    · rw [if_pos c18] at H
      have c18b0 : (t677 == 0) = true := beq_iff_eq.mpr c18
      have c18b1 : (t677 != 0) = false := bne_eq_false_iff_eq.mpr c18
      clear c18
      (first | rw [c18b0] | (simp only [i64_w, i32_w]; rw [c18b0]) | skip)
      have H' := Aside0.mk H
      clear H
      obtain ⟨Ao19, co19, eo19⟩ := Kd.S_slice HO676.out
      subst eo19
      go_wp2
      go_meet
      case rel => exact ⟨_, (((t674.length : Int) != (t668.length : Int))), (by first | rfl | (simp; done) | (simp [*]; done)), H', ⟨by first | omega | exact Nat.le_refl _⟩, ⟨by (with_reducible repeat (first | apply Kd.S_alloc | apply Kd.S_drewN | apply Kd.S_drew)); exact HO667.out⟩, ⟨by (with_reducible repeat (first | apply Kd.R_alloc | apply Kd.R_drewN | apply Kd.R_drew)); exact HO670.out⟩, ⟨by (with_reducible repeat (first | apply Kd.S_alloc | apply Kd.S_drewN | apply Kd.S_drew)); exact Kd.S_mono HO676.out (fun _ hk => hk.2)⟩, ⟨by repeat (first | (with_reducible first | exact HB.out | apply below_alloc | apply pw_below_drewN | apply below_drew1) | exact HB.out)⟩⟩
    · rw [if_neg c18] at H
      have c18b0 : (t677 == 0) = false := beq_eq_false_iff_ne.mpr c18
      have c18b1 : (t677 != 0) = true := bne_iff_ne.mpr c18
      (first | rw [c18b0] | (simp only [i64_w, i32_w]; rw [c18b0]) | skip)
      have H' := Aside0.mk H
      clear H
      go_wp2
      go_meet
      case rel => exact ⟨_, (true), (by first | rfl | (simp; done) | (simp [*]; done)), H', ⟨by first | omega | exact Nat.le_refl _⟩, ⟨by (with_reducible repeat (first | apply Kd.S_alloc | apply Kd.S_drewN | apply Kd.S_drew)); exact HO667.out⟩, ⟨by (with_reducible repeat (first | apply Kd.R_alloc | apply Kd.R_drewN | apply Kd.R_drew)); exact HO670.out⟩, ⟨by (with_reducible repeat (first | apply Kd.S_alloc | apply Kd.S_drewN | apply Kd.S_drew)); exact Kd.S_mono HO676.out (fun _ hk => hk.2)⟩, ⟨by repeat (first | (with_reducible first | exact HB.out | apply below_alloc | apply pw_below_drewN | apply below_drew1) | exact HB.out)⟩⟩
  case rest =>
    clear HC9
    try clear c1
    try clear c2
    try clear p2
    try clear c5
    try clear c10
    try clear c11
    try clear c12
    try clear c13
    try clear c15
    try clear c18
    try clear c18b0
    try clear c18b1
    obtain ⟨kq, x39_8, rfl, HA, HJ8, HO_8, HO_9, HO_10, HB⟩ := hcut
    cases kq with
    | zero => exact absurd HA.out (by simp [arboristlaw10_FillEdges.j0])
    | succ kj8 =>
      have H := HA.out
      clear HA
      simp only [arboristlaw10_FillEdges.j0] at H
      by_cases c20 : x39_8 = true
      · subst c20
        have H1 : (some false) = some r := by rw [if_pos rfl] at H; exact H
        clear H
        have H := H1
        clear H1
        exact absurd ((Option.some.inj H).trans HTR_.out) (by decide)
      · replace c20 := Bool.eq_false_iff.mpr c20
        subst c20
        have H1 : (arboristlaw10_FillEdges.l0 kj8 t664 t665 t668 t674 0) = some r := by rw [if_neg (show ¬ (false = true) by decide)] at H; exact H
        clear H
        have H := H1
        clear H1
        have H' := Aside0.mk H
        clear H
        go_wp2
        go_loopg [12] kj8 (fun kq v12 w' => ∃ (x12_2 : Int), v12 = .int .i64 x12_2 ∧ Aside0 (arboristlaw10_FillEdges.l0 kq t664 t665 t668 t674 x12_2 = some r) ∧ Aside0 (kq ≤ kj8) ∧ Aside0 (Kd.S (Kd.slice 4 Kd.bool) 55 w' w.heap.size (fun _ => True) (.slice Ao12 t665.length co12) t665) ∧ Aside0 (Kd.R (Kd.int .i64) 3 w' w.heap.size (fun _ => True) (.slice Ao16 t668.length co16) t668) ∧ Aside0 (Kd.S (Kd.slice 3 (Kd.int .i64)) 23 w' w.heap.size (fun k_ => some k_ ≠ ((.slice Ao16 t668.length co16) : Value).ownBlock) v675 t674) ∧ Aside0 (Below w.heap.size w w'))
        case atStart => exact ⟨(0), (by first | rfl | (simp; done) | (simp [*]; done)), H', ⟨Nat.le_refl _⟩, ⟨by (with_reducible repeat (first | apply Kd.S_alloc | apply Kd.S_drewN | apply Kd.S_drew)); exact HO_8.out⟩, ⟨by (with_reducible repeat (first | apply Kd.R_alloc | apply Kd.R_drewN | apply Kd.R_drew)); exact HO_9.out⟩, ⟨by (with_reducible repeat (first | apply Kd.S_alloc | apply Kd.S_drewN | apply Kd.S_drew)); exact HO_10.out⟩, ⟨by repeat (first | (with_reducible first | exact HB.out | apply below_alloc | apply pw_below_drewN | apply below_drew1) | exact HB.out)⟩⟩
        case round =>
          clear H'
          try clear c1
          try clear c2
          try clear p2
          try clear c5
          try clear c10
          try clear c11
          try clear c12
          try clear c13
          try clear c15
          try clear c18
          try clear c18b0
          try clear c18b1
          try clear c20
          try clear p2
          obtain ⟨x12_2, rfl, HA, HK2, HO_8, HO_9, HO_10, HB⟩ := hrel
          cases gk with
          | zero => exact absurd HA.out (by simp [arboristlaw10_FillEdges.l0])
          | succ k2 =>
            have H := HA.out
            clear HA
            simp only [arboristlaw10_FillEdges.l0] at H
            by_cases c21 : x12_2 < (t668.length : Int)
            · rw [if_pos c21] at H
              have c21b0 : decide (x12_2 < (t668.length : Int)) = true := decide_eq_true c21
              clear c21
              by_cases c22 : 0 ≤ x12_2
              · rw [if_pos c22] at H
                have c22b0 : decide (0 ≤ x12_2) = true := decide_eq_true c22
                clear c22
                by_cases c23 : x12_2 < (t674.length : Int)
                · rw [if_pos c23] at H
                  have c23b0 : decide (x12_2 < (t674.length : Int)) = true := decide_eq_true c23
                  clear c23
                  replace H := Option.bind_eq_some_iff.mp H
                  obtain ⟨t680, A240, H⟩ := H
                  replace H : (if t680 = true then (if x12_2 ≤ (t668.length : Int) then ((arboristref01_Meet.f k2 (rd_L1 t674 x12_2) (t668.take (x12_2 : Int).toNat)).bind fun t686 => (if (t686.length : Int) > 0 then (arboristlaw10_FillEdges.j2 k2 t664 t665 t668 t674 x12_2 true) else ((arboristref01_Rising.f k2 (rd_L1 t674 x12_2)).bind fun t690 => (arboristlaw10_FillEdges.j2 k2 t664 t665 t668 t674 x12_2 (!t690))))) else (none)) else (arboristlaw10_FillEdges.j2 k2 t664 t665 t668 t674 x12_2 true)) = some r := H
                  have A24 := Aside0.mk A240
                  clear A240
                  have HC25 := Aside0.mk H
                  clear H
                  try go_wp2
                  (try (rw [drewN_self wr]; generalize hq_ : World.drewN wr _ = wr; have n0_ := Aside0.mk (Kd.S_at hq_ HO_8.out); have n1_ := Aside0.mk (Kd.R_at hq_ HO_9.out); have n2_ := Aside0.mk (Kd.S_at hq_ HO_10.out); have n3_ := Aside0.mk (below_at hq_ HB.out); clear hq_ HO_8 HO_9 HO_10 HB; have HO_8 := n0_; have HO_9 := n1_; have HO_10 := n2_; have HB := n3_; clear n0_ n1_ n2_ n3_))
                  have n0_ := Aside0.mk (Kd.S_drew HO_8.out)
                  have n1_ := Aside0.mk (Kd.R_drew HO_9.out)
                  have n2_ := Aside0.mk (Kd.S_drew HO_10.out)
                  have n3_ := Aside0.mk (below_drew1 HB.out)
                  clear HO_8
                  clear HO_9
                  clear HO_10
                  clear HB
                  have HO_8 := n0_
                  have HO_9 := n1_
                  have HO_10 := n2_
                  have HB := n3_
                  clear n0_ n1_ n2_ n3_
                  obtain ⟨Ao27, co27, eo27⟩ := Kd.S_slice HO_10.out
                  (first | subst eo27 | (injection eo27 with f1_ f2_ f3_; have f4_ := f1_.symm; have f5_ := f3_.symm; clear f1_ f2_ f3_; subst f4_; subst f5_))
                  have p678 : 0 ≤ (x12_2 : Int) := of_decide_eq_true (by first | (with_reducible assumption) | assumption)
                  have q678 : x12_2 < (t674.length : Int) := of_decide_eq_true (by first | (with_reducible assumption) | assumption)
                  obtain ⟨ad678, A678_0, c678_0, e678, hx678_0, hl678_0, hi678_0⟩ := at_L1 (Kd.S_reads' HO_10.out).2.2 x12_2 p678 q678
                  cases e678
                  obtain ⟨ce678, hce678, hMe678, hcc678⟩ := Kd.S_get HO_10.out [] x12_2 p678 (by first | exact q678 | exact of_decide_eq_true (by first | (with_reducible assumption) | assumption) | (have e_ := (Kd.S_reads' HO_10.out).1; omega))
                  obtain ⟨ve678_0, rfl, ge678_0⟩ := hMe678
                  have hv678_0 := hcc678 0 _ rfl
                  rw [Nat.add_zero, show ((Kd.slice 3 (Kd.int .i64))).sz = 1 from rfl, Nat.mul_one] at hv678_0
                  replace hv678_0 := Option.some.inj (hv678_0.symm.trans hx678_0)
                  rw [hv678_0] at ge678_0
                  have HL678_0 := Aside0.mk (show Kd.R (Kd.int .i64) 3 _ _ _ _ (rd_L1 t674 x12_2) from ge678_0)
                  clear hv678_0 ge678_0
                  clear hcc678 hce678
                  have HR678_0 := Aside0.mk hi678_0
                  have HC678_0 := Aside0.mk hl678_0
                  clear hi678_0 hl678_0
                  replace p678 := eq_true p678
                  replace q678 := eq_true q678
                  have p679 : 0 ≤ (x12_2 : Int) := of_decide_eq_true (by first | (with_reducible assumption) | assumption)
                  have q679 : x12_2 < (t668.length : Int) := of_decide_eq_true (by first | (with_reducible assumption) | assumption)
                  obtain ⟨ad679, e679, hx679_0⟩ := Kd.at_int (Kd.R_reads' HO_9.out).2.2 x12_2 p679 q679
                  cases e679
                  replace p679 := eq_true p679
                  replace q679 := eq_true q679
                  refine start_ (n := 10) (S := fun w' => w'.cell? (ad678.add (x12_2).toNat) = some (.slice A678_0 (rd_L1 t674 x12_2).length c678_0) ∧ w'.cell? (ad679.add (x12_2).toNat) = some (.int .i64 (rd t668 x12_2))) (ds := []) (bs 10 0) (by kernel_rfl) rfl rfl ⟨hx678_0, hx679_0⟩ (fun hHeld => ?_); refine with_tabW arboristlaw10_FillEdges.tab10 arboristlaw10_FillEdges.bits10 (fun HT_ HW_ => ?_)
                  generalize wr.drew = w26 at HO_8 HO_9 HO_10 HB HL678_0 HR678_0 hx678_0 hx679_0 hHeld ⊢
                  refine pure_ (i := 0) (N := some 46) (v := ?_) (a' := ?_) (bs 10 1) rfl rfl (any_of HT_.out (by kernel_rfl)) (fun _ _ _ h => h) (Or.inl ⟨by rfl, ?_⟩) ?_ ?_
                  rotate_left; (intro w'; go_simp; with_reducible rfl); rotate_left; (simp only [Act.put, List.setIfInBounds_toArray, List.set_cons_zero, List.set_cons_succ, i64_w, i32_w]; rfl)
                  refine pure_ (i := 1) (N := some 47) (v := ?_) (a' := ?_) (bs 10 3) rfl rfl (any_of HT_.out (by kernel_rfl)) (fun _ _ _ h => h) (Or.inl ⟨by rfl, ?_⟩) ?_ ?_
                  rotate_left; (intro w'; go_simp; with_reducible rfl); rotate_left; (simp only [Act.put, List.setIfInBounds_toArray, List.set_cons_zero, List.set_cons_succ, i64_w, i32_w]; rfl)
                  refine pure_ (i := 2) (N := some 48) (v := ?_) (a' := ?_) (bs 10 7) rfl rfl (any_of HT_.out (by kernel_rfl)) (fun _ _ _ h => h) (Or.inl ⟨by rfl, ?_⟩) ?_ ?_
                  rotate_left; (intro w'; go_simp; with_reducible rfl); rotate_left; (simp only [Act.put, List.setIfInBounds_toArray, List.set_cons_zero, List.set_cons_succ, i64_w, i32_w]; rfl)
                  refine pure_ (i := 4) (N := some 50) (v := ?_) (a' := ?_) (bs 10 23) rfl rfl (any_of HT_.out (by kernel_rfl)) (fun _ _ _ h => h) (Or.inl ⟨by rfl, ?_⟩) ?_ ?_
                  rotate_left; (intro w'; go_simp; with_reducible rfl); rotate_left; (simp only [Act.put, List.setIfInBounds_toArray, List.set_cons_zero, List.set_cons_succ, i64_w, i32_w]; rfl)
                  refine pure_ (i := 5) (N := some 51) (v := ?_) (a' := ?_) (bs 10 55) rfl rfl (any_of HT_.out (by kernel_rfl)) (fun _ _ _ h => h) (Or.inl ⟨by rfl, ?_⟩) ?_ ?_
                  rotate_left; (intro w'; go_simp; with_reducible rfl); rotate_left; (simp only [Act.put, List.setIfInBounds_toArray, List.set_cons_zero, List.set_cons_succ, i64_w, i32_w]; rfl)
                  refine pure_ (i := 6) (N := some 52) (v := ?_) (a' := ?_) (bs 10 119) rfl rfl (any_of HT_.out (by kernel_rfl)) (fun _ _ _ h => h) (Or.inl ⟨by rfl, ?_⟩) ?_ ?_
                  rotate_left; (intro w'; go_simp; with_reducible rfl); rotate_left; (simp only [Act.put, List.setIfInBounds_toArray, List.set_cons_zero, List.set_cons_succ, i64_w, i32_w]; rfl)
                  refine take_ (i := 3) (N := some 49) (v := ?_) (a' := ?_) (bs 10 127) rfl rfl (take_ofW HT_.out HW_.out (by kernel_rfl)) (fun _ _ _ h => h) (Or.inl ⟨by rfl, ?_⟩) hHeld ?_ ?_
                  rotate_left
                  · rintro w' ⟨s0, s1⟩
                    go_simp
                    with_reducible rfl
                  rotate_left; (simp only [Act.put, List.setIfInBounds_toArray, List.set_cons_zero, List.set_cons_succ, i64_w, i32_w]; rfl)
                  refine take_ (i := 7) (N := some 53) (v := ?_) (a' := ?_) (bs 10 255) rfl rfl (take_ofW HT_.out HW_.out (by kernel_rfl)) (fun _ _ _ h => h) (Or.inl ⟨by rfl, ?_⟩) hHeld ?_ ?_
                  rotate_left
                  · rintro w' ⟨s0, s1⟩
                    go_simp
                    with_reducible rfl
                  rotate_left; (simp only [Act.put, List.setIfInBounds_toArray, List.set_cons_zero, List.set_cons_succ, i64_w, i32_w]; rfl)
                  refine one_ (i := 8) (N := some 54) (bs 10 511) rfl rfl (one_of HT_.out (by kernel_rfl)) (by decide) (fun K hK => ?_)
                  refine goes_ Tryd.func27 (by kernel_rfl) rfl #[.slice A678_0 (rd_L1 t674 x12_2).length c678_0, .int .i64 (rd t668 x12_2)] (by rfl) rfl rfl (by (try simp only [List.map_toArray, List.map_cons, List.map_nil]); first | done | rfl | (simp only [List.length_drop, List.length_take]; rfl)) ?_
                  with_reducible refine (arboristref01_In.calls k2 _ _ (rd_L1 t674 x12_2) (rd t668 x12_2) t680 _ ?side1 ?side2 A24.out).mono ?_
                  (case side1 => repeat (first | exact (by repeat (first | (with_reducible exact HR678_0.out) | (with_reducible refine Kd.C_alloc ?_ _) | (with_reducible refine Kd.C_drewN ?_ _) | (with_reducible refine Kd.C_drew ?_) | exact HR678_0.out)) | (with_reducible refine Kd.C_alloc ?_ _) | (with_reducible refine Kd.C_drewN ?_ _) | (with_reducible refine Kd.C_drew ?_)))
                  (case side2 => exact HC678_0.out)
                  rintro e w' ⟨rfl, ⟨nd, rfl⟩⟩
                  refine ⟨_, rfl, ?_⟩
                  refine hK.out _ _ ⟨hHeld.1, hHeld.2⟩ (fun hHeld => ?_)
                  clear hK K
                  refine norm_ (a' := ?_) ?_ ?_
                  rotate_left
                  · show Act.put _ (some 54) _ = _
                    simp only [Act.put, List.setIfInBounds_toArray, List.set_cons_zero, List.set_cons_succ, i64_w, i32_w]
                    rfl
                  refine pure_ (i := 9) (N := some 13) (v := ?_) (a' := ?_) (bs 10 1023) rfl rfl (any_of HT_.out (by kernel_rfl)) (fun _ _ _ h => h) (Or.inl ⟨by rfl, ?_⟩) ?_ ?_
                  rotate_left; (intro w'; go_simp; with_reducible rfl); rotate_left; (simp only [Act.put, List.setIfInBounds_toArray, List.set_cons_zero, List.set_cons_succ, i64_w, i32_w]; rfl)
                  refine done_ (done_of HT_.out (by kernel_rfl)) ?_
                  go_upto_region 11 with (fail)
                  go_cut [76] (fun v76 wc => ∃ (kq : Nat) (x76_24 : Bool), v76 = .bool x76_24 ∧ Aside0 (arboristlaw10_FillEdges.j2 kq t664 t665 t668 t674 x12_2 x76_24 = some r) ∧ Aside0 (kq ≤ k2) ∧ Aside0 (Kd.S (Kd.slice 4 Kd.bool) 55 wc w.heap.size (fun _ => True) (.slice Ao12 t665.length co12) t665) ∧ Aside0 (Kd.R (Kd.int .i64) 3 wc w.heap.size (fun _ => True) (.slice (some ad679) t668.length co16) t668) ∧ Aside0 (Kd.S (Kd.slice 3 (Kd.int .i64)) 23 wc w.heap.size (fun k_ => some k_ ≠ ((.slice (some ad679) t668.length co16) : Value).ownBlock) (.slice (some ad678) t674.length co27) t674) ∧ Aside0 (Kd.C (Kd.int .i64) wc A678_0 (rd_L1 t674 x12_2).length (rd_L1 t674 x12_2)) ∧ Aside0 (Below w.heap.size w wc))
                  case first =>
                    have H := HC25.out
                    clear HC25
                    by_cases c28 : t680 = true
                    · subst c28
                      have H1 : (if x12_2 ≤ (t668.length : Int) then ((arboristref01_Meet.f k2 (rd_L1 t674 x12_2) (t668.take (x12_2 : Int).toNat)).bind fun t686 => (if (t686.length : Int) > 0 then (arboristlaw10_FillEdges.j2 k2 t664 t665 t668 t674 x12_2 true) else ((arboristref01_Rising.f k2 (rd_L1 t674 x12_2)).bind fun t690 => (arboristlaw10_FillEdges.j2 k2 t664 t665 t668 t674 x12_2 (!t690))))) else (none)) = some r := by rw [if_pos rfl] at H; exact H
                      clear H
                      have H := H1
                      clear H1
                      have c29b0 := eq_true (of_decide_eq_true (by first | (with_reducible assumption) | assumption) : 0 ≤ x12_2)
                      by_cases c30 : x12_2 ≤ (t668.length : Int)
                      · rw [if_pos c30] at H
                        have c30b0 := eq_true c30
                        have c30b1 : decide (x12_2 ≤ (t668.length : Int)) = true := decide_eq_true c30
                        clear c30
                        obtain ⟨y682, hy682⟩ : ∃ y_ : List Int, y_ = (t668.take (x12_2 : Int).toNat) := ⟨_, rfl⟩
                        replace H : ((arboristref01_Meet.f k2 (rd_L1 t674 x12_2) y682).bind fun t686 => (if (t686.length : Int) > 0 then (arboristlaw10_FillEdges.j2 k2 t664 t665 t668 t674 x12_2 true) else ((arboristref01_Rising.f k2 (rd_L1 t674 x12_2)).bind fun t690 => (arboristlaw10_FillEdges.j2 k2 t664 t665 t668 t674 x12_2 (!t690))))) = some r := by first | (rw [hy682]; with_reducible exact H) | (have H2_ := (Option.bind_some _ _).symm.trans H; rw [hy682]; with_reducible exact H2_) | (have H2_ := (Option.bind_some _ _).symm.trans H; with_reducible exact H2_) | with_reducible exact H | (rw [hy682]; exact H) | exact H
                        have Ny682 := Aside0.mk hy682
                        clear hy682
                        replace H := Option.bind_eq_some_iff.mp H
                        obtain ⟨t686, A310, H⟩ := H
                        replace H : (if (t686.length : Int) > 0 then (arboristlaw10_FillEdges.j2 k2 t664 t665 t668 t674 x12_2 true) else ((arboristref01_Rising.f k2 (rd_L1 t674 x12_2)).bind fun t690 => (arboristlaw10_FillEdges.j2 k2 t664 t665 t668 t674 x12_2 (!t690)))) = some r := H
                        have A31 := Aside0.mk A310
                        clear A310
                        by_cases c32 : (t686.length : Int) > 0
                        · rw [if_pos c32] at H
                          have c32b0 : decide (0 < (t686.length : Int)) = true := decide_eq_true c32
                          have c32b1 : decide (0 < t686.length) = true := decide_eq_true (by omega)
                          clear c32
                          (first | rw [c32b0] | (simp only [i64_w, i32_w]; rw [c32b0]) | skip)
                          have H' := Aside0.mk H
                          clear H
                          try go_wp2
                          (try (rw [drewN_self w26]; generalize hq_ : World.drewN w26 _ = w26; have n0_ := Aside0.mk (Kd.S_at hq_ HO_8.out); have n1_ := Aside0.mk (Kd.R_at hq_ HO_9.out); have n2_ := Aside0.mk (Kd.S_at hq_ HO_10.out); have n3_ := Aside0.mk (Kd.R_at hq_ HL678_0.out); have n4_ := Aside0.mk (Kd.C_below HR678_0.out (below_at hq_ (Below.refl _ _))); have n5_ := Aside0.mk (below_at hq_ HB.out); clear hq_ HO_8 HO_9 HO_10 HL678_0 HR678_0 HB; have HO_8 := n0_; have HO_9 := n1_; have HO_10 := n2_; have HL678_0 := n3_; have HR678_0 := n4_; have HB := n5_; clear n0_ n1_ n2_ n3_ n4_ n5_))
                          have n0_ := Aside0.mk (Kd.S_drew HO_8.out)
                          have n1_ := Aside0.mk (Kd.R_drew HO_9.out)
                          have n2_ := Aside0.mk (Kd.S_drew HO_10.out)
                          have n3_ := Aside0.mk (Kd.R_drew HL678_0.out)
                          have n4_ := Aside0.mk (Kd.C_drew HR678_0.out)
                          have n5_ := Aside0.mk (below_drew1 HB.out)
                          clear HO_8
                          clear HO_9
                          clear HO_10
                          clear HL678_0
                          clear HR678_0
                          clear HB
                          have HO_8 := n0_
                          have HO_9 := n1_
                          have HO_10 := n2_
                          have HL678_0 := n3_
                          have HR678_0 := n4_
                          have HB := n5_
                          clear n0_ n1_ n2_ n3_ n4_ n5_
                          have p681 : 0 ≤ (x12_2 : Int) := of_decide_eq_true (by first | (with_reducible assumption) | assumption)
                          have q681 : x12_2 < (t674.length : Int) := of_decide_eq_true (by first | (with_reducible assumption) | assumption)
                          obtain ⟨ad681, A681_0, c681_0, e681, hx681_0, hl681_0, hi681_0⟩ := at_L1 (Kd.S_reads' HO_10.out).2.2 x12_2 p681 q681
                          obtain rfl : ad678 = ad681 := (by injection e681)
                          obtain ⟨ce681, hce681, hMe681, hcc681⟩ := Kd.S_get HO_10.out [] x12_2 p681 (by first | exact q681 | exact of_decide_eq_true (by first | (with_reducible assumption) | assumption) | (have e_ := (Kd.S_reads' HO_10.out).1; omega))
                          obtain ⟨ve681_0, rfl, ge681_0⟩ := hMe681
                          have hv681_0 := hcc681 0 _ rfl
                          rw [Nat.add_zero, show ((Kd.slice 3 (Kd.int .i64))).sz = 1 from rfl, Nat.mul_one] at hv681_0
                          replace hv681_0 := Option.some.inj (hv681_0.symm.trans hx681_0)
                          rw [hv681_0] at ge681_0
                          have HL681_0 := Aside0.mk (show Kd.R (Kd.int .i64) 3 _ _ _ _ (rd_L1 t674 x12_2) from ge681_0)
                          clear hv681_0 ge681_0
                          clear hcc681 hce681
                          have HR681_0 := Aside0.mk hi681_0
                          have HC681_0 := Aside0.mk hl681_0
                          clear hi681_0 hl681_0
                          replace p681 := eq_true p681
                          replace q681 := eq_true q681
                          have q34 : (x12_2 : Int) ≤ ((t668.length : Int) : Int) := of_decide_eq_true (by first | (with_reducible assumption) | assumption)
                          obtain ⟨i034, hi034, _, hsz34, _⟩ := info_parts info3
                          have hroom34 : t668.length ≤ co16 := (Kd.R_reads' HO_9.out).2.1
                          have hC34 : Kd.C (Kd.int .i64) _ (some ad679) t668.length t668 := (Kd.R_reads' HO_9.out).2.2
                          have hcut34 := cut_to (P := Tryd.prog) 23 3 .i64 Tryd.underlying23 hi034 (some ad679) t668.length co16 x12_2 (of_decide_eq_true (by first | (with_reducible assumption) | assumption)) q34 hroom34
                          have hr34 := Kd.C_take (m := (x12_2 : Int).toNat) hC34 (by omega)
                          have hy34 : y682.length = (x12_2 : Int).toNat := (by rw [Ny682.out, List.length_take]; omega)
                          rw [← Ny682.out] at hr34
                          rw [← hy34] at hcut34
                          have HR685 := Aside0.mk hr34
                          have HC685 := Aside0.mk (show y682.length ≤ co16 from by omega)
                          clear hr34 hC34 hroom34 hi034 hsz34
                          have KY34 := Aside0.mk hy34
                          clear hy34
                          have KL34 := Aside0.mk (show (x12_2 : Int).toNat ≤ t668.length from by omega)
                          replace q34 := eq_true q34
                          refine start_ (n := 22) (S := fun w' => w'.cell? (ad678.add (x12_2).toNat) = some (.slice A681_0 (rd_L1 t674 x12_2).length c681_0)) (ds := []) (bs 22 0) (by kernel_rfl) rfl rfl (hx681_0) (fun hHeld => ?_); refine with_tabW arboristlaw10_FillEdges.tab11 arboristlaw10_FillEdges.bits11 (fun HT_ HW_ => ?_)
                          generalize w26.drew = w33 at HO_8 HO_9 HO_10 HL678_0 HR678_0 HB HL681_0 HR681_0 HR685 hx681_0 hHeld ⊢
                          refine pure_ (i := 0) (N := some 55) (v := ?_) (a' := ?_) (bs 22 1) rfl rfl (any_of HT_.out (by kernel_rfl)) (fun _ _ _ h => h) (Or.inl ⟨by rfl, ?_⟩) ?_ ?_
                          rotate_left; (intro w'; go_simp; with_reducible rfl); rotate_left; (simp only [Act.put, List.setIfInBounds_toArray, List.set_cons_zero, List.set_cons_succ, i64_w, i32_w]; rfl)
                          refine pure_ (i := 1) (N := some 56) (v := ?_) (a' := ?_) (bs 22 3) rfl rfl (any_of HT_.out (by kernel_rfl)) (fun _ _ _ h => h) (Or.inl ⟨by rfl, ?_⟩) ?_ ?_
                          rotate_left; (intro w'; go_simp; with_reducible rfl); rotate_left; (simp only [Act.put, List.setIfInBounds_toArray, List.set_cons_zero, List.set_cons_succ, i64_w, i32_w]; rfl)
                          refine pure_ (i := 2) (N := some 57) (v := ?_) (a' := ?_) (bs 22 7) rfl rfl (any_of HT_.out (by kernel_rfl)) (fun _ _ _ h => h) (Or.inl ⟨by rfl, ?_⟩) ?_ ?_
                          rotate_left; (intro w'; go_simp; with_reducible rfl); rotate_left; (simp only [Act.put, List.setIfInBounds_toArray, List.set_cons_zero, List.set_cons_succ, i64_w, i32_w]; rfl)
                          refine pure_ (i := 3) (N := some 58) (v := ?_) (a' := ?_) (bs 22 15) rfl rfl (any_of HT_.out (by kernel_rfl)) (fun _ _ _ h => h) (Or.inl ⟨by rfl, ?_⟩) ?_ ?_
                          rotate_left; (intro w'; go_simp; with_reducible rfl); rotate_left; (simp only [Act.put, List.setIfInBounds_toArray, List.set_cons_zero, List.set_cons_succ, i64_w, i32_w]; rfl)
                          refine pure_ (i := 4) (N := some 59) (v := ?_) (a' := ?_) (bs 22 31) rfl rfl (any_of HT_.out (by kernel_rfl)) (fun _ _ _ h => h) (Or.inl ⟨by rfl, ?_⟩) ?_ ?_
                          rotate_left; (intro w'; go_simp; with_reducible rfl); rotate_left; (simp only [Act.put, List.setIfInBounds_toArray, List.set_cons_zero, List.set_cons_succ, i64_w, i32_w]; rfl)
                          refine pure_ (i := 5) (N := some 60) (v := ?_) (a' := ?_) (bs 22 63) rfl rfl (any_of HT_.out (by kernel_rfl)) (fun _ _ _ h => h) (Or.inl ⟨by rfl, ?_⟩) ?_ ?_
                          rotate_left; (intro w'; go_simp; with_reducible rfl); rotate_left; (simp only [Act.put, List.setIfInBounds_toArray, List.set_cons_zero, List.set_cons_succ, i64_w, i32_w]; rfl)
                          refine pure_ (i := 7) (N := some 62) (v := ?_) (a' := ?_) (bs 22 191) rfl rfl (any_of HT_.out (by kernel_rfl)) (fun _ _ _ h => h) (Or.inl ⟨by rfl, ?_⟩) ?_ ?_
                          rotate_left; (intro w'; go_simp; with_reducible rfl); rotate_left; (simp only [Act.put, List.setIfInBounds_toArray, List.set_cons_zero, List.set_cons_succ, i64_w, i32_w]; rfl)
                          refine pure_ (i := 8) (N := some 63) (v := ?_) (a' := ?_) (bs 22 447) rfl rfl (any_of HT_.out (by kernel_rfl)) (fun _ _ _ h => h) (Or.inl ⟨by rfl, ?_⟩) ?_ ?_
                          rotate_left; (intro w'; go_simp; with_reducible rfl); rotate_left; (simp only [Act.put, List.setIfInBounds_toArray, List.set_cons_zero, List.set_cons_succ, i64_w, i32_w]; rfl)
                          refine pure_ (i := 9) (N := some 64) (v := ?_) (a' := ?_) (bs 22 959) rfl rfl (any_of HT_.out (by kernel_rfl)) (fun _ _ _ h => h) (Or.inl ⟨by rfl, ?_⟩) ?_ ?_
                          rotate_left; (intro w'; go_simp; with_reducible rfl); rotate_left; (simp only [Act.put, List.setIfInBounds_toArray, List.set_cons_zero, List.set_cons_succ, i64_w, i32_w]; rfl)
                          refine take_ (i := 6) (N := some 61) (v := ?_) (a' := ?_) (bs 22 1023) rfl rfl (take_ofW HT_.out HW_.out (by kernel_rfl)) (fun _ _ _ h => h) (Or.inl ⟨by rfl, ?_⟩) hHeld ?_ ?_
                          rotate_left
                          · intro w' s0
                            go_simp
                            with_reducible rfl
                          rotate_left; (simp only [Act.put, List.setIfInBounds_toArray, List.set_cons_zero, List.set_cons_succ, i64_w, i32_w]; rfl)
                          refine one_ (i := 10) (N := some 65) (bs 22 2047) rfl rfl (one_of HT_.out (by kernel_rfl)) (by decide) (fun K hK => ?_)
                          refine goes_ Tryd.func28 (by kernel_rfl) rfl #[.slice A681_0 (rd_L1 t674 x12_2).length c681_0, .slice (some ad679) y682.length co16] (by rfl) rfl rfl (by (try simp only [List.map_toArray, List.map_cons, List.map_nil]); first | done | rfl | (simp only [List.length_drop, List.length_take]; rfl)) ?_
                          with_reducible refine (arboristref01_Meet.calls k2 _ _ (rd_L1 t674 x12_2) _ _ y682 t686 _ ?side1 ?side2 ?side3 ?side4 A31.out).mono ?_
                          (case side1 => repeat (first | exact (by repeat (first | (with_reducible exact HR681_0.out) | (with_reducible refine Kd.C_alloc ?_ _) | (with_reducible refine Kd.C_drewN ?_ _) | (with_reducible refine Kd.C_drew ?_) | exact HR681_0.out)) | (with_reducible refine Kd.C_alloc ?_ _) | (with_reducible refine Kd.C_drewN ?_ _) | (with_reducible refine Kd.C_drew ?_)))
                          (case side2 => exact HC681_0.out)
                          (case side3 => repeat (first | exact (by repeat (first | (with_reducible exact HR685.out) | (with_reducible refine Kd.C_alloc ?_ _) | (with_reducible refine Kd.C_drewN ?_ _) | (with_reducible refine Kd.C_drew ?_) | exact HR685.out)) | (with_reducible refine Kd.C_alloc ?_ _) | (with_reducible refine Kd.C_drewN ?_ _) | (with_reducible refine Kd.C_drew ?_)))
                          (case side4 => exact HC685.out)
                          rintro e w35 ⟨v687, rfl, ho0, hb⟩
                          have HS0_ := (hb.cell (World.block_lt_of_cell? _ _ (hHeld))).trans (hHeld)
                          refine ⟨_, rfl, ?_⟩
                          have n0_ := Aside0.mk (Kd.S_below (by (with_reducible repeat (first | apply Kd.S_alloc | apply Kd.S_drewN | apply Kd.S_drew)); exact HO_8.out) hb)
                          have n1_ := Aside0.mk (Kd.R_elder' (by (with_reducible repeat (first | apply Kd.R_alloc | apply Kd.R_drewN | apply Kd.R_drew)); exact HO_9.out) (Kd.R_base ho0) hb)
                          have n2_ := Aside0.mk (Kd.S_elder' (by (with_reducible repeat (first | apply Kd.S_alloc | apply Kd.S_drewN | apply Kd.S_drew)); exact HO_10.out) (Kd.R_base ho0) hb)
                          have n3_ := Aside0.mk (Kd.R_elder' (by (with_reducible repeat (first | apply Kd.R_alloc | apply Kd.R_drewN | apply Kd.R_drew)); exact HL678_0.out) (Kd.R_base ho0) hb)
                          have n4_ := Aside0.mk (Kd.R_elder' (by (with_reducible repeat (first | apply Kd.R_alloc | apply Kd.R_drewN | apply Kd.R_drew)); exact HL681_0.out) (Kd.R_base ho0) hb)
                          have n5_ := Aside0.mk (Kd.R_lower (Kd.R_new' (Kd.R_new' (Kd.R_new' ho0 (Kd.R_lt (by (with_reducible repeat (first | apply Kd.R_alloc | apply Kd.R_drewN | apply Kd.R_drew)); exact HO_9.out))) (Kd.R_lt (by (with_reducible repeat (first | apply Kd.R_alloc | apply Kd.R_drewN | apply Kd.R_drew)); exact HL678_0.out))) (Kd.R_lt (by (with_reducible repeat (first | apply Kd.R_alloc | apply Kd.R_drewN | apply Kd.R_drew)); exact HL681_0.out))) (below_size (by repeat (first | (with_reducible first | exact HB.out | apply below_alloc | apply pw_below_drewN | apply below_drew1) | exact HB.out))))
                          have n6_ := Aside0.mk (Kd.C_below (by repeat (first | (with_reducible exact HR678_0.out) | (with_reducible refine Kd.C_alloc ?_ _) | (with_reducible refine Kd.C_drewN ?_ _) | (with_reducible refine Kd.C_drew ?_) | exact HR678_0.out)) hb)
                          have n7_ := Aside0.mk (Kd.C_below (by repeat (first | (with_reducible exact HR681_0.out) | (with_reducible refine Kd.C_alloc ?_ _) | (with_reducible refine Kd.C_drewN ?_ _) | (with_reducible refine Kd.C_drew ?_) | exact HR681_0.out)) hb)
                          have n8_ := Aside0.mk (Kd.C_below (by repeat (first | (with_reducible exact HR685.out) | (with_reducible refine Kd.C_alloc ?_ _) | (with_reducible refine Kd.C_drewN ?_ _) | (with_reducible refine Kd.C_drew ?_) | exact HR685.out)) hb)
                          have n9_ := Aside0.mk (below_step (by repeat (first | (with_reducible first | exact HB.out | apply below_alloc | apply pw_below_drewN | apply below_drew1) | exact HB.out)) hb)
                          clear HO_8
                          clear HO_9
                          clear HO_10
                          clear HL678_0
                          clear HL681_0
                          clear HR678_0
                          clear HR681_0
                          clear HR685
                          clear HB
                          have HO_8 := n0_
                          have HO_9 := n1_
                          have HO_10 := n2_
                          have HL678_0 := n3_
                          have HL681_0 := n4_
                          have HO688 := n5_
                          have HR678_0 := n6_
                          have HR681_0 := n7_
                          have HR685 := n8_
                          have HB := n9_
                          clear n0_ n1_ n2_ n3_ n4_ n5_ n6_ n7_ n8_ n9_
                          (try clear hb)
                          (try clear hb2)
                          (try clear hk)
                          (try clear hi)
                          (try clear ho0)
                          obtain ⟨Ao36, co36, eo36⟩ := Kd.R_slice HO688.out
                          (first | subst eo36 | (injection eo36 with f1_ f2_ f3_; have f4_ := f1_.symm; have f5_ := f3_.symm; clear f1_ f2_ f3_; subst f4_; subst f5_))
                          refine hK.out _ _ (HS0_) (fun hHeld => ?_)
                          clear hK K
                          refine norm_ (a' := ?_) ?_ ?_
                          rotate_left
                          · show Act.put _ (some 65) _ = _
                            simp only [Act.put, List.setIfInBounds_toArray, List.set_cons_zero, List.set_cons_succ, i64_w, i32_w]
                            rfl
                          refine pure_ (i := 11) (N := some 66) (v := ?_) (a' := ?_) (bs 22 4095) rfl rfl (any_of HT_.out (by kernel_rfl)) (fun _ _ _ h => h) (Or.inl ⟨by rfl, ?_⟩) ?_ ?_
                          rotate_left; (intro w'; go_simp; with_reducible rfl); rotate_left; (simp only [Act.put, List.setIfInBounds_toArray, List.set_cons_zero, List.set_cons_succ, i64_w, i32_w]; rfl)
                          refine pure_ (i := 12) (N := some 67) (v := ?_) (a' := ?_) (bs 22 8191) rfl rfl (any_of HT_.out (by kernel_rfl)) (fun _ _ _ h => h) (Or.inl ⟨by rfl, ?_⟩) ?_ ?_
                          rotate_left; (intro w'; go_simp; with_reducible rfl); rotate_left; (simp only [Act.put, List.setIfInBounds_toArray, List.set_cons_zero, List.set_cons_succ, i64_w, i32_w]; rfl)
                          refine pure_ (i := 13) (N := some 68) (v := ?_) (a' := ?_) (bs 22 16383) rfl rfl (any_of HT_.out (by kernel_rfl)) (fun _ _ _ h => h) (Or.inl ⟨by rfl, ?_⟩) ?_ ?_
                          rotate_left; (intro w'; go_simp; with_reducible rfl); rotate_left; (simp only [Act.put, List.setIfInBounds_toArray, List.set_cons_zero, List.set_cons_succ, i64_w, i32_w]; rfl)
                          refine pure_ (i := 14) (N := some 69) (v := ?_) (a' := ?_) (bs 22 32767) rfl rfl (any_of HT_.out (by kernel_rfl)) (fun _ _ _ h => h) (Or.inl ⟨by rfl, ?_⟩) ?_ ?_
                          rotate_left; (intro w'; go_simp; with_reducible rfl); rotate_left; (simp only [Act.put, List.setIfInBounds_toArray, List.set_cons_zero, List.set_cons_succ, i64_w, i32_w]; rfl)
                          refine pure_ (i := 15) (N := some 70) (v := undef) (a' := ?_) (bs 22 65535) rfl rfl (any_of HT_.out (by kernel_rfl)) (fun _ _ _ h => h) (Or.inr ⟨by rfl, rfl⟩) ?_ ?_
                          rotate_left; (simp only [Act.put, List.setIfInBounds_toArray, List.set_cons_zero, List.set_cons_succ, i64_w, i32_w]; rfl)
                          refine pure_ (i := 16) (N := some 71) (v := undef) (a' := ?_) (bs 22 131071) rfl rfl (any_of HT_.out (by kernel_rfl)) (fun _ _ _ h => h) (Or.inr ⟨by rfl, rfl⟩) ?_ ?_
                          rotate_left; (simp only [Act.put, List.setIfInBounds_toArray, List.set_cons_zero, List.set_cons_succ, i64_w, i32_w]; rfl)
                          refine pure_ (i := 17) (N := some 72) (v := undef) (a' := ?_) (bs 22 262143) rfl rfl (any_of HT_.out (by kernel_rfl)) (fun _ _ _ h => h) (Or.inr ⟨by rfl, rfl⟩) ?_ ?_
                          rotate_left; (simp only [Act.put, List.setIfInBounds_toArray, List.set_cons_zero, List.set_cons_succ, i64_w, i32_w]; rfl)
                          refine pure_ (i := 18) (N := some 73) (v := undef) (a' := ?_) (bs 22 524287) rfl rfl (any_of HT_.out (by kernel_rfl)) (fun _ _ _ h => h) (Or.inr ⟨by rfl, rfl⟩) ?_ ?_
                          rotate_left; (simp only [Act.put, List.setIfInBounds_toArray, List.set_cons_zero, List.set_cons_succ, i64_w, i32_w]; rfl)
                          refine pure_ (i := 19) (N := some 74) (v := undef) (a' := ?_) (bs 22 1048575) rfl rfl (any_of HT_.out (by kernel_rfl)) (fun _ _ _ h => h) (Or.inr ⟨by rfl, rfl⟩) ?_ ?_
                          rotate_left; (simp only [Act.put, List.setIfInBounds_toArray, List.set_cons_zero, List.set_cons_succ, i64_w, i32_w]; rfl)
                          refine pure_ (i := 20) (N := some 75) (v := undef) (a' := ?_) (bs 22 2097151) rfl rfl (any_of HT_.out (by kernel_rfl)) (fun _ _ _ h => h) (Or.inr ⟨by rfl, rfl⟩) ?_ ?_
                          rotate_left; (simp only [Act.put, List.setIfInBounds_toArray, List.set_cons_zero, List.set_cons_succ, i64_w, i32_w]; rfl)
                          refine pure_ (i := 21) (N := some 76) (v := ?_) (a' := ?_) (bs 22 4194303) rfl rfl (any_of HT_.out (by kernel_rfl)) (fun _ _ _ h => h) (Or.inl ⟨by rfl, ?_⟩) ?_ ?_
                          rotate_left; (intro w'; go_simp; with_reducible rfl); rotate_left; (simp only [Act.put, List.setIfInBounds_toArray, List.set_cons_zero, List.set_cons_succ, i64_w, i32_w]; rfl)
                          refine done_ (done_of HT_.out (by kernel_rfl)) ?_
                          try go_wp2
                          go_meet
                          case rel => exact ⟨_, (true), (by first | rfl | (simp; done) | (simp [*]; done)), H', ⟨by have := HJ8.out; have := HK2.out; first | omega | exact Nat.le_refl _⟩, ⟨by (with_reducible repeat (first | apply Kd.S_alloc | apply Kd.S_drewN | apply Kd.S_drew)); exact HO_8.out⟩, ⟨by (with_reducible repeat (first | apply Kd.R_alloc | apply Kd.R_drewN | apply Kd.R_drew)); exact Kd.R_mono HO_9.out (fun _ hk => trivial)⟩, ⟨by (with_reducible repeat (first | apply Kd.S_alloc | apply Kd.S_drewN | apply Kd.S_drew)); exact Kd.S_mono HO_10.out (fun _ hk => hk.1)⟩, ⟨by repeat (first | (with_reducible exact HR678_0.out) | (with_reducible refine Kd.C_alloc ?_ _) | (with_reducible refine Kd.C_drewN ?_ _) | (with_reducible refine Kd.C_drew ?_) | exact HR678_0.out)⟩, ⟨by repeat (first | (with_reducible first | exact HB.out | apply below_alloc | apply pw_below_drewN | apply below_drew1) | exact HB.out)⟩⟩
                        · rw [if_neg c32] at H
                          have c32b0 : decide (0 < (t686.length : Int)) = false := decide_eq_false c32
                          have c32b1 : decide (0 < t686.length) = false := decide_eq_false (by omega)
                          clear c32
                          (first | rw [c32b0] | (simp only [i64_w, i32_w]; rw [c32b0]) | skip)
                          replace H := Option.bind_eq_some_iff.mp H
                          obtain ⟨t690, A370, H⟩ := H
                          replace H : (arboristlaw10_FillEdges.j2 k2 t664 t665 t668 t674 x12_2 (!t690)) = some r := H
                          have A37 := Aside0.mk A370
                          clear A370
                          have H' := Aside0.mk H
                          clear H
                          try go_wp2
                          (try (rw [drewN_self w26]; generalize hq_ : World.drewN w26 _ = w26; have n0_ := Aside0.mk (Kd.S_at hq_ HO_8.out); have n1_ := Aside0.mk (Kd.R_at hq_ HO_9.out); have n2_ := Aside0.mk (Kd.S_at hq_ HO_10.out); have n3_ := Aside0.mk (Kd.R_at hq_ HL678_0.out); have n4_ := Aside0.mk (Kd.C_below HR678_0.out (below_at hq_ (Below.refl _ _))); have n5_ := Aside0.mk (below_at hq_ HB.out); clear hq_ HO_8 HO_9 HO_10 HL678_0 HR678_0 HB; have HO_8 := n0_; have HO_9 := n1_; have HO_10 := n2_; have HL678_0 := n3_; have HR678_0 := n4_; have HB := n5_; clear n0_ n1_ n2_ n3_ n4_ n5_))
                          have n0_ := Aside0.mk (Kd.S_drew HO_8.out)
                          have n1_ := Aside0.mk (Kd.R_drew HO_9.out)
                          have n2_ := Aside0.mk (Kd.S_drew HO_10.out)
                          have n3_ := Aside0.mk (Kd.R_drew HL678_0.out)
                          have n4_ := Aside0.mk (Kd.C_drew HR678_0.out)
                          have n5_ := Aside0.mk (below_drew1 HB.out)
                          clear HO_8
                          clear HO_9
                          clear HO_10
                          clear HL678_0
                          clear HR678_0
                          clear HB
                          have HO_8 := n0_
                          have HO_9 := n1_
                          have HO_10 := n2_
                          have HL678_0 := n3_
                          have HR678_0 := n4_
                          have HB := n5_
                          clear n0_ n1_ n2_ n3_ n4_ n5_
                          have p681 : 0 ≤ (x12_2 : Int) := of_decide_eq_true (by first | (with_reducible assumption) | assumption)
                          have q681 : x12_2 < (t674.length : Int) := of_decide_eq_true (by first | (with_reducible assumption) | assumption)
                          obtain ⟨ad681, A681_0, c681_0, e681, hx681_0, hl681_0, hi681_0⟩ := at_L1 (Kd.S_reads' HO_10.out).2.2 x12_2 p681 q681
                          obtain rfl : ad678 = ad681 := (by injection e681)
                          obtain ⟨ce681, hce681, hMe681, hcc681⟩ := Kd.S_get HO_10.out [] x12_2 p681 (by first | exact q681 | exact of_decide_eq_true (by first | (with_reducible assumption) | assumption) | (have e_ := (Kd.S_reads' HO_10.out).1; omega))
                          obtain ⟨ve681_0, rfl, ge681_0⟩ := hMe681
                          have hv681_0 := hcc681 0 _ rfl
                          rw [Nat.add_zero, show ((Kd.slice 3 (Kd.int .i64))).sz = 1 from rfl, Nat.mul_one] at hv681_0
                          replace hv681_0 := Option.some.inj (hv681_0.symm.trans hx681_0)
                          rw [hv681_0] at ge681_0
                          have HL681_0 := Aside0.mk (show Kd.R (Kd.int .i64) 3 _ _ _ _ (rd_L1 t674 x12_2) from ge681_0)
                          clear hv681_0 ge681_0
                          clear hcc681 hce681
                          have HR681_0 := Aside0.mk hi681_0
                          have HC681_0 := Aside0.mk hl681_0
                          clear hi681_0 hl681_0
                          replace p681 := eq_true p681
                          replace q681 := eq_true q681
                          have q39 : (x12_2 : Int) ≤ ((t668.length : Int) : Int) := of_decide_eq_true (by first | (with_reducible assumption) | assumption)
                          obtain ⟨i039, hi039, _, hsz39, _⟩ := info_parts info3
                          have hroom39 : t668.length ≤ co16 := (Kd.R_reads' HO_9.out).2.1
                          have hC39 : Kd.C (Kd.int .i64) _ (some ad679) t668.length t668 := (Kd.R_reads' HO_9.out).2.2
                          have hcut39 := cut_to (P := Tryd.prog) 23 3 .i64 Tryd.underlying23 hi039 (some ad679) t668.length co16 x12_2 (of_decide_eq_true (by first | (with_reducible assumption) | assumption)) q39 hroom39
                          have hr39 := Kd.C_take (m := (x12_2 : Int).toNat) hC39 (by omega)
                          have hy39 : y682.length = (x12_2 : Int).toNat := (by rw [Ny682.out, List.length_take]; omega)
                          rw [← Ny682.out] at hr39
                          rw [← hy39] at hcut39
                          have HR685 := Aside0.mk hr39
                          have HC685 := Aside0.mk (show y682.length ≤ co16 from by omega)
                          clear hr39 hC39 hroom39 hi039 hsz39
                          have KY39 := Aside0.mk hy39
                          clear hy39
                          have KL39 := Aside0.mk (show (x12_2 : Int).toNat ≤ t668.length from by omega)
                          replace q39 := eq_true q39
                          have p689 : 0 ≤ (x12_2 : Int) := of_decide_eq_true (by first | (with_reducible assumption) | assumption)
                          have q689 : x12_2 < (t674.length : Int) := of_decide_eq_true (by first | (with_reducible assumption) | assumption)
                          obtain ⟨ad689, A689_0, c689_0, e689, hx689_0, hl689_0, hi689_0⟩ := at_L1 (Kd.S_reads' HO_10.out).2.2 x12_2 p689 q689
                          obtain rfl : ad678 = ad689 := (by injection e689)
                          obtain ⟨ce689, hce689, hMe689, hcc689⟩ := Kd.S_get HO_10.out [] x12_2 p689 (by first | exact q689 | exact of_decide_eq_true (by first | (with_reducible assumption) | assumption) | (have e_ := (Kd.S_reads' HO_10.out).1; omega))
                          obtain ⟨ve689_0, rfl, ge689_0⟩ := hMe689
                          have hv689_0 := hcc689 0 _ rfl
                          rw [Nat.add_zero, show ((Kd.slice 3 (Kd.int .i64))).sz = 1 from rfl, Nat.mul_one] at hv689_0
                          replace hv689_0 := Option.some.inj (hv689_0.symm.trans hx689_0)
                          rw [hv689_0] at ge689_0
                          have HL689_0 := Aside0.mk (show Kd.R (Kd.int .i64) 3 _ _ _ _ (rd_L1 t674 x12_2) from ge689_0)
                          clear hv689_0 ge689_0
                          clear hcc689 hce689
                          have HR689_0 := Aside0.mk hi689_0
                          have HC689_0 := Aside0.mk hl689_0
                          clear hi689_0 hl689_0
                          replace p689 := eq_true p689
                          replace q689 := eq_true q689
                          refine start_ (n := 22) (S := fun w' => w'.cell? (ad678.add (x12_2).toNat) = some (.slice A681_0 (rd_L1 t674 x12_2).length c681_0) ∧ w'.cell? (ad678.add (x12_2).toNat) = some (.slice A689_0 (rd_L1 t674 x12_2).length c689_0)) (ds := []) (bs 22 0) (by kernel_rfl) rfl rfl ⟨hx681_0, hx689_0⟩ (fun hHeld => ?_); refine with_tabW arboristlaw10_FillEdges.tab11 arboristlaw10_FillEdges.bits11 (fun HT_ HW_ => ?_)
                          generalize w26.drew = w38 at HO_8 HO_9 HO_10 HL678_0 HR678_0 HB HL681_0 HL689_0 HR681_0 HR685 HR689_0 hx681_0 hx689_0 hHeld ⊢
                          refine pure_ (i := 0) (N := some 55) (v := ?_) (a' := ?_) (bs 22 1) rfl rfl (any_of HT_.out (by kernel_rfl)) (fun _ _ _ h => h) (Or.inl ⟨by rfl, ?_⟩) ?_ ?_
                          rotate_left; (intro w'; go_simp; with_reducible rfl); rotate_left; (simp only [Act.put, List.setIfInBounds_toArray, List.set_cons_zero, List.set_cons_succ, i64_w, i32_w]; rfl)
                          refine pure_ (i := 1) (N := some 56) (v := ?_) (a' := ?_) (bs 22 3) rfl rfl (any_of HT_.out (by kernel_rfl)) (fun _ _ _ h => h) (Or.inl ⟨by rfl, ?_⟩) ?_ ?_
                          rotate_left; (intro w'; go_simp; with_reducible rfl); rotate_left; (simp only [Act.put, List.setIfInBounds_toArray, List.set_cons_zero, List.set_cons_succ, i64_w, i32_w]; rfl)
                          refine pure_ (i := 2) (N := some 57) (v := ?_) (a' := ?_) (bs 22 7) rfl rfl (any_of HT_.out (by kernel_rfl)) (fun _ _ _ h => h) (Or.inl ⟨by rfl, ?_⟩) ?_ ?_
                          rotate_left; (intro w'; go_simp; with_reducible rfl); rotate_left; (simp only [Act.put, List.setIfInBounds_toArray, List.set_cons_zero, List.set_cons_succ, i64_w, i32_w]; rfl)
                          refine pure_ (i := 3) (N := some 58) (v := ?_) (a' := ?_) (bs 22 15) rfl rfl (any_of HT_.out (by kernel_rfl)) (fun _ _ _ h => h) (Or.inl ⟨by rfl, ?_⟩) ?_ ?_
                          rotate_left; (intro w'; go_simp; with_reducible rfl); rotate_left; (simp only [Act.put, List.setIfInBounds_toArray, List.set_cons_zero, List.set_cons_succ, i64_w, i32_w]; rfl)
                          refine pure_ (i := 4) (N := some 59) (v := ?_) (a' := ?_) (bs 22 31) rfl rfl (any_of HT_.out (by kernel_rfl)) (fun _ _ _ h => h) (Or.inl ⟨by rfl, ?_⟩) ?_ ?_
                          rotate_left; (intro w'; go_simp; with_reducible rfl); rotate_left; (simp only [Act.put, List.setIfInBounds_toArray, List.set_cons_zero, List.set_cons_succ, i64_w, i32_w]; rfl)
                          refine pure_ (i := 5) (N := some 60) (v := ?_) (a' := ?_) (bs 22 63) rfl rfl (any_of HT_.out (by kernel_rfl)) (fun _ _ _ h => h) (Or.inl ⟨by rfl, ?_⟩) ?_ ?_
                          rotate_left; (intro w'; go_simp; with_reducible rfl); rotate_left; (simp only [Act.put, List.setIfInBounds_toArray, List.set_cons_zero, List.set_cons_succ, i64_w, i32_w]; rfl)
                          refine pure_ (i := 7) (N := some 62) (v := ?_) (a' := ?_) (bs 22 191) rfl rfl (any_of HT_.out (by kernel_rfl)) (fun _ _ _ h => h) (Or.inl ⟨by rfl, ?_⟩) ?_ ?_
                          rotate_left; (intro w'; go_simp; with_reducible rfl); rotate_left; (simp only [Act.put, List.setIfInBounds_toArray, List.set_cons_zero, List.set_cons_succ, i64_w, i32_w]; rfl)
                          refine pure_ (i := 8) (N := some 63) (v := ?_) (a' := ?_) (bs 22 447) rfl rfl (any_of HT_.out (by kernel_rfl)) (fun _ _ _ h => h) (Or.inl ⟨by rfl, ?_⟩) ?_ ?_
                          rotate_left; (intro w'; go_simp; with_reducible rfl); rotate_left; (simp only [Act.put, List.setIfInBounds_toArray, List.set_cons_zero, List.set_cons_succ, i64_w, i32_w]; rfl)
                          refine pure_ (i := 9) (N := some 64) (v := ?_) (a' := ?_) (bs 22 959) rfl rfl (any_of HT_.out (by kernel_rfl)) (fun _ _ _ h => h) (Or.inl ⟨by rfl, ?_⟩) ?_ ?_
                          rotate_left; (intro w'; go_simp; with_reducible rfl); rotate_left; (simp only [Act.put, List.setIfInBounds_toArray, List.set_cons_zero, List.set_cons_succ, i64_w, i32_w]; rfl)
                          refine take_ (i := 6) (N := some 61) (v := ?_) (a' := ?_) (bs 22 1023) rfl rfl (take_ofW HT_.out HW_.out (by kernel_rfl)) (fun _ _ _ h => h) (Or.inl ⟨by rfl, ?_⟩) hHeld ?_ ?_
                          rotate_left
                          · rintro w' ⟨s0, s1⟩
                            go_simp
                            with_reducible rfl
                          rotate_left; (simp only [Act.put, List.setIfInBounds_toArray, List.set_cons_zero, List.set_cons_succ, i64_w, i32_w]; rfl)
                          refine one_ (i := 10) (N := some 65) (bs 22 2047) rfl rfl (one_of HT_.out (by kernel_rfl)) (by decide) (fun K hK => ?_)
                          refine goes_ Tryd.func28 (by kernel_rfl) rfl #[.slice A681_0 (rd_L1 t674 x12_2).length c681_0, .slice (some ad679) y682.length co16] (by rfl) rfl rfl (by (try simp only [List.map_toArray, List.map_cons, List.map_nil]); first | done | rfl | (simp only [List.length_drop, List.length_take]; rfl)) ?_
                          with_reducible refine (arboristref01_Meet.calls k2 _ _ (rd_L1 t674 x12_2) _ _ y682 t686 _ ?side1 ?side2 ?side3 ?side4 A31.out).mono ?_
                          (case side1 => repeat (first | exact (by repeat (first | (with_reducible exact HR681_0.out) | (with_reducible refine Kd.C_alloc ?_ _) | (with_reducible refine Kd.C_drewN ?_ _) | (with_reducible refine Kd.C_drew ?_) | exact HR681_0.out)) | (with_reducible refine Kd.C_alloc ?_ _) | (with_reducible refine Kd.C_drewN ?_ _) | (with_reducible refine Kd.C_drew ?_)))
                          (case side2 => exact HC681_0.out)
                          (case side3 => repeat (first | exact (by repeat (first | (with_reducible exact HR685.out) | (with_reducible refine Kd.C_alloc ?_ _) | (with_reducible refine Kd.C_drewN ?_ _) | (with_reducible refine Kd.C_drew ?_) | exact HR685.out)) | (with_reducible refine Kd.C_alloc ?_ _) | (with_reducible refine Kd.C_drewN ?_ _) | (with_reducible refine Kd.C_drew ?_)))
                          (case side4 => exact HC685.out)
                          rintro e w40 ⟨v687, rfl, ho0, hb⟩
                          have HS0_ := (hb.cell (World.block_lt_of_cell? _ _ (hHeld.1))).trans (hHeld.1)
                          have HS1_ := (hb.cell (World.block_lt_of_cell? _ _ (hHeld.2))).trans (hHeld.2)
                          refine ⟨_, rfl, ?_⟩
                          have n0_ := Aside0.mk (Kd.S_below (by (with_reducible repeat (first | apply Kd.S_alloc | apply Kd.S_drewN | apply Kd.S_drew)); exact HO_8.out) hb)
                          have n1_ := Aside0.mk (Kd.R_elder' (by (with_reducible repeat (first | apply Kd.R_alloc | apply Kd.R_drewN | apply Kd.R_drew)); exact HO_9.out) (Kd.R_base ho0) hb)
                          have n2_ := Aside0.mk (Kd.S_elder' (by (with_reducible repeat (first | apply Kd.S_alloc | apply Kd.S_drewN | apply Kd.S_drew)); exact HO_10.out) (Kd.R_base ho0) hb)
                          have n3_ := Aside0.mk (Kd.R_elder' (by (with_reducible repeat (first | apply Kd.R_alloc | apply Kd.R_drewN | apply Kd.R_drew)); exact HL678_0.out) (Kd.R_base ho0) hb)
                          have n4_ := Aside0.mk (Kd.R_elder' (by (with_reducible repeat (first | apply Kd.R_alloc | apply Kd.R_drewN | apply Kd.R_drew)); exact HL681_0.out) (Kd.R_base ho0) hb)
                          have n5_ := Aside0.mk (Kd.R_lower (Kd.R_new' (Kd.R_new' (Kd.R_new' ho0 (Kd.R_lt (by (with_reducible repeat (first | apply Kd.R_alloc | apply Kd.R_drewN | apply Kd.R_drew)); exact HO_9.out))) (Kd.R_lt (by (with_reducible repeat (first | apply Kd.R_alloc | apply Kd.R_drewN | apply Kd.R_drew)); exact HL678_0.out))) (Kd.R_lt (by (with_reducible repeat (first | apply Kd.R_alloc | apply Kd.R_drewN | apply Kd.R_drew)); exact HL681_0.out))) (below_size (by repeat (first | (with_reducible first | exact HB.out | apply below_alloc | apply pw_below_drewN | apply below_drew1) | exact HB.out))))
                          have n6_ := Aside0.mk (Kd.C_below (by repeat (first | (with_reducible exact HR678_0.out) | (with_reducible refine Kd.C_alloc ?_ _) | (with_reducible refine Kd.C_drewN ?_ _) | (with_reducible refine Kd.C_drew ?_) | exact HR678_0.out)) hb)
                          have n7_ := Aside0.mk (Kd.C_below (by repeat (first | (with_reducible exact HR681_0.out) | (with_reducible refine Kd.C_alloc ?_ _) | (with_reducible refine Kd.C_drewN ?_ _) | (with_reducible refine Kd.C_drew ?_) | exact HR681_0.out)) hb)
                          have n8_ := Aside0.mk (Kd.C_below (by repeat (first | (with_reducible exact HR685.out) | (with_reducible refine Kd.C_alloc ?_ _) | (with_reducible refine Kd.C_drewN ?_ _) | (with_reducible refine Kd.C_drew ?_) | exact HR685.out)) hb)
                          have n9_ := Aside0.mk (below_step (by repeat (first | (with_reducible first | exact HB.out | apply below_alloc | apply pw_below_drewN | apply below_drew1) | exact HB.out)) hb)
                          clear HO_8
                          clear HO_9
                          clear HO_10
                          clear HL678_0
                          clear HL681_0
                          clear HR678_0
                          clear HR681_0
                          clear HR685
                          clear HB
                          have HO_8 := n0_
                          have HO_9 := n1_
                          have HO_10 := n2_
                          have HL678_0 := n3_
                          have HL681_0 := n4_
                          have HO688 := n5_
                          have HR678_0 := n6_
                          have HR681_0 := n7_
                          have HR685 := n8_
                          have HB := n9_
                          (try (have m_ := Aside0.mk (Kd.C_below HR689_0.out hb); clear HR689_0; have HR689_0 := m_; clear m_))
                          clear n0_ n1_ n2_ n3_ n4_ n5_ n6_ n7_ n8_ n9_
                          (try clear hb)
                          (try clear hb2)
                          (try clear hk)
                          (try clear hi)
                          (try clear ho0)
                          obtain ⟨Ao41, co41, eo41⟩ := Kd.R_slice HO688.out
                          (first | subst eo41 | (injection eo41 with f1_ f2_ f3_; have f4_ := f1_.symm; have f5_ := f3_.symm; clear f1_ f2_ f3_; subst f4_; subst f5_))
                          refine hK.out _ _ ⟨HS0_, HS1_⟩ (fun hHeld => ?_)
                          clear hK K
                          refine norm_ (a' := ?_) ?_ ?_
                          rotate_left
                          · show Act.put _ (some 65) _ = _
                            simp only [Act.put, List.setIfInBounds_toArray, List.set_cons_zero, List.set_cons_succ, i64_w, i32_w]
                            rfl
                          refine pure_ (i := 11) (N := some 66) (v := ?_) (a' := ?_) (bs 22 4095) rfl rfl (any_of HT_.out (by kernel_rfl)) (fun _ _ _ h => h) (Or.inl ⟨by rfl, ?_⟩) ?_ ?_
                          rotate_left; (intro w'; go_simp; with_reducible rfl); rotate_left; (simp only [Act.put, List.setIfInBounds_toArray, List.set_cons_zero, List.set_cons_succ, i64_w, i32_w]; rfl)
                          refine pure_ (i := 12) (N := some 67) (v := ?_) (a' := ?_) (bs 22 8191) rfl rfl (any_of HT_.out (by kernel_rfl)) (fun _ _ _ h => h) (Or.inl ⟨by rfl, ?_⟩) ?_ ?_
                          rotate_left; (intro w'; go_simp; with_reducible rfl); rotate_left; (simp only [Act.put, List.setIfInBounds_toArray, List.set_cons_zero, List.set_cons_succ, i64_w, i32_w]; rfl)
                          refine pure_ (i := 13) (N := some 68) (v := ?_) (a' := ?_) (bs 22 16383) rfl rfl (any_of HT_.out (by kernel_rfl)) (fun _ _ _ h => h) (Or.inl ⟨by rfl, ?_⟩) ?_ ?_
                          rotate_left; (intro w'; go_simp; with_reducible rfl); rotate_left; (simp only [Act.put, List.setIfInBounds_toArray, List.set_cons_zero, List.set_cons_succ, i64_w, i32_w]; rfl)
                          refine pure_ (i := 14) (N := some 69) (v := ?_) (a' := ?_) (bs 22 32767) rfl rfl (any_of HT_.out (by kernel_rfl)) (fun _ _ _ h => h) (Or.inl ⟨by rfl, ?_⟩) ?_ ?_
                          rotate_left; (intro w'; go_simp; with_reducible rfl); rotate_left; (simp only [Act.put, List.setIfInBounds_toArray, List.set_cons_zero, List.set_cons_succ, i64_w, i32_w]; rfl)
                          refine pure_ (i := 15) (N := some 70) (v := ?_) (a' := ?_) (bs 22 65535) rfl rfl (any_of HT_.out (by kernel_rfl)) (fun _ _ _ h => h) (Or.inl ⟨by rfl, ?_⟩) ?_ ?_
                          rotate_left; (intro w'; go_simp; with_reducible rfl); rotate_left; (simp only [Act.put, List.setIfInBounds_toArray, List.set_cons_zero, List.set_cons_succ, i64_w, i32_w]; rfl)
                          refine pure_ (i := 16) (N := some 71) (v := ?_) (a' := ?_) (bs 22 131071) rfl rfl (any_of HT_.out (by kernel_rfl)) (fun _ _ _ h => h) (Or.inl ⟨by rfl, ?_⟩) ?_ ?_
                          rotate_left; (intro w'; go_simp; with_reducible rfl); rotate_left; (simp only [Act.put, List.setIfInBounds_toArray, List.set_cons_zero, List.set_cons_succ, i64_w, i32_w]; rfl)
                          refine pure_ (i := 17) (N := some 72) (v := ?_) (a' := ?_) (bs 22 262143) rfl rfl (any_of HT_.out (by kernel_rfl)) (fun _ _ _ h => h) (Or.inl ⟨by rfl, ?_⟩) ?_ ?_
                          rotate_left; (intro w'; go_simp; with_reducible rfl); rotate_left; (simp only [Act.put, List.setIfInBounds_toArray, List.set_cons_zero, List.set_cons_succ, i64_w, i32_w]; rfl)
                          refine take_ (i := 18) (N := some 73) (v := ?_) (a' := ?_) (bs 22 524287) rfl rfl (take_ofW HT_.out HW_.out (by kernel_rfl)) (fun _ _ _ h => h) (Or.inl ⟨by rfl, ?_⟩) hHeld ?_ ?_
                          rotate_left
                          · rintro w' ⟨s0, s1⟩
                            clear s0
                            go_simp
                            with_reducible rfl
                          rotate_left; (simp only [Act.put, List.setIfInBounds_toArray, List.set_cons_zero, List.set_cons_succ, i64_w, i32_w]; rfl)
                          refine one_ (i := 19) (N := some 74) (bs 22 1048575) rfl rfl (one_of HT_.out (by kernel_rfl)) (by decide) (fun K hK => ?_)
                          refine goes_ Tryd.func29 (by kernel_rfl) rfl #[.slice A689_0 (rd_L1 t674 x12_2).length c689_0] (by rfl) rfl rfl (by (try simp only [List.map_toArray, List.map_cons, List.map_nil]); first | done | rfl | (simp only [List.length_drop, List.length_take]; rfl)) ?_
                          with_reducible refine (arboristref01_Rising.calls k2 _ _ (rd_L1 t674 x12_2) t690 _ ?side1 ?side2 A37.out).mono ?_
                          (case side1 => repeat (first | exact (by repeat (first | (with_reducible exact HR689_0.out) | (with_reducible refine Kd.C_alloc ?_ _) | (with_reducible refine Kd.C_drewN ?_ _) | (with_reducible refine Kd.C_drew ?_) | exact HR689_0.out)) | (with_reducible refine Kd.C_alloc ?_ _) | (with_reducible refine Kd.C_drewN ?_ _) | (with_reducible refine Kd.C_drew ?_)))
                          (case side2 => exact HC689_0.out)
                          rintro e w' ⟨rfl, ⟨nd, rfl⟩⟩
                          refine ⟨_, rfl, ?_⟩
                          refine hK.out _ _ ⟨hHeld.1, hHeld.2⟩ (fun hHeld => ?_)
                          clear hK K
                          refine norm_ (a' := ?_) ?_ ?_
                          rotate_left
                          · show Act.put _ (some 74) _ = _
                            simp only [Act.put, List.setIfInBounds_toArray, List.set_cons_zero, List.set_cons_succ, i64_w, i32_w]
                            rfl
                          refine pure_ (i := 20) (N := some 75) (v := ?_) (a' := ?_) (bs 22 2097151) rfl rfl (any_of HT_.out (by kernel_rfl)) (fun _ _ _ h => h) (Or.inl ⟨by rfl, ?_⟩) ?_ ?_
                          rotate_left; (intro w'; go_simp; with_reducible rfl); rotate_left; (simp only [Act.put, List.setIfInBounds_toArray, List.set_cons_zero, List.set_cons_succ, i64_w, i32_w]; rfl)
                          refine pure_ (i := 21) (N := some 76) (v := ?_) (a' := ?_) (bs 22 4194303) rfl rfl (any_of HT_.out (by kernel_rfl)) (fun _ _ _ h => h) (Or.inl ⟨by rfl, ?_⟩) ?_ ?_
                          rotate_left; (intro w'; go_simp; with_reducible rfl); rotate_left; (simp only [Act.put, List.setIfInBounds_toArray, List.set_cons_zero, List.set_cons_succ, i64_w, i32_w]; rfl)
                          refine done_ (done_of HT_.out (by kernel_rfl)) ?_
                          try go_wp2
                          go_meet
                          case rel => exact ⟨_, (!t690), (by first | rfl | (simp; done) | (simp [*]; done)), H', ⟨by have := HJ8.out; have := HK2.out; first | omega | exact Nat.le_refl _⟩, ⟨by (with_reducible repeat (first | apply Kd.S_alloc | apply Kd.S_drewN | apply Kd.S_drew)); exact HO_8.out⟩, ⟨by (with_reducible repeat (first | apply Kd.R_alloc | apply Kd.R_drewN | apply Kd.R_drew)); exact Kd.R_mono HO_9.out (fun _ hk => trivial)⟩, ⟨by (with_reducible repeat (first | apply Kd.S_alloc | apply Kd.S_drewN | apply Kd.S_drew)); exact Kd.S_mono HO_10.out (fun _ hk => hk.1)⟩, ⟨by repeat (first | (with_reducible exact HR678_0.out) | (with_reducible refine Kd.C_alloc ?_ _) | (with_reducible refine Kd.C_drewN ?_ _) | (with_reducible refine Kd.C_drew ?_) | exact HR678_0.out)⟩, ⟨by repeat (first | (with_reducible first | exact HB.out | apply below_alloc | apply pw_below_drewN | apply below_drew1) | exact HB.out)⟩⟩
                      · rw [if_neg c30] at H
                        exact absurd H (by simp)
                    · replace c28 := Bool.eq_false_iff.mpr c28
                      subst c28
                      have H1 : (arboristlaw10_FillEdges.j2 k2 t664 t665 t668 t674 x12_2 true) = some r := by rw [if_neg (show ¬ (false = true) by decide)] at H; exact H
                      clear H
                      have H := H1
                      clear H1
                      have H' := Aside0.mk H
                      clear H
                      try go_wp2
                      (try (rw [drewN_self w26]; generalize hq_ : World.drewN w26 _ = w26; have n0_ := Aside0.mk (Kd.S_at hq_ HO_8.out); have n1_ := Aside0.mk (Kd.R_at hq_ HO_9.out); have n2_ := Aside0.mk (Kd.S_at hq_ HO_10.out); have n3_ := Aside0.mk (Kd.R_at hq_ HL678_0.out); have n4_ := Aside0.mk (Kd.C_below HR678_0.out (below_at hq_ (Below.refl _ _))); have n5_ := Aside0.mk (below_at hq_ HB.out); clear hq_ HO_8 HO_9 HO_10 HL678_0 HR678_0 HB; have HO_8 := n0_; have HO_9 := n1_; have HO_10 := n2_; have HL678_0 := n3_; have HR678_0 := n4_; have HB := n5_; clear n0_ n1_ n2_ n3_ n4_ n5_))
                      have n0_ := Aside0.mk (Kd.S_drew HO_8.out)
                      have n1_ := Aside0.mk (Kd.R_drew HO_9.out)
                      have n2_ := Aside0.mk (Kd.S_drew HO_10.out)
                      have n3_ := Aside0.mk (Kd.R_drew HL678_0.out)
                      have n4_ := Aside0.mk (Kd.C_drew HR678_0.out)
                      have n5_ := Aside0.mk (below_drew1 HB.out)
                      clear HO_8
                      clear HO_9
                      clear HO_10
                      clear HL678_0
                      clear HR678_0
                      clear HB
                      have HO_8 := n0_
                      have HO_9 := n1_
                      have HO_10 := n2_
                      have HL678_0 := n3_
                      have HR678_0 := n4_
                      have HB := n5_
                      (try (have m_ := Aside0.mk (Kd.C_below HR689_0.out hb); clear HR689_0; have HR689_0 := m_; clear m_))
                      clear n0_ n1_ n2_ n3_ n4_ n5_
                      refine start_ (n := 22) (S := fun w' => True) (ds := []) (bs 22 0) (by kernel_rfl) rfl rfl trivial (fun hHeld => ?_); refine with_tabW arboristlaw10_FillEdges.tab11 arboristlaw10_FillEdges.bits11 (fun HT_ HW_ => ?_)
                      generalize w26.drew = w42 at HO_8 HO_9 HO_10 HL678_0 HR678_0 HB hHeld ⊢
                      refine pure_ (i := 0) (N := some 55) (v := ?_) (a' := ?_) (bs 22 1) rfl rfl (any_of HT_.out (by kernel_rfl)) (fun _ _ _ h => h) (Or.inl ⟨by rfl, ?_⟩) ?_ ?_
                      rotate_left; (intro w'; go_simp; with_reducible rfl); rotate_left; (simp only [Act.put, List.setIfInBounds_toArray, List.set_cons_zero, List.set_cons_succ, i64_w, i32_w]; rfl)
                      refine pure_ (i := 1) (N := some 56) (v := ?_) (a' := ?_) (bs 22 3) rfl rfl (any_of HT_.out (by kernel_rfl)) (fun _ _ _ h => h) (Or.inl ⟨by rfl, ?_⟩) ?_ ?_
                      rotate_left; (intro w'; go_simp; with_reducible rfl); rotate_left; (simp only [Act.put, List.setIfInBounds_toArray, List.set_cons_zero, List.set_cons_succ, i64_w, i32_w]; rfl)
                      refine pure_ (i := 2) (N := some 57) (v := ?_) (a' := ?_) (bs 22 7) rfl rfl (any_of HT_.out (by kernel_rfl)) (fun _ _ _ h => h) (Or.inl ⟨by rfl, ?_⟩) ?_ ?_
                      rotate_left; (intro w'; go_simp; with_reducible rfl); rotate_left; (simp only [Act.put, List.setIfInBounds_toArray, List.set_cons_zero, List.set_cons_succ, i64_w, i32_w]; rfl)
                      refine pure_ (i := 3) (N := some 58) (v := undef) (a' := ?_) (bs 22 15) rfl rfl (any_of HT_.out (by kernel_rfl)) (fun _ _ _ h => h) (Or.inr ⟨by rfl, rfl⟩) ?_ ?_
                      rotate_left; (simp only [Act.put, List.setIfInBounds_toArray, List.set_cons_zero, List.set_cons_succ, i64_w, i32_w]; rfl)
                      refine pure_ (i := 4) (N := some 59) (v := undef) (a' := ?_) (bs 22 31) rfl rfl (any_of HT_.out (by kernel_rfl)) (fun _ _ _ h => h) (Or.inr ⟨by rfl, rfl⟩) ?_ ?_
                      rotate_left; (simp only [Act.put, List.setIfInBounds_toArray, List.set_cons_zero, List.set_cons_succ, i64_w, i32_w]; rfl)
                      refine pure_ (i := 5) (N := some 60) (v := undef) (a' := ?_) (bs 22 63) rfl rfl (any_of HT_.out (by kernel_rfl)) (fun _ _ _ h => h) (Or.inr ⟨by rfl, rfl⟩) ?_ ?_
                      rotate_left; (simp only [Act.put, List.setIfInBounds_toArray, List.set_cons_zero, List.set_cons_succ, i64_w, i32_w]; rfl)
                      refine pure_ (i := 6) (N := some 61) (v := undef) (a' := ?_) (bs 22 127) rfl rfl (any_of HT_.out (by kernel_rfl)) (fun _ _ _ h => h) (Or.inr ⟨by rfl, rfl⟩) ?_ ?_
                      rotate_left; (simp only [Act.put, List.setIfInBounds_toArray, List.set_cons_zero, List.set_cons_succ, i64_w, i32_w]; rfl)
                      refine pure_ (i := 7) (N := some 62) (v := undef) (a' := ?_) (bs 22 255) rfl rfl (any_of HT_.out (by kernel_rfl)) (fun _ _ _ h => h) (Or.inr ⟨by rfl, rfl⟩) ?_ ?_
                      rotate_left; (simp only [Act.put, List.setIfInBounds_toArray, List.set_cons_zero, List.set_cons_succ, i64_w, i32_w]; rfl)
                      refine pure_ (i := 8) (N := some 63) (v := undef) (a' := ?_) (bs 22 511) rfl rfl (any_of HT_.out (by kernel_rfl)) (fun _ _ _ h => h) (Or.inr ⟨by rfl, rfl⟩) ?_ ?_
                      rotate_left; (simp only [Act.put, List.setIfInBounds_toArray, List.set_cons_zero, List.set_cons_succ, i64_w, i32_w]; rfl)
                      refine pure_ (i := 9) (N := some 64) (v := undef) (a' := ?_) (bs 22 1023) rfl rfl (any_of HT_.out (by kernel_rfl)) (fun _ _ _ h => h) (Or.inr ⟨by rfl, rfl⟩) ?_ ?_
                      rotate_left; (simp only [Act.put, List.setIfInBounds_toArray, List.set_cons_zero, List.set_cons_succ, i64_w, i32_w]; rfl)
                      refine pure_ (i := 10) (N := some 65) (v := undef) (a' := ?_) (bs 22 2047) rfl rfl (any_of HT_.out (by kernel_rfl)) (fun _ _ _ h => h) (Or.inr ⟨by rfl, rfl⟩) ?_ ?_
                      rotate_left; (simp only [Act.put, List.setIfInBounds_toArray, List.set_cons_zero, List.set_cons_succ, i64_w, i32_w]; rfl)
                      refine pure_ (i := 11) (N := some 66) (v := undef) (a' := ?_) (bs 22 4095) rfl rfl (any_of HT_.out (by kernel_rfl)) (fun _ _ _ h => h) (Or.inr ⟨by rfl, rfl⟩) ?_ ?_
                      rotate_left; (simp only [Act.put, List.setIfInBounds_toArray, List.set_cons_zero, List.set_cons_succ, i64_w, i32_w]; rfl)
                      refine pure_ (i := 12) (N := some 67) (v := undef) (a' := ?_) (bs 22 8191) rfl rfl (any_of HT_.out (by kernel_rfl)) (fun _ _ _ h => h) (Or.inr ⟨by rfl, rfl⟩) ?_ ?_
                      rotate_left; (simp only [Act.put, List.setIfInBounds_toArray, List.set_cons_zero, List.set_cons_succ, i64_w, i32_w]; rfl)
                      refine pure_ (i := 13) (N := some 68) (v := ?_) (a' := ?_) (bs 22 16383) rfl rfl (any_of HT_.out (by kernel_rfl)) (fun _ _ _ h => h) (Or.inl ⟨by rfl, ?_⟩) ?_ ?_
                      rotate_left; (intro w'; go_simp; with_reducible rfl); rotate_left; (simp only [Act.put, List.setIfInBounds_toArray, List.set_cons_zero, List.set_cons_succ, i64_w, i32_w]; rfl)
                      refine pure_ (i := 14) (N := some 69) (v := ?_) (a' := ?_) (bs 22 32767) rfl rfl (any_of HT_.out (by kernel_rfl)) (fun _ _ _ h => h) (Or.inl ⟨by rfl, ?_⟩) ?_ ?_
                      rotate_left; (intro w'; go_simp; with_reducible rfl); rotate_left; (simp only [Act.put, List.setIfInBounds_toArray, List.set_cons_zero, List.set_cons_succ, i64_w, i32_w]; rfl)
                      refine pure_ (i := 15) (N := some 70) (v := undef) (a' := ?_) (bs 22 65535) rfl rfl (any_of HT_.out (by kernel_rfl)) (fun _ _ _ h => h) (Or.inr ⟨by rfl, rfl⟩) ?_ ?_
                      rotate_left; (simp only [Act.put, List.setIfInBounds_toArray, List.set_cons_zero, List.set_cons_succ, i64_w, i32_w]; rfl)
                      refine pure_ (i := 16) (N := some 71) (v := undef) (a' := ?_) (bs 22 131071) rfl rfl (any_of HT_.out (by kernel_rfl)) (fun _ _ _ h => h) (Or.inr ⟨by rfl, rfl⟩) ?_ ?_
                      rotate_left; (simp only [Act.put, List.setIfInBounds_toArray, List.set_cons_zero, List.set_cons_succ, i64_w, i32_w]; rfl)
                      refine pure_ (i := 17) (N := some 72) (v := undef) (a' := ?_) (bs 22 262143) rfl rfl (any_of HT_.out (by kernel_rfl)) (fun _ _ _ h => h) (Or.inr ⟨by rfl, rfl⟩) ?_ ?_
                      rotate_left; (simp only [Act.put, List.setIfInBounds_toArray, List.set_cons_zero, List.set_cons_succ, i64_w, i32_w]; rfl)
                      refine pure_ (i := 18) (N := some 73) (v := undef) (a' := ?_) (bs 22 524287) rfl rfl (any_of HT_.out (by kernel_rfl)) (fun _ _ _ h => h) (Or.inr ⟨by rfl, rfl⟩) ?_ ?_
                      rotate_left; (simp only [Act.put, List.setIfInBounds_toArray, List.set_cons_zero, List.set_cons_succ, i64_w, i32_w]; rfl)
                      refine pure_ (i := 19) (N := some 74) (v := undef) (a' := ?_) (bs 22 1048575) rfl rfl (any_of HT_.out (by kernel_rfl)) (fun _ _ _ h => h) (Or.inr ⟨by rfl, rfl⟩) ?_ ?_
                      rotate_left; (simp only [Act.put, List.setIfInBounds_toArray, List.set_cons_zero, List.set_cons_succ, i64_w, i32_w]; rfl)
                      refine pure_ (i := 20) (N := some 75) (v := undef) (a' := ?_) (bs 22 2097151) rfl rfl (any_of HT_.out (by kernel_rfl)) (fun _ _ _ h => h) (Or.inr ⟨by rfl, rfl⟩) ?_ ?_
                      rotate_left; (simp only [Act.put, List.setIfInBounds_toArray, List.set_cons_zero, List.set_cons_succ, i64_w, i32_w]; rfl)
                      refine pure_ (i := 21) (N := some 76) (v := ?_) (a' := ?_) (bs 22 4194303) rfl rfl (any_of HT_.out (by kernel_rfl)) (fun _ _ _ h => h) (Or.inl ⟨by rfl, ?_⟩) ?_ ?_
                      rotate_left; (intro w'; go_simp; with_reducible rfl); rotate_left; (simp only [Act.put, List.setIfInBounds_toArray, List.set_cons_zero, List.set_cons_succ, i64_w, i32_w]; rfl)
                      refine done_ (done_of HT_.out (by kernel_rfl)) ?_
                      try go_wp2
                      go_meet
                      case rel => exact ⟨_, (true), (by first | rfl | (simp; done) | (simp [*]; done)), H', ⟨by have := HJ8.out; have := HK2.out; first | omega | exact Nat.le_refl _⟩, ⟨by (with_reducible repeat (first | apply Kd.S_alloc | apply Kd.S_drewN | apply Kd.S_drew)); exact HO_8.out⟩, ⟨by (with_reducible repeat (first | apply Kd.R_alloc | apply Kd.R_drewN | apply Kd.R_drew)); exact HO_9.out⟩, ⟨by (with_reducible repeat (first | apply Kd.S_alloc | apply Kd.S_drewN | apply Kd.S_drew)); exact HO_10.out⟩, ⟨by repeat (first | (with_reducible exact HR678_0.out) | (with_reducible refine Kd.C_alloc ?_ _) | (with_reducible refine Kd.C_drewN ?_ _) | (with_reducible refine Kd.C_drew ?_) | exact HR678_0.out)⟩, ⟨by repeat (first | (with_reducible first | exact HB.out | apply below_alloc | apply pw_below_drewN | apply below_drew1) | exact HB.out)⟩⟩
                  case rest =>
                    clear HC25
                    try clear c2
                    try clear p2
                    try clear c3
                    try clear q3
                    try clear c6
                    try clear p6
                    try clear q6
                    try clear hx6
                    try clear c28
                    try clear c29
                    try clear c30
                    try clear c32
                    try clear c32b0
                    try clear c32b1
                    try clear q39
                    try clear hx681_0
                    try clear hx689_0
                    try clear p681
                    try clear p689
                    try clear q39
                    try clear q681
                    try clear q689
                    obtain ⟨kq, x76_24, rfl, HA, HJ24, HO_8, HO_9, HO_10, HR678_0, HB⟩ := hcut
                    cases kq with
                    | zero => exact absurd HA.out (by simp [arboristlaw10_FillEdges.j2])
                    | succ kj24 =>
                      have H := HA.out
                      clear HA
                      simp only [arboristlaw10_FillEdges.j2] at H
                      by_cases c43 : x76_24 = true
                      · subst c43
                        have H1 : (some false) = some r := by rw [if_pos rfl] at H; exact H
                        clear H
                        have H := H1
                        clear H1
                        exact absurd ((Option.some.inj H).trans HTR_.out) (by decide)
                      · replace c43 := Bool.eq_false_iff.mpr c43
                        subst c43
                        have H1 : (arboristlaw10_FillEdges.l1 kj24 t664 t665 t668 t674 x12_2 (wrap64 (x12_2 + 1))) = some r := by rw [if_neg (show ¬ (false = true) by decide)] at H; exact H
                        clear H
                        have H := H1
                        clear H1
                        have H' := Aside0.mk H
                        clear H
                        go_wp2
                        go_loopg [14] kj24 (fun kq v14 w' => ∃ (x14_4 : Int), v14 = .int .i64 x14_4 ∧ Aside0 (arboristlaw10_FillEdges.l1 kq t664 t665 t668 t674 x12_2 x14_4 = some r) ∧ Aside0 (kq ≤ kj24) ∧ Aside0 (Kd.S (Kd.slice 4 Kd.bool) 55 w' w.heap.size (fun _ => True) (.slice Ao12 t665.length co12) t665) ∧ Aside0 (Kd.R (Kd.int .i64) 3 w' w.heap.size (fun _ => True) (.slice (some ad679) t668.length co16) t668) ∧ Aside0 (Kd.S (Kd.slice 3 (Kd.int .i64)) 23 w' w.heap.size (fun k_ => some k_ ≠ ((.slice (some ad679) t668.length co16) : Value).ownBlock) (.slice (some ad678) t674.length co27) t674) ∧ Aside0 (Kd.C (Kd.int .i64) w' A678_0 (rd_L1 t674 x12_2).length (rd_L1 t674 x12_2)) ∧ Aside0 (Below w.heap.size w w'))
                        case atStart => exact ⟨(wrap64 (x12_2 + 1)), (by first | rfl | (simp; done) | (simp [*]; done)), H', ⟨Nat.le_refl _⟩, ⟨by (with_reducible repeat (first | apply Kd.S_alloc | apply Kd.S_drewN | apply Kd.S_drew)); exact HO_8.out⟩, ⟨by (with_reducible repeat (first | apply Kd.R_alloc | apply Kd.R_drewN | apply Kd.R_drew)); exact HO_9.out⟩, ⟨by (with_reducible repeat (first | apply Kd.S_alloc | apply Kd.S_drewN | apply Kd.S_drew)); exact HO_10.out⟩, ⟨by repeat (first | (with_reducible exact HR678_0.out) | (with_reducible refine Kd.C_alloc ?_ _) | (with_reducible refine Kd.C_drewN ?_ _) | (with_reducible refine Kd.C_drew ?_) | exact HR678_0.out)⟩, ⟨by repeat (first | (with_reducible first | exact HB.out | apply below_alloc | apply pw_below_drewN | apply below_drew1) | exact HB.out)⟩⟩
                        case round =>
                          clear H'
                          try clear c2
                          try clear p2
                          try clear c3
                          try clear q3
                          try clear c4
                          try clear c6
                          try clear p6
                          try clear q6
                          try clear hx6
                          try clear c28
                          try clear c29
                          try clear c30
                          try clear c32
                          try clear c32b0
                          try clear c32b1
                          try clear q39
                          try clear c43
                          try clear hx681_0
                          try clear hx689_0
                          try clear p2
                          try clear p6
                          try clear p681
                          try clear p689
                          try clear q3
                          try clear q39
                          try clear q6
                          try clear q681
                          try clear q689
                          obtain ⟨x14_4, rfl, HA, HK4, HO_8, HO_9, HO_10, HR678_0, HB⟩ := hrel
                          cases gk with
                          | zero => exact absurd HA.out (by simp [arboristlaw10_FillEdges.l1])
                          | succ k4 =>
                            have H := HA.out
                            clear HA
                            simp only [arboristlaw10_FillEdges.l1] at H
                            by_cases c44 : x14_4 < (t668.length : Int)
                            · rw [if_pos c44] at H
                              have c44b0 : decide (x14_4 < (t668.length : Int)) = true := decide_eq_true c44
                              clear c44
                              by_cases c45 : 0 ≤ x12_2
                              · rw [if_pos c45] at H
                                have c45b0 : decide (0 ≤ x12_2) = true := decide_eq_true c45
                                clear c45
                                by_cases c46 : x12_2 < (t674.length : Int)
                                · rw [if_pos c46] at H
                                  have c46b0 : decide (x12_2 < (t674.length : Int)) = true := decide_eq_true c46
                                  clear c46
                                  by_cases c47 : 0 ≤ x14_4
                                  · rw [if_pos c47] at H
                                    have c47b0 : decide (0 ≤ x14_4) = true := decide_eq_true c47
                                    clear c47
                                    replace H := Option.bind_eq_some_iff.mp H
                                    obtain ⟨t693, A480, H⟩ := H
                                    replace H : (if x12_2 < (t668.length : Int) then (if 0 ≤ (rd t668 x12_2) then (if (rd t668 x12_2) < (t665.length : Int) then (if 0 ≤ (rd t668 x14_4) then (if (rd t668 x14_4) < ((rd_L7 t665 (rd t668 x12_2)).length : Int) then (if rdOf false (rd_L7 t665 (rd t668 x12_2)) (rd t668 x14_4) = true then (if t693 = true then (arboristlaw10_FillEdges.l1 k4 t664 t665 t668 t674 x12_2 (wrap64 (x14_4 + 1))) else (some false)) else (arboristlaw10_FillEdges.l1 k4 t664 t665 t668 t674 x12_2 (wrap64 (x14_4 + 1)))) else (none)) else (none)) else (none)) else (none)) else (none)) = some r := H
                                    have A48 := Aside0.mk A480
                                    clear A480
                                    by_cases c49 : x12_2 < (t668.length : Int)
                                    · rw [if_pos c49] at H
                                      have c49b0 : decide (x12_2 < (t668.length : Int)) = true := decide_eq_true c49
                                      clear c49
                                      by_cases c50 : 0 ≤ (rd t668 x12_2)
                                      · rw [if_pos c50] at H
                                        have c50b0 : decide (0 ≤ (rd t668 x12_2)) = true := decide_eq_true c50
                                        clear c50
                                        by_cases c51 : (rd t668 x12_2) < (t665.length : Int)
                                        · rw [if_pos c51] at H
                                          have c51b0 : decide ((rd t668 x12_2) < (t665.length : Int)) = true := decide_eq_true c51
                                          clear c51
                                          by_cases c52 : 0 ≤ (rd t668 x14_4)
                                          · rw [if_pos c52] at H
                                            have c52b0 : decide (0 ≤ (rd t668 x14_4)) = true := decide_eq_true c52
                                            clear c52
                                            by_cases c53 : (rd t668 x14_4) < ((rd_L7 t665 (rd t668 x12_2)).length : Int)
                                            · rw [if_pos c53] at H
                                              have c53b0 : decide ((rd t668 x14_4) < ((rd_L7 t665 (rd t668 x12_2)).length : Int)) = true := decide_eq_true c53
                                              clear c53
                                              obtain ⟨bq54, hbq54⟩ : ∃ b_ : Bool, b_ = (rdOf false (rd_L7 t665 (rd t668 x12_2)) (rd t668 x14_4)) := ⟨_, rfl⟩
                                              replace H : (if bq54 = true then (if t693 = true then (arboristlaw10_FillEdges.l1 k4 t664 t665 t668 t674 x12_2 (wrap64 (x14_4 + 1))) else (some false)) else (arboristlaw10_FillEdges.l1 k4 t664 t665 t668 t674 x12_2 (wrap64 (x14_4 + 1)))) = some r := by rw [← hbq54] at H; exact H
                                              have Nbq54 := Aside0.mk hbq54
                                              clear hbq54
                                              by_cases c55 : bq54 = true
                                              · subst c55
                                                have H1 : (if t693 = true then (arboristlaw10_FillEdges.l1 k4 t664 t665 t668 t674 x12_2 (wrap64 (x14_4 + 1))) else (some false)) = some r := by rw [if_pos rfl] at H; exact H
                                                clear H
                                                have H := H1
                                                clear H1
                                                by_cases c56 : t693 = true
                                                · subst c56
                                                  have H1 : (arboristlaw10_FillEdges.l1 k4 t664 t665 t668 t674 x12_2 (wrap64 (x14_4 + 1))) = some r := by rw [if_pos rfl] at H; exact H
                                                  clear H
                                                  have H := H1
                                                  clear H1
                                                  have H' := Aside0.mk H
                                                  clear H
                                                  try go_wp2
                                                  (try (rw [drewN_self wr]; generalize hq_ : World.drewN wr _ = wr; have n0_ := Aside0.mk (Kd.S_at hq_ HO_8.out); have n1_ := Aside0.mk (Kd.R_at hq_ HO_9.out); have n2_ := Aside0.mk (Kd.S_at hq_ HO_10.out); have n3_ := Aside0.mk (Kd.C_below HR678_0.out (below_at hq_ (Below.refl _ _))); have n4_ := Aside0.mk (below_at hq_ HB.out); clear hq_ HO_8 HO_9 HO_10 HR678_0 HB; have HO_8 := n0_; have HO_9 := n1_; have HO_10 := n2_; have HR678_0 := n3_; have HB := n4_; clear n0_ n1_ n2_ n3_ n4_))
                                                  have n0_ := Aside0.mk (Kd.S_drew HO_8.out)
                                                  have n1_ := Aside0.mk (Kd.R_drew HO_9.out)
                                                  have n2_ := Aside0.mk (Kd.S_drew HO_10.out)
                                                  have n3_ := Aside0.mk (Kd.C_drew HR678_0.out)
                                                  have n4_ := Aside0.mk (below_drew1 HB.out)
                                                  clear HO_8
                                                  clear HO_9
                                                  clear HO_10
                                                  clear HR678_0
                                                  clear HB
                                                  have HO_8 := n0_
                                                  have HO_9 := n1_
                                                  have HO_10 := n2_
                                                  have HR678_0 := n3_
                                                  have HB := n4_
                                                  clear n0_ n1_ n2_ n3_ n4_
                                                  have p691 : 0 ≤ (x12_2 : Int) := of_decide_eq_true (by first | (with_reducible assumption) | assumption)
                                                  have q691 : x12_2 < (t674.length : Int) := of_decide_eq_true (by first | (with_reducible assumption) | assumption)
                                                  obtain ⟨ad691, A691_0, c691_0, e691, hx691_0, hl691_0, hi691_0⟩ := at_L1 (Kd.S_reads' HO_10.out).2.2 x12_2 p691 q691
                                                  obtain rfl : ad678 = ad691 := (by injection e691)
                                                  obtain ⟨ce691, hce691, hMe691, hcc691⟩ := Kd.S_get HO_10.out [] x12_2 p691 (by first | exact q691 | exact of_decide_eq_true (by first | (with_reducible assumption) | assumption) | (have e_ := (Kd.S_reads' HO_10.out).1; omega))
                                                  obtain ⟨ve691_0, rfl, ge691_0⟩ := hMe691
                                                  have hv691_0 := hcc691 0 _ rfl
                                                  rw [Nat.add_zero, show ((Kd.slice 3 (Kd.int .i64))).sz = 1 from rfl, Nat.mul_one] at hv691_0
                                                  replace hv691_0 := Option.some.inj (hv691_0.symm.trans hx691_0)
                                                  rw [hv691_0] at ge691_0
                                                  have HL691_0 := Aside0.mk (show Kd.R (Kd.int .i64) 3 _ _ _ _ (rd_L1 t674 x12_2) from ge691_0)
                                                  clear hv691_0 ge691_0
                                                  clear hcc691 hce691
                                                  have HR691_0 := Aside0.mk hi691_0
                                                  have HC691_0 := Aside0.mk hl691_0
                                                  clear hi691_0 hl691_0
                                                  replace p691 := eq_true p691
                                                  replace q691 := eq_true q691
                                                  have p692 : 0 ≤ (x14_4 : Int) := of_decide_eq_true (by first | (with_reducible assumption) | assumption)
                                                  have q692 : x14_4 < (t668.length : Int) := of_decide_eq_true (by first | (with_reducible assumption) | assumption)
                                                  obtain ⟨ad692, e692, hx692_0⟩ := Kd.at_int (Kd.R_reads' HO_9.out).2.2 x14_4 p692 q692
                                                  obtain rfl : ad679 = ad692 := (by injection e692)
                                                  replace p692 := eq_true p692
                                                  replace q692 := eq_true q692
                                                  refine start_ (n := 10) (S := fun w' => w'.cell? (ad678.add (x12_2).toNat) = some (.slice A691_0 (rd_L1 t674 x12_2).length c691_0) ∧ w'.cell? (ad679.add (x14_4).toNat) = some (.int .i64 (rd t668 x14_4))) (ds := []) (bs 10 0) (by kernel_rfl) rfl rfl ⟨hx691_0, hx692_0⟩ (fun hHeld => ?_); refine with_tabW arboristlaw10_FillEdges.tab16 arboristlaw10_FillEdges.bits16 (fun HT_ HW_ => ?_)
                                                  generalize wr.drew = w57 at HO_8 HO_9 HO_10 HR678_0 HB HL691_0 HR691_0 hx691_0 hx692_0 hHeld ⊢
                                                  refine pure_ (i := 0) (N := some 85) (v := ?_) (a' := ?_) (bs 10 1) rfl rfl (any_of HT_.out (by kernel_rfl)) (fun _ _ _ h => h) (Or.inl ⟨by rfl, ?_⟩) ?_ ?_
                                                  rotate_left; (intro w'; go_simp; with_reducible rfl); rotate_left; (simp only [Act.put, List.setIfInBounds_toArray, List.set_cons_zero, List.set_cons_succ, i64_w, i32_w]; rfl)
                                                  refine pure_ (i := 1) (N := some 86) (v := ?_) (a' := ?_) (bs 10 3) rfl rfl (any_of HT_.out (by kernel_rfl)) (fun _ _ _ h => h) (Or.inl ⟨by rfl, ?_⟩) ?_ ?_
                                                  rotate_left; (intro w'; go_simp; with_reducible rfl); rotate_left; (simp only [Act.put, List.setIfInBounds_toArray, List.set_cons_zero, List.set_cons_succ, i64_w, i32_w]; rfl)
                                                  refine pure_ (i := 2) (N := some 87) (v := ?_) (a' := ?_) (bs 10 7) rfl rfl (any_of HT_.out (by kernel_rfl)) (fun _ _ _ h => h) (Or.inl ⟨by rfl, ?_⟩) ?_ ?_
                                                  rotate_left; (intro w'; go_simp; with_reducible rfl); rotate_left; (simp only [Act.put, List.setIfInBounds_toArray, List.set_cons_zero, List.set_cons_succ, i64_w, i32_w]; rfl)
                                                  refine pure_ (i := 4) (N := some 89) (v := ?_) (a' := ?_) (bs 10 23) rfl rfl (any_of HT_.out (by kernel_rfl)) (fun _ _ _ h => h) (Or.inl ⟨by rfl, ?_⟩) ?_ ?_
                                                  rotate_left; (intro w'; go_simp; with_reducible rfl); rotate_left; (simp only [Act.put, List.setIfInBounds_toArray, List.set_cons_zero, List.set_cons_succ, i64_w, i32_w]; rfl)
                                                  refine pure_ (i := 5) (N := some 90) (v := ?_) (a' := ?_) (bs 10 55) rfl rfl (any_of HT_.out (by kernel_rfl)) (fun _ _ _ h => h) (Or.inl ⟨by rfl, ?_⟩) ?_ ?_
                                                  rotate_left; (intro w'; go_simp; with_reducible rfl); rotate_left; (simp only [Act.put, List.setIfInBounds_toArray, List.set_cons_zero, List.set_cons_succ, i64_w, i32_w]; rfl)
                                                  refine pure_ (i := 6) (N := some 91) (v := ?_) (a' := ?_) (bs 10 119) rfl rfl (any_of HT_.out (by kernel_rfl)) (fun _ _ _ h => h) (Or.inl ⟨by rfl, ?_⟩) ?_ ?_
                                                  rotate_left; (intro w'; go_simp; with_reducible rfl); rotate_left; (simp only [Act.put, List.setIfInBounds_toArray, List.set_cons_zero, List.set_cons_succ, i64_w, i32_w]; rfl)
                                                  refine take_ (i := 3) (N := some 88) (v := ?_) (a' := ?_) (bs 10 127) rfl rfl (take_ofW HT_.out HW_.out (by kernel_rfl)) (fun _ _ _ h => h) (Or.inl ⟨by rfl, ?_⟩) hHeld ?_ ?_
                                                  rotate_left
                                                  · rintro w' ⟨s0, s1⟩
                                                    go_simp
                                                    with_reducible rfl
                                                  rotate_left; (simp only [Act.put, List.setIfInBounds_toArray, List.set_cons_zero, List.set_cons_succ, i64_w, i32_w]; rfl)
                                                  refine take_ (i := 7) (N := some 92) (v := ?_) (a' := ?_) (bs 10 255) rfl rfl (take_ofW HT_.out HW_.out (by kernel_rfl)) (fun _ _ _ h => h) (Or.inl ⟨by rfl, ?_⟩) hHeld ?_ ?_
                                                  rotate_left
                                                  · rintro w' ⟨s0, s1⟩
                                                    go_simp
                                                    with_reducible rfl
                                                  rotate_left; (simp only [Act.put, List.setIfInBounds_toArray, List.set_cons_zero, List.set_cons_succ, i64_w, i32_w]; rfl)
                                                  refine one_ (i := 8) (N := some 93) (bs 10 511) rfl rfl (one_of HT_.out (by kernel_rfl)) (by decide) (fun K hK => ?_)
                                                  refine goes_ Tryd.func27 (by kernel_rfl) rfl #[.slice A691_0 (rd_L1 t674 x12_2).length c691_0, .int .i64 (rd t668 x14_4)] (by rfl) rfl rfl (by (try simp only [List.map_toArray, List.map_cons, List.map_nil]); first | done | rfl | (simp only [List.length_drop, List.length_take]; rfl)) ?_
                                                  with_reducible refine (arboristref01_In.calls k4 _ _ (rd_L1 t674 x12_2) (rd t668 x14_4) true _ ?side1 ?side2 A48.out).mono ?_
                                                  (case side1 => repeat (first | exact (by repeat (first | (with_reducible exact HR691_0.out) | (with_reducible refine Kd.C_alloc ?_ _) | (with_reducible refine Kd.C_drewN ?_ _) | (with_reducible refine Kd.C_drew ?_) | exact HR691_0.out)) | (with_reducible refine Kd.C_alloc ?_ _) | (with_reducible refine Kd.C_drewN ?_ _) | (with_reducible refine Kd.C_drew ?_)))
                                                  (case side2 => exact HC691_0.out)
                                                  rintro e w' ⟨rfl, ⟨nd, rfl⟩⟩
                                                  refine ⟨_, rfl, ?_⟩
                                                  refine hK.out _ _ ⟨hHeld.1, hHeld.2⟩ (fun hHeld => ?_)
                                                  clear hK K
                                                  refine norm_ (a' := ?_) ?_ ?_
                                                  rotate_left
                                                  · show Act.put _ (some 93) _ = _
                                                    simp only [Act.put, List.setIfInBounds_toArray, List.set_cons_zero, List.set_cons_succ, i64_w, i32_w]
                                                    rfl
                                                  refine pure_ (i := 9) (N := some 15) (v := ?_) (a' := ?_) (bs 10 1023) rfl rfl (any_of HT_.out (by kernel_rfl)) (fun _ _ _ h => h) (Or.inl ⟨by rfl, ?_⟩) ?_ ?_
                                                  rotate_left; (intro w'; go_simp; with_reducible rfl); rotate_left; (simp only [Act.put, List.setIfInBounds_toArray, List.set_cons_zero, List.set_cons_succ, i64_w, i32_w]; rfl)
                                                  refine done_ (done_of HT_.out (by kernel_rfl)) ?_
                                                  try go_wp2
                                                  (try (rw [drewN_self w57]; generalize hq_ : World.drewN w57 _ = w57; have n0_ : Aside0 (Kd.R (Kd.int .i64) 3 w57 w.heap.size (fun k_ => some k_ ≠ (.slice (some ad678) t674.length co27 : Value).ownBlock ∧ some k_ ≠ (.slice (some ad679) t668.length co16 : Value).ownBlock) (.slice A691_0 (rd_L1 t674 x12_2).length c691_0) (rd_L1 t674 x12_2)) := ⟨by rw [← hq_]; exact (by (with_reducible repeat (first | apply Kd.R_alloc | apply Kd.R_drewN | apply Kd.R_drew)); exact Kd.R_mono HL691_0.out (fun _ hk => ⟨hk.2, hk.1⟩))⟩; have n1_ : Aside0 (Kd.S (Kd.slice 3 (Kd.int .i64)) 23 w57 w.heap.size (fun k_ => some k_ ≠ (.slice (some ad679) t668.length co16 : Value).ownBlock) (.slice (some ad678) t674.length co27) t674) := ⟨by rw [← hq_]; exact (by (with_reducible repeat (first | apply Kd.S_alloc | apply Kd.S_drewN | apply Kd.S_drew)); exact HO_10.out)⟩; have n2_ : Aside0 (Kd.S (Kd.slice 4 Kd.bool) 55 w57 w.heap.size (fun _ => True) (.slice Ao12 t665.length co12) t665) := ⟨by rw [← hq_]; exact (by (with_reducible repeat (first | apply Kd.S_alloc | apply Kd.S_drewN | apply Kd.S_drew)); exact HO_8.out)⟩; have n3_ : Aside0 (Kd.R (Kd.int .i64) 3 w57 w.heap.size (fun _ => True) (.slice (some ad679) t668.length co16) t668) := ⟨by rw [← hq_]; exact (by (with_reducible repeat (first | apply Kd.R_alloc | apply Kd.R_drewN | apply Kd.R_drew)); exact HO_9.out)⟩; have n4_ : Aside0 (Below w.heap.size w w57) := ⟨by rw [← hq_]; exact (by repeat (first | (with_reducible first | exact HB.out | apply below_alloc | apply pw_below_drewN | apply below_drew1) | exact HB.out))⟩; have n5_ : Aside0 (Kd.C (Kd.int .i64) w57 A678_0 (rd_L1 t674 x12_2).length (rd_L1 t674 x12_2)) := ⟨by rw [← hq_]; exact (by repeat (first | (with_reducible exact HR678_0.out) | (with_reducible refine Kd.C_alloc ?_ _) | (with_reducible refine Kd.C_drewN ?_ _) | (with_reducible refine Kd.C_drew ?_) | exact HR678_0.out))⟩; have n6_ : Aside0 (Kd.C (Kd.int .i64) w57 A691_0 (rd_L1 t674 x12_2).length (rd_L1 t674 x12_2)) := ⟨by rw [← hq_]; exact (by repeat (first | (with_reducible exact HR691_0.out) | (with_reducible refine Kd.C_alloc ?_ _) | (with_reducible refine Kd.C_drewN ?_ _) | (with_reducible refine Kd.C_drew ?_) | exact HR691_0.out))⟩; clear HL691_0 HO_10 HO_8 HO_9 HB HR678_0 HR691_0 hq_; have HL691_0 := n0_; have HO_10 := n1_; have HO_8 := n2_; have HO_9 := n3_; have HB := n4_; have HR678_0 := n5_; have HR691_0 := n6_; clear n0_ n1_ n2_ n3_ n4_ n5_ n6_))
                                                  (try (rw [drewN_self w57]; generalize hq_ : World.drewN w57 _ = w57; have n0_ := Aside0.mk (Kd.S_at hq_ HO_8.out); have n1_ := Aside0.mk (Kd.R_at hq_ HO_9.out); have n2_ := Aside0.mk (Kd.S_at hq_ HO_10.out); have n3_ := Aside0.mk (Kd.R_at hq_ HL691_0.out); have n4_ := Aside0.mk (Kd.C_below HR678_0.out (below_at hq_ (Below.refl _ _))); have n5_ := Aside0.mk (Kd.C_below HR691_0.out (below_at hq_ (Below.refl _ _))); have n6_ := Aside0.mk (below_at hq_ HB.out); clear hq_ HO_8 HO_9 HO_10 HL691_0 HR678_0 HR691_0 HB; have HO_8 := n0_; have HO_9 := n1_; have HO_10 := n2_; have HL691_0 := n3_; have HR678_0 := n4_; have HR691_0 := n5_; have HB := n6_; clear n0_ n1_ n2_ n3_ n4_ n5_ n6_))
                                                  have n0_ := Aside0.mk (Kd.S_drew HO_8.out)
                                                  have n1_ := Aside0.mk (Kd.R_drew HO_9.out)
                                                  have n2_ := Aside0.mk (Kd.S_drew HO_10.out)
                                                  have n3_ := Aside0.mk (Kd.R_drew HL691_0.out)
                                                  have n4_ := Aside0.mk (Kd.C_drew HR678_0.out)
                                                  have n5_ := Aside0.mk (Kd.C_drew HR691_0.out)
                                                  have n6_ := Aside0.mk (below_drew1 HB.out)
                                                  clear HO_8
                                                  clear HO_9
                                                  clear HO_10
                                                  clear HL691_0
                                                  clear HR678_0
                                                  clear HR691_0
                                                  clear HB
                                                  have HO_8 := n0_
                                                  have HO_9 := n1_
                                                  have HO_10 := n2_
                                                  have HL691_0 := n3_
                                                  have HR678_0 := n4_
                                                  have HR691_0 := n5_
                                                  have HB := n6_
                                                  clear n0_ n1_ n2_ n3_ n4_ n5_ n6_
                                                  have p694 : 0 ≤ (x12_2 : Int) := of_decide_eq_true (by first | (with_reducible assumption) | assumption)
                                                  have q694 : x12_2 < (t668.length : Int) := of_decide_eq_true (by first | (with_reducible assumption) | assumption)
                                                  obtain ⟨ad694, e694, hx694_0⟩ := Kd.at_int (Kd.R_reads' HO_9.out).2.2 x12_2 p694 q694
                                                  obtain rfl : ad679 = ad694 := (by injection e694)
                                                  replace p694 := eq_true p694
                                                  replace q694 := eq_true q694
                                                  have p695 : 0 ≤ ((rd t668 x12_2) : Int) := of_decide_eq_true (by first | (with_reducible assumption) | assumption)
                                                  have q695 : (rd t668 x12_2) < (t665.length : Int) := of_decide_eq_true (by first | (with_reducible assumption) | assumption)
                                                  obtain ⟨ad695, A695_0, c695_0, e695, hx695_0, hl695_0, hi695_0⟩ := at_L7 (Kd.S_reads' HO_8.out).2.2 (rd t668 x12_2) p695 q695
                                                  cases e695
                                                  obtain ⟨ce695, hce695, hMe695, hcc695⟩ := Kd.S_get HO_8.out [] (rd t668 x12_2) p695 (by first | exact q695 | exact of_decide_eq_true (by first | (with_reducible assumption) | assumption) | (have e_ := (Kd.S_reads' HO_8.out).1; omega))
                                                  obtain ⟨ve695_0, rfl, ge695_0⟩ := hMe695
                                                  have hv695_0 := hcc695 0 _ rfl
                                                  rw [Nat.add_zero, show ((Kd.slice 4 Kd.bool)).sz = 1 from rfl, Nat.mul_one] at hv695_0
                                                  replace hv695_0 := Option.some.inj (hv695_0.symm.trans hx695_0)
                                                  rw [hv695_0] at ge695_0
                                                  have HL695_0 := Aside0.mk (show Kd.R Kd.bool 4 _ _ _ _ (rd_L7 t665 (rd t668 x12_2)) from ge695_0)
                                                  clear hv695_0 ge695_0
                                                  clear hcc695 hce695
                                                  have HR695_0 := Aside0.mk hi695_0
                                                  have HC695_0 := Aside0.mk hl695_0
                                                  clear hi695_0 hl695_0
                                                  replace p695 := eq_true p695
                                                  replace q695 := eq_true q695
                                                  have p696 : 0 ≤ (x14_4 : Int) := of_decide_eq_true (by first | (with_reducible assumption) | assumption)
                                                  have q696 : x14_4 < (t668.length : Int) := of_decide_eq_true (by first | (with_reducible assumption) | assumption)
                                                  obtain ⟨ad696, e696, hx696_0⟩ := Kd.at_int (Kd.R_reads' HO_9.out).2.2 x14_4 p696 q696
                                                  obtain rfl : ad679 = ad696 := (by injection e696)
                                                  replace p696 := eq_true p696
                                                  replace q696 := eq_true q696
                                                  have p697 : 0 ≤ ((rd t668 x14_4) : Int) := of_decide_eq_true (by first | (with_reducible assumption) | assumption)
                                                  have q697 : (rd t668 x14_4) < ((rd_L7 t665 (rd t668 x12_2)).length : Int) := of_decide_eq_true (by first | (with_reducible assumption) | assumption)
                                                  obtain ⟨ad697, e697, hx697_0⟩ := Kd.at_bool (by repeat (first | (with_reducible exact HR695_0.out) | (with_reducible refine Kd.C_alloc ?_ _) | (with_reducible refine Kd.C_drewN ?_ _) | (with_reducible refine Kd.C_drew ?_) | exact HR695_0.out)) (rd t668 x14_4) p697 q697
                                                  (try rw [← Nbq54.out] at hx697_0)
                                                  cases e697
                                                  replace p697 := eq_true p697
                                                  replace q697 := eq_true q697
                                                  refine start_ (n := 17) (S := fun w' => w'.cell? (ad679.add (x12_2).toNat) = some (.int .i64 (rd t668 x12_2)) ∧ w'.cell? (ad695.add ((rd t668 x12_2)).toNat) = some (.slice (some ad697) (rd_L7 t665 (rd t668 x12_2)).length c695_0) ∧ w'.cell? (ad679.add (x14_4).toNat) = some (.int .i64 (rd t668 x14_4)) ∧ w'.cell? (ad697.add ((rd t668 x14_4)).toNat) = some (.bool true)) (ds := []) (bs 17 0) (by kernel_rfl) rfl rfl ⟨hx694_0, hx695_0, hx696_0, hx697_0⟩ (fun hHeld => ?_); refine with_tabW arboristlaw10_FillEdges.tab17 arboristlaw10_FillEdges.bits17 (fun HT_ HW_ => ?_)
                                                  generalize w57.drew = w58 at HO_8 HO_9 HO_10 HL691_0 HR678_0 HR691_0 HB HL695_0 HR695_0 hx694_0 hx695_0 hx696_0 hx697_0 hHeld ⊢
                                                  refine pure_ (i := 0) (N := some 94) (v := ?_) (a' := ?_) (bs 17 1) rfl rfl (any_of HT_.out (by kernel_rfl)) (fun _ _ _ h => h) (Or.inl ⟨by rfl, ?_⟩) ?_ ?_
                                                  rotate_left; (intro w'; go_simp; with_reducible rfl); rotate_left; (simp only [Act.put, List.setIfInBounds_toArray, List.set_cons_zero, List.set_cons_succ, i64_w, i32_w]; rfl)
                                                  refine pure_ (i := 1) (N := some 95) (v := ?_) (a' := ?_) (bs 17 3) rfl rfl (any_of HT_.out (by kernel_rfl)) (fun _ _ _ h => h) (Or.inl ⟨by rfl, ?_⟩) ?_ ?_
                                                  rotate_left; (intro w'; go_simp; with_reducible rfl); rotate_left; (simp only [Act.put, List.setIfInBounds_toArray, List.set_cons_zero, List.set_cons_succ, i64_w, i32_w]; rfl)
                                                  refine pure_ (i := 2) (N := some 96) (v := ?_) (a' := ?_) (bs 17 7) rfl rfl (any_of HT_.out (by kernel_rfl)) (fun _ _ _ h => h) (Or.inl ⟨by rfl, ?_⟩) ?_ ?_
                                                  rotate_left; (intro w'; go_simp; with_reducible rfl); rotate_left; (simp only [Act.put, List.setIfInBounds_toArray, List.set_cons_zero, List.set_cons_succ, i64_w, i32_w]; rfl)
                                                  refine pure_ (i := 3) (N := some 97) (v := ?_) (a' := ?_) (bs 17 15) rfl rfl (any_of HT_.out (by kernel_rfl)) (fun _ _ _ h => h) (Or.inl ⟨by rfl, ?_⟩) ?_ ?_
                                                  rotate_left; (intro w'; go_simp; with_reducible rfl); rotate_left; (simp only [Act.put, List.setIfInBounds_toArray, List.set_cons_zero, List.set_cons_succ, i64_w, i32_w]; rfl)
                                                  refine pure_ (i := 7) (N := some 101) (v := ?_) (a' := ?_) (bs 17 143) rfl rfl (any_of HT_.out (by kernel_rfl)) (fun _ _ _ h => h) (Or.inl ⟨by rfl, ?_⟩) ?_ ?_
                                                  rotate_left; (intro w'; go_simp; with_reducible rfl); rotate_left; (simp only [Act.put, List.setIfInBounds_toArray, List.set_cons_zero, List.set_cons_succ, i64_w, i32_w]; rfl)
                                                  refine pure_ (i := 8) (N := some 102) (v := ?_) (a' := ?_) (bs 17 399) rfl rfl (any_of HT_.out (by kernel_rfl)) (fun _ _ _ h => h) (Or.inl ⟨by rfl, ?_⟩) ?_ ?_
                                                  rotate_left; (intro w'; go_simp; with_reducible rfl); rotate_left; (simp only [Act.put, List.setIfInBounds_toArray, List.set_cons_zero, List.set_cons_succ, i64_w, i32_w]; rfl)
                                                  refine pure_ (i := 9) (N := some 103) (v := ?_) (a' := ?_) (bs 17 911) rfl rfl (any_of HT_.out (by kernel_rfl)) (fun _ _ _ h => h) (Or.inl ⟨by rfl, ?_⟩) ?_ ?_
                                                  rotate_left; (intro w'; go_simp; with_reducible rfl); rotate_left; (simp only [Act.put, List.setIfInBounds_toArray, List.set_cons_zero, List.set_cons_succ, i64_w, i32_w]; rfl)
                                                  refine take_ (i := 4) (N := some 98) (v := ?_) (a' := ?_) (bs 17 927) rfl rfl (take_ofW HT_.out HW_.out (by kernel_rfl)) (fun _ _ _ h => h) (Or.inl ⟨by rfl, ?_⟩) hHeld ?_ ?_
                                                  rotate_left
                                                  · rintro w' ⟨s0, s1, s2, s3⟩
                                                    go_simp
                                                    with_reducible rfl
                                                  rotate_left; (simp only [Act.put, List.setIfInBounds_toArray, List.set_cons_zero, List.set_cons_succ, i64_w, i32_w]; rfl)
                                                  refine pure_ (i := 5) (N := some 99) (v := ?_) (a' := ?_) (bs 17 959) rfl rfl (any_of HT_.out (by kernel_rfl)) (fun _ _ _ h => h) (Or.inl ⟨by rfl, ?_⟩) ?_ ?_
                                                  rotate_left; (intro w'; go_simp; with_reducible rfl); rotate_left; (simp only [Act.put, List.setIfInBounds_toArray, List.set_cons_zero, List.set_cons_succ, i64_w, i32_w]; rfl)
                                                  refine take_ (i := 6) (N := some 100) (v := ?_) (a' := ?_) (bs 17 1023) rfl rfl (take_ofW HT_.out HW_.out (by kernel_rfl)) (fun _ _ _ h => h) (Or.inl ⟨by rfl, ?_⟩) hHeld ?_ ?_
                                                  rotate_left
                                                  · rintro w' ⟨s0, s1, s2, s3⟩
                                                    go_simp
                                                    with_reducible rfl
                                                  rotate_left; (simp only [Act.put, List.setIfInBounds_toArray, List.set_cons_zero, List.set_cons_succ, i64_w, i32_w]; rfl)
                                                  refine take_ (i := 10) (N := some 104) (v := ?_) (a' := ?_) (bs 17 2047) rfl rfl (take_ofW HT_.out HW_.out (by kernel_rfl)) (fun _ _ _ h => h) (Or.inl ⟨by rfl, ?_⟩) hHeld ?_ ?_
                                                  rotate_left
                                                  · rintro w' ⟨s0, s1, s2, s3⟩
                                                    go_simp
                                                    with_reducible rfl
                                                  rotate_left; (simp only [Act.put, List.setIfInBounds_toArray, List.set_cons_zero, List.set_cons_succ, i64_w, i32_w]; rfl)
                                                  refine pure_ (i := 11) (N := some 105) (v := ?_) (a' := ?_) (bs 17 4095) rfl rfl (any_of HT_.out (by kernel_rfl)) (fun _ _ _ h => h) (Or.inl ⟨by rfl, ?_⟩) ?_ ?_
                                                  rotate_left; (intro w'; go_simp; with_reducible rfl); rotate_left; (simp only [Act.put, List.setIfInBounds_toArray, List.set_cons_zero, List.set_cons_succ, i64_w, i32_w]; rfl)
                                                  refine take_ (i := 12) (N := some 106) (v := ?_) (a' := ?_) (bs 17 8191) rfl rfl (take_ofW HT_.out HW_.out (by kernel_rfl)) (fun _ _ _ h => h) (Or.inl ⟨by rfl, ?_⟩) hHeld ?_ ?_
                                                  rotate_left
                                                  · rintro w' ⟨s0, s1, s2, s3⟩
                                                    go_simp
                                                    with_reducible rfl
                                                  rotate_left; (simp only [Act.put, List.setIfInBounds_toArray, List.set_cons_zero, List.set_cons_succ, i64_w, i32_w]; rfl)
                                                  refine pure_ (i := 13) (N := some 107) (v := ?_) (a' := ?_) (bs 17 16383) rfl rfl (any_of HT_.out (by kernel_rfl)) (fun _ _ _ h => h) (Or.inl ⟨by rfl, ?_⟩) ?_ ?_
                                                  rotate_left; (intro w'; go_simp; with_reducible rfl); rotate_left; (simp only [Act.put, List.setIfInBounds_toArray, List.set_cons_zero, List.set_cons_succ, i64_w, i32_w]; rfl)
                                                  refine pure_ (i := 14) (N := some 108) (v := ?_) (a' := ?_) (bs 17 32767) rfl rfl (any_of HT_.out (by kernel_rfl)) (fun _ _ _ h => h) (Or.inl ⟨by rfl, ?_⟩) ?_ ?_
                                                  rotate_left; (intro w'; go_simp; with_reducible rfl); rotate_left; (simp only [Act.put, List.setIfInBounds_toArray, List.set_cons_zero, List.set_cons_succ, i64_w, i32_w]; rfl)
                                                  refine pure_ (i := 15) (N := some 109) (v := ?_) (a' := ?_) (bs 17 65535) rfl rfl (any_of HT_.out (by kernel_rfl)) (fun _ _ _ h => h) (Or.inl ⟨by rfl, ?_⟩) ?_ ?_
                                                  rotate_left; (intro w'; go_simp; with_reducible rfl); rotate_left; (simp only [Act.put, List.setIfInBounds_toArray, List.set_cons_zero, List.set_cons_succ, i64_w, i32_w]; rfl)
                                                  refine pure_ (i := 16) (N := some 110) (v := ?_) (a' := ?_) (bs 17 131071) rfl rfl (any_of HT_.out (by kernel_rfl)) (fun _ _ _ h => h) (Or.inl ⟨by rfl, ?_⟩) ?_ ?_
                                                  rotate_left; (intro w'; go_simp; with_reducible rfl); rotate_left; (simp only [Act.put, List.setIfInBounds_toArray, List.set_cons_zero, List.set_cons_succ, i64_w, i32_w]; rfl)
                                                  refine done_ (done_of HT_.out (by kernel_rfl)) ?_
                                                  try go_wp2
                                                  go_roundg k4
                                                  case measure => have := HJ8.out; have := HK2.out; have := HJ24.out; have := HK4.out; omega
                                                  case rel => exact ⟨(wrap64 (x14_4 + 1)), (by first | rfl | (simp; done) | (simp [*]; done)), H', ⟨by have := HJ8.out; have := HK2.out; have := HJ24.out; have := HK4.out; omega⟩, ⟨by (with_reducible repeat (first | apply Kd.S_alloc | apply Kd.S_drewN | apply Kd.S_drew)); exact HO_8.out⟩, ⟨by (with_reducible repeat (first | apply Kd.R_alloc | apply Kd.R_drewN | apply Kd.R_drew)); exact HO_9.out⟩, ⟨by (with_reducible repeat (first | apply Kd.S_alloc | apply Kd.S_drewN | apply Kd.S_drew)); exact HO_10.out⟩, ⟨by repeat (first | (with_reducible exact HR678_0.out) | (with_reducible refine Kd.C_alloc ?_ _) | (with_reducible refine Kd.C_drewN ?_ _) | (with_reducible refine Kd.C_drew ?_) | exact HR678_0.out)⟩, ⟨by repeat (first | (with_reducible first | exact HB.out | apply below_alloc | apply pw_below_drewN | apply below_drew1) | exact HB.out)⟩⟩
                                                · replace c56 := Bool.eq_false_iff.mpr c56
                                                  subst c56
                                                  have H1 : (some false) = some r := by rw [if_neg (show ¬ (false = true) by decide)] at H; exact H
                                                  clear H
                                                  have H := H1
                                                  clear H1
                                                  exact absurd ((Option.some.inj H).trans HTR_.out) (by decide)
                                              · replace c55 := Bool.eq_false_iff.mpr c55
                                                subst c55
                                                have H1 : (arboristlaw10_FillEdges.l1 k4 t664 t665 t668 t674 x12_2 (wrap64 (x14_4 + 1))) = some r := by rw [if_neg (show ¬ (false = true) by decide)] at H; exact H
                                                clear H
                                                have H := H1
                                                clear H1
                                                have H' := Aside0.mk H
                                                clear H
                                                try go_wp2
                                                (try (rw [drewN_self wr]; generalize hq_ : World.drewN wr _ = wr; have n0_ := Aside0.mk (Kd.S_at hq_ HO_8.out); have n1_ := Aside0.mk (Kd.R_at hq_ HO_9.out); have n2_ := Aside0.mk (Kd.S_at hq_ HO_10.out); have n3_ := Aside0.mk (Kd.C_below HR678_0.out (below_at hq_ (Below.refl _ _))); have n4_ := Aside0.mk (below_at hq_ HB.out); clear hq_ HO_8 HO_9 HO_10 HR678_0 HB; have HO_8 := n0_; have HO_9 := n1_; have HO_10 := n2_; have HR678_0 := n3_; have HB := n4_; clear n0_ n1_ n2_ n3_ n4_))
                                                have n0_ := Aside0.mk (Kd.S_drew HO_8.out)
                                                have n1_ := Aside0.mk (Kd.R_drew HO_9.out)
                                                have n2_ := Aside0.mk (Kd.S_drew HO_10.out)
                                                have n3_ := Aside0.mk (Kd.C_drew HR678_0.out)
                                                have n4_ := Aside0.mk (below_drew1 HB.out)
                                                clear HO_8
                                                clear HO_9
                                                clear HO_10
                                                clear HR678_0
                                                clear HB
                                                have HO_8 := n0_
                                                have HO_9 := n1_
                                                have HO_10 := n2_
                                                have HR678_0 := n3_
                                                have HB := n4_
                                                clear n0_ n1_ n2_ n3_ n4_
                                                have p691 : 0 ≤ (x12_2 : Int) := of_decide_eq_true (by first | (with_reducible assumption) | assumption)
                                                have q691 : x12_2 < (t674.length : Int) := of_decide_eq_true (by first | (with_reducible assumption) | assumption)
                                                obtain ⟨ad691, A691_0, c691_0, e691, hx691_0, hl691_0, hi691_0⟩ := at_L1 (Kd.S_reads' HO_10.out).2.2 x12_2 p691 q691
                                                obtain rfl : ad678 = ad691 := (by injection e691)
                                                obtain ⟨ce691, hce691, hMe691, hcc691⟩ := Kd.S_get HO_10.out [] x12_2 p691 (by first | exact q691 | exact of_decide_eq_true (by first | (with_reducible assumption) | assumption) | (have e_ := (Kd.S_reads' HO_10.out).1; omega))
                                                obtain ⟨ve691_0, rfl, ge691_0⟩ := hMe691
                                                have hv691_0 := hcc691 0 _ rfl
                                                rw [Nat.add_zero, show ((Kd.slice 3 (Kd.int .i64))).sz = 1 from rfl, Nat.mul_one] at hv691_0
                                                replace hv691_0 := Option.some.inj (hv691_0.symm.trans hx691_0)
                                                rw [hv691_0] at ge691_0
                                                have HL691_0 := Aside0.mk (show Kd.R (Kd.int .i64) 3 _ _ _ _ (rd_L1 t674 x12_2) from ge691_0)
                                                clear hv691_0 ge691_0
                                                clear hcc691 hce691
                                                have HR691_0 := Aside0.mk hi691_0
                                                have HC691_0 := Aside0.mk hl691_0
                                                clear hi691_0 hl691_0
                                                replace p691 := eq_true p691
                                                replace q691 := eq_true q691
                                                have p692 : 0 ≤ (x14_4 : Int) := of_decide_eq_true (by first | (with_reducible assumption) | assumption)
                                                have q692 : x14_4 < (t668.length : Int) := of_decide_eq_true (by first | (with_reducible assumption) | assumption)
                                                obtain ⟨ad692, e692, hx692_0⟩ := Kd.at_int (Kd.R_reads' HO_9.out).2.2 x14_4 p692 q692
                                                obtain rfl : ad679 = ad692 := (by injection e692)
                                                replace p692 := eq_true p692
                                                replace q692 := eq_true q692
                                                refine start_ (n := 10) (S := fun w' => w'.cell? (ad678.add (x12_2).toNat) = some (.slice A691_0 (rd_L1 t674 x12_2).length c691_0) ∧ w'.cell? (ad679.add (x14_4).toNat) = some (.int .i64 (rd t668 x14_4))) (ds := []) (bs 10 0) (by kernel_rfl) rfl rfl ⟨hx691_0, hx692_0⟩ (fun hHeld => ?_); refine with_tabW arboristlaw10_FillEdges.tab16 arboristlaw10_FillEdges.bits16 (fun HT_ HW_ => ?_)
                                                generalize wr.drew = w59 at HO_8 HO_9 HO_10 HR678_0 HB HL691_0 HR691_0 hx691_0 hx692_0 hHeld ⊢
                                                refine pure_ (i := 0) (N := some 85) (v := ?_) (a' := ?_) (bs 10 1) rfl rfl (any_of HT_.out (by kernel_rfl)) (fun _ _ _ h => h) (Or.inl ⟨by rfl, ?_⟩) ?_ ?_
                                                rotate_left; (intro w'; go_simp; with_reducible rfl); rotate_left; (simp only [Act.put, List.setIfInBounds_toArray, List.set_cons_zero, List.set_cons_succ, i64_w, i32_w]; rfl)
                                                refine pure_ (i := 1) (N := some 86) (v := ?_) (a' := ?_) (bs 10 3) rfl rfl (any_of HT_.out (by kernel_rfl)) (fun _ _ _ h => h) (Or.inl ⟨by rfl, ?_⟩) ?_ ?_
                                                rotate_left; (intro w'; go_simp; with_reducible rfl); rotate_left; (simp only [Act.put, List.setIfInBounds_toArray, List.set_cons_zero, List.set_cons_succ, i64_w, i32_w]; rfl)
                                                refine pure_ (i := 2) (N := some 87) (v := ?_) (a' := ?_) (bs 10 7) rfl rfl (any_of HT_.out (by kernel_rfl)) (fun _ _ _ h => h) (Or.inl ⟨by rfl, ?_⟩) ?_ ?_
                                                rotate_left; (intro w'; go_simp; with_reducible rfl); rotate_left; (simp only [Act.put, List.setIfInBounds_toArray, List.set_cons_zero, List.set_cons_succ, i64_w, i32_w]; rfl)
                                                refine pure_ (i := 4) (N := some 89) (v := ?_) (a' := ?_) (bs 10 23) rfl rfl (any_of HT_.out (by kernel_rfl)) (fun _ _ _ h => h) (Or.inl ⟨by rfl, ?_⟩) ?_ ?_
                                                rotate_left; (intro w'; go_simp; with_reducible rfl); rotate_left; (simp only [Act.put, List.setIfInBounds_toArray, List.set_cons_zero, List.set_cons_succ, i64_w, i32_w]; rfl)
                                                refine pure_ (i := 5) (N := some 90) (v := ?_) (a' := ?_) (bs 10 55) rfl rfl (any_of HT_.out (by kernel_rfl)) (fun _ _ _ h => h) (Or.inl ⟨by rfl, ?_⟩) ?_ ?_
                                                rotate_left; (intro w'; go_simp; with_reducible rfl); rotate_left; (simp only [Act.put, List.setIfInBounds_toArray, List.set_cons_zero, List.set_cons_succ, i64_w, i32_w]; rfl)
                                                refine pure_ (i := 6) (N := some 91) (v := ?_) (a' := ?_) (bs 10 119) rfl rfl (any_of HT_.out (by kernel_rfl)) (fun _ _ _ h => h) (Or.inl ⟨by rfl, ?_⟩) ?_ ?_
                                                rotate_left; (intro w'; go_simp; with_reducible rfl); rotate_left; (simp only [Act.put, List.setIfInBounds_toArray, List.set_cons_zero, List.set_cons_succ, i64_w, i32_w]; rfl)
                                                refine take_ (i := 3) (N := some 88) (v := ?_) (a' := ?_) (bs 10 127) rfl rfl (take_ofW HT_.out HW_.out (by kernel_rfl)) (fun _ _ _ h => h) (Or.inl ⟨by rfl, ?_⟩) hHeld ?_ ?_
                                                rotate_left
                                                · rintro w' ⟨s0, s1⟩
                                                  go_simp
                                                  with_reducible rfl
                                                rotate_left; (simp only [Act.put, List.setIfInBounds_toArray, List.set_cons_zero, List.set_cons_succ, i64_w, i32_w]; rfl)
                                                refine take_ (i := 7) (N := some 92) (v := ?_) (a' := ?_) (bs 10 255) rfl rfl (take_ofW HT_.out HW_.out (by kernel_rfl)) (fun _ _ _ h => h) (Or.inl ⟨by rfl, ?_⟩) hHeld ?_ ?_
                                                rotate_left
                                                · rintro w' ⟨s0, s1⟩
                                                  go_simp
                                                  with_reducible rfl
                                                rotate_left; (simp only [Act.put, List.setIfInBounds_toArray, List.set_cons_zero, List.set_cons_succ, i64_w, i32_w]; rfl)
                                                refine one_ (i := 8) (N := some 93) (bs 10 511) rfl rfl (one_of HT_.out (by kernel_rfl)) (by decide) (fun K hK => ?_)
                                                refine goes_ Tryd.func27 (by kernel_rfl) rfl #[.slice A691_0 (rd_L1 t674 x12_2).length c691_0, .int .i64 (rd t668 x14_4)] (by rfl) rfl rfl (by (try simp only [List.map_toArray, List.map_cons, List.map_nil]); first | done | rfl | (simp only [List.length_drop, List.length_take]; rfl)) ?_
                                                with_reducible refine (arboristref01_In.calls k4 _ _ (rd_L1 t674 x12_2) (rd t668 x14_4) t693 _ ?side1 ?side2 A48.out).mono ?_
                                                (case side1 => repeat (first | exact (by repeat (first | (with_reducible exact HR691_0.out) | (with_reducible refine Kd.C_alloc ?_ _) | (with_reducible refine Kd.C_drewN ?_ _) | (with_reducible refine Kd.C_drew ?_) | exact HR691_0.out)) | (with_reducible refine Kd.C_alloc ?_ _) | (with_reducible refine Kd.C_drewN ?_ _) | (with_reducible refine Kd.C_drew ?_)))
                                                (case side2 => exact HC691_0.out)
                                                rintro e w' ⟨rfl, ⟨nd, rfl⟩⟩
                                                refine ⟨_, rfl, ?_⟩
                                                refine hK.out _ _ ⟨hHeld.1, hHeld.2⟩ (fun hHeld => ?_)
                                                clear hK K
                                                refine norm_ (a' := ?_) ?_ ?_
                                                rotate_left
                                                · show Act.put _ (some 93) _ = _
                                                  simp only [Act.put, List.setIfInBounds_toArray, List.set_cons_zero, List.set_cons_succ, i64_w, i32_w]
                                                  rfl
                                                refine pure_ (i := 9) (N := some 15) (v := ?_) (a' := ?_) (bs 10 1023) rfl rfl (any_of HT_.out (by kernel_rfl)) (fun _ _ _ h => h) (Or.inl ⟨by rfl, ?_⟩) ?_ ?_
                                                rotate_left; (intro w'; go_simp; with_reducible rfl); rotate_left; (simp only [Act.put, List.setIfInBounds_toArray, List.set_cons_zero, List.set_cons_succ, i64_w, i32_w]; rfl)
                                                refine done_ (done_of HT_.out (by kernel_rfl)) ?_
                                                try go_wp2
                                                (try (rw [drewN_self w59]; generalize hq_ : World.drewN w59 _ = w59; have n0_ : Aside0 (Kd.R (Kd.int .i64) 3 w59 w.heap.size (fun k_ => some k_ ≠ (.slice (some ad678) t674.length co27 : Value).ownBlock ∧ some k_ ≠ (.slice (some ad679) t668.length co16 : Value).ownBlock) (.slice A691_0 (rd_L1 t674 x12_2).length c691_0) (rd_L1 t674 x12_2)) := ⟨by rw [← hq_]; exact (by (with_reducible repeat (first | apply Kd.R_alloc | apply Kd.R_drewN | apply Kd.R_drew)); exact Kd.R_mono HL691_0.out (fun _ hk => ⟨hk.2, hk.1⟩))⟩; have n1_ : Aside0 (Kd.S (Kd.slice 3 (Kd.int .i64)) 23 w59 w.heap.size (fun k_ => some k_ ≠ (.slice (some ad679) t668.length co16 : Value).ownBlock) (.slice (some ad678) t674.length co27) t674) := ⟨by rw [← hq_]; exact (by (with_reducible repeat (first | apply Kd.S_alloc | apply Kd.S_drewN | apply Kd.S_drew)); exact HO_10.out)⟩; have n2_ : Aside0 (Kd.S (Kd.slice 4 Kd.bool) 55 w59 w.heap.size (fun _ => True) (.slice Ao12 t665.length co12) t665) := ⟨by rw [← hq_]; exact (by (with_reducible repeat (first | apply Kd.S_alloc | apply Kd.S_drewN | apply Kd.S_drew)); exact HO_8.out)⟩; have n3_ : Aside0 (Kd.R (Kd.int .i64) 3 w59 w.heap.size (fun _ => True) (.slice (some ad679) t668.length co16) t668) := ⟨by rw [← hq_]; exact (by (with_reducible repeat (first | apply Kd.R_alloc | apply Kd.R_drewN | apply Kd.R_drew)); exact HO_9.out)⟩; have n4_ : Aside0 (Below w.heap.size w w59) := ⟨by rw [← hq_]; exact (by repeat (first | (with_reducible first | exact HB.out | apply below_alloc | apply pw_below_drewN | apply below_drew1) | exact HB.out))⟩; have n5_ : Aside0 (Kd.C (Kd.int .i64) w59 A678_0 (rd_L1 t674 x12_2).length (rd_L1 t674 x12_2)) := ⟨by rw [← hq_]; exact (by repeat (first | (with_reducible exact HR678_0.out) | (with_reducible refine Kd.C_alloc ?_ _) | (with_reducible refine Kd.C_drewN ?_ _) | (with_reducible refine Kd.C_drew ?_) | exact HR678_0.out))⟩; have n6_ : Aside0 (Kd.C (Kd.int .i64) w59 A691_0 (rd_L1 t674 x12_2).length (rd_L1 t674 x12_2)) := ⟨by rw [← hq_]; exact (by repeat (first | (with_reducible exact HR691_0.out) | (with_reducible refine Kd.C_alloc ?_ _) | (with_reducible refine Kd.C_drewN ?_ _) | (with_reducible refine Kd.C_drew ?_) | exact HR691_0.out))⟩; clear HL691_0 HO_10 HO_8 HO_9 HB HR678_0 HR691_0 hq_; have HL691_0 := n0_; have HO_10 := n1_; have HO_8 := n2_; have HO_9 := n3_; have HB := n4_; have HR678_0 := n5_; have HR691_0 := n6_; clear n0_ n1_ n2_ n3_ n4_ n5_ n6_))
                                                (try (rw [drewN_self w59]; generalize hq_ : World.drewN w59 _ = w59; have n0_ := Aside0.mk (Kd.S_at hq_ HO_8.out); have n1_ := Aside0.mk (Kd.R_at hq_ HO_9.out); have n2_ := Aside0.mk (Kd.S_at hq_ HO_10.out); have n3_ := Aside0.mk (Kd.R_at hq_ HL691_0.out); have n4_ := Aside0.mk (Kd.C_below HR678_0.out (below_at hq_ (Below.refl _ _))); have n5_ := Aside0.mk (Kd.C_below HR691_0.out (below_at hq_ (Below.refl _ _))); have n6_ := Aside0.mk (below_at hq_ HB.out); clear hq_ HO_8 HO_9 HO_10 HL691_0 HR678_0 HR691_0 HB; have HO_8 := n0_; have HO_9 := n1_; have HO_10 := n2_; have HL691_0 := n3_; have HR678_0 := n4_; have HR691_0 := n5_; have HB := n6_; clear n0_ n1_ n2_ n3_ n4_ n5_ n6_))
                                                have n0_ := Aside0.mk (Kd.S_drew HO_8.out)
                                                have n1_ := Aside0.mk (Kd.R_drew HO_9.out)
                                                have n2_ := Aside0.mk (Kd.S_drew HO_10.out)
                                                have n3_ := Aside0.mk (Kd.R_drew HL691_0.out)
                                                have n4_ := Aside0.mk (Kd.C_drew HR678_0.out)
                                                have n5_ := Aside0.mk (Kd.C_drew HR691_0.out)
                                                have n6_ := Aside0.mk (below_drew1 HB.out)
                                                clear HO_8
                                                clear HO_9
                                                clear HO_10
                                                clear HL691_0
                                                clear HR678_0
                                                clear HR691_0
                                                clear HB
                                                have HO_8 := n0_
                                                have HO_9 := n1_
                                                have HO_10 := n2_
                                                have HL691_0 := n3_
                                                have HR678_0 := n4_
                                                have HR691_0 := n5_
                                                have HB := n6_
                                                clear n0_ n1_ n2_ n3_ n4_ n5_ n6_
                                                have p694 : 0 ≤ (x12_2 : Int) := of_decide_eq_true (by first | (with_reducible assumption) | assumption)
                                                have q694 : x12_2 < (t668.length : Int) := of_decide_eq_true (by first | (with_reducible assumption) | assumption)
                                                obtain ⟨ad694, e694, hx694_0⟩ := Kd.at_int (Kd.R_reads' HO_9.out).2.2 x12_2 p694 q694
                                                obtain rfl : ad679 = ad694 := (by injection e694)
                                                replace p694 := eq_true p694
                                                replace q694 := eq_true q694
                                                have p695 : 0 ≤ ((rd t668 x12_2) : Int) := of_decide_eq_true (by first | (with_reducible assumption) | assumption)
                                                have q695 : (rd t668 x12_2) < (t665.length : Int) := of_decide_eq_true (by first | (with_reducible assumption) | assumption)
                                                obtain ⟨ad695, A695_0, c695_0, e695, hx695_0, hl695_0, hi695_0⟩ := at_L7 (Kd.S_reads' HO_8.out).2.2 (rd t668 x12_2) p695 q695
                                                cases e695
                                                obtain ⟨ce695, hce695, hMe695, hcc695⟩ := Kd.S_get HO_8.out [] (rd t668 x12_2) p695 (by first | exact q695 | exact of_decide_eq_true (by first | (with_reducible assumption) | assumption) | (have e_ := (Kd.S_reads' HO_8.out).1; omega))
                                                obtain ⟨ve695_0, rfl, ge695_0⟩ := hMe695
                                                have hv695_0 := hcc695 0 _ rfl
                                                rw [Nat.add_zero, show ((Kd.slice 4 Kd.bool)).sz = 1 from rfl, Nat.mul_one] at hv695_0
                                                replace hv695_0 := Option.some.inj (hv695_0.symm.trans hx695_0)
                                                rw [hv695_0] at ge695_0
                                                have HL695_0 := Aside0.mk (show Kd.R Kd.bool 4 _ _ _ _ (rd_L7 t665 (rd t668 x12_2)) from ge695_0)
                                                clear hv695_0 ge695_0
                                                clear hcc695 hce695
                                                have HR695_0 := Aside0.mk hi695_0
                                                have HC695_0 := Aside0.mk hl695_0
                                                clear hi695_0 hl695_0
                                                replace p695 := eq_true p695
                                                replace q695 := eq_true q695
                                                have p696 : 0 ≤ (x14_4 : Int) := of_decide_eq_true (by first | (with_reducible assumption) | assumption)
                                                have q696 : x14_4 < (t668.length : Int) := of_decide_eq_true (by first | (with_reducible assumption) | assumption)
                                                obtain ⟨ad696, e696, hx696_0⟩ := Kd.at_int (Kd.R_reads' HO_9.out).2.2 x14_4 p696 q696
                                                obtain rfl : ad679 = ad696 := (by injection e696)
                                                replace p696 := eq_true p696
                                                replace q696 := eq_true q696
                                                have p697 : 0 ≤ ((rd t668 x14_4) : Int) := of_decide_eq_true (by first | (with_reducible assumption) | assumption)
                                                have q697 : (rd t668 x14_4) < ((rd_L7 t665 (rd t668 x12_2)).length : Int) := of_decide_eq_true (by first | (with_reducible assumption) | assumption)
                                                obtain ⟨ad697, e697, hx697_0⟩ := Kd.at_bool (by repeat (first | (with_reducible exact HR695_0.out) | (with_reducible refine Kd.C_alloc ?_ _) | (with_reducible refine Kd.C_drewN ?_ _) | (with_reducible refine Kd.C_drew ?_) | exact HR695_0.out)) (rd t668 x14_4) p697 q697
                                                (try rw [← Nbq54.out] at hx697_0)
                                                cases e697
                                                replace p697 := eq_true p697
                                                replace q697 := eq_true q697
                                                refine start_ (n := 17) (S := fun w' => w'.cell? (ad679.add (x12_2).toNat) = some (.int .i64 (rd t668 x12_2)) ∧ w'.cell? (ad695.add ((rd t668 x12_2)).toNat) = some (.slice (some ad697) (rd_L7 t665 (rd t668 x12_2)).length c695_0) ∧ w'.cell? (ad679.add (x14_4).toNat) = some (.int .i64 (rd t668 x14_4)) ∧ w'.cell? (ad697.add ((rd t668 x14_4)).toNat) = some (.bool false)) (ds := []) (bs 17 0) (by kernel_rfl) rfl rfl ⟨hx694_0, hx695_0, hx696_0, hx697_0⟩ (fun hHeld => ?_); refine with_tabW arboristlaw10_FillEdges.tab17 arboristlaw10_FillEdges.bits17 (fun HT_ HW_ => ?_)
                                                generalize w59.drew = w60 at HO_8 HO_9 HO_10 HL691_0 HR678_0 HR691_0 HB HL695_0 HR695_0 hx694_0 hx695_0 hx696_0 hx697_0 hHeld ⊢
                                                refine pure_ (i := 0) (N := some 94) (v := ?_) (a' := ?_) (bs 17 1) rfl rfl (any_of HT_.out (by kernel_rfl)) (fun _ _ _ h => h) (Or.inl ⟨by rfl, ?_⟩) ?_ ?_
                                                rotate_left; (intro w'; go_simp; with_reducible rfl); rotate_left; (simp only [Act.put, List.setIfInBounds_toArray, List.set_cons_zero, List.set_cons_succ, i64_w, i32_w]; rfl)
                                                refine pure_ (i := 1) (N := some 95) (v := ?_) (a' := ?_) (bs 17 3) rfl rfl (any_of HT_.out (by kernel_rfl)) (fun _ _ _ h => h) (Or.inl ⟨by rfl, ?_⟩) ?_ ?_
                                                rotate_left; (intro w'; go_simp; with_reducible rfl); rotate_left; (simp only [Act.put, List.setIfInBounds_toArray, List.set_cons_zero, List.set_cons_succ, i64_w, i32_w]; rfl)
                                                refine pure_ (i := 2) (N := some 96) (v := ?_) (a' := ?_) (bs 17 7) rfl rfl (any_of HT_.out (by kernel_rfl)) (fun _ _ _ h => h) (Or.inl ⟨by rfl, ?_⟩) ?_ ?_
                                                rotate_left; (intro w'; go_simp; with_reducible rfl); rotate_left; (simp only [Act.put, List.setIfInBounds_toArray, List.set_cons_zero, List.set_cons_succ, i64_w, i32_w]; rfl)
                                                refine pure_ (i := 3) (N := some 97) (v := ?_) (a' := ?_) (bs 17 15) rfl rfl (any_of HT_.out (by kernel_rfl)) (fun _ _ _ h => h) (Or.inl ⟨by rfl, ?_⟩) ?_ ?_
                                                rotate_left; (intro w'; go_simp; with_reducible rfl); rotate_left; (simp only [Act.put, List.setIfInBounds_toArray, List.set_cons_zero, List.set_cons_succ, i64_w, i32_w]; rfl)
                                                refine pure_ (i := 7) (N := some 101) (v := ?_) (a' := ?_) (bs 17 143) rfl rfl (any_of HT_.out (by kernel_rfl)) (fun _ _ _ h => h) (Or.inl ⟨by rfl, ?_⟩) ?_ ?_
                                                rotate_left; (intro w'; go_simp; with_reducible rfl); rotate_left; (simp only [Act.put, List.setIfInBounds_toArray, List.set_cons_zero, List.set_cons_succ, i64_w, i32_w]; rfl)
                                                refine pure_ (i := 8) (N := some 102) (v := ?_) (a' := ?_) (bs 17 399) rfl rfl (any_of HT_.out (by kernel_rfl)) (fun _ _ _ h => h) (Or.inl ⟨by rfl, ?_⟩) ?_ ?_
                                                rotate_left; (intro w'; go_simp; with_reducible rfl); rotate_left; (simp only [Act.put, List.setIfInBounds_toArray, List.set_cons_zero, List.set_cons_succ, i64_w, i32_w]; rfl)
                                                refine pure_ (i := 9) (N := some 103) (v := ?_) (a' := ?_) (bs 17 911) rfl rfl (any_of HT_.out (by kernel_rfl)) (fun _ _ _ h => h) (Or.inl ⟨by rfl, ?_⟩) ?_ ?_
                                                rotate_left; (intro w'; go_simp; with_reducible rfl); rotate_left; (simp only [Act.put, List.setIfInBounds_toArray, List.set_cons_zero, List.set_cons_succ, i64_w, i32_w]; rfl)
                                                refine take_ (i := 4) (N := some 98) (v := ?_) (a' := ?_) (bs 17 927) rfl rfl (take_ofW HT_.out HW_.out (by kernel_rfl)) (fun _ _ _ h => h) (Or.inl ⟨by rfl, ?_⟩) hHeld ?_ ?_
                                                rotate_left
                                                · rintro w' ⟨s0, s1, s2, s3⟩
                                                  go_simp
                                                  with_reducible rfl
                                                rotate_left; (simp only [Act.put, List.setIfInBounds_toArray, List.set_cons_zero, List.set_cons_succ, i64_w, i32_w]; rfl)
                                                refine pure_ (i := 5) (N := some 99) (v := ?_) (a' := ?_) (bs 17 959) rfl rfl (any_of HT_.out (by kernel_rfl)) (fun _ _ _ h => h) (Or.inl ⟨by rfl, ?_⟩) ?_ ?_
                                                rotate_left; (intro w'; go_simp; with_reducible rfl); rotate_left; (simp only [Act.put, List.setIfInBounds_toArray, List.set_cons_zero, List.set_cons_succ, i64_w, i32_w]; rfl)
                                                refine take_ (i := 6) (N := some 100) (v := ?_) (a' := ?_) (bs 17 1023) rfl rfl (take_ofW HT_.out HW_.out (by kernel_rfl)) (fun _ _ _ h => h) (Or.inl ⟨by rfl, ?_⟩) hHeld ?_ ?_
                                                rotate_left
                                                · rintro w' ⟨s0, s1, s2, s3⟩
                                                  go_simp
                                                  with_reducible rfl
                                                rotate_left; (simp only [Act.put, List.setIfInBounds_toArray, List.set_cons_zero, List.set_cons_succ, i64_w, i32_w]; rfl)
                                                refine take_ (i := 10) (N := some 104) (v := ?_) (a' := ?_) (bs 17 2047) rfl rfl (take_ofW HT_.out HW_.out (by kernel_rfl)) (fun _ _ _ h => h) (Or.inl ⟨by rfl, ?_⟩) hHeld ?_ ?_
                                                rotate_left
                                                · rintro w' ⟨s0, s1, s2, s3⟩
                                                  go_simp
                                                  with_reducible rfl
                                                rotate_left; (simp only [Act.put, List.setIfInBounds_toArray, List.set_cons_zero, List.set_cons_succ, i64_w, i32_w]; rfl)
                                                refine pure_ (i := 11) (N := some 105) (v := ?_) (a' := ?_) (bs 17 4095) rfl rfl (any_of HT_.out (by kernel_rfl)) (fun _ _ _ h => h) (Or.inl ⟨by rfl, ?_⟩) ?_ ?_
                                                rotate_left; (intro w'; go_simp; with_reducible rfl); rotate_left; (simp only [Act.put, List.setIfInBounds_toArray, List.set_cons_zero, List.set_cons_succ, i64_w, i32_w]; rfl)
                                                refine take_ (i := 12) (N := some 106) (v := ?_) (a' := ?_) (bs 17 8191) rfl rfl (take_ofW HT_.out HW_.out (by kernel_rfl)) (fun _ _ _ h => h) (Or.inl ⟨by rfl, ?_⟩) hHeld ?_ ?_
                                                rotate_left
                                                · rintro w' ⟨s0, s1, s2, s3⟩
                                                  go_simp
                                                  with_reducible rfl
                                                rotate_left; (simp only [Act.put, List.setIfInBounds_toArray, List.set_cons_zero, List.set_cons_succ, i64_w, i32_w]; rfl)
                                                refine pure_ (i := 13) (N := some 107) (v := ?_) (a' := ?_) (bs 17 16383) rfl rfl (any_of HT_.out (by kernel_rfl)) (fun _ _ _ h => h) (Or.inl ⟨by rfl, ?_⟩) ?_ ?_
                                                rotate_left; (intro w'; go_simp; with_reducible rfl); rotate_left; (simp only [Act.put, List.setIfInBounds_toArray, List.set_cons_zero, List.set_cons_succ, i64_w, i32_w]; rfl)
                                                refine pure_ (i := 14) (N := some 108) (v := undef) (a' := ?_) (bs 17 32767) rfl rfl (any_of HT_.out (by kernel_rfl)) (fun _ _ _ h => h) (Or.inr ⟨by rfl, rfl⟩) ?_ ?_
                                                rotate_left; (simp only [Act.put, List.setIfInBounds_toArray, List.set_cons_zero, List.set_cons_succ, i64_w, i32_w]; rfl)
                                                refine pure_ (i := 15) (N := some 109) (v := undef) (a' := ?_) (bs 17 65535) rfl rfl (any_of HT_.out (by kernel_rfl)) (fun _ _ _ h => h) (Or.inr ⟨by rfl, rfl⟩) ?_ ?_
                                                rotate_left; (simp only [Act.put, List.setIfInBounds_toArray, List.set_cons_zero, List.set_cons_succ, i64_w, i32_w]; rfl)
                                                refine pure_ (i := 16) (N := some 110) (v := ?_) (a' := ?_) (bs 17 131071) rfl rfl (any_of HT_.out (by kernel_rfl)) (fun _ _ _ h => h) (Or.inl ⟨by rfl, ?_⟩) ?_ ?_
                                                rotate_left; (intro w'; go_simp; with_reducible rfl); rotate_left; (simp only [Act.put, List.setIfInBounds_toArray, List.set_cons_zero, List.set_cons_succ, i64_w, i32_w]; rfl)
                                                refine done_ (done_of HT_.out (by kernel_rfl)) ?_
                                                try go_wp2
                                                go_roundg k4
                                                case measure => have := HJ8.out; have := HK2.out; have := HJ24.out; have := HK4.out; omega
                                                case rel => exact ⟨(wrap64 (x14_4 + 1)), (by first | rfl | (simp; done) | (simp [*]; done)), H', ⟨by have := HJ8.out; have := HK2.out; have := HJ24.out; have := HK4.out; omega⟩, ⟨by (with_reducible repeat (first | apply Kd.S_alloc | apply Kd.S_drewN | apply Kd.S_drew)); exact HO_8.out⟩, ⟨by (with_reducible repeat (first | apply Kd.R_alloc | apply Kd.R_drewN | apply Kd.R_drew)); exact HO_9.out⟩, ⟨by (with_reducible repeat (first | apply Kd.S_alloc | apply Kd.S_drewN | apply Kd.S_drew)); exact HO_10.out⟩, ⟨by repeat (first | (with_reducible exact HR678_0.out) | (with_reducible refine Kd.C_alloc ?_ _) | (with_reducible refine Kd.C_drewN ?_ _) | (with_reducible refine Kd.C_drew ?_) | exact HR678_0.out)⟩, ⟨by repeat (first | (with_reducible first | exact HB.out | apply below_alloc | apply pw_below_drewN | apply below_drew1) | exact HB.out)⟩⟩
                                            · rw [if_neg c53] at H
                                              exact absurd H (by simp)
                                          · rw [if_neg c52] at H
                                            exact absurd H (by simp)
                                        · rw [if_neg c51] at H
                                          exact absurd H (by simp)
                                      · rw [if_neg c50] at H
                                        exact absurd H (by simp)
                                    · rw [if_neg c49] at H
                                      exact absurd H (by simp)
                                  · rw [if_neg c47] at H
                                    exact absurd H (by simp)
                                · rw [if_neg c46] at H
                                  exact absurd H (by simp)
                              · rw [if_neg c45] at H
                                exact absurd H (by simp)
                            · rw [if_neg c44] at H
                              have c44b0 : decide (x14_4 < (t668.length : Int)) = false := decide_eq_false c44
                              clear c44
                              have H' := Aside0.mk H
                              clear H
                              go_wp2
                              go_roundg k4
                              case measure => have := HJ8.out; have := HK2.out; have := HJ24.out; have := HK4.out; omega
                              case rel => exact ⟨(wrap64 (x12_2 + 1)), (by first | rfl | (simp; done) | (simp [*]; done)), H', ⟨by have := HJ8.out; have := HK2.out; have := HJ24.out; have := HK4.out; omega⟩, ⟨by (with_reducible repeat (first | apply Kd.S_alloc | apply Kd.S_drewN | apply Kd.S_drew)); exact HO_8.out⟩, ⟨by (with_reducible repeat (first | apply Kd.R_alloc | apply Kd.R_drewN | apply Kd.R_drew)); exact HO_9.out⟩, ⟨by (with_reducible repeat (first | apply Kd.S_alloc | apply Kd.S_drewN | apply Kd.S_drew)); exact HO_10.out⟩, ⟨by repeat (first | (with_reducible first | exact HB.out | apply below_alloc | apply pw_below_drewN | apply below_drew1) | exact HB.out)⟩⟩
                · rw [if_neg c23] at H
                  exact absurd H (by simp)
              · rw [if_neg c22] at H
                exact absurd H (by simp)
            · rw [if_neg c21] at H
              have c21b0 : decide (x12_2 < (t668.length : Int)) = false := decide_eq_false c21
              clear c21
              obtain rfl := Option.some.inj H
              go_wp2
              go_ret
              exact ⟨by first | rfl | (simp [errW_none, errW_some] <;> rfl) | (simp [*, errW_none, errW_some] <;> rfl), by repeat (first | (with_reducible first | exact HB.out | apply below_alloc | apply pw_below_drewN | apply below_drew1) | exact HB.out)⟩

/-- THE ONE PURE STATEMENT of arboristlaw10_FillEdges. -/
def arboristlaw10_FillEdges.Pure : Prop := ∀ (a0 : Int) (l1 : List (List Int)) (l2 : List Int), (Lit.int .i64 a0).wf = true → (l1.length ≤ maxLen ∧ ∀ z0 ∈ l1, (z0.length ≤ maxLen ∧ ∀ z1 ∈ z0, (Lit.int .i64 z1).wf = true)) → (l2.length ≤ maxLen ∧ ∀ z0 ∈ l2, (Lit.int .i64 z0).wf = true) → ∃ k, arboristlaw10_FillEdges.f k a0 l1 l2 = some true

end Go.Proofs.YtopjffgmpphdbaaDoor.Pr
